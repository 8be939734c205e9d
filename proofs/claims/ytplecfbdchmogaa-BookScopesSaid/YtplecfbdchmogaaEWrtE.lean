/- Programs that are written: rows, constructors, orders, primitives, entries (book). -/
import Derived.Test.YtplecfbdchmogaaEWrt
import Derived.Test.YtplecfbdchmogaaESameB
namespace Go.Proofs.Ytplecfbdchmogaa
open Go.Lib (hid)
set_option maxHeartbeats 4000000
set_option maxRecDepth 100000
set_option linter.unusedVariables false
set_option linter.unusedSimpArgs false
open Go.RowKit
theorem seqF {α : Type} (df : α) (e : α → List Nat) (bs : List Nat) (ls : List α) : ∃ F : Nat → List Nat, F 0 = bs ++ formL ls.length ∧ (∀ k, k < ls.length → F (k + 1) = F k ++ e (ls.getD k df)) ∧ F ls.length = bs ++ (formL ls.length ++ ls.flatMap e) ∧ ∀ k, (F k).length ≤ (F ls.length).length := by
 refine ⟨fun k => bs ++ (formL ls.length ++ (ls.take k).flatMap e), by simp, fun k hk => ?_, by simp, fun k => ?_⟩
 · simp only
   rw [List.take_succ_eq_append_getElem hk, List.flatMap_append, List.getD_eq_getElem?_getD, List.getElem?_eq_getElem hk]
   simp
 simp only [List.length_append, List.take_length]
 have h : ((ls.take k).flatMap e).length ≤ (ls.flatMap e).length := by
  conv => rhs; rw [← List.take_append_drop k ls, List.flatMap_append, List.length_append]
  omega
 omega
theorem ints_new (w : World) (z : Int) {z' : Int} (h : z = z') : IntsR (· < (w.alloc (.cells #[.int .i64 z] 3)).heap.size) (w.alloc (.cells #[.int .i64 z] 3)) (some ⟨w.heap.size, 0, none⟩) 1 1 [z'] := by
 subst h
 refine ⟨rfl, by decide, fun _ => ⟨w.heap.size, 0, rfl, by simp, fun k hk => ?_⟩⟩
 obtain rfl : k = 0 := by omega
 exact (Blk.new w 3 #[.int .i64 z]).cell 0
theorem eachT_any {w0 w : World} {g m d : Nat} {bs : List Nat} {B : Option Addr} {ls : List (List Nd)} (h : WrS w0 g bs w) (hd : RowsV w0 B m d ls) (hw : ∀ t ∈ ls, rowW t) (hm : m ≤ 1000000) (hl : (bs ++ (formL ls.length ++ ls.flatMap rowBs)).length ≤ 4500000000000) :
 Calls Try.prog 95 #[.pointer (some ⟨g, 0, none⟩), .slice B m d, .func (.func 29) #[.pointer (some ⟨g, 0, none⟩)] #[]] w (WrP w0 g (bs ++ (formL ls.length ++ ls.flatMap rowBs)) w) := by
 have hen : ∀ args w, (callFunc 29 args).run Try.prog w = .ok (.enter 29 args) w := fun _ _ => by kernel_rfl
 have hml := hd.len
 obtain ⟨F, h0, h1, h2, h3⟩ := seqF [] rowBs bs ls
 rw [← h2] at hl ⊢
 have HF0 := hid h0
 have HF1 := hid h1
 have HF3 := hid (fun k => Nat.le_trans (h3 k) hl)
 have hnum := wnum_any (zs := [(ls.length : Int)]) (h.below (below_alloc w (.cells #[.int .i64 (m : Int)] 3))) (ints_new w (m : Int) (by rw [hml])) (fun z hz => by
  rw [List.mem_singleton] at hz
  subst hz
  exact ⟨by omega, by omega⟩) (by have e1 := h3 0; have e2 := hl; rw [h0, List.length_append] at e1; omega) (by decide) (d := 1)
 rw [show formsL [(ls.length : Int)] = formL ls.length from by simp [formsL], ← h0] at hnum
 have HN := hid hnum
 have HD := hid hd
 have HWF := hid hw
 have HML := hid hml
 have HBA := hid (below_alloc w (.cells #[.int .i64 (m : Int)] 3))
 rw [hml]
 clear h0 h1 h2 h3 hl hnum hd hw hml h
 go_in
 go_wp2_with fail
 refine (HN.out).mono ?_
 rintro e w1 ⟨rfl, hm1, hs1⟩
 have HM1 := hid (Moved.trans (row := none) (row' := none) (Moved.of_below (S := fun q => q = g) HBA.out) hm1 (fun _ e => by cases e))
 have HS1 := hid hs1
 clear hm1 hs1
 go_wp2_with fail
 go_loopw [15] (fun iv wr => ∃ k : Nat, iv = .int .i64 (k : Int) ∧ k ≤ m ∧ Hid (WrS w0 g (F k) wr) ∧ Hid (Moved (fun q => q = g) none w wr)) (fun iv _ => m - (intOf iv).toNat)
 case atStart => exact ⟨0, rfl, Nat.zero_le _, HS1, HM1⟩
 case round =>
  obtain ⟨k, rfl, hk, HS2, HM2⟩ := hrel
  by_cases hlt : k < m
  rotate_left
  · have hkm : k = m := by omega
    have d1 : decide ((k : Int) < (m : Int)) = false := decide_eq_false (by omega)
    have d2 : decide (k < m) = false := decide_eq_false hlt
    have HE : Hid (WrS w0 g (F m) wr) := hid (hkm ▸ HS2.out)
    clear hkm
    go_wp2_with fail
    exact bodyPost_end (results_none rfl _ _ _) rfl ⟨rfl, HM2.out, HE.out⟩
  have d1 : decide ((k : Int) < (m : Int)) = true := decide_eq_true (by omega)
  have d2 : decide (k < m) = true := decide_eq_true hlt
  have hkl : k < ls.length := by rw [HML.out]; exact hlt
  have HW1 := hid (HWF.out (ls.getD k []) (by rw [List.getD_eq_getElem?_getD, List.getElem?_eq_getElem hkl]; exact List.getElem_mem hkl))
  have HFK := hid (HF1.out k hkl)
  have HFL := HF3.out k
  obtain ⟨b, off, A', n', c', e, hlb, hcell0, ht0⟩ := HD.out.at_ hlt
  subst e
  have hcell := (HS2.out.bel.cell (p := ⟨b, off + k, none⟩) hlb).trans hcell0
  have ht := ht0.below HS2.out.bel
  clear hcell0 ht0
  obtain ⟨x, hx⟩ : ∃ x, x = ls.getD k [] := ⟨_, rfl⟩
  rw [← hx] at ht HW1 HFK
  clear hx hkl
  have HC := hid (wrow_any HS2.out ht HW1.out HFL)
  clear ht
  go_wp2_with fail
  first
   | refine (HC.out).mono ?_
   | (simp only [Array.empty_append, Array.append_empty]; refine (HC.out).mono ?_)
   | (show Calls _ _ #[.pointer (some ⟨g, 0, none⟩), .slice A' n' c'] _ _; refine (HC.out).mono ?_)
  rintro e w3 ⟨rfl, hm3, hs3⟩
  have HM3 := hid (HM2.out.trans (row' := none) hm3 (fun _ e => by cases e))
  have HS3 := hid hs3
  clear hm3 hs3
  go_wp2_with fail
  go_roundw
  case rel => exact ⟨k + 1, by go_num, by omega, by rw [HFK.out]; exact HS3, HM3⟩
  case measure => simp [intOf]; omega
theorem wrows_any {w0 w : World} {g m d : Nat} {bs : List Nat} {B : Option Addr} {ls : List (List Nd)} (h : WrS w0 g bs w) (hd : RowsV w0 B m d ls) (hw : rowsW ls) (hl : (bs ++ rowsBs ls).length ≤ 4500000000000) :
 Calls Try.prog 61 #[.pointer (some ⟨g, 0, none⟩), .slice B m d] w (WrP w0 g (bs ++ rowsBs ls) w) := by
 have hm : m ≤ 1000000 := by have := hw.1; have := hd.len; omega
 have HC := hid (eachT_any h hd hw.2 hm hl)
 have hmf : ∀ (fn : Fn) (first cap : Array Value) (w : World), (Instr.makeFunc fn first cap).run Try.prog w = .ok (.func fn first cap) w := fun _ _ _ _ => rfl
 clear h hd hw hl
 go_in
 go_wp2_with fail
 refine (HC.out).mono ?_
 rintro e w1 ⟨rfl, hm1, hs1⟩
 have HM1 := hid hm1
 have HS1 := hid hs1
 clear hm1 hs1
 go_wp2_with fail
 exact bodyPost_end (results_none rfl _ _ _) rfl ⟨rfl, HM1.out, HS1.out⟩
theorem len_app {a b c : List Nat} {n : Nat} (h : (a ++ (b ++ c)).length ≤ n) : (a ++ b).length ≤ n ∧ ((a ++ b) ++ c).length ≤ n ∧ a.length ≤ n := by
 simp only [List.length_append] at h ⊢
 omega
theorem wctor_any {w0 w : World} {g : Nat} {bs : List Nat} {A1 A2 : Option Addr} {n1 c1 n2 c2 : Nat} {c : Ct} (h : WrS w0 g bs w) (h1 : RowsV w0 A1 n1 c1 c.args) (h2 : RowsV w0 A2 n2 c2 c.outs) (hw : ctorW c) (hl : (bs ++ ctorBs c).length ≤ 4500000000000) :
 Calls Try.prog 63 #[.pointer (some ⟨g, 0, none⟩), .agg #[.slice A1 n1 c1, .slice A2 n2 c2]] w (WrP w0 g (bs ++ ctorBs c) w) := by
 obtain ⟨l1, l2, _⟩ := len_app (b := rowsBs c.args) (c := rowsBs c.outs) hl
 have HL1 := hid l1
 have HL2 := hid l2
 have HD1 := hid h1
 have HD2 := hid h2
 have HW := hid hw
 have HE : Hid (bs ++ ctorBs c = (bs ++ rowsBs c.args) ++ rowsBs c.outs) := hid (by rw [List.append_assoc]; rfl)
 have hba := below_alloc w (.cells #[.slice A1 n1 c1, .slice A2 n2 c2] 54)
 have HS0 := hid (h.below hba)
 have HM0 := hid (Moved.of_below (S := fun q => q = g) (row := none) hba)
 have HK0 := hid (Blk.new w 54 #[.slice A1 n1 c1, .slice A2 n2 c2])
 have HNE : Hid (¬ (w.heap.size = g)) := hid (by have := h.lt; omega)
 have z0 := HK0.out.cell
 clear hba
 rw [HE.out]
 clear l1 l2 h1 h2 hw hl h
 go_in
 go_wp2_with fail
 refine (wrows_any HS0.out HD1.out HW.out.1 HL1.out).mono ?_
 rintro e1 w1 ⟨rfl, hm1, hs1⟩
 have HM1 := hid (HM0.out.trans (row' := none) hm1 (fun _ e => by cases e))
 have HS1 := hid hs1
 have HK1 := hid (HK0.out.moved hm1 HNE.out (by simp))
 clear z0
 have z1 := HK1.out.cell
 clear hm1 hs1
 go_wp2_with fail
 refine (wrows_any HS1.out HD2.out HW.out.2 HL2.out).mono ?_
 rintro e2 w2 ⟨rfl, hm2, hs2⟩
 have HM2 := hid (HM1.out.trans (row' := none) hm2 (fun _ e => by cases e))
 have HS2 := hid hs2
 have HK2 := hid (HK1.out.moved hm2 HNE.out (by simp))
 clear z1
 have z2 := HK2.out.cell
 clear hm2 hs2
 go_wp2_with fail
 exact bodyPost_end (results_none rfl _ _ _) rfl ⟨rfl, HM2.out, HS2.out⟩
theorem eachC_any {w0 w : World} {g m d : Nat} {bs : List Nat} {B : Option Addr} {ls : List Ct} (h : WrS w0 g bs w) (hd : CtsV w0 B m d ls) (hw : ∀ t ∈ ls, ctorW t) (hm : m ≤ 1000000) (hl : (bs ++ (formL ls.length ++ ls.flatMap ctorBs)).length ≤ 4500000000000) :
 Calls Try.prog 62 #[.pointer (some ⟨g, 0, none⟩), .slice B m d, .func (.func 63) #[.pointer (some ⟨g, 0, none⟩)] #[]] w (WrP w0 g (bs ++ (formL ls.length ++ ls.flatMap ctorBs)) w) := by
 have hen : ∀ args w, (callFunc 63 args).run Try.prog w = .ok (.enter 63 args) w := fun _ _ => by kernel_rfl
 have hml := hd.len
 obtain ⟨F, h0, h1, h2, h3⟩ := seqF (default : Ct) ctorBs bs ls
 rw [← h2] at hl ⊢
 have HF0 := hid h0
 have HF1 := hid h1
 have HF3 := hid (fun k => Nat.le_trans (h3 k) hl)
 have hnum := wnum_any (zs := [(ls.length : Int)]) (h.below (below_alloc w (.cells #[.int .i64 (m : Int)] 3))) (ints_new w (m : Int) (by rw [hml])) (fun z hz => by
  rw [List.mem_singleton] at hz
  subst hz
  exact ⟨by omega, by omega⟩) (by have e1 := h3 0; have e2 := hl; rw [h0, List.length_append] at e1; omega) (by decide) (d := 1)
 rw [show formsL [(ls.length : Int)] = formL ls.length from by simp [formsL], ← h0] at hnum
 have HN := hid hnum
 have HD := hid hd
 have HWF := hid hw
 have HML := hid hml
 have HBA := hid (below_alloc w (.cells #[.int .i64 (m : Int)] 3))
 rw [hml]
 clear h0 h1 h2 h3 hl hnum hd hw hml h
 go_in
 go_wp2_with fail
 refine (HN.out).mono ?_
 rintro e w1 ⟨rfl, hm1, hs1⟩
 have HM1 := hid (Moved.trans (row := none) (row' := none) (Moved.of_below (S := fun q => q = g) HBA.out) hm1 (fun _ e => by cases e))
 have HS1 := hid hs1
 clear hm1 hs1
 go_wp2_with fail
 go_loopw [15] (fun iv wr => ∃ k : Nat, iv = .int .i64 (k : Int) ∧ k ≤ m ∧ Hid (WrS w0 g (F k) wr) ∧ Hid (Moved (fun q => q = g) none w wr)) (fun iv _ => m - (intOf iv).toNat)
 case atStart => exact ⟨0, rfl, Nat.zero_le _, HS1, HM1⟩
 case round =>
  obtain ⟨k, rfl, hk, HS2, HM2⟩ := hrel
  by_cases hlt : k < m
  rotate_left
  · have hkm : k = m := by omega
    have d1 : decide ((k : Int) < (m : Int)) = false := decide_eq_false (by omega)
    have d2 : decide (k < m) = false := decide_eq_false hlt
    have HE : Hid (WrS w0 g (F m) wr) := hid (hkm ▸ HS2.out)
    clear hkm
    go_wp2_with fail
    exact bodyPost_end (results_none rfl _ _ _) rfl ⟨rfl, HM2.out, HE.out⟩
  have d1 : decide ((k : Int) < (m : Int)) = true := decide_eq_true (by omega)
  have d2 : decide (k < m) = true := decide_eq_true hlt
  have hkl : k < ls.length := by rw [HML.out]; exact hlt
  have HW1 := hid (HWF.out (ls.getD k (default : Ct)) (by rw [List.getD_eq_getElem?_getD, List.getElem?_eq_getElem hkl]; exact List.getElem_mem hkl))
  have HFK := hid (HF1.out k hkl)
  have HFL := HF3.out k
  obtain ⟨b, off, e, hlb, A1, n1, c1, A2, n2, c2, hc0, hc1, h1, h2⟩ := HD.out.both hlt
  subst e
  have hcell0 := (HS2.out.bel.cell (p := ⟨b, off + k * 2, none⟩) hlb).trans hc0
  have hcell1 := (HS2.out.bel.cell (p := ⟨b, off + k * 2 + 1, none⟩) hlb).trans hc1
  clear hc0 hc1
  obtain ⟨x, hx⟩ : ∃ x, x = ls.getD k (default : Ct) := ⟨_, rfl⟩
  rw [← hx] at h1 h2 HW1 HFK
  clear hx hkl
  have HBX := hid (below_alloc wr (.cells #[.slice A1 n1 c1, .slice A2 n2 c2] 54))
  have HC := hid (wctor_any (HS2.out.below HBX.out) h1 h2 HW1.out (by rw [← HFK.out]; exact HF3.out _))
  clear h1 h2
  go_wp2_with fail
  first
   | refine (HC.out).mono ?_
   | (simp only [Array.empty_append, Array.append_empty]; refine (HC.out).mono ?_)
   | (show Calls _ _ #[.pointer (some ⟨g, 0, none⟩), .agg #[.slice A1 n1 c1, .slice A2 n2 c2]] _ _; refine (HC.out).mono ?_)
  rintro e w3 ⟨rfl, hm3, hs3⟩
  have HM3 := hid (HM2.out.trans (row' := none) (Moved.trans (row := none) (row' := none) (Moved.of_below (S := fun q => q = g) HBX.out) hm3 (fun _ e => by cases e)) (fun _ e => by cases e))
  have HS3 := hid hs3
  clear hm3 hs3
  go_wp2_with fail
  go_roundw
  case rel => exact ⟨k + 1, by go_num, by omega, by rw [HFK.out]; exact HS3, HM3⟩
  case measure => simp [intOf]; omega
theorem ints_two (w : World) {g : Nat} (hg : g = w.heap.size) (y z : Int) : IntsR (· < (w.alloc (.cells #[.int .i64 y, .int .i64 z] 3)).heap.size) (w.alloc (.cells #[.int .i64 y, .int .i64 z] 3)) (some ⟨g, 0, none⟩) 2 2 [y, z] := by
 subst hg
 refine ⟨rfl, by decide, fun _ => ⟨w.heap.size, 0, rfl, by simp, fun k hk => ?_⟩⟩
 have hb := (Blk.new w 3 #[.int .i64 y, .int .i64 z]).cell
 have hk2 : k = 0 ∨ k = 1 := by omega
 rcases hk2 with rfl | rfl
 · exact hb 0
 exact hb 1
theorem wprim_any {w0 w : World} {g : Nat} {bs : List Nat} {y z : Int} (h : WrS w0 g bs w) (hw : primW (y, z)) (hl : bs.length ≤ 4500000000000) :
 Calls Try.prog 28 #[.pointer (some ⟨g, 0, none⟩), .agg #[.int .i64 y, .int .i64 z]] w (WrP w0 g (bs ++ primBs (y, z)) w) := by
 have hba := below_alloc w (.cells #[.int .i64 y, .int .i64 z] 76)
 have hbb := below_alloc (w.alloc (.cells #[.int .i64 y, .int .i64 z] 76)) (.cells #[.int .i64 y, .int .i64 z] 3)
 have hb2 := hba.trans (hbb.mono hba.size)
 have hn := wnum_any (h.below hb2) (ints_two (g := w.heap.size + 1) (w.alloc (.cells #[.int .i64 y, .int .i64 z] 76)) (by simp) y z) (fun q hq => by
  obtain ⟨⟨a1, a2⟩, a3, a4⟩ := hw
  simp only at a1 a2 a3 a4
  simp only [List.mem_cons, List.not_mem_nil, or_false] at hq
  rcases hq with rfl | rfl <;> omega) hl (by decide)
 rw [show formsL [y, z] = primBs (y, z) from by simp [formsL, primBs]] at hn
 have HN := hid hn
 have HB := hid hb2
 clear hn hb2 hba hbb hw hl h
 go_in
 go_wp2_with fail
 refine (HN.out).mono ?_
 rintro e w1 ⟨rfl, hm1, hs1⟩
 have HM1 := hid (Moved.trans (row := none) (row' := none) (Moved.of_below (S := fun q => q = g) HB.out) hm1 (fun _ e => by cases e))
 have HS1 := hid hs1
 clear hm1 hs1
 go_wp2_with fail
 exact bodyPost_end (results_none rfl _ _ _) rfl ⟨rfl, HM1.out, HS1.out⟩
theorem eachP_any {w0 w : World} {g m d : Nat} {bs : List Nat} {B : Option Addr} {ls : List (Int × Int)} (h : WrS w0 g bs w) (hd : PrsV w0 B m d ls) (hw : ∀ t ∈ ls, primW t) (hm : m ≤ 1000000) (hl : (bs ++ (formL ls.length ++ ls.flatMap primBs)).length ≤ 4500000000000) :
 Calls Try.prog 27 #[.pointer (some ⟨g, 0, none⟩), .slice B m d, .func (.func 28) #[.pointer (some ⟨g, 0, none⟩)] #[]] w (WrP w0 g (bs ++ (formL ls.length ++ ls.flatMap primBs)) w) := by
 have hen : ∀ args w, (callFunc 28 args).run Try.prog w = .ok (.enter 28 args) w := fun _ _ => by kernel_rfl
 have hml := hd.len
 obtain ⟨F, h0, h1, h2, h3⟩ := seqF ((0, 0) : Int × Int) primBs bs ls
 rw [← h2] at hl ⊢
 have HF0 := hid h0
 have HF1 := hid h1
 have HF3 := hid (fun k => Nat.le_trans (h3 k) hl)
 have hnum := wnum_any (zs := [(ls.length : Int)]) (h.below (below_alloc w (.cells #[.int .i64 (m : Int)] 3))) (ints_new w (m : Int) (by rw [hml])) (fun z hz => by
  rw [List.mem_singleton] at hz
  subst hz
  exact ⟨by omega, by omega⟩) (by have e1 := h3 0; have e2 := hl; rw [h0, List.length_append] at e1; omega) (by decide) (d := 1)
 rw [show formsL [(ls.length : Int)] = formL ls.length from by simp [formsL], ← h0] at hnum
 have HN := hid hnum
 have HD := hid hd
 have HWF := hid hw
 have HML := hid hml
 have HBA := hid (below_alloc w (.cells #[.int .i64 (m : Int)] 3))
 rw [hml]
 clear h0 h1 h2 h3 hl hnum hd hw hml h
 go_in
 go_wp2_with fail
 refine (HN.out).mono ?_
 rintro e w1 ⟨rfl, hm1, hs1⟩
 have HM1 := hid (Moved.trans (row := none) (row' := none) (Moved.of_below (S := fun q => q = g) HBA.out) hm1 (fun _ e => by cases e))
 have HS1 := hid hs1
 clear hm1 hs1
 go_wp2_with fail
 go_loopw [15] (fun iv wr => ∃ k : Nat, iv = .int .i64 (k : Int) ∧ k ≤ m ∧ Hid (WrS w0 g (F k) wr) ∧ Hid (Moved (fun q => q = g) none w wr)) (fun iv _ => m - (intOf iv).toNat)
 case atStart => exact ⟨0, rfl, Nat.zero_le _, HS1, HM1⟩
 case round =>
  obtain ⟨k, rfl, hk, HS2, HM2⟩ := hrel
  by_cases hlt : k < m
  rotate_left
  · have hkm : k = m := by omega
    have d1 : decide ((k : Int) < (m : Int)) = false := decide_eq_false (by omega)
    have d2 : decide (k < m) = false := decide_eq_false hlt
    have HE : Hid (WrS w0 g (F m) wr) := hid (hkm ▸ HS2.out)
    clear hkm
    go_wp2_with fail
    exact bodyPost_end (results_none rfl _ _ _) rfl ⟨rfl, HM2.out, HE.out⟩
  have d1 : decide ((k : Int) < (m : Int)) = true := decide_eq_true (by omega)
  have d2 : decide (k < m) = true := decide_eq_true hlt
  have hkl : k < ls.length := by rw [HML.out]; exact hlt
  have HW1 := hid (HWF.out (ls.getD k ((0, 0) : Int × Int)) (by rw [List.getD_eq_getElem?_getD, List.getElem?_eq_getElem hkl]; exact List.getElem_mem hkl))
  have HFK := hid (HF1.out k hkl)
  have HFL := HF3.out k
  obtain ⟨b, off, e, hlb, hm9⟩ := HD.out.mem (by omega)
  subst e
  obtain ⟨hc0, hc1⟩ := hm9 k hlt
  have hcell0 := (HS2.out.bel.cell (p := ⟨b, off + k * 2, none⟩) hlb).trans hc0
  have hcell1 := (HS2.out.bel.cell (p := ⟨b, off + k * 2 + 1, none⟩) hlb).trans hc1
  clear hc0 hc1 hm9
  obtain ⟨x, hx⟩ : ∃ x, x = ls.getD k ((0, 0) : Int × Int) := ⟨_, rfl⟩
  rw [← hx] at hcell0 hcell1 HW1 HFK
  clear hx hkl
  obtain ⟨y, z⟩ := x
  simp only at hcell0 hcell1
  have HBX := hid (below_alloc wr (.cells #[.int .i64 y, .int .i64 z] 76))
  have HC := hid (wprim_any (HS2.out.below HBX.out) HW1.out HFL)
  go_wp2_with fail
  first
   | refine (HC.out).mono ?_
   | (simp only [Array.empty_append, Array.append_empty]; refine (HC.out).mono ?_)
   | (show Calls _ _ #[.pointer (some ⟨g, 0, none⟩), .agg #[.int .i64 y, .int .i64 z]] _ _; refine (HC.out).mono ?_)
  rintro e w3 ⟨rfl, hm3, hs3⟩
  have HM3 := hid (HM2.out.trans (row' := none) (Moved.trans (row := none) (row' := none) (Moved.of_below (S := fun q => q = g) HBX.out) hm3 (fun _ e => by cases e)) (fun _ e => by cases e))
  have HS3 := hid hs3
  clear hm3 hs3
  go_wp2_with fail
  go_roundw
  case rel => exact ⟨k + 1, by go_num, by omega, by rw [HFK.out]; exact HS3, HM3⟩
  case measure => simp [intOf]; omega
end Go.Proofs.Ytplecfbdchmogaa
