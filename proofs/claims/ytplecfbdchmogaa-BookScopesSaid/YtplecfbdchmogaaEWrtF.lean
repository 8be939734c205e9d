/- Programs that are written: orders and entries (book). -/
import Derived.Test.YtplecfbdchmogaaEShort2
import Derived.Test.YtplecfbdchmogaaESub
import Derived.Test.YtplecfbdchmogaaEWrtE
import Derived.Test.YtplecfbdchmogaaEProgW
namespace Go.Proofs.Ytplecfbdchmogaa
open Go.Lib (hid)
set_option maxHeartbeats 4000000
set_option maxRecDepth 100000
set_option linter.unusedVariables false
set_option linter.unusedSimpArgs false
open Go.RowKit
theorem ints_at (w : World) {g : Nat} (hg : g = w.heap.size) (z : Int) : IntsR (· < (w.alloc (.cells #[.int .i64 z] 3)).heap.size) (w.alloc (.cells #[.int .i64 z] 3)) (some ⟨g, 0, none⟩) 1 1 [z] := by
 subst hg
 exact ints_new w z rfl
theorem num_one {w0 w : World} {g : Nat} {bs : List Nat} {z : Int} {b : Nat} (h : WrS w0 g bs w) (hb : b = w.heap.size) (h1 : 0 ≤ z) (h2 : z ≤ 255) (hl : bs.length ≤ 4500000000000) :
 Calls Try.prog 22 #[.pointer (some ⟨g, 0, none⟩), .slice (some ⟨b, 0, none⟩) 1 1] (w.alloc (.cells #[.int .i64 z] 3)) (WrP w0 g (bs ++ formL z.toNat) (w.alloc (.cells #[.int .i64 z] 3))) := by
 have hn := wnum_any (h.below (below_alloc w (.cells #[.int .i64 z] 3))) (ints_at w hb z) (fun q hq => by
  rw [List.mem_singleton] at hq
  subst hq
  exact ⟨h1, by omega⟩) hl (by decide) (d := 1)
 rwa [show formsL [z] = formL z.toNat from by simp [formsL]] at hn
theorem worder_any {w0 w : World} {g : Nat} {bs : List Nat} {o a b : Int} (h : WrS w0 g bs w) (hw : orderW ⟨o, a, b⟩) (hl : (bs ++ orderBs ⟨o, a, b⟩).length ≤ 4500000000000) :
 Calls Try.prog 24 #[.pointer (some ⟨g, 0, none⟩), .agg #[.int .i64 o, .int .i64 a, .int .i64 b]] w (WrP w0 g (bs ++ orderBs ⟨o, a, b⟩) w) := by
 obtain ⟨⟨w1, w2⟩, ⟨w3, w4⟩, w5, w6⟩ := hw
 simp only at w1 w2 w3 w4 w5 w6
 have HO1 := hid w1
 have HO2 := hid w2
 have HA1 := hid w3
 have HA2 := hid w4
 have HB1' := hid w5
 have HB2' := hid w6
 have HLN := hid hl
 have HE : Hid (bs ++ orderBs ⟨o, a, b⟩ = ((bs ++ formL o.toNat) ++ formL (zig a)) ++ formL b.toNat) := hid (by simp [orderBs])
 have HL0 : Hid (bs.length ≤ 4500000000000) := hid (by rw [List.length_append] at hl; omega)
 have HL1 : Hid ((bs ++ formL o.toNat).length ≤ 4500000000000 ∧ ((bs ++ formL o.toNat) ++ formL (zig a)).length ≤ 4500000000000) := hid (by rw [HE.out] at hl; simp only [List.length_append] at hl ⊢; omega)
 have hb0 := h.byte
 have hba := below_alloc w (.cells #[.int .i64 o, .int .i64 a, .int .i64 b] 70)
 have HS0 := hid (h.below hba)
 have HM0 := hid (Moved.of_below (S := fun q => q = g) (row := none) hba)
 have HK0 := hid (Blk.new w 70 #[.int .i64 o, .int .i64 a, .int .i64 b])
 have HNE : Hid (¬ (w.heap.size = g)) := hid (by have := h.lt; omega)
 have z0 := HK0.out.cell
 clear hba
 have HN0 := hid (num_one (b := w.heap.size + 1) HS0.out (by simp) w1 w2 HL0.out)
 have hbb := below_alloc (w.alloc (.cells #[.int .i64 o, .int .i64 a, .int .i64 b] 70)) (.cells #[.int .i64 o] 3)
 have HKb := hid (HK0.out.alloc (.cells #[.int .i64 o] 3))
 have HMb := hid (Moved.trans (row := none) (row' := none) HM0.out (Moved.of_below (S := fun q => q = g) hbb) (fun _ e => by cases e))
 rw [HE.out]
 obtain ⟨q1, hq1⟩ : ∃ q, q = bs ++ formL o.toNat := ⟨_, rfl⟩
 obtain ⟨q2, hq2⟩ : ∃ q, q = q1 ++ formL (zig a) := ⟨_, rfl⟩
 have hqb1 : ∀ x ∈ q1, x < 256 := by rw [hq1]; exact byte_app hb0 (formL_byte _)
 have hqb2 : ∀ x ∈ q2, x < 256 := by rw [hq2]; exact byte_app hqb1 (formL_byte _)
 rw [← hq1] at HN0 HL1 ⊢
 rw [← hq2] at HL1 ⊢
 have HQ1 := hid hqb1
 have HQ2 := hid hqb2
 have HE2 := hid hq2
 clear hq1 hq2 hqb1 hqb2 hb0 hbb w1 w2 w3 w4 w5 w6 hl h
 go_in
 go_wp2_with fail
 refine (HN0.out).mono ?_
 rintro e1 w1 ⟨rfl, hm1, hs1⟩
 have HM1 := hid (HMb.out.trans (row' := none) hm1 (fun _ e => by cases e))
 have HS1 := hid hs1
 obtain ⟨A1, c1, hblk1, hown1⟩ := hs1.row
 have HSD := hid hs1.drew
 have HB1 := hid (blk_drew hblk1)
 have HK1 := hid (blk_drew (HKb.out.moved hm1 HNE.out (by simp)))
 have hyv : BytV w1.drew A1 q1.length c1 q1 := (hown1.byt HQ1.out (by have := HL1.out; omega)).keep fun b hb => ⟨hb.2, fun _ => rfl⟩
 have HSG := hid (signed_any hyv a HA1.out HA2.out HL1.out.1)
 rw [← HE2.out] at HSG
 clear z0
 have z1 := HK1.out.cell
 have y1 := HB1.out.cell 0
 clear hm1 hs1 hblk1 hown1 hyv
 go_wp2_with fail
 refine wp_region_E 10 (fun w' => w'.cell? ⟨g, 0, none⟩ = some (.slice A1 q1.length c1) ∧ w'.cell? ⟨w.heap.size, 1, none⟩ = some (.int .i64 a)) (by kernel_rfl) ?_ (fun hHeld => ?_)
 · (try dsimp only); exact ⟨y1, z1 1⟩
 refine te 0 hHeld ?_
 try simp only [p7]
 refine te 1 hHeld ?_
 try simp only [p7]
 refine te 2 hHeld ?_
 try simp only [p7]
 refine te 3 hHeld ?_
 try simp only [p7]
 refine te 4 hHeld ?_
 try simp only [p7]
 refine te 5 hHeld ?_
 try simp only [p7]
 refine te 6 hHeld ?_
 try simp only [p7]
 refine wpAnyE_step (i := 7) (by kernel_rfl) rfl rfl (fun K hK => ?_)
 go_simp
 go_at_call 60
 refine (HSG.out).mono ?_
 rintro e2 w2 ⟨hb2, A2, c2, rfl, ho2⟩
 obtain ⟨hs3, hm3⟩ := HSD.out.put hb2 ho2 HQ2.out
 have HS3 := hid hs3
 have HM3 := hid hm3
 have HB2 := hid hb2
 have y2 := (HB1.out.below hb2 HB1.out.lt).cell 0
 have f2 := (HB1.out.below hb2 HB1.out.lt).frozen 0
 have z2 := (HK1.out.below hb2 HK1.out.lt).cell
 clear y1 z1 hb2 ho2 hs3 hm3
 go_wp2_with fail
 refine hK.out _ _ (fun _ => ?_) ?_
 · (try dsimp only); exact ⟨y2, (z2 1)⟩
 clear hK K
 try simp only [p7]
 replace hHeld := (And.intro y2 (z2 1))
 refine te 8 hHeld ?_
 try simp only [p7]
 refine te 9 hHeld ?_
 try simp only [p7]
 refine wpAnyE_step (i := 10) (by kernel_rfl) rfl rfl (fun K hK => ?_)
 go_simp
 refine hK.out _ _ (fun h => absurd rfl h) ?_
 clear hK K
 try simp only [p7]
 refine wpAnyE_end (by kernel_rfl) ?_ _
 have HM4 := hid (HM1.out.trans (row' := none) (Moved.from_drew HM3.out) (fun _ e => by cases e))
 have HK4 := hid (HK1.out.moved HM3.out HNE.out (by simp))
 have HN4 := hid (num_one (b := w2.heap.size) HS3.out (by simp) HB1'.out HB2'.out HL1.out.2)
 have hbb := below_alloc (w2.setCell ⟨g, 0, none⟩ (.slice A2 q2.length c2)) (.cells #[.int .i64 b] 3)
 have HM5 := hid (Moved.trans (row := none) (row' := none) HM4.out (Moved.of_below (S := fun q => q = g) hbb) (fun _ e => by cases e))
 clear z2 y2 f2 hHeld
 have z4 := HK4.out.cell
 go_wp2_with fail
 refine (HN4.out).mono ?_
 rintro e5 w5 ⟨rfl, hm5, hs5⟩
 have HM6 := hid (HM5.out.trans (row' := none) hm5 (fun _ e => by cases e))
 have HS6 := hid hs5
 clear hm5 hs5
 go_wp2_with fail
 exact bodyPost_end (results_none rfl _ _ _) rfl ⟨rfl, HM6.out, HS6.out⟩
theorem eachO_any {w0 w : World} {g m d : Nat} {bs : List Nat} {B : Option Addr} {ls : List Nd} (h : WrS w0 g bs w) (hd : TermV w0 B m d ls) (hw : ∀ t ∈ ls, orderW t) (hm : m ≤ 1000000) (hl : (bs ++ (formL ls.length ++ ls.flatMap orderBs)).length ≤ 4500000000000) :
 Calls Try.prog 23 #[.pointer (some ⟨g, 0, none⟩), .slice B m d, .func (.func 24) #[.pointer (some ⟨g, 0, none⟩)] #[]] w (WrP w0 g (bs ++ (formL ls.length ++ ls.flatMap orderBs)) w) := by
 have hen : ∀ args w, (callFunc 24 args).run Try.prog w = .ok (.enter 24 args) w := fun _ _ => by kernel_rfl
 have hml := hd.len
 obtain ⟨F, h0, h1, h2, h3⟩ := seqF (default : Nd) orderBs bs ls
 rw [← h2] at hl ⊢
 have HF0 := hid h0
 have HF1 := hid h1
 have HF3 := hid (fun k => Nat.le_trans (h3 k) hl)
 have hnum := wnum_any (zs := [(ls.length : Int)]) (h.below (below_alloc w (.cells #[.int .i64 (m : Int)] 3))) (ints_new w (m : Int) (by rw [hml])) (fun z hz => by
  rw [List.mem_singleton] at hz
  subst hz
  exact ⟨by omega, by omega⟩) (by have e1 := h3 0; have e2 := hl; rw [h0, List.length_append] at e1; omega) (by decide) (d := 1)
 rw [show formsL [(ls.length : Int)] = formL ls.length from by simp [formsL], ← h0] at hnum
 have HN := hid hnum
 have HD := hid hd
 have HWF := hid hw
 have HML := hid hml
 have HBA := hid (below_alloc w (.cells #[.int .i64 (m : Int)] 3))
 rw [hml]
 clear h0 h1 h2 h3 hl hnum hd hw hml h
 go_in
 go_wp2_with fail
 refine (HN.out).mono ?_
 rintro e w1 ⟨rfl, hm1, hs1⟩
 have HM1 := hid (Moved.trans (row := none) (row' := none) (Moved.of_below (S := fun q => q = g) HBA.out) hm1 (fun _ e => by cases e))
 have HS1 := hid hs1
 clear hm1 hs1
 go_wp2_with fail
 go_loopw [15] (fun iv wr => ∃ k : Nat, iv = .int .i64 (k : Int) ∧ k ≤ m ∧ Hid (WrS w0 g (F k) wr) ∧ Hid (Moved (fun q => q = g) none w wr)) (fun iv _ => m - (intOf iv).toNat)
 case atStart => exact ⟨0, rfl, Nat.zero_le _, HS1, HM1⟩
 case round =>
  obtain ⟨k, rfl, hk, HS2, HM2⟩ := hrel
  by_cases hlt : k < m
  rotate_left
  · have hkm : k = m := by omega
    have d1 : decide ((k : Int) < (m : Int)) = false := decide_eq_false (by omega)
    have d2 : decide (k < m) = false := decide_eq_false hlt
    have HE : Hid (WrS w0 g (F m) wr) := hid (hkm ▸ HS2.out)
    clear hkm
    go_wp2_with fail
    exact bodyPost_end (results_none rfl _ _ _) rfl ⟨rfl, HM2.out, HE.out⟩
  have d1 : decide ((k : Int) < (m : Int)) = true := decide_eq_true (by omega)
  have d2 : decide (k < m) = true := decide_eq_true hlt
  have hkl : k < ls.length := by rw [HML.out]; exact hlt
  have HW1 := hid (HWF.out (ls.getD k (default : Nd)) (by rw [List.getD_eq_getElem?_getD, List.getElem?_eq_getElem hkl]; exact List.getElem_mem hkl))
  have HFK := hid (HF1.out k hkl)
  have HFL := HF3.out k
  obtain ⟨b, off, e, hlb, hc0, hc1, hc2⟩ := HD.out.at_ hlt
  subst e
  have hcell0 := (HS2.out.bel.cell (p := ⟨b, off + k * 3, none⟩) hlb).trans hc0
  have hcell1 := (HS2.out.bel.cell (p := ⟨b, off + k * 3 + 1, none⟩) hlb).trans hc1
  have hcell2 := (HS2.out.bel.cell (p := ⟨b, off + k * 3 + 2, none⟩) hlb).trans hc2
  unfold nth at hcell0 hcell1 hcell2
  clear hc0 hc1 hc2
  obtain ⟨x, hx⟩ : ∃ x, x = ls.getD k (default : Nd) := ⟨_, rfl⟩
  rw [← hx] at hcell0 hcell1 hcell2 HW1 HFK
  clear hx hkl
  obtain ⟨o, a, b'⟩ := x
  simp only at hcell0 hcell1 hcell2
  have HBX := hid (below_alloc wr (.cells #[.int .i64 o, .int .i64 a, .int .i64 b'] 70))
  have HC := hid (worder_any (HS2.out.below HBX.out) HW1.out (by rw [← HFK.out]; exact HF3.out _))
  go_wp2_with fail
  first
   | refine (HC.out).mono ?_
   | (simp only [Array.empty_append, Array.append_empty]; refine (HC.out).mono ?_)
   | (show Calls _ _ #[.pointer (some ⟨g, 0, none⟩), .agg #[.int .i64 o, .int .i64 a, .int .i64 b']] _ _; refine (HC.out).mono ?_)
  rintro e w3 ⟨rfl, hm3, hs3⟩
  have HM3 := hid (HM2.out.trans (row' := none) (Moved.trans (row := none) (row' := none) (Moved.of_below (S := fun q => q = g) HBX.out) hm3 (fun _ e => by cases e)) (fun _ e => by cases e))
  have HS3 := hid hs3
  clear hm3 hs3
  go_wp2_with fail
  go_roundw
  case rel => exact ⟨k + 1, by go_num, by omega, by rw [HFK.out]; exact HS3, HM3⟩
  case measure => simp [intOf]; omega
theorem wentry_def {w0 w : World} {g : Nat} {bs : List Nat} {v : EnVal} {x : En} (h : WrS w0 g bs w) (hd : EnC w0 v x) (hw : defW x) (hl : (bs ++ entryBs x).length ≤ 4500000000000) :
 Calls Try.prog 26 #[.pointer (some ⟨g, 0, none⟩), .agg #[.int .i64 x.kind, .slice v.As v.ns v.cs, .slice v.Ap v.np v.cp, .slice v.Ai v.ni v.ci, .slice v.Ac v.nc v.cc, .slice v.At v.nt v.ct, .slice v.Ab v.nb v.cb]] w (WrP w0 g (bs ++ entryBs x) w) := by
 have HKD : Hid (x.kind = 2) := hid hw.1
 obtain ⟨kd, hkd⟩ : ∃ kd, kd = x.kind := ⟨_, rfl⟩
 have hk1 : kd = 2 := hkd.trans HKD.out
 rw [← hkd]
 subst hk1
 have HD := hid hd
 have HW := hid hw
 have HE : Hid (bs ++ entryBs x = (((bs ++ formL 2) ++ rowBs x.type) ++ rowBs x.body)) := hid (by unfold entryBs; rw [HKD.out]; simp [List.append_assoc])
 rw [HE.out] at hl ⊢
 have hb0 := h.byte
 obtain ⟨q0, hq0⟩ : ∃ q, q = bs ++ formL 2 := ⟨_, rfl⟩
 have e0 : bs.length ≤ q0.length := by rw [hq0, List.length_append]; omega
 obtain ⟨q1, hq1⟩ : ∃ q, q = q0 ++ rowBs x.type := ⟨_, rfl⟩
 have e1 : q0.length ≤ q1.length := by rw [hq1, List.length_append]; omega
 obtain ⟨q2, hq2⟩ : ∃ q, q = q1 ++ rowBs x.body := ⟨_, rfl⟩
 have e2 : q1.length ≤ q2.length := by rw [hq2, List.length_append]; omega
 rw [← hq0, ← hq1, ← hq2] at hl ⊢
 have HQ0 := hid hq0
 have HL0 : Hid (q0.length ≤ 4500000000000) := hid (by omega)
 have HQ1 := hid hq1
 have HL1 : Hid (q1.length ≤ 4500000000000) := hid (by omega)
 have HQ2 := hid hq2
 have HL2 : Hid (q2.length ≤ 4500000000000) := hid (by omega)
 have HLB : Hid (bs.length ≤ 4500000000000) := hid (by omega)
 have hba := below_alloc w (.cells #[.int .i64 2, .slice v.As v.ns v.cs, .slice v.Ap v.np v.cp, .slice v.Ai v.ni v.ci, .slice v.Ac v.nc v.cc, .slice v.At v.nt v.ct, .slice v.Ab v.nb v.cb] 49)
 have HS0 := hid (h.below hba)
 have HM0 := hid (Moved.of_below (S := fun q => q = g) (row := none) hba)
 have HK0 := hid (Blk.new w 49 #[.int .i64 2, .slice v.As v.ns v.cs, .slice v.Ap v.np v.cp, .slice v.Ai v.ni v.ci, .slice v.Ac v.nc v.cc, .slice v.At v.nt v.ct, .slice v.Ab v.nb v.cb])
 have HNE : Hid (¬ (w.heap.size = g)) := hid (by have := h.lt; omega)
 have z0 := HK0.out.cell
 clear hba
 have HN0 := hid (num_one (b := w.heap.size + 1) HS0.out (by simp) (show (0 : Int) ≤ 2 from by decide) (by decide) HLB.out)
 have hbb := below_alloc (w.alloc (.cells #[.int .i64 2, .slice v.As v.ns v.cs, .slice v.Ap v.np v.cp, .slice v.Ai v.ni v.ci, .slice v.Ac v.nc v.cc, .slice v.At v.nt v.ct, .slice v.Ab v.nb v.cb] 49)) (.cells #[.int .i64 2] 3)
 have HKb := hid (HK0.out.alloc (.cells #[.int .i64 2] 3))
 have HMb := hid (Moved.trans (row := none) (row' := none) HM0.out (Moved.of_below (S := fun q => q = g) hbb) (fun _ e => by cases e))
 have eN : bs ++ formL ((2 : Int).toNat) = q0 := HQ0.out.symm
 rw [eN] at HN0
 clear hbb eN hb0 hl h hd hw hkd hq0 e0 hq1 e1 hq2 e2
 go_in
 go_wp2_with fail
 refine (HN0.out).mono ?_
 rintro e1 w1 ⟨rfl, hm1, hs1⟩
 have HMx0 := hid (HMb.out.trans (row' := none) hm1 (fun _ e => by cases e))
 have HSx0 := hid hs1
 have HKx0 := hid (HKb.out.moved hm1 HNE.out (by simp))
 clear z0 hm1 hs1
 have zx0 := HKx0.out.cell
 go_wp2_with fail
 have HC1 := hid (wrow_any HSx0.out (HD.out.type.below HSx0.out.bel) HW.out.2.1.1 HL0.out)
 rw [← HQ1.out] at HC1
 refine (HC1.out).mono ?_
 rintro e5 w5 ⟨rfl, hm1, hs1⟩
 have HMx1 := hid (HMx0.out.trans (row' := none) hm1 (fun _ e => by cases e))
 have HSx1 := hid hs1
 have HKx1 := hid (HKx0.out.moved hm1 HNE.out (by simp))
 clear zx0 hm1 hs1
 have zx1 := HKx1.out.cell
 go_wp2_with fail
 have HC2 := hid (wrow_any HSx1.out (HD.out.body.below HSx1.out.bel) HW.out.2.1.2 HL1.out)
 rw [← HQ2.out] at HC2
 refine (HC2.out).mono ?_
 rintro e6 w6 ⟨rfl, hm2, hs2⟩
 have HMx2 := hid (HMx1.out.trans (row' := none) hm2 (fun _ e => by cases e))
 have HSx2 := hid hs2
 have HKx2 := hid (HKx1.out.moved hm2 HNE.out (by simp))
 clear zx1 hm2 hs2
 have zx2 := HKx2.out.cell
 go_wp2_with fail
 exact bodyPost_ret (results_none rfl _ _ _) rfl ⟨rfl, HMx2.out, HSx2.out⟩
theorem wentry_fam {w0 w : World} {g : Nat} {bs : List Nat} {v : EnVal} {x : En} (h : WrS w0 g bs w) (hd : EnC w0 v x) (hw : famW x) (hl : (bs ++ entryBs x).length ≤ 4500000000000) :
 Calls Try.prog 26 #[.pointer (some ⟨g, 0, none⟩), .agg #[.int .i64 x.kind, .slice v.As v.ns v.cs, .slice v.Ap v.np v.cp, .slice v.Ai v.ni v.ci, .slice v.Ac v.nc v.cc, .slice v.At v.nt v.ct, .slice v.Ab v.nb v.cb]] w (WrP w0 g (bs ++ entryBs x) w) := by
 have HKD : Hid (x.kind = 1) := hid hw.1
 obtain ⟨kd, hkd⟩ : ∃ kd, kd = x.kind := ⟨_, rfl⟩
 have hk1 : kd = 1 := hkd.trans HKD.out
 rw [← hkd]
 subst hk1
 have HD := hid hd
 have HW := hid hw
 have hmf : ∀ (fn : Fn) (first cap : Array Value) (w : World), (Instr.makeFunc fn first cap).run Try.prog w = .ok (.func fn first cap) w := fun _ _ _ _ => rfl
 have HE : Hid (bs ++ entryBs x = (((((bs ++ formL 1) ++ rowBs x.sort) ++ rowsBs x.params) ++ rowsBs x.indices) ++ (formL x.ctors.length ++ x.ctors.flatMap ctorBs))) := hid (by unfold entryBs; rw [HKD.out]; simp [List.append_assoc])
 rw [HE.out] at hl ⊢
 have hb0 := h.byte
 obtain ⟨q0, hq0⟩ : ∃ q, q = bs ++ formL 1 := ⟨_, rfl⟩
 have e0 : bs.length ≤ q0.length := by rw [hq0, List.length_append]; omega
 obtain ⟨q1, hq1⟩ : ∃ q, q = q0 ++ rowBs x.sort := ⟨_, rfl⟩
 have e1 : q0.length ≤ q1.length := by rw [hq1, List.length_append]; omega
 obtain ⟨q2, hq2⟩ : ∃ q, q = q1 ++ rowsBs x.params := ⟨_, rfl⟩
 have e2 : q1.length ≤ q2.length := by rw [hq2, List.length_append]; omega
 obtain ⟨q3, hq3⟩ : ∃ q, q = q2 ++ rowsBs x.indices := ⟨_, rfl⟩
 have e3 : q2.length ≤ q3.length := by rw [hq3, List.length_append]; omega
 obtain ⟨q4, hq4⟩ : ∃ q, q = q3 ++ (formL x.ctors.length ++ x.ctors.flatMap ctorBs) := ⟨_, rfl⟩
 have e4 : q3.length ≤ q4.length := by rw [hq4, List.length_append]; omega
 rw [← hq0, ← hq1, ← hq2, ← hq3, ← hq4] at hl ⊢
 have HQ0 := hid hq0
 have HL0 : Hid (q0.length ≤ 4500000000000) := hid (by omega)
 have HQ1 := hid hq1
 have HL1 : Hid (q1.length ≤ 4500000000000) := hid (by omega)
 have HQ2 := hid hq2
 have HL2 : Hid (q2.length ≤ 4500000000000) := hid (by omega)
 have HQ3 := hid hq3
 have HL3 : Hid (q3.length ≤ 4500000000000) := hid (by omega)
 have HQ4 := hid hq4
 have HL4 : Hid (q4.length ≤ 4500000000000) := hid (by omega)
 have HLB : Hid (bs.length ≤ 4500000000000) := hid (by omega)
 have hba := below_alloc w (.cells #[.int .i64 1, .slice v.As v.ns v.cs, .slice v.Ap v.np v.cp, .slice v.Ai v.ni v.ci, .slice v.Ac v.nc v.cc, .slice v.At v.nt v.ct, .slice v.Ab v.nb v.cb] 49)
 have HS0 := hid (h.below hba)
 have HM0 := hid (Moved.of_below (S := fun q => q = g) (row := none) hba)
 have HK0 := hid (Blk.new w 49 #[.int .i64 1, .slice v.As v.ns v.cs, .slice v.Ap v.np v.cp, .slice v.Ai v.ni v.ci, .slice v.Ac v.nc v.cc, .slice v.At v.nt v.ct, .slice v.Ab v.nb v.cb])
 have HNE : Hid (¬ (w.heap.size = g)) := hid (by have := h.lt; omega)
 have z0 := HK0.out.cell
 clear hba
 have HN0 := hid (num_one (b := w.heap.size + 1) HS0.out (by simp) (show (0 : Int) ≤ 1 from by decide) (by decide) HLB.out)
 have hbb := below_alloc (w.alloc (.cells #[.int .i64 1, .slice v.As v.ns v.cs, .slice v.Ap v.np v.cp, .slice v.Ai v.ni v.ci, .slice v.Ac v.nc v.cc, .slice v.At v.nt v.ct, .slice v.Ab v.nb v.cb] 49)) (.cells #[.int .i64 1] 3)
 have HKb := hid (HK0.out.alloc (.cells #[.int .i64 1] 3))
 have HMb := hid (Moved.trans (row := none) (row' := none) HM0.out (Moved.of_below (S := fun q => q = g) hbb) (fun _ e => by cases e))
 have eN : bs ++ formL ((1 : Int).toNat) = q0 := HQ0.out.symm
 rw [eN] at HN0
 clear hbb eN hb0 hl h hd hw hkd hq0 e0 hq1 e1 hq2 e2 hq3 e3 hq4 e4
 go_in
 go_wp2_with fail
 refine (HN0.out).mono ?_
 rintro e1 w1 ⟨rfl, hm1, hs1⟩
 have HMx0 := hid (HMb.out.trans (row' := none) hm1 (fun _ e => by cases e))
 have HSx0 := hid hs1
 have HKx0 := hid (HKb.out.moved hm1 HNE.out (by simp))
 clear z0 hm1 hs1
 have zx0 := HKx0.out.cell
 go_wp2_with fail
 have HC1 := hid (wrow_any HSx0.out (HD.out.sort.below HSx0.out.bel) HW.out.2.1.1 HL0.out)
 rw [← HQ1.out] at HC1
 refine (HC1.out).mono ?_
 rintro e5 w5 ⟨rfl, hm1, hs1⟩
 have HMx1 := hid (HMx0.out.trans (row' := none) hm1 (fun _ e => by cases e))
 have HSx1 := hid hs1
 have HKx1 := hid (HKx0.out.moved hm1 HNE.out (by simp))
 clear zx0 hm1 hs1
 have zx1 := HKx1.out.cell
 go_wp2_with fail
 have HC2 := hid (wrows_any HSx1.out HD.out.params HW.out.2.1.2.1 (by rw [← HQ2.out]; exact HL2.out))
 rw [← HQ2.out] at HC2
 refine (HC2.out).mono ?_
 rintro e6 w6 ⟨rfl, hm2, hs2⟩
 have HMx2 := hid (HMx1.out.trans (row' := none) hm2 (fun _ e => by cases e))
 have HSx2 := hid hs2
 have HKx2 := hid (HKx1.out.moved hm2 HNE.out (by simp))
 clear zx1 hm2 hs2
 have zx2 := HKx2.out.cell
 go_wp2_with fail
 have HC3 := hid (wrows_any HSx2.out HD.out.indices HW.out.2.1.2.2.1 (by rw [← HQ3.out]; exact HL3.out))
 rw [← HQ3.out] at HC3
 refine (HC3.out).mono ?_
 rintro e7 w7 ⟨rfl, hm3, hs3⟩
 have HMx3 := hid (HMx2.out.trans (row' := none) hm3 (fun _ e => by cases e))
 have HSx3 := hid hs3
 have HKx3 := hid (HKx2.out.moved hm3 HNE.out (by simp))
 clear zx2 hm3 hs3
 have zx3 := HKx3.out.cell
 go_wp2_with fail
 have HC4 := hid (eachC_any HSx3.out HD.out.ctors HW.out.2.1.2.2.2.2 (by have h1 := HW.out.2.1.2.2.2.1; have h2 := HD.out.ctors.len; omega) (by rw [← HQ4.out]; exact HL4.out))
 rw [← HQ4.out] at HC4
 refine (HC4.out).mono ?_
 rintro e8 w8 ⟨rfl, hm4, hs4⟩
 have HMx4 := hid (HMx3.out.trans (row' := none) hm4 (fun _ e => by cases e))
 have HSx4 := hid hs4
 have HKx4 := hid (HKx3.out.moved hm4 HNE.out (by simp))
 clear zx3 hm4 hs4
 have zx4 := HKx4.out.cell
 go_wp2_with fail
 exact bodyPost_end (results_none rfl _ _ _) rfl ⟨rfl, HMx4.out, HSx4.out⟩
theorem wentry_any {w0 w : World} {g : Nat} {bs : List Nat} {v : EnVal} {x : En} (h : WrS w0 g bs w) (hd : EnC w0 v x) (hw : entryW x) (hl : (bs ++ entryBs x).length ≤ 4500000000000) :
 Calls Try.prog 26 #[.pointer (some ⟨g, 0, none⟩), .agg #[.int .i64 x.kind, .slice v.As v.ns v.cs, .slice v.Ap v.np v.cp, .slice v.Ai v.ni v.ci, .slice v.Ac v.nc v.cc, .slice v.At v.nt v.ct, .slice v.Ab v.nb v.cb]] w (WrP w0 g (bs ++ entryBs x) w) := by
 rcases hw with hw | hw
 · exact wentry_fam h hd hw hl
 exact wentry_def h hd hw hl
theorem eachE_any {w0 w : World} {g m d : Nat} {bs : List Nat} {B : Option Addr} {ls : List En} (h : WrS w0 g bs w) (hd : EnsV w0 B m d ls) (hw : ∀ t ∈ ls, entryW t) (hm : m ≤ 1000000) (hl : (bs ++ (formL ls.length ++ ls.flatMap entryBs)).length ≤ 4500000000000) :
 Calls Try.prog 25 #[.pointer (some ⟨g, 0, none⟩), .slice B m d, .func (.func 26) #[.pointer (some ⟨g, 0, none⟩)] #[]] w (WrP w0 g (bs ++ (formL ls.length ++ ls.flatMap entryBs)) w) := by
 have hen : ∀ args w, (callFunc 26 args).run Try.prog w = .ok (.enter 26 args) w := fun _ _ => by kernel_rfl
 have hml := hd.len
 obtain ⟨F, h0, h1, h2, h3⟩ := seqF (default : En) entryBs bs ls
 rw [← h2] at hl ⊢
 have HF0 := hid h0
 have HF1 := hid h1
 have HF3 := hid (fun k => Nat.le_trans (h3 k) hl)
 have hnum := wnum_any (zs := [(ls.length : Int)]) (h.below (below_alloc w (.cells #[.int .i64 (m : Int)] 3))) (ints_new w (m : Int) (by rw [hml])) (fun z hz => by
  rw [List.mem_singleton] at hz
  subst hz
  exact ⟨by omega, by omega⟩) (by have e1 := h3 0; have e2 := hl; rw [h0, List.length_append] at e1; omega) (by decide) (d := 1)
 rw [show formsL [(ls.length : Int)] = formL ls.length from by simp [formsL], ← h0] at hnum
 have HN := hid hnum
 have HD := hid hd
 have HWF := hid hw
 have HML := hid hml
 have HBA := hid (below_alloc w (.cells #[.int .i64 (m : Int)] 3))
 rw [hml]
 clear h0 h1 h2 h3 hl hnum hd hw hml h
 go_in
 go_wp2_with fail
 refine (HN.out).mono ?_
 rintro e w1 ⟨rfl, hm1, hs1⟩
 have HM1 := hid (Moved.trans (row := none) (row' := none) (Moved.of_below (S := fun q => q = g) HBA.out) hm1 (fun _ e => by cases e))
 have HS1 := hid hs1
 clear hm1 hs1
 go_wp2_with fail
 go_loopw [15] (fun iv wr => ∃ k : Nat, iv = .int .i64 (k : Int) ∧ k ≤ m ∧ Hid (WrS w0 g (F k) wr) ∧ Hid (Moved (fun q => q = g) none w wr)) (fun iv _ => m - (intOf iv).toNat)
 case atStart => exact ⟨0, rfl, Nat.zero_le _, HS1, HM1⟩
 case round =>
  obtain ⟨k, rfl, hk, HS2, HM2⟩ := hrel
  by_cases hlt : k < m
  rotate_left
  · have hkm : k = m := by omega
    have d1 : decide ((k : Int) < (m : Int)) = false := decide_eq_false (by omega)
    have d2 : decide (k < m) = false := decide_eq_false hlt
    have HE : Hid (WrS w0 g (F m) wr) := hid (hkm ▸ HS2.out)
    clear hkm
    go_wp2_with fail
    exact bodyPost_end (results_none rfl _ _ _) rfl ⟨rfl, HM2.out, HE.out⟩
  have d1 : decide ((k : Int) < (m : Int)) = true := decide_eq_true (by omega)
  have d2 : decide (k < m) = true := decide_eq_true hlt
  have hkl : k < ls.length := by rw [HML.out]; exact hlt
  have HW1 := hid (HWF.out (ls.getD k (default : En)) (by rw [List.getD_eq_getElem?_getD, List.getElem?_eq_getElem hkl]; exact List.getElem_mem hkl))
  have HFK := hid (HF1.out k hkl)
  have HFL := HF3.out k
  obtain ⟨b, off, e, hlb, v, hc0, hc1, hc2, hc3, hc4, hc5, hc6, hd9⟩ := HD.out.at_ hlt
  subst e
  have hcell0 := (HS2.out.bel.cell (p := ⟨b, off + k * 7, none⟩) hlb).trans hc0
  have hcell1 := (HS2.out.bel.cell (p := ⟨b, off + k * 7 + 1, none⟩) hlb).trans hc1
  have hcell2 := (HS2.out.bel.cell (p := ⟨b, off + k * 7 + 2, none⟩) hlb).trans hc2
  have hcell3 := (HS2.out.bel.cell (p := ⟨b, off + k * 7 + 3, none⟩) hlb).trans hc3
  have hcell4 := (HS2.out.bel.cell (p := ⟨b, off + k * 7 + 4, none⟩) hlb).trans hc4
  have hcell5 := (HS2.out.bel.cell (p := ⟨b, off + k * 7 + 5, none⟩) hlb).trans hc5
  have hcell6 := (HS2.out.bel.cell (p := ⟨b, off + k * 7 + 6, none⟩) hlb).trans hc6
  clear hc0 hc1 hc2 hc3 hc4 hc5 hc6
  obtain ⟨x, hx⟩ : ∃ x, x = ls.getD k (default : En) := ⟨_, rfl⟩
  rw [← hx] at hcell0 hd9 HW1 HFK
  clear hx hkl
  have HBX := hid (below_alloc wr (.cells #[.int .i64 x.kind, .slice v.As v.ns v.cs, .slice v.Ap v.np v.cp, .slice v.Ai v.ni v.ci, .slice v.Ac v.nc v.cc, .slice v.At v.nt v.ct, .slice v.Ab v.nb v.cb] 49))
  have HC := hid (wentry_any (HS2.out.below HBX.out) hd9 HW1.out (by rw [← HFK.out]; exact HF3.out _))
  clear hd9
  go_wp2_with fail
  first
   | refine (HC.out).mono ?_
   | (simp only [Array.empty_append, Array.append_empty]; refine (HC.out).mono ?_)
   | (show Calls _ _ #[.pointer (some ⟨g, 0, none⟩), .agg #[.int .i64 x.kind, .slice v.As v.ns v.cs, .slice v.Ap v.np v.cp, .slice v.Ai v.ni v.ci, .slice v.Ac v.nc v.cc, .slice v.At v.nt v.ct, .slice v.Ab v.nb v.cb]] _ _; refine (HC.out).mono ?_)
  rintro e w3 ⟨rfl, hm3, hs3⟩
  have HM3 := hid (HM2.out.trans (row' := none) (Moved.trans (row := none) (row' := none) (Moved.of_below (S := fun q => q = g) HBX.out) hm3 (fun _ e => by cases e)) (fun _ e => by cases e))
  have HS3 := hid hs3
  clear hm3 hs3
  go_wp2_with fail
  go_roundw
  case rel => exact ⟨k + 1, by go_num, by omega, by rw [HFK.out]; exact HS3, HM3⟩
  case measure => simp [intOf]; omega
end Go.Proofs.Ytplecfbdchmogaa
