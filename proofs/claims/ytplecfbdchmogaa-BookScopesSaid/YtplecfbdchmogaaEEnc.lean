/- Programs that are written: fits, Encode (book). -/
import Derived.Test.YtplecfbdchmogaaEWrtF
import Derived.Test.YtplecfbdchmogaaERights
import Derived.Laws.EntriesVeiled
namespace Go.Proofs.Ytplecfbdchmogaa
open Go.Lib (hid)
set_option maxHeartbeats 8000000
set_option maxRecDepth 100000
set_option linter.unusedVariables false
set_option linter.unusedSimpArgs false
open Go.RowKit
theorem flatMap_le {α : Type} {f : α → List Nat} {B : Nat} : ∀ (l : List α), (∀ x ∈ l, (f x).length ≤ B) → (l.flatMap f).length ≤ l.length * B
 | [], _ => by simp
 | x :: r, h => by
  have h1 := h x List.mem_cons_self
  have h2 := flatMap_le r (fun y hy => h y (List.mem_cons_of_mem _ hy))
  simp only [List.flatMap_cons, List.length_append, List.length_cons, Nat.add_mul, Nat.one_mul]
  omega
theorem rowBs_le {t : List Nd} (h : rowW t) : (rowBs t).length ≤ 122890 := by
 have h1 := (formL_len t.length).2
 have h2 := flatMap_le (f := nodeBs) (B := 30) t (fun x _ => nodeBs_len x)
 have h3 := h.1
 simp only [rowBs, List.length_append]
 omega
theorem rowsBs_le {ls : List (List Nd)} (h : rowsW ls) : (rowsBs ls).length ≤ 31336960 := by
 have h1 := (formL_len ls.length).2
 have h2 := flatMap_le (f := rowBs) (B := 122890) ls (fun x hx => rowBs_le (h.2 x hx))
 have h3 := h.1
 simp only [rowsBs, List.length_append]
 omega
theorem ctorBs_le {c : Ct} (h : ctorW c) : (ctorBs c).length ≤ 62673920 := by
 have h1 := rowsBs_le h.1
 have h2 := rowsBs_le h.2
 simp only [ctorBs, List.length_append]
 omega
theorem entryBs_le {x : En} (h : entryW x) : (entryBs x).length ≤ 16044646430 := by
 have h0 := (formL_len x.kind.toNat).2
 unfold entryBs
 rcases h with ⟨h1, ⟨h2, h3, h4, h5⟩, _⟩ | ⟨h1, ⟨h2, h3⟩, _⟩
 · rw [if_neg (by rw [h1]; decide)]
   have a1 := rowBs_le h2
   have a2 := rowsBs_le h3
   have a3 := rowsBs_le h4
   have a4 := (formL_len x.ctors.length).2
   have a5 := flatMap_le (f := ctorBs) (B := 62673920) x.ctors (fun c hc => ctorBs_le (h5.2 c hc))
   have a6 := h5.1
   simp only [List.length_append]
   omega
 rw [if_pos h1]
 have a1 := rowBs_le h2
 have a2 := rowBs_le h3
 simp only [List.length_append]
 omega
theorem pgBs_le {p : Pg} (h : progW p) : (pgBs p).length ≤ 4500000000000 := by
 obtain ⟨⟨_, h2, h3⟩, _, h5, h6, h7⟩ := h
 have a1 := (formL_len p.book.vars.toNat).2
 have a2 := (formL_len p.book.orders.length).2
 have a3 := flatMap_le (f := orderBs) (B := 30) p.book.orders (fun o _ => by
  have h1 := (formL_len o.op.toNat).2
  have h2 := (formL_len (zig o.a)).2
  have h3 := (formL_len o.b.toNat).2
  simp only [orderBs, List.length_append]
  omega)
 have a4 := (formL_len p.book.entries.length).2
 have a5 := flatMap_le (f := entryBs) (B := 16044646430) p.book.entries (fun x hx => entryBs_le (h3.2 x hx))
 have a6 := (formL_len (p.book.nat + 1).toNat).2
 have a7 := (formL_len p.book.prims.length).2
 have a8 := flatMap_le (f := primBs) (B := 20) p.book.prims (fun o _ => by
  have h1 := (formL_len o.1.toNat).2
  have h2 := (formL_len o.2.toNat).2
  simp only [primBs, List.length_append]
  omega)
 have a9 := rowBs_le h6
 have a10 := rowBs_le h7
 have b1 := h2.1
 have b2 := h3.1
 have b3 := h5.1
 simp only [pgBs, progBs, bookBs, List.length_append]
 omega
structure PgVal where
 bk : BkVal
 Am : Option Addr
 nm : Nat
 cm : Nat
 At : Option Addr
 nt : Nat
 ct : Nat
structure ProgV (w : World) (u : PgVal) (p : Pg) : Prop where
 book : BookV w u.bk p.book
 main : TermV w u.Am u.nm u.cm p.main
 type : TermV w u.At u.nt u.ct p.type
theorem ProgV.below {w w' : World} {u : PgVal} {p : Pg} (h : ProgV w u p) (hb : Below w.heap.size w w') : ProgV w' u p := ⟨h.book.below hb, h.main.below hb, h.type.below hb⟩
abbrev pgCells (u : PgVal) (p : Pg) : Array Value := #[.int .i64 p.book.vars, .slice u.bk.Ao u.bk.no u.bk.co, .slice u.bk.Ae u.bk.ne u.bk.ce, .int .i64 p.book.nat, .slice u.bk.Ap u.bk.np u.bk.cp, .slice u.Am u.nm u.cm, .slice u.At u.nt u.ct]
theorem progE_first (p : Pg) : progE p = firstE [rightE p.book, fitsE p.book 0 p.main, fitsE p.book 0 p.type] := by
 unfold progE
 simp only [firstE]
 by_cases h1 : rightE p.book ≠ 0
 · rw [if_pos h1, if_pos h1]
 rw [if_neg h1, if_neg h1]
 by_cases h2 : fitsE p.book 0 p.main ≠ 0
 · rw [if_pos h2, if_pos h2]
 rw [if_neg h2, if_neg h2]
 by_cases h3 : fitsE p.book 0 p.type ≠ 0
 · rw [if_pos h3]
 rw [if_neg h3]
 exact Decidable.not_not.1 h3
theorem pfits1_any {w : World} {g : Nat} {u : PgVal} {p : Pg} (hp : ProgV w u p) (hk : Blk w g 30 #[.int .i64 p.book.vars, .slice u.bk.Ao u.bk.no u.bk.co, .slice u.bk.Ae u.bk.ne u.bk.ce, .int .i64 p.book.nat, .slice u.bk.Ap u.bk.np u.bk.cp, .slice u.Am u.nm u.cm, .slice u.At u.nt u.ct]) :
 Calls Try.prog 56 #[.pointer (some ⟨g, 0, none⟩)] w (ErrP (rightE p.book) w) := by
 have z := hk.cell
 have HC := hid (right_any hp.book)
 obtain ⟨res, hres⟩ : ∃ r, r = rightE p.book := ⟨_, rfl⟩
 rw [← hres] at HC ⊢
 clear hp hk hres
 go_in
 go_wp2_with fail
 refine (HC.out).mono ?_
 rintro e w1 ⟨rfl, hb1⟩
 have HB1 := hid hb1
 clear hb1
 go_wp2_with fail
 go_ret
 exact ⟨rfl, HB1.out⟩
theorem pfits2_any {w : World} {g : Nat} {u : PgVal} {p : Pg} (hp : ProgV w u p) (hk : Blk w g 30 #[.int .i64 p.book.vars, .slice u.bk.Ao u.bk.no u.bk.co, .slice u.bk.Ae u.bk.ne u.bk.ce, .int .i64 p.book.nat, .slice u.bk.Ap u.bk.np u.bk.cp, .slice u.Am u.nm u.cm, .slice u.At u.nt u.ct]) :
 Calls Try.prog 57 #[.pointer (some ⟨g, 0, none⟩)] w (ErrP (fitsE p.book 0 p.main) w) := by
 have z := hk.cell
 have HC := hid (fits_any hp.book 0 hp.main)
 obtain ⟨res, hres⟩ : ∃ r, r = fitsE p.book 0 p.main := ⟨_, rfl⟩
 rw [← hres] at HC ⊢
 clear hp hk hres
 go_in
 go_wp2_with fail
 refine (HC.out).mono ?_
 rintro e w1 ⟨rfl, hb1⟩
 have HB1 := hid hb1
 clear hb1
 go_wp2_with fail
 go_ret
 exact ⟨rfl, HB1.out⟩
theorem pfits3_any {w : World} {g : Nat} {u : PgVal} {p : Pg} (hp : ProgV w u p) (hk : Blk w g 30 #[.int .i64 p.book.vars, .slice u.bk.Ao u.bk.no u.bk.co, .slice u.bk.Ae u.bk.ne u.bk.ce, .int .i64 p.book.nat, .slice u.bk.Ap u.bk.np u.bk.cp, .slice u.Am u.nm u.cm, .slice u.At u.nt u.ct]) :
 Calls Try.prog 58 #[.pointer (some ⟨g, 0, none⟩)] w (ErrP (fitsE p.book 0 p.type) w) := by
 have z := hk.cell
 have HC := hid (fits_any hp.book 0 hp.type)
 obtain ⟨res, hres⟩ : ∃ r, r = fitsE p.book 0 p.type := ⟨_, rfl⟩
 rw [← hres] at HC ⊢
 clear hp hk hres
 go_in
 go_wp2_with fail
 refine (HC.out).mono ?_
 rintro e w1 ⟨rfl, hb1⟩
 have HB1 := hid hb1
 clear hb1
 go_wp2_with fail
 go_ret
 exact ⟨rfl, HB1.out⟩
def pids (i : Nat) : FuncId := match i with
 | 0 => 56
 | 1 => 57
 | _ => 58
def ERRS (p : Pg) : List Int := [rightE p.book, fitsE p.book 0 p.main, fitsE p.book 0 p.type]
theorem pcl_any {w : World} {g : Nat} {u : PgVal} {p : Pg} (hp : ProgV w u p) (hk : Blk w g 30 #[.int .i64 p.book.vars, .slice u.bk.Ao u.bk.no u.bk.co, .slice u.bk.Ae u.bk.ne u.bk.ce, .int .i64 p.book.nat, .slice u.bk.Ap u.bk.np u.bk.cp, .slice u.Am u.nm u.cm, .slice u.At u.nt u.ct]) : ∀ i, i < 3 → (∀ j, j < i → (ERRS p).getD j 0 = 0) → ∀ w', Below w.heap.size w w' → Calls Try.prog (pids i) #[.pointer (some ⟨g, 0, none⟩)] w' (ErrP ((ERRS p).getD i 0) w') := by
 intro i hi hz w' hw
 have h1 := hp.below hw
 have h2 := hk.below hw hk.lt
 match i, hi with
 | 0, _ => exact pfits1_any h1 h2
 | 1, _ => exact pfits2_any h1 h2
 | 2, _ => exact pfits3_any h1 h2
theorem penters (i : Nat) (hi : i < 3) : ∀ args w, (callFunc (pids i) args).run Try.prog w = .ok (.enter (pids i) args) w := by
 match i, hi with
 | 0, _ => exact fun _ _ => by kernel_rfl
 | 1, _ => exact fun _ _ => by kernel_rfl
 | 2, _ => exact fun _ _ => by kernel_rfl
theorem pfits_any {w : World} {u : PgVal} {p : Pg} (hp : ProgV w u p) :
 Calls Try.prog 21 #[.agg #[.int .i64 p.book.vars, .slice u.bk.Ao u.bk.no u.bk.co, .slice u.bk.Ae u.bk.ne u.bk.ce, .int .i64 p.book.nat, .slice u.bk.Ap u.bk.np u.bk.cp, .slice u.Am u.nm u.cm, .slice u.At u.nt u.ct]] w (ErrP (progE p) w) := by
 have hmf : ∀ (fn : Fn) (first cap : Array Value) (w : World), (Instr.makeFunc fn first cap).run Try.prog w = .ok (.func fn first cap) w := fun _ _ _ _ => rfl
 have hb1 := below_alloc w (.cells #[.int .i64 p.book.vars, .slice u.bk.Ao u.bk.no u.bk.co, .slice u.bk.Ae u.bk.ne u.bk.ce, .int .i64 p.book.nat, .slice u.bk.Ap u.bk.np u.bk.cp, .slice u.Am u.nm u.cm, .slice u.At u.nt u.ct] 30)
 have hk1 := Blk.new w 30 #[.int .i64 p.book.vars, .slice u.bk.Ao u.bk.no u.bk.co, .slice u.bk.Ae u.bk.ne u.bk.ce, .int .i64 p.book.nat, .slice u.bk.Ap u.bk.np u.bk.cp, .slice u.Am u.nm u.cm, .slice u.At u.nt u.ct]
 have hb2 := below_alloc (w.alloc (.cells #[.int .i64 p.book.vars, .slice u.bk.Ao u.bk.no u.bk.co, .slice u.bk.Ae u.bk.ne u.bk.ce, .int .i64 p.book.nat, .slice u.bk.Ap u.bk.np u.bk.cp, .slice u.Am u.nm u.cm, .slice u.At u.nt u.ct] 30)) (.cells #[.func (.func 56) #[] #[.pointer (some ⟨w.heap.size, 0, none⟩)], .func (.func 57) #[] #[.pointer (some ⟨w.heap.size, 0, none⟩)], .func (.func 58) #[] #[.pointer (some ⟨w.heap.size, 0, none⟩)]] 92)
 have hk2 := Blk.new (w.alloc (.cells #[.int .i64 p.book.vars, .slice u.bk.Ao u.bk.no u.bk.co, .slice u.bk.Ae u.bk.ne u.bk.ce, .int .i64 p.book.nat, .slice u.bk.Ap u.bk.np u.bk.cp, .slice u.Am u.nm u.cm, .slice u.At u.nt u.ct] 30)) 92 #[.func (.func 56) #[] #[.pointer (some ⟨w.heap.size, 0, none⟩)], .func (.func 57) #[] #[.pointer (some ⟨w.heap.size, 0, none⟩)], .func (.func 58) #[] #[.pointer (some ⟨w.heap.size, 0, none⟩)]]
 rw [show (w.alloc (.cells #[.int .i64 p.book.vars, .slice u.bk.Ao u.bk.no u.bk.co, .slice u.bk.Ae u.bk.ne u.bk.ce, .int .i64 p.book.nat, .slice u.bk.Ap u.bk.np u.bk.cp, .slice u.Am u.nm u.cm, .slice u.At u.nt u.ct] 30)).heap.size = w.heap.size + 1 from by simp] at hk2
 have hF := first_any (b := w.heap.size + 1) (off := 0) (n := 3) (c := 3) (fid := pids) (caps := fun _ => #[.pointer (some ⟨w.heap.size, 0, none⟩)]) (es := ERRS p) hk2.lt rfl (by decide) (fun i hi => by
  have hc := hk2.cell i
  rw [Nat.zero_add, hc]
  match i, hi with
  | 0, _ => rfl
  | 1, _ => rfl
  | 2, _ => rfl) penters (pcl_any ((hp.below hb1).below hb2) (hk1.alloc _))
 have HE : Hid (progE p = firstE (ERRS p)) := hid (progE_first p)
 rw [HE.out]
 obtain ⟨res, hres⟩ : ∃ r, r = firstE (ERRS p) := ⟨_, rfl⟩
 rw [← hres] at hF ⊢
 have HF := hid hF
 have HB := hid (hb1.trans (hb2.mono hb1.size))
 clear hb1 hk1 hb2 hk2 hF hp hres HE
 go_in
 go_wp2_with fail
 refine (HF.out).mono ?_
 rintro e w1 ⟨rfl, hb3⟩
 have HB3 := bto HB hb3
 clear hb3
 go_wp2_with fail
 go_ret
 exact ⟨rfl, HB3.out⟩
theorem encode_any {w : World} {u : PgVal} {p : Pg} (hp : ProgV w u p) :
 Calls Try.prog 8 #[.agg #[.int .i64 p.book.vars, .slice u.bk.Ao u.bk.no u.bk.co, .slice u.bk.Ae u.bk.ne u.bk.ce, .int .i64 p.book.nat, .slice u.bk.Ap u.bk.np u.bk.cp, .slice u.Am u.nm u.cm, .slice u.At u.nt u.ct]] w (BytsP (encodeQ p) w) := by
 have hmf : ∀ (fn : Fn) (first cap : Array Value) (w : World), (Instr.makeFunc fn first cap).run Try.prog w = .ok (.func fn first cap) w := fun _ _ _ _ => rfl
 have hb1 := below_alloc w (.cells #[.int .i64 p.book.vars, .slice u.bk.Ao u.bk.no u.bk.co, .slice u.bk.Ae u.bk.ne u.bk.ce, .int .i64 p.book.nat, .slice u.bk.Ap u.bk.np u.bk.cp, .slice u.Am u.nm u.cm, .slice u.At u.nt u.ct] 30)
 have hk1 := Blk.new w 30 #[.int .i64 p.book.vars, .slice u.bk.Ao u.bk.no u.bk.co, .slice u.bk.Ae u.bk.ne u.bk.ce, .int .i64 p.book.nat, .slice u.bk.Ap u.bk.np u.bk.cp, .slice u.Am u.nm u.cm, .slice u.At u.nt u.ct]
 have hf := pfits_any (hp.below hb1)
 have HP1 := hid (hp.below hb1)
 have HB1 := hid hb1
 have HK1 := hid hk1
 have z := hk1.cell
 obtain ⟨q, hq⟩ : ∃ q, q = encodeQ p := ⟨_, rfl⟩
 rw [← hq]
 have HQ := hid hq
 by_cases he : progE p = 0
 rotate_left
 · have he1 : (progE p != 0) = true := by simpa using he
   have HQ2 : Hid (q = ([], progE p)) := hid (by rw [hq]; unfold encodeQ; rw [if_pos he])
   obtain ⟨z9, hz9⟩ : ∃ z, z = progE p := ⟨_, rfl⟩
   rw [← hz9] at hf he1 HQ2
   have HF := hid hf
   clear hb1 hk1 hf hp hq he hz9
   go_in
   go_wp2_with fail
   refine (HF.out).mono ?_
   rintro e w2 ⟨rfl, hb2⟩
   have HB2 := bto HB1 hb2
   clear hb2
   go_wp2_with fail
   go_ret2
   rw [HQ2.out]
   exact ⟨HB2.out, none, 0, rfl, OwnB.nil _ _⟩
 rw [he] at hf
 have hw := progW_of he
 have HW := hid hw
 have hle := pgBs_le hw
 have HE : Hid (pgBs p = (((((([] ++ formL p.book.vars.toNat) ++ (formL p.book.orders.length ++ p.book.orders.flatMap orderBs)) ++ (formL p.book.entries.length ++ p.book.entries.flatMap entryBs)) ++ formL (p.book.nat + 1).toNat) ++ (formL p.book.prims.length ++ p.book.prims.flatMap primBs)) ++ rowBs p.main) ++ rowBs p.type) := hid (by simp [pgBs, progBs, bookBs])
 have HQ2 : Hid (q = if 65536 < (pgBs p).length then ([], 6) else (pgBs p, 0)) := hid (by rw [hq]; unfold encodeQ; rw [if_neg (by simp [he])])
 obtain ⟨q0, hq0⟩ : ∃ q : List Nat, q = [] := ⟨_, rfl⟩
 rw [HE.out] at hle HQ2
 obtain ⟨q1, hq1⟩ : ∃ q, q = ([] : List Nat) ++ formL p.book.vars.toNat := ⟨_, rfl⟩
 have e1 : ([] : List Nat).length ≤ q1.length := by rw [hq1, List.length_append]; omega
 rw [← hq1] at hle HQ2
 obtain ⟨q2, hq2⟩ : ∃ q, q = q1 ++ (formL p.book.orders.length ++ p.book.orders.flatMap orderBs) := ⟨_, rfl⟩
 have e2 : q1.length ≤ q2.length := by rw [hq2, List.length_append]; omega
 rw [← hq2] at hle HQ2
 obtain ⟨q3, hq3⟩ : ∃ q, q = q2 ++ (formL p.book.entries.length ++ p.book.entries.flatMap entryBs) := ⟨_, rfl⟩
 have e3 : q2.length ≤ q3.length := by rw [hq3, List.length_append]; omega
 rw [← hq3] at hle HQ2
 obtain ⟨q4, hq4⟩ : ∃ q, q = q3 ++ formL (p.book.nat + 1).toNat := ⟨_, rfl⟩
 have e4 : q3.length ≤ q4.length := by rw [hq4, List.length_append]; omega
 rw [← hq4] at hle HQ2
 obtain ⟨q5, hq5⟩ : ∃ q, q = q4 ++ (formL p.book.prims.length ++ p.book.prims.flatMap primBs) := ⟨_, rfl⟩
 have e5 : q4.length ≤ q5.length := by rw [hq5, List.length_append]; omega
 rw [← hq5] at hle HQ2
 obtain ⟨q6, hq6⟩ : ∃ q, q = q5 ++ rowBs p.main := ⟨_, rfl⟩
 have e6 : q5.length ≤ q6.length := by rw [hq6, List.length_append]; omega
 rw [← hq6] at hle HQ2
 obtain ⟨q7, hq7⟩ : ∃ q, q = q6 ++ rowBs p.type := ⟨_, rfl⟩
 have e7 : q6.length ≤ q7.length := by rw [hq7, List.length_append]; omega
 rw [← hq7] at hle HQ2
 have HQ11 := hid hq1
 have HL1 : Hid (q1.length ≤ 4500000000000) := hid (by omega)
 have HQ12 := hid hq2
 have HL2 : Hid (q2.length ≤ 4500000000000) := hid (by omega)
 have HQ13 := hid hq3
 have HL3 : Hid (q3.length ≤ 4500000000000) := hid (by omega)
 have HQ14 := hid hq4
 have HL4 : Hid (q4.length ≤ 4500000000000) := hid (by omega)
 have HQ15 := hid hq5
 have HL5 : Hid (q5.length ≤ 4500000000000) := hid (by omega)
 have HQ16 := hid hq6
 have HL6 : Hid (q6.length ≤ 4500000000000) := hid (by omega)
 have HQ17 := hid hq7
 have HL7 : Hid (q7.length ≤ 4500000000000) := hid (by omega)
 have HL0 : Hid (([] : List Nat).length ≤ 4500000000000) := hid (by decide)
 have HV1 : Hid (0 ≤ p.book.vars ∧ p.book.vars ≤ 255) := hid hw.1.1
 have HV2 : Hid (0 ≤ p.book.nat + 1 ∧ p.book.nat + 1 ≤ 255) := hid hw.2.1
 have hn1 : -1 ≤ p.book.nat := by have := hw.2.1; omega
 have hn2 : p.book.nat ≤ 254 := by have := hw.2.1; omega
 have HF := hid hf
 clear hb1 hk1 hf hp hq he hw hle hq0 hq1 e1 hq2 e2 hq3 e3 hq4 e4 hq5 e5 hq6 e6 hq7 e7
 go_in
 go_wp2_with fail
 refine (HF.out).mono ?_
 rintro e w2 ⟨rfl, hb2⟩
 have HB2 := bto HB1 hb2
 have HP2 := hid (HP1.out.below hb2)
 have HK2 := hid (HK1.out.below hb2 HK1.out.lt)
 have hbw := below_alloc w2 (.cells #[.slice none 0 0] 66)
 have HS0 : Hid (WrS w2 w2.heap.size [] (w2.alloc (.cells #[.slice none 0 0] 66))) := hid ⟨hbw, ⟨none, 0, Blk.new _ _ _, OwnB.nil _ _⟩, Nat.le_refl _, fun x hx => by cases hx⟩
 have HN0 := hid (num_one (b := w2.heap.size + 1) HS0.out (by simp) HV1.out.1 HV1.out.2 HL0.out)
 rw [← HQ11.out] at HN0
 clear z
 have z0 := (HK2.out.below hbw HK2.out.lt).cell
 clear hb2 hbw
 go_wp2_with fail
 refine (HN0.out).mono ?_
 rintro e1 v1 ⟨rfl, -, hs1⟩
 have HS1 := hid hs1
 clear z0
 have z1 := (HK2.out.below hs1.bel HK2.out.lt).cell
 clear hs1
 go_wp2_with fail
 have HC2 := hid (eachO_any HS1.out HP2.out.book.orders HW.out.1.2.1.2 (by have h1 := HW.out.1.2.1.1; have h2 := HP2.out.book.orders.len; omega) (by rw [← HQ12.out]; exact HL2.out))
 rw [← HQ12.out] at HC2
 refine (HC2.out).mono ?_
 rintro e2 v2 ⟨rfl, -, hs2⟩
 have HS2 := hid hs2
 clear z1
 have z2 := (HK2.out.below hs2.bel HK2.out.lt).cell
 clear hs2
 go_wp2_with fail
 have HC3 := hid (eachE_any HS2.out HP2.out.book.entries HW.out.1.2.2.2 (by have h1 := HW.out.1.2.2.1; have h2 := HP2.out.book.entries.len; omega) (by rw [← HQ13.out]; exact HL3.out))
 rw [← HQ13.out] at HC3
 refine (HC3.out).mono ?_
 rintro e3 v3 ⟨rfl, -, hs3⟩
 have HS3 := hid hs3
 clear z2
 have z3 := (HK2.out.below hs3.bel HK2.out.lt).cell
 clear hs3
 go_wp2_with fail
 have HC4 := hid (num_one (b := v3.heap.size) HS3.out rfl HV2.out.1 HV2.out.2 HL3.out)
 rw [← HQ14.out] at HC4
 refine (HC4.out).mono ?_
 rintro e4 v4 ⟨rfl, -, hs4⟩
 have HS4 := hid hs4
 clear z3
 have z4 := (HK2.out.below hs4.bel HK2.out.lt).cell
 clear hs4
 go_wp2_with fail
 have HC5 := hid (eachP_any HS4.out HP2.out.book.prims HW.out.2.2.1.2 (by have h1 := HW.out.2.2.1.1; have h2 := HP2.out.book.prims.len; omega) (by rw [← HQ15.out]; exact HL5.out))
 rw [← HQ15.out] at HC5
 refine (HC5.out).mono ?_
 rintro e5 v5 ⟨rfl, -, hs5⟩
 have HS5 := hid hs5
 clear z4
 have z5 := (HK2.out.below hs5.bel HK2.out.lt).cell
 clear hs5
 go_wp2_with fail
 have HC6 := hid (wrow_any HS5.out (HP2.out.main.below HS5.out.bel) HW.out.2.2.2.1 HL5.out)
 rw [← HQ16.out] at HC6
 refine (HC6.out).mono ?_
 rintro e6 v6 ⟨rfl, -, hs6⟩
 have HS6 := hid hs6
 clear z5
 have z6 := (HK2.out.below hs6.bel HK2.out.lt).cell
 clear hs6
 go_wp2_with fail
 have HC7 := hid (wrow_any HS6.out (HP2.out.type.below HS6.out.bel) HW.out.2.2.2.2 HL6.out)
 rw [← HQ17.out] at HC7
 refine (HC7.out).mono ?_
 rintro e7 v7 ⟨rfl, -, hs7⟩
 obtain ⟨A7, c7, hblk, hown⟩ := hs7.row
 have HO7 := hid (own_baseB hown (B' := w.heap.size) (by have := HB2.out.size; omega))
 have HB7 := hid (HB2.out.trans (hs7.bel.mono HB2.out.size))
 have y7 := hblk.cell 0
 have hl7 := HL7.out
 clear z6 hs7 hblk hown
 by_cases hbig : 65536 < q7.length
 · have d1 : decide ((q7.length : Int) > 65536) = true := decide_eq_true (by omega)
   have d2 : decide (65536 < (q7.length : Int)) = true := decide_eq_true (by omega)
   have d3 : decide (65536 < q7.length) = true := decide_eq_true hbig
   have HQ3 : Hid (q = ([], 6)) := hid (HQ2.out.trans (if_pos hbig))
   clear hbig
   go_wp2_with fail
   go_ret2
   rw [HQ3.out]
   exact ⟨HB7.out, none, 0, rfl, OwnB.nil _ _⟩
 have d1 : decide ((q7.length : Int) > 65536) = false := decide_eq_false (by omega)
 have d2 : decide (65536 < (q7.length : Int)) = false := decide_eq_false (by omega)
 have d3 : decide (65536 < q7.length) = false := decide_eq_false hbig
 have HQ3 : Hid (q = (q7, 0)) := hid (HQ2.out.trans (if_neg hbig))
 clear hbig
 go_wp2_with fail
 go_ret2
 rw [HQ3.out]
 exact ⟨HB7.out, A7, c7, rfl, HO7.out⟩
end Go.Proofs.Ytplecfbdchmogaa
