/- reduce: Fits, Step, run, Whnf. -/
import Derived.Test.YtjoddliplahgkaaDWhF
namespace Go.Proofs.Ytjoddliplahgkaa
open Go.Lib (hid)
set_option maxHeartbeats 4000000
set_option maxRecDepth 100000
set_option linter.unusedVariables false
set_option linter.unusedSimpArgs false
open Go.RowKit
structure CtxB (R : Nat → Prop) (w : World) (A : Option Addr) (n c : Nat) (bs : List (List Nd × List Nd)) : Prop where
 len : bs.length = n
 cap : n ≤ c
 few : n ≤ 2932031007402
 nul : A = none → c = 0
 mem : 0 < n → ∃ b off, A = some ⟨b, off, none⟩ ∧ R b ∧ ∀ k, k < n → ∃ A1 n1 c1 A2 n2 c2, w.cell? ⟨b, off + k * 2, none⟩ = some (.slice A1 n1 c1) ∧ w.cell? ⟨b, off + k * 2 + 1, none⟩ = some (.slice A2 n2 c2) ∧ TermR R w A1 n1 c1 (bs.getD k ([], [])).1 ∧ TermR R w A2 n2 c2 (bs.getD k ([], [])).2
theorem CtxB.keep {R R' : Nat → Prop} {w w' : World} {A : Option Addr} {n c : Nat} {bs : List (List Nd × List Nd)} (h : CtxB R w A n c bs) (hR : ∀ b, R b → R' b ∧ ∀ o, w'.cell? ⟨b, o, none⟩ = w.cell? ⟨b, o, none⟩) : CtxB R' w' A n c bs :=
 ⟨h.len, h.cap, h.few, h.nul, fun hn => by
  obtain ⟨b, off, e, hb, hm⟩ := h.mem hn
  refine ⟨b, off, e, (hR b hb).1, fun k hk => ?_⟩
  obtain ⟨A1, n1, c1, A2, n2, c2, h1, h2, h3, h4⟩ := hm k hk
  exact ⟨A1, n1, c1, A2, n2, c2, ((hR b hb).2 _).trans h1, ((hR b hb).2 _).trans h2, h3.keep hR, h4.keep hR⟩⟩
theorem CtxB.below {w w' : World} {A : Option Addr} {n c : Nat} {bs : List (List Nd × List Nd)} (h : CtxB (· < w.heap.size) w A n c bs) (hb : Below w.heap.size w w') : CtxB (· < w'.heap.size) w' A n c bs := h.keep fun q hq => ⟨Nat.lt_of_lt_of_le hq hb.size, fun o => hb.cell (p := ⟨q, o, none⟩) hq⟩
theorem CtxB.vals {R : Nat → Prop} {w : World} {A : Option Addr} {n c : Nat} {bs : List (List Nd × List Nd)} (h : CtxB R w A n c bs) (hn : n ≤ 1000000) : CtxW R w A n c (bs.map (·.2)) :=
 ⟨by rw [List.length_map]; exact h.len, h.cap, hn, h.nul, fun hp => by
  obtain ⟨b, off, e, hb, hm⟩ := h.mem hp
  refine ⟨b, off, e, hb, fun k hk => ?_⟩
  obtain ⟨A1, n1, c1, A2, n2, c2, h1, h2, h3, h4⟩ := hm k hk
  refine ⟨A1, n1, c1, A2, n2, c2, h1, h2, ?_⟩
  have hl : k < bs.length := by rw [h.len]; exact hk
  have e2 : (bs.map (·.2)).getD k [] = (bs.getD k ([], [])).2 := by
   rw [List.getD_eq_getElem?_getD, List.getD_eq_getElem?_getD, List.getElem?_map, List.getElem?_eq_getElem hl]
   rfl
  rw [e2]
  exact h4⟩
def ctxE (b : Bk) : Nat → List (List Nd × List Nd) → Int
 | _, [] => 0
 | i, x :: r => if fitsE b i x.1 ≠ 0 then fitsE b i x.1 else if x.2.length = 0 then ctxE b (i + 1) r else if fitsE b i x.2 ≠ 0 then fitsE b i x.2 else ctxE b (i + 1) r
def fitsC (b : Bk) (bs : List (List Nd × List Nd)) (l : List Nd) : Int := if rightE b ≠ 0 then rightE b else if 256 < bs.length then 5 else if ctxE b 0 bs ≠ 0 then ctxE b 0 bs else fitsE b bs.length l
abbrev cvO (bs : List (List Nd × List Nd)) : List (List Nd) := bs.map (·.2)
theorem ctxE_at {b : Bk} : ∀ (bs : List (List Nd × List Nd)) (i : Nat), ctxE b i bs = 0 → ∀ k, k < bs.length → ((cvO bs).getD k [] = [] ∨ fitsE b ((i + k : Nat) : Int) ((cvO bs).getD k []) = 0) ∧ fitsE b ((i + k : Nat) : Int) (bs.getD k ([], [])).1 = 0
 | [], _, _, k, hk => absurd hk (by simp)
 | x :: r, i, h, k, hk => by
  simp only [ctxE] at h
  split at h
  · rename_i h1; exact absurd h h1
  rename_i h1
  have h1' : fitsE b i x.1 = 0 := by simpa using h1
  split at h
  · rename_i h2
    cases k with
    | zero => exact ⟨.inl (by simpa using h2), by simpa using h1'⟩
    | succ k =>
     have := ctxE_at r (i + 1) h k (by simpa using hk)
     rw [show i + 1 + k = i + (k + 1) from by omega] at this
     simpa using this
  · rename_i h2
    split at h
    · rename_i h3; exact absurd h h3
    rename_i h3
    have h3' : fitsE b i x.2 = 0 := by simpa using h3
    cases k with
    | zero => exact ⟨.inr (by simpa using h3'), by simpa using h1'⟩
    | succ k =>
     have := ctxE_at r (i + 1) h k (by simpa using hk)
     rw [show i + 1 + k = i + (k + 1) from by omega] at this
     simpa using this
theorem fits_c {b : Bk} {bs : List (List Nd × List Nd)} {l : List Nd} (h : fitsC b bs l = 0) : rightE b = 0 ∧ bs.length ≤ 256 ∧ CtxG b (cvO bs) ∧ l = rowT (treeAt l) ∧ FitT b ((cvO bs).length : Int) (treeAt l) := by
 unfold fitsC at h
 split at h
 · rename_i h1; exact absurd h h1
 rename_i h1
 split at h
 · cases h
 rename_i h2
 split at h
 · rename_i h3; exact absurd h h3
 rename_i h3
 obtain ⟨e1, e2⟩ := fit_of h
 refine ⟨by simpa using h1, by omega, ⟨by rw [List.length_map]; omega, fun k hk => ?_⟩, e1, by rw [List.length_map]; exact e2⟩
 rw [List.length_map] at hk
 rcases (ctxE_at bs 0 (by simpa using h3) k hk).1 with h4 | h4
 · exact .inl h4
 rw [Nat.zero_add] at h4
 obtain ⟨e3, e4⟩ := fit_of h4
 exact .inr ⟨_, e3, e4⟩
theorem c_fits {b : Bk} {bs : List (List Nd × List Nd)} {l : List Nd} {x : TT} (h : fitsC b bs l = 0) (hx : FitT b ((cvO bs).length : Int) x) : fitsC b bs (rowT x) = 0 := by
 have hx2 := hx.fits (fits_c h).1 (by omega)
 rw [List.length_map] at hx2
 unfold fitsC at h ⊢
 split at h
 · rename_i h1; exact absurd h h1
 rename_i h1
 rw [if_neg h1]
 split at h
 · cases h
 rename_i h2
 rw [if_neg h2]
 split at h
 · rename_i h3; exact absurd h h3
 rename_i h3
 rw [if_neg h3]
 exact hx2
theorem rfits_any {w : World} {v : BkVal} {b : Bk} (hb : BookV w v b) {cA : Option Addr} {cn cc : Nat} {bs : List (List Nd × List Nd)} (hc : CtxB (· < w.heap.size) w cA cn cc bs) {A : Option Addr} {n c : Nat} {l : List Nd} (ht : TermV w A n c l) :
 Calls Try.prog 11 #[.agg #[.int .i64 b.vars, .slice v.Ao v.no v.co, .slice v.Ae v.ne v.ce, .int .i64 b.nat, .slice v.Ap v.np v.cp], .slice cA cn cc, .slice A n c] w (ErrP (fitsC b bs l) w) := by
 obtain ⟨w1, hw1⟩ : ∃ w1 : World, w1 = w.alloc (.cells #[.int .i64 b.vars, .slice v.Ao v.no v.co, .slice v.Ae v.ne v.ce, .int .i64 b.nat, .slice v.Ap v.np v.cp] 26) := ⟨_, rfl⟩
 have hb1 : Below w.heap.size w w1 := by rw [hw1]; exact below_alloc _ _
 have hk1 : Blk w1 w.heap.size 26 #[.int .i64 b.vars, .slice v.Ao v.no v.co, .slice v.Ae v.ne v.ce, .int .i64 b.nat, .slice v.Ap v.np v.cp] := by rw [hw1]; exact Blk.new _ _ _
 have HRT := hid (right_any (hb.below hb1))
 have HFI := hid (fun (W : World) (hB : Below w1.heap.size w1 W) (free : Int) (A' : Option Addr) (n' c' : Nat) (l' : List Nd) (h : TermV W A' n' c' l') => fits_any ((hb.below hb1).below hB) free h)
 have HT := hid (ht.below hb1)
 have HC := hid (hc.below hb1)
 have HB1 := hid hb1
 have HK1 := hid hk1
 have hlen := hc.len
 have hfew := hc.few
 obtain ⟨res, hres⟩ : ∃ r, r = fitsC b bs l := ⟨_, rfl⟩
 rw [← hres]
 unfold fitsC at hres
 rw [hlen] at hres
 have HRES := hid hres
 have HLEN := hid hlen
 have hl1 : w.heap.size < w1.heap.size := hk1.lt
 have z1 := hk1.cell
 clear hb hc ht hb1 hk1 hres hlen
 obtain ⟨re, hre⟩ : ∃ z, z = rightE b := ⟨_, rfl⟩
 rw [← hre] at HRT HRES
 clear hre
 go_in
 go_upto_region 1 with fail
 rw [← hw1]
 clear hw1
 by_cases h0 : re = 0
 rotate_left
 · have d0 : (re != 0) = true := by simpa using h0
   have HR : Hid (res = re) := hid (by rw [HRES.out, if_pos h0])
   clear h0
   go_wp2_with fail
   refine (HRT.out).mono ?_
   rintro e w2 ⟨rfl, hb2⟩
   have HB2 := bto HB1 hb2
   clear hb2
   go_wp2_with fail
   go_ret
   rw [HR.out]
   exact ⟨rfl, HB2.out⟩
 subst h0
 have HRES2 : Hid (res = if 256 < cn then 5 else if ctxE b 0 bs ≠ 0 then ctxE b 0 bs else fitsE b cn l) := hid (by have h := HRES.out; rw [if_neg (by simp)] at h; exact h)
 by_cases h1 : 256 < cn
 · have d1 : decide ((cn : Int) > 256) = true := decide_eq_true (by omega)
   have d2 : decide (256 < cn) = true := decide_eq_true h1
   have d3 : decide ((256 : Int) < (cn : Int)) = true := decide_eq_true (by omega)
   have HR : Hid (res = 5) := hid (by rw [HRES2.out, if_pos h1])
   clear h1
   go_wp2_with fail
   refine (HRT.out).mono ?_
   rintro e w2 ⟨rfl, hb2⟩
   have HB2 := bto HB1 hb2
   clear hb2
   go_wp2_with fail
   go_ret
   rw [HR.out]
   exact ⟨rfl, HB2.out⟩
 have d1 : decide ((cn : Int) > 256) = false := decide_eq_false (by omega)
 have d2 : decide (256 < cn) = false := decide_eq_false h1
 have d3 : decide ((256 : Int) < (cn : Int)) = false := decide_eq_false (by omega)
 have HRES3 : Hid (res = if ctxE b 0 bs ≠ 0 then ctxE b 0 bs else fitsE b cn l) := hid (by have h := HRES2.out; rw [if_neg h1] at h; exact h)
 clear h1
 go_wp2_with fail
 refine (HRT.out).mono ?_
 rintro e w2 ⟨rfl, hb2⟩
 have HB2 := hid hb2
 clear hb2
 go_wp2_with fail
 go_loopw [22] (fun iv wr => ∃ i : Nat, i ≤ cn ∧ iv = .int .i64 (i : Int) ∧ Hid (ctxE b 0 bs = ctxE b i (bs.drop i)) ∧ Hid (Below w1.heap.size w1 wr)) (fun iv _ => cn - (intOf iv).toNat)
 case atStart => exact ⟨0, by omega, rfl, hid rfl, HB2⟩
 case round =>
  obtain ⟨i, hi, rfl, hce, hbw⟩ := hrel
  have zr := fun k => (hbw.out.cell (p := ⟨w.heap.size, k, none⟩) hl1).trans (z1 k)
  have hlr : w.heap.size < wr.heap.size := Nat.lt_of_lt_of_le hl1 hbw.out.size
  by_cases hlt : i < cn
  rotate_left
  · have e1 : decide ((i : Int) < (cn : Int)) = false := decide_eq_false (by omega)
    have e2 : decide (i < cn) = false := decide_eq_false hlt
    have HR : Hid (res = fitsE b cn l) := hid (by
     have h := hce.out
     rw [List.drop_of_length_le (by rw [HLEN.out]; omega)] at h
     have h2 : ctxE b 0 bs = 0 := h
     rw [HRES3.out, h2, if_neg (by simp)])
    have HFL := hid (HFI.out wr hbw.out cn A n c l (HT.out.below hbw.out))
    have HBW := hid hbw.out
    rw [← HR.out] at HFL
    clear hce hbw hlt
    go_wp2_with fail
    refine (HFL.out).mono ?_
    rintro e w3 ⟨rfl, hb3⟩
    have HB3 : Hid (Below w.heap.size w w3) := hid ((HB1.out.trans (HBW.out.mono HB1.out.size)).trans (hb3.mono (by have := HB1.out.size; have := HBW.out.size; omega)))
    clear hb3
    go_wp2_with fail
    go_ret
    exact ⟨rfl, HB3.out⟩
  have e1 : decide ((i : Int) < (cn : Int)) = true := decide_eq_true (by omega)
  have e2 : decide (i < cn) = true := decide_eq_true hlt
  have e3 : (i : Int) < (cn : Int) := by omega
  obtain ⟨bb, oo, hcA, hbb, hm⟩ := HC.out.mem (by omega)
  obtain ⟨A1, n1, c1, A2, n2, c2, y1, y2, t1, t2⟩ := hm i hlt
  have il : i < bs.length := by rw [HLEN.out]; exact hlt
  have hdr : bs.drop i = bs.getD i ([], []) :: bs.drop (i + 1) := by
   rw [List.drop_eq_getElem_cons il, List.getD_eq_getElem?_getD, List.getElem?_eq_getElem il]
   rfl
  generalize bs.getD i ([], []) = x at *
  have HT1 := hid t1
  have HT2 := hid t2
  have hn2 : x.2.length = n2 := t2.len
  have hc3 := hce.out
  rw [hdr] at hc3
  simp only [ctxE] at hc3
  rw [hn2] at hc3
  have HCE := hid hc3
  obtain ⟨f1, hf1⟩ : ∃ z, z = fitsE b i x.1 := ⟨_, rfl⟩
  obtain ⟨f2, hf2⟩ : ∃ z, z = fitsE b i x.2 := ⟨_, rfl⟩
  rw [← hf1, ← hf2] at HCE
  have u1 := (hbw.out.cell (p := ⟨bb, oo + i * 2, none⟩) hbb).trans y1
  have u2 := (hbw.out.cell (p := ⟨bb, oo + i * 2 + 1, none⟩) hbb).trans y2
  have HBW := hid hbw.out
  have HA := hid (below_alloc wr (.cells #[.slice A1 n1 c1, .slice A2 n2 c2] 43))
  have HKA := hid (Blk.new wr 43 #[.slice A1 n1 c1, .slice A2 n2 c2])
  have HBA : Hid (Below w1.heap.size w1 (wr.alloc (.cells #[.slice A1 n1 c1, .slice A2 n2 c2] 43))) := hid (hbw.out.alloc hbw.out.size _)
  have HF1 := hid (HFI.out _ HBA.out i A1 n1 c1 x.1 (TermR.keep t1 (R' := (· < (wr.alloc (.cells #[.slice A1 n1 c1, .slice A2 n2 c2] 43)).heap.size)) fun q hq => ⟨Nat.lt_of_lt_of_le hq HBA.out.size, fun o => HBA.out.cell (p := ⟨q, o, none⟩) hq⟩))
  have HF2 := hid (fun (W : World) (hB : Below w1.heap.size w1 W) => HFI.out W hB i A2 n2 c2 x.2 (TermR.keep t2 (R' := (· < W.heap.size)) fun q hq => ⟨Nat.lt_of_lt_of_le hq hB.size, fun o => hB.cell (p := ⟨q, o, none⟩) hq⟩))
  rw [← hf1] at HF1
  rw [← hf2] at HF2
  have za := HKA.out.cell
  have zra := fun k => ((below_alloc wr (.cells #[.slice A1 n1 c1, .slice A2 n2 c2] 43)).cell (p := ⟨w.heap.size, k, none⟩) hlr).trans (zr k)
  have hlw := HBW.out.size
  clear hce hbw hm y1 y2 t1 t2 hdr hc3 hf1 hf2 hn2 il z1
  subst hcA
  by_cases g1 : f1 = 0
  rotate_left
  · have d5 : (f1 != 0) = true := by simpa using g1
    have HR : Hid (res = f1) := hid (by have h := HCE.out; rw [if_pos g1] at h; rw [HRES3.out, h, if_pos g1])
    clear g1
    go_wp2_with fail
    refine (HF1.out).mono ?_
    rintro e w3 ⟨rfl, hb3⟩
    have HB3 : Hid (Below w.heap.size w w3) := hid ((HB1.out.trans (HBA.out.mono HB1.out.size)).trans (hb3.mono (by have := HB1.out.size; have := HBA.out.size; omega)))
    clear hb3
    go_wp2_with fail
    go_ret
    rw [HR.out]
    exact ⟨rfl, HB3.out⟩
  have HCE2 : Hid (ctxE b 0 bs = if n2 = 0 then ctxE b (i + 1) (bs.drop (i + 1)) else if f2 ≠ 0 then f2 else ctxE b (i + 1) (bs.drop (i + 1))) := hid (by have h := HCE.out; rw [if_neg (by simpa using g1)] at h; exact h)
  subst g1
  by_cases g2 : n2 = 0
  · have d5 : ((n2 : Int) == 0) = true := by simpa using g2
    have d6 : (n2 == 0) = true := by simpa using g2
    have HNX : Hid (ctxE b 0 bs = ctxE b (i + 1) (bs.drop (i + 1))) := hid (by have h := HCE2.out; rw [if_pos g2] at h; exact h)
    clear g2
    go_wp2_with fail
    refine (HF1.out).mono ?_
    rintro e w3 ⟨rfl, hb3⟩
    have HB3 : Hid (Below w1.heap.size w1 w3) := bto HBA hb3
    have HK3 := hid (HKA.out.below hb3 HKA.out.lt)
    have z3 := HK3.out.cell
    clear hb3 za zra u1 u2
    go_wp2_with fail
    go_roundw
    case rel => exact ⟨i + 1, by omega, by go_num, HNX, HB3⟩
    case measure => simp [intOf]; omega
  have d5 : ((n2 : Int) == 0) = false := by simpa using g2
  have d6 : (n2 == 0) = false := by simpa using g2
  have HCE3 : Hid (ctxE b 0 bs = if f2 ≠ 0 then f2 else ctxE b (i + 1) (bs.drop (i + 1))) := hid (by have h := HCE2.out; rw [if_neg g2] at h; exact h)
  clear g2
  by_cases g3 : f2 = 0
  rotate_left
  · have d7 : (f2 != 0) = true := by simpa using g3
    have HR : Hid (res = f2) := hid (by have h := HCE3.out; rw [if_pos g3] at h; rw [HRES3.out, h, if_pos g3])
    clear g3
    go_wp2_with fail
    refine (HF1.out).mono ?_
    rintro e w3 ⟨rfl, hb3⟩
    have HB3 : Hid (Below w1.heap.size w1 w3) := bto HBA hb3
    have HK3 := hid (HKA.out.below hb3 HKA.out.lt)
    have z3 := HK3.out.cell
    have zr3 := fun k => (hb3.cell (p := ⟨w.heap.size, k, none⟩) (by simp; omega)).trans (zra k)
    clear hb3 za zra u1 u2
    go_wp2_with fail
    refine (HF2.out w3 HB3.out).mono ?_
    rintro e w4 ⟨rfl, hb4⟩
    have HB4 : Hid (Below w.heap.size w w4) := hid ((HB1.out.trans (HB3.out.mono HB1.out.size)).trans (hb4.mono (by have := HB1.out.size; have := HB3.out.size; omega)))
    clear hb4 z3 zr3
    go_wp2_with fail
    go_ret
    rw [HR.out]
    exact ⟨rfl, HB4.out⟩
  have HNX : Hid (ctxE b 0 bs = ctxE b (i + 1) (bs.drop (i + 1))) := hid (by have h := HCE3.out; rw [if_neg (by simpa using g3)] at h; exact h)
  subst g3
  go_wp2_with fail
  refine (HF1.out).mono ?_
  rintro e w3 ⟨rfl, hb3⟩
  have HB3 : Hid (Below w1.heap.size w1 w3) := bto HBA hb3
  have HK3 := hid (HKA.out.below hb3 HKA.out.lt)
  have z3 := HK3.out.cell
  have zr3 := fun k => (hb3.cell (p := ⟨w.heap.size, k, none⟩) (by simp; omega)).trans (zra k)
  clear hb3 za zra u1 u2
  go_wp2_with fail
  refine (HF2.out w3 HB3.out).mono ?_
  rintro e w4 ⟨rfl, hb4⟩
  have HB4 : Hid (Below w1.heap.size w1 w4) := bto HB3 hb4
  clear hb4 z3 zr3
  go_wp2_with fail
  go_roundw
  case rel => exact ⟨i + 1, by omega, by go_num, HNX, HB4⟩
  case measure => simp [intOf]; omega
def stepC (b : Bk) (bs : List (List Nd × List Nd)) (l : List Nd) : List Nd × Bool × Int := if fitsC b bs l ≠ 0 then ([], false, fitsC b bs l) else match stF b (cvO bs) (szT (treeAt l) + 1) (hdW (treeAt l)) 4096 with
 | .no => ([], false, 0)
 | .big => ([], false, 9)
 | .yes y => (rowT (rowF y), true, 0)
def StepO (q : List Nd × Bool × Int) (w : World) (e : Ending) (w' : World) : Prop := Below w.heap.size w w' ∧ ∃ A n c, e = .returned (.tuple #[.slice A n c, .bool q.2.1, .int .i64 q.2.2]) ∧ OwnN w' w.heap.size (.slice A n c) q.1
theorem own_none (w : World) (base : Nat) : OwnN w base (.slice none 0 0) [] := OwnN.nil _ _
theorem rstep_any {w : World} {v : BkVal} {b : Bk} (hb : BookV w v b) {cA : Option Addr} {cn cc : Nat} {bs : List (List Nd × List Nd)} (hc : CtxB (· < w.heap.size) w cA cn cc bs) {A : Option Addr} {n c : Nat} {l : List Nd} (ht : TermV w A n c l) :
 Calls Try.prog 10 #[.agg #[.int .i64 b.vars, .slice v.Ao v.no v.co, .slice v.Ae v.ne v.ce, .int .i64 b.nat, .slice v.Ap v.np v.cp], .slice cA cn cc, .slice A n c] w (StepO (stepC b bs l) w) := by
 obtain ⟨w1, hw1⟩ : ∃ w1 : World, w1 = w.alloc (.cells #[.int .i64 b.vars, .slice v.Ao v.no v.co, .slice v.Ae v.ne v.ce, .int .i64 b.nat, .slice v.Ap v.np v.cp] 26) := ⟨_, rfl⟩
 have hb1 : Below w.heap.size w w1 := by rw [hw1]; exact below_alloc _ _
 have hk1 : Blk w1 w.heap.size 26 #[.int .i64 b.vars, .slice v.Ao v.no v.co, .slice v.Ae v.ne v.ce, .int .i64 b.nat, .slice v.Ap v.np v.cp] := by rw [hw1]; exact Blk.new _ _ _
 have HFI := hid (rfits_any (hb.below hb1) (hc.below hb1) (ht.below hb1))
 have HB1 := hid hb1
 have hl1 : w.heap.size < w1.heap.size := hk1.lt
 have z1 := hk1.cell
 obtain ⟨z, hz⟩ : ∃ z, z = fitsC b bs l := ⟨_, rfl⟩
 rw [← hz] at HFI
 by_cases h0 : z = 0
 rotate_left
 · have d0 : (z != 0) = true := by simpa using h0
   have HQ : Hid (stepC b bs l = ([], false, z)) := hid (by unfold stepC; rw [← hz, if_pos h0])
   clear h0 hz hb hc ht hb1 hk1
   go_in
   go_upto_region 1 with fail
   rw [← hw1]
   clear hw1
   go_wp2_with fail
   refine (HFI.out).mono ?_
   rintro e w2 ⟨rfl, hb2⟩
   have HB2 := bto HB1 hb2
   clear hb2
   go_wp2_with fail
   go_ret3
   rw [HQ.out]
   exact ⟨HB2.out, none, 0, 0, rfl, own_none _ _⟩
 subst h0
 obtain ⟨q1, q2, q3, q4, q5⟩ := fits_c hz.symm
 have hcn : cn ≤ 256 := by have := hc.len; omega
 have HQ : Hid (stepC b bs l = match stF b (cvO bs) (szT (treeAt l) + 1) (hdW (treeAt l)) 4096 with
 | .no => ([], false, 0)
 | .big => ([], false, 9)
 | .yes y => (rowT (rowF y), true, 0)) := hid (by unfold stepC; rw [← hz, if_neg (by simp)])
 have HST := hid (fun (W : World) (hB : Below w.heap.size w W) => coreStep_any (w := W) q1 (hb.below hB) q3 (by have := q3.few; omega) ((hc.below hB).vals (by omega)) (by rw [← q4]; exact ht.below hB) q5)
 generalize stF b (cvO bs) (szT (treeAt l) + 1) (hdW (treeAt l)) 4096 = r at HQ HST
 clear hz hb hc ht hb1 hk1 q1 q3 q4 q5
 go_in
 go_upto_region 1 with fail
 rw [← hw1]
 clear hw1
 go_wp2_with fail
 refine (HFI.out).mono ?_
 rintro e w2 ⟨rfl, hb2⟩
 have HB2 := bto HB1 hb2
 have z2 := fun i => (hb2.cell (p := ⟨w.heap.size, i, none⟩) hl1).trans (z1 i)
 clear hb2
 go_wp2_with fail
 refine (HST.out w2 HB2.out).mono ?_
 rintro e w3 ⟨hb3, h3⟩
 have HP : ∃ (A' : Option Addr) (n' c' : Nat) (is : Bool) (z : Int), e = .returned (.tuple #[.slice A' n' c', .bool is, .int .i64 z]) ∧ Hid (StepO (stepC b bs l) w (.returned (.tuple #[.slice A' n' c', .bool is, .int .i64 z])) w3) := by
  have hbb : Below w.heap.size w w3 := HB2.out.trans (hb3.mono HB2.out.size)
  rw [HQ.out]
  rcases h3 with ⟨hr, he⟩ | ⟨hr, he⟩ | ⟨y, hr, A', n', c', he, ho⟩
  · subst hr; exact ⟨_, _, _, _, _, he, hid ⟨hbb, none, 0, 0, rfl, own_none _ _⟩⟩
  · subst hr; exact ⟨_, _, _, _, _, he, hid ⟨hbb, none, 0, 0, rfl, own_none _ _⟩⟩
  subst hr; exact ⟨_, _, _, _, _, he, hid ⟨hbb, A', n', c', rfl, own_baseN ho HB2.out.size⟩⟩
 obtain ⟨A', n', c', is, z, rfl, HP⟩ := HP
 clear h3 hb3 z2
 go_wp2_with fail
 go_ret3
 exact HP.out
def runC (z : Int) (r : RnR) : List Nd × Int × Int := if z ≠ 0 then ([], 0, z) else match r with
 | .bad z => ([], 0, z)
 | .done l k => (l, (k : Int), 0)
def RunO (q : List Nd × Int × Int) (w : World) (e : Ending) (w' : World) : Prop := Below w.heap.size w w' ∧ ∃ A n c, e = .returned (.tuple #[.slice A n c, .int .i64 q.2.1, .int .i64 q.2.2]) ∧ OwnN w' w.heap.size (.slice A n c) q.1
theorem rrun_any {w : World} {v : BkVal} {b : Bk} (hb : BookV w v b) {cA : Option Addr} {cn cc : Nat} {bs : List (List Nd × List Nd)} (hc : CtxB (· < w.heap.size) w cA cn cc bs) {A : Option Addr} {n c : Nat} {l : List Nd} (ht : TermV w A n c l) (fuel : Int) {fid : FuncId} {r : RnR} (hen : ∀ (args : Array Value) (w : World), (callFunc fid args).run Try.prog w = .ok (.enter fid args) w)
 (hone : fitsC b bs l = 0 → ∀ (W : World), Below w.heap.size w W → Calls Try.prog fid #[.agg #[.int .i64 b.vars, .slice v.Ao v.no v.co, .slice v.Ae v.ne v.ce, .int .i64 b.nat, .slice v.Ap v.np v.cp], .slice cA cn cc, .slice A n c, .int .i64 fuel] W (RunA r W)) :
 Calls Try.prog 19 #[.func (.func fid) #[] #[], .agg #[.int .i64 b.vars, .slice v.Ao v.no v.co, .slice v.Ae v.ne v.ce, .int .i64 b.nat, .slice v.Ap v.np v.cp], .slice cA cn cc, .slice A n c, .int .i64 fuel] w (RunO (runC (fitsC b bs l) r) w) := by
 obtain ⟨w1, hw1⟩ : ∃ w1 : World, w1 = w.alloc (.cells #[.int .i64 b.vars, .slice v.Ao v.no v.co, .slice v.Ae v.ne v.ce, .int .i64 b.nat, .slice v.Ap v.np v.cp] 26) := ⟨_, rfl⟩
 have hb1 : Below w.heap.size w w1 := by rw [hw1]; exact below_alloc _ _
 have hk1 : Blk w1 w.heap.size 26 #[.int .i64 b.vars, .slice v.Ao v.no v.co, .slice v.Ae v.ne v.ce, .int .i64 b.nat, .slice v.Ap v.np v.cp] := by rw [hw1]; exact Blk.new _ _ _
 have HFI := hid (rfits_any (hb.below hb1) (hc.below hb1) (ht.below hb1))
 have HB1 := hid hb1
 have hl1 : w.heap.size < w1.heap.size := hk1.lt
 have z1 := hk1.cell
 obtain ⟨z, hz⟩ : ∃ z, z = fitsC b bs l := ⟨_, rfl⟩
 rw [← hz] at HFI hone ⊢
 by_cases h0 : z = 0
 rotate_left
 · have d0 : (z != 0) = true := by simpa using h0
   have HQ : Hid (runC z r = ([], 0, z)) := hid (by unfold runC; rw [if_pos h0])
   clear h0 hz hb hc ht hb1 hk1 hone
   go_in
   go_upto_region 1 with fail
   rw [← hw1]
   clear hw1
   go_wp2_with fail
   refine (HFI.out).mono ?_
   rintro e w2 ⟨rfl, hb2⟩
   have HB2 := bto HB1 hb2
   clear hb2
   go_wp2_with fail
   go_ret3
   rw [HQ.out]
   exact ⟨HB2.out, none, 0, 0, rfl, own_none _ _⟩
 subst h0
 have HON := hid (hone rfl)
 clear hz hb hc ht hb1 hk1 hone
 go_in
 go_upto_region 1 with fail
 rw [← hw1]
 clear hw1
 go_wp2_with fail
 refine (HFI.out).mono ?_
 rintro e w2 ⟨rfl, hb2⟩
 have HB2 := bto HB1 hb2
 have z2 := fun i => (hb2.cell (p := ⟨w.heap.size, i, none⟩) hl1).trans (z1 i)
 clear hb2
 go_wp2_with fail
 refine (HON.out w2 HB2.out).mono ?_
 rintro e w3 ⟨hb3, h3⟩
 have HP : ∃ (A' : Option Addr) (n' c' : Nat) (k : Int) (z : Int), e = .returned (.tuple #[.slice A' n' c', .int .i64 k, .int .i64 z]) ∧ Hid (RunO (runC 0 r) w (.returned (.tuple #[.slice A' n' c', .int .i64 k, .int .i64 z])) w3) := by
  have hbb : Below w.heap.size w w3 := HB2.out.trans (hb3.mono HB2.out.size)
  unfold runC
  rw [if_neg (by simp)]
  rcases h3 with ⟨z, hr, he⟩ | ⟨l, k, A', n', c', hr, he, ho⟩
  · subst hr; exact ⟨_, _, _, _, _, he, hid ⟨hbb, none, 0, 0, rfl, own_none _ _⟩⟩
  subst hr; exact ⟨_, _, _, _, _, he, hid ⟨hbb, A', n', c', rfl, own_baseN ho HB2.out.size⟩⟩
 obtain ⟨A', n', c', k, z, rfl, HP⟩ := HP
 clear h3 hb3 z2
 go_wp2_with fail
 go_ret3
 exact HP.out
def whnfC (b : Bk) (bs : List (List Nd × List Nd)) (l : List Nd) (fuel : Int) : List Nd × Int × Int := runC (fitsC b bs l) (whQ b (cvO bs) (treeAt l) (clipN fuel))
theorem rwhnf_any {w : World} {v : BkVal} {b : Bk} (hb : BookV w v b) {cA : Option Addr} {cn cc : Nat} {bs : List (List Nd × List Nd)} (hc : CtxB (· < w.heap.size) w cA cn cc bs) {A : Option Addr} {n c : Nat} {l : List Nd} (ht : TermV w A n c l) (fuel : Int) :
 Calls Try.prog 9 #[.agg #[.int .i64 b.vars, .slice v.Ao v.no v.co, .slice v.Ae v.ne v.ce, .int .i64 b.nat, .slice v.Ap v.np v.cp], .slice cA cn cc, .slice A n c, .int .i64 fuel] w (RunO (whnfC b bs l fuel) w) := by
 obtain ⟨w1, hw1⟩ : ∃ w1 : World, w1 = w.alloc (.cells #[.int .i64 b.vars, .slice v.Ao v.no v.co, .slice v.Ae v.ne v.ce, .int .i64 b.nat, .slice v.Ap v.np v.cp] 26) := ⟨_, rfl⟩
 have hb1 : Below w.heap.size w w1 := by rw [hw1]; exact below_alloc _ _
 have hk1 : Blk w1 w.heap.size 26 #[.int .i64 b.vars, .slice v.Ao v.no v.co, .slice v.Ae v.ne v.ce, .int .i64 b.nat, .slice v.Ap v.np v.cp] := by rw [hw1]; exact Blk.new _ _ _
 have HRN := hid (rrun_any (hb.below hb1) (hc.below hb1) (ht.below hb1) fuel (fid := 20) (r := whQ b (cvO bs) (treeAt l) (clipN fuel)) (fun _ _ => by kernel_rfl) (fun h0 W hB => by
  obtain ⟨q1, q2, q3, q4, q5⟩ := fits_c h0
  have hcn : cn ≤ 256 := by have := hc.len; omega
  have hB2 := hb1.trans (hB.mono hb1.size)
  exact coreWhnf_any (w := W) q1 (hb.below hB2) q3 (by have := q3.few; omega) ((hc.below hB2).vals (by omega)) (by rw [← q4]; exact ht.below hB2) q5 fuel))
 have HB1 := hid hb1
 have z1 := hk1.cell
 unfold whnfC
 generalize runC (fitsC b bs l) (whQ b (cvO bs) (treeAt l) (clipN fuel)) = q at *
 clear hb hc ht hb1 hk1
 go_in
 go_upto_region 1 with fail
 rw [← hw1]
 clear hw1
 go_wp2_with fail
 refine (HRN.out).mono ?_
 rintro e w2 ⟨hb2, A', n', c', rfl, ho⟩
 have HB2 := bto HB1 hb2
 have HO := hid (own_baseN ho HB1.out.size)
 clear hb2 ho
 go_wp2_with fail
 go_ret3
 exact ⟨HB2.out, A', n', c', rfl, HO.out⟩
end Go.Proofs.Ytjoddliplahgkaa
