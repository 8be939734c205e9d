/- retortlaw08: ReduceSteps. -/
import Derived.Test.YtjoddliplahgkaaAWhL
namespace Go.Proofs.Ytjoddliplahgkaa
open Go.Lib (hid)
open Go.RowKit
def SI (b : Bk) (bs : List (List Nd × List Nd)) (F : Nat) (r : WhR) (k : Nat) (l : List Nd) : Prop := ∃ f : Fc, l = rowT (rowF f) ∧ FocG b ((cvO bs).length : Int) f ∧ fsz f ≤ 4096 ∧ k ≤ F ∧ whN b (cvO bs) (F - k) f 4096 = r
theorem step_of {b : Bk} {bs : List (List Nd × List Nd)} {l0 : List Nd} (h0 : fitsC b bs l0 = 0) {f : Fc} (hf : FocG b ((cvO bs).length : Int) f) (hs : fsz f ≤ 4096) : fitsC b bs (rowT (rowF f)) = 0 ∧ stepC b bs (rowT (rowF f)) = match stF b (cvO bs) (fsz f + 1) f 4096 with
 | .no => ([], false, 0)
 | .big => ([], false, 9)
 | .yes y => (rowT (rowF y), true, 0) := by
 have hfit := hf.fit hs
 have h1 := c_fits h0 hfit
 refine ⟨h1, ?_⟩
 unfold stepC
 rw [if_neg (by rw [h1]; simp), treeAt_fit hfit, rowF_len, hdW_rowF hf.ne]
 rfl
def SI3 (b : Bk) (bs : List (List Nd × List Nd)) (F : Nat) (r : WhR) (k : Nat) (l : List Nd) : Prop := fitsC b bs l = 0 ∧ ((∃ f : Fc, stepC b bs l = ([], false, 0) ∧ r = .done f (F - k) ∧ l = rowT (rowF f)) ∨ (stepC b bs l = ([], false, 9) ∧ (k = F → r = .bad 10) ∧ (k < F → r = .bad 9)) ∨ ∃ l2, stepC b bs l = (l2, true, 0) ∧ (k = F → r = .bad 10) ∧ (k < F → SI b bs F r (k + 1) l2))
theorem SI.step {b : Bk} {bs : List (List Nd × List Nd)} {l0 : List Nd} (h0 : fitsC b bs l0 = 0) {F k : Nat} {r : WhR} {l : List Nd} (h : SI b bs F r k l) : SI3 b bs F r k l := by
 obtain ⟨f, rfl, hf, hs, hk, hr⟩ := h
 obtain ⟨q1, q2, q3, q4, q5⟩ := fits_c h0
 obtain ⟨h1, h2⟩ := step_of h0 hf hs
 refine ⟨h1, ?_⟩
 have h3 := step_wh q1 q3 (fsz f + 1) f 4096 hf (by omega) (by omega) (by omega)
 rw [h2]
 cases hst : stF b (cvO bs) (fsz f + 1) f 4096 with
 | no =>
  rw [hst] at h3
  exact .inl ⟨f, rfl, hr.symm.trans (h3 _), rfl⟩
 | big =>
  rw [hst] at h3
  refine .inr (.inl ⟨rfl, fun e => ?_, fun e => ?_⟩)
  · rw [← hr, e, Nat.sub_self]; exact h3.1
  · rw [← hr, show F - k = (F - k - 1) + 1 from by omega]; exact h3.2 _
 | yes y =>
  rw [hst] at h3
  refine .inr (.inr ⟨_, rfl, fun e => ?_, fun e => ⟨y, rfl, h3.1, by have := h3.2.1; omega, by omega, ?_⟩⟩)
  · rw [← hr, e, Nat.sub_self]; exact h3.2.2.1
  · rw [← hr, show F - k = (F - (k + 1)) + 1 from by omega]; exact (h3.2.2.2 _).symm
theorem SI.start {b : Bk} {bs : List (List Nd × List Nd)} {l0 : List Nd} (h0 : fitsC b bs l0 = 0) (F : Nat) : SI b bs F (whN b (cvO bs) F (hdW (treeAt l0)) 4096) 0 l0 := by
 obtain ⟨q1, q2, q3, q4, q5⟩ := fits_c h0
 have hs := foc_sz q5
 have h4 : szT (treeAt l0) ≤ 4096 := q5.few
 exact ⟨hdW (treeAt l0), by rw [foc_row q5]; exact q4, foc q5, by omega, Nat.zero_le _, rfl⟩
theorem clip_nat {F : Nat} (h : F ≤ 1000) : clipN (F : Int) = F := by unfold clipN; omega
set_option linter.unusedSimpArgs false in
set_option linter.unusedVariables false in
set_option maxRecDepth 100000 in
set_option maxHeartbeats 4000000 in
theorem steps_law {w : World} {v : BkVal} {b : Bk} (hb : BookV w v b) {cA : Option Addr} {cn cc : Nat} {bs : List (List Nd × List Nd)} (hc : CtxB (· < w.heap.size) w cA cn cc bs) {A : Option Addr} {n c : Nat} {l : List Nd} (ht : TermV w A n c l) (fuel : Int) :
 Calls Try.prog 3 #[.agg #[.int .i64 b.vars, .slice v.Ao v.no v.co, .slice v.Ae v.ne v.ce, .int .i64 b.nat, .slice v.Ap v.np v.cp, .slice cA cn cc, .slice A n c, .int .i64 fuel]] w (BoolP true w) := by
 obtain ⟨w0, hw0⟩ : ∃ w0 : World, w0 = w.alloc (.cells #[.int .i64 b.vars, .slice v.Ao v.no v.co, .slice v.Ae v.ne v.ce, .int .i64 b.nat, .slice v.Ap v.np v.cp, .slice cA cn cc, .slice A n c, .int .i64 fuel] 31) := ⟨_, rfl⟩
 have hb0 : Below w.heap.size w w0 := by rw [hw0]; exact below_alloc _ _
 have hk0 : Blk w0 w.heap.size 31 #[.int .i64 b.vars, .slice v.Ao v.no v.co, .slice v.Ae v.ne v.ce, .int .i64 b.nat, .slice v.Ap v.np v.cp, .slice cA cn cc, .slice A n c, .int .i64 fuel] := by rw [hw0]; exact Blk.new _ _ _
 have HB0 := hid hb0
 have HK0 := hid hk0
 have HHV := hid (fun (W : World) (h : Below w.heap.size w W) => heavy8_any (hb.below h) (hc.below h) (A := A) (n := n) (c := c) fuel 60)
 have HFT := hid (fun (W : World) (h : Below w.heap.size w W) => rfits_any (hb.below h) (hc.below h) (ht.below h))
 have HWH := hid (fun (W : World) (h : Below w.heap.size w W) => rwhnf_any (hb.below h) (hc.below h) (ht.below h) fuel)
 have HST := hid (fun (W : World) (h : Below w.heap.size w W) (A' : Option Addr) (n' c' : Nat) (l' : List Nd) (h2 : TermV W A' n' c' l') => rstep_any (hb.below h) (hc.below h) h2)
 have HTT := hid (fun (W : World) (h : Below w.heap.size w W) => ht.below h)
 have HNO := hid (fun h => heavy8_no (b := b) (bs := bs) (n := n) (fuel := fuel) (lim := 60) h)
 generalize heavy8 b bs n fuel 60 = hv at *
 have HQ : Hid (whnfC b bs l fuel = runC (fitsC b bs l) (whQ b (cvO bs) (treeAt l) (clipN fuel))) := hid rfl
 clear hb hc ht hb0 hk0
 go_in
 go_upto_region 1 with fail
 rw [← hw0]
 clear hw0
 go_wp2_with fail
 refine awake8_any.mono ?_
 rintro e w1 ⟨rfl, hb1⟩
 have HB1 := bto HB0 hb1
 have HK1 := hid (HK0.out.below hb1 HK0.out.lt)
 have zk1 := HK1.out.cell
 clear hb1
 cases hv with
 | true =>
  go_wp2_with fail
  refine (HHV.out w1 HB1.out).mono ?_
  rintro e w2 ⟨rfl, hb2⟩
  have HB2 := bto HB1 hb2
  clear hb2
  go_wp2_with fail
  go_ret
  exact ⟨rfl, HB2.out⟩
 | false =>
 by_cases hneg : fuel < 0
 · have d0 : decide (fuel < 0) = true := decide_eq_true hneg
   clear hneg
   go_wp2_with fail
   refine (HHV.out w1 HB1.out).mono ?_
   rintro e w2 ⟨rfl, hb2⟩
   have HB2 := bto HB1 hb2
   have HK2 := hid (HK1.out.below hb2 HK1.out.lt)
   have zk2 := HK2.out.cell
   clear hb2 zk1
   go_wp2_with fail
   go_ret
   exact ⟨rfl, HB2.out⟩
 obtain ⟨F, rfl⟩ : ∃ F : Nat, fuel = (F : Int) := ⟨fuel.toNat, by omega⟩
 have d0 : decide ((F : Int) < 0) = false := decide_eq_false (by omega)
 have hF : F ≤ 60 := by have := (HNO.out rfl).2.2; omega
 clear hneg
 go_wp2_with fail
 refine (HHV.out w1 HB1.out).mono ?_
 rintro e w2 ⟨rfl, hb2⟩
 have HB2 := bto HB1 hb2
 have HK2 := hid (HK1.out.below hb2 HK1.out.lt)
 have zk2 := HK2.out.cell
 clear hb2 zk1
 go_wp2_with fail
 refine (HWH.out w2 HB2.out).mono ?_
 rintro e w3 ⟨hb3, A3, n3, c3, rfl, ho3⟩
 have HB3 := bto HB2 hb3
 have HK3 := hid (HK2.out.below hb3 HK2.out.lt)
 have zk3 := HK3.out.cell
 rw [HQ.out, clip_nat (by omega)] at ho3 ⊢
 obtain ⟨z, hz⟩ : ∃ z, z = fitsC b bs l := ⟨_, rfl⟩
 rw [← hz] at ho3 HFT ⊢
 by_cases h0 : z = 0
 rotate_left
 · have hrc : runC z (whQ b (cvO bs) (treeAt l) F) = ([], 0, z) := by unfold runC; rw [if_pos h0]
   rw [hrc] at ho3 ⊢
   have hn3 : n3 = 0 := (ownN_term ho3 (Nat.zero_le _)).len.symm
   subst hn3
   have d1 : (z != 0) = true := by simpa using h0
   have d2 : (z == 0) = false := by simpa using h0
   have HS : Hid (stepC b bs l = ([], false, z)) := hid (by unfold stepC; rw [← hz, if_pos h0])
   simp only
   clear hb3 ho3 hz hrc h0 zk2
   go_upto_region 7 with fail
   go_wp2_with fail
   go_loopw [6, 7] (fun tv nv wr => tv = .slice A n c ∧ nv = .int .i64 0 ∧ wr = w3) (fun _ _ _ => 0)
   case atStart => exact ⟨rfl, rfl, rfl⟩
   case round =>
    obtain ⟨rfl, rfl, rfl⟩ := hrel
    have hst := HST.out wr HB3.out A n c l (HTT.out wr HB3.out)
    rw [HS.out] at hst
    have HSS := hid hst
    clear hst
    by_cases hF0 : F = 0
    · have d3 : ((0 : Int) == (F : Int)) = true := by subst hF0; rfl
      have d4 : (0 == F) = true := by subst hF0; rfl
      clear hF0
      go_wp2_with fail
      refine (HSS.out).mono ?_
      rintro e w4 ⟨hb4, A4, n4, c4, rfl, ho4⟩
      have HB4 := bto HB3 hb4
      have HK4 := hid (HK3.out.below hb4 HK3.out.lt)
      have zk4 := HK4.out.cell
      clear hb4 ho4
      simp only
      go_wp2_with fail
      refine (HFT.out w4 HB4.out).mono ?_
      rintro e w5 ⟨rfl, hb5⟩
      have HB5 := bto HB4 hb5
      clear hb5
      go_wp2_with fail
      go_ret
      exact ⟨by simp, HB5.out⟩
    have d3 : ((0 : Int) == (F : Int)) = false := by simp; omega
    have d4 : (0 == F) = false := by simp; omega
    clear hF0
    go_wp2_with fail
    refine (HSS.out).mono ?_
    rintro e w4 ⟨hb4, A4, n4, c4, rfl, ho4⟩
    have HB4 := bto HB3 hb4
    have HK4 := hid (HK3.out.below hb4 HK3.out.lt)
    have zk4 := HK4.out.cell
    clear hb4 ho4
    simp only
    go_wp2_with fail
    go_ret
    exact ⟨by simp, HB4.out⟩
 subst h0
 have HSI := hid (fun (k : Nat) (l' : List Nd) (h : SI b bs F (whN b (cvO bs) F (hdW (treeAt l)) 4096) k l') => h.step hz.symm)
 have HS0 := hid (SI.start (l0 := l) hz.symm F)
 have hrc : runC 0 (whQ b (cvO bs) (treeAt l) F) = runC 0 (whQf (whN b (cvO bs) F (hdW (treeAt l)) 4096)) := rfl
 rw [hrc] at ho3 ⊢
 generalize whN b (cvO bs) F (hdW (treeAt l)) 4096 = r at *
 obtain ⟨q, hq⟩ : ∃ q, q = runC 0 (whQf r) := ⟨_, rfl⟩
 rw [← hq] at ho3 ⊢
 obtain ⟨u, lf, er⟩ := q
 simp only at ho3 ⊢
 have HQQ := hid hq
 have HO3 := hid ho3
 clear hb3 ho3 hz hrc hq zk2
 go_upto_region 7 with fail
 go_wp2_with fail
 go_loopw [6, 7] (fun tv nv wr => ∃ (k : Nat) (A' : Option Addr) (n' c' : Nat) (l' : List Nd), tv = .slice A' n' c' ∧ nv = .int .i64 (k : Int) ∧ Hid (Below w3.heap.size w3 wr) ∧ Hid (TermV wr A' n' c' l') ∧ Hid (SI b bs F r k l')) (fun _ nv _ => F + 1 - (intOf nv).toNat)
 case atStart => exact ⟨0, A, n, c, l, rfl, rfl, hid (Below.refl _ _), hid (HTT.out w3 HB3.out), HS0⟩
 case round =>
  obtain ⟨k, A', n', c', l', rfl, rfl, hbw, htw, hsi⟩ := hrel
  have HBr := hid (HB3.out.trans (hbw.out.mono HB3.out.size))
  have HKr := hid (HK3.out.below hbw.out HK3.out.lt)
  have zkr := HKr.out.cell
  have hkF : k ≤ F := by obtain ⟨_, _, _, _, h, _⟩ := hsi.out; exact h
  have hst := HST.out wr HBr.out A' n' c' l' htw.out
  have HTW := hid htw.out
  have HBW := hid hbw.out
  obtain ⟨hf0, h3⟩ := HSI.out k l' hsi.out
  clear hsi htw hbw zk3
  rcases h3 with ⟨f, hs, hr, hl⟩ | ⟨hs, hr1, hr2⟩ | ⟨l2, hs, hr1, hr2⟩
  · rw [hs] at hst
    have HSS := hid hst
    have hqq := HQQ.out
    rw [hr] at hqq
    have hqq2 : ((u, lf, er) : List Nd × Int × Int) = (rowT (rowF f), ((F - k : Nat) : Int), 0) := hqq
    simp only [Prod.mk.injEq] at hqq2
    obtain ⟨e1, e2, e3⟩ := hqq2
    obtain ⟨dk, hdk⟩ : ∃ dk : Nat, dk = F - k := ⟨_, rfl⟩
    rw [← hdk] at e2
    have hwr : IntKind.i64.wrap ((F : Int) - (k : Int)) = (dk : Int) := by rw [IntKind.wrap_i64]; omega
    have HU : Hid (TermV w3 A3 n3 c3 l') := hid (by rw [hl, ← e1]; exact ownN_term HO3.out (by rw [e1]; have h9 := (HSI.out); have h8 := HTW.out.few; have h7 := HTW.out.len; rw [hl] at h7; omega))
    subst e2 e3
    obtain ⟨kb, hkb⟩ : ∃ kb : Bool, kb = ((k : Int) == (F : Int)) := ⟨_, rfl⟩
    have d3 : ((k : Int) == (F : Int)) = kb := hkb.symm
    have d4 : (k == F) = kb := by rw [hkb, Bool.eq_iff_iff]; simp; omega
    clear hst hs hr hl hqq e1 hdk hf0 hkb
    cases kb with
    | true =>
     go_wp2_with fail
     refine (HSS.out).mono ?_
     rintro e w4 ⟨hb4, A4, n4, c4, rfl, ho4⟩
     have HB4 := bto HBr hb4
     have HB34 := bto HBW hb4
     have HK4 := hid (HKr.out.below hb4 HKr.out.lt)
     have zk4 := HK4.out.cell
     have HSM := hid (same_any w4 (HTW.out.below hb4) (HU.out.below HB34.out))
     clear hb4 ho4 zkr
     simp only
     go_wp2_with fail
     refine (HSM.out).mono ?_
     rintro e w5 ⟨rfl, m, rfl⟩
     go_wp2_with fail
     go_ret
     exact ⟨by simp, below_drewN HB4.out _⟩
    | false =>
     go_wp2_with fail
     refine (HSS.out).mono ?_
     rintro e w4 ⟨hb4, A4, n4, c4, rfl, ho4⟩
     have HB4 := bto HBr hb4
     have HB34 := bto HBW hb4
     have HK4 := hid (HKr.out.below hb4 HKr.out.lt)
     have zk4 := HK4.out.cell
     have HSM := hid (same_any w4 (HTW.out.below hb4) (HU.out.below HB34.out))
     clear hb4 ho4 zkr
     simp only
     go_wp2_with fail
     refine (HSM.out).mono ?_
     rintro e w5 ⟨rfl, m, rfl⟩
     go_wp2_with fail
     go_ret
     exact ⟨by simp, below_drewN HB4.out _⟩
  · rw [hs] at hst
    have HSS := hid hst
    by_cases hkk : k = F
    · have hqq := HQQ.out
      rw [hr1 hkk] at hqq
      have hqq2 : ((u, lf, er) : List Nd × Int × Int) = ([], 0, 10) := hqq
      simp only [Prod.mk.injEq] at hqq2
      obtain ⟨e1, e2, e3⟩ := hqq2
      subst e1 e2 e3
      have hn3 : n3 = 0 := (ownN_term HO3.out (Nat.zero_le _)).len.symm
      subst hn3
      have d3 : ((k : Int) == (F : Int)) = true := by rw [hkk]; simp
      have d4 : (k == F) = true := by rw [hkk]; simp
      clear hst hs hr1 hr2 hqq hkk
      go_wp2_with fail
      refine (HSS.out).mono ?_
      rintro e w4 ⟨hb4, A4, n4, c4, rfl, ho4⟩
      have HB4 := bto HBr hb4
      have HK4 := hid (HKr.out.below hb4 HKr.out.lt)
      have zk4 := HK4.out.cell
      clear hb4 ho4 zkr
      simp only
      go_wp2_with fail
      refine (HFT.out w4 HB4.out).mono ?_
      rintro e w5 ⟨rfl, hb5⟩
      have HB5 := bto HB4 hb5
      clear hb5
      go_wp2_with fail
      go_ret
      exact ⟨by simp, HB5.out⟩
    have hqq := HQQ.out
    rw [hr2 (by omega)] at hqq
    have hqq2 : ((u, lf, er) : List Nd × Int × Int) = ([], 0, 9) := hqq
    simp only [Prod.mk.injEq] at hqq2
    obtain ⟨e1, e2, e3⟩ := hqq2
    subst e1 e2 e3
    have hn3 : n3 = 0 := (ownN_term HO3.out (Nat.zero_le _)).len.symm
    subst hn3
    have d3 : ((k : Int) == (F : Int)) = false := by rw [beq_eq_false_iff_ne]; omega
    have d4 : (k == F) = false := by simpa using hkk
    clear hst hs hr1 hr2 hqq hkk
    go_wp2_with fail
    refine (HSS.out).mono ?_
    rintro e w4 ⟨hb4, A4, n4, c4, rfl, ho4⟩
    have HB4 := bto HBr hb4
    have HK4 := hid (HKr.out.below hb4 HKr.out.lt)
    have zk4 := HK4.out.cell
    clear hb4 ho4 zkr
    simp only
    go_wp2_with fail
    go_ret
    exact ⟨by simp, HB4.out⟩
  rw [hs] at hst
  have HSS := hid hst
  by_cases hkk : k = F
  · have hqq := HQQ.out
    rw [hr1 hkk] at hqq
    have hqq2 : ((u, lf, er) : List Nd × Int × Int) = ([], 0, 10) := hqq
    simp only [Prod.mk.injEq] at hqq2
    obtain ⟨e1, e2, e3⟩ := hqq2
    subst e1 e2 e3
    have hn3 : n3 = 0 := (ownN_term HO3.out (Nat.zero_le _)).len.symm
    subst hn3
    have d3 : ((k : Int) == (F : Int)) = true := by rw [hkk]; simp
    have d4 : (k == F) = true := by rw [hkk]; simp
    clear hst hs hr1 hr2 hqq hkk
    go_wp2_with fail
    refine (HSS.out).mono ?_
    rintro e w4 ⟨hb4, A4, n4, c4, rfl, ho4⟩
    have HB4 := bto HBr hb4
    have HK4 := hid (HKr.out.below hb4 HKr.out.lt)
    have zk4 := HK4.out.cell
    clear hb4 ho4 zkr
    simp only
    go_wp2_with fail
    go_ret
    exact ⟨by simp, HB4.out⟩
  have HNX := hid (hr2 (by omega))
  have d3 : ((k : Int) == (F : Int)) = false := by rw [beq_eq_false_iff_ne]; omega
  have d4 : (k == F) = false := by simpa using hkk
  have hklt : k < F := by omega
  clear hst hs hr1 hr2 hkk
  go_wp2_with fail
  refine (HSS.out).mono ?_
  rintro e w4 ⟨hb4, A4, n4, c4, rfl, ho4⟩
  have HB4 := bto HBr hb4
  have HB34 := bto HBW hb4
  have HK4 := hid (HKr.out.below hb4 HKr.out.lt)
  have zk4 := HK4.out.cell
  have hl2 : l2.length ≤ 4096 := by
   obtain ⟨y, h1, h2, h3, _⟩ := HNX.out
   have h4 := (h2.fit h3).few
   rw [h1]
   exact h4
  have HT4 : Hid (TermV w4 A4 n4 c4 l2) := hid (ownN_term ho4 (by show l2.length ≤ _; omega))
  clear hb4 ho4 zkr hl2
  simp only
  go_wp2_with fail
  go_roundw
  case rel => exact ⟨k + 1, A4, n4, c4, l2, rfl, by go_num, HB34, HT4, HNX⟩
  case measure => simp [intOf]; omega
end Go.Proofs.Ytjoddliplahgkaa
