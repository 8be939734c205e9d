/- The reference's Fine at a call of one of the fix's functions. -/
import Derived.Test.YtjllmblbbgojbaaKShort2
import Derived.Test.YtjllmblbbgojbaaKRefFs
namespace Go.Proofs.Ytjllmblbbgojbaa
open Go.Lib (hid)
open Go.RowKit
set_option linter.unusedSimpArgs false in
set_option linter.unusedVariables false in
set_option maxRecDepth 100000 in
set_option maxHeartbeats 8000000 in
theorem refFine_var {b : Bk} {v : BkVal} {places : List Int} {f m : Nat} (H : FineRH b v places (fineR places (argsB b) f) m) (hpl : ∀ p ∈ places, 0 ≤ p ∧ p ≤ 100)
 {w : World} {t : TrV} {x : TT} {A P : Option Addr} {n c np cp : Nat} {ms : List Int} (hb : BookV w v b) (ht : TrW w t x) (hx : RtX x) (hJ : JE b.entries.length x) (hm : szT x ≤ m + 1) (hms : IntsR (· < w.heap.size) w A n c ms) (hnul : A = none → n = 0 ∧ c = 0) (hn : n + 5 * szT x ≤ 30000) (hmr : ∀ z ∈ ms, -3 ≤ z ∧ z < (places.length : Int)) (hP : IntsR (· < w.heap.size) w P np cp places)
 (hnv : (hdW x).1.1.op = 1 ∧ 0 ≤ ofR ms (hdW x).1.1.a) :
 Calls Try.prog 66 #[.agg #[.int .i64 b.vars, .slice v.Ao v.no v.co, .slice v.Ae v.ne v.ce, .int .i64 b.nat, .slice v.Ap v.np v.cp], .agg #[.int .i64 x.1.op, .int .i64 x.1.a, .int .i64 x.1.b, .slice t.Ak t.nk t.ck, .slice t.Aa t.na t.ca, .slice t.Af t.nf t.cf], .slice A n c, .slice P np cp] w (BoolP (fineR places (argsB b) (f + 1) ms x) w) := by
 have hres : fineR places (argsB b) (f + 1) ms x = callR (fineR places (argsB b) f) places ms (hdW x).1.1.a (hdW x).2 := by rw [fineR_suc, if_pos hnv]
 obtain ⟨res, hR⟩ : ∃ r, r = fineR places (argsB b) (f + 1) ms x := ⟨_, rfl⟩
 rw [← hR] at hres ⊢
 have hargs : ∀ y ∈ (hdW x).2, RtX y ∧ JE b.entries.length y ∧ szT y < szT x := fun y hy => ⟨hx.hd.2 y hy, (hd_J (J := JE b.entries.length) (fun n a k h => JE.kid h) _ x hx hJ).2 y hy, (hdW_size x).2 y hy⟩
 obtain ⟨Hd, L, hHL⟩ : ∃ Hd L, hdW x = (Hd, L) := ⟨_, _, rfl⟩
 rw [hHL] at hnv hres hargs
 simp only at hnv hres hargs
 have HNV := hid hnv
 have HARG := hid hargs
 have HDL := hid hHL
 clear hHL hnv hR hargs
 have HBV := hid (fun (w' : World) (h : Below w.heap.size w w') => hb.below h)
 have HMS := hid (fun (w' : World) (h : Below w.heap.size w w') => hms.below h)
 have HPS := hid (fun (w' : World) (h : Below w.heap.size w w') => hP.below h)
 have HTX := hid ht
 have HRX := hid hx
 have HJX := hid hJ
 have HNUL := hid hnul
 have HMR := hid hmr
 have HSM := hid hm
 have HPL := hid hpl
 have HNN := hid hn
 have hx4 : szT x ≤ 4096 := Rt.few hx
 have HNX := hid ht.nk
 have hnk4 : t.nk ≤ 4096 := by
  have h1 := ht.nk
  have h2 : (kidL x.2.2).length ≤ (row x.2.2).length := by
   have : ∀ F : Fo, (kidL F).length ≤ (row F).length := by
    intro F
    induction F with
    | nil => simp [kidL]
    | cons p n a k x _ ih => rw [sz_cons]; have := szT_eq n a k; simp only [kidL, List.length_cons]; omega
   exact this _
  have h3 := szT_eq x.1 x.2.1 x.2.2
  have h4 : szT x = szT (x.1, x.2.1, x.2.2) := rfl
  omega
 obtain ⟨i0, hi, hy0, hy1, hy2⟩ := info_parts Try.infoT
 have HI0 := hid hi
 have HY0 := hid hy0
 have HY1 := hid hy1
 have HY2 := hid hy2
 have hok0 := (Rt.wf hx).1
 simp only [okN, Bool.and_eq_true] at hok0
 have HPL0 := hid hok0.1.1
 obtain ⟨rec_, hrec⟩ : ∃ r, r = fineR places (argsB b) f := ⟨_, rfl⟩
 rw [← hrec] at H hres
 unfold FineRH at H
 have HIH := hid H
 obtain ⟨bv, hbv⟩ : ∃ y, y = b.vars := ⟨_, rfl⟩
 obtain ⟨bn, hbn⟩ : ∃ y, y = b.nat := ⟨_, rfl⟩
 rw [← hbv, ← hbn] at HIH ⊢
 obtain ⟨Ao, no, co, Ae, ne, ce, Ap, npp, cpp⟩ := v
 obtain ⟨Ak, nk, ck, Aa, na, ca, Af, nf, cf⟩ := t
 obtain ⟨⟨op, va, vb⟩, ats, k⟩ := x
 simp only at HIH HTX HRX HJX HNX hnk4 HPL0 HDL ⊢
 have hvb := plainB_b HPL0.out
 clear hi hy0 hy1 hy2 hok0 H hb ht hx hJ hm hms hnul hn hmr hP hpl hbv hbn hrec
 have HB1 := hid (below_alloc w (.cells #[.int .i64 bv, .slice Ao no co, .slice Ae ne ce, .int .i64 bn, .slice Ap npp cpp] 26))
 have HB2 := hid (HB1.out.alloc HB1.out.size (.cells #[.int .i64 op, .int .i64 va, .int .i64 vb, .slice Ak nk ck, .slice Aa na ca, .slice Af nf cf] 71))
 have HB3 := hid (HB2.out.alloc HB2.out.size (.cells #[.int .i64 op, .int .i64 va, .int .i64 vb, .slice Ak nk ck, .slice Aa na ca, .slice Af nf cf] 71))
 have HKB3 : Hid (Blk (((w.alloc (.cells #[.int .i64 bv, .slice Ao no co, .slice Ae ne ce, .int .i64 bn, .slice Ap npp cpp] 26)).alloc (.cells #[.int .i64 op, .int .i64 va, .int .i64 vb, .slice Ak nk ck, .slice Aa na ca, .slice Af nf cf] 71)).alloc (.cells #[.int .i64 op, .int .i64 va, .int .i64 vb, .slice Ak nk ck, .slice Aa na ca, .slice Af nf cf] 71)) w.heap.size 26 #[.int .i64 bv, .slice Ao no co, .slice Ae ne ce, .int .i64 bn, .slice Ap npp cpp]) := hid (((Blk.new _ _ _).alloc _).alloc _)
 have HKX3 : Hid (Blk (((w.alloc (.cells #[.int .i64 bv, .slice Ao no co, .slice Ae ne ce, .int .i64 bn, .slice Ap npp cpp] 26)).alloc (.cells #[.int .i64 op, .int .i64 va, .int .i64 vb, .slice Ak nk ck, .slice Aa na ca, .slice Af nf cf] 71)).alloc (.cells #[.int .i64 op, .int .i64 va, .int .i64 vb, .slice Ak nk ck, .slice Aa na ca, .slice Af nf cf] 71)) (w.heap.size + 1) 71 #[.int .i64 op, .int .i64 va, .int .i64 vb, .slice Ak nk ck, .slice Aa na ca, .slice Af nf cf]) := hid ((Blk.new' (by simp)).alloc _)
 have HKF3 : Hid (Blk (((w.alloc (.cells #[.int .i64 bv, .slice Ao no co, .slice Ae ne ce, .int .i64 bn, .slice Ap npp cpp] 26)).alloc (.cells #[.int .i64 op, .int .i64 va, .int .i64 vb, .slice Ak nk ck, .slice Aa na ca, .slice Af nf cf] 71)).alloc (.cells #[.int .i64 op, .int .i64 va, .int .i64 vb, .slice Ak nk ck, .slice Aa na ca, .slice Af nf cf] 71)) (w.heap.size + 2) 71 #[.int .i64 op, .int .i64 va, .int .i64 vb, .slice Ak nk ck, .slice Aa na ca, .slice Af nf cf]) := hid (Blk.new' (by simp))
 go_in
 go_wp2_with fail
 go_loopw [10] (fun av wr => ∃ (j d : Nat) (B : Option Addr) (G : Fo) (vs : List Value) (t' : TrV) (x' : TT), av = .slice B j d ∧ szT x' + j ≤ 4096 ∧ flen G = j ∧ Hid (RtX x') ∧ Hid ((hdW x').1 = Hd ∧ (hdW x').2 ++ kidL G = L) ∧ Hid (TrW w t' x') ∧ Hid (Blk wr w.heap.size 26 #[.int .i64 bv, .slice Ao no co, .slice Ae ne ce, .int .i64 bn, .slice Ap npp cpp]) ∧ Hid (Blk wr (w.heap.size + 1) 71 #[.int .i64 op, .int .i64 va, .int .i64 vb, .slice Ak nk ck, .slice Aa na ca, .slice Af nf cf]) ∧ Hid (Blk wr (w.heap.size + 2) 71 (sixV t' x'.1)) ∧ Hid (wr.ownsRow (w.heap.size + 3) 71 6 (.slice B j d) j vs) ∧ Hid (FoC (· < w.heap.size) w G vs) ∧ Hid (Below w.heap.size w wr)) (fun av _ => 4096 - lenOf av)
 case atStart => exact ⟨0, 0, none, .nil, [], ⟨Ak, nk, ck, Aa, na, ca, Af, nf, cf⟩, (⟨op, va, vb⟩, ats, k), rfl, by omega, rfl, HRX, hid (by rw [HDL.out]; exact ⟨rfl, by simp [kidL]⟩), HTX, HKB3, HKX3, HKF3, hid (World.ownsRow_nil _ _ _ _), hid rfl, HB3⟩
 case round =>
  clear HKB3 HKX3 HKF3 HB1 HB2 HB3
  obtain ⟨j, d, B, G, vs, t', x', rfl, hszj, hfl, hrt, hhd, htw, hkb, hkx, hkf, hown, hfoc, hbw⟩ := hrel
  have hbl := hkf.out.lt
  by_cases h6 : x'.1.op = 6
  · obtain ⟨n9, a9, k9⟩ := x'
    obtain ⟨n1, a1, k1, n2, a2, k2, rfl, rfl, hs1, hs2, _, _⟩ := two_split hrt.out (.inr (.inr h6))
    have hnk : t'.nk = 2 := htw.out.nk
    obtain ⟨b0, o0, t1, hA, hb0, hc1, ht1⟩ := htw.out.kid (j := 0) (by omega)
    obtain ⟨b0', o0', t2, hA', hb0', hc2, ht2⟩ := htw.out.kid (j := 1) (by omega)
    obtain ⟨rfl, rfl⟩ : b0 = b0' ∧ o0 = o0' := by rw [hA] at hA'; injection hA' with e; injection e with e1 e2; exact ⟨e1, e2⟩
    clear hA' hb0'
    simp only at hc1 ht1 hc2 ht2 hA
    rw [show kidAt (Fo.cons [] n1 a1 k1 (Fo.cons [] n2 a2 k2 Fo.nil)) 0 = (n1, a1, k1) from rfl] at hc1 ht1
    rw [show kidAt (Fo.cons [] n1 a1 k1 (Fo.cons [] n2 a2 k2 Fo.nil)) 1 = (n2, a2, k2) from rfl] at hc2 ht2
    rw [Nat.zero_mul, Nat.add_zero] at hc1
    rw [Nat.one_mul] at hc2
    have hsz1 : szT (n1, a1, k1) < szT (n9, [], Fo.cons [] n1 a1 k1 (Fo.cons [] n2 a2 k2 Fo.nil)) := sz_two.1
    have hsj : szT (n1, a1, k1) + (1 + j) ≤ 4096 := by omega
    have hj4 : j ≤ 4096 := by omega
    have hhd2 := hhd.out
    rw [hdW_app h6] at hhd2
    have HHD : Hid ((hdW (n1, a1, k1)).1 = Hd ∧ (hdW (n1, a1, k1)).2 ++ kidL (.cons [] n2 a2 k2 G) = L) := hid ⟨hhd2.1, by rw [← hhd2.2]; simp [kidL]⟩
    obtain ⟨Ak9, nk9, ck9, Aa9, na9, ca9, Af9, nf9, cf9⟩ := t'
    obtain ⟨Ak1, nk1, ck1, Aa1, na1, ca1, Af1, nf1, cf1⟩ := t1
    obtain ⟨Ak2, nk2, ck2, Aa2, na2, ca2, Af2, nf2, cf2⟩ := t2
    simp only at hnk hA h6 hkf
    subst hnk
    subst hA
    obtain ⟨o9, va9, vb9⟩ := n9
    simp only at h6 hkf
    subst h6
    have HH1 := hid (fun (w' : World) (h : Below w.heap.size w w') => hc1.below h hb0)
    obtain ⟨z0, z1, z2, z3, z4, z5⟩ := hc2.below hbw.out hb0
    try simp only at z0 z1 z2 z3 z4 z5
    have zk := Blk.cell hkf.out
    try simp only at zk
    have HLIT : Hid ((wr.alloc (.cells #[.int .i64 n2.op, .int .i64 n2.a, .int .i64 n2.b, .slice Ak2 nk2 ck2, .slice Aa2 na2 ca2, .slice Af2 nf2 cf2] 71)).ownsRow (w.heap.size + 3) 71 6 (.slice (some ⟨wr.heap.size, 0, none⟩) 1 1) 1 [.int .i64 n2.op, .int .i64 n2.a, .int .i64 n2.b, .slice Ak2 nk2 ck2, .slice Aa2 na2 ca2, .slice Af2 nf2 cf2]) := hid ⟨by simp, .inr ⟨wr.heap.size, 1, #[.int .i64 n2.op, .int .i64 n2.a, .int .i64 n2.b, .slice Ak2 nk2 ck2, .slice Aa2 na2 ca2, .slice Af2 nf2 cf2], rfl, by omega, heap_alloc_new wr _, by omega, by unfold maxLen; omega, rfl, rfl⟩⟩
    have HO3 := hid (World.ownsRow.alloc hown.out (.cells #[.int .i64 n2.op, .int .i64 n2.a, .int .i64 n2.b, .slice Ak2 nk2 ck2, .slice Aa2 na2 ca2, .slice Af2 nf2 cf2] 71))
    have HXC := hid (own_cellsZ HO3.out)
    have HX1 := hid (foc_one G vs hfoc.out)
    have HNO : Hid (B = none → j = 0 ∧ d = 0) := hid fun e => ⟨own_zeroZ hown.out e, own_nul hown.out e⟩
    have hvl : vs.length = j * 6 := hown.out.1
    have HT1 := hid ht1
    have HT2 := hid ht2
    have HS1 := hid hs1
    have hbase : w.heap.size + 3 ≤ wr.heap.size := by omega
    clear hc1 hc2 ht1 ht2 hs1 hs2 hhd hhd2 hrt htw hsz1
    go_wp2_with (at_builtin; go_loud (refine wpList_oper rfl (oper_append_mine (.tmp 30) (.tmp 31) 69 rfl (w.heap.size + 3) 71 i0 _ 6 96 Try.underlying69 HI0.out HY0.out HY1.out HY2.out rfl (by decide) (.slice (some ⟨wr.heap.size, 0, none⟩) 1 1) 1 [.int .i64 n2.op, .int .i64 n2.a, .int .i64 n2.b, .slice Ak2 nk2 ck2, .slice Aa2 na2 ca2, .slice Af2 nf2 cf2] rfl HLIT.out B j d vs rfl hvl HNO.out HXC.out HX1.out (by unfold maxLen; omega) (by omega) (Nat.le_trans hbase (by simp)) ?_)); intro A5 c5 w5 happ5; go_loud (have hbwl := hbw.out.alloc (show w.heap.size ≤ wr.heap.size by omega) (.cells #[.int .i64 n2.op, .int .i64 n2.a, .int .i64 n2.b, .slice Ak2 nk2 ck2, .slice Aa2 na2 ca2, .slice Af2 nf2 cf2] 71)); go_loud (have HBW5 := hid (hbwl.grown happ5.grown (by simp; omega) (fun g hg => by have := (ownsRow_block HLIT.out hg).1; omega))); go_loud (have hkf5 := Blk.grown (hkf.out.alloc (.cells #[.int .i64 n2.op, .int .i64 n2.a, .int .i64 n2.b, .slice Ak2 nk2 ck2, .slice Aa2 na2 ca2, .slice Af2 nf2 cf2] 71)) happ5.grown (own_ne HLIT.out (show w.heap.size + 2 < w.heap.size + 3 by omega))); go_loud (have hkx5 := hid (Blk.grown (hkx.out.alloc (.cells #[.int .i64 n2.op, .int .i64 n2.a, .int .i64 n2.b, .slice Ak2 nk2 ck2, .slice Aa2 na2 ca2, .slice Af2 nf2 cf2] 71)) happ5.grown (own_ne HLIT.out (show w.heap.size + 1 < w.heap.size + 3 by omega)))); go_loud (have hkb5 := hid (Blk.grown (hkb.out.alloc (.cells #[.int .i64 n2.op, .int .i64 n2.a, .int .i64 n2.b, .slice Ak2 nk2 ck2, .slice Aa2 na2 ca2, .slice Af2 nf2 cf2] 71)) happ5.grown (own_ne HLIT.out (show w.heap.size < w.heap.size + 3 by omega)))); go_loud (have zk5 := Blk.cell hkf5); go_loud (have zf5 := Blk.frozen hkf5); have HKF5 := hid hkf5; obtain ⟨y0, y1, y2, y3, y4, y5⟩ := HH1.out _ HBW5.out; (try simp only at y0 y1 y2 y3 y4 y5); clear hkf5 hbwl zk z0 z1 z2 z3 z4 z5)
    have HO5 := hid happ5.own
    have hsg5 := happ5.grown.size
    have hsw5 : w.heap.size + 3 ≤ w5.heap.size := Nat.le_trans hbase (Nat.le_trans (by simp) hsg5)
    have hg6 := hid (grown_sixs w5 (w.heap.size + 2) (.int .i64 n1.op) (.int .i64 n1.a) (.int .i64 n1.b) (.slice Ak1 nk1 ck1) (.slice Aa1 na1 ca1) (.slice Af1 nf1 cf1))
    clear happ5
    go_roundw
    case rel =>
     exact ⟨1 + j, c5, A5, .cons [] n2 a2 k2 G, [.int .i64 n2.op, .int .i64 n2.a, .int .i64 n2.b, .slice Ak2 nk2 ck2, .slice Aa2 na2 ca2, .slice Af2 nf2 cf2] ++ vs, ⟨Ak1, nk1, ck1, Aa1, na1, ca1, Af1, nf1, cf1⟩, (n1, a1, k1), rfl, hsj, by simp only [flen]; omega, HS1, HHD, HT1, hid (Blk.grown hkb5.out hg6.out (by intro e; injection e with e; omega)), hid (Blk.grown hkx5.out hg6.out (by intro e; injection e with e; omega)), hid (blk_sixs HKF5.out _ _ _ _ _ _), hid (World.ownsRow.kept HO5.out hg6.out (.inr (own_ne HO5.out (show w.heap.size + 2 < w.heap.size + 3 by omega)).symm)), hid ⟨[.int .i64 n2.op, .int .i64 n2.a, .int .i64 n2.b, .slice Ak2 nk2 ck2, .slice Aa2 na2 ca2, .slice Af2 nf2 cf2], vs, rfl, HT2.out, hfoc.out⟩, hid (HBW5.out.grown hg6.out (by omega) (fun q hq => by injection hq with hq; omega))⟩
    case measure => simp only [lenOf]; omega
  have hh1 := hhd.out
  rw [hdW_stop h6] at hh1
  obtain ⟨hh1, hh2⟩ := hh1
  try simp only [List.nil_append] at hh1 hh2
  subst hh1
  subst hh2
  have hva := var_a hrt.out
  have HOF := hid (fun (w' : World) (h : Below w.heap.size w w') => of7_any (HMS.out w' h) x'.1.a hva)
  have hlt0 := ofR_lt HMR.out hva HNV.out.2
  obtain ⟨u, hu⟩ : ∃ u : Nat, ofR ms x'.1.a = (u : Int) := ⟨(ofR ms x'.1.a).toNat, by have := HNV.out.2; omega⟩
  have hpl0 : places.length = np := (HPS.out w (Below.refl _ _)).len
  rw [hu] at HOF hlt0
  have hun : u < np := by omega
  unfold callR at hres
  rw [hu, Int.toNat_natCast] at hres
  have hpmem : places.getD u 0 ∈ places := by
   rw [List.getD_eq_getElem?_getD, List.getElem?_eq_getElem (by omega)]
   exact List.getElem_mem _
  obtain ⟨hp0, hp1⟩ := HPL.out _ hpmem
  obtain ⟨p, hp⟩ : ∃ p : Nat, places.getD u 0 = (p : Int) := ⟨(places.getD u 0).toNat, by omega⟩
  rw [hp] at hres hp1
  rw [Int.toNat_natCast] at hres
  obtain ⟨bp, opp, rfl, hbp, hcp⟩ := (HPS.out wr hbw.out).at_ hun
  rw [hp] at hcp
  have h1 : x'.1.op = 1 := HNV.out.1
  obtain ⟨⟨op', va', vb'⟩, a', k'⟩ := x'
  obtain ⟨Ak', nk', ck', Aa', na', ca', Af', nf', cf'⟩ := t'
  try simp only at HOF hkf h6 hva h1 hres
  have zf' := Blk.cell hkf.out
  try simp only at zf'
  have y6 : (op' == 6) = false := by simpa using h6
  have y1 : (op' == 1) = true := by simpa using h1
  have yge : decide ((u : Int) ≥ 0) = true := decide_eq_true (by omega)
  have yun : decide (u < np) = true := decide_eq_true hun
  have yuni : decide ((u : Int) < (np : Int)) = true := decide_eq_true (by omega)
  have hlen4 : (kidL G).length = j := by rw [flen_kidL]; exact hfl
  have hj4 : j ≤ 4096 := by omega
  obtain ⟨wo, rfl⟩ : ∃ wo : World, wo = wr := ⟨_, rfl⟩
  have HKV := hid (fun (w' : World) (h : Below wo.heap.size wo w') => (own_below hown.out h))
  have HRS0 := hid hres
  clear hhd hrt htw hszj hres h6 h1 hpmem hp hp0 hu hlt0
  go_wp2_with fail
  refine (HOF.out _ hbw.out).mono ?_
  rintro e w3 ⟨rfl, hb3⟩
  have HBW3 := bto hbw hb3
  have HKF3 := bko hkf hb3
  have HKB3 := bko hkb hb3
  have HO3 := hid (own_below hown.out hb3)
  have hcp3 := (hb3.cell (p := ⟨bp, opp + u, none⟩) hbp).trans hcp
  have zf3 := Blk.cell HKF3.out
  try simp only at zf3
  have hbp3 := Nat.lt_of_lt_of_le hbp hb3.size
  clear hb3 zf' hcp
  go_wp2_with fail
  refine (HOF.out _ HBW3.out).mono ?_
  rintro e w4 ⟨rfl, hb4⟩
  have HBW4 := bto HBW3 hb4
  have HKB4 := bko HKB3 hb4
  have HO4 := hid (own_below HO3.out hb4)
  have hcp4 := (hb4.cell (p := ⟨bp, opp + u, none⟩) hbp3).trans hcp3
  clear hb4 zf3 hcp3 hbp3
  by_cases hjp : j ≤ p
  · have HRF : Hid (res = false) := hid (by rw [HRS0.out, List.getElem?_eq_none (by omega)]; rfl)
    have y8 : decide ((j : Int) ≤ (p : Int)) = true := decide_eq_true (by omega)
    have y8n : decide (j ≤ p) = true := decide_eq_true hjp
    clear hjp
    go_wp2_with fail
    go_ret
    rw [HRF.out]
    exact ⟨rfl, HBW4.out⟩
  have y8 : decide ((j : Int) ≤ (p : Int)) = false := decide_eq_false (by omega)
  have y8n : decide (j ≤ p) = false := decide_eq_false hjp
  have hpj : p < j := by omega
  have y9 : decide (p < j) = true := decide_eq_true hpj
  have y9i : decide ((p : Int) < (j : Int)) = true := decide_eq_true (by omega)
  have HKR := hid (args_kids HO4.out hfoc.out HBW4.out hfl)
  obtain ⟨b2, o2, t1, hB, hb2, h6c, ht1⟩ := HKR.out.nth_ hpj
  subst hB
  obtain ⟨y, hy⟩ : ∃ y, y = kidAt G p := ⟨_, rfl⟩
  have hgy : (kidL G)[p]? = some (kidAt G p) := by
   unfold kidAt
   rw [List.getD_eq_getElem?_getD, List.getElem?_eq_getElem (by omega)]
   rfl
  have hrs := HRS0.out
  rw [hgy] at hrs
  have hym := kidAt_mem (F := G) (i := p) (by omega)
  rw [← hy] at hrs h6c ht1 hym
  have HSM7 := hid (smaller_any ht1 (HARG.out y hym).1 (HMS.out w4 HBW4.out))
  simp only at hrs
  obtain ⟨q, hqq⟩ : ∃ q, q = lessR ms y := ⟨_, rfl⟩
  rw [← hqq] at hrs HSM7
  have HRS := hid hrs
  obtain ⟨z0, z1, z2, z3, z4, z5⟩ := h6c
  clear hrs hgy hym hy hqq ht1 HRS0 HKR
  go_wp2_with fail
  refine (HSM7.out).mono ?_
  rintro e w5 ⟨rfl, hb5⟩
  have HBW5 := bto HBW4 hb5
  have HKB5 := bko HKB4 hb5
  have HO5 := hid (own_below HO4.out hb5)
  clear hb5 z0 z1 z2 z3 z4 z5 hcp4
  cases q with
  | false =>
   have HRF : Hid (res = false) := hid (by rw [HRS.out]; rfl)
   go_wp2_with fail
   go_ret
   rw [HRF.out]
   exact ⟨rfl, HBW5.out⟩
  | true =>
   have HRT : Hid (res = (kidL G).all (rec_ ms)) := hid (by rw [HRS.out, Bool.true_and])
   clear hkb hkx hkf hown hbw HO3 HO4 HKB3 HKB4 HKF3 HBW3 HBW4 HKV
   go_wp2_with fail
   go_loopw [12] (fun iv wr => ∃ i : Nat, iv = .int .i64 (i : Int) ∧ i ≤ j ∧ Hid (res = ((kidL G).drop i).all (rec_ ms)) ∧ Hid (Blk wr w.heap.size 26 #[.int .i64 bv, .slice Ao no co, .slice Ae ne ce, .int .i64 bn, .slice Ap npp cpp]) ∧ Hid (wr.ownsRow (w.heap.size + 3) 71 6 (.slice (some ⟨b2, o2, none⟩) j d) j vs) ∧ Hid (Below w.heap.size w wr)) (fun i _ => j - (intOf i).toNat)
   case atStart => exact ⟨0, rfl, by omega, HRT, HKB5, HO5, HBW5⟩
   case round =>
    clear HKB5 HO5 HBW5 hb2
    obtain ⟨i, rfl, hi, hrs, hkb, hown2, hbw⟩ := hrel
    by_cases hlt : i < j
    rotate_left
    · have y20 : decide ((i : Int) < (j : Int)) = false := decide_eq_false (by omega)
      have y21 : decide (i < j) = false := decide_eq_false hlt
      have HRF : Hid (res = true) := hid (by rw [hrs.out, List.drop_of_length_le (by omega)]; rfl)
      go_wp2_with fail
      go_ret
      rw [HRF.out]
      exact ⟨rfl, hbw.out⟩
    have y20 : decide ((i : Int) < (j : Int)) = true := decide_eq_true (by omega)
    have y21 : decide (i < j) = true := decide_eq_true hlt
    have hq := hrs.out
    rw [kidAt_drop (by omega), List.all_cons] at hq
    obtain ⟨b2', o2', t1, hB, hb2, hc1, ht1⟩ := (args_kids hown2.out hfoc.out hbw.out hfl).nth_ hlt
    obtain ⟨rfl, rfl⟩ : b2 = b2' ∧ o2 = o2' := by injection hB with e; injection e with e1 e2; exact ⟨e1, e2⟩
    obtain ⟨y, hy⟩ : ∃ y, y = kidAt G i := ⟨_, rfl⟩
    have hym := kidAt_mem (F := G) (i := i) (by omega)
    rw [← hy] at hq hc1 ht1 hym
    obtain ⟨hyr, hyj, hys⟩ := HARG.out y hym
    have hnn := HNN.out
    have hsm := HSM.out
    have HBd := hid (below_drewN hbw.out 1)
    have HKBd := hid (hkb.out.drewN 1)
    have H6d := hid (hc1.below (below_drewN (Below.refl wr.heap.size wr) 1) hb2)
    have HFI := hid (HIH.out wr.drew t1 y A n c ms _ np cp (HBV.out _ HBd.out) (ht1.below (below_drewN (Below.refl wr.heap.size wr) 1)) hyr hyj (by omega) (HMS.out _ HBd.out) HNUL.out (by omega) HMR.out (HPS.out _ HBd.out))
    obtain ⟨q, hqq⟩ : ∃ q, q = rec_ ms y := ⟨_, rfl⟩
    rw [← hqq] at hq HFI
    have HQ := hid hq
    have hbl := hkb.out.lt
    clear hq hqq hy hym hys hyr hyj hnn hsm ht1 hB
    go_wp2_with fail
    refine wp_region_held_drew (S := (fun w' => (∀ i, w'.cell? ⟨w.heap.size, i, none⟩ = (#[.int .i64 bv, .slice Ao no co, .slice Ae ne ce, .int .i64 bn, .slice Ap npp cpp] : Array Value)[i]?) ∧ w'.cell? ⟨b2, o2 + i * 6, none⟩ = some (.int .i64 y.1.op) ∧ w'.cell? ⟨b2, o2 + i * 6 + 1, none⟩ = some (.int .i64 y.1.a) ∧ w'.cell? ⟨b2, o2 + i * 6 + 2, none⟩ = some (.int .i64 y.1.b) ∧ w'.cell? ⟨b2, o2 + i * 6 + 3, none⟩ = some (.slice t1.Ak t1.nk t1.ck) ∧ w'.cell? ⟨b2, o2 + i * 6 + 4, none⟩ = some (.slice t1.Aa t1.na t1.ca) ∧ w'.cell? ⟨b2, o2 + i * 6 + 5, none⟩ = some (.slice t1.Af t1.nf t1.cf))) (by kernel_rfl) ?_ (fun hHeld => ?_)
    · (try dsimp only); exact ⟨HKBd.out.cell, H6d.out.c0, H6d.out.c1, H6d.out.c2, H6d.out.c3, H6d.out.c4, H6d.out.c5⟩
    refine tq 0 hHeld ?_
    try simp only [p7]
    refine tq 1 hHeld ?_
    try simp only [p7]
    refine tq 2 hHeld ?_
    try simp only [p7]
    refine tq 3 hHeld ?_
    try simp only [p7]
    refine tq 4 hHeld ?_
    try simp only [p7]
    refine tq 5 hHeld ?_
    try simp only [p7]
    refine tq 6 hHeld ?_
    try simp only [p7]
    refine r1 7 fun K hK => ?_
    go_simp
    go_at_call 66
    refine (HFI.out).mono ?_
    rintro e9 w9 ⟨rfl, hd9⟩
    have HB9 := bto HBd hd9
    have HKB9 := bko HKBd hd9
    have H69 := hid (H6d.out.below hd9 hb2)
    have HO9 := hid (own_below (w := wr.drew) hown2.out hd9)
    clear hd9
    go_wp2_with fail
    refine hK.out _ _ (by exact ⟨HKB9.out.cell, H69.out.c0, H69.out.c1, H69.out.c2, H69.out.c3, H69.out.c4, H69.out.c5⟩) fun hHeld => ?_
    clear hK K
    try simp only [p7]
    refine tq 8 hHeld ?_
    try simp only [p7]
    refine wpAnyH_done (by kernel_rfl) ?_ _
    cases q with
    | false =>
     have HRF : Hid (res = false) := hid (by rw [HQ.out]; rfl)
     go_wp2_with fail
     go_ret
     rw [HRF.out]
     exact ⟨rfl, HB9.out⟩
    | true =>
     have HRN : Hid (res = ((kidL G).drop (i + 1)).all (rec_ ms)) := hid (by rw [HQ.out, Bool.true_and])
     go_wp2_with fail
     go_roundw
     case rel => exact ⟨i + 1, by go_num, by omega, HRN, HKB9, HO9, HB9⟩
     case measure => simp [intOf]; omega
end Go.Proofs.Ytjllmblbbgojbaa
