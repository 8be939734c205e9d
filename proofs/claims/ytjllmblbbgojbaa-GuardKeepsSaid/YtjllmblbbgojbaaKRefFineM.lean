/- The reference's Fine at a match. -/
import Derived.Test.YtjllmblbbgojbaaKShort2
import Derived.Test.YtjllmblbbgojbaaKRefFs
import Derived.Deep.DeepCutAuto
namespace Go.Proofs.Ytjllmblbbgojbaa
open Go.Lib (hid)
open Go.RowKit
theorem kids_match {n : Nd} {a : List Nd} {k : Fo} (h : RtX (n, a, k)) (h11 : n.op = 11) : ∃ B : Nat, n.b = (B : Int) ∧ B ≤ 16 ∧ (kidL k).length = 2 + B ∧ kidL k = kidAt k 0 :: kidAt k 1 :: (kidL k).drop 2 := by
 have h1 := h.kids_len
 have hok := (Rt.wf h).1
 simp only [okN, Bool.and_eq_true] at hok
 have h2 := plainB_iff.1 hok.1.1
 obtain ⟨B, hB⟩ : ∃ B : Nat, n.b = (B : Int) := ⟨n.b.toNat, by omega⟩
 have hl : (kidL k).length = 2 + B := by
  rw [h1]
  unfold ds
  rw [if_neg (by omega), List.length_replicate, h11, hB]
  unfold kidsI
  simp
  omega
 refine ⟨B, hB, by omega, hl, ?_⟩
 have := kidAt_drop (F := k) (i := 0) (by omega)
 have h4 := kidAt_drop (F := k) (i := 1) (by omega)
 rw [List.drop_zero] at this
 rw [← h4]
 exact this
theorem branchesRR_step {rec_ : List Int → TT → Bool} {ca : Nat → Nat} {ms : List Int} {i : Nat} {y : TT} {L : List TT} : branchesRR rec_ ca ms i (y :: L) = (branchRR rec_ (ca i) ms y && branchesRR rec_ ca ms (i + 1) L) := rfl
theorem branchRR_lam {rec_ : List Int → TT → Bool} {ms : List Int} {m : Nat} {n n1 n2 : Nd} {a a1 a2 : List Nd} {k1 k2 : Fo} (h : n.op = 5) : branchRR rec_ (m + 1) ms (n, a, .cons [] n1 a1 k1 (.cons [] n2 a2 k2 .nil)) = (rec_ ms (n1, a1, k1) && branchRR rec_ m (-3 :: ms) (n2, a2, k2)) := by
 simp only [branchRR]; rw [if_pos h]
theorem branchRR_stop {rec_ : List Int → TT → Bool} {ms : List Int} {m : Nat} {y : TT} (h : m = 0 ∨ y.1.op ≠ 5) : branchRR rec_ m ms y = rec_ ms y := by
 cases m with
 | zero => rfl
 | succ m =>
  have h5 : y.1.op ≠ 5 := by omega
  obtain ⟨n, a, k⟩ := y
  match k with
  | .nil => rfl
  | .cons _ _ _ _ .nil => rfl
  | .cons p n1 a1 k1 (.cons q n2 a2 k2 r) => simp only [branchRR]; rw [if_neg h5]
theorem CtsV.args_few {w : World} {A : Option Addr} {n c : Nat} {cs : List Ct} (h : CtsV w A n c cs) (k : Nat) : (cs.getD k default).args.length ≤ 5864062014805 := by
 by_cases hk : k < n
 · obtain ⟨b, off, e, hb, hm⟩ := h.mem (by omega)
   obtain ⟨A1, n1, c1, _, _, _, h1, _, h3, _⟩ := hm k hk
   rw [h3.len]
   exact h3.few
 rw [List.getD_eq_getElem?_getD, List.getElem?_eq_none (by have := h.len; omega)]
 exact Nat.zero_le _
theorem CtsV.at4 {w : World} {A : Option Addr} {n c : Nat} {cs : List Ct} (h : CtsV w A n c cs) {k : Nat} (hk : k < n) : ∃ b off, A = some ⟨b, off, none⟩ ∧ b < w.heap.size ∧ ∃ A1 n1 c1, w.cell? ⟨b, off + k * 2, none⟩ = some (.slice A1 n1 c1) ∧ (cs.getD k default).args.length = n1 := by
 obtain ⟨b, off, e, hb, hm⟩ := h.mem (by omega)
 obtain ⟨A1, n1, c1, _, _, _, h1, _, h3, _⟩ := hm k hk
 exact ⟨b, off, e, hb, A1, n1, c1, h1, h3.len⟩
set_option linter.unusedSimpArgs false in
set_option linter.unusedVariables false in
set_option maxRecDepth 100000 in
set_option maxHeartbeats 8000000 in
theorem refFine_mat {b : Bk} {v : BkVal} {places : List Int} {f m : Nat} (H : FineRH b v places (fineR places (argsB b) f) m) (hpl : ∀ p ∈ places, 0 ≤ p ∧ p ≤ 100)
 {w : World} {t : TrV} {x : TT} {A P : Option Addr} {n c np cp : Nat} {ms : List Int} (hb : BookV w v b) (ht : TrW w t x) (hx : RtX x) (hJ : JE b.entries.length x) (hm : szT x ≤ m + 1) (hms : IntsR (· < w.heap.size) w A n c ms) (hnul : A = none → n = 0 ∧ c = 0) (hn : n + 5 * szT x ≤ 30000) (hmr : ∀ z ∈ ms, -3 ≤ z ∧ z < (places.length : Int)) (hP : IntsR (· < w.heap.size) w P np cp places)
 (hnv : ¬ ((hdW x).1.1.op = 1 ∧ 0 ≤ ofR ms (hdW x).1.1.a)) (h11 : x.1.op = 11) :
 Calls Try.prog 66 #[.agg #[.int .i64 b.vars, .slice v.Ao v.no v.co, .slice v.Ae v.ne v.ce, .int .i64 b.nat, .slice v.Ap v.np v.cp], .agg #[.int .i64 x.1.op, .int .i64 x.1.a, .int .i64 x.1.b, .slice t.Ak t.nk t.ck, .slice t.Aa t.na t.ca, .slice t.Af t.nf t.cf], .slice A n c, .slice P np cp] w (BoolP (fineR places (argsB b) (f + 1) ms x) w) := by
 have hres : fineR places (argsB b) (f + 1) ms x = matchRR (fineR places (argsB b) f) (argsB b x.1.a) ms (kidL x.2.2) := by rw [fineR_suc, if_neg hnv, if_pos h11]
 have hent := fun (w' : World) (h : Below w.heap.size w w') => (hb.below h).entries
 have hebl := hb.entries.len
 have heb := JE.node (n := x.1) (a := x.2.1) (k := x.2.2) hJ h11
 have HENT := hid hent
 obtain ⟨res, hR⟩ : ∃ r, r = fineR places (argsB b) (f + 1) ms x := ⟨_, rfl⟩
 rw [← hR] at hres ⊢
 obtain ⟨Hd, L, hHL⟩ : ∃ Hd L, hdW x = (Hd, L) := ⟨_, _, rfl⟩
 have hHd : Hd.1.op = 11 := by
  have h := hHL
  rw [hdW_stop (by omega)] at h
  injection h with h _
  rw [← h]
  exact h11
 have HDL := hid hHL
 have H11 := hid h11
 have HHD11 := hid hHd
 have HEB := hid heb
 have HEL := hid hebl
 clear hHL hnv hR hent h11 hHd heb hebl
 have HBV := hid (fun (w' : World) (h : Below w.heap.size w w') => hb.below h)
 have HMS := hid (fun (w' : World) (h : Below w.heap.size w w') => hms.below h)
 have HPS := hid (fun (w' : World) (h : Below w.heap.size w w') => hP.below h)
 have HTX := hid ht
 have HRX := hid hx
 have HJX := hid hJ
 have HNUL := hid hnul
 have HMR := hid hmr
 have HSM := hid hm
 have HPL := hid hpl
 have HNN := hid hn
 have hx4 : szT x ≤ 4096 := Rt.few hx
 have HNX := hid ht.nk
 have hnk4 : t.nk ≤ 4096 := by
  have h1 := ht.nk
  have h2 : (kidL x.2.2).length ≤ (row x.2.2).length := by
   have : ∀ F : Fo, (kidL F).length ≤ (row F).length := by
    intro F
    induction F with
    | nil => simp [kidL]
    | cons p n a k x _ ih => rw [sz_cons]; have := szT_eq n a k; simp only [kidL, List.length_cons]; omega
   exact this _
  have h3 := szT_eq x.1 x.2.1 x.2.2
  have h4 : szT x = szT (x.1, x.2.1, x.2.2) := rfl
  omega
 obtain ⟨i0, hi, hy0, hy1, hy2⟩ := info_parts Try.infoT
 have HI0 := hid hi
 have HY0 := hid hy0
 have HY1 := hid hy1
 have HY2 := hid hy2
 have hok0 := (Rt.wf hx).1
 simp only [okN, Bool.and_eq_true] at hok0
 have HPL0 := hid hok0.1.1
 obtain ⟨rec_, hrec⟩ : ∃ r, r = fineR places (argsB b) f := ⟨_, rfl⟩
 rw [← hrec] at H hres
 unfold FineRH at H
 have HIH := hid H
 obtain ⟨bv, hbv⟩ : ∃ y, y = b.vars := ⟨_, rfl⟩
 obtain ⟨bn, hbn⟩ : ∃ y, y = b.nat := ⟨_, rfl⟩
 rw [← hbv, ← hbn] at HIH ⊢
 obtain ⟨Ao, no, co, Ae, ne, ce, Ap, npp, cpp⟩ := v
 obtain ⟨Ak, nk, ck, Aa, na, ca, Af, nf, cf⟩ := t
 obtain ⟨⟨op, va, vb⟩, ats, k⟩ := x
 simp only at HIH HTX HRX HJX HNX hnk4 HPL0 hres H11 HDL HENT HEB HEL ⊢
 have hvb := plainB_b HPL0.out
 clear hi hy0 hy1 hy2 hok0 H hb ht hx hJ hm hms hnul hn hmr hP hpl hbv hbn hrec
 have HB1 := hid (below_alloc w (.cells #[.int .i64 bv, .slice Ao no co, .slice Ae ne ce, .int .i64 bn, .slice Ap npp cpp] 26))
 have HB2 := hid (HB1.out.alloc HB1.out.size (.cells #[.int .i64 op, .int .i64 va, .int .i64 vb, .slice Ak nk ck, .slice Aa na ca, .slice Af nf cf] 71))
 have HB3 := hid (HB2.out.alloc HB2.out.size (.cells #[.int .i64 op, .int .i64 va, .int .i64 vb, .slice Ak nk ck, .slice Aa na ca, .slice Af nf cf] 71))
 have HKB3 : Hid (Blk (((w.alloc (.cells #[.int .i64 bv, .slice Ao no co, .slice Ae ne ce, .int .i64 bn, .slice Ap npp cpp] 26)).alloc (.cells #[.int .i64 op, .int .i64 va, .int .i64 vb, .slice Ak nk ck, .slice Aa na ca, .slice Af nf cf] 71)).alloc (.cells #[.int .i64 op, .int .i64 va, .int .i64 vb, .slice Ak nk ck, .slice Aa na ca, .slice Af nf cf] 71)) w.heap.size 26 #[.int .i64 bv, .slice Ao no co, .slice Ae ne ce, .int .i64 bn, .slice Ap npp cpp]) := hid (((Blk.new _ _ _).alloc _).alloc _)
 have HKX3 : Hid (Blk (((w.alloc (.cells #[.int .i64 bv, .slice Ao no co, .slice Ae ne ce, .int .i64 bn, .slice Ap npp cpp] 26)).alloc (.cells #[.int .i64 op, .int .i64 va, .int .i64 vb, .slice Ak nk ck, .slice Aa na ca, .slice Af nf cf] 71)).alloc (.cells #[.int .i64 op, .int .i64 va, .int .i64 vb, .slice Ak nk ck, .slice Aa na ca, .slice Af nf cf] 71)) (w.heap.size + 1) 71 #[.int .i64 op, .int .i64 va, .int .i64 vb, .slice Ak nk ck, .slice Aa na ca, .slice Af nf cf]) := hid ((Blk.new' (by simp)).alloc _)
 have HKF3 : Hid (Blk (((w.alloc (.cells #[.int .i64 bv, .slice Ao no co, .slice Ae ne ce, .int .i64 bn, .slice Ap npp cpp] 26)).alloc (.cells #[.int .i64 op, .int .i64 va, .int .i64 vb, .slice Ak nk ck, .slice Aa na ca, .slice Af nf cf] 71)).alloc (.cells #[.int .i64 op, .int .i64 va, .int .i64 vb, .slice Ak nk ck, .slice Aa na ca, .slice Af nf cf] 71)) (w.heap.size + 2) 71 #[.int .i64 op, .int .i64 va, .int .i64 vb, .slice Ak nk ck, .slice Aa na ca, .slice Af nf cf]) := hid (Blk.new' (by simp))
 go_in
 go_wp2_with fail
 go_loopw [10] (fun av wr => ∃ (j d : Nat) (B : Option Addr) (G : Fo) (vs : List Value) (t' : TrV) (x' : TT), av = .slice B j d ∧ szT x' + j ≤ 4096 ∧ flen G = j ∧ Hid (RtX x') ∧ Hid ((hdW x').1 = Hd ∧ (hdW x').2 ++ kidL G = L) ∧ Hid (TrW w t' x') ∧ Hid (Blk wr w.heap.size 26 #[.int .i64 bv, .slice Ao no co, .slice Ae ne ce, .int .i64 bn, .slice Ap npp cpp]) ∧ Hid (Blk wr (w.heap.size + 1) 71 #[.int .i64 op, .int .i64 va, .int .i64 vb, .slice Ak nk ck, .slice Aa na ca, .slice Af nf cf]) ∧ Hid (Blk wr (w.heap.size + 2) 71 (sixV t' x'.1)) ∧ Hid (wr.ownsRow (w.heap.size + 3) 71 6 (.slice B j d) j vs) ∧ Hid (FoC (· < w.heap.size) w G vs) ∧ Hid (Below w.heap.size w wr)) (fun av _ => 4096 - lenOf av)
 case atStart => exact ⟨0, 0, none, .nil, [], ⟨Ak, nk, ck, Aa, na, ca, Af, nf, cf⟩, (⟨op, va, vb⟩, ats, k), rfl, by omega, rfl, HRX, hid (by rw [HDL.out]; exact ⟨rfl, by simp [kidL]⟩), HTX, HKB3, HKX3, HKF3, hid (World.ownsRow_nil _ _ _ _), hid rfl, HB3⟩
 case round =>
  clear HKB3 HKX3 HKF3 HB1 HB2 HB3
  obtain ⟨j, d, B, G, vs, t', x', rfl, hszj, hfl, hrt, hhd, htw, hkb, hkx, hkf, hown, hfoc, hbw⟩ := hrel
  have hbl := hkf.out.lt
  by_cases h6 : x'.1.op = 6
  · obtain ⟨n9, a9, k9⟩ := x'
    obtain ⟨n1, a1, k1, n2, a2, k2, rfl, rfl, hs1, hs2, _, _⟩ := two_split hrt.out (.inr (.inr h6))
    have hnk : t'.nk = 2 := htw.out.nk
    obtain ⟨b0, o0, t1, hA, hb0, hc1, ht1⟩ := htw.out.kid (j := 0) (by omega)
    obtain ⟨b0', o0', t2, hA', hb0', hc2, ht2⟩ := htw.out.kid (j := 1) (by omega)
    obtain ⟨rfl, rfl⟩ : b0 = b0' ∧ o0 = o0' := by rw [hA] at hA'; injection hA' with e; injection e with e1 e2; exact ⟨e1, e2⟩
    clear hA' hb0'
    simp only at hc1 ht1 hc2 ht2 hA
    rw [show kidAt (Fo.cons [] n1 a1 k1 (Fo.cons [] n2 a2 k2 Fo.nil)) 0 = (n1, a1, k1) from rfl] at hc1 ht1
    rw [show kidAt (Fo.cons [] n1 a1 k1 (Fo.cons [] n2 a2 k2 Fo.nil)) 1 = (n2, a2, k2) from rfl] at hc2 ht2
    rw [Nat.zero_mul, Nat.add_zero] at hc1
    rw [Nat.one_mul] at hc2
    have hsz1 : szT (n1, a1, k1) < szT (n9, [], Fo.cons [] n1 a1 k1 (Fo.cons [] n2 a2 k2 Fo.nil)) := sz_two.1
    have hsj : szT (n1, a1, k1) + (1 + j) ≤ 4096 := by omega
    have hj4 : j ≤ 4096 := by omega
    have hhd2 := hhd.out
    rw [hdW_app h6] at hhd2
    have HHD : Hid ((hdW (n1, a1, k1)).1 = Hd ∧ (hdW (n1, a1, k1)).2 ++ kidL (.cons [] n2 a2 k2 G) = L) := hid ⟨hhd2.1, by rw [← hhd2.2]; simp [kidL]⟩
    obtain ⟨Ak9, nk9, ck9, Aa9, na9, ca9, Af9, nf9, cf9⟩ := t'
    obtain ⟨Ak1, nk1, ck1, Aa1, na1, ca1, Af1, nf1, cf1⟩ := t1
    obtain ⟨Ak2, nk2, ck2, Aa2, na2, ca2, Af2, nf2, cf2⟩ := t2
    simp only at hnk hA h6 hkf
    subst hnk
    subst hA
    obtain ⟨o9, va9, vb9⟩ := n9
    simp only at h6 hkf
    subst h6
    have HH1 := hid (fun (w' : World) (h : Below w.heap.size w w') => hc1.below h hb0)
    obtain ⟨z0, z1, z2, z3, z4, z5⟩ := hc2.below hbw.out hb0
    try simp only at z0 z1 z2 z3 z4 z5
    have zk := Blk.cell hkf.out
    try simp only at zk
    have HLIT : Hid ((wr.alloc (.cells #[.int .i64 n2.op, .int .i64 n2.a, .int .i64 n2.b, .slice Ak2 nk2 ck2, .slice Aa2 na2 ca2, .slice Af2 nf2 cf2] 71)).ownsRow (w.heap.size + 3) 71 6 (.slice (some ⟨wr.heap.size, 0, none⟩) 1 1) 1 [.int .i64 n2.op, .int .i64 n2.a, .int .i64 n2.b, .slice Ak2 nk2 ck2, .slice Aa2 na2 ca2, .slice Af2 nf2 cf2]) := hid ⟨by simp, .inr ⟨wr.heap.size, 1, #[.int .i64 n2.op, .int .i64 n2.a, .int .i64 n2.b, .slice Ak2 nk2 ck2, .slice Aa2 na2 ca2, .slice Af2 nf2 cf2], rfl, by omega, heap_alloc_new wr _, by omega, by unfold maxLen; omega, rfl, rfl⟩⟩
    have HO3 := hid (World.ownsRow.alloc hown.out (.cells #[.int .i64 n2.op, .int .i64 n2.a, .int .i64 n2.b, .slice Ak2 nk2 ck2, .slice Aa2 na2 ca2, .slice Af2 nf2 cf2] 71))
    have HXC := hid (own_cellsZ HO3.out)
    have HX1 := hid (foc_one G vs hfoc.out)
    have HNO : Hid (B = none → j = 0 ∧ d = 0) := hid fun e => ⟨own_zeroZ hown.out e, own_nul hown.out e⟩
    have hvl : vs.length = j * 6 := hown.out.1
    have HT1 := hid ht1
    have HT2 := hid ht2
    have HS1 := hid hs1
    have hbase : w.heap.size + 3 ≤ wr.heap.size := by omega
    clear hc1 hc2 ht1 ht2 hs1 hs2 hhd hhd2 hrt htw hsz1
    go_wp2_with (at_builtin; go_loud (refine wpList_oper rfl (oper_append_mine (.tmp 30) (.tmp 31) 69 rfl (w.heap.size + 3) 71 i0 _ 6 96 Try.underlying69 HI0.out HY0.out HY1.out HY2.out rfl (by decide) (.slice (some ⟨wr.heap.size, 0, none⟩) 1 1) 1 [.int .i64 n2.op, .int .i64 n2.a, .int .i64 n2.b, .slice Ak2 nk2 ck2, .slice Aa2 na2 ca2, .slice Af2 nf2 cf2] rfl HLIT.out B j d vs rfl hvl HNO.out HXC.out HX1.out (by unfold maxLen; omega) (by omega) (Nat.le_trans hbase (by simp)) ?_)); intro A5 c5 w5 happ5; go_loud (have hbwl := hbw.out.alloc (show w.heap.size ≤ wr.heap.size by omega) (.cells #[.int .i64 n2.op, .int .i64 n2.a, .int .i64 n2.b, .slice Ak2 nk2 ck2, .slice Aa2 na2 ca2, .slice Af2 nf2 cf2] 71)); go_loud (have HBW5 := hid (hbwl.grown happ5.grown (by simp; omega) (fun g hg => by have := (ownsRow_block HLIT.out hg).1; omega))); go_loud (have hkf5 := Blk.grown (hkf.out.alloc (.cells #[.int .i64 n2.op, .int .i64 n2.a, .int .i64 n2.b, .slice Ak2 nk2 ck2, .slice Aa2 na2 ca2, .slice Af2 nf2 cf2] 71)) happ5.grown (own_ne HLIT.out (show w.heap.size + 2 < w.heap.size + 3 by omega))); go_loud (have hkx5 := hid (Blk.grown (hkx.out.alloc (.cells #[.int .i64 n2.op, .int .i64 n2.a, .int .i64 n2.b, .slice Ak2 nk2 ck2, .slice Aa2 na2 ca2, .slice Af2 nf2 cf2] 71)) happ5.grown (own_ne HLIT.out (show w.heap.size + 1 < w.heap.size + 3 by omega)))); go_loud (have hkb5 := hid (Blk.grown (hkb.out.alloc (.cells #[.int .i64 n2.op, .int .i64 n2.a, .int .i64 n2.b, .slice Ak2 nk2 ck2, .slice Aa2 na2 ca2, .slice Af2 nf2 cf2] 71)) happ5.grown (own_ne HLIT.out (show w.heap.size < w.heap.size + 3 by omega)))); go_loud (have zk5 := Blk.cell hkf5); go_loud (have zf5 := Blk.frozen hkf5); have HKF5 := hid hkf5; obtain ⟨y0, y1, y2, y3, y4, y5⟩ := HH1.out _ HBW5.out; (try simp only at y0 y1 y2 y3 y4 y5); clear hkf5 hbwl zk z0 z1 z2 z3 z4 z5)
    have HO5 := hid happ5.own
    have hsg5 := happ5.grown.size
    have hsw5 : w.heap.size + 3 ≤ w5.heap.size := Nat.le_trans hbase (Nat.le_trans (by simp) hsg5)
    have hg6 := hid (grown_sixs w5 (w.heap.size + 2) (.int .i64 n1.op) (.int .i64 n1.a) (.int .i64 n1.b) (.slice Ak1 nk1 ck1) (.slice Aa1 na1 ca1) (.slice Af1 nf1 cf1))
    clear happ5
    go_roundw
    case rel =>
     exact ⟨1 + j, c5, A5, .cons [] n2 a2 k2 G, [.int .i64 n2.op, .int .i64 n2.a, .int .i64 n2.b, .slice Ak2 nk2 ck2, .slice Aa2 na2 ca2, .slice Af2 nf2 cf2] ++ vs, ⟨Ak1, nk1, ck1, Aa1, na1, ca1, Af1, nf1, cf1⟩, (n1, a1, k1), rfl, hsj, by simp only [flen]; omega, HS1, HHD, HT1, hid (Blk.grown hkb5.out hg6.out (by intro e; injection e with e; omega)), hid (Blk.grown hkx5.out hg6.out (by intro e; injection e with e; omega)), hid (blk_sixs HKF5.out _ _ _ _ _ _), hid (World.ownsRow.kept HO5.out hg6.out (.inr (own_ne HO5.out (show w.heap.size + 2 < w.heap.size + 3 by omega)).symm)), hid ⟨[.int .i64 n2.op, .int .i64 n2.a, .int .i64 n2.b, .slice Ak2 nk2 ck2, .slice Aa2 na2 ca2, .slice Af2 nf2 cf2], vs, rfl, HT2.out, hfoc.out⟩, hid (HBW5.out.grown hg6.out (by omega) (fun q hq => by injection hq with hq; omega))⟩
    case measure => simp only [lenOf]; omega
  have hh1 := hhd.out
  rw [hdW_stop h6] at hh1
  obtain ⟨hh1, hh2⟩ := hh1
  try simp only [List.nil_append] at hh1 hh2
  subst hh1
  subst hh2
  have h11' : x'.1.op = 11 := HHD11.out
  have h11 := H11.out
  obtain ⟨⟨op', va', vb'⟩, a', k'⟩ := x'
  obtain ⟨Ak', nk', ck', Aa', na', ca', Af', nf', cf'⟩ := t'
  try simp only at hkf h6 h11' h11
  have zf' := Blk.cell hkf.out
  have zx' := Blk.cell hkx.out
  try simp only at zf'
  have y6 : (op' == 6) = false := by simpa using h6
  have y1 : (op' == 1) = false := by rw [beq_eq_false_iff_ne]; omega
  have y11 : (op == 11) = true := by simpa using h11
  obtain ⟨wo, rfl⟩ : ∃ wo : World, wo = wr := ⟨_, rfl⟩
  obtain ⟨bb, hbb, hbb16, hkl, hke⟩ := kids_match HRX.out h11
  try simp only at hbb
  subst hbb
  have hnk2 : nk = 2 + bb := by rw [← hkl]; exact HNX.out
  have HNK2 := hid hnk2
  have HKL := hid hkl
  have hk0n : 0 < nk := by omega
  have hk1n : 1 < nk := by omega
  have hk0i : (0 : Int) < (nk : Int) := by omega
  have hk1i : (1 : Int) < (nk : Int) := by omega
  obtain ⟨b0, o0, t0, hA, hb0, hc0, ht0⟩ := HTX.out.kid (j := 0) (by simp only; omega)
  obtain ⟨b0', o0', t1, hA', _, hc1, ht1⟩ := HTX.out.kid (j := 1) (by simp only; omega)
  obtain ⟨rfl, rfl⟩ : b0 = b0' ∧ o0 = o0' := by rw [hA] at hA'; injection hA' with e; injection e with e1 e2; exact ⟨e1, e2⟩
  clear hA'
  try simp only at hA hc0 ht0 hc1 ht1
  subst hA
  rw [Nat.zero_mul, Nat.add_zero] at hc0
  rw [Nat.one_mul] at hc1
  have hy0m := kidAt_mem (F := k) (i := 0) (by omega)
  have hy1m := kidAt_mem (F := k) (i := 1) (by omega)
  obtain ⟨y0, hy0⟩ : ∃ y, y = kidAt k 0 := ⟨_, rfl⟩
  obtain ⟨y1', hy1⟩ : ∃ y, y = kidAt k 1 := ⟨_, rfl⟩
  rw [← hy0, ← hy1] at hke
  rw [← hy0] at hc0 ht0 hy0m
  rw [← hy1] at hc1 ht1 hy1m
  rw [hke] at hres
  unfold matchRR at hres
  simp only at hres
  have hys0 := sz_kidx (n := ⟨op, va, (bb : Int)⟩) (a := ats) hy0m
  have hys1 := sz_kidx (n := ⟨op, va, (bb : Int)⟩) (a := ats) hy1m
  have hyr0 : RtX y0 := RtX.kid HRX.out hy0m
  have hyr1 : RtX y1' := RtX.kid HRX.out hy1m
  have hyj0 := JE.kid HJX.out y0 hy0m
  have hyj1 := JE.kid HJX.out y1' hy1m
  have hnn := HNN.out
  have hsm := HSM.out
  have HF0 := hid (fun (w' : World) (h : Below w.heap.size w w') => HIH.out w' t0 y0 A n c ms P np cp (HBV.out w' h) (ht0.below h) hyr0 hyj0 (by omega) (HMS.out w' h) HNUL.out (by omega) HMR.out (HPS.out w' h))
  have HF1 := hid (fun (w' : World) (h : Below w.heap.size w w') => HIH.out w' t1 y1' A n c ms P np cp (HBV.out w' h) (ht1.below h) hyr1 hyj1 (by omega) (HMS.out w' h) HNUL.out (by omega) HMR.out (HPS.out w' h))
  have HT1 := hid (fun (w' : World) (h : Below w.heap.size w w') => smaller_any (ht1.below h) hyr1 (HMS.out w' h))
  have hva1 := var_a hyr1
  have HOF1 := hid (fun (w' : World) (h : Below w.heap.size w w') => of7_any (HMS.out w' h) y1'.1.a hva1)
  obtain ⟨q0, hq0⟩ : ∃ q, q = rec_ ms y0 := ⟨_, rfl⟩
  obtain ⟨q1, hq1⟩ : ∃ q, q = rec_ ms y1' := ⟨_, rfl⟩
  rw [← hq0, ← hq1] at hres
  rw [← hq0] at HF0
  rw [← hq1] at HF1
  obtain ⟨dn, hdn⟩ : ∃ d, d = downR ms y1' := ⟨_, rfl⟩
  rw [← hdn] at hres
  unfold downR at hdn
  obtain ⟨qs, hqs⟩ : ∃ q, q = lessR ms y1' := ⟨_, rfl⟩
  rw [← hqs] at hdn HT1
  have HRS := hid hres
  have HDN := hid hdn
  have HKE := hid hke
  have HHB := hid hb0
  have HBd := hid (below_drewN hbw.out 1)
  have HKBd := hid (hkb.out.drewN 1)
  have HKXd := hid (hkx.out.drewN 1)
  have H6d := hid (hc0.below HBd.out hb0)
  have H7d := hid (hc1.below HBd.out hb0)
  have hkbl := hkb.out.lt
  clear hhd hrt htw hown hfoc hszj hres h6 h11 h11' HHD11 hke hy0 hy1 hy0m hy1m hyr0 hyr1 hyj0 hyj1 hys0 hys1 hnn hsm ht0 ht1 hq0 hq1 hdn hqs hnk2 hkl
  go_upto_region 17 with fail
  clear zf' zx'
  go_cut [108] (fun bv2 wx => bv2 = .bool (!(q0 && q1)) ∧ Hid (Blk wx w.heap.size 26 #[.int .i64 bv, .slice Ao no co, .slice Ae ne ce, .int .i64 bn, .slice Ap npp cpp]) ∧ Hid (Blk wx (w.heap.size + 1) 71 #[.int .i64 op, .int .i64 va, .int .i64 (bb : Int), .slice (some ⟨b0, o0, none⟩) nk ck, .slice Aa na ca, .slice Af nf cf]) ∧ Hid (Below w.heap.size w wx))
  case first =>
   cases q0 with
   | false =>
    refine wp_region_held_drew (S := (fun w' => (∀ i, w'.cell? ⟨w.heap.size, i, none⟩ = (#[.int .i64 bv, .slice Ao no co, .slice Ae ne ce, .int .i64 bn, .slice Ap npp cpp] : Array Value)[i]?) ∧ w'.cell? ⟨w.heap.size + 1, 3, none⟩ = some (.slice (some ⟨b0, o0, none⟩) nk ck) ∧ w'.cell? ⟨b0, o0, none⟩ = some (.int .i64 y0.1.op) ∧ w'.cell? ⟨b0, o0 + 1, none⟩ = some (.int .i64 y0.1.a) ∧ w'.cell? ⟨b0, o0 + 2, none⟩ = some (.int .i64 y0.1.b) ∧ w'.cell? ⟨b0, o0 + 3, none⟩ = some (.slice t0.Ak t0.nk t0.ck) ∧ w'.cell? ⟨b0, o0 + 4, none⟩ = some (.slice t0.Aa t0.na t0.ca) ∧ w'.cell? ⟨b0, o0 + 5, none⟩ = some (.slice t0.Af t0.nf t0.cf) ∧ w'.cell? ⟨b0, o0 + 6, none⟩ = some (.int .i64 y1'.1.op) ∧ w'.cell? ⟨b0, o0 + 6 + 1, none⟩ = some (.int .i64 y1'.1.a) ∧ w'.cell? ⟨b0, o0 + 6 + 2, none⟩ = some (.int .i64 y1'.1.b) ∧ w'.cell? ⟨b0, o0 + 6 + 3, none⟩ = some (.slice t1.Ak t1.nk t1.ck) ∧ w'.cell? ⟨b0, o0 + 6 + 4, none⟩ = some (.slice t1.Aa t1.na t1.ca) ∧ w'.cell? ⟨b0, o0 + 6 + 5, none⟩ = some (.slice t1.Af t1.nf t1.cf))) (by kernel_rfl) ?_ (fun hHeld => ?_)
    · (try dsimp only); exact ⟨HKBd.out.cell, HKXd.out.cell 3, H6d.out.c0, H6d.out.c1, H6d.out.c2, H6d.out.c3, H6d.out.c4, H6d.out.c5, H7d.out.c0, H7d.out.c1, H7d.out.c2, H7d.out.c3, H7d.out.c4, H7d.out.c5⟩
    refine tq 0 hHeld ?_
    try simp only [p7]
    refine tq 1 hHeld ?_
    try simp only [p7]
    refine tq 2 hHeld ?_
    try simp only [p7]
    refine tq 3 hHeld ?_
    try simp only [p7]
    refine tq 4 hHeld ?_
    try simp only [p7]
    refine tq 5 hHeld ?_
    try simp only [p7]
    refine tq 6 hHeld ?_
    try simp only [p7]
    refine r1 7 fun K hK => ?_
    go_simp
    go_at_call 66
    refine (HF0.out wo.drew HBd.out).mono ?_
    rintro e7 w7 ⟨rfl, hd7⟩
    have HB7 := bto HBd hd7
    have HKB7 := bko HKBd hd7
    have HKX7 := bko HKXd hd7
    have H67 := hid (hc0.below HB7.out hb0)
    have H77 := hid (hc1.below HB7.out hb0)
    clear hd7
    go_wp2_with fail
    refine hK.out _ _ (by exact ⟨HKB7.out.cell, HKX7.out.cell 3, H67.out.c0, H67.out.c1, H67.out.c2, H67.out.c3, H67.out.c4, H67.out.c5, H77.out.c0, H77.out.c1, H77.out.c2, H77.out.c3, H77.out.c4, H77.out.c5⟩) fun hHeld => ?_
    clear hK K
    try simp only [p7]
    refine tq 8 hHeld ?_
    try simp only [p7]
    refine tq 9 hHeld ?_
    try simp only [p7]
    refine dk 10 hHeld ?_
    try simp only [p7]
    refine dk 11 hHeld ?_
    try simp only [p7]
    refine dk 12 hHeld ?_
    try simp only [p7]
    refine dk 13 hHeld ?_
    try simp only [p7]
    refine dk 14 hHeld ?_
    try simp only [p7]
    refine dk 15 hHeld ?_
    try simp only [p7]
    refine dk 16 hHeld ?_
    try simp only [p7]
    refine dk 17 hHeld ?_
    try simp only [p7]
    refine dk 18 hHeld ?_
    try simp only [p7]
    refine tq 19 hHeld ?_
    try simp only [p7]
    refine wpAnyH_done (by kernel_rfl) ?_ _
    go_wp2_with fail
    go_meet
    exact ⟨rfl, HKB7, HKX7, HB7⟩
   | true =>
    refine wp_region_held_drew (S := (fun w' => (∀ i, w'.cell? ⟨w.heap.size, i, none⟩ = (#[.int .i64 bv, .slice Ao no co, .slice Ae ne ce, .int .i64 bn, .slice Ap npp cpp] : Array Value)[i]?) ∧ w'.cell? ⟨w.heap.size + 1, 3, none⟩ = some (.slice (some ⟨b0, o0, none⟩) nk ck) ∧ w'.cell? ⟨b0, o0, none⟩ = some (.int .i64 y0.1.op) ∧ w'.cell? ⟨b0, o0 + 1, none⟩ = some (.int .i64 y0.1.a) ∧ w'.cell? ⟨b0, o0 + 2, none⟩ = some (.int .i64 y0.1.b) ∧ w'.cell? ⟨b0, o0 + 3, none⟩ = some (.slice t0.Ak t0.nk t0.ck) ∧ w'.cell? ⟨b0, o0 + 4, none⟩ = some (.slice t0.Aa t0.na t0.ca) ∧ w'.cell? ⟨b0, o0 + 5, none⟩ = some (.slice t0.Af t0.nf t0.cf) ∧ w'.cell? ⟨b0, o0 + 6, none⟩ = some (.int .i64 y1'.1.op) ∧ w'.cell? ⟨b0, o0 + 6 + 1, none⟩ = some (.int .i64 y1'.1.a) ∧ w'.cell? ⟨b0, o0 + 6 + 2, none⟩ = some (.int .i64 y1'.1.b) ∧ w'.cell? ⟨b0, o0 + 6 + 3, none⟩ = some (.slice t1.Ak t1.nk t1.ck) ∧ w'.cell? ⟨b0, o0 + 6 + 4, none⟩ = some (.slice t1.Aa t1.na t1.ca) ∧ w'.cell? ⟨b0, o0 + 6 + 5, none⟩ = some (.slice t1.Af t1.nf t1.cf))) (by kernel_rfl) ?_ (fun hHeld => ?_)
    · (try dsimp only); exact ⟨HKBd.out.cell, HKXd.out.cell 3, H6d.out.c0, H6d.out.c1, H6d.out.c2, H6d.out.c3, H6d.out.c4, H6d.out.c5, H7d.out.c0, H7d.out.c1, H7d.out.c2, H7d.out.c3, H7d.out.c4, H7d.out.c5⟩
    refine tq 0 hHeld ?_
    try simp only [p7]
    refine tq 1 hHeld ?_
    try simp only [p7]
    refine tq 2 hHeld ?_
    try simp only [p7]
    refine tq 3 hHeld ?_
    try simp only [p7]
    refine tq 4 hHeld ?_
    try simp only [p7]
    refine tq 5 hHeld ?_
    try simp only [p7]
    refine tq 6 hHeld ?_
    try simp only [p7]
    refine r1 7 fun K hK => ?_
    go_simp
    go_at_call 66
    refine (HF0.out wo.drew HBd.out).mono ?_
    rintro e7 w7 ⟨rfl, hd7⟩
    have HB7 := bto HBd hd7
    have HKB7 := bko HKBd hd7
    have HKX7 := bko HKXd hd7
    have H67 := hid (hc0.below HB7.out hb0)
    have H77 := hid (hc1.below HB7.out hb0)
    clear hd7
    go_wp2_with fail
    refine hK.out _ _ (by exact ⟨HKB7.out.cell, HKX7.out.cell 3, H67.out.c0, H67.out.c1, H67.out.c2, H67.out.c3, H67.out.c4, H67.out.c5, H77.out.c0, H77.out.c1, H77.out.c2, H77.out.c3, H77.out.c4, H77.out.c5⟩) fun hHeld => ?_
    clear hK K
    try simp only [p7]
    refine tq 8 hHeld ?_
    try simp only [p7]
    refine tq 9 hHeld ?_
    try simp only [p7]
    refine tq 10 hHeld ?_
    try simp only [p7]
    refine tq 11 hHeld ?_
    try simp only [p7]
    refine tq 12 hHeld ?_
    try simp only [p7]
    refine tq 13 hHeld ?_
    try simp only [p7]
    refine tq 14 hHeld ?_
    try simp only [p7]
    refine tq 15 hHeld ?_
    try simp only [p7]
    refine tq 16 hHeld ?_
    try simp only [p7]
    refine r1 17 fun K hK => ?_
    go_simp
    go_at_call 66
    refine (HF1.out _ HB7.out).mono ?_
    rintro e8 w8 ⟨rfl, hd8⟩
    have HB8 := bto HB7 hd8
    have HKB8 := bko HKB7 hd8
    have HKX8 := bko HKX7 hd8
    have H68 := hid (hc0.below HB8.out hb0)
    have H78 := hid (hc1.below HB8.out hb0)
    clear hd8
    go_wp2_with fail
    refine hK.out _ _ (by exact ⟨HKB8.out.cell, HKX8.out.cell 3, H68.out.c0, H68.out.c1, H68.out.c2, H68.out.c3, H68.out.c4, H68.out.c5, H78.out.c0, H78.out.c1, H78.out.c2, H78.out.c3, H78.out.c4, H78.out.c5⟩) fun hHeld => ?_
    clear hK K
    try simp only [p7]
    refine tq 18 hHeld ?_
    try simp only [p7]
    refine tq 19 hHeld ?_
    try simp only [p7]
    refine wpAnyH_done (by kernel_rfl) ?_ _
    go_wp2_with fail
    go_meet
    exact ⟨by rw [Bool.true_and], HKB8, HKX8, HB8⟩
  case rest =>
  obtain ⟨rfl, hkb2, hkx2, hbw2⟩ := hcut
  clear hkb hkx hbw HBd HKBd HKXd H6d H7d hkf hkbl hbl hfl
  obtain ⟨qq, hqq⟩ : ∃ q, q = (q0 && q1) := ⟨_, rfl⟩
  have hrs := HRS.out
  rw [← hqq] at hrs ⊢
  have HRS2 := hid hrs
  clear hrs hqq HRS
  cases qq with
  | false =>
   have HRF : Hid (res = false) := hid (by rw [HRS2.out]; rfl)
   go_wp2_with fail
   go_ret
   rw [HRF.out]
   exact ⟨rfl, hbw2.out⟩
  | true =>
  have HRB : Hid (res = branchesRR rec_ (fun k => if dn then argsB b va k else 0) ms 0 ((kidL k).drop 2)) := hid (by rw [HRS2.out, Bool.true_and])
  clear HRS2
  have zx := Blk.cell hkx2.out
  obtain ⟨z0, z1, z2, z3, z4, z5⟩ := hc1.below hbw2.out hb0
  have HBS := hid (hbw2.out.trans ((below_alloc wc (.cells (sixV t1 y1'.1) 71)).mono hbw2.out.size))
  have HKBS : Hid (Blk (wc.alloc (.cells (sixV t1 y1'.1) 71)) w.heap.size 26 #[.int .i64 bv, .slice Ao no co, .slice Ae ne ce, .int .i64 bn, .slice Ap npp cpp]) := hid (hkb2.out.alloc _)
  have HKXS : Hid (Blk (wc.alloc (.cells (sixV t1 y1'.1) 71)) (w.heap.size + 1) 71 #[.int .i64 op, .int .i64 va, .int .i64 (bb : Int), .slice (some ⟨b0, o0, none⟩) nk ck, .slice Aa na ca, .slice Af nf cf]) := hid (hkx2.out.alloc _)
  have HKS := hid (Blk.new wc 71 (sixV t1 y1'.1))
  go_upto_region 20 with fail
  clear zx z0 z1 z2 z3 z4 z5
  have zs := Blk.cell HKS.out
  go_cut [14] (fun dv wx => dv = .bool dn ∧ Hid (Blk wx w.heap.size 26 #[.int .i64 bv, .slice Ao no co, .slice Ae ne ce, .int .i64 bn, .slice Ap npp cpp]) ∧ Hid (Blk wx (w.heap.size + 1) 71 #[.int .i64 op, .int .i64 va, .int .i64 (bb : Int), .slice (some ⟨b0, o0, none⟩) nk ck, .slice Aa na ca, .slice Af nf cf]) ∧ Hid (Below w.heap.size w wx))
  case first =>
   go_wp2_with fail
   refine (HT1.out _ HBS.out).mono ?_
   rintro e w8 ⟨rfl, hd8⟩
   have HB8 := bto HBS hd8
   have HKB8 := bko HKBS hd8
   have HKX8 := bko HKXS hd8
   have zs8 := Blk.cell (Blk.below HKS.out hd8 HKS.out.lt)
   clear hd8 zs
   cases qs with
   | true =>
    have HD : Hid (dn = true) := hid (by rw [HDN.out]; rfl)
    go_wp2_with fail
    go_meet
    exact ⟨by rw [HD.out], HKB8, HKX8, HB8⟩
   | false =>
    by_cases h1 : y1'.1.op = 1
    · have s1 : (y1'.1.op == 1) = true := by simpa using h1
      have HD : Hid (dn = (ofR ms y1'.1.a == -2)) := hid (by rw [HDN.out, s1, Bool.false_or, Bool.true_and])
      clear HDN
      generalize ofR ms y1'.1.a = mk at *
      clear h1
      go_wp2_with fail
      refine (HOF1.out _ HB8.out).mono ?_
      rintro e w9 ⟨rfl, hd9⟩
      have HB9 := bto HB8 hd9
      have HKB9 := bko HKB8 hd9
      have HKX9 := bko HKX8 hd9
      clear hd9
      go_wp2_with fail
      go_meet
      exact ⟨by rw [HD.out], HKB9, HKX9, HB9⟩
    · have s1 : (y1'.1.op == 1) = false := by simpa using h1
      have HD : Hid (dn = false) := hid (by rw [HDN.out, s1]; rfl)
      clear h1
      go_wp2_with fail
      go_meet
      exact ⟨by rw [HD.out], HKB8, HKX8, HB8⟩
  case rest =>
  obtain ⟨rfl, hkb3, hkx3, hbw3⟩ := hcut
  obtain ⟨wp, rfl⟩ : ∃ wp : World, wp = wc := ⟨_, rfl⟩
  have hva0 := (plainB_a HPL0.out).1
  obtain ⟨e, rfl⟩ : ∃ e : Nat, va = (e : Int) := ⟨va.toNat, by omega⟩
  have hene : e < ne := by have h1 := HEB.out; have h2 := HEL.out; (try simp only at h1); omega
  obtain ⟨be, oe, hAe, hbe, ev, _, _, _, _, hc4, _, _, hec⟩ := (HENT.out w (Below.refl _ _)).at_ hene
  try simp only at hAe
  subst hAe
  have hct := hec.ctors
  obtain ⟨As', ns', cs', Ap', np', cp', Ai', ni', ci', Ac, nc, cc, At', nt', ct', Ab', nb', cb'⟩ := ev
  try simp only at hc4 hct
  have HCT := hid (fun (w' : World) (h : Below w.heap.size w w') => hct.below h)
  have hctl := hct.len
  have hcfew := hct.few
  have hc4w := (hbw3.out.cell (p := ⟨be, oe + e * 7 + 4, none⟩) hbe).trans hc4
  have HCA : Hid (∀ k : Nat, argsB b (e : Int) k = ((b.entries.getD e default).ctors.getD k default).args.length) := hid (fun k => by unfold argsB entB; rw [Int.toNat_natCast])
  obtain ⟨CS, hCS⟩ : ∃ CS, CS = (b.entries.getD e default).ctors := ⟨_, rfl⟩
  rw [← hCS] at HCT HCA hctl
  have HCL := hid hctl
  have HCF : Hid (∀ k : Nat, argsB b (e : Int) k ≤ 5864062014805) := hid (fun k => by rw [HCA.out]; exact (HCT.out w (Below.refl _ _)).args_few k)
  have d21 : decide (e < ne) = true := decide_eq_true hene
  have d21i : decide ((e : Int) < (ne : Int)) = true := decide_eq_true (by omega)
  have zb := Blk.cell hkb3.out
  have zx := Blk.cell hkx3.out
  clear hec hct hCS hctl hc4 hkb2 hkx2 hbw2 HBS HKBS HKXS HKS HT1 HOF1 HDN
  go_wp2_with fail
  clear zb zx hc4w
  go_loopw [16] (fun iv wr => ∃ i : Nat, iv = .int .i64 (i : Int) ∧ i ≤ bb ∧ Hid (res = branchesRR rec_ (fun k => if dn then argsB b (e : Int) k else 0) ms i ((kidL k).drop (2 + i))) ∧ Hid (Blk wr w.heap.size 26 #[.int .i64 bv, .slice Ao no co, .slice (some ⟨be, oe, none⟩) ne ce, .int .i64 bn, .slice Ap npp cpp]) ∧ Hid (Blk wr (w.heap.size + 1) 71 #[.int .i64 op, .int .i64 (e : Int), .int .i64 (bb : Int), .slice (some ⟨b0, o0, none⟩) nk ck, .slice Aa na ca, .slice Af nf cf]) ∧ Hid (Below w.heap.size w wr)) (fun i _ => bb - (intOf i).toNat)
  case atStart => exact ⟨0, rfl, by omega, HRB, hkb3, hkx3, hbw3⟩
  case round =>
   clear HRB hkb3 hkx3 hbw3
   obtain ⟨i, rfl, hi, hrs, hkb, hkx, hbw⟩ := hrel
   have zb := Blk.cell hkb.out
   have zx := Blk.cell hkx.out
   have hkl := HKL.out
   have hnk2 := HNK2.out
   by_cases hlt : i < bb
   case neg =>
    have y20 : decide ((i : Int) < (bb : Int)) = false := decide_eq_false (by omega)
    have y21 : decide (i < bb) = false := decide_eq_false hlt
    have HRF : Hid (res = true) := hid (by rw [hrs.out, List.drop_of_length_le (by omega)]; rfl)
    clear hkl hnk2
    go_wp2_with fail
    go_ret
    rw [HRF.out]
    exact ⟨rfl, hbw.out⟩
   have y20 : decide ((i : Int) < (bb : Int)) = true := decide_eq_true (by omega)
   have y21 : decide (i < bb) = true := decide_eq_true hlt
   have hq := hrs.out
   rw [kidAt_drop (by omega), branchesRR_step, show 2 + i + 1 = 2 + (i + 1) from by omega] at hq
   obtain ⟨cnt, hcnt⟩ : ∃ c, c = (if dn then argsB b (e : Int) i else 0) := ⟨_, rfl⟩
   obtain ⟨b0', o0', ty, hA, hb0', hcy, hty⟩ := HTX.out.kid (j := 2 + i) (by simp only; omega)
   obtain ⟨rfl, rfl⟩ : b0 = b0' ∧ o0 = o0' := by (try simp only at hA); injection hA with e; injection e with e1 e2; exact ⟨e1, e2⟩
   clear hA hb0'
   try simp only at hcy hty
   have hym := kidAt_mem (F := k) (i := 2 + i) (by omega)
   obtain ⟨y, hy⟩ : ∃ y, y = kidAt k (2 + i) := ⟨_, rfl⟩
   rw [← hy, ← hcnt] at hq
   rw [← hy] at hcy hty hym
   have hyr : RtX y := RtX.kid HRX.out hym
   have hyj := JE.kid HJX.out y hym
   have hys := sz_kidx (n := ⟨op, (e : Int), (bb : Int)⟩) (a := ats) hym
   have HQ := hid hq
   have HCN := hid hcnt
   have hnn := HNN.out
   have hsm := HSM.out
   have hyn : n + 5 * szT y ≤ 30000 := by omega
   have hym2 : szT y ≤ m := by omega
   have HYR := hid hyr
   have HYJ := hid hyj
   have HYT := hid hty
   obtain ⟨z0, z1, z2, z3, z4, z5⟩ := hcy.below hbw.out HHB.out
   have h2w : IntKind.i64.wrap (2 + (i : Int)) = ((2 + i : Nat) : Int) := by rw [IntKind.wrap_i64]; omega
   have h2d : decide (2 + i < nk) = true := decide_eq_true (by omega)
   have h2di : decide (((2 + i : Nat) : Int) < (nk : Int)) = true := decide_eq_true (by omega)
   have h2e : ((2 : Int) + (i : Int)) < (nk : Int) := by omega
   clear hq hcnt hy hym hyr hyj hys hnn hsm hcy hty hkl hnk2
   go_upto_region 26 with fail
   go_cut [151] (fun bv2 wx => bv2 = .bool (dn && decide (i < nc)) ∧ wx = wr)
   case first =>
    cases dn with
    | false =>
     go_wp2_with fail
     go_meet
     exact ⟨rfl, rfl⟩
    | true =>
     by_cases hic : i < nc
     · have y30 : decide ((i : Int) < (nc : Int)) = true := decide_eq_true (by omega)
       have y31 : decide (i < nc) = true := decide_eq_true hic
       go_wp2_with fail
       go_meet
       exact ⟨by rw [y31]; rfl, rfl⟩
     · have y30 : decide ((i : Int) < (nc : Int)) = false := decide_eq_false (by omega)
       have y31 : decide (i < nc) = false := decide_eq_false hic
       go_wp2_with fail
       go_meet
       exact ⟨by rw [y31]; rfl, rfl⟩
   case rest =>
   obtain ⟨rfl, hwc⟩ := hcut
   subst hwc
   obtain ⟨wr, rfl⟩ : ∃ x : World, x = wc := ⟨_, rfl⟩
   go_upto_if 151 with fail
   go_cut [17] (fun nv wx => nv = .int .i64 (cnt : Int) ∧ wx = wr)
   case first =>
    obtain ⟨q, hqq⟩ : ∃ q, q = (dn && decide (i < nc)) := ⟨_, rfl⟩
    rw [← hqq]
    cases q with
    | false =>
     have HC0 : Hid (cnt = 0) := hid (by
      rw [HCN.out]
      cases dn with
      | false => rfl
      | true =>
       rw [Bool.true_and, eq_comm, decide_eq_false_iff_not] at hqq
       rw [if_pos rfl, HCA.out, List.getD_eq_getElem?_getD, List.getElem?_eq_none (by rw [HCL.out]; omega)]
       rfl)
     clear hqq
     go_wp2_with fail
     go_meet
     exact ⟨by rw [HC0.out]; rfl, rfl⟩
    | true =>
     rw [eq_comm, Bool.and_eq_true, decide_eq_true_eq] at hqq
     obtain ⟨hdn1, hic⟩ := hqq
     obtain ⟨bc, oc, hAc, hbc, A1, n1, c1, hcc, hln⟩ := (HCT.out wr hbw.out).at4 hic
     have HC0 : Hid (cnt = n1) := hid (by rw [HCN.out, hdn1, if_pos rfl, HCA.out, hln])
     have y31 : decide (i < nc) = true := decide_eq_true hic
     have y30 : decide ((i : Int) < (nc : Int)) = true := decide_eq_true (by omega)
     subst hAc
     clear hdn1 hln
     go_wp2_with fail
     go_meet
     exact ⟨by rw [HC0.out], rfl⟩
   case rest =>
   obtain ⟨rfl, hwc⟩ := hcut
   subst hwc
   obtain ⟨wr, rfl⟩ : ∃ x : World, x = wc := ⟨_, rfl⟩
   have hgl : w.heap.size + 1 < wr.heap.size := hkx.out.lt
   have HBY := hid (hbw.out.trans ((below_alloc wr (.cells (sixV ty y.1) 71)).mono hbw.out.size))
   have HKBY : Hid (Blk (wr.alloc (.cells (sixV ty y.1) 71)) w.heap.size 26 #[.int .i64 bv, .slice Ao no co, .slice (some ⟨be, oe, none⟩) ne ce, .int .i64 bn, .slice Ap npp cpp]) := hid (hkb.out.alloc _)
   have HKXY : Hid (Blk (wr.alloc (.cells (sixV ty y.1) 71)) (w.heap.size + 1) 71 #[.int .i64 op, .int .i64 (e : Int), .int .i64 (bb : Int), .slice (some ⟨b0, o0, none⟩) nk ck, .slice Aa na ca, .slice Af nf cf]) := hid (hkx.out.alloc _)
   have HKYY : Hid (Blk (wr.alloc (.cells (sixV ty y.1) 71)) wr.heap.size 71 (sixV ty y.1)) := hid (Blk.new wr 71 (sixV ty y.1))
   obtain ⟨wv, rfl⟩ : ∃ wv : World, wv = wr := ⟨_, rfl⟩
   go_wp2_with fail
   clear z0 z1 z2 z3 z4 z5 zb zx
   go_loopw [17, 19] (fun nv iv wr => ∃ (c' n' d' : Nat) (A' : Option Addr) (ms' : List Int) (t' : TrV) (y' : TT), nv = .int .i64 (c' : Int) ∧ iv = .slice A' n' d' ∧ n' + 5 * szT y' ≤ 30000 ∧ szT y' ≤ m ∧ c' ≤ cnt ∧ Hid (branchRR rec_ c' ms' y' = branchRR rec_ cnt ms y) ∧ Hid (RtX y') ∧ Hid (JE b.entries.length y') ∧ Hid (TrW w t' y') ∧ Hid (IntsR (· < wr.heap.size) wr A' n' d' ms') ∧ Hid (A' = none → n' = 0 ∧ d' = 0) ∧ Hid (∀ z ∈ ms', -3 ≤ z ∧ z < (places.length : Int)) ∧ Hid (Blk wr w.heap.size 26 #[.int .i64 bv, .slice Ao no co, .slice (some ⟨be, oe, none⟩) ne ce, .int .i64 bn, .slice Ap npp cpp]) ∧ Hid (Blk wr (w.heap.size + 1) 71 #[.int .i64 op, .int .i64 (e : Int), .int .i64 (bb : Int), .slice (some ⟨b0, o0, none⟩) nk ck, .slice Aa na ca, .slice Af nf cf]) ∧ Hid (Blk wr wv.heap.size 71 (sixV t' y'.1)) ∧ Hid (Below w.heap.size w wr)) (fun nv _ _ => (intOf nv).toNat)
   case atStart => exact ⟨cnt, n, c, A, ms, ty, y, rfl, rfl, hyn, hym2, Nat.le_refl _, hid rfl, HYR, HYJ, HYT, hid (HMS.out _ HBY.out), HNUL, HMR, HKBY, HKXY, HKYY, HBY⟩
   case round =>
    clear HBY HKBY HKXY HKYY hkb hkx hbw hyn hym2
    obtain ⟨c', n', d', A', ms', t', y', rfl, rfl, hyn, hym2, hcc, hbr, hrt, hje, htw, hmi, hnu, hmr2, hkb, hkx, hky, hbw⟩ := hrel
    have zy := Blk.cell hky.out
    have zfy := Blk.frozen hky.out
    have hyl := hky.out.lt
    have hcn9 : c' ≤ 5864062014805 := by
     have h1 := HCN.out
     have h2 := HCF.out i
     cases dn with
     | false => rw [if_neg (by decide)] at h1; omega
     | true => rw [if_pos rfl] at h1; omega
    by_cases hex : c' = 0 ∨ y'.1.op ≠ 5
    · have hb2 := hbr.out
      rw [branchRR_stop hex] at hb2
      have HFE := hid (HIH.out wr t' y' A' n' d' ms' P np cp (HBV.out wr hbw.out) (htw.out.below hbw.out) hrt.out hje.out hym2 hmi.out hnu.out hyn hmr2.out (HPS.out wr hbw.out))
      rw [hb2] at HFE
      have zb := Blk.cell hkb.out
      obtain ⟨q, hqq⟩ : ∃ q, q = branchRR rec_ cnt ms y := ⟨_, rfl⟩
      have hq := HQ.out
      rw [← hqq] at HFE hq
      have HQ2 := hid hq
      clear hq hqq hb2 hbr hrt hje htw hmi hnu hmr2
      have hex2 : (c' = 0) ∨ (0 < c' ∧ y'.1.op ≠ 5) := by omega
      clear hex
      rcases hex2 with h0 | ⟨h0, h5⟩
      · have y30 : decide ((c' : Int) > 0) = false := decide_eq_false (by omega)
        have y31 : decide (0 < c') = false := decide_eq_false (by omega)
        go_wp2_with fail
        refine (HFE.out).mono ?_
        rintro e9 w9 ⟨rfl, hd9⟩
        have HB9 := bto hbw hd9
        have HKB9 := bko hkb hd9
        have HKX9 := bko hkx hd9
        clear hd9 zy zb
        cases q with
        | false =>
         have HRF : Hid (res = false) := hid (by rw [HQ2.out]; rfl)
         go_wp2_with fail
         go_ret
         rw [HRF.out]
         exact ⟨rfl, HB9.out⟩
        | true =>
         have HRN : Hid (res = branchesRR rec_ (fun k => if dn then argsB b (e : Int) k else 0) ms (i + 1) ((kidL k).drop (2 + (i + 1)))) := hid (by rw [HQ2.out, Bool.true_and])
         go_wp2_with fail
         go_roundw
         case rel => exact ⟨i + 1, by go_num, by omega, HRN, HKB9, HKX9, HB9⟩
         case measure => simp [intOf]; omega
      have y30 : decide ((c' : Int) > 0) = true := decide_eq_true (by omega)
      have y31 : decide (0 < c') = true := decide_eq_true h0
      have y32 : (y'.1.op == 5) = false := by simpa using h5
      go_wp2_with fail
      refine (HFE.out).mono ?_
      rintro e9 w9 ⟨rfl, hd9⟩
      have HB9 := bto hbw hd9
      have HKB9 := bko hkb hd9
      have HKX9 := bko hkx hd9
      clear hd9 zy zb
      cases q with
      | false =>
       have HRF : Hid (res = false) := hid (by rw [HQ2.out]; rfl)
       go_wp2_with fail
       go_ret
       rw [HRF.out]
       exact ⟨rfl, HB9.out⟩
      | true =>
       have HRN : Hid (res = branchesRR rec_ (fun k => if dn then argsB b (e : Int) k else 0) ms (i + 1) ((kidL k).drop (2 + (i + 1)))) := hid (by rw [HQ2.out, Bool.true_and])
       go_wp2_with fail
       go_roundw
       case rel => exact ⟨i + 1, by go_num, by omega, HRN, HKB9, HKX9, HB9⟩
       case measure => simp [intOf]; omega
    have h5 : y'.1.op = 5 := by omega
    obtain ⟨c2, rfl⟩ : ∃ c2, c' = c2 + 1 := ⟨c' - 1, by omega⟩
    have y30 : decide (((c2 + 1 : Nat) : Int) > 0) = true := decide_eq_true (by omega)
    have y31 : decide (0 < c2 + 1) = true := decide_eq_true (by omega)
    clear hex
    obtain ⟨n9, a9, k9⟩ := y'
    obtain ⟨n1, a1, k1, n2, a2, k2, rfl, rfl, hs1, hs2, _, _⟩ := two_split hrt.out (.inr (.inl h5))
    have hnk9 : t'.nk = 2 := htw.out.nk
    obtain ⟨b9, o9, t1, hA, hb9, hcy0, ht1⟩ := htw.out.kid (j := 0) (by omega)
    obtain ⟨b9', o9', t2, hA', _, hcy1, ht2⟩ := htw.out.kid (j := 1) (by omega)
    obtain ⟨rfl, rfl⟩ : b9 = b9' ∧ o9 = o9' := by rw [hA] at hA'; injection hA' with e; injection e with e1 e2; exact ⟨e1, e2⟩
    clear hA'
    simp only at hcy0 ht1 hcy1 ht2 hA
    rw [show kidAt (Fo.cons [] n1 a1 k1 (Fo.cons [] n2 a2 k2 Fo.nil)) 0 = (n1, a1, k1) from rfl] at hcy0 ht1
    rw [show kidAt (Fo.cons [] n1 a1 k1 (Fo.cons [] n2 a2 k2 Fo.nil)) 1 = (n2, a2, k2) from rfl] at hcy1 ht2
    rw [Nat.zero_mul, Nat.add_zero] at hcy0
    rw [Nat.one_mul] at hcy1
    obtain ⟨hz1, hz2⟩ := @sz_two n9 n1 n2 [] a1 a2 k1 k2
    have hj1 := JE.kid hje.out (n1, a1, k1) (by simp [kidL])
    have hj2 := JE.kid hje.out (n2, a2, k2) (by simp [kidL])
    have hb2 := hbr.out
    rw [branchRR_lam h5] at hb2
    have HFI := hid (fun (w' : World) (h : Below w.heap.size w w') (hmi' : IntsR (· < w'.heap.size) w' A' n' d' ms') => HIH.out w' t1 (n1, a1, k1) A' n' d' ms' P np cp (HBV.out w' h) (ht1.below h) hs1 hj1 (by omega) hmi' hnu.out (by omega) hmr2.out (HPS.out w' h))
    obtain ⟨q, hqq⟩ : ∃ q, q = rec_ ms' (n1, a1, k1) := ⟨_, rfl⟩
    rw [← hqq] at HFI hb2
    have HB2 := hid hb2
    have HMI := hmi
    have HS2 := hid hs2
    have HJ2 := hid hj2
    have HT2 := hid ht2
    have hyn2 : n' + 1 + 5 * szT (n2, a2, k2) ≤ 30000 := by omega
    have hym3 : szT (n2, a2, k2) ≤ m := by omega
    have hn1k : n' ≤ 100000 := by omega
    obtain ⟨Aky, nky, cky, Aay, nay, cay, Afy, nfy, cfy⟩ := t'
    simp only at hA hnk9
    subst hnk9
    subst hA
    have h5b := h5
    obtain ⟨o5, va5, vb5⟩ := n9
    simp only at h5b hky zy
    subst h5b
    have HBd := hid (below_drewN hbw.out 1)
    have HKBd := hid (hkb.out.drewN 1)
    have HKXd := hid (hkx.out.drewN 1)
    have HKYd := hid (hky.out.drewN 1)
    have H9d := hid (hcy0.below HBd.out hb9)
    have HMId := hid (hmi.out.below (below_drewN (Below.refl wr.heap.size wr) 1))
    have HFJ := hid (HFI.out wr.drew HBd.out HMId.out)
    clear hqq hb2 hbr hs1 hs2 hj1 hj2 ht1 ht2 hrt hje htw hmi h5 hyn hym2 hz1 hz2
    go_wp2_with fail
    refine wp_region_held_drew (S := (fun w' => (∀ i, w'.cell? ⟨w.heap.size, i, none⟩ = (#[.int .i64 bv, .slice Ao no co, .slice (some ⟨be, oe, none⟩) ne ce, .int .i64 bn, .slice Ap npp cpp] : Array Value)[i]?) ∧ w'.cell? ⟨b9, o9, none⟩ = some (.int .i64 n1.op) ∧ w'.cell? ⟨b9, o9 + 1, none⟩ = some (.int .i64 n1.a) ∧ w'.cell? ⟨b9, o9 + 2, none⟩ = some (.int .i64 n1.b) ∧ w'.cell? ⟨b9, o9 + 3, none⟩ = some (.slice t1.Ak t1.nk t1.ck) ∧ w'.cell? ⟨b9, o9 + 4, none⟩ = some (.slice t1.Aa t1.na t1.ca) ∧ w'.cell? ⟨b9, o9 + 5, none⟩ = some (.slice t1.Af t1.nf t1.cf) ∧ w'.cell? ⟨wv.heap.size, 3, none⟩ = some (.slice (some ⟨b9, o9, none⟩) 2 cky))) (by kernel_rfl) ?_ (fun hHeld => ?_)
    · (try dsimp only); exact ⟨HKBd.out.cell, H9d.out.c0, H9d.out.c1, H9d.out.c2, H9d.out.c3, H9d.out.c4, H9d.out.c5, HKYd.out.cell 3⟩
    refine tq 0 hHeld ?_
    try simp only [p7]
    refine tq 1 hHeld ?_
    try simp only [p7]
    refine tq 2 hHeld ?_
    try simp only [p7]
    refine tq 3 hHeld ?_
    try simp only [p7]
    refine tq 4 hHeld ?_
    try simp only [p7]
    refine tq 5 hHeld ?_
    try simp only [p7]
    refine tq 6 hHeld ?_
    try simp only [p7]
    refine r1 7 fun K hK => ?_
    go_simp
    go_at_call 66
    refine (HFJ.out).mono ?_
    rintro e9 w9 ⟨rfl, hd9⟩
    have HB9 := bto HBd hd9
    have HKB9 := bko HKBd hd9
    have HKX9 := bko HKXd hd9
    have HKY9 := bko HKYd hd9
    have H99 := hid (hcy0.below HB9.out hb9)
    have HMI9 := hid (HMI.out.below ((below_drewN (Below.refl wr.heap.size wr) 1).trans hd9))
    clear hd9
    go_wp2_with fail
    refine hK.out _ _ (by exact ⟨HKB9.out.cell, H99.out.c0, H99.out.c1, H99.out.c2, H99.out.c3, H99.out.c4, H99.out.c5, HKY9.out.cell 3⟩) fun hHeld => ?_
    clear hK K
    try simp only [p7]
    refine tq 8 hHeld ?_
    try simp only [p7]
    refine wpAnyH_done (by kernel_rfl) ?_ _
    have HK1 := hid (fun (w' : World) (h : Below w.heap.size w w') => hcy1.below h hb9)
    have zy9 := Blk.cell HKY9.out
    have zf9 := Blk.frozen HKY9.out
    try simp only at zy9
    cases q with
    | false =>
     have HRF : Hid (res = false) := hid (by
      rw [HQ.out, ← HB2.out]; rfl)
     go_wp2_with fail
     go_ret
     rw [HRF.out]
     exact ⟨rfl, HB9.out⟩
    | true =>
     have HBR : Hid (branchRR rec_ c2 (-3 :: ms') (n2, a2, k2) = branchRR rec_ cnt ms y) := hid (by rw [← HB2.out, Bool.true_and])
     have HUN := hid (under_any HMI9.out hn1k hnu.out 1 (by omega) (-3))
     go_wp2_with fail
     refine (HUN.out).mono ?_
     rintro e8 w8 ⟨hd8, A8, n8, c8, rfl, hm8, hn8, hfr8⟩
     have hml : ms'.length = n' := HMI9.out.len
     obtain rfl : n8 = 1 + n' := by have h1 := hm8.len; rw [List.length_append, List.length_replicate, hml] at h1; exact h1.symm
     have HB8 := bto HB9 hd8
     have HKB8 := bko HKB9 hd8
     have HKX8 := bko HKX9 hd8
     have HKY8 := bko HKY9 hd8
     have HM8 := hid hm8
     have HN8 := hid hn8
     have zy8 := Blk.cell HKY8.out
     have zf8 := Blk.frozen HKY8.out
     try simp only at zy8
     obtain ⟨z0, z1, z2, z3, z4, z5⟩ := HK1.out w8 HB8.out
     obtain ⟨Ak2, nk2, ck2, Aa2, na2, ca2, Af2, nf2, cf2⟩ := t2
     try simp only at z0 z1 z2 z3 z4 z5
     have hg6 := hid (grown_sixs w8 wv.heap.size (.int .i64 n2.op) (.int .i64 n2.a) (.int .i64 n2.b) (.slice Ak2 nk2 ck2) (.slice Aa2 na2 ca2) (.slice Af2 nf2 cf2))
     have hy8 := HKY8.out.lt
     have hA8 : ∀ z ∈ (-3 :: ms'), -3 ≤ z ∧ z < (places.length : Int) := by
      intro z hz
      rcases List.mem_cons.1 hz with rfl | hz
      · omega
      exact hmr2.out z hz
     have HA8 := hid hA8
     have hy9 := HKY9.out.lt
     have HM6 := hid (ints_grown HM8.out (fun ad h => by have := hfr8 ad h; omega) hg6.out)
     have hc2w : IntKind.i64.wrap (((c2 + 1 : Nat) : Int) - 1) = (c2 : Int) := by rw [IntKind.wrap_i64]; omega
     clear hd8 hm8 hn8 zy9 zf9 hA8 hfr8
     go_wp2_with fail
     go_roundw
     case rel => exact ⟨c2, 1 + n', c8, A8, -3 :: ms', ⟨Ak2, nk2, ck2, Aa2, na2, ca2, Af2, nf2, cf2⟩, (n2, a2, k2), by first | rfl | go_num, rfl, by omega, hym3, by omega, HBR, HS2, HJ2, HT2, HM6, HN8, HA8, hid (Blk.grown HKB8.out hg6.out (by intro e; injection e with e; omega)), hid (Blk.grown HKX8.out hg6.out (by intro e; injection e with e; omega)), hid (blk_sixs HKY8.out _ _ _ _ _ _), hid (HB8.out.grown hg6.out (by omega) (fun q hq => by injection hq with hq; omega))⟩
     case measure => (simp [intOf]) <;> omega
end Go.Proofs.Ytjllmblbbgojbaa
