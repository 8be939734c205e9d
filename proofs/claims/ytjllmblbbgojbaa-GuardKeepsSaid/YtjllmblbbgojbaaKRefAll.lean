/- All, Fix, Check of the reference. -/
import Derived.Test.YtjllmblbbgojbaaKShort2
import Derived.Test.YtjllmblbbgojbaaKRefGuard
import Derived.Test.YtjllmblbbgojbaaKRefRi
import Derived.Test.YtjllmblbbgojbaaKRefTerm
import Derived.Test.YtjllmblbbgojbaaKLiftG
namespace Go.Proofs.Ytjllmblbbgojbaa
open Go.Lib (hid)
set_option maxHeartbeats 8000000
set_option maxRecDepth 100000
set_option linter.unusedVariables false
set_option linter.unusedSimpArgs false
open Go.RowKit
theorem fixF_all {ca : Int → Nat → Nat} : ∀ (F : Fo), fixF ca F = (kidL F).all (fixT ca)
 | .nil => rfl
 | .cons p n a k x => by rw [fixF_cons, kidL, List.all_cons, fixF_all x]
theorem treeC_W {R : Nat → Prop} {w : World} {xs : List Value} {n : Nd} {a : List Nd} {k : Fo} (h : TreeC R w xs n a k) (hR : ∀ b, R b → b < w.heap.size) : ∃ t : TrV, xs = [.int .i64 n.op, .int .i64 n.a, .int .i64 n.b, .slice t.Ak t.nk t.ck, .slice t.Aa t.na t.ca, .slice t.Af t.nf t.cf] ∧ TrW w t (n, a, k) := by
 obtain ⟨sk, sa, sf, rfl, ⟨A1, n1, c1, rfl, h1⟩, ⟨A2, n2, c2, rfl, h2⟩, ⟨A3, n3, c3, rfl, h3⟩⟩ := h
 refine ⟨⟨A1, n1, c1, A2, n2, c2, A3, n3, c3⟩, rfl, ?_⟩
 have h0 : TreeC R w [.int .i64 n.op, .int .i64 n.a, .int .i64 n.b, .slice A1 n1 c1, .slice A2 n2 c2, .slice A3 n3 c3] n a k := ⟨_, _, _, rfl, ⟨_, _, _, rfl, h1⟩, ⟨_, _, _, rfl, h2⟩, ⟨_, _, _, rfl, h3⟩⟩
 exact h0.keep fun b hb => ⟨hR b hb, fun _ => rfl⟩
theorem refAll_step {b : Bk} {v : BkVal} {m : Nat} (H : ∀ (w : World) (t : TrV) (x : TT), BookV w v b → TrW w t x → RtX x → JE b.entries.length x → szT x ≤ m → Calls Try.prog 35 #[.agg #[.int .i64 b.vars, .slice v.Ao v.no v.co, .slice v.Ae v.ne v.ce, .int .i64 b.nat, .slice v.Ap v.np v.cp], .agg #[.int .i64 x.1.op, .int .i64 x.1.a, .int .i64 x.1.b, .slice t.Ak t.nk t.ck, .slice t.Aa t.na t.ca, .slice t.Af t.nf t.cf]] w (BoolP (fixT (argsB b) x) w))
 {w : World} {t : TrV} {x : TT} (hb : BookV w v b) (ht : TrW w t x) (hx : RtX x) (hJ : JE b.entries.length x) (hm : szT x ≤ m + 1) :
 Calls Try.prog 35 #[.agg #[.int .i64 b.vars, .slice v.Ao v.no v.co, .slice v.Ae v.ne v.ce, .int .i64 b.nat, .slice v.Ap v.np v.cp], .agg #[.int .i64 x.1.op, .int .i64 x.1.a, .int .i64 x.1.b, .slice t.Ak t.nk t.ck, .slice t.Aa t.na t.ca, .slice t.Af t.nf t.cf]] w (BoolP (fixT (argsB b) x) w) := by
 have HBV := hid (fun (w' : World) (h : Below w.heap.size w w') => hb.below h)
 have HTX := hid (fun (w' : World) (h : Below w.heap.size w w') => ht.below h)
 have HTX0 := hid ht
 have HRX := hid hx
 have HJX := hid hJ
 have hx4 : szT x ≤ 4096 := Rt.few hx
 have HNX := hid ht.nk
 have hnk4 : t.nk ≤ 4096 := by
  have h1 := ht.nk
  have h2 : (kidL x.2.2).length ≤ (row x.2.2).length := by
   have : ∀ F : Fo, (kidL F).length ≤ (row F).length := by
    intro F
    induction F with
    | nil => simp [kidL]
    | cons p n a k x _ ih => rw [sz_cons]; have := szT_eq n a k; simp only [kidL, List.length_cons]; omega
   exact this _
  have h3 := szT_eq x.1 x.2.1 x.2.2
  have h4 : szT x = szT (x.1, x.2.1, x.2.2) := rfl
  omega
 have HGD := hid (fun (w' : World) (h : Below w.heap.size w w') (h12 : x.1.op = 12) => refGuarded_any (hb.below h) (ht.below h) hx hJ h12)
 have hres : fixT (argsB b) x = ((if x.1.op = 12 then guardN (argsB b) x else true) && (kidL x.2.2).all (fixT (argsB b))) := by
  rw [← fixF_all]
  rfl
 obtain ⟨rec_, hrec⟩ : ∃ r, r = fixT (argsB b) := ⟨_, rfl⟩
 obtain ⟨res, hR⟩ : ∃ r, r = fixT (argsB b) x := ⟨_, rfl⟩
 rw [← hR] at hres ⊢
 rw [← hrec] at H hres
 obtain ⟨gq, hgq⟩ : ∃ g, g = guardN (argsB b) x := ⟨_, rfl⟩
 rw [← hgq] at hres HGD
 have HRES := hid hres
 have HIH := hid H
 have HSM := hid hm
 obtain ⟨bv, hbv⟩ : ∃ y, y = b.vars := ⟨_, rfl⟩
 obtain ⟨bn, hbn⟩ : ∃ y, y = b.nat := ⟨_, rfl⟩
 rw [← hbv, ← hbn] at HIH HGD ⊢
 obtain ⟨Ao, no, co, Ae, ne, ce, Ap, npp, cpp⟩ := v
 obtain ⟨Ak, nk, ck, Aa, na, ca, Af, nf, cf⟩ := t
 obtain ⟨⟨op, va, vb⟩, ats, k⟩ := x
 simp only at HIH HTX HTX0 HRX HJX HNX hnk4 HRES HGD ⊢
 clear H hb ht hx hJ hm hbv hbn hrec hgq hR hres
 have HB1 := hid (below_alloc w (.cells #[.int .i64 bv, .slice Ao no co, .slice Ae ne ce, .int .i64 bn, .slice Ap npp cpp] 26))
 have HB2 := hid (HB1.out.alloc HB1.out.size (.cells #[.int .i64 op, .int .i64 va, .int .i64 vb, .slice Ak nk ck, .slice Aa na ca, .slice Af nf cf] 71))
 have HKB2 : Hid (Blk ((w.alloc (.cells #[.int .i64 bv, .slice Ao no co, .slice Ae ne ce, .int .i64 bn, .slice Ap npp cpp] 26)).alloc (.cells #[.int .i64 op, .int .i64 va, .int .i64 vb, .slice Ak nk ck, .slice Aa na ca, .slice Af nf cf] 71)) w.heap.size 26 #[.int .i64 bv, .slice Ao no co, .slice Ae ne ce, .int .i64 bn, .slice Ap npp cpp]) := hid ((Blk.new _ _ _).alloc _)
 have HKX2 : Hid (Blk ((w.alloc (.cells #[.int .i64 bv, .slice Ao no co, .slice Ae ne ce, .int .i64 bn, .slice Ap npp cpp] 26)).alloc (.cells #[.int .i64 op, .int .i64 va, .int .i64 vb, .slice Ak nk ck, .slice Aa na ca, .slice Af nf cf] 71)) (w.heap.size + 1) 71 #[.int .i64 op, .int .i64 va, .int .i64 vb, .slice Ak nk ck, .slice Aa na ca, .slice Af nf cf]) := hid (Blk.new' (by simp))
 go_in
 go_upto_region 1 with fail
 have zb := Blk.cell HKB2.out
 have zx := Blk.cell HKX2.out
 go_cut [15] (fun gv wx => gv = .bool (if op = 12 then !gq else false) ∧ Hid (Blk wx w.heap.size 26 #[.int .i64 bv, .slice Ao no co, .slice Ae ne ce, .int .i64 bn, .slice Ap npp cpp]) ∧ Hid (Blk wx (w.heap.size + 1) 71 #[.int .i64 op, .int .i64 va, .int .i64 vb, .slice Ak nk ck, .slice Aa na ca, .slice Af nf cf]) ∧ Hid (Below w.heap.size w wx))
 case first =>
  by_cases h12 : op = 12
  · have s12 : (op == 12) = true := by simpa using h12
    have HC := hid (HGD.out _ HB2.out h12)
    have HV : Hid ((if op = 12 then !gq else false) = !gq) := hid (if_pos h12)
    clear h12
    go_wp2_with fail
    refine (HC.out).mono ?_
    rintro e w3 ⟨rfl, hb3⟩
    have HB3 := bto HB2 hb3
    have HKB3 := bko HKB2 hb3
    have HKX3 := bko HKX2 hb3
    clear hb3 zb zx
    go_wp2_with fail
    go_meet
    exact ⟨by rw [HV.out], HKB3, HKX3, HB3⟩
  have s12 : (op == 12) = false := by simpa using h12
  have HV : Hid ((if op = 12 then !gq else false) = false) := hid (if_neg h12)
  clear h12
  go_wp2_with fail
  go_meet
  exact ⟨by rw [HV.out], HKB2, HKX2, HB2⟩
 case rest =>
 obtain ⟨rfl, hkb, hkx, hbw⟩ := hcut
 clear zb zx HKB2 HKX2 HB1 HB2 HGD
 obtain ⟨g2, hg2⟩ : ∃ g, g = (if op = 12 then !gq else false) := ⟨_, rfl⟩
 rw [← hg2]
 have hres : res = (!g2 && (kidL k).all rec_) := by
  rw [HRES.out, hg2]
  by_cases h12 : op = 12
  · rw [if_pos h12, if_pos h12, Bool.not_not]
  rw [if_neg h12, if_neg h12]; rfl
 have HRS := hid hres
 clear hg2 hres HRES
 cases g2 with
 | true =>
  have HRF : Hid (res = false) := hid (by rw [HRS.out]; rfl)
  go_wp2_with fail
  go_ret
  rw [HRF.out]
  exact ⟨rfl, hbw.out⟩
 | false =>
 have HRT : Hid (res = (kidL k).all rec_) := hid (by rw [HRS.out]; rfl)
 go_wp2_with fail
 go_loopw [5] (fun iv wr => ∃ i : Nat, iv = .int .i64 (i : Int) ∧ i ≤ nk ∧ Hid (res = ((kidL k).drop i).all rec_) ∧ Hid (Blk wr w.heap.size 26 #[.int .i64 bv, .slice Ao no co, .slice Ae ne ce, .int .i64 bn, .slice Ap npp cpp]) ∧ Hid (Blk wr (w.heap.size + 1) 71 #[.int .i64 op, .int .i64 va, .int .i64 vb, .slice Ak nk ck, .slice Aa na ca, .slice Af nf cf]) ∧ Hid (Below w.heap.size w wr)) (fun i _ => nk - (intOf i).toNat)
 case atStart => exact ⟨0, rfl, by omega, HRT, hkb, hkx, hbw⟩
 case round =>
  clear hkb hkx hbw
  obtain ⟨i, rfl, hi, hrs, hkb, hkx, hbw⟩ := hrel
  have zb := Blk.cell hkb.out
  have zx := Blk.cell hkx.out
  have hxl := hkx.out.lt
  have hil0 : nk = (kidL k).length := HNX.out
  by_cases hlt : i < nk
  rotate_left
  · have y20 : decide ((i : Int) < (nk : Int)) = false := decide_eq_false (by omega)
    have y21 : decide (i < nk) = false := decide_eq_false hlt
    have HRF : Hid (res = true) := hid (by rw [hrs.out, List.drop_of_length_le (by omega)]; rfl)
    clear hil0
    go_wp2_with fail
    go_ret
    rw [HRF.out]
    exact ⟨rfl, hbw.out⟩
  have y20 : decide ((i : Int) < (nk : Int)) = true := decide_eq_true (by omega)
  have y21 : decide (i < nk) = true := decide_eq_true hlt
  have hil : i < (kidL k).length := by omega
  have hq := hrs.out
  rw [kidAt_drop hil, List.all_cons] at hq
  obtain ⟨y, hy⟩ : ∃ y, y = kidAt k i := ⟨_, rfl⟩
  obtain ⟨b0, o0, t1, hA, hb0, hc1, ht1⟩ := HTX0.out.kid (j := i) hlt
  have hym := kidAt_mem hil
  try simp only at hA hc1 ht1
  rw [← hy] at hq hc1 ht1 hym
  have hys := sz_kidx (n := ⟨op, va, vb⟩) (a := ats) hym
  have hyr : RtX y := RtX.kid HRX.out hym
  have hyj := JE.kid HJX.out y hym
  have hsm := HSM.out
  have HFI := hid (fun (w' : World) (h : Below w.heap.size w w') => HIH.out w' t1 y (HBV.out w' h) (ht1.below h) hyr hyj (by omega))
  obtain ⟨q, hqq⟩ : ∃ q, q = rec_ y := ⟨_, rfl⟩
  rw [← hqq] at hq HFI
  have HQ := hid hq
  subst hA
  have HBd := hid (below_drewN hbw.out 1)
  have HKBd := hid (hkb.out.drewN 1)
  have HKXd := hid (hkx.out.drewN 1)
  have H6d := hid (hc1.below HBd.out hb0)
  clear hq hqq hy hym hys hyr hyj hsm hil hil0 ht1
  go_wp2_with fail
  refine wp_region_held_drew (S := (fun w' => (∀ i, w'.cell? ⟨w.heap.size, i, none⟩ = (#[.int .i64 bv, .slice Ao no co, .slice Ae ne ce, .int .i64 bn, .slice Ap npp cpp] : Array Value)[i]?) ∧ w'.cell? ⟨w.heap.size + 1, 3, none⟩ = some (.slice (some ⟨b0, o0, none⟩) nk ck) ∧ w'.cell? ⟨b0, o0 + i * 6, none⟩ = some (.int .i64 y.1.op) ∧ w'.cell? ⟨b0, o0 + i * 6 + 1, none⟩ = some (.int .i64 y.1.a) ∧ w'.cell? ⟨b0, o0 + i * 6 + 2, none⟩ = some (.int .i64 y.1.b) ∧ w'.cell? ⟨b0, o0 + i * 6 + 3, none⟩ = some (.slice t1.Ak t1.nk t1.ck) ∧ w'.cell? ⟨b0, o0 + i * 6 + 4, none⟩ = some (.slice t1.Aa t1.na t1.ca) ∧ w'.cell? ⟨b0, o0 + i * 6 + 5, none⟩ = some (.slice t1.Af t1.nf t1.cf))) (by kernel_rfl) ?_ (fun hHeld => ?_)
  · (try dsimp only); exact ⟨HKBd.out.cell, HKXd.out.cell 3, H6d.out.c0, H6d.out.c1, H6d.out.c2, H6d.out.c3, H6d.out.c4, H6d.out.c5⟩
  refine tq 0 hHeld ?_
  try simp only [p7]
  refine tq 1 hHeld ?_
  try simp only [p7]
  refine tq 2 hHeld ?_
  try simp only [p7]
  refine tq 3 hHeld ?_
  try simp only [p7]
  refine tq 4 hHeld ?_
  try simp only [p7]
  refine tq 5 hHeld ?_
  try simp only [p7]
  refine r1 6 fun K hK => ?_
  go_simp
  go_at_call 35
  refine (HFI.out wr.drew HBd.out).mono ?_
  rintro e9 w9 ⟨rfl, hd9⟩
  have HB9 := bto HBd hd9
  have HKB9 := bko HKBd hd9
  have HKX9 := bko HKXd hd9
  have H69 := hid (hc1.below HB9.out hb0)
  clear hd9
  go_wp2_with fail
  refine hK.out _ _ (by exact ⟨HKB9.out.cell, HKX9.out.cell 3, H69.out.c0, H69.out.c1, H69.out.c2, H69.out.c3, H69.out.c4, H69.out.c5⟩) fun hHeld => ?_
  clear hK K
  try simp only [p7]
  refine tq 7 hHeld ?_
  try simp only [p7]
  refine wpAnyH_done (by kernel_rfl) ?_ _
  cases q with
  | false =>
   have HRF : Hid (res = false) := hid (by rw [HQ.out]; rfl)
   go_wp2_with fail
   go_ret
   rw [HRF.out]
   exact ⟨rfl, HB9.out⟩
  | true =>
   have HRN : Hid (res = ((kidL k).drop (i + 1)).all rec_) := hid (by rw [HQ.out, Bool.true_and])
   go_wp2_with fail
   go_roundw
   case rel => exact ⟨i + 1, by go_num, by omega, HRN, HKB9, HKX9, HB9⟩
   case measure => simp [intOf]; omega
theorem refAll_any {b : Bk} {v : BkVal} : ∀ (m : Nat) (w : World) (t : TrV) (x : TT), BookV w v b → TrW w t x → RtX x → JE b.entries.length x → szT x ≤ m → Calls Try.prog 35 #[.agg #[.int .i64 b.vars, .slice v.Ao v.no v.co, .slice v.Ae v.ne v.ce, .int .i64 b.nat, .slice v.Ap v.np v.cp], .agg #[.int .i64 x.1.op, .int .i64 x.1.a, .int .i64 x.1.b, .slice t.Ak t.nk t.ck, .slice t.Aa t.na t.ca, .slice t.Af t.nf t.cf]] w (BoolP (fixT (argsB b) x) w)
 | 0, w, t, (nd, a, k), _, _, _, _, h => by rw [szT_eq] at h; omega
 | m + 1, w, t, x, hb, ht, hx, hJ, hm => refAll_step (fun w t x h1 h2 h3 h4 h5 => refAll_any m w t x h1 h2 h3 h4 h5) hb ht hx hJ hm
theorem refFix_any {w : World} {v : BkVal} {b : Bk} (hb : BookV w v b) (free : Int) {A : Option Addr} {n c : Nat} {l : List Nd} (ht : TermV w A n c l) :
 Calls Try.prog 16 #[.agg #[.int .i64 b.vars, .slice v.Ao v.no v.co, .slice v.Ae v.ne v.ce, .int .i64 b.nat, .slice v.Ap v.np v.cp], .int .i64 free, .slice A n c] w (ErrP (fixE b free l) w) := by
 have HFT := hid (fun (w' : World) (h : Below w.heap.size w w') => refFits_any (hb.below h) free (ht.below h))
 have HOF := hid (fun (w' : World) (h : Below w.heap.size w w') => refOf_any (ht.below h))
 have HBV := hid (fun (w' : World) (h : Below w.heap.size w w') => hb.below h)
 have HB0 := hid (below_alloc w (.cells #[.int .i64 b.vars, .slice v.Ao v.no v.co, .slice v.Ae v.ne v.ce, .int .i64 b.nat, .slice v.Ap v.np v.cp] 26))
 have HK0 := hid (Blk.new w 26 #[.int .i64 b.vars, .slice v.Ao v.no v.co, .slice v.Ae v.ne v.ce, .int .i64 b.nat, .slice v.Ap v.np v.cp])
 by_cases h1 : fitsE b free l = 0
 case neg =>
  have HR : Hid (fixE b free l = fitsE b free l) := hid (by unfold fixE; rw [if_pos h1])
  generalize fixE b free l = res at *
  generalize fitsE b free l = fe at *
  have d1 : (fe != 0) = true := by simpa using h1
  obtain ⟨Ao, no, co, Ae, ne, ce, Ap, np, cp⟩ := v
  simp only at HFT HB0 HK0 ⊢
  generalize b.vars = bv at *
  generalize b.nat = bn at *
  clear h1 hb ht HBV
  go_in
  go_wp2_with fail
  refine (HFT.out _ HB0.out).mono ?_
  rintro e w2 ⟨rfl, hb2⟩
  have HB2 := bto HB0 hb2
  clear hb2
  go_wp2_with fail
  go_ret
  rw [HR.out]
  exact ⟨rfl, HB2.out⟩
 obtain ⟨hrt0, _, hrow⟩ := fits_row h1
 obtain ⟨hs, _, _⟩ := row_nodes hrow
 have hje := fits_JE h1
 obtain ⟨nd, a, k, hr⟩ := rt_of hs
 have htr := treeAt_rt hr
 have hle : l = rowT (nd, a, k) := hr.eq
 have hx : RtX (nd, a, k) := by
  show Rt (rowT (nd, a, k)) nd a k
  rw [← hle]
  exact hr
 have hjx : JE b.entries.length (nd, a, k) := fun m hm h11 => hje m (by rw [hle]; exact hm) h11
 have hszl : szT (nd, a, k) = l.length := by rw [hle]
 have hop : (nth l 0).op = nd.op := by rw [hle]; rfl
 have HR : Hid (fixE b free l = if nd.op ≠ 12 then 1 else if guardN (argsB b) (nd, a, k) then 0 else 18) := hid (by
  unfold fixE
  rw [if_neg (by simp [h1]), htr, hop, ← hszl]
  rfl)
 have HGD := hid (fun (w' : World) (t : TrV) (h : Below w.heap.size w w') (ht' : TrW w' t (nd, a, k)) (h12 : nd.op = 12) => refGuarded_any (hb.below h) ht' hx hjx h12)
 generalize fixE b free l = res at *
 generalize guardN (argsB b) (nd, a, k) = gt at *
 rw [h1] at HFT
 have HPP : Hid (∀ n' a' k', pp [false] l = some (.cons [] n' a' k' .nil, []) → n' = nd ∧ a' = a ∧ k' = k) := hid (fun n' a' k' h => by
  have h2 := hr.pp
  rw [h] at h2
  injection h2 with h2
  injection h2 with h2 _
  injection h2 with _ e1 e2 e3 _
  exact ⟨e1, e2, e3⟩)
 have HSH := hid hs
 obtain ⟨Ao, no, co, Ae, ne, ce, Ap, np, cp⟩ := v
 simp only at HFT HB0 HK0 HGD ⊢
 clear hb ht hrt0 hrow hs hje hr htr hle hop h1 hx hjx hszl HBV
 generalize b.vars = bv at *
 generalize b.nat = bn at *
 go_in
 go_wp2_with fail
 refine (HFT.out _ HB0.out).mono ?_
 rintro e w2 ⟨rfl, hb2⟩
 have HB2 := bto HB0 hb2
 have HK2 := hid (Blk.below HK0.out hb2 (by simp))
 clear hb2
 go_wp2_with fail
 refine (HOF.out _ HB2.out).mono ?_
 rintro e w3 ⟨hb3, ⟨hs, rfl⟩ | ⟨xs0, n0, a0, k0, rfl, ht0, hpp, hs⟩⟩
 · exact absurd HSH.out hs
 obtain ⟨rfl, rfl, rfl⟩ := HPP.out _ _ _ hpp
 obtain ⟨t, rfl, htw⟩ := treeC_W ht0 (fun b hb => hb.2)
 have HB3 := bto HB2 hb3
 have HK3 := bko HK2 hb3
 have HB4 := hid (HB3.out.alloc HB3.out.size (.cells (sixV t n0) 71))
 have HK4 : Hid (Blk (w3.alloc (.cells (sixV t n0) 71)) w.heap.size 26 #[.int .i64 bv, .slice Ao no co, .slice Ae ne ce, .int .i64 bn, .slice Ap np cp]) := hid (HK3.out.alloc _)
 have HKT : Hid (Blk (w3.alloc (.cells (sixV t n0) 71)) w3.heap.size 71 (sixV t n0)) := hid (Blk.new w3 71 (sixV t n0))
 have HTW := hid (htw.below (below_alloc w3 (.cells (sixV t n0) 71)))
 have hl3 := HK4.out.lt
 have zk := Blk.cell HK4.out
 have zt := Blk.cell HKT.out
 clear hb3 ht0 hpp hs htw
 by_cases h12 : n0.op = 12
 case neg =>
  have s12 : (n0.op != 12) = true := by simpa using h12
  have HRF : Hid (res = 1) := hid (by rw [HR.out, if_pos h12])
  clear h12
  go_wp2_with fail
  go_ret
  rw [HRF.out]
  exact ⟨rfl, HB4.out⟩
 have s12 : (n0.op != 12) = false := by simpa using h12
 have HC := hid (HGD.out _ t HB4.out HTW.out h12)
 have HRG : Hid (res = if gt then 0 else 18) := hid (by rw [HR.out, if_neg (by simpa using h12)])
 clear h12
 go_wp2_with fail
 refine (HC.out).mono ?_
 rintro e w5 ⟨rfl, hb5⟩
 have HB5 := bto HB4 hb5
 clear hb5 zk zt
 cases gt with
 | false =>
  have HRF : Hid (res = 18) := hid (by rw [HRG.out]; rfl)
  go_wp2_with fail
  go_ret
  rw [HRF.out]
  exact ⟨rfl, HB5.out⟩
 | true =>
  have HRF : Hid (res = 0) := hid (by rw [HRG.out]; rfl)
  go_wp2_with fail
  go_ret
  rw [HRF.out]
  exact ⟨rfl, HB5.out⟩
theorem refCheckG_any {w : World} {v : BkVal} {b : Bk} (hb : BookV w v b) (free : Int) {A : Option Addr} {n c : Nat} {l : List Nd} (ht : TermV w A n c l) :
 Calls Try.prog 15 #[.agg #[.int .i64 b.vars, .slice v.Ao v.no v.co, .slice v.Ae v.ne v.ce, .int .i64 b.nat, .slice v.Ap v.np v.cp], .int .i64 free, .slice A n c] w (ErrP (chkGE b free l) w) := by
 have HFT := hid (fun (w' : World) (h : Below w.heap.size w w') => refFits_any (hb.below h) free (ht.below h))
 have HOF := hid (fun (w' : World) (h : Below w.heap.size w w') => refOf_any (ht.below h))
 have HBV := hid (fun (w' : World) (h : Below w.heap.size w w') => hb.below h)
 have HB0 := hid (below_alloc w (.cells #[.int .i64 b.vars, .slice v.Ao v.no v.co, .slice v.Ae v.ne v.ce, .int .i64 b.nat, .slice v.Ap v.np v.cp] 26))
 have HK0 := hid (Blk.new w 26 #[.int .i64 b.vars, .slice v.Ao v.no v.co, .slice v.Ae v.ne v.ce, .int .i64 b.nat, .slice v.Ap v.np v.cp])
 by_cases h1 : fitsE b free l = 0
 case neg =>
  have HR : Hid (chkGE b free l = fitsE b free l) := hid (by unfold chkGE; rw [if_pos h1])
  generalize chkGE b free l = res at *
  generalize fitsE b free l = fe at *
  have d1 : (fe != 0) = true := by simpa using h1
  obtain ⟨Ao, no, co, Ae, ne, ce, Ap, np, cp⟩ := v
  simp only at HFT HB0 HK0 ⊢
  generalize b.vars = bv at *
  generalize b.nat = bn at *
  clear h1 hb ht HBV
  go_in
  go_wp2_with fail
  refine (HFT.out _ HB0.out).mono ?_
  rintro e w2 ⟨rfl, hb2⟩
  have HB2 := bto HB0 hb2
  clear hb2
  go_wp2_with fail
  go_ret
  rw [HR.out]
  exact ⟨rfl, HB2.out⟩
 obtain ⟨hrt0, _, hrow⟩ := fits_row h1
 obtain ⟨hs, _, _⟩ := row_nodes hrow
 have hje := fits_JE h1
 obtain ⟨nd, a, k, hr⟩ := rt_of hs
 have htr := treeAt_rt hr
 have hle : l = rowT (nd, a, k) := hr.eq
 have hx : RtX (nd, a, k) := by
  show Rt (rowT (nd, a, k)) nd a k
  rw [← hle]
  exact hr
 have hjx : JE b.entries.length (nd, a, k) := fun m hm h11 => hje m (by rw [hle]; exact hm) h11
 have hszl : szT (nd, a, k) = l.length := by rw [hle]
 have hop : (nth l 0).op = nd.op := by rw [hle]; rfl
 have HR : Hid (chkGE b free l = if fixT (argsB b) (nd, a, k) then 0 else 18) := hid (by
  rw [chk_fit h1, allG_rt hr])
 have HGD := hid (fun (w' : World) (t : TrV) (h : Below w.heap.size w w') (ht' : TrW w' t (nd, a, k)) => refAll_any (szT (nd, a, k)) w' t (nd, a, k) (hb.below h) ht' hx hjx (Nat.le_refl _))
 generalize chkGE b free l = res at *
 generalize fixT (argsB b) (nd, a, k) = gt at *
 rw [h1] at HFT
 have HPP : Hid (∀ n' a' k', pp [false] l = some (.cons [] n' a' k' .nil, []) → n' = nd ∧ a' = a ∧ k' = k) := hid (fun n' a' k' h => by
  have h2 := hr.pp
  rw [h] at h2
  injection h2 with h2
  injection h2 with h2 _
  injection h2 with _ e1 e2 e3 _
  exact ⟨e1, e2, e3⟩)
 have HSH := hid hs
 obtain ⟨Ao, no, co, Ae, ne, ce, Ap, np, cp⟩ := v
 simp only at HFT HB0 HK0 HGD ⊢
 clear hb ht hrt0 hrow hs hje hr htr hle hop h1 hx hjx hszl HBV
 generalize b.vars = bv at *
 generalize b.nat = bn at *
 go_in
 go_wp2_with fail
 refine (HFT.out _ HB0.out).mono ?_
 rintro e w2 ⟨rfl, hb2⟩
 have HB2 := bto HB0 hb2
 have HK2 := hid (Blk.below HK0.out hb2 (by simp))
 clear hb2
 go_wp2_with fail
 refine (HOF.out _ HB2.out).mono ?_
 rintro e w3 ⟨hb3, ⟨hs, rfl⟩ | ⟨xs0, n0, a0, k0, rfl, ht0, hpp, hs⟩⟩
 · exact absurd HSH.out hs
 obtain ⟨rfl, rfl, rfl⟩ := HPP.out _ _ _ hpp
 obtain ⟨t, rfl, htw⟩ := treeC_W ht0 (fun b hb => hb.2)
 have HB3 := bto HB2 hb3
 have HK3 := bko HK2 hb3
 have HB4 := hid (HB3.out.alloc HB3.out.size (.cells (sixV t n0) 71))
 have HK4 : Hid (Blk (w3.alloc (.cells (sixV t n0) 71)) w.heap.size 26 #[.int .i64 bv, .slice Ao no co, .slice Ae ne ce, .int .i64 bn, .slice Ap np cp]) := hid (HK3.out.alloc _)
 have HKT : Hid (Blk (w3.alloc (.cells (sixV t n0) 71)) w3.heap.size 71 (sixV t n0)) := hid (Blk.new w3 71 (sixV t n0))
 have HTW := hid (htw.below (below_alloc w3 (.cells (sixV t n0) 71)))
 have hl3 := HK4.out.lt
 have zk := Blk.cell HK4.out
 have zt := Blk.cell HKT.out
 clear hb3 ht0 hpp hs htw
 have HC := hid (HGD.out _ t HB4.out HTW.out)
 have HRG := HR
 go_wp2_with fail
 refine (HC.out).mono ?_
 rintro e w5 ⟨rfl, hb5⟩
 have HB5 := bto HB4 hb5
 clear hb5 zk zt
 cases gt with
 | false =>
  have HRF : Hid (res = 18) := hid (by rw [HRG.out]; rfl)
  go_wp2_with fail
  go_ret
  rw [HRF.out]
  exact ⟨rfl, HB5.out⟩
 | true =>
  have HRF : Hid (res = 0) := hid (by rw [HRG.out]; rfl)
  go_wp2_with fail
  go_ret
  rw [HRF.out]
  exact ⟨rfl, HB5.out⟩
end Go.Proofs.Ytjllmblbbgojbaa
