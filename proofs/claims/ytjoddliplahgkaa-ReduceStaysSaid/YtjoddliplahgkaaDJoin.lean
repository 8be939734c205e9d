/- Merged: Sta, Join. -/
import Derived.Test.YtjoddliplahgkaaDFue
import Derived.Test.YtjoddliplahgkaaChecked
import Derived.Test.YtjoddliplahgkaaDBase
import Derived.ProofKit
import Derived.SizedLaws
import Derived.Deep.Slices
import Derived.Deep.Fields
namespace Go.Proofs.Ytjoddliplahgkaa
section
open Go.Lib (hid)
open Go.RowKit
theorem stays_cases (b : Bk) (bs : List (List Nd × List Nd)) (l : List Nd) {F : Nat} (hF : F ≤ 200) : (∃ z, z ≠ 0 ∧ normC b bs l (F : Int) = ([], 0, z)) ∨ ∃ (l' : List Nd) (m : Nat), m ≤ F ∧ l'.length ≤ 4096 ∧ normC b bs l (F : Int) = (l', (m : Int), 0) ∧ normC b bs l' 0 = (l', 0, 0) ∧ (stepC b bs l = ([], false, 0) ∨ ∃ l2 : List Nd, l2.length ≤ 4096 ∧ stepC b bs l = (l2, true, 0) ∧ normC b bs l2 (F : Int) = (l', ((m + 1 : Nat) : Int), 0)) := by
 by_cases h0 : fitsC b bs l = 0
 rotate_left
 · refine .inl ⟨fitsC b bs l, h0, ?_⟩
   show runC (fitsC b bs l) _ = _
   unfold runC
   rw [if_pos h0]
 obtain ⟨q1, q2, q3, q4, q5⟩ := fits_c h0
 have hsz := foc_sz q5
 have h4 : szT (treeAt l) ≤ 4096 := q5.few
 have hlen : (cvO bs).length = bs.length := List.length_map ..
 have e : ∀ (l : List Nd) (j : Nat), j ≤ 455 → fitsC b bs l = 0 → normC b bs l (j : Int) = runC 0 (nmQf (nmN b (cvO bs) j (treeAt l))) := fun l j hj h => by
  unfold normC nmQ
  rw [h, clip_nat (by omega)]
 cases hn : nmN b (cvO bs) F (treeAt l) with
 | bad z => exact .inl ⟨z, nmF_err _ _ _ _ _ hn, by rw [e l F (by omega) h0, hn]; rfl⟩
 | done y m =>
  have hQ := nm_q h0 (F := F + 1) (by omega)
  have hfit := nmN_fit q1 (hQ.mono (Nat.le_succ _)) hn
  obtain ⟨i1, i2⟩ := nm_idem q1 _ (cvO bs) F (treeAt l) hQ (Nat.lt_succ_self _) y m hn
  have hy := c_fits h0 hfit.1
  have e0 := e (rowT y) 0 (by omega) hy
  rw [treeAt_fit hfit.1, i2] at e0
  refine .inr ⟨rowT y, m, hfit.2, hfit.1.few, by rw [e l F (by omega) h0, hn]; rfl, e0, ?_⟩
  have hst := step_wh q1 q3 (szT (treeAt l) + 1) (hdW (treeAt l)) 4096 (foc q5) (by omega) (Int.le_refl _) (by omega)
  have hse : stepC b bs l = match stF b (cvO bs) (szT (treeAt l) + 1) (hdW (treeAt l)) 4096 with
   | .no => ([], false, 0)
   | .big => ([], false, 9)
   | .yes y => (rowT (rowF y), true, 0) := by
   unfold stepC
   rw [if_neg (by rw [h0]; simp)]
   rfl
  rw [hse]
  cases hs : stF b (cvO bs) (szT (treeAt l) + 1) (hdW (treeAt l)) 4096 with
  | no => exact .inl rfl
  | big =>
   rw [hs] at hst
   rw [nmN_eq q1 (hQ.mono (Nat.le_succ _))] at hn
   cases F with
   | zero => rw [hst.1] at hn; cases hn
   | succ F => rw [hst.2 F] at hn; cases hn
  | yes z =>
   rw [hs] at hst
   have hz4 : fsz z ≤ 4096 := by have := hst.2.1; omega
   have hzf := hst.1.fit hz4
   have hzc := c_fits h0 hzf
   have hQz : NmQ b (cvO bs) F (rowF z) := by
    have h9 := nm_q hzc (F := F) (by omega)
    rw [treeAt_fit hzf] at h9
    exact h9
   have hm := nm_step q1 (hQ.mono (Nat.le_succ _)) (Nat.lt_succ_self _) hs hQz hn
   refine .inr ⟨rowT (rowF z), hzf.few, rfl, ?_⟩
   rw [e _ F (by omega) hzc, treeAt_fit hzf, hm]
   rfl
set_option linter.unusedSimpArgs false in
set_option linter.unusedVariables false in
set_option maxRecDepth 100000 in
set_option maxHeartbeats 4000000 in
theorem stays8_law {w : World} {v : BkVal} {b : Bk} (hb : BookV w v b) {cA : Option Addr} {cn cc : Nat} {bs : List (List Nd × List Nd)} (hc : CtxB (· < w.heap.size) w cA cn cc bs) {A : Option Addr} {n c : Nat} {l : List Nd} (ht : TermV w A n c l) (fuel : Int) :
 Calls Try.prog 6 #[.agg #[.int .i64 b.vars, .slice v.Ao v.no v.co, .slice v.Ae v.ne v.ce, .int .i64 b.nat, .slice v.Ap v.np v.cp, .slice cA cn cc, .slice A n c, .int .i64 fuel]] w (BoolP true w) := by
 obtain ⟨w0, hw0⟩ : ∃ w0 : World, w0 = w.alloc (.cells #[.int .i64 b.vars, .slice v.Ao v.no v.co, .slice v.Ae v.ne v.ce, .int .i64 b.nat, .slice v.Ap v.np v.cp, .slice cA cn cc, .slice A n c, .int .i64 fuel] 31) := ⟨_, rfl⟩
 have hb0 : Below w.heap.size w w0 := by rw [hw0]; exact below_alloc _ _
 have hk0 : Blk w0 w.heap.size 31 #[.int .i64 b.vars, .slice v.Ao v.no v.co, .slice v.Ae v.ne v.ce, .int .i64 b.nat, .slice v.Ap v.np v.cp, .slice cA cn cc, .slice A n c, .int .i64 fuel] := by rw [hw0]; exact Blk.new _ _ _
 have HB0 := hid hb0
 have HK0 := hid hk0
 have HHV := hid (fun (W : World) (h : Below w.heap.size w W) => heavy8_any (hb.below h) (hc.below h) (A := A) (n := n) (c := c) fuel 150)
 have HNO := hid (fun h => heavy8_no (b := b) (bs := bs) (n := n) (fuel := fuel) (lim := 150) h)
 have HNM := hid (fun (W : World) (h : Below w.heap.size w W) (A' : Option Addr) (n' c' : Nat) (l' : List Nd) (h2 : TermV W A' n' c' l') (F : Int) (hF : clipN F ≤ 480) => rnorm_any (hb.below h) (hc.below h) h2 F hF)
 have HST := hid (fun (W : World) (h : Below w.heap.size w W) => rstep_any (hb.below h) (hc.below h) (ht.below h))
 have HTT := hid (fun (W : World) (h : Below w.heap.size w W) => ht.below h)
 generalize heavy8 b bs n fuel 150 = hv at *
 clear hb hc ht hb0 hk0
 go_in
 go_upto_region 1 with fail
 rw [← hw0]
 clear hw0
 go_wp2_with fail
 refine awake8_any.mono ?_
 rintro e w1 ⟨rfl, hb1⟩
 have HB1 := bto HB0 hb1
 have HK1 := hid (HK0.out.below hb1 HK0.out.lt)
 have zk1 := HK1.out.cell
 clear hb1
 cases hv with
 | true =>
  go_wp2_with fail
  refine (HHV.out w1 HB1.out).mono ?_
  rintro e w2 ⟨rfl, hb2⟩
  have HB2 := bto HB1 hb2
  clear hb2
  go_wp2_with fail
  go_ret
  exact ⟨rfl, HB2.out⟩
 | false =>
 by_cases hneg : fuel < 0
 · have d0 : decide (fuel < 0) = true := decide_eq_true hneg
   clear hneg
   go_wp2_with fail
   refine (HHV.out w1 HB1.out).mono ?_
   rintro e w2 ⟨rfl, hb2⟩
   have HB2 := bto HB1 hb2
   have HK2 := hid (HK1.out.below hb2 HK1.out.lt)
   have zk2 := HK2.out.cell
   clear hb2 zk1
   go_wp2_with fail
   go_ret
   exact ⟨rfl, HB2.out⟩
 obtain ⟨F, rfl⟩ : ∃ F : Nat, fuel = (F : Int) := ⟨fuel.toNat, by omega⟩
 have d0 : decide ((F : Int) < 0) = false := decide_eq_false (by omega)
 have hF : F ≤ 150 := by have := (HNO.out rfl).2.2; omega
 clear hneg
 have hcs := stays_cases b bs l (F := F) (by omega)
 have HC1 : Hid (clipN (F : Int) ≤ 480) := hid (by rw [clip_nat (by omega)]; omega)
 have HC0 : Hid (clipN (0 : Int) ≤ 480) := hid (by unfold clipN; omega)
 rcases hcs with ⟨z, hz, hq⟩ | ⟨l', m, hm, hll, hq, hq0, hst⟩
 · have HQ := hid hq
   have dz : (z != 0) = true := by simpa using hz
   clear hq hz
   go_wp2_with fail
   refine (HHV.out w1 HB1.out).mono ?_
   rintro e w2 ⟨rfl, hb2⟩
   have HB2 := bto HB1 hb2
   have HK2 := hid (HK1.out.below hb2 HK1.out.lt)
   have zk2 := HK2.out.cell
   clear hb2 zk1
   go_wp2_with fail
   refine (HNM.out w2 HB2.out _ _ _ _ (HTT.out w2 HB2.out) (F : Int) HC1.out).mono ?_
   rintro e w3 ⟨hb3, A3, n3, c3, rfl, ho3⟩
   rw [HQ.out] at ho3 ⊢
   have hn3 : n3 = 0 := (ownN_term ho3 (Nat.zero_le _)).len.symm
   subst hn3
   have HB3 := bto HB2 hb3
   clear hb3 ho3 zk2
   simp only
   go_wp2_with fail
   go_ret
   exact ⟨by simp, HB3.out⟩
 have HQ := hid hq
 have HQ0 := hid hq0
 have HLL := hid hll
 have hws : IntKind.i64.wrap ((m : Int) + 1) = ((m + 1 : Nat) : Int) := by rw [IntKind.wrap_i64]; omega
 obtain ⟨m1, hm1⟩ : ∃ m1, m1 = m + 1 := ⟨_, rfl⟩
 rw [← hm1] at hws hst
 clear hq hq0 hll hm1 hm hF
 obtain ⟨l2, hl2⟩ : ∃ l2, l2 = (stepC b bs l).1 := ⟨_, rfl⟩
 rcases hst with hs | ⟨l2, hl2, hs, hqz⟩
 · have HS := hid hs
   clear hs hl2 hws
   go_wp2_with fail
   refine (HHV.out w1 HB1.out).mono ?_
   rintro e w2 ⟨rfl, hb2⟩
   have HB2 := bto HB1 hb2
   have HK2 := hid (HK1.out.below hb2 HK1.out.lt)
   have zk2 := HK2.out.cell
   clear hb2 zk1
   go_wp2_with fail
   refine (HNM.out w2 HB2.out _ _ _ _ (HTT.out w2 HB2.out) (F : Int) HC1.out).mono ?_
   rintro e w3 ⟨hb3, A3, n3, c3, rfl, ho3⟩
   rw [HQ.out] at ho3 ⊢
   have HT3 : Hid (TermV w3 A3 n3 c3 l') := hid (ownN_term ho3 (by have := HLL.out; show l'.length ≤ _; omega))
   have HB3 := bto HB2 hb3
   have HK3 := hid (HK2.out.below hb3 HK2.out.lt)
   have zk3 := HK3.out.cell
   clear hb3 ho3 zk2
   simp only
   go_wp2_with fail
   refine (HNM.out w3 HB3.out _ _ _ _ HT3.out (0 : Int) HC0.out).mono ?_
   rintro e w4 ⟨hb4, A4, n4, c4, rfl, ho4⟩
   rw [HQ0.out] at ho4 ⊢
   have HT4 : Hid (TermV w4 A4 n4 c4 l') := hid (ownN_term ho4 (by have := HLL.out; show l'.length ≤ _; omega))
   have HSM := hid (same_any w4 (HT3.out.below hb4) HT4.out)
   have HB4 := bto HB3 hb4
   have HK4 := hid (HK3.out.below hb4 HK3.out.lt)
   have zk4 := HK4.out.cell
   clear hb4 ho4 zk3
   simp only
   go_wp2_with fail
   refine (HSM.out).mono ?_
   rintro e w5 ⟨rfl, dm, rfl⟩
   have HB5 : Hid (Below w.heap.size w (w4.drewN dm)) := hid (below_drewN HB4.out dm)
   have zk5 : ∀ i, (w4.drewN dm).cell? ⟨w.heap.size, i, none⟩ = _ := zk4
   generalize w4.drewN dm = w5 at *
   clear zk4
   simp only [decide_true]
   go_wp2_with fail
   refine (HST.out w5 HB5.out).mono ?_
   rintro e w6 ⟨hb6, A6, n6, c6, rfl, ho6⟩
   rw [HS.out] at ho6 ⊢
   have HB6 := bto HB5 hb6
   clear hb6 ho6 zk5
   simp only
   go_wp2_with fail
   go_ret
   exact ⟨by simp, HB6.out⟩
 have HS := hid hs
 have HL2 := hid hl2
 have HQZ := hid hqz
 clear hs hl2 hqz
 go_wp2_with fail
 refine (HHV.out w1 HB1.out).mono ?_
 rintro e w2 ⟨rfl, hb2⟩
 have HB2 := bto HB1 hb2
 have HK2 := hid (HK1.out.below hb2 HK1.out.lt)
 have zk2 := HK2.out.cell
 clear hb2 zk1
 go_wp2_with fail
 refine (HNM.out w2 HB2.out _ _ _ _ (HTT.out w2 HB2.out) (F : Int) HC1.out).mono ?_
 rintro e w3 ⟨hb3, A3, n3, c3, rfl, ho3⟩
 rw [HQ.out] at ho3 ⊢
 have HT3 : Hid (TermV w3 A3 n3 c3 l') := hid (ownN_term ho3 (by have := HLL.out; show l'.length ≤ _; omega))
 have HB3 := bto HB2 hb3
 have HK3 := hid (HK2.out.below hb3 HK2.out.lt)
 have zk3 := HK3.out.cell
 clear hb3 ho3 zk2
 simp only
 go_wp2_with fail
 refine (HNM.out w3 HB3.out _ _ _ _ HT3.out (0 : Int) HC0.out).mono ?_
 rintro e w4 ⟨hb4, A4, n4, c4, rfl, ho4⟩
 rw [HQ0.out] at ho4 ⊢
 have HT4 : Hid (TermV w4 A4 n4 c4 l') := hid (ownN_term ho4 (by have := HLL.out; show l'.length ≤ _; omega))
 have HSM := hid (same_any w4 (HT3.out.below hb4) HT4.out)
 have HU4 := hid (HT3.out.below hb4)
 have HB4 := bto HB3 hb4
 have HK4 := hid (HK3.out.below hb4 HK3.out.lt)
 have zk4 := HK4.out.cell
 clear hb4 ho4 zk3
 simp only
 go_wp2_with fail
 refine (HSM.out).mono ?_
 rintro e w5 ⟨rfl, dm, rfl⟩
 have HB5 : Hid (Below w.heap.size w (w4.drewN dm)) := hid (below_drewN HB4.out dm)
 have HK5 := hid (HK4.out.drewN dm)
 have HU5 : Hid (TermV (w4.drewN dm) A3 n3 c3 l') := hid (HU4.out.below (below_drewN (Below.refl _ _) dm))
 have zk5 : ∀ i, (w4.drewN dm).cell? ⟨w.heap.size, i, none⟩ = _ := zk4
 generalize w4.drewN dm = w5 at *
 clear zk4
 simp only [decide_true]
 go_wp2_with fail
 refine (HST.out w5 HB5.out).mono ?_
 rintro e w6 ⟨hb6, A6, n6, c6, rfl, ho6⟩
 rw [HS.out] at ho6 ⊢
 have HT6 : Hid (TermV w6 A6 n6 c6 l2) := hid (ownN_term ho6 (by have := HL2.out; show l2.length ≤ _; omega))
 have HU6 := hid (HU5.out.below hb6)
 have HB6 := bto HB5 hb6
 have HK6 := hid (HK5.out.below hb6 HK5.out.lt)
 have zk6 := HK6.out.cell
 clear hb6 ho6 zk5
 simp only
 go_wp2_with fail
 refine (HNM.out w6 HB6.out _ _ _ _ HT6.out (F : Int) HC1.out).mono ?_
 rintro e w7 ⟨hb7, A7, n7, c7, rfl, ho7⟩
 rw [HQZ.out] at ho7 ⊢
 have HT7 : Hid (TermV w7 A7 n7 c7 l') := hid (ownN_term ho7 (by have := HLL.out; show l'.length ≤ _; omega))
 have HSN := hid (same_any w7 (HU6.out.below hb7) HT7.out)
 have HB7 := bto HB6 hb7
 clear hb7 ho7 zk6
 simp only
 go_wp2_with fail
 refine (HSN.out).mono ?_
 rintro e w8 ⟨rfl, dn, rfl⟩
 go_wp2_with fail
 go_ret
 exact ⟨by simp, below_drewN HB7.out _⟩
end
section
open Go.ChangeShapes Go.WideShapes Go.ChangeAt Go.RowKit Go.Deep
theorem Try.own : ownKnob Try.prog.godebug = none := by kernel_rfl
theorem Try.laidOut : laidOutB Try.prog = true := by kernel_rfl
theorem nodeCells : Try.prog.cellsOf 50 = 3 := by kernel_rfl
theorem nodeBytes : Try.prog.bytesOf 50 = 24 := by kernel_rfl
theorem intCells : Try.prog.cellsOf 3 = 1 := by kernel_rfl
section
variable {H : Type} {enc : TypeId × Value → H}
set_option maxRecDepth 100000 in
theorem node_at {w : World} {base : Nat} {spare : Nat → Bool} {held : Bool} {n : Nat} {cs : List Value} {x : DataW H × List MemPlace} (h : DataW.trod enc Try.prog w base spare held n 50 cs = some x) : ∃ o a b : Int, cs = [.int .i64 o, .int .i64 a, .int .i64 b] := by
 obtain ⟨xs, m, _, _, hlen, hxs, hf⟩ := DataW.trod_struct Try.underlying50 h
 rw [nodeCells] at hlen
 have g0 : DataW.trod enc Try.prog w base spare held m 3 ((cs.drop 0).take (Try.prog.cellsOf 3)) = xs[0]? := hf 0 _ rfl
 have g1 : DataW.trod enc Try.prog w base spare held m 3 ((cs.drop 1).take (Try.prog.cellsOf 3)) = xs[1]? := hf 1 _ rfl
 have g2 : DataW.trod enc Try.prog w base spare held m 3 ((cs.drop 2).take (Try.prog.cellsOf 3)) = xs[2]? := hf 2 _ rfl
 have hx3 : xs.length = 3 := hxs
 rw [intCells] at g0 g1 g2
 match cs, hlen with
 | [c0, c1, c2], _ =>
  match xs, hx3 with
  | [y0, y1, y2], _ =>
   obtain ⟨o, ho, _⟩ := DataW.trod_int Try.underlying3 g0
   obtain ⟨a, ha, _⟩ := DataW.trod_int Try.underlying3 g1
   obtain ⟨b, hb, _⟩ := DataW.trod_int Try.underlying3 g2
   simp at ho ha hb
   subst ho ha hb
   exact ⟨o, a, b, rfl⟩
theorem shut_true {W : World} {base : Nat} {sp : Nat → Bool} {held : Bool} : DataW.Trod enc Try.prog W base sp held 4 (.bool true) (.lit (.bool true)) [] := ⟨1, by simp [DataW.trod, Value.cells, Try.underlying4]⟩
end
end
end Go.Proofs.Ytjoddliplahgkaa
