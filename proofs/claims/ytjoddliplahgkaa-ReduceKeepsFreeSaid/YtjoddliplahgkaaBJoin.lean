/- Merged: Fre, Join. -/
import Derived.Test.YtjoddliplahgkaaBWhL
import Derived.Test.YtjoddliplahgkaaBWhJ
import Derived.Test.YtjoddliplahgkaaBFreB
import Derived.Test.YtjoddliplahgkaaChecked
import Derived.Test.YtjoddliplahgkaaBBase
import Derived.ProofKit
import Derived.SizedLaws
import Derived.Deep.Slices
import Derived.Deep.Fields
namespace Go.Proofs.Ytjoddliplahgkaa
section
open Go.Lib (hid)
open Go.RowKit
theorem free_cases {b : Bk} {bs : List (List Nd × List Nd)} {l : List Nd} (hno : ∀ k, (cvO bs).getD k [] = []) : (∃ z, stepC b bs l = ([], false, z)) ∨ ∃ y : Fc, stepC b bs l = (rowT (rowF y), true, 0) ∧ shapeI (rowT (rowF y)) = 0 ∧ fitsC b bs (rowT (rowF y)) = 0 ∧ szT (rowF y) ≤ 4096 ∧ ∀ v : Int, 0 ≤ v → (!freeB (rowT (rowF y)) v || freeB l v) = true := by
 by_cases h0 : fitsC b bs l = 0
 rotate_left
 · exact .inl ⟨fitsC b bs l, by unfold stepC; rw [if_pos h0]⟩
 obtain ⟨q1, q2, q3, q4, q5⟩ := fits_c h0
 have hsz := foc_sz q5
 have h4 : szT (treeAt l) ≤ 4096 := q5.few
 have h3 := step_wh q1 q3 (szT (treeAt l) + 1) (hdW (treeAt l)) 4096 (foc q5) (by omega) (by omega) (by omega)
 have e : stepC b bs l = match stF b (cvO bs) (szT (treeAt l) + 1) (hdW (treeAt l)) 4096 with
  | .no => ([], false, 0)
  | .big => ([], false, 9)
  | .yes y => (rowT (rowF y), true, 0) := by
  unfold stepC
  rw [if_neg (by rw [h0]; simp)]
  rfl
 rw [e]
 cases hst : stF b (cvO bs) (szT (treeAt l) + 1) (hdW (treeAt l)) 4096 with
 | no => exact .inl ⟨0, rfl⟩
 | big => exact .inl ⟨9, rfl⟩
 | yes y =>
  rw [hst] at h3
  have hfit := h3.1.fit (by have := h3.2.1; omega)
  refine .inr ⟨y, rfl, hfit.rt.shape, c_fits h0 hfit, hfit.few, fun v hv => ?_⟩
  have := step_free hv q1 q3 hno q5 hfit.rt hst
  rw [← q4] at this
  cases hA : freeB (rowT (rowF y)) v with
  | false => rfl
  | true => rw [this hA]; rfl
set_option linter.unusedSimpArgs false in
set_option linter.unusedVariables false in
set_option maxRecDepth 100000 in
set_option maxHeartbeats 4000000 in
theorem free8_law {w : World} {v : BkVal} {b : Bk} (hb : BookV w v b) {cA : Option Addr} {cn cc : Nat} {bs : List (List Nd × List Nd)} (hc : CtxB (· < w.heap.size) w cA cn cc bs) {A : Option Addr} {n c : Nat} {l : List Nd} (ht : TermV w A n c l) (fuel : Int) (probe : Int) (hp0 : 0 ≤ probe) (hp1 : probe ≤ 255) :
 Calls Try.prog 4 #[.agg #[.int .i64 b.vars, .slice v.Ao v.no v.co, .slice v.Ae v.ne v.ce, .int .i64 b.nat, .slice v.Ap v.np v.cp, .slice cA cn cc, .slice A n c, .int .i64 fuel], .int .u8 probe] w (BoolP true w) := by
 obtain ⟨w0, hw0⟩ : ∃ w0 : World, w0 = w.alloc (.cells #[.int .i64 b.vars, .slice v.Ao v.no v.co, .slice v.Ae v.ne v.ce, .int .i64 b.nat, .slice v.Ap v.np v.cp, .slice cA cn cc, .slice A n c, .int .i64 fuel] 31) := ⟨_, rfl⟩
 have hb0 : Below w.heap.size w w0 := by rw [hw0]; exact below_alloc _ _
 have hk0 : Blk w0 w.heap.size 31 #[.int .i64 b.vars, .slice v.Ao v.no v.co, .slice v.Ae v.ne v.ce, .int .i64 b.nat, .slice v.Ap v.np v.cp, .slice cA cn cc, .slice A n c, .int .i64 fuel] := by rw [hw0]; exact Blk.new _ _ _
 have HB0 := hid hb0
 have HK0 := hid hk0
 have HHV := hid (fun (W : World) (h : Below w.heap.size w W) => heavy8_any (hb.below h) (hc.below h) (A := A) (n := n) (c := c) fuel 4611686018427387904)
 have HFT := hid (fun (W : World) (h : Below w.heap.size w W) (A' : Option Addr) (n' c' : Nat) (l' : List Nd) (h2 : TermV W A' n' c' l') => rfits_any (hb.below h) (hc.below h) h2)
 have HST := hid (fun (W : World) (h : Below w.heap.size w W) => rstep_any (hb.below h) (hc.below h) (ht.below h))
 have HTT := hid (fun (W : World) (h : Below w.heap.size w W) => ht.below h)
 have HCC := hid (fun (W : World) (h : Below w.heap.size w W) => hc.below h)
 have HLEN := hid hc.len
 have HFC := hid (fun h => free_cases (b := b) (bs := bs) (l := l) h)
 have hcf := hc.few
 generalize heavy8 b bs n fuel 4611686018427387904 = hv at *
 have hwp : IntKind.i64.wrap probe = probe := by rw [IntKind.wrap_i64]; omega
 clear hb hc ht hb0 hk0
 go_in
 go_upto_region 1 with fail
 rw [← hw0]
 clear hw0
 go_wp2_with fail
 refine awake8_any.mono ?_
 rintro e w1 ⟨rfl, hb1⟩
 have HB1 := bto HB0 hb1
 have HK1 := hid (HK0.out.below hb1 HK0.out.lt)
 have zk1 := HK1.out.cell
 clear hb1
 cases hv with
 | true =>
  go_wp2_with fail
  refine (HHV.out w1 HB1.out).mono ?_
  rintro e w2 ⟨rfl, hb2⟩
  have HB2 := bto HB1 hb2
  clear hb2
  go_wp2_with fail
  go_ret
  exact ⟨rfl, HB2.out⟩
 | false =>
 go_wp2_with fail
 refine (HHV.out w1 HB1.out).mono ?_
 rintro e w2 ⟨rfl, hb2⟩
 have HB2 := bto HB1 hb2
 have HK2 := hid (HK1.out.below hb2 HK1.out.lt)
 have zk2 := HK2.out.cell
 clear hb2 zk1
 have HC2 := hid (HCC.out w2 HB2.out)
 go_wp2_with fail
 go_loopw [5] (fun iv wr => ∃ i : Nat, i ≤ cn ∧ iv = .int .i64 (i : Int) ∧ wr = w2 ∧ Hid (∀ k, k < i → (cvO bs).getD k [] = [])) (fun iv _ => cn - (intOf iv).toNat)
 case atStart => exact ⟨0, by omega, rfl, rfl, hid (fun k h => absurd h (by omega))⟩
 case round =>
  obtain ⟨i, hi, rfl, rfl, hall⟩ := hrel
  by_cases hlt : i < cn
  · have e1 : decide ((i : Int) < (cn : Int)) = true := decide_eq_true (by omega)
    have e2 : decide (i < cn) = true := decide_eq_true hlt
    have e3 : (i : Int) < (cn : Int) := by omega
    obtain ⟨bb, oo, hcA, hbb, hm⟩ := HC2.out.mem (by omega)
    obtain ⟨A1, n1, c1, A2, n2, c2, y1, y2, t1, t2⟩ := hm i hlt
    have il : i < bs.length := by rw [HLEN.out]; exact hlt
    have ev : (cvO bs).getD i [] = (bs.getD i ([], [])).2 := by
     rw [List.getD_eq_getElem?_getD, List.getD_eq_getElem?_getD, List.getElem?_map, List.getElem?_eq_getElem il]
     rfl
    have hl2 : (bs.getD i ([], [])).2.length = n2 := t2.len
    by_cases hn2 : n2 = 0
    · have d1 : decide ((n2 : Int) > 0) = false := decide_eq_false (by omega)
      have d2 : decide ((0 : Int) < (n2 : Int)) = false := decide_eq_false (by omega)
      have d3 : decide (n2 > 0) = false := decide_eq_false (by omega)
      have d4 : decide (0 < n2) = false := decide_eq_false (by omega)
      have HNX : Hid (∀ k, k < i + 1 → (cvO bs).getD k [] = []) := hid (fun k hk => by
       by_cases h : k < i
       · exact hall.out k h
       obtain rfl : k = i := by omega
       rw [ev]
       exact List.eq_nil_of_length_eq_zero (by rw [hl2, hn2]))
      clear hall hm t1 t2 il ev hl2 hn2
      subst hcA
      go_wp2_with fail
      go_roundw
      case rel => exact ⟨i + 1, by omega, by go_num, by first | trivial | rfl, HNX⟩
      case measure => simp [intOf]; omega
    have d1 : decide ((n2 : Int) > 0) = true := decide_eq_true (by omega)
    have d2 : decide ((0 : Int) < (n2 : Int)) = true := decide_eq_true (by omega)
    have d3 : decide (n2 > 0) = true := decide_eq_true (by omega)
    have d4 : decide (0 < n2) = true := decide_eq_true (by omega)
    clear hall hm t1 t2 il ev hl2 hn2
    subst hcA
    go_wp2_with fail
    go_ret
    exact ⟨rfl, HB2.out⟩
  have e1 : decide ((i : Int) < (cn : Int)) = false := decide_eq_false (by omega)
  have e2 : decide (i < cn) = false := decide_eq_false hlt
  have hno : ∀ k, (cvO bs).getD k [] = [] := fun k => by
   by_cases h : k < i
   · exact hall.out k h
   rw [List.getD_eq_getElem?_getD, List.getElem?_eq_none (by rw [List.length_map, HLEN.out]; omega)]
   rfl
  have hst := HST.out wr HB2.out
  have hcs := HFC.out hno
  clear hall hno hlt
  rcases hcs with ⟨z, hz⟩ | ⟨y, hy, hsh, hft, hyz, hfr⟩
  · rw [hz] at hst
    have HSS := hid hst
    clear hst hz
    go_wp2_with fail
    refine (HSS.out).mono ?_
    rintro e w4 ⟨hb4, A4, n4, c4, rfl, ho4⟩
    have hn4 : n4 = 0 := (ownN_term ho4 (Nat.zero_le _)).len.symm
    subst hn4
    have HB4 := bto HB2 hb4
    clear hb4 ho4
    simp only
    go_wp2_with fail
    go_ret
    exact ⟨by simp, HB4.out⟩
  rw [hy] at hst
  have HSS := hid hst
  have HSH := hid hsh
  have HFI := hid hft
  have HFR := hid (hfr probe hp0)
  have HYZ : Hid ((rowT (rowF y)).length ≤ 4096) := hid hyz
  clear hst hy hsh hft hyz hfr
  generalize rowT (rowF y) = l2 at *
  go_wp2_with fail
  refine (HSS.out).mono ?_
  rintro e w4 ⟨hb4, A4, n4, c4, rfl, ho4⟩
  have HT4 : Hid (TermV w4 A4 n4 c4 l2) := hid (ownN_term ho4 (by have := HYZ.out; show l2.length ≤ _; omega))
  have HB4 := bto HB2 hb4
  have HK4 := hid (HK2.out.below hb4 HK2.out.lt)
  have zk4 := HK4.out.cell
  have hsp := shape_any HT4.out
  rw [HSH.out] at hsp
  have HSP := hid hsp
  clear hb4 ho4 hsp zk2
  simp only
  obtain ⟨f1, hf1⟩ : ∃ f1, f1 = freeB l2 probe := ⟨_, rfl⟩
  obtain ⟨f2, hf2⟩ : ∃ f2, f2 = freeB l probe := ⟨_, rfl⟩
  rw [← hf1, ← hf2] at HFR
  have HF1 := hid hf1
  have HF2 := hid hf2
  clear hf1 hf2
  cases f1 with
  | false =>
   go_wp2_with fail
   refine (HSP.out).mono ?_
   rintro e w5 ⟨rfl, hb5⟩
   have HB5 := bto HB4 hb5
   have HB45 := hid hb5
   have zk5 := fun i => (hb5.cell (p := ⟨w.heap.size, i, none⟩) HK4.out.lt).trans (zk4 i)
   clear hb5
   go_wp2_with fail
   have h6 := HFT.out w5 HB5.out A4 n4 c4 l2 (HT4.out.below HB45.out)
   rw [HFI.out] at h6
   refine h6.mono ?_
   rintro e w6 ⟨rfl, hb6⟩
   have HB6 := bto HB5 hb6
   have HB46 := bto HB45 hb6
   clear hb6 h6 zk5
   go_wp2_with fail
   have h7 := free_any (HT4.out.below HB46.out) probe
   rw [← HF1.out] at h7
   refine h7.mono ?_
   rintro e w7 ⟨rfl, hb7⟩
   have HB7 := bto HB6 hb7
   have HB47 := bto HB46 hb7
   clear hb7 h7
   go_wp2_with fail
   go_ret
   exact ⟨by simp, HB7.out⟩
  | true =>
   have hf3 : f2 = true := by simpa using HFR.out
   subst hf3
   go_wp2_with fail
   refine (HSP.out).mono ?_
   rintro e w5 ⟨rfl, hb5⟩
   have HB5 := bto HB4 hb5
   have HB45 := hid hb5
   have zk5 := fun i => (hb5.cell (p := ⟨w.heap.size, i, none⟩) HK4.out.lt).trans (zk4 i)
   clear hb5
   go_wp2_with fail
   have h6 := HFT.out w5 HB5.out A4 n4 c4 l2 (HT4.out.below HB45.out)
   rw [HFI.out] at h6
   refine h6.mono ?_
   rintro e w6 ⟨rfl, hb6⟩
   have HB6 := bto HB5 hb6
   have HB46 := bto HB45 hb6
   clear hb6 h6 zk5
   go_wp2_with fail
   have h7 := free_any (HT4.out.below HB46.out) probe
   rw [← HF1.out] at h7
   refine h7.mono ?_
   rintro e w7 ⟨rfl, hb7⟩
   have HB7 := bto HB6 hb7
   have HB47 := bto HB46 hb7
   clear hb7 h7
   have zk7 := fun i => ((HB47.out).cell (p := ⟨w.heap.size, i, none⟩) HK4.out.lt).trans (zk4 i)
   go_wp2_with fail
   have h9 := free_any (HTT.out w7 HB7.out) probe
   rw [← HF2.out] at h9
   refine h9.mono ?_
   rintro e w8 ⟨rfl, hb8⟩
   have HB8 := bto HB7 hb8
   clear hb8 h9
   go_wp2_with fail
   go_ret
   exact ⟨by simp, HB8.out⟩
end
section
open Go.ChangeShapes Go.WideShapes Go.ChangeAt Go.RowKit Go.Deep
theorem Try.own : ownKnob Try.prog.godebug = none := by kernel_rfl
theorem Try.laidOut : laidOutB Try.prog = true := by kernel_rfl
theorem nodeCells : Try.prog.cellsOf 50 = 3 := by kernel_rfl
theorem nodeBytes : Try.prog.bytesOf 50 = 24 := by kernel_rfl
theorem intCells : Try.prog.cellsOf 3 = 1 := by kernel_rfl
section
variable {H : Type} {enc : TypeId × Value → H}
set_option maxRecDepth 100000 in
theorem node_at {w : World} {base : Nat} {spare : Nat → Bool} {held : Bool} {n : Nat} {cs : List Value} {x : DataW H × List MemPlace} (h : DataW.trod enc Try.prog w base spare held n 50 cs = some x) : ∃ o a b : Int, cs = [.int .i64 o, .int .i64 a, .int .i64 b] := by
 obtain ⟨xs, m, _, _, hlen, hxs, hf⟩ := DataW.trod_struct Try.underlying50 h
 rw [nodeCells] at hlen
 have g0 : DataW.trod enc Try.prog w base spare held m 3 ((cs.drop 0).take (Try.prog.cellsOf 3)) = xs[0]? := hf 0 _ rfl
 have g1 : DataW.trod enc Try.prog w base spare held m 3 ((cs.drop 1).take (Try.prog.cellsOf 3)) = xs[1]? := hf 1 _ rfl
 have g2 : DataW.trod enc Try.prog w base spare held m 3 ((cs.drop 2).take (Try.prog.cellsOf 3)) = xs[2]? := hf 2 _ rfl
 have hx3 : xs.length = 3 := hxs
 rw [intCells] at g0 g1 g2
 match cs, hlen with
 | [c0, c1, c2], _ =>
  match xs, hx3 with
  | [y0, y1, y2], _ =>
   obtain ⟨o, ho, _⟩ := DataW.trod_int Try.underlying3 g0
   obtain ⟨a, ha, _⟩ := DataW.trod_int Try.underlying3 g1
   obtain ⟨b, hb, _⟩ := DataW.trod_int Try.underlying3 g2
   simp at ho ha hb
   subst ho ha hb
   exact ⟨o, a, b, rfl⟩
theorem shut_true {W : World} {base : Nat} {sp : Nat → Bool} {held : Bool} : DataW.Trod enc Try.prog W base sp held 4 (.bool true) (.lit (.bool true)) [] := ⟨1, by simp [DataW.trod, Value.cells, Try.underlying4]⟩
end
end
end Go.Proofs.Ytjoddliplahgkaa
