/- Merged: Tys, Join. -/
import Derived.Test.YtplecfbdchmogaaGreatVTyP
import Derived.Test.YtplecfbdchmogaaGreatVRTyp
import Derived.Test.YtplecfbdchmogaaGreatChecked
import Derived.Test.YtplecfbdchmogaaGreatVBase
import Derived.ProofKit
import Derived.SizedLaws
import Derived.Deep.Slices
import Derived.Deep.Fields
namespace Go.Proofs.YtplecfbdchmogaaGreat
section
open Go.Lib (hid)
open Go.RowKit
theorem rowE_v {q : List Nd × Int} {w w' : World} {e : Ending} (h : RowEPost q w e w') : Below w.heap.size w w' ∧ ∃ A n c, e = .returned (.tuple #[.slice A n c, .int .i64 q.2]) ∧ TermV w' A n c q.1 := by
 obtain ⟨h1, A, n, c, h2, h3⟩ := h
 exact ⟨h1, A, n, c, h2, h3.keep fun q hq => ⟨hq.2, fun _ => rfl⟩⟩
theorem same_true {A A' : Option Addr} {n c n' c' : Nat} {l : List Nd} (w : World) (h : TermV w A n c l) (h' : TermV w A' n' c' l) : Calls Tryz.prog 23 #[.slice A n c, .slice A' n' c'] w fun e w' => e = .returned (.bool true) ∧ ∃ m, w' = w.drewN m := by
 have h := same_any w h h'
 rwa [decide_eq_true rfl] at h
set_option linter.unusedSimpArgs false in
set_option linter.unusedVariables false in
set_option maxRecDepth 100000 in
set_option maxHeartbeats 8000000 in
theorem types_law {w : World} {v : BkVal} {b : Bk} (hb : BookV w v b) (e k : Int) (he1 : -9223372036854775808 ≤ e) (he2 : e ≤ 9223372036854775807) :
 Calls Tryz.prog 5 #[.agg #[.int .i64 b.vars, .slice v.Ao v.no v.co, .slice v.Ae v.ne v.ce, .int .i64 b.nat, .slice v.Ap v.np v.cp], .int .i64 e, .int .i64 k] w (BoolP true w) := by
 obtain ⟨qi, hqi⟩ : ∃ q, q = binT b e := ⟨_, rfl⟩
 obtain ⟨qc, hqc⟩ : ∃ q, q = bctT b e k := ⟨_, rfl⟩
 have HSZ := hid (fun (w' : World) (h : Below w.heap.size w w') => heavy5_any (hb.below h))
 have HI : Hid (∀ (w' : World) (h : Below w.heap.size w w'), Calls Tryz.prog 19 #[.agg #[.int .i64 b.vars, .slice v.Ao v.no v.co, .slice v.Ae v.ne v.ce, .int .i64 b.nat, .slice v.Ap v.np v.cp], .int .i64 e] w' (RowEPost qi w')) := hid (fun w' h => by rw [hqi]; exact bind5_any (hb.below h) e he1 he2)
 have HJ : Hid (∀ (w' : World) (h : Below w.heap.size w w'), Calls Tryz.prog 20 #[.agg #[.int .i64 b.vars, .slice v.Ao v.no v.co, .slice v.Ae v.ne v.ce, .int .i64 b.nat, .slice v.Ap v.np v.cp], .int .i64 e] w' (RowEPost qi w')) := hid (fun w' h => by rw [hqi, ← ind_same]; exact rfind_any (hb.below h) e he1 he2)
 have HC : Hid (∀ (w' : World) (h : Below w.heap.size w w'), Calls Tryz.prog 21 #[.agg #[.int .i64 b.vars, .slice v.Ao v.no v.co, .slice v.Ae v.ne v.ce, .int .i64 b.nat, .slice v.Ap v.np v.cp], .int .i64 e, .int .i64 k] w' (RowEPost qc w')) := hid (fun w' h => by rw [hqc]; exact bctor_any (hb.below h) e k he1 he2)
 have HD : Hid (∀ (w' : World) (h : Below w.heap.size w w'), Calls Tryz.prog 22 #[.agg #[.int .i64 b.vars, .slice v.Ao v.no v.co, .slice v.Ae v.ne v.ce, .int .i64 b.nat, .slice v.Ap v.np v.cp], .int .i64 e, .int .i64 k] w' (RowEPost qc w')) := hid (fun w' h => by rw [hqc, ← ctor_same]; exact rfctor_any (hb.below h) e k he1 he2)
 have HB0 := hid (below_alloc w (.cells #[.int .i64 b.vars, .slice v.Ao v.no v.co, .slice v.Ae v.ne v.ce, .int .i64 b.nat, .slice v.Ap v.np v.cp] 26))
 have HK0 := hid (Blk.new w 26 #[.int .i64 b.vars, .slice v.Ao v.no v.co, .slice v.Ae v.ne v.ce, .int .i64 b.nat, .slice v.Ap v.np v.cp])
 generalize decide (12000 ≤ sizeB 12000 b) = hv at *
 obtain ⟨il, iz⟩ := qi
 obtain ⟨cl, cz⟩ := qc
 clear hb hqi hqc
 go_in
 go_wp2_with fail
 refine awake5_any.mono ?_
 rintro en w1 ⟨rfl, hw1⟩
 have HB1 := bto HB0 hw1
 have HK1 := hid (Blk.below HK0.out hw1 (by simp))
 have z0 := Blk.cell HK1.out
 clear hw1
 go_wp2_with fail
 refine (HSZ.out _ HB1.out).mono ?_
 rintro en w2 ⟨rfl, hw2⟩
 have HB2 := bto HB1 hw2
 have HK2 := bko HK1 hw2
 clear hw2 z0
 have z0 := Blk.cell HK2.out
 cases hv
 rotate_left
 · go_wp2_with fail
   go_ret
   exact ⟨rfl, HB2.out⟩
 go_wp2_with fail
 refine (HI.out _ HB2.out).mono ?_
 intro en w3 hpo
 obtain ⟨hb3, Aa, na, ca, rfl, ht3⟩ := rowE_v hpo
 have HB3 := bto HB2 hb3
 have HK3 := bko HK2 hb3
 have HTa := hid ht3
 simp only at HTa ⊢
 clear z0 ht3 hpo
 have z0 := Blk.cell HK3.out
 clear hb3
 go_wp2_with fail
 refine (HJ.out _ HB3.out).mono ?_
 intro en w4 hpo
 obtain ⟨hb4, Ab, nb, cb, rfl, ht4⟩ := rowE_v hpo
 have HB4 := bto HB3 hb4
 have HK4 := bko HK3 hb4
 have HTb := hid ht4
 simp only at HTb ⊢
 clear z0 ht4 hpo
 have z0 := Blk.cell HK4.out
 replace HTa := hid (HTa.out.below hb4)
 clear hb4
 go_wp2_with fail
 refine (HC.out _ HB4.out).mono ?_
 intro en w5 hpo
 obtain ⟨hb5, Ac, nc, cc, rfl, ht5⟩ := rowE_v hpo
 have HB5 := bto HB4 hb5
 have HK5 := bko HK4 hb5
 have HTc := hid ht5
 simp only at HTc ⊢
 clear z0 ht5 hpo
 have z0 := Blk.cell HK5.out
 replace HTa := hid (HTa.out.below hb5)
 replace HTb := hid (HTb.out.below hb5)
 clear hb5
 go_wp2_with fail
 refine (HD.out _ HB5.out).mono ?_
 intro en w6 hpo
 obtain ⟨hb6, Ad, nd, cd, rfl, ht6⟩ := rowE_v hpo
 have HB6 := bto HB5 hb6
 have HK6 := bko HK5 hb6
 have HTd := hid ht6
 simp only at HTd ⊢
 clear z0 ht6 hpo
 have z0 := Blk.cell HK6.out
 replace HTa := hid (HTa.out.below hb6)
 replace HTb := hid (HTb.out.below hb6)
 replace HTc := hid (HTc.out.below hb6)
 clear hb6
 go_wp2_with fail
 refine (same_true _ HTa.out HTb.out).mono ?_
 rintro en w7 ⟨rfl, m7, rfl⟩
 have HS2 := hid (same_true (w6.drewN m7) (HTc.out.below (below_drewN (Below.refl _ _) m7)) (HTd.out.below (below_drewN (Below.refl _ _) m7)))
 go_wp2_with fail
 refine (HS2.out).mono ?_
 rintro en w8 ⟨rfl, m8, rfl⟩
 go_wp2_with fail
 go_ret
 exact ⟨rfl, below_drewN HB6.out _⟩
end
section
open Go.ChangeShapes Go.WideShapes Go.ChangeAt Go.RowKit Go.Deep
theorem Tryz.own : ownKnob Tryz.prog.godebug = none := by kernel_rfl
theorem Tryz.laidOut : laidOutB Tryz.prog = true := by kernel_rfl
theorem nodeCells : Tryz.prog.cellsOf 53 = 3 := by kernel_rfl
theorem nodeBytes : Tryz.prog.bytesOf 53 = 24 := by kernel_rfl
theorem intCells : Tryz.prog.cellsOf 3 = 1 := by kernel_rfl
section
variable {H : Type} {enc : TypeId × Value → H}
set_option maxRecDepth 100000 in
theorem node_at {w : World} {base : Nat} {spare : Nat → Bool} {held : Bool} {n : Nat} {cs : List Value} {x : DataW H × List MemPlace} (h : DataW.trod enc Tryz.prog w base spare held n 53 cs = some x) : ∃ o a b : Int, cs = [.int .i64 o, .int .i64 a, .int .i64 b] := by
 obtain ⟨xs, m, _, _, hlen, hxs, hf⟩ := DataW.trod_struct Tryz.underlying53 h
 rw [nodeCells] at hlen
 have g0 : DataW.trod enc Tryz.prog w base spare held m 3 ((cs.drop 0).take (Tryz.prog.cellsOf 3)) = xs[0]? := hf 0 _ rfl
 have g1 : DataW.trod enc Tryz.prog w base spare held m 3 ((cs.drop 1).take (Tryz.prog.cellsOf 3)) = xs[1]? := hf 1 _ rfl
 have g2 : DataW.trod enc Tryz.prog w base spare held m 3 ((cs.drop 2).take (Tryz.prog.cellsOf 3)) = xs[2]? := hf 2 _ rfl
 have hx3 : xs.length = 3 := hxs
 rw [intCells] at g0 g1 g2
 match cs, hlen with
 | [c0, c1, c2], _ =>
  match xs, hx3 with
  | [y0, y1, y2], _ =>
   obtain ⟨o, ho, _⟩ := DataW.trod_int Tryz.underlying3 g0
   obtain ⟨a, ha, _⟩ := DataW.trod_int Tryz.underlying3 g1
   obtain ⟨b, hb, _⟩ := DataW.trod_int Tryz.underlying3 g2
   simp at ho ha hb
   subst ho ha hb
   exact ⟨o, a, b, rfl⟩
theorem shut_true {W : World} {base : Nat} {sp : Nat → Bool} {held : Bool} : DataW.Trod enc Tryz.prog W base sp held 4 (.bool true) (.lit (.bool true)) [] := ⟨1, by simp [DataW.trod, Value.cells, Tryz.underlying4]⟩
end
end
end Go.Proofs.YtplecfbdchmogaaGreat
