/- retortlaw13: SenseFuel walked. -/
import Derived.Test.YtjllmblbbgojbaaUSenseS
namespace Go.Proofs.Ytjllmblbbgojbaa
open Go.Lib (hid)
open Go.RowKit
set_option linter.unusedSimpArgs false in
set_option linter.unusedVariables false in
set_option maxRecDepth 100000 in
set_option maxHeartbeats 8000000 in
theorem fuel_law {w : World} {v : BkVal} {b : Bk} (hb : BookV w v b) {A : Option Addr} {n c : Nat} {t : List Nd} (ht : TermV w A n c t) (fuel more : Int) (hm0 : 0 ≤ more) (hm1 : more ≤ 255) :
 Calls Try.prog 5 #[.agg #[.int .i64 b.vars, .slice v.Ao v.no v.co, .slice v.Ae v.ne v.ce, .int .i64 b.nat, .slice v.Ap v.np v.cp], .slice A n c, .int .i64 fuel, .int .u8 more] w (BoolP true w) := by
 have HHV := hid (fun (w' : World) (h : Below w.heap.size w w') => heavy_any (hb.below h) (A := A) (n := n) (c := c) fuel)
 have HEV := hid (fun (w' : World) (h : Below w.heap.size w w') (fl : Int) => seval_any (hb.below h) fl (ht.below h))
 have HB0 := hid (below_alloc w (.cells #[.int .i64 b.vars, .slice v.Ao v.no v.co, .slice v.Ae v.ne v.ce, .int .i64 b.nat, .slice v.Ap v.np v.cp] 26))
 have HK0 := hid (Blk.new w 26 #[.int .i64 b.vars, .slice v.Ao v.no v.co, .slice v.Ae v.ne v.ce, .int .i64 b.nat, .slice v.Ap v.np v.cp])
 have HQ := hid (evalQ_cases b t fuel)
 have HQF := hid (fun (h0 : 0 ≤ fuel) (h4 : fuel ≤ 400) (y : TT) (f : Nat) (hq : fitsE b 0 t = 0) hE => evalQ_fuel (b := b) (l := t) h0 h4 (y := y) (f := f) hq hE more hm0 hm1)
 generalize heavyB b n fuel = hv at *
 clear hb ht
 go_in
 go_wp2_with fail
 refine sawake_any.mono ?_
 rintro e w1 ⟨rfl, hw1⟩
 have HB1 := bto HB0 hw1
 have HK1 := hid (Blk.below HK0.out hw1 (by simp))
 have zk1 := Blk.cell HK1.out
 clear hw1
 have HHW := hid (HHV.out w1 HB1.out)
 cases hv with
 | true =>
  go_wp2_with fail
  refine (HHW.out).mono ?_
  rintro e w2 ⟨rfl, hw2⟩
  go_wp2_with fail
  go_ret
  exact ⟨rfl, HB1.out.trans (hw2.mono HB1.out.size)⟩
 | false =>
 by_cases l1 : fuel < 0
 · have d1 : decide (fuel < 0) = true := decide_eq_true l1
   go_wp2_with fail
   refine (HHW.out).mono ?_
   rintro e w2 ⟨rfl, hw2⟩
   go_wp2_with fail
   go_ret
   exact ⟨rfl, HB1.out.trans (hw2.mono HB1.out.size)⟩
 have d1 : decide (fuel < 0) = false := decide_eq_false l1
 by_cases l2 : 400 < fuel
 · have d2 : decide (fuel > 400) = true := decide_eq_true l2
   go_wp2_with fail
   refine (HHW.out).mono ?_
   rintro e w2 ⟨rfl, hw2⟩
   go_wp2_with fail
   go_ret
   exact ⟨rfl, HB1.out.trans (hw2.mono HB1.out.size)⟩
 have d2 : decide (fuel > 400) = false := decide_eq_false l2
 have HL : Hid (0 ≤ fuel ∧ fuel ≤ 400) := hid (by omega)
 clear l1 l2
 go_wp2_with fail
 refine (HHW.out).mono ?_
 rintro e w2 ⟨rfl, hw2⟩
 have HB2 := bto HB1 hw2
 have HK2 := bko HK1 hw2
 have zk2 := Blk.cell HK2.out
 clear hw2 zk1
 have HEW := hid (HEV.out w2 HB2.out fuel)
 rcases HQ.out with ⟨z, hz, hq⟩ | ⟨hr, _, hfit, y, f, hy, hE, hlt, hq⟩
 · rw [hq] at HEW
   have dz : (z != 0) = true := by simpa using hz
   clear hq hz HQ
   go_wp2_with fail
   refine (HEW.out).mono ?_
   rintro e w3 ⟨hb3, A3, n3, c3, rfl, ht3⟩
   have HB3 := bto HB2 hb3
   clear ht3 hb3
   go_wp2_with fail
   go_ret
   exact ⟨rfl, HB3.out⟩
 rw [hq] at HEW
 obtain ⟨k1, k2⟩ := HQF.out HL.out.1 HL.out.2 y f hfit hE
 have hlf : (f : Int) < fuel := by have := HL.out; omega
 generalize rowT y = yl at *
 have K1 := hid k1
 have K2 := hid k2
 have hl := HL.out
 have w1' : IntKind.i64.wrap (fuel + more) = fuel + more := by rw [IntKind.wrap_i64]; omega
 have w2' : IntKind.i64.wrap ((f : Int) + more) = (f : Int) + more := by rw [IntKind.wrap_i64]; omega
 have w3' : IntKind.i64.wrap (fuel - (f : Int)) = fuel - (f : Int) := by rw [IntKind.wrap_i64]; omega
 have w4' : IntKind.i64.wrap (fuel - (f : Int) - 1) = fuel - (f : Int) - 1 := by rw [IntKind.wrap_i64]; omega
 have w5' : IntKind.i64.wrap more = more := by rw [IntKind.wrap_i64]; omega
 clear hq HQ hr hy k1 k2 hE hlt hfit hl HQF
 go_wp2_with fail
 refine (HEW.out).mono ?_
 rintro e w3 ⟨hb3, A3, n3, c3, rfl, ht3⟩
 have HB3 := bto HB2 hb3
 have HK3 := bko HK2 hb3
 have zk3 := Blk.cell HK3.out
 have HT3 : Hid (TermV w3 A3 n3 c3 yl) := hid (ht3.keep fun q hq => ⟨hq.2, fun _ => rfl⟩)
 have HVW := hid (HEV.out w3 HB3.out (fuel + more))
 rw [K1.out] at HVW
 clear hb3 ht3 zk2
 go_wp2_with fail
 refine (HVW.out).mono ?_
 rintro e w4 ⟨hb4, A4, n4, c4, rfl, ht4⟩
 have HB4 := bto HB3 hb4
 have HK4 := bko HK3 hb4
 have zk4 := Blk.cell HK4.out
 have HSM := hid (same_any w4 (HT3.out.below hb4) (ht4.keep fun q hq => ⟨hq.2, fun _ => rfl⟩ : TermV w4 A4 n4 c4 yl))
 have HSQ : Hid (decide (yl = yl) = true) := hid (by simp)
 rw [HSQ.out] at HSM
 clear hb4 zk3 ht4
 go_wp2_with fail
 refine (HSM.out).mono ?_
 rintro e w5 ⟨rfl, m, rfl⟩
 have HB5 := hid (below_drewN HB4.out m)
 have zk5 := Blk.cell (HK4.out.drewN m)
 have HEX := hid (HEV.out (w4.drewN m) HB5.out (fuel - f - 1))
 rw [K2.out] at HEX
 clear zk4
 go_wp2_with fail
 refine (HEX.out).mono ?_
 rintro e w6 ⟨hb6, A6, n6, c6, rfl, ht6⟩
 have HB6 := bto HB5 hb6
 clear hb6 ht6
 go_wp2_with fail
 go_ret
 exact ⟨rfl, HB6.out⟩
end Go.Proofs.Ytjllmblbbgojbaa
