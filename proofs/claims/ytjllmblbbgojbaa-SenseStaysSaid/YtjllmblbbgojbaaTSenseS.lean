/- retortlaw13: heavy; SenseStays and SenseFuel walked. -/
import Derived.Test.YtjllmblbbgojbaaTSenseN
import Derived.Test.YtjllmblbbgojbaaTSenseO
import Derived.Test.YtjllmblbbgojbaaTSized
import Derived.Test.YtjllmblbbgojbaaTSame
namespace Go.Proofs.Ytjllmblbbgojbaa
open Go.Lib (hid)
set_option maxHeartbeats 8000000
set_option maxRecDepth 100000
set_option linter.unusedVariables false
set_option linter.unusedSimpArgs false
open Go.RowKit
def heavyB (b : Bk) (n : Nat) (fuel : Int) : Bool := decide (4000 ≤ sizeB 4000 b) || decide (3000 < n) || decide (500 < fuel)
theorem heavy_any {w : World} {v : BkVal} {b : Bk} (hb : BookV w v b) {A : Option Addr} {n c : Nat} (fuel : Int) :
 Calls Try.prog 18 #[.agg #[.int .i64 b.vars, .slice v.Ao v.no v.co, .slice v.Ae v.ne v.ce, .int .i64 b.nat, .slice v.Ap v.np v.cp], .slice A n c, .int .i64 fuel] w (BoolP (heavyB b n fuel) w) := by
 have hb0 := below_alloc w (.cells #[.int .i64 b.vars, .slice v.Ao v.no v.co, .slice v.Ae v.ne v.ce, .int .i64 b.nat, .slice v.Ap v.np v.cp] 26)
 have HSZ := hid (size_any (hb.below hb0) 4000 (by omega))
 have HB0 := hid hb0
 have hs0 := hb0.size
 have HR : Hid (heavyB b n fuel = (decide (4000 ≤ sizeB 4000 b) || decide (3000 < n) || decide (500 < fuel))) := hid rfl
 generalize heavyB b n fuel = res at *
 generalize sizeB 4000 b = sz at *
 clear hb hb0
 by_cases h1 : 4000 ≤ sz
 · have d1 : decide (sz ≥ 4000) = true := decide_eq_true h1
   have HZ : Hid (res = true) := hid (by rw [HR.out, decide_eq_true h1]; simp)
   go_in
   go_wp2_with fail
   refine (HSZ.out).mono ?_
   rintro e w2 ⟨rfl, hb2⟩
   go_wp2_with fail
   go_ret
   rw [HZ.out]
   exact ⟨rfl, HB0.out.trans (hb2.mono hs0)⟩
 have d1 : decide (sz ≥ 4000) = false := decide_eq_false h1
 by_cases h2 : 3000 < n
 · have d2 : decide ((n : Int) > 3000) = true := decide_eq_true (by omega)
   have d3 : decide (n > 3000) = true := decide_eq_true h2
   have d4 : decide (3000 < n) = true := decide_eq_true h2
   have HZ : Hid (res = true) := hid (by rw [HR.out, d4]; simp)
   go_in
   go_wp2_with fail
   refine (HSZ.out).mono ?_
   rintro e w2 ⟨rfl, hb2⟩
   go_wp2_with fail
   go_ret
   rw [HZ.out]
   exact ⟨rfl, HB0.out.trans (hb2.mono hs0)⟩
 have d2 : decide ((n : Int) > 3000) = false := decide_eq_false (by omega)
 have d3 : decide (n > 3000) = false := decide_eq_false h2
 have d4 : decide (3000 < n) = false := decide_eq_false h2
 have d5 : decide (4000 ≤ sz) = false := decide_eq_false h1
 have HZ : Hid (res = decide (500 < fuel)) := hid (by rw [HR.out, d4, d5]; simp)
 obtain ⟨fb, hfb⟩ : ∃ q, q = decide (500 < fuel) := ⟨_, rfl⟩
 have d6 : decide (fuel > 500) = fb := hfb.symm
 have d7 : decide (500 < fuel) = fb := hfb.symm
 rw [d7] at HZ
 clear hfb
 go_in
 go_wp2_with fail
 refine (HSZ.out).mono ?_
 rintro e w2 ⟨rfl, hb2⟩
 go_wp2_with fail
 go_ret
 rw [HZ.out]
 exact ⟨rfl, HB0.out.trans (hb2.mono hs0)⟩
theorem stays_law {w : World} {v : BkVal} {b : Bk} (hb : BookV w v b) {A : Option Addr} {n c : Nat} {t : List Nd} (ht : TermV w A n c t) (fuel : Int) :
 Calls Try.prog 4 #[.agg #[.int .i64 b.vars, .slice v.Ao v.no v.co, .slice v.Ae v.ne v.ce, .int .i64 b.nat, .slice v.Ap v.np v.cp], .slice A n c, .int .i64 fuel] w (BoolP true w) := by
 have HHV := hid (fun (w' : World) (h : Below w.heap.size w w') => heavy_any (hb.below h) (A := A) (n := n) (c := c) fuel)
 have HEV := hid (fun (w' : World) (h : Below w.heap.size w w') => seval_any (hb.below h) fuel (ht.below h))
 have HE1 := hid (fun (w' : World) (h : Below w.heap.size w w') (A' : Option Addr) (n' c' : Nat) (l : List Nd) (h2 : TermV w' A' n' c' l) => seval_any (hb.below h) 1 h2)
 have HVL := hid (fun (w' : World) (h : Below w.heap.size w w') (A' : Option Addr) (n' c' : Nat) (l : List Nd) (h2 : TermV w' A' n' c' l) => svalue_any (hb.below h) h2)
 have HB0 := hid (below_alloc w (.cells #[.int .i64 b.vars, .slice v.Ao v.no v.co, .slice v.Ae v.ne v.ce, .int .i64 b.nat, .slice v.Ap v.np v.cp] 26))
 have HK0 := hid (Blk.new w 26 #[.int .i64 b.vars, .slice v.Ao v.no v.co, .slice v.Ae v.ne v.ce, .int .i64 b.nat, .slice v.Ap v.np v.cp])
 have HQ := hid (evalQ_cases b t fuel)
 generalize heavyB b n fuel = hv at *
 clear hb ht
 go_in
 go_wp2_with fail
 refine sawake_any.mono ?_
 rintro e w1 ⟨rfl, hw1⟩
 have HB1 := bto HB0 hw1
 have HK1 := hid (Blk.below HK0.out hw1 (by simp))
 have zk1 := Blk.cell HK1.out
 clear hw1
 have HHW := hid (HHV.out w1 HB1.out)
 cases hv with
 | true =>
  go_wp2_with fail
  refine (HHW.out).mono ?_
  rintro e w2 ⟨rfl, hw2⟩
  go_wp2_with fail
  go_ret
  exact ⟨rfl, HB1.out.trans (hw2.mono HB1.out.size)⟩
 | false =>
 go_wp2_with fail
 refine (HHW.out).mono ?_
 rintro e w2 ⟨rfl, hw2⟩
 have HB2 := bto HB1 hw2
 have HK2 := bko HK1 hw2
 have zk2 := Blk.cell HK2.out
 clear hw2 zk1
 have HEW := hid (HEV.out w2 HB2.out)
 rcases HQ.out with ⟨z, hz, hq⟩ | ⟨hr, _, _, y, f, hy, _, _, hq⟩
 · rw [hq] at HEW
   have dz : (z != 0) = true := by simpa using hz
   clear hq hz HQ
   go_wp2_with fail
   refine (HEW.out).mono ?_
   rintro e w3 ⟨hb3, A3, n3, c3, rfl, ht3⟩
   have hn3 : n3 = 0 := ht3.len.symm
   subst hn3
   have HB3 := bto HB2 hb3
   clear ht3 hb3
   go_wp2_with fail
   go_ret
   exact ⟨rfl, HB3.out⟩
 rw [hq] at HEW
 obtain ⟨k1, k2, k3⟩ := evalQ_value hr hy
 generalize rowT y = yl at *
 have K1 := hid k1
 have K2 := hid k2
 have K3 := hid k3
 clear hq HQ hr hy k1 k2 k3
 go_wp2_with fail
 refine (HEW.out).mono ?_
 rintro e w3 ⟨hb3, A3, n3, c3, rfl, ht3⟩
 have HB3 := bto HB2 hb3
 have HK3 := bko HK2 hb3
 have zk3 := Blk.cell HK3.out
 have HT3 : Hid (TermV w3 A3 n3 c3 yl) := hid (ht3.keep fun q hq => ⟨hq.2, fun _ => rfl⟩)
 have HVW := hid (HVL.out w3 HB3.out A3 n3 c3 yl HT3.out)
 rw [K1.out, K2.out] at HVW
 clear hb3 ht3 zk2
 go_wp2_with fail
 refine (HVW.out).mono ?_
 rintro e w4 ⟨rfl, hb4⟩
 have HB4 := bto HB3 hb4
 have HK4 := bko HK3 hb4
 have zk4 := Blk.cell HK4.out
 have HT4 := hid (HT3.out.below hb4)
 have HEX := hid (HE1.out w4 HB4.out A3 n3 c3 yl HT4.out)
 rw [K3.out] at HEX
 clear hb4 zk3
 go_wp2_with fail
 refine (HEX.out).mono ?_
 rintro e w5 ⟨hb5, A5, n5, c5, rfl, ht5⟩
 have HB5 := bto HB4 hb5
 have HSM := hid (same_any w5 (HT4.out.below hb5) (ht5.keep fun q hq => ⟨hq.2, fun _ => rfl⟩ : TermV w5 A5 n5 c5 yl))
 clear hb5 ht5
 go_wp2_with fail
 refine (HSM.out).mono ?_
 rintro e w6 ⟨rfl, m, rfl⟩
 go_wp2_with fail
 go_ret
 exact ⟨by simp, below_drewN HB5.out m⟩
end Go.Proofs.Ytjllmblbbgojbaa
