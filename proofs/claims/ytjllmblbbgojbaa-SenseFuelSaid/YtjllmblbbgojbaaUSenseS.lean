/- retortlaw13: heavy; SenseStays and SenseFuel walked. -/
import Derived.Test.YtjllmblbbgojbaaUSenseN
import Derived.Test.YtjllmblbbgojbaaUSenseO
import Derived.Test.YtjllmblbbgojbaaUSized
import Derived.Test.YtjllmblbbgojbaaUSame
namespace Go.Proofs.Ytjllmblbbgojbaa
open Go.Lib (hid)
open Go.RowKit
def heavyB (b : Bk) (n : Nat) (fuel : Int) : Bool := decide (4000 ≤ sizeB 4000 b) || decide (3000 < n) || decide (500 < fuel)
set_option linter.unusedSimpArgs false in
set_option linter.unusedVariables false in
set_option maxRecDepth 100000 in
set_option maxHeartbeats 8000000 in
theorem heavy_any {w : World} {v : BkVal} {b : Bk} (hb : BookV w v b) {A : Option Addr} {n c : Nat} (fuel : Int) :
 Calls Try.prog 18 #[.agg #[.int .i64 b.vars, .slice v.Ao v.no v.co, .slice v.Ae v.ne v.ce, .int .i64 b.nat, .slice v.Ap v.np v.cp], .slice A n c, .int .i64 fuel] w (BoolP (heavyB b n fuel) w) := by
 have hb0 := below_alloc w (.cells #[.int .i64 b.vars, .slice v.Ao v.no v.co, .slice v.Ae v.ne v.ce, .int .i64 b.nat, .slice v.Ap v.np v.cp] 26)
 have HSZ := hid (size_any (hb.below hb0) 4000 (by omega))
 have HB0 := hid hb0
 have hs0 := hb0.size
 have HR : Hid (heavyB b n fuel = (decide (4000 ≤ sizeB 4000 b) || decide (3000 < n) || decide (500 < fuel))) := hid rfl
 generalize heavyB b n fuel = res at *
 generalize sizeB 4000 b = sz at *
 clear hb hb0
 by_cases h1 : 4000 ≤ sz
 · have d1 : decide (sz ≥ 4000) = true := decide_eq_true h1
   have HZ : Hid (res = true) := hid (by rw [HR.out, decide_eq_true h1]; simp)
   go_in
   go_wp2_with fail
   refine (HSZ.out).mono ?_
   rintro e w2 ⟨rfl, hb2⟩
   go_wp2_with fail
   go_ret
   rw [HZ.out]
   exact ⟨rfl, HB0.out.trans (hb2.mono hs0)⟩
 have d1 : decide (sz ≥ 4000) = false := decide_eq_false h1
 by_cases h2 : 3000 < n
 · have d2 : decide ((n : Int) > 3000) = true := decide_eq_true (by omega)
   have d3 : decide (n > 3000) = true := decide_eq_true h2
   have d4 : decide (3000 < n) = true := decide_eq_true h2
   have HZ : Hid (res = true) := hid (by rw [HR.out, d4]; simp)
   go_in
   go_wp2_with fail
   refine (HSZ.out).mono ?_
   rintro e w2 ⟨rfl, hb2⟩
   go_wp2_with fail
   go_ret
   rw [HZ.out]
   exact ⟨rfl, HB0.out.trans (hb2.mono hs0)⟩
 have d2 : decide ((n : Int) > 3000) = false := decide_eq_false (by omega)
 have d3 : decide (n > 3000) = false := decide_eq_false h2
 have d4 : decide (3000 < n) = false := decide_eq_false h2
 have d5 : decide (4000 ≤ sz) = false := decide_eq_false h1
 have HZ : Hid (res = decide (500 < fuel)) := hid (by rw [HR.out, d4, d5]; simp)
 obtain ⟨fb, hfb⟩ : ∃ q, q = decide (500 < fuel) := ⟨_, rfl⟩
 have d6 : decide (fuel > 500) = fb := hfb.symm
 have d7 : decide (500 < fuel) = fb := hfb.symm
 rw [d7] at HZ
 clear hfb
 go_in
 go_wp2_with fail
 refine (HSZ.out).mono ?_
 rintro e w2 ⟨rfl, hb2⟩
 go_wp2_with fail
 go_ret
 rw [HZ.out]
 exact ⟨rfl, HB0.out.trans (hb2.mono hs0)⟩
end Go.Proofs.Ytjllmblbbgojbaa
