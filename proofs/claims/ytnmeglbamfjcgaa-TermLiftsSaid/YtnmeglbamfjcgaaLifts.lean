/- TermLifts: the law, walked. -/
import Derived.Test.YtnmeglbamfjcgaaLifted
import Derived.Test.YtnmeglbamfjcgaaRefFree
import Derived.Test.YtnmeglbamfjcgaaRefBelow
import Derived.Test.YtnmeglbamfjcgaaRefLift
namespace Go.Proofs.Ytnmeglbamfjcgaa
open Go.RowKit

set_option linter.unusedSimpArgs false in
set_option maxRecDepth 100000 in
set_option maxHeartbeats 4000000 in
theorem lifts_law {A : Option Addr} {nn c : Nat} {t : List Nd} {w : World} (ht : TermV w A nn c t) (up fr : Int) (hup : up ≤ 9223372036854775807) :
    Calls Try.prog 7 #[.slice A nn c, .int .i64 up, .int .i64 fr] w (BoolPost true w) := by
  have hlong := fun w2 => long_one (A := A) (c := c) ht.few w2
  have HT := Lib.hid ht
  have HLONG := Lib.hid hlong
  clear ht hlong
  by_cases h1 : 9000 < nn
  · have h1b : decide (9000 < nn) = true := by simpa using h1
    clear h1
    go_enter Try.func7, Try.ntmps7
    go_wp2_with (first | (go_at_call 13; refine (awake_any).mono ?_; rintro e w2 ⟨rfl, hb2⟩) | (go_at_call 14; refine (HLONG.out w2).mono ?_; rintro e w3 ⟨rfl, rfl⟩))
    go_ret
    exact bp_true rfl (hb2.alloc hb2.size _)
  have h1b : decide (9000 < nn) = false := by simpa using h1
  clear h1
  have hfb : (freeB t fr == freeB t fr) = true := beq_self_eq_true _
  have hbb : (belowB t fr == belowB t fr) = true := beq_self_eq_true _
  have hee : ((liftR t up fr).2 == (liftR t up fr).2) = true := beq_self_eq_true _
  go_enter Try.func7, Try.ntmps7
  go_wp2_with (first | (go_at_call 13; refine (awake_any).mono ?_; rintro e w2 ⟨rfl, hb2⟩) | (go_at_call 14; refine (HLONG.out w2).mono ?_; rintro e w3 ⟨rfl, rfl⟩))
  have hb3 := hb2.alloc hb2.size (.cells #[.slice A nn c] 23)
  refine (lift_any (HT.out.below hb3) up fr hup).mono ?_
  rintro e w4 ⟨hb4, A1, n1, c1, rfl, hown1⟩
  have hb5 := hb3.trans (hb4.mono hb3.size)
  go_wp2_with fail
  refine (refLift_any (HT.out.below hb5) up fr).mono ?_
  rintro e w5 ⟨hb6, A2, n2, c2, rfl, ty⟩
  have hb7 := hb5.trans (hb6.mono hb5.size)
  have tx := (OwnN.termV hown1 (by have := ty.len; have := ty.few; omega)).below hb6
  go_wp2_with fail
  refine (same_any w5 tx ty).mono ?_
  rintro e w6 ⟨rfl, m, hw6⟩
  rw [show decide ((liftR t up fr).1 = (liftR t up fr).1) = true from decide_eq_true rfl]
  have hb8 : Below w.heap.size w w6 := by rw [hw6]; exact below_drewN hb7 m
  clear hw6 tx ty hb6
  dsimp only
  go_wp2_with fail
  refine (free_any (HT.out.below hb8) fr).mono ?_
  rintro e w7 ⟨rfl, hb9⟩
  have hb10 := hb8.trans (hb9.mono hb8.size)
  go_wp2_with fail
  refine (refFree_any (HT.out.below hb10) fr).mono ?_
  rintro e w8 ⟨rfl, hb11⟩
  have hb12 := hb10.trans (hb11.mono hb10.size)
  go_wp2_with fail
  refine (below_any (HT.out.below hb12) fr).mono ?_
  rintro e w9 ⟨rfl, hb13⟩
  have hb14 := hb12.trans (hb13.mono hb12.size)
  go_wp2_with fail
  refine (refBelow_any (HT.out.below hb14) fr).mono ?_
  rintro e w10 ⟨rfl, hb15⟩
  have hb16 := hb14.trans (hb15.mono hb14.size)
  go_wp2_with fail
  go_ret
  exact bp_true (by simp) hb16

end Go.Proofs.Ytnmeglbamfjcgaa
