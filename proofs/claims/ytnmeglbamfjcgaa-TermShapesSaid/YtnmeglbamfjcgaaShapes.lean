/- TermShapes: the law, walked. -/
import Derived.Test.YtnmeglbamfjcgaaLifted
import Derived.Test.YtnmeglbamfjcgaaKids
import Derived.Test.YtnmeglbamfjcgaaRefKids
import Derived.Test.YtnmeglbamfjcgaaRefEnd
namespace Go.Proofs.Ytnmeglbamfjcgaa
open Go.RowKit

theorem RowsR.below {w w' : World} {A : Option Addr} {n c : Nat} {ls : List (List Nd)} (h : RowsR (· < w.heap.size) w A n c ls) (hb : Below w.heap.size w w') : RowsR (· < w'.heap.size) w' A n c ls :=
  h.keep fun b hb' => ⟨Nat.lt_of_lt_of_le hb' hb.size, fun o => hb.cell (p := ⟨b, o, none⟩) hb'⟩
theorem IntsR.below {w w' : World} {A : Option Addr} {n c : Nat} {zs : List Int} (h : IntsR (· < w.heap.size) w A n c zs) (hb : Below w.heap.size w w') : IntsR (· < w'.heap.size) w' A n c zs :=
  h.keep fun b hb' => ⟨Nat.lt_of_lt_of_le hb' hb.size, fun o => hb.cell (p := ⟨b, o, none⟩) hb'⟩

set_option linter.unusedSimpArgs false in
set_option maxRecDepth 100000 in
set_option maxHeartbeats 4000000 in
theorem shapes_law {A : Option Addr} {nn c : Nat} {t : List Nd} {w : World} (ht : TermV w A nn c t) (at_ : Int) :
    Calls Try.prog 9 #[.slice A nn c, .int .i64 at_] w (BoolPost true w) := by
  have hlong := fun w2 => long_one (A := A) (c := c) ht.few w2
  have HT := Lib.hid ht
  have HLONG := Lib.hid hlong
  clear ht hlong
  by_cases h1 : 9000 < nn
  · have h1b : decide (9000 < nn) = true := by simpa using h1
    clear h1
    go_enter Try.func9, Try.ntmps9
    go_wp2_with (first | (go_at_call 13; refine (awake_any).mono ?_; rintro e w2 ⟨rfl, hb2⟩) | (go_at_call 14; refine (HLONG.out w2).mono ?_; rintro e w3 ⟨rfl, rfl⟩))
    go_ret
    exact bp_true rfl (hb2.alloc hb2.size _)
  have h1b : decide (9000 < nn) = false := by simpa using h1
  clear h1
  have hss : (shapeI t == shapeI t) = true := beq_self_eq_true _
  have hee : (endI t at_ == endI t at_) = true := beq_self_eq_true _
  go_enter Try.func9, Try.ntmps9
  go_wp2_with (first | (go_at_call 13; refine (awake_any).mono ?_; rintro e w2 ⟨rfl, hb2⟩) | (go_at_call 14; refine (HLONG.out w2).mono ?_; rintro e w3 ⟨rfl, rfl⟩))
  have hb3 := hb2.alloc hb2.size (.cells #[.slice A nn c] 23)
  refine (shape_any (HT.out.below hb3)).mono ?_
  rintro e w4 ⟨rfl, hb4⟩
  have hb5 := hb3.trans (hb4.mono hb3.size)
  go_wp2_with fail
  refine (refShape_any (HT.out.below hb5)).mono ?_
  rintro e w5 ⟨rfl, hb6⟩
  have hb7 := hb5.trans (hb6.mono hb5.size)
  go_wp2_with fail
  refine (end_any (HT.out.below hb7) at_).mono ?_
  rintro e w6 ⟨rfl, hb8⟩
  have hb9 := hb7.trans (hb8.mono hb7.size)
  go_wp2_with fail
  refine (refEnd_any (HT.out.below hb9) at_).mono ?_
  rintro e w7 ⟨rfl, hb10⟩
  have hb11 := hb9.trans (hb10.mono hb9.size)
  go_wp2_with fail
  refine (kids4_any (HT.out.below hb11)).mono ?_
  rintro e w8 ⟨hb12, A1, n1, c1, rfl, hx⟩
  have hb13 := hb11.trans (hb12.mono hb11.size)
  clear hb12
  have HX := Lib.hid hx
  clear hx
  go_wp2_with fail
  refine (refKids_any (HT.out.below hb13)).mono ?_
  rintro e w9 ⟨hb14, A2, n2, c2, rfl, hy⟩
  have hb15 := hb13.trans (hb14.mono hb13.size)
  have hsame := sameRows_any w9 (fun b hb => hb) (fun b hb => hb) (HX.out.below hb14) hy
  rw [show decide (rowsL (topOf t).2 = rowsL (topOf t).2) = true from decide_eq_true rfl] at hsame
  have HSAME := Lib.hid hsame
  have HB15 := Lib.hid hb15
  clear hb14 hy hsame hb15 hb13 hb11 hb10 hb9 hb8 hb7 hb6 hb5 hb4 hb3 hb2
  go_wp2_with fail
  refine (HSAME.out).mono ?_
  rintro e w10 ⟨rfl, m, hw10⟩
  have hb16 : Below w.heap.size w w10 := by rw [hw10]; exact below_drewN HB15.out m
  have HB16 := Lib.hid hb16
  clear hw10 hb16
  dsimp only
  go_wp2_with fail
  refine (binders4_any (HT.out.below HB16.out)).mono ?_
  rintro e w11 ⟨hb17, A3, n3, c3, rfl, hx⟩
  have hb18 := HB16.out.trans (hb17.mono HB16.out.size)
  have HB18 := Lib.hid hb18
  have HX3 := Lib.hid hx
  clear hx hb17 hb18
  go_wp2_with fail
  refine (refBinders_any (HT.out.below HB18.out)).mono ?_
  rintro e w12 ⟨hb19, A4, n4, c4, rfl, hy⟩
  have hb20 := HB18.out.trans (hb19.mono HB18.out.size)
  have hsame := sameInts_any w12 (HX3.out.below hb19) hy
  rw [show decide (arL (topOf t).1.op (topOf t).1.b 0 (topOf t).2 = arL (topOf t).1.op (topOf t).1.b 0 (topOf t).2) = true from decide_eq_true rfl] at hsame
  have HSAME2 := Lib.hid hsame
  have HB20 := Lib.hid hb20
  clear hb19 hy hsame hb20
  go_wp2_with fail
  refine (HSAME2.out).mono ?_
  rintro e w13 ⟨rfl, m2, hw13⟩
  have hb21 : Below w.heap.size w w13 := by rw [hw13]; exact below_drewN HB20.out m2
  have HB21 := Lib.hid hb21
  clear hw13 hb21
  dsimp only
  go_wp2_with fail
  go_ret
  exact bp_true (by simp) HB21.out

end Go.Proofs.Ytnmeglbamfjcgaa
