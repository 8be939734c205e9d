/- NatProducts: the law, walked. -/
import Derived.Test.YtgiepikoffaaiaaDoorDivNum
import Derived.Test.YtgiepikoffaaiaaDoorRefDiv
namespace Go.Proofs.YtgiepikoffaaiaaDoor
open Go.RowKit

theorem same_ref2 {A : Option Addr} {n c x y i g L : Nat} {w : World} (hx : Num w g L x i) (hy : NatV w A n c (wds y)) (hi : i ≤ 100000) (he : x = y) : Calls Tryd.prog 16 #[.slice (some ⟨g, 0, none⟩) L L, .slice A n c] w (BoolPost true w) := by
  subst he
  refine (same_any w (hx.natV (by omega)) hy).mono ?_
  rintro e w' ⟨rfl, m, rfl⟩
  exact ⟨by simp, below_drewN (Below.refl _ _) m⟩
theorem same_nil (w : World) : Calls Tryd.prog 16 #[.slice none 0 0, .slice none 0 0] w (BoolPost true w) := by
  refine (same_any w (show NatV w none 0 0 [] from NatR.nil w) (show NatV w none 0 0 [] from NatR.nil w)).mono ?_
  rintro e w' ⟨rfl, m, rfl⟩
  exact ⟨by simp, below_drewN (Below.refl _ _) m⟩

set_option linter.unusedSimpArgs false in
set_option maxRecDepth 100000 in
set_option maxHeartbeats 4000000 in
theorem products_law {A : Option Addr} {n1 c1 : Nat} {x1 : List Nat} {B : Option Addr} {n2 c2 : Nat} {x2 : List Nat} {w : World} (ha : NatV w A n1 c1 x1) (hb : NatV w B n2 c2 x2) (ht : Tab w) :
    Calls Tryd.prog 3 #[.slice A n1 c1, .slice B n2 c2] w (BoolPost true w) := by
  obtain ⟨big, hbig⟩ : ∃ big : Bool, big = (decide (80 < n1) || decide (80 < n2)) := ⟨_, rfl⟩
  have hlong := fun (w2 : World) => long_two (Blk.new w2 23 #[.slice A n1 c1, .slice B n2 c2]) hbig
  have HLONG := Lib.hid hlong
  have HAW := Lib.hid (awake_any ht)
  have HT := Lib.hid ht
  clear hlong ht
  cases big with
  | true =>
    clear hbig
    go_enter Tryd.func3, Tryd.ntmps3
    go_wp2_with fail
    refine (HAW.out).mono ?_
    rintro e wa ⟨rfl, hb2⟩
    go_wp2_with fail
    refine (HLONG.out wa).mono ?_
    rintro e w3 ⟨rfl, rfl⟩
    go_wp2_with fail
    go_ret
    exact bp_true rfl (hb2.alloc hb2.size _)
  | false =>
    have hle : n1 ≤ 80 ∧ n2 ≤ 80 := by simp at hbig; omega
    clear hbig
    have HA : RowKit.Hid (Arg w A n1 c1 (val x1) 80) := Lib.hid ⟨_, ha, rfl, by omega⟩
    generalize val x1 = a at HA
    have HB : RowKit.Hid (Arg w B n2 c2 (val x2) 80) := Lib.hid ⟨_, hb, rfl, by omega⟩
    generalize val x2 = b at HB
    clear hle ha hb
    rcases (show b = 0 ∨ 0 < b from by omega) with rfl | hpos
    · skip
      go_enter Tryd.func3, Tryd.ntmps3
      go_wp2_with fail
      refine (HAW.out).mono ?_
      rintro e wa ⟨rfl, hb2⟩
      go_wp2_with fail
      refine (HLONG.out wa).mono ?_
      rintro e w3 ⟨rfl, rfl⟩
      have HB0 := Lib.hid (hb2.alloc hb2.size (.cells #[.slice A n1 c1, .slice B n2 c2] 23))
      clear hb2
      go_wp2_with fail
      refine (divmod_zero_num (HA.out.below HB0.out) (HB.out.below HB0.out) rfl).mono ?_
      rintro e w1 ⟨rfl, hb⟩
      have HB1 := Lib.hid (HB0.out.trans (hb.mono HB0.out.size))
      clear hb
      go_wp2_with fail
      refine (refDiv_zero (HA.out.below HB1.out) (HB.out.below HB1.out) (by omega) (by omega) rfl).mono ?_
      rintro e w2 ⟨rfl, hb⟩
      have HB2 := Lib.hid (HB1.out.trans (hb.mono HB1.out.size))
      clear hb
      go_wp2_with fail
      refine (same_nil _).mono ?_
      rintro e w3 ⟨rfl, hb⟩
      have HB3 := Lib.hid (HB2.out.trans (hb.mono HB2.out.size))
      clear hb
      go_wp2_with fail
      refine (same_nil _).mono ?_
      rintro e w4 ⟨rfl, hb⟩
      have HB4 := Lib.hid (HB3.out.trans (hb.mono HB3.out.size))
      clear hb
      go_wp2_with fail
      refine (mul_num (HA.out.below HB4.out) (HB.out.below HB4.out) (by omega) (by omega) rfl).mono ?_
      rintro e w5 ⟨hb, gm, Lm, rfl, _, hr⟩
      have HB5 := Lib.hid (HB4.out.trans (hb.mono HB4.out.size))
      have Rm_5 := Lib.hid hr
      clear hb hr
      go_wp2_with fail
      refine (refMul_num (HA.out.below HB5.out) (HB.out.below HB5.out) (by omega) (by omega)).mono ?_
      rintro e w6 ⟨hb, At, nt, ct, rfl, ht⟩
      have HB6 := Lib.hid (HB5.out.trans (hb.mono HB5.out.size))
      have Rm_6 := Lib.hid (Rm_5.out.below hb)
      have Qt_6 := Lib.hid ht
      clear hb ht
      go_wp2_with fail
      refine (same_ref2 Rm_6.out Qt_6.out (by omega) rfl).mono ?_
      rintro e w7 ⟨rfl, hb⟩
      have HB7 := Lib.hid (HB6.out.trans (hb.mono HB6.out.size))
      clear hb
      go_wp2_with fail
      go_ret
      exact bp_true rfl HB7.out
    · have HPOS := Lib.hid hpos
      clear hpos
      go_enter Tryd.func3, Tryd.ntmps3
      go_wp2_with fail
      refine (HAW.out).mono ?_
      rintro e wa ⟨rfl, hb2⟩
      go_wp2_with fail
      refine (HLONG.out wa).mono ?_
      rintro e w3 ⟨rfl, rfl⟩
      have HB0 := Lib.hid (hb2.alloc hb2.size (.cells #[.slice A n1 c1, .slice B n2 c2] 23))
      clear hb2
      go_wp2_with fail
      refine (divmod_num (HA.out.below HB0.out) (HB.out.below HB0.out) (by omega) (by omega) HPOS.out).mono ?_
      rintro e w1 ⟨hb, gq, Lq, gr, Lr, rfl, _, _, _, hq, hr⟩
      have HB1 := Lib.hid (HB0.out.trans (hb.mono HB0.out.size))
      have Rq_1 := Lib.hid hq
      have Rr_1 := Lib.hid hr
      clear hb hq hr
      go_wp2_with fail
      refine (refDiv_num (HA.out.below HB1.out) (HB.out.below HB1.out) (by omega) (by omega) HPOS.out).mono ?_
      rintro e w2 ⟨hb, Ap, np, cp, As, ns, cs, rfl, hp, hs⟩
      have HB2 := Lib.hid (HB1.out.trans (hb.mono HB1.out.size))
      have Rq_2 := Lib.hid (Rq_1.out.below hb)
      have Rr_2 := Lib.hid (Rr_1.out.below hb)
      have Qp_2 := Lib.hid hp
      have Qs_2 := Lib.hid hs
      clear hb hp hs
      go_wp2_with fail
      refine (same_ref2 Rq_2.out Qp_2.out (by omega) rfl).mono ?_
      rintro e w3 ⟨rfl, hb⟩
      have HB3 := Lib.hid (HB2.out.trans (hb.mono HB2.out.size))
      have Rr_3 := Lib.hid (Rr_2.out.below hb)
      have Qs_3 := Lib.hid (Qs_2.out.below hb)
      clear hb
      go_wp2_with fail
      refine (same_ref2 Rr_3.out Qs_3.out (by omega) rfl).mono ?_
      rintro e w4 ⟨rfl, hb⟩
      have HB4 := Lib.hid (HB3.out.trans (hb.mono HB3.out.size))
      clear hb
      go_wp2_with fail
      refine (mul_num (HA.out.below HB4.out) (HB.out.below HB4.out) (by omega) (by omega) rfl).mono ?_
      rintro e w5 ⟨hb, gm, Lm, rfl, _, hr⟩
      have HB5 := Lib.hid (HB4.out.trans (hb.mono HB4.out.size))
      have Rm_5 := Lib.hid hr
      clear hb hr
      go_wp2_with fail
      refine (refMul_num (HA.out.below HB5.out) (HB.out.below HB5.out) (by omega) (by omega)).mono ?_
      rintro e w6 ⟨hb, At, nt, ct, rfl, ht⟩
      have HB6 := Lib.hid (HB5.out.trans (hb.mono HB5.out.size))
      have Rm_6 := Lib.hid (Rm_5.out.below hb)
      have Qt_6 := Lib.hid ht
      clear hb ht
      go_wp2_with fail
      refine (same_ref2 Rm_6.out Qt_6.out (by omega) rfl).mono ?_
      rintro e w7 ⟨rfl, hb⟩
      have HB7 := Lib.hid (HB6.out.trans (hb.mono HB6.out.size))
      clear hb
      go_wp2_with fail
      go_ret
      exact bp_true rfl HB7.out

end Go.Proofs.YtgiepikoffaaiaaDoor
