/- NatRing: the law, walked. -/
import Derived.Test.YtgiepikoffaaiaaDoorNum
namespace Go.Proofs.YtgiepikoffaaiaaDoor
open Go.RowKit

set_option linter.unusedSimpArgs false in
set_option maxRecDepth 100000 in
set_option maxHeartbeats 4000000 in
theorem ring_law {A : Option Addr} {n1 c1 : Nat} {x1 : List Nat} {B : Option Addr} {n2 c2 : Nat} {x2 : List Nat} {C : Option Addr} {n3 c3 : Nat} {x3 : List Nat} {w : World} (ha : NatV w A n1 c1 x1) (hb : NatV w B n2 c2 x2) (hc : NatV w C n3 c3 x3) (ht : Tab w) :
    Calls Tryd.prog 6 #[.slice A n1 c1, .slice B n2 c2, .slice C n3 c3] w (BoolPost true w) := by
  obtain ⟨big, hbig⟩ : ∃ big : Bool, big = (decide (80 < n1) || (decide (80 < n2) || decide (80 < n3))) := ⟨_, rfl⟩
  have hlong := fun (w2 : World) => long_three (Blk.new w2 23 #[.slice A n1 c1, .slice B n2 c2, .slice C n3 c3]) hbig
  have HLONG := Lib.hid hlong
  have HAW := Lib.hid (awake_any ht)
  have HT := Lib.hid ht
  clear hlong ht
  cases big with
  | true =>
    clear hbig
    go_enter Tryd.func6, Tryd.ntmps6
    go_wp2_with fail
    refine (HAW.out).mono ?_
    rintro e wa ⟨rfl, hb2⟩
    go_wp2_with fail
    refine (HLONG.out wa).mono ?_
    rintro e w3 ⟨rfl, rfl⟩
    go_wp2_with fail
    go_ret
    exact bp_true rfl (hb2.alloc hb2.size _)
  | false =>
    have hle : n1 ≤ 80 ∧ n2 ≤ 80 ∧ n3 ≤ 80 := by simp at hbig; omega
    clear hbig
    have HA : RowKit.Hid (Arg w A n1 c1 (val x1) 80) := Lib.hid ⟨_, ha, rfl, by omega⟩
    generalize val x1 = a at HA
    have HB : RowKit.Hid (Arg w B n2 c2 (val x2) 80) := Lib.hid ⟨_, hb, rfl, by omega⟩
    generalize val x2 = b at HB
    have HC : RowKit.Hid (Arg w C n3 c3 (val x3) 80) := Lib.hid ⟨_, hc, rfl, by omega⟩
    generalize val x3 = c at HC
    clear hle ha hb hc
    go_enter Tryd.func6, Tryd.ntmps6
    go_wp2_with fail
    refine (HAW.out).mono ?_
    rintro e wa ⟨rfl, hb2⟩
    go_wp2_with fail
    refine (HLONG.out wa).mono ?_
    rintro e w3 ⟨rfl, rfl⟩
    have HB0 := Lib.hid (hb2.alloc hb2.size (.cells #[.slice A n1 c1, .slice B n2 c2, .slice C n3 c3] 23))
    clear hb2
    go_wp2_with fail
    refine (add_num (HA.out.below HB0.out) (HB.out.below HB0.out) (by omega) (by omega) rfl).mono ?_
    rintro e w1 ⟨hb, gr1, Lr1, rfl, _, hr⟩
    have HB1 := Lib.hid (HB0.out.trans (hb.mono HB0.out.size))
    have Rr1_1 := Lib.hid hr
    clear hb hr
    go_wp2_with fail
    refine (add_num (HB.out.below HB1.out) (HA.out.below HB1.out) (by omega) (by omega) rfl).mono ?_
    rintro e w2 ⟨hb, gr2, Lr2, rfl, _, hr⟩
    have HB2 := Lib.hid (HB1.out.trans (hb.mono HB1.out.size))
    have Rr1_2 := Lib.hid (Rr1_1.out.below hb)
    have Rr2_2 := Lib.hid hr
    clear hb hr
    go_wp2_with fail
    refine (same_num Rr1_2.out Rr2_2.out (by omega) (by omega) (by omega)).mono ?_
    rintro e w3 ⟨rfl, hb⟩
    have HB3 := Lib.hid (HB2.out.trans (hb.mono HB2.out.size))
    clear hb
    go_wp2_with fail
    refine (mul_num (HA.out.below HB3.out) (HB.out.below HB3.out) (by omega) (by omega) rfl).mono ?_
    rintro e w4 ⟨hb, gr3, Lr3, rfl, _, hr⟩
    have HB4 := Lib.hid (HB3.out.trans (hb.mono HB3.out.size))
    have Rr3_4 := Lib.hid hr
    clear hb hr
    go_wp2_with fail
    refine (mul_num (HB.out.below HB4.out) (HA.out.below HB4.out) (by omega) (by omega) rfl).mono ?_
    rintro e w5 ⟨hb, gr4, Lr4, rfl, _, hr⟩
    have HB5 := Lib.hid (HB4.out.trans (hb.mono HB4.out.size))
    have Rr3_5 := Lib.hid (Rr3_4.out.below hb)
    have Rr4_5 := Lib.hid hr
    clear hb hr
    go_wp2_with fail
    refine (same_num Rr3_5.out Rr4_5.out (by omega) (by omega) (Nat.mul_comm _ _)).mono ?_
    rintro e w6 ⟨rfl, hb⟩
    have HB6 := Lib.hid (HB5.out.trans (hb.mono HB5.out.size))
    clear hb
    go_wp2_with fail
    refine (add_num (HA.out.below HB6.out) (HB.out.below HB6.out) (by omega) (by omega) rfl).mono ?_
    rintro e w7 ⟨hb, gr5, Lr5, rfl, _, hr⟩
    have HB7 := Lib.hid (HB6.out.trans (hb.mono HB6.out.size))
    have Rr5_7 := Lib.hid hr
    clear hb hr
    go_wp2_with fail
    refine (add_num (Rr5_7.out.arg (by omega)) (HC.out.below HB7.out) (by omega) (by omega) rfl).mono ?_
    rintro e w8 ⟨hb, gr6, Lr6, rfl, _, hr⟩
    have HB8 := Lib.hid (HB7.out.trans (hb.mono HB7.out.size))
    have Rr6_8 := Lib.hid hr
    clear hb hr
    go_wp2_with fail
    refine (add_num (HB.out.below HB8.out) (HC.out.below HB8.out) (by omega) (by omega) rfl).mono ?_
    rintro e w9 ⟨hb, gr7, Lr7, rfl, _, hr⟩
    have HB9 := Lib.hid (HB8.out.trans (hb.mono HB8.out.size))
    have Rr6_9 := Lib.hid (Rr6_8.out.below hb)
    have Rr7_9 := Lib.hid hr
    clear hb hr
    go_wp2_with fail
    refine (add_num (HA.out.below HB9.out) (Rr7_9.out.arg (by omega)) (by omega) (by omega) rfl).mono ?_
    rintro e w10 ⟨hb, gr8, Lr8, rfl, _, hr⟩
    have HB10 := Lib.hid (HB9.out.trans (hb.mono HB9.out.size))
    have Rr6_10 := Lib.hid (Rr6_9.out.below hb)
    have Rr8_10 := Lib.hid hr
    clear hb hr
    go_wp2_with fail
    refine (same_num Rr6_10.out Rr8_10.out (by omega) (by omega) (by omega)).mono ?_
    rintro e w11 ⟨rfl, hb⟩
    have HB11 := Lib.hid (HB10.out.trans (hb.mono HB10.out.size))
    clear hb
    go_wp2_with fail
    refine (mul_num (HA.out.below HB11.out) (HB.out.below HB11.out) (by omega) (by omega) rfl).mono ?_
    rintro e w12 ⟨hb, gr9, Lr9, rfl, _, hr⟩
    have HB12 := Lib.hid (HB11.out.trans (hb.mono HB11.out.size))
    have Rr9_12 := Lib.hid hr
    clear hb hr
    go_wp2_with fail
    refine (mul_num (Rr9_12.out.arg (by omega)) (HC.out.below HB12.out) (by omega) (by omega) rfl).mono ?_
    rintro e w13 ⟨hb, gr10, Lr10, rfl, _, hr⟩
    have HB13 := Lib.hid (HB12.out.trans (hb.mono HB12.out.size))
    have Rr10_13 := Lib.hid hr
    clear hb hr
    go_wp2_with fail
    refine (mul_num (HB.out.below HB13.out) (HC.out.below HB13.out) (by omega) (by omega) rfl).mono ?_
    rintro e w14 ⟨hb, gr11, Lr11, rfl, _, hr⟩
    have HB14 := Lib.hid (HB13.out.trans (hb.mono HB13.out.size))
    have Rr10_14 := Lib.hid (Rr10_13.out.below hb)
    have Rr11_14 := Lib.hid hr
    clear hb hr
    go_wp2_with fail
    refine (mul_num (HA.out.below HB14.out) (Rr11_14.out.arg (by omega)) (by omega) (by omega) rfl).mono ?_
    rintro e w15 ⟨hb, gr12, Lr12, rfl, _, hr⟩
    have HB15 := Lib.hid (HB14.out.trans (hb.mono HB14.out.size))
    have Rr10_15 := Lib.hid (Rr10_14.out.below hb)
    have Rr12_15 := Lib.hid hr
    clear hb hr
    go_wp2_with fail
    refine (same_num Rr10_15.out Rr12_15.out (by omega) (by omega) (Nat.mul_assoc _ _ _)).mono ?_
    rintro e w16 ⟨rfl, hb⟩
    have HB16 := Lib.hid (HB15.out.trans (hb.mono HB15.out.size))
    clear hb
    go_wp2_with fail
    refine (add_num (HB.out.below HB16.out) (HC.out.below HB16.out) (by omega) (by omega) rfl).mono ?_
    rintro e w17 ⟨hb, gr13, Lr13, rfl, _, hr⟩
    have HB17 := Lib.hid (HB16.out.trans (hb.mono HB16.out.size))
    have Rr13_17 := Lib.hid hr
    clear hb hr
    go_wp2_with fail
    refine (mul_num (HA.out.below HB17.out) (Rr13_17.out.arg (by omega)) (by omega) (by omega) rfl).mono ?_
    rintro e w18 ⟨hb, gr14, Lr14, rfl, _, hr⟩
    have HB18 := Lib.hid (HB17.out.trans (hb.mono HB17.out.size))
    have Rr14_18 := Lib.hid hr
    clear hb hr
    go_wp2_with fail
    refine (mul_num (HA.out.below HB18.out) (HB.out.below HB18.out) (by omega) (by omega) rfl).mono ?_
    rintro e w19 ⟨hb, gr15, Lr15, rfl, _, hr⟩
    have HB19 := Lib.hid (HB18.out.trans (hb.mono HB18.out.size))
    have Rr14_19 := Lib.hid (Rr14_18.out.below hb)
    have Rr15_19 := Lib.hid hr
    clear hb hr
    go_wp2_with fail
    refine (mul_num (HA.out.below HB19.out) (HC.out.below HB19.out) (by omega) (by omega) rfl).mono ?_
    rintro e w20 ⟨hb, gr16, Lr16, rfl, _, hr⟩
    have HB20 := Lib.hid (HB19.out.trans (hb.mono HB19.out.size))
    have Rr14_20 := Lib.hid (Rr14_19.out.below hb)
    have Rr15_20 := Lib.hid (Rr15_19.out.below hb)
    have Rr16_20 := Lib.hid hr
    clear hb hr
    go_wp2_with fail
    refine (add_num (Rr15_20.out.arg (by omega)) (Rr16_20.out.arg (by omega)) (by omega) (by omega) rfl).mono ?_
    rintro e w21 ⟨hb, gr17, Lr17, rfl, _, hr⟩
    have HB21 := Lib.hid (HB20.out.trans (hb.mono HB20.out.size))
    have Rr14_21 := Lib.hid (Rr14_20.out.below hb)
    have Rr17_21 := Lib.hid hr
    clear hb hr
    go_wp2_with fail
    refine (same_num Rr14_21.out Rr17_21.out (by omega) (by omega) (Nat.mul_add _ _ _)).mono ?_
    rintro e w22 ⟨rfl, hb⟩
    have HB22 := Lib.hid (HB21.out.trans (hb.mono HB21.out.size))
    clear hb
    go_wp2_with fail
    refine (add_num (HA.out.below HB22.out) (Arg.nil _) (by omega) (by omega) rfl).mono ?_
    rintro e w23 ⟨hb, gr18, Lr18, rfl, _, hr⟩
    have HB23 := Lib.hid (HB22.out.trans (hb.mono HB22.out.size))
    have Rr18_23 := Lib.hid hr
    clear hb hr
    go_wp2_with fail
    refine (norm_num' (HA.out.below HB23.out)).mono ?_
    rintro e w24 ⟨hb, gr19, Lr19, rfl, _, hr⟩
    have HB24 := Lib.hid (HB23.out.trans (hb.mono HB23.out.size))
    have Rr18_24 := Lib.hid (Rr18_23.out.below hb)
    have Rr19_24 := Lib.hid hr
    clear hb hr
    go_wp2_with fail
    refine (same_num Rr18_24.out Rr19_24.out (by omega) (by omega) (by omega)).mono ?_
    rintro e w25 ⟨rfl, hb⟩
    have HB25 := Lib.hid (HB24.out.trans (hb.mono HB24.out.size))
    clear hb
    have HB26 := Lib.hid (HB25.out.alloc HB25.out.size (.cells #[.int .u32 1] 34))
    have Rl1_26 := Lib.hid (lit_one w25)
    go_wp2_with fail
    refine (mul_num (HA.out.below HB26.out) (Rl1_26.out.arg (by omega)) (by omega) (by omega) rfl).mono ?_
    rintro e w27 ⟨hb, gr20, Lr20, rfl, _, hr⟩
    have HB27 := Lib.hid (HB26.out.trans (hb.mono HB26.out.size))
    have Rr20_27 := Lib.hid hr
    clear hb hr
    go_wp2_with fail
    refine (norm_num' (HA.out.below HB27.out)).mono ?_
    rintro e w28 ⟨hb, gr21, Lr21, rfl, _, hr⟩
    have HB28 := Lib.hid (HB27.out.trans (hb.mono HB27.out.size))
    have Rr20_28 := Lib.hid (Rr20_27.out.below hb)
    have Rr21_28 := Lib.hid hr
    clear hb hr
    go_wp2_with fail
    refine (same_num Rr20_28.out Rr21_28.out (by omega) (by omega) (by omega)).mono ?_
    rintro e w29 ⟨rfl, hb⟩
    have HB29 := Lib.hid (HB28.out.trans (hb.mono HB28.out.size))
    clear hb
    go_wp2_with fail
    refine (mul_num (HA.out.below HB29.out) (Arg.nil _) (by omega) (by omega) rfl).mono ?_
    rintro e w30 ⟨hb, gr22, Lr22, rfl, _, hr⟩
    have HB30 := Lib.hid (HB29.out.trans (hb.mono HB29.out.size))
    have Rr22_30 := Lib.hid hr
    clear hb hr
    obtain rfl : Lr22 = 0 := by have := Rr22_30.out.len; rw [Nat.mul_zero, wds_zero] at this; exact this.symm
    go_wp2_with fail
    go_ret
    exact bp_true rfl HB30.out

end Go.Proofs.YtgiepikoffaaiaaDoor
