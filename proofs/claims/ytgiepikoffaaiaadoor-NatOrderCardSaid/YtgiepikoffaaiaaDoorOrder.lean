/- NatOrder: the law, walked. -/
import Derived.Test.YtgiepikoffaaiaaDoorNum
namespace Go.Proofs.YtgiepikoffaaiaaDoor
open Go.RowKit

set_option linter.unusedSimpArgs false in
set_option maxRecDepth 100000 in
set_option maxHeartbeats 4000000 in
theorem order_law {A : Option Addr} {n1 c1 : Nat} {x1 : List Nat} {B : Option Addr} {n2 c2 : Nat} {x2 : List Nat} {C : Option Addr} {n3 c3 : Nat} {x3 : List Nat} {w : World} (ha : NatV w A n1 c1 x1) (hb : NatV w B n2 c2 x2) (hc : NatV w C n3 c3 x3) (ht : Tab w) :
    Calls Tryd.prog 5 #[.slice A n1 c1, .slice B n2 c2, .slice C n3 c3] w (BoolPost true w) := by
  obtain ⟨big, hbig⟩ : ∃ big : Bool, big = (decide (80 < n1) || (decide (80 < n2) || decide (80 < n3))) := ⟨_, rfl⟩
  have hlong := fun (w2 : World) => long_three (Blk.new w2 23 #[.slice A n1 c1, .slice B n2 c2, .slice C n3 c3]) hbig
  have HLONG := Lib.hid hlong
  have HAW := Lib.hid (awake_any ht)
  have HT := Lib.hid ht
  clear hlong ht
  cases big with
  | true =>
    clear hbig
    go_enter Tryd.func5, Tryd.ntmps5
    go_wp2_with fail
    refine (HAW.out).mono ?_
    rintro e wa ⟨rfl, hb2⟩
    go_wp2_with fail
    refine (HLONG.out wa).mono ?_
    rintro e w3 ⟨rfl, rfl⟩
    go_wp2_with fail
    go_ret
    exact bp_true rfl (hb2.alloc hb2.size _)
  | false =>
    have hle : n1 ≤ 80 ∧ n2 ≤ 80 ∧ n3 ≤ 80 := by simp at hbig; omega
    clear hbig
    have HA : RowKit.Hid (Arg w A n1 c1 (val x1) 80) := Lib.hid ⟨_, ha, rfl, by omega⟩
    generalize val x1 = a at HA
    have HB : RowKit.Hid (Arg w B n2 c2 (val x2) 80) := Lib.hid ⟨_, hb, rfl, by omega⟩
    generalize val x2 = b at HB
    have HC : RowKit.Hid (Arg w C n3 c3 (val x3) 80) := Lib.hid ⟨_, hc, rfl, by omega⟩
    generalize val x3 = c at HC
    clear hle ha hb hc
    rcases order_ways a b c with ⟨hab, hbc⟩ | ⟨hab, hbc⟩ | ⟨hab, hbc⟩ | ⟨hab, hbc⟩ | ⟨hab, hbc⟩ | ⟨hab, hbc⟩ | hab
    · have HAB := Lib.hid hab; have HBC := Lib.hid hbc
      clear hab hbc
      go_enter Tryd.func5, Tryd.ntmps5
      go_wp2_with fail
      refine (HAW.out).mono ?_
      rintro e wa ⟨rfl, hb2⟩
      go_wp2_with fail
      refine (HLONG.out wa).mono ?_
      rintro e w3 ⟨rfl, rfl⟩
      have HB0 := Lib.hid (hb2.alloc hb2.size (.cells #[.slice A n1 c1, .slice B n2 c2, .slice C n3 c3] 23))
      clear hb2
      go_wp2_with fail
      refine (compare_lit (HA.out.below HB0.out) (HB.out.below HB0.out) (v := -1) (cmp_l (by have := HAB.out; omega))).mono ?_
      rintro e w1 ⟨rfl, hb⟩
      have HB1 := Lib.hid (HB0.out.trans (hb.mono HB0.out.size))
      clear hb
      go_wp2_with fail
      refine (compare_lit (HB.out.below HB1.out) (HA.out.below HB1.out) (v := 1) (cmp_g (by have := HAB.out; omega))).mono ?_
      rintro e w2 ⟨rfl, hb⟩
      have HB2 := Lib.hid (HB1.out.trans (hb.mono HB1.out.size))
      clear hb
      go_wp2_with fail
      refine (norm_num' (HA.out.below HB2.out)).mono ?_
      rintro e w3 ⟨hb, gr1, Lr1, rfl, _, hr⟩
      have HB3 := Lib.hid (HB2.out.trans (hb.mono HB2.out.size))
      have Rr1_3 := Lib.hid hr
      clear hb hr
      go_wp2_with fail
      refine (norm_num' (HB.out.below HB3.out)).mono ?_
      rintro e w4 ⟨hb, gr2, Lr2, rfl, _, hr⟩
      have HB4 := Lib.hid (HB3.out.trans (hb.mono HB3.out.size))
      have Rr1_4 := Lib.hid (Rr1_3.out.below hb)
      have Rr2_4 := Lib.hid hr
      clear hb hr
      go_wp2_with fail
      refine (sameB_lit Rr1_4.out Rr2_4.out (by omega) (by omega) (v := false) (by have := HAB.out; simp; omega)).mono ?_
      rintro e w5 ⟨rfl, hb⟩
      have HB5 := Lib.hid (HB4.out.trans (hb.mono HB4.out.size))
      clear hb
      go_wp2_with fail
      refine (add_num (HA.out.below HB5.out) (HC.out.below HB5.out) (by omega) (by omega) rfl).mono ?_
      rintro e w6 ⟨hb, gr3, Lr3, rfl, _, hr⟩
      have HB6 := Lib.hid (HB5.out.trans (hb.mono HB5.out.size))
      have Rr3_6 := Lib.hid hr
      clear hb hr
      go_wp2_with fail
      refine (add_num (HB.out.below HB6.out) (HC.out.below HB6.out) (by omega) (by omega) rfl).mono ?_
      rintro e w7 ⟨hb, gr4, Lr4, rfl, _, hr⟩
      have HB7 := Lib.hid (HB6.out.trans (hb.mono HB6.out.size))
      have Rr3_7 := Lib.hid (Rr3_6.out.below hb)
      have Rr4_7 := Lib.hid hr
      clear hb hr
      go_wp2_with fail
      refine (compare_lit (Rr3_7.out.arg (by omega)) (Rr4_7.out.arg (by omega)) (v := -1) (cmp_l (by have := HAB.out; omega))).mono ?_
      rintro e w8 ⟨rfl, hb⟩
      have HB8 := Lib.hid (HB7.out.trans (hb.mono HB7.out.size))
      have Rr3_8 := Lib.hid (Rr3_7.out.below hb)
      have Rr4_8 := Lib.hid (Rr4_7.out.below hb)
      clear hb
      go_wp2_with fail
      refine (compare_lit (HB.out.below HB8.out) (HC.out.below HB8.out) (v := -1) (cmp_l (by have := HBC.out; omega))).mono ?_
      rintro e w9 ⟨rfl, hb⟩
      have HB9 := Lib.hid (HB8.out.trans (hb.mono HB8.out.size))
      clear hb
      go_wp2_with fail
      refine (compare_lit (HA.out.below HB9.out) (HC.out.below HB9.out) (v := -1) (cmp_l (by have := HAB.out; have := HBC.out; omega))).mono ?_
      rintro e w10 ⟨rfl, hb⟩
      have HB10 := Lib.hid (HB9.out.trans (hb.mono HB9.out.size))
      clear hb
      go_wp2_with fail
      refine (monus_num (HA.out.below HB10.out) (HB.out.below HB10.out) (by omega)).mono ?_
      rintro e w11 ⟨hb, gr5, Lr5, rfl, _, hr⟩
      have HB11 := Lib.hid (HB10.out.trans (hb.mono HB10.out.size))
      have Rr5_11 := Lib.hid hr
      clear hb hr
      obtain rfl : Lr5 = 0 := by have := Rr5_11.out.len; rw [show a - b = 0 from by have := HAB.out; omega, wds_zero] at this; exact this.symm
      go_wp2_with fail
      go_ret
      exact bp_true rfl HB11.out
    · have HAB := Lib.hid hab; have HBC := Lib.hid hbc
      clear hab hbc
      go_enter Tryd.func5, Tryd.ntmps5
      go_wp2_with fail
      refine (HAW.out).mono ?_
      rintro e wa ⟨rfl, hb2⟩
      go_wp2_with fail
      refine (HLONG.out wa).mono ?_
      rintro e w3 ⟨rfl, rfl⟩
      have HB0 := Lib.hid (hb2.alloc hb2.size (.cells #[.slice A n1 c1, .slice B n2 c2, .slice C n3 c3] 23))
      clear hb2
      go_wp2_with fail
      refine (compare_lit (HA.out.below HB0.out) (HB.out.below HB0.out) (v := -1) (cmp_l (by have := HAB.out; omega))).mono ?_
      rintro e w1 ⟨rfl, hb⟩
      have HB1 := Lib.hid (HB0.out.trans (hb.mono HB0.out.size))
      clear hb
      go_wp2_with fail
      refine (compare_lit (HB.out.below HB1.out) (HA.out.below HB1.out) (v := 1) (cmp_g (by have := HAB.out; omega))).mono ?_
      rintro e w2 ⟨rfl, hb⟩
      have HB2 := Lib.hid (HB1.out.trans (hb.mono HB1.out.size))
      clear hb
      go_wp2_with fail
      refine (norm_num' (HA.out.below HB2.out)).mono ?_
      rintro e w3 ⟨hb, gr1, Lr1, rfl, _, hr⟩
      have HB3 := Lib.hid (HB2.out.trans (hb.mono HB2.out.size))
      have Rr1_3 := Lib.hid hr
      clear hb hr
      go_wp2_with fail
      refine (norm_num' (HB.out.below HB3.out)).mono ?_
      rintro e w4 ⟨hb, gr2, Lr2, rfl, _, hr⟩
      have HB4 := Lib.hid (HB3.out.trans (hb.mono HB3.out.size))
      have Rr1_4 := Lib.hid (Rr1_3.out.below hb)
      have Rr2_4 := Lib.hid hr
      clear hb hr
      go_wp2_with fail
      refine (sameB_lit Rr1_4.out Rr2_4.out (by omega) (by omega) (v := false) (by have := HAB.out; simp; omega)).mono ?_
      rintro e w5 ⟨rfl, hb⟩
      have HB5 := Lib.hid (HB4.out.trans (hb.mono HB4.out.size))
      clear hb
      go_wp2_with fail
      refine (add_num (HA.out.below HB5.out) (HC.out.below HB5.out) (by omega) (by omega) rfl).mono ?_
      rintro e w6 ⟨hb, gr3, Lr3, rfl, _, hr⟩
      have HB6 := Lib.hid (HB5.out.trans (hb.mono HB5.out.size))
      have Rr3_6 := Lib.hid hr
      clear hb hr
      go_wp2_with fail
      refine (add_num (HB.out.below HB6.out) (HC.out.below HB6.out) (by omega) (by omega) rfl).mono ?_
      rintro e w7 ⟨hb, gr4, Lr4, rfl, _, hr⟩
      have HB7 := Lib.hid (HB6.out.trans (hb.mono HB6.out.size))
      have Rr3_7 := Lib.hid (Rr3_6.out.below hb)
      have Rr4_7 := Lib.hid hr
      clear hb hr
      go_wp2_with fail
      refine (compare_lit (Rr3_7.out.arg (by omega)) (Rr4_7.out.arg (by omega)) (v := -1) (cmp_l (by have := HAB.out; omega))).mono ?_
      rintro e w8 ⟨rfl, hb⟩
      have HB8 := Lib.hid (HB7.out.trans (hb.mono HB7.out.size))
      have Rr3_8 := Lib.hid (Rr3_7.out.below hb)
      have Rr4_8 := Lib.hid (Rr4_7.out.below hb)
      clear hb
      go_wp2_with fail
      refine (compare_lit (HB.out.below HB8.out) (HC.out.below HB8.out) (v := 0) (cmp_e (by have := HBC.out; omega))).mono ?_
      rintro e w9 ⟨rfl, hb⟩
      have HB9 := Lib.hid (HB8.out.trans (hb.mono HB8.out.size))
      clear hb
      go_wp2_with fail
      refine (compare_lit (HA.out.below HB9.out) (HC.out.below HB9.out) (v := -1) (cmp_l (by have := HAB.out; have := HBC.out; omega))).mono ?_
      rintro e w10 ⟨rfl, hb⟩
      have HB10 := Lib.hid (HB9.out.trans (hb.mono HB9.out.size))
      clear hb
      go_wp2_with fail
      refine (monus_num (HA.out.below HB10.out) (HB.out.below HB10.out) (by omega)).mono ?_
      rintro e w11 ⟨hb, gr5, Lr5, rfl, _, hr⟩
      have HB11 := Lib.hid (HB10.out.trans (hb.mono HB10.out.size))
      have Rr5_11 := Lib.hid hr
      clear hb hr
      obtain rfl : Lr5 = 0 := by have := Rr5_11.out.len; rw [show a - b = 0 from by have := HAB.out; omega, wds_zero] at this; exact this.symm
      go_wp2_with fail
      go_ret
      exact bp_true rfl HB11.out
    · have HAB := Lib.hid hab; have HBC := Lib.hid hbc
      clear hab hbc
      go_enter Tryd.func5, Tryd.ntmps5
      go_wp2_with fail
      refine (HAW.out).mono ?_
      rintro e wa ⟨rfl, hb2⟩
      go_wp2_with fail
      refine (HLONG.out wa).mono ?_
      rintro e w3 ⟨rfl, rfl⟩
      have HB0 := Lib.hid (hb2.alloc hb2.size (.cells #[.slice A n1 c1, .slice B n2 c2, .slice C n3 c3] 23))
      clear hb2
      go_wp2_with fail
      refine (compare_lit (HA.out.below HB0.out) (HB.out.below HB0.out) (v := -1) (cmp_l (by have := HAB.out; omega))).mono ?_
      rintro e w1 ⟨rfl, hb⟩
      have HB1 := Lib.hid (HB0.out.trans (hb.mono HB0.out.size))
      clear hb
      go_wp2_with fail
      refine (compare_lit (HB.out.below HB1.out) (HA.out.below HB1.out) (v := 1) (cmp_g (by have := HAB.out; omega))).mono ?_
      rintro e w2 ⟨rfl, hb⟩
      have HB2 := Lib.hid (HB1.out.trans (hb.mono HB1.out.size))
      clear hb
      go_wp2_with fail
      refine (norm_num' (HA.out.below HB2.out)).mono ?_
      rintro e w3 ⟨hb, gr1, Lr1, rfl, _, hr⟩
      have HB3 := Lib.hid (HB2.out.trans (hb.mono HB2.out.size))
      have Rr1_3 := Lib.hid hr
      clear hb hr
      go_wp2_with fail
      refine (norm_num' (HB.out.below HB3.out)).mono ?_
      rintro e w4 ⟨hb, gr2, Lr2, rfl, _, hr⟩
      have HB4 := Lib.hid (HB3.out.trans (hb.mono HB3.out.size))
      have Rr1_4 := Lib.hid (Rr1_3.out.below hb)
      have Rr2_4 := Lib.hid hr
      clear hb hr
      go_wp2_with fail
      refine (sameB_lit Rr1_4.out Rr2_4.out (by omega) (by omega) (v := false) (by have := HAB.out; simp; omega)).mono ?_
      rintro e w5 ⟨rfl, hb⟩
      have HB5 := Lib.hid (HB4.out.trans (hb.mono HB4.out.size))
      clear hb
      go_wp2_with fail
      refine (add_num (HA.out.below HB5.out) (HC.out.below HB5.out) (by omega) (by omega) rfl).mono ?_
      rintro e w6 ⟨hb, gr3, Lr3, rfl, _, hr⟩
      have HB6 := Lib.hid (HB5.out.trans (hb.mono HB5.out.size))
      have Rr3_6 := Lib.hid hr
      clear hb hr
      go_wp2_with fail
      refine (add_num (HB.out.below HB6.out) (HC.out.below HB6.out) (by omega) (by omega) rfl).mono ?_
      rintro e w7 ⟨hb, gr4, Lr4, rfl, _, hr⟩
      have HB7 := Lib.hid (HB6.out.trans (hb.mono HB6.out.size))
      have Rr3_7 := Lib.hid (Rr3_6.out.below hb)
      have Rr4_7 := Lib.hid hr
      clear hb hr
      go_wp2_with fail
      refine (compare_lit (Rr3_7.out.arg (by omega)) (Rr4_7.out.arg (by omega)) (v := -1) (cmp_l (by have := HAB.out; omega))).mono ?_
      rintro e w8 ⟨rfl, hb⟩
      have HB8 := Lib.hid (HB7.out.trans (hb.mono HB7.out.size))
      have Rr3_8 := Lib.hid (Rr3_7.out.below hb)
      have Rr4_8 := Lib.hid (Rr4_7.out.below hb)
      clear hb
      go_wp2_with fail
      refine (compare_lit (HB.out.below HB8.out) (HC.out.below HB8.out) (v := 1) (cmp_g (by have := HBC.out; omega))).mono ?_
      rintro e w9 ⟨rfl, hb⟩
      have HB9 := Lib.hid (HB8.out.trans (hb.mono HB8.out.size))
      clear hb
      go_wp2_with fail
      refine (monus_num (HA.out.below HB9.out) (HB.out.below HB9.out) (by omega)).mono ?_
      rintro e w10 ⟨hb, gr5, Lr5, rfl, _, hr⟩
      have HB10 := Lib.hid (HB9.out.trans (hb.mono HB9.out.size))
      have Rr5_10 := Lib.hid hr
      clear hb hr
      obtain rfl : Lr5 = 0 := by have := Rr5_10.out.len; rw [show a - b = 0 from by have := HAB.out; omega, wds_zero] at this; exact this.symm
      go_wp2_with fail
      go_ret
      exact bp_true rfl HB10.out
    · have HAB := Lib.hid hab; have HBC := Lib.hid hbc
      clear hab hbc
      go_enter Tryd.func5, Tryd.ntmps5
      go_wp2_with fail
      refine (HAW.out).mono ?_
      rintro e wa ⟨rfl, hb2⟩
      go_wp2_with fail
      refine (HLONG.out wa).mono ?_
      rintro e w3 ⟨rfl, rfl⟩
      have HB0 := Lib.hid (hb2.alloc hb2.size (.cells #[.slice A n1 c1, .slice B n2 c2, .slice C n3 c3] 23))
      clear hb2
      go_wp2_with fail
      refine (compare_lit (HA.out.below HB0.out) (HB.out.below HB0.out) (v := 0) (cmp_e (by have := HAB.out; omega))).mono ?_
      rintro e w1 ⟨rfl, hb⟩
      have HB1 := Lib.hid (HB0.out.trans (hb.mono HB0.out.size))
      clear hb
      go_wp2_with fail
      refine (compare_lit (HB.out.below HB1.out) (HA.out.below HB1.out) (v := 0) (cmp_e (by have := HAB.out; omega))).mono ?_
      rintro e w2 ⟨rfl, hb⟩
      have HB2 := Lib.hid (HB1.out.trans (hb.mono HB1.out.size))
      clear hb
      go_wp2_with fail
      refine (norm_num' (HA.out.below HB2.out)).mono ?_
      rintro e w3 ⟨hb, gr1, Lr1, rfl, _, hr⟩
      have HB3 := Lib.hid (HB2.out.trans (hb.mono HB2.out.size))
      have Rr1_3 := Lib.hid hr
      clear hb hr
      go_wp2_with fail
      refine (norm_num' (HB.out.below HB3.out)).mono ?_
      rintro e w4 ⟨hb, gr2, Lr2, rfl, _, hr⟩
      have HB4 := Lib.hid (HB3.out.trans (hb.mono HB3.out.size))
      have Rr1_4 := Lib.hid (Rr1_3.out.below hb)
      have Rr2_4 := Lib.hid hr
      clear hb hr
      go_wp2_with fail
      refine (sameB_lit Rr1_4.out Rr2_4.out (by omega) (by omega) (v := true) (by have := HAB.out; simp; omega)).mono ?_
      rintro e w5 ⟨rfl, hb⟩
      have HB5 := Lib.hid (HB4.out.trans (hb.mono HB4.out.size))
      clear hb
      go_wp2_with fail
      refine (add_num (HA.out.below HB5.out) (HC.out.below HB5.out) (by omega) (by omega) rfl).mono ?_
      rintro e w6 ⟨hb, gr3, Lr3, rfl, _, hr⟩
      have HB6 := Lib.hid (HB5.out.trans (hb.mono HB5.out.size))
      have Rr3_6 := Lib.hid hr
      clear hb hr
      go_wp2_with fail
      refine (add_num (HB.out.below HB6.out) (HC.out.below HB6.out) (by omega) (by omega) rfl).mono ?_
      rintro e w7 ⟨hb, gr4, Lr4, rfl, _, hr⟩
      have HB7 := Lib.hid (HB6.out.trans (hb.mono HB6.out.size))
      have Rr3_7 := Lib.hid (Rr3_6.out.below hb)
      have Rr4_7 := Lib.hid hr
      clear hb hr
      go_wp2_with fail
      refine (compare_lit (Rr3_7.out.arg (by omega)) (Rr4_7.out.arg (by omega)) (v := 0) (cmp_e (by have := HAB.out; omega))).mono ?_
      rintro e w8 ⟨rfl, hb⟩
      have HB8 := Lib.hid (HB7.out.trans (hb.mono HB7.out.size))
      have Rr3_8 := Lib.hid (Rr3_7.out.below hb)
      have Rr4_8 := Lib.hid (Rr4_7.out.below hb)
      clear hb
      go_wp2_with fail
      refine (compare_lit (HB.out.below HB8.out) (HC.out.below HB8.out) (v := -1) (cmp_l (by have := HBC.out; omega))).mono ?_
      rintro e w9 ⟨rfl, hb⟩
      have HB9 := Lib.hid (HB8.out.trans (hb.mono HB8.out.size))
      clear hb
      go_wp2_with fail
      refine (compare_lit (HA.out.below HB9.out) (HC.out.below HB9.out) (v := -1) (cmp_l (by have := HAB.out; have := HBC.out; omega))).mono ?_
      rintro e w10 ⟨rfl, hb⟩
      have HB10 := Lib.hid (HB9.out.trans (hb.mono HB9.out.size))
      clear hb
      go_wp2_with fail
      refine (monus_num (HA.out.below HB10.out) (HB.out.below HB10.out) (by omega)).mono ?_
      rintro e w11 ⟨hb, gr5, Lr5, rfl, _, hr⟩
      have HB11 := Lib.hid (HB10.out.trans (hb.mono HB10.out.size))
      have Rr5_11 := Lib.hid hr
      clear hb hr
      obtain rfl : Lr5 = 0 := by have := Rr5_11.out.len; rw [show a - b = 0 from by have := HAB.out; omega, wds_zero] at this; exact this.symm
      go_wp2_with fail
      go_ret
      exact bp_true rfl HB11.out
    · have HAB := Lib.hid hab; have HBC := Lib.hid hbc
      clear hab hbc
      go_enter Tryd.func5, Tryd.ntmps5
      go_wp2_with fail
      refine (HAW.out).mono ?_
      rintro e wa ⟨rfl, hb2⟩
      go_wp2_with fail
      refine (HLONG.out wa).mono ?_
      rintro e w3 ⟨rfl, rfl⟩
      have HB0 := Lib.hid (hb2.alloc hb2.size (.cells #[.slice A n1 c1, .slice B n2 c2, .slice C n3 c3] 23))
      clear hb2
      go_wp2_with fail
      refine (compare_lit (HA.out.below HB0.out) (HB.out.below HB0.out) (v := 0) (cmp_e (by have := HAB.out; omega))).mono ?_
      rintro e w1 ⟨rfl, hb⟩
      have HB1 := Lib.hid (HB0.out.trans (hb.mono HB0.out.size))
      clear hb
      go_wp2_with fail
      refine (compare_lit (HB.out.below HB1.out) (HA.out.below HB1.out) (v := 0) (cmp_e (by have := HAB.out; omega))).mono ?_
      rintro e w2 ⟨rfl, hb⟩
      have HB2 := Lib.hid (HB1.out.trans (hb.mono HB1.out.size))
      clear hb
      go_wp2_with fail
      refine (norm_num' (HA.out.below HB2.out)).mono ?_
      rintro e w3 ⟨hb, gr1, Lr1, rfl, _, hr⟩
      have HB3 := Lib.hid (HB2.out.trans (hb.mono HB2.out.size))
      have Rr1_3 := Lib.hid hr
      clear hb hr
      go_wp2_with fail
      refine (norm_num' (HB.out.below HB3.out)).mono ?_
      rintro e w4 ⟨hb, gr2, Lr2, rfl, _, hr⟩
      have HB4 := Lib.hid (HB3.out.trans (hb.mono HB3.out.size))
      have Rr1_4 := Lib.hid (Rr1_3.out.below hb)
      have Rr2_4 := Lib.hid hr
      clear hb hr
      go_wp2_with fail
      refine (sameB_lit Rr1_4.out Rr2_4.out (by omega) (by omega) (v := true) (by have := HAB.out; simp; omega)).mono ?_
      rintro e w5 ⟨rfl, hb⟩
      have HB5 := Lib.hid (HB4.out.trans (hb.mono HB4.out.size))
      clear hb
      go_wp2_with fail
      refine (add_num (HA.out.below HB5.out) (HC.out.below HB5.out) (by omega) (by omega) rfl).mono ?_
      rintro e w6 ⟨hb, gr3, Lr3, rfl, _, hr⟩
      have HB6 := Lib.hid (HB5.out.trans (hb.mono HB5.out.size))
      have Rr3_6 := Lib.hid hr
      clear hb hr
      go_wp2_with fail
      refine (add_num (HB.out.below HB6.out) (HC.out.below HB6.out) (by omega) (by omega) rfl).mono ?_
      rintro e w7 ⟨hb, gr4, Lr4, rfl, _, hr⟩
      have HB7 := Lib.hid (HB6.out.trans (hb.mono HB6.out.size))
      have Rr3_7 := Lib.hid (Rr3_6.out.below hb)
      have Rr4_7 := Lib.hid hr
      clear hb hr
      go_wp2_with fail
      refine (compare_lit (Rr3_7.out.arg (by omega)) (Rr4_7.out.arg (by omega)) (v := 0) (cmp_e (by have := HAB.out; omega))).mono ?_
      rintro e w8 ⟨rfl, hb⟩
      have HB8 := Lib.hid (HB7.out.trans (hb.mono HB7.out.size))
      have Rr3_8 := Lib.hid (Rr3_7.out.below hb)
      have Rr4_8 := Lib.hid (Rr4_7.out.below hb)
      clear hb
      go_wp2_with fail
      refine (compare_lit (HB.out.below HB8.out) (HC.out.below HB8.out) (v := 0) (cmp_e (by have := HBC.out; omega))).mono ?_
      rintro e w9 ⟨rfl, hb⟩
      have HB9 := Lib.hid (HB8.out.trans (hb.mono HB8.out.size))
      clear hb
      go_wp2_with fail
      refine (compare_lit (HA.out.below HB9.out) (HC.out.below HB9.out) (v := 0) (cmp_e (by have := HAB.out; have := HBC.out; omega))).mono ?_
      rintro e w10 ⟨rfl, hb⟩
      have HB10 := Lib.hid (HB9.out.trans (hb.mono HB9.out.size))
      clear hb
      go_wp2_with fail
      refine (monus_num (HA.out.below HB10.out) (HB.out.below HB10.out) (by omega)).mono ?_
      rintro e w11 ⟨hb, gr5, Lr5, rfl, _, hr⟩
      have HB11 := Lib.hid (HB10.out.trans (hb.mono HB10.out.size))
      have Rr5_11 := Lib.hid hr
      clear hb hr
      obtain rfl : Lr5 = 0 := by have := Rr5_11.out.len; rw [show a - b = 0 from by have := HAB.out; omega, wds_zero] at this; exact this.symm
      go_wp2_with fail
      go_ret
      exact bp_true rfl HB11.out
    · have HAB := Lib.hid hab; have HBC := Lib.hid hbc
      clear hab hbc
      go_enter Tryd.func5, Tryd.ntmps5
      go_wp2_with fail
      refine (HAW.out).mono ?_
      rintro e wa ⟨rfl, hb2⟩
      go_wp2_with fail
      refine (HLONG.out wa).mono ?_
      rintro e w3 ⟨rfl, rfl⟩
      have HB0 := Lib.hid (hb2.alloc hb2.size (.cells #[.slice A n1 c1, .slice B n2 c2, .slice C n3 c3] 23))
      clear hb2
      go_wp2_with fail
      refine (compare_lit (HA.out.below HB0.out) (HB.out.below HB0.out) (v := 0) (cmp_e (by have := HAB.out; omega))).mono ?_
      rintro e w1 ⟨rfl, hb⟩
      have HB1 := Lib.hid (HB0.out.trans (hb.mono HB0.out.size))
      clear hb
      go_wp2_with fail
      refine (compare_lit (HB.out.below HB1.out) (HA.out.below HB1.out) (v := 0) (cmp_e (by have := HAB.out; omega))).mono ?_
      rintro e w2 ⟨rfl, hb⟩
      have HB2 := Lib.hid (HB1.out.trans (hb.mono HB1.out.size))
      clear hb
      go_wp2_with fail
      refine (norm_num' (HA.out.below HB2.out)).mono ?_
      rintro e w3 ⟨hb, gr1, Lr1, rfl, _, hr⟩
      have HB3 := Lib.hid (HB2.out.trans (hb.mono HB2.out.size))
      have Rr1_3 := Lib.hid hr
      clear hb hr
      go_wp2_with fail
      refine (norm_num' (HB.out.below HB3.out)).mono ?_
      rintro e w4 ⟨hb, gr2, Lr2, rfl, _, hr⟩
      have HB4 := Lib.hid (HB3.out.trans (hb.mono HB3.out.size))
      have Rr1_4 := Lib.hid (Rr1_3.out.below hb)
      have Rr2_4 := Lib.hid hr
      clear hb hr
      go_wp2_with fail
      refine (sameB_lit Rr1_4.out Rr2_4.out (by omega) (by omega) (v := true) (by have := HAB.out; simp; omega)).mono ?_
      rintro e w5 ⟨rfl, hb⟩
      have HB5 := Lib.hid (HB4.out.trans (hb.mono HB4.out.size))
      clear hb
      go_wp2_with fail
      refine (add_num (HA.out.below HB5.out) (HC.out.below HB5.out) (by omega) (by omega) rfl).mono ?_
      rintro e w6 ⟨hb, gr3, Lr3, rfl, _, hr⟩
      have HB6 := Lib.hid (HB5.out.trans (hb.mono HB5.out.size))
      have Rr3_6 := Lib.hid hr
      clear hb hr
      go_wp2_with fail
      refine (add_num (HB.out.below HB6.out) (HC.out.below HB6.out) (by omega) (by omega) rfl).mono ?_
      rintro e w7 ⟨hb, gr4, Lr4, rfl, _, hr⟩
      have HB7 := Lib.hid (HB6.out.trans (hb.mono HB6.out.size))
      have Rr3_7 := Lib.hid (Rr3_6.out.below hb)
      have Rr4_7 := Lib.hid hr
      clear hb hr
      go_wp2_with fail
      refine (compare_lit (Rr3_7.out.arg (by omega)) (Rr4_7.out.arg (by omega)) (v := 0) (cmp_e (by have := HAB.out; omega))).mono ?_
      rintro e w8 ⟨rfl, hb⟩
      have HB8 := Lib.hid (HB7.out.trans (hb.mono HB7.out.size))
      have Rr3_8 := Lib.hid (Rr3_7.out.below hb)
      have Rr4_8 := Lib.hid (Rr4_7.out.below hb)
      clear hb
      go_wp2_with fail
      refine (compare_lit (HB.out.below HB8.out) (HC.out.below HB8.out) (v := 1) (cmp_g (by have := HBC.out; omega))).mono ?_
      rintro e w9 ⟨rfl, hb⟩
      have HB9 := Lib.hid (HB8.out.trans (hb.mono HB8.out.size))
      clear hb
      go_wp2_with fail
      refine (monus_num (HA.out.below HB9.out) (HB.out.below HB9.out) (by omega)).mono ?_
      rintro e w10 ⟨hb, gr5, Lr5, rfl, _, hr⟩
      have HB10 := Lib.hid (HB9.out.trans (hb.mono HB9.out.size))
      have Rr5_10 := Lib.hid hr
      clear hb hr
      obtain rfl : Lr5 = 0 := by have := Rr5_10.out.len; rw [show a - b = 0 from by have := HAB.out; omega, wds_zero] at this; exact this.symm
      go_wp2_with fail
      go_ret
      exact bp_true rfl HB10.out
    · have HAB := Lib.hid hab
      clear hab
      go_enter Tryd.func5, Tryd.ntmps5
      go_wp2_with fail
      refine (HAW.out).mono ?_
      rintro e wa ⟨rfl, hb2⟩
      go_wp2_with fail
      refine (HLONG.out wa).mono ?_
      rintro e w3 ⟨rfl, rfl⟩
      have HB0 := Lib.hid (hb2.alloc hb2.size (.cells #[.slice A n1 c1, .slice B n2 c2, .slice C n3 c3] 23))
      clear hb2
      go_wp2_with fail
      refine (compare_lit (HA.out.below HB0.out) (HB.out.below HB0.out) (v := 1) (cmp_g (by have := HAB.out; omega))).mono ?_
      rintro e w1 ⟨rfl, hb⟩
      have HB1 := Lib.hid (HB0.out.trans (hb.mono HB0.out.size))
      clear hb
      go_wp2_with fail
      refine (compare_lit (HB.out.below HB1.out) (HA.out.below HB1.out) (v := -1) (cmp_l (by have := HAB.out; omega))).mono ?_
      rintro e w2 ⟨rfl, hb⟩
      have HB2 := Lib.hid (HB1.out.trans (hb.mono HB1.out.size))
      clear hb
      go_wp2_with fail
      refine (norm_num' (HA.out.below HB2.out)).mono ?_
      rintro e w3 ⟨hb, gr1, Lr1, rfl, _, hr⟩
      have HB3 := Lib.hid (HB2.out.trans (hb.mono HB2.out.size))
      have Rr1_3 := Lib.hid hr
      clear hb hr
      go_wp2_with fail
      refine (norm_num' (HB.out.below HB3.out)).mono ?_
      rintro e w4 ⟨hb, gr2, Lr2, rfl, _, hr⟩
      have HB4 := Lib.hid (HB3.out.trans (hb.mono HB3.out.size))
      have Rr1_4 := Lib.hid (Rr1_3.out.below hb)
      have Rr2_4 := Lib.hid hr
      clear hb hr
      go_wp2_with fail
      refine (sameB_lit Rr1_4.out Rr2_4.out (by omega) (by omega) (v := false) (by have := HAB.out; simp; omega)).mono ?_
      rintro e w5 ⟨rfl, hb⟩
      have HB5 := Lib.hid (HB4.out.trans (hb.mono HB4.out.size))
      clear hb
      go_wp2_with fail
      refine (add_num (HA.out.below HB5.out) (HC.out.below HB5.out) (by omega) (by omega) rfl).mono ?_
      rintro e w6 ⟨hb, gr3, Lr3, rfl, _, hr⟩
      have HB6 := Lib.hid (HB5.out.trans (hb.mono HB5.out.size))
      have Rr3_6 := Lib.hid hr
      clear hb hr
      go_wp2_with fail
      refine (add_num (HB.out.below HB6.out) (HC.out.below HB6.out) (by omega) (by omega) rfl).mono ?_
      rintro e w7 ⟨hb, gr4, Lr4, rfl, _, hr⟩
      have HB7 := Lib.hid (HB6.out.trans (hb.mono HB6.out.size))
      have Rr3_7 := Lib.hid (Rr3_6.out.below hb)
      have Rr4_7 := Lib.hid hr
      clear hb hr
      go_wp2_with fail
      refine (compare_lit (Rr3_7.out.arg (by omega)) (Rr4_7.out.arg (by omega)) (v := 1) (cmp_g (by have := HAB.out; omega))).mono ?_
      rintro e w8 ⟨rfl, hb⟩
      have HB8 := Lib.hid (HB7.out.trans (hb.mono HB7.out.size))
      have Rr3_8 := Lib.hid (Rr3_7.out.below hb)
      have Rr4_8 := Lib.hid (Rr4_7.out.below hb)
      clear hb
      go_wp2_with fail
      refine (monus_num (HA.out.below HB8.out) (HB.out.below HB8.out) (by omega)).mono ?_
      rintro e w9 ⟨hb, gr5, Lr5, rfl, _, hr⟩
      have HB9 := Lib.hid (HB8.out.trans (hb.mono HB8.out.size))
      have Rr5_9 := Lib.hid hr
      clear hb hr
      go_wp2_with fail
      refine (add_num (Rr5_9.out.arg (by omega)) (HB.out.below HB9.out) (by omega) (by omega) rfl).mono ?_
      rintro e w10 ⟨hb, gr6, Lr6, rfl, _, hr⟩
      have HB10 := Lib.hid (HB9.out.trans (hb.mono HB9.out.size))
      have Rr5_10 := Lib.hid (Rr5_9.out.below hb)
      have Rr6_10 := Lib.hid hr
      clear hb hr
      go_wp2_with fail
      refine (norm_num' (HA.out.below HB10.out)).mono ?_
      rintro e w11 ⟨hb, gr7, Lr7, rfl, _, hr⟩
      have HB11 := Lib.hid (HB10.out.trans (hb.mono HB10.out.size))
      have Rr5_11 := Lib.hid (Rr5_10.out.below hb)
      have Rr6_11 := Lib.hid (Rr6_10.out.below hb)
      have Rr7_11 := Lib.hid hr
      clear hb hr
      go_wp2_with fail
      refine (same_num Rr6_11.out Rr7_11.out (by omega) (by omega) (by have := HAB.out; omega)).mono ?_
      rintro e w12 ⟨rfl, hb⟩
      have HB12 := Lib.hid (HB11.out.trans (hb.mono HB11.out.size))
      have Rr5_12 := Lib.hid (Rr5_11.out.below hb)
      clear hb
      go_wp2_with fail
      refine (add_num (HA.out.below HB12.out) (HC.out.below HB12.out) (by omega) (by omega) rfl).mono ?_
      rintro e w13 ⟨hb, gr8, Lr8, rfl, _, hr⟩
      have HB13 := Lib.hid (HB12.out.trans (hb.mono HB12.out.size))
      have Rr5_13 := Lib.hid (Rr5_12.out.below hb)
      have Rr8_13 := Lib.hid hr
      clear hb hr
      go_wp2_with fail
      refine (add_num (HB.out.below HB13.out) (HC.out.below HB13.out) (by omega) (by omega) rfl).mono ?_
      rintro e w14 ⟨hb, gr9, Lr9, rfl, _, hr⟩
      have HB14 := Lib.hid (HB13.out.trans (hb.mono HB13.out.size))
      have Rr5_14 := Lib.hid (Rr5_13.out.below hb)
      have Rr8_14 := Lib.hid (Rr8_13.out.below hb)
      have Rr9_14 := Lib.hid hr
      clear hb hr
      go_wp2_with fail
      refine (monus_num (Rr8_14.out.arg (by omega)) (Rr9_14.out.arg (by omega)) (by omega)).mono ?_
      rintro e w15 ⟨hb, gr10, Lr10, rfl, _, hr⟩
      have HB15 := Lib.hid (HB14.out.trans (hb.mono HB14.out.size))
      have Rr5_15 := Lib.hid (Rr5_14.out.below hb)
      have Rr10_15 := Lib.hid hr
      clear hb hr
      go_wp2_with fail
      refine (same_num Rr10_15.out Rr5_15.out (by omega) (by omega) (by omega)).mono ?_
      rintro e w16 ⟨rfl, hb⟩
      have HB16 := Lib.hid (HB15.out.trans (hb.mono HB15.out.size))
      clear hb
      go_wp2_with fail
      go_ret
      exact bp_true rfl HB16.out

end Go.Proofs.YtgiepikoffaaiaaDoor
