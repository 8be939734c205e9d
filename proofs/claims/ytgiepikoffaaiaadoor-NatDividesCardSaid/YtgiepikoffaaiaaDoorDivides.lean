/- NatDivides: the law, walked. -/
import Derived.Test.YtgiepikoffaaiaaDoorDivNum
namespace Go.Proofs.YtgiepikoffaaiaaDoor
open Go.RowKit

set_option linter.unusedSimpArgs false in
set_option maxRecDepth 100000 in
set_option maxHeartbeats 4000000 in
theorem divides_law {A : Option Addr} {n1 c1 : Nat} {x1 : List Nat} {B : Option Addr} {n2 c2 : Nat} {x2 : List Nat} {w : World} (ha : NatV w A n1 c1 x1) (hb : NatV w B n2 c2 x2) (ht : Tab w) :
    Calls Tryd.prog 8 #[.slice A n1 c1, .slice B n2 c2] w (BoolPost true w) := by
  obtain ⟨big, hbig⟩ : ∃ big : Bool, big = (decide (80 < n1) || decide (80 < n2)) := ⟨_, rfl⟩
  have hlong := fun (w2 : World) => long_two (Blk.new w2 23 #[.slice A n1 c1, .slice B n2 c2]) hbig
  have HLONG := Lib.hid hlong
  have HAW := Lib.hid (awake_any ht)
  have HT := Lib.hid ht
  clear hlong ht
  cases big with
  | true =>
    clear hbig
    go_enter Tryd.func8, Tryd.ntmps8
    go_wp2_with fail
    refine (HAW.out).mono ?_
    rintro e wa ⟨rfl, hb2⟩
    go_wp2_with fail
    refine (HLONG.out wa).mono ?_
    rintro e w3 ⟨rfl, rfl⟩
    go_wp2_with fail
    go_ret
    exact bp_true rfl (hb2.alloc hb2.size _)
  | false =>
    have hle : n1 ≤ 80 ∧ n2 ≤ 80 := by simp at hbig; omega
    clear hbig
    have HA : RowKit.Hid (Arg w A n1 c1 (val x1) 80) := Lib.hid ⟨_, ha, rfl, by omega⟩
    generalize val x1 = a at HA
    have HB : RowKit.Hid (Arg w B n2 c2 (val x2) 80) := Lib.hid ⟨_, hb, rfl, by omega⟩
    generalize val x2 = b at HB
    clear hle ha hb
    rcases (show b = 0 ∨ 0 < b from by omega) with rfl | hpos
    · skip
      go_enter Tryd.func8, Tryd.ntmps8
      go_wp2_with fail
      refine (HAW.out).mono ?_
      rintro e wa ⟨rfl, hb2⟩
      go_wp2_with fail
      refine (HLONG.out wa).mono ?_
      rintro e w3 ⟨rfl, rfl⟩
      have HB0 := Lib.hid (hb2.alloc hb2.size (.cells #[.slice A n1 c1, .slice B n2 c2] 23))
      clear hb2
      go_wp2_with fail
      refine (divmod_zero_num (HA.out.below HB0.out) (HB.out.below HB0.out) rfl).mono ?_
      rintro e w1 ⟨rfl, hb⟩
      have HB1 := Lib.hid (HB0.out.trans (hb.mono HB0.out.size))
      clear hb
      go_wp2_with fail
      refine (bits_num (HB.out.below HB1.out) (by omega) bln_zero).mono ?_
      rintro e w' ⟨rfl, rfl⟩
      go_wp2_with fail
      go_ret
      exact bp_true rfl HB1.out
    · have HPOS := Lib.hid hpos
      obtain ⟨bl, hbl⟩ : ∃ bl, bln b = bl := ⟨_, rfl⟩
      have hblz : ((bl : Int) == 0) = false := beq_eq_false_iff_ne.2 (by have := bln_pos hpos; omega)
      have HBL := Lib.hid hbl
      clear hbl hpos
      go_enter Tryd.func8, Tryd.ntmps8
      go_wp2_with fail
      refine (HAW.out).mono ?_
      rintro e wa ⟨rfl, hb2⟩
      go_wp2_with fail
      refine (HLONG.out wa).mono ?_
      rintro e w3 ⟨rfl, rfl⟩
      have HB0 := Lib.hid (hb2.alloc hb2.size (.cells #[.slice A n1 c1, .slice B n2 c2] 23))
      clear hb2
      go_wp2_with fail
      refine (divmod_num (HA.out.below HB0.out) (HB.out.below HB0.out) (by omega) (by omega) HPOS.out).mono ?_
      rintro e w1 ⟨hb, gq, Lq, gr, Lr, rfl, _, _, _, hq, hr⟩
      have HB1 := Lib.hid (HB0.out.trans (hb.mono HB0.out.size))
      have Rq_1 := Lib.hid hq
      have Rr_1 := Lib.hid hr
      clear hb hq hr
      go_wp2_with fail
      refine (bits_num (HB.out.below HB1.out) (by omega) HBL.out).mono ?_
      rintro e w' ⟨rfl, rfl⟩
      go_wp2_with fail
      refine (compare_lit (Rr_1.out.arg (by omega)) (HB.out.below HB1.out) (v := -1) (cmp_l (Nat.mod_lt _ HPOS.out))).mono ?_
      rintro e w2 ⟨rfl, hb⟩
      have HB2 := Lib.hid (HB1.out.trans (hb.mono HB1.out.size))
      have Rq_2 := Lib.hid (Rq_1.out.below hb)
      have Rr_2 := Lib.hid (Rr_1.out.below hb)
      clear hb
      go_wp2_with fail
      refine (mul_num (Rq_2.out.arg (by omega)) (HB.out.below HB2.out) (by omega) (by omega) rfl).mono ?_
      rintro e w3 ⟨hb, gs1, Ls1, rfl, _, hr⟩
      have HB3 := Lib.hid (HB2.out.trans (hb.mono HB2.out.size))
      have Rq_3 := Lib.hid (Rq_2.out.below hb)
      have Rr_3 := Lib.hid (Rr_2.out.below hb)
      have Rs1_3 := Lib.hid hr
      clear hb hr
      go_wp2_with fail
      refine (add_num (Rs1_3.out.arg (by omega)) (Rr_3.out.arg (by omega)) (by omega) (by omega) rfl).mono ?_
      rintro e w4 ⟨hb, gs2, Ls2, rfl, _, hr⟩
      have HB4 := Lib.hid (HB3.out.trans (hb.mono HB3.out.size))
      have Rq_4 := Lib.hid (Rq_3.out.below hb)
      have Rr_4 := Lib.hid (Rr_3.out.below hb)
      have Rs2_4 := Lib.hid hr
      clear hb hr
      go_wp2_with fail
      refine (norm_num' (HA.out.below HB4.out)).mono ?_
      rintro e w5 ⟨hb, gs3, Ls3, rfl, _, hr⟩
      have HB5 := Lib.hid (HB4.out.trans (hb.mono HB4.out.size))
      have Rq_5 := Lib.hid (Rq_4.out.below hb)
      have Rr_5 := Lib.hid (Rr_4.out.below hb)
      have Rs2_5 := Lib.hid (Rs2_4.out.below hb)
      have Rs3_5 := Lib.hid hr
      clear hb hr
      go_wp2_with fail
      refine (same_num Rs2_5.out Rs3_5.out (by omega) (by omega) (Nat.div_add_mod' _ _)).mono ?_
      rintro e w6 ⟨rfl, hb⟩
      have HB6 := Lib.hid (HB5.out.trans (hb.mono HB5.out.size))
      have Rq_6 := Lib.hid (Rq_5.out.below hb)
      have Rr_6 := Lib.hid (Rr_5.out.below hb)
      clear hb
      go_wp2_with fail
      refine (mul_num (HA.out.below HB6.out) (HB.out.below HB6.out) (by omega) (by omega) rfl).mono ?_
      rintro e w7 ⟨hb, gs4, Ls4, rfl, _, hr⟩
      have HB7 := Lib.hid (HB6.out.trans (hb.mono HB6.out.size))
      have Rq_7 := Lib.hid (Rq_6.out.below hb)
      have Rr_7 := Lib.hid (Rr_6.out.below hb)
      have Rs4_7 := Lib.hid hr
      clear hb hr
      go_wp2_with fail
      refine (add_num (Rs4_7.out.arg (by omega)) (Rr_7.out.arg (by omega)) (by omega) (by omega) rfl).mono ?_
      rintro e w8 ⟨hb, gs5, Ls5, rfl, _, hr⟩
      have HB8 := Lib.hid (HB7.out.trans (hb.mono HB7.out.size))
      have Rq_8 := Lib.hid (Rq_7.out.below hb)
      have Rr_8 := Lib.hid (Rr_7.out.below hb)
      have Rs5_8 := Lib.hid hr
      clear hb hr
      go_wp2_with fail
      refine (divmod_num (Rs5_8.out.arg (by omega)) (HB.out.below HB8.out) (by omega) (by omega) HPOS.out).mono ?_
      rintro e w9 ⟨hb, gp, Lp, gs, Ls, rfl, _, _, _, hq, hr⟩
      have HB9 := Lib.hid (HB8.out.trans (hb.mono HB8.out.size))
      have Rq_9 := Lib.hid (Rq_8.out.below hb)
      have Rr_9 := Lib.hid (Rr_8.out.below hb)
      have Rp_9 := Lib.hid hq
      have Rs_9 := Lib.hid hr
      clear hb hq hr
      go_wp2_with fail
      refine (norm_num' (HA.out.below HB9.out)).mono ?_
      rintro e w10 ⟨hb, gs6, Ls6, rfl, _, hr⟩
      have HB10 := Lib.hid (HB9.out.trans (hb.mono HB9.out.size))
      have Rq_10 := Lib.hid (Rq_9.out.below hb)
      have Rr_10 := Lib.hid (Rr_9.out.below hb)
      have Rp_10 := Lib.hid (Rp_9.out.below hb)
      have Rs_10 := Lib.hid (Rs_9.out.below hb)
      have Rs6_10 := Lib.hid hr
      clear hb hr
      go_wp2_with fail
      refine (same_num Rp_10.out Rs6_10.out (by omega) (by omega) (div_back HPOS.out)).mono ?_
      rintro e w11 ⟨rfl, hb⟩
      have HB11 := Lib.hid (HB10.out.trans (hb.mono HB10.out.size))
      have Rq_11 := Lib.hid (Rq_10.out.below hb)
      have Rr_11 := Lib.hid (Rr_10.out.below hb)
      have Rs_11 := Lib.hid (Rs_10.out.below hb)
      clear hb
      go_wp2_with fail
      refine (same_num Rs_11.out Rr_11.out (by omega) (by omega) (mod_back _ _)).mono ?_
      rintro e w12 ⟨rfl, hb⟩
      have HB12 := Lib.hid (HB11.out.trans (hb.mono HB11.out.size))
      have Rq_12 := Lib.hid (Rq_11.out.below hb)
      clear hb
      go_wp2_with fail
      go_ret
      exact bp_true rfl HB12.out

end Go.Proofs.YtgiepikoffaaiaaDoor
