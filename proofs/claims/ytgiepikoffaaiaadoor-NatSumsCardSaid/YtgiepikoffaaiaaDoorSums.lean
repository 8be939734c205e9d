/- NatSums: the law, walked. -/
import Derived.Test.YtgiepikoffaaiaaDoorRefSums
namespace Go.Proofs.YtgiepikoffaaiaaDoor
open Go.RowKit

theorem same_ref {A : Option Addr} {n c x y i g L : Nat} {w : World} (hx : Num w g L x i) (hy : NatV w A n c (wds y)) (hi : i ≤ 1000) (he : x = y) : Calls Tryd.prog 16 #[.slice (some ⟨g, 0, none⟩) L L, .slice A n c] w (BoolPost true w) := by
  subst he
  refine (same_any w (hx.natV (by omega)) hy).mono ?_
  rintro e w' ⟨rfl, m, rfl⟩
  exact ⟨by simp, below_drewN (Below.refl _ _) m⟩

set_option linter.unusedSimpArgs false in
set_option maxRecDepth 100000 in
set_option maxHeartbeats 4000000 in
theorem sums_law {A : Option Addr} {n1 c1 : Nat} {x1 : List Nat} {B : Option Addr} {n2 c2 : Nat} {x2 : List Nat} {w : World} (ha : NatV w A n1 c1 x1) (hb : NatV w B n2 c2 x2) (ht : Tab w) :
    Calls Tryd.prog 4 #[.slice A n1 c1, .slice B n2 c2] w (BoolPost true w) := by
  obtain ⟨big, hbig⟩ : ∃ big : Bool, big = (decide (80 < n1) || decide (80 < n2)) := ⟨_, rfl⟩
  have hlong := fun (w2 : World) => long_two (Blk.new w2 23 #[.slice A n1 c1, .slice B n2 c2]) hbig
  have HLONG := Lib.hid hlong
  have HAW := Lib.hid (awake_any ht)
  have HT := Lib.hid ht
  clear hlong ht
  cases big with
  | true =>
    clear hbig
    go_enter Tryd.func4, Tryd.ntmps4
    go_wp2_with fail
    refine (HAW.out).mono ?_
    rintro e wa ⟨rfl, hb2⟩
    go_wp2_with fail
    refine (HLONG.out wa).mono ?_
    rintro e w3 ⟨rfl, rfl⟩
    go_wp2_with fail
    go_ret
    exact bp_true rfl (hb2.alloc hb2.size _)
  | false =>
    have hle : n1 ≤ 80 ∧ n2 ≤ 80 := by simp at hbig; omega
    clear hbig
    have HA : RowKit.Hid (Arg w A n1 c1 (val x1) 80) := Lib.hid ⟨_, ha, rfl, by omega⟩
    generalize val x1 = a at HA
    have HB : RowKit.Hid (Arg w B n2 c2 (val x2) 80) := Lib.hid ⟨_, hb, rfl, by omega⟩
    generalize val x2 = b at HB
    clear hle ha hb
    go_enter Tryd.func4, Tryd.ntmps4
    go_wp2_with fail
    refine (HAW.out).mono ?_
    rintro e wa ⟨rfl, hb2⟩
    go_wp2_with fail
    refine (HLONG.out wa).mono ?_
    rintro e w3 ⟨rfl, rfl⟩
    have HB0 := Lib.hid (hb2.alloc hb2.size (.cells #[.slice A n1 c1, .slice B n2 c2] 23))
    clear hb2
    obtain ⟨v, hv⟩ : ∃ v, v = cmpI a b := ⟨_, rfl⟩
    have HV := Lib.hid hv.symm
    have hvv : (v == v) = true := beq_self_eq_true v
    clear hv
    go_wp2_with fail
    refine (norm_num' (HA.out.below HB0.out)).mono ?_
    rintro e w1 ⟨hb, gr1, Lr1, rfl, _, hr⟩
    have HB1 := Lib.hid (HB0.out.trans (hb.mono HB0.out.size))
    have Rr1_1 := Lib.hid hr
    clear hb hr
    go_wp2_with fail
    refine (refNorm_num (HA.out.below HB1.out) (by omega)).mono ?_
    rintro e w2 ⟨hb, Aq1, nq1, cq1, rfl, hr⟩
    have HB2 := Lib.hid (HB1.out.trans (hb.mono HB1.out.size))
    have Rr1_2 := Lib.hid (Rr1_1.out.below hb)
    have Qq1 := Lib.hid hr
    clear hb hr
    go_wp2_with fail
    refine (same_ref Rr1_2.out Qq1.out (by omega) (rfl)).mono ?_
    rintro e w3 ⟨rfl, hb⟩
    have HB3 := Lib.hid (HB2.out.trans (hb.mono HB2.out.size))
    clear hb
    go_wp2_with fail
    refine (add_num (HA.out.below HB3.out) (HB.out.below HB3.out) (by omega) (by omega) rfl).mono ?_
    rintro e w4 ⟨hb, gr2, Lr2, rfl, _, hr⟩
    have HB4 := Lib.hid (HB3.out.trans (hb.mono HB3.out.size))
    have Rr2_4 := Lib.hid hr
    clear hb hr
    go_wp2_with fail
    refine (refAdd_num (HA.out.below HB4.out) (HB.out.below HB4.out) (by omega) (by omega)).mono ?_
    rintro e w5 ⟨hb, Aq2, nq2, cq2, rfl, hr⟩
    have HB5 := Lib.hid (HB4.out.trans (hb.mono HB4.out.size))
    have Rr2_5 := Lib.hid (Rr2_4.out.below hb)
    have Qq2 := Lib.hid hr
    clear hb hr
    go_wp2_with fail
    refine (same_ref Rr2_5.out Qq2.out (by omega) (rfl)).mono ?_
    rintro e w6 ⟨rfl, hb⟩
    have HB6 := Lib.hid (HB5.out.trans (hb.mono HB5.out.size))
    clear hb
    go_wp2_with fail
    refine (monus_num (HA.out.below HB6.out) (HB.out.below HB6.out) (by omega)).mono ?_
    rintro e w7 ⟨hb, gr3, Lr3, rfl, _, hr⟩
    have HB7 := Lib.hid (HB6.out.trans (hb.mono HB6.out.size))
    have Rr3_7 := Lib.hid hr
    clear hb hr
    go_wp2_with fail
    refine (refMonus_num (HA.out.below HB7.out) (HB.out.below HB7.out) (by omega) (by omega)).mono ?_
    rintro e w8 ⟨hb, Aq3, nq3, cq3, rfl, hr⟩
    have HB8 := Lib.hid (HB7.out.trans (hb.mono HB7.out.size))
    have Rr3_8 := Lib.hid (Rr3_7.out.below hb)
    have Qq3 := Lib.hid hr
    clear hb hr
    go_wp2_with fail
    refine (same_ref Rr3_8.out Qq3.out (by omega) (rfl)).mono ?_
    rintro e w9 ⟨rfl, hb⟩
    have HB9 := Lib.hid (HB8.out.trans (hb.mono HB8.out.size))
    clear hb
    go_wp2_with fail
    refine (compare_lit (HA.out.below HB9.out) (HB.out.below HB9.out) (v := v) (HV.out)).mono ?_
    rintro e w10 ⟨rfl, hb⟩
    have HB10 := Lib.hid (HB9.out.trans (hb.mono HB9.out.size))
    clear hb
    go_wp2_with fail
    refine (refCompare_num (HA.out.below HB10.out) (HB.out.below HB10.out) (by omega) (by omega) HV.out).mono ?_
    rintro e w11 ⟨rfl, hb⟩
    have HB11 := Lib.hid (HB10.out.trans (hb.mono HB10.out.size))
    clear hb
    go_wp2_with fail
    go_ret
    exact bp_true (by simp) HB11.out

end Go.Proofs.YtgiepikoffaaiaaDoor
