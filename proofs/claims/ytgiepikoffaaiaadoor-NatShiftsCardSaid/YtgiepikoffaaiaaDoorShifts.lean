/- NatShifts: the law, walked. -/
import Derived.Test.YtgiepikoffaaiaaDoorRefShift
import Derived.Test.YtgiepikoffaaiaaDoorBackP
namespace Go.Proofs.YtgiepikoffaaiaaDoor
open Go.RowKit

theorem same_ref2 {A : Option Addr} {n c x y i g L : Nat} {w : World} (hx : Num w g L x i) (hy : NatV w A n c (wds y)) (hi : i ≤ 100000) (he : x = y) : Calls Tryd.prog 16 #[.slice (some ⟨g, 0, none⟩) L L, .slice A n c] w (BoolPost true w) := by
  subst he
  refine (same_any w (hx.natV (by omega)) hy).mono ?_
  rintro e w' ⟨rfl, m, rfl⟩
  exact ⟨by simp, below_drewN (Below.refl _ _) m⟩
theorem same_nil (w : World) : Calls Tryd.prog 16 #[.slice none 0 0, .slice none 0 0] w (BoolPost true w) := by
  refine (same_any w (show NatV w none 0 0 [] from NatR.nil w) (show NatV w none 0 0 [] from NatR.nil w)).mono ?_
  rintro e w' ⟨rfl, m, rfl⟩
  exact ⟨by simp, below_drewN (Below.refl _ _) m⟩
theorem shift_ways (v : Int) : (v > 65536 ∨ v < -65536) ∨ (∃ s : Nat, v = (s : Int) ∧ s ≤ 65536) ∨ ∃ s : Nat, v = -(s : Int) ∧ 0 < s ∧ s ≤ 65536 := by
  by_cases h1 : v > 65536 ∨ v < -65536
  · exact .inl h1
  · by_cases h2 : 0 ≤ v
    · exact .inr (.inl ⟨v.toNat, by omega, by omega⟩)
    · exact .inr (.inr ⟨(-v).toNat, by omega, by omega, by omega⟩)
section
variable {A : Option Addr} {n c x i : Nat} {w : World}
theorem shift_up_num2 (hx : Arg w A n c x i) (hi : i ≤ 1000) (s : Nat) (hs : s ≤ 65536) : Calls Tryd.prog 27 #[.slice A n c, .int .i64 (s : Int)] w (NumOkPost (x * 2 ^ s) (i + 2050) w) := by
  have hl := hx.lt
  obtain ⟨a, ha, rfl, hna⟩ := hx
  refine (shift_up_any ha (by omega) s (by omega)).mono fun e w' h => h.num ?_
  rw [pw_add]
  exact Nat.mul_lt_mul_of_lt_of_le hl (pow_le_pw (by omega)) (pw_pos _)
theorem shift_down_num2 (hx : Arg w A n c x i) (hi : i ≤ 1000) (s : Nat) (hs : s ≤ 65536) (h0 : 0 < s) : Calls Tryd.prog 27 #[.slice A n c, .int .i64 (-(s : Int))] w (NumOkPost (x / 2 ^ s) i w) := by
  have hl := hx.lt
  have hd : x / 2 ^ s < pw i := Nat.lt_of_le_of_lt (Nat.div_le_self _ _) hl
  obtain ⟨a, ha, rfl, hna⟩ := hx
  exact (shift_down_any ha (by omega) s (by omega) (by omega)).mono fun e w' h => h.num hd
theorem dgs_below (x : Nat) : x < pw8 (dgs x).length := by
  have := val_lt8 (ok_wds8 x)
  rwa [val_wds8] at this
theorem refShift_up_num (hx : Arg w A n c x i) (hi : i ≤ 1000) (s : Nat) (hs : s ≤ 65536) : Calls Tryd.prog 28 #[.slice A n c, .int .i64 (s : Int)] w (RNatOkPost (x * 2 ^ s) w) :=
  refShift_gen hx hi (by omega) (by omega) (shf_up (dgs_below x)) (k := s / 8 + 1) (by omega)
theorem refShift_down_num (hx : Arg w A n c x i) (hi : i ≤ 1000) (s : Nat) (hs : s ≤ 65536) : Calls Tryd.prog 28 #[.slice A n c, .int .i64 (-(s : Int))] w (RNatOkPost (x / 2 ^ s) w) :=
  refShift_gen hx hi (by omega) (by omega) (shf_down (dgs_below x)) (k := 1) (by omega)
end

set_option linter.unusedSimpArgs false in
set_option maxRecDepth 100000 in
set_option maxHeartbeats 4000000 in
theorem shifts_law {A : Option Addr} {n1 c1 : Nat} {x1 : List Nat} {w : World} (ha : NatV w A n1 c1 x1) (ht : Tab w) (v : Int) (u : Nat) (hu : u < 18446744073709551616) :
    Calls Tryd.prog 7 #[.slice A n1 c1, .int .i64 v, .int .u64 (u : Int)] w (BoolPost true w) := by
  obtain ⟨big, hbig⟩ : ∃ big : Bool, big = (decide (80 < n1)) := ⟨_, rfl⟩
  have hlong := fun (w2 : World) => long_one (Blk.new w2 23 #[.slice A n1 c1]) hbig
  have HLONG := Lib.hid hlong
  have HAW := Lib.hid (awake_any ht)
  have HT := Lib.hid ht
  clear hlong ht
  cases big with
  | true =>
    clear hbig
    go_enter Tryd.func7, Tryd.ntmps7
    go_wp2_with fail
    refine (HAW.out).mono ?_
    rintro e wa ⟨rfl, hb2⟩
    go_wp2_with fail
    refine (HLONG.out wa).mono ?_
    rintro e w3 ⟨rfl, rfl⟩
    go_wp2_with fail
    go_ret
    exact bp_true rfl (hb2.alloc hb2.size _)
  | false =>
    have hle : n1 ≤ 80 := by simp at hbig; omega
    clear hbig
    have HA : RowKit.Hid (Arg w A n1 c1 (val x1) 80) := Lib.hid ⟨_, ha, rfl, by omega⟩
    generalize val x1 = a at HA
    clear hle ha
    rcases shift_ways v with hbig | ⟨s, rfl, hs⟩ | ⟨s, rfl, hs0, hs⟩
    · have HBIG := Lib.hid hbig
      clear hbig
      obtain ⟨z, tt, hsm⟩ : ∃ z tt, smallV a = (z, tt) := ⟨_, _, rfl⟩
      have HSM := Lib.hid hsm
      obtain ⟨bl, hbl⟩ : ∃ bl, bln a = bl := ⟨_, rfl⟩
      have HBL := Lib.hid hbl
      clear hsm hbl
      go_enter Tryd.func7, Tryd.ntmps7
      go_wp2_with fail
      refine (HAW.out).mono ?_
      rintro e wa ⟨rfl, hb2⟩
      go_wp2_with fail
      refine (HLONG.out wa).mono ?_
      rintro e w3 ⟨rfl, rfl⟩
      have HB0 := Lib.hid (hb2.alloc hb2.size (.cells #[.slice A n1 c1] 23))
      clear hb2
      go_wp2_with fail
      refine (shift_big _ HBIG.out).mono ?_
      rintro e w' ⟨rfl, rfl⟩
      go_wp2_with fail
      refine (refShift_big _ HBIG.out).mono ?_
      rintro e w' ⟨rfl, rfl⟩
      go_wp2_with fail
      refine (small_num (HA.out.below HB0.out) (by omega) (q := (z, tt)) HSM.out).mono ?_
      rintro e w' ⟨rfl, rfl⟩
      go_wp2_with fail
      refine (refSmall_num (HA.out.below HB0.out) (by omega) (q := (z, tt)) HSM.out).mono ?_
      rintro e w1 ⟨rfl, hb⟩
      have HB1 := Lib.hid (HB0.out.trans (hb.mono HB0.out.size))
      clear hb
      go_wp2_with fail
      refine (same_nil _).mono ?_
      rintro e w2 ⟨rfl, hb⟩
      have HB2 := Lib.hid (HB1.out.trans (hb.mono HB1.out.size))
      clear hb
      go_wp2_with fail
      refine (bits_num (HA.out.below HB2.out) (by omega) HBL.out).mono ?_
      rintro e w' ⟨rfl, rfl⟩
      go_wp2_with fail
      refine (refBits_num (HA.out.below HB2.out) (by omega) HBL.out).mono ?_
      rintro e w3 ⟨rfl, hb⟩
      have HB3 := Lib.hid (HB2.out.trans (hb.mono HB2.out.size))
      clear hb
      go_wp2_with fail
      refine (of_num u (by omega) _).mono ?_
      rintro e w4 ⟨hb, go, Lo, rfl, _, hr⟩
      have HB4 := Lib.hid (HB3.out.trans (hb.mono HB3.out.size))
      have Ro_4 := Lib.hid hr
      clear hb hr
      go_wp2_with fail
      refine (refOf_num (x := u) (by omega)).mono ?_
      rintro e w5 ⟨hb, Ap, np, cp, rfl, hr⟩
      have HB5 := Lib.hid (HB4.out.trans (hb.mono HB4.out.size))
      have Ro_5 := Lib.hid (Ro_4.out.below hb)
      have Qp_5 := Lib.hid hr
      clear hb hr
      go_wp2_with fail
      refine (same_ref2 Ro_5.out Qp_5.out (by omega) rfl).mono ?_
      rintro e w6 ⟨rfl, hb⟩
      have HB6 := Lib.hid (HB5.out.trans (hb.mono HB5.out.size))
      clear hb
      go_wp2_with fail
      go_ret
      exact bp_true (by simp) HB6.out
    · obtain ⟨z, tt, hsm⟩ : ∃ z tt, smallV a = (z, tt) := ⟨_, _, rfl⟩
      have HSM := Lib.hid hsm
      obtain ⟨bl, hbl⟩ : ∃ bl, bln a = bl := ⟨_, rfl⟩
      have HBL := Lib.hid hbl
      clear hsm hbl
      go_enter Tryd.func7, Tryd.ntmps7
      go_wp2_with fail
      refine (HAW.out).mono ?_
      rintro e wa ⟨rfl, hb2⟩
      go_wp2_with fail
      refine (HLONG.out wa).mono ?_
      rintro e w3 ⟨rfl, rfl⟩
      have HB0 := Lib.hid (hb2.alloc hb2.size (.cells #[.slice A n1 c1] 23))
      clear hb2
      go_wp2_with fail
      refine (shift_up_num2 (HA.out.below HB0.out) (by omega) s hs).mono ?_
      rintro e w1 ⟨hb, gs, Ls, rfl, _, hr⟩
      have HB1 := Lib.hid (HB0.out.trans (hb.mono HB0.out.size))
      have Rs_1 := Lib.hid hr
      clear hb hr
      go_wp2_with fail
      refine (refShift_up_num (HA.out.below HB1.out) (by omega) s hs).mono ?_
      rintro e w2 ⟨hb, At, nt, ct, rfl, hr⟩
      have HB2 := Lib.hid (HB1.out.trans (hb.mono HB1.out.size))
      have Rs_2 := Lib.hid (Rs_1.out.below hb)
      have Qt_2 := Lib.hid hr
      clear hb hr
      go_wp2_with fail
      refine (small_num (HA.out.below HB2.out) (by omega) (q := (z, tt)) HSM.out).mono ?_
      rintro e w' ⟨rfl, rfl⟩
      go_wp2_with fail
      refine (refSmall_num (HA.out.below HB2.out) (by omega) (q := (z, tt)) HSM.out).mono ?_
      rintro e w3 ⟨rfl, hb⟩
      have HB3 := Lib.hid (HB2.out.trans (hb.mono HB2.out.size))
      have Rs_3 := Lib.hid (Rs_2.out.below hb)
      have Qt_3 := Lib.hid (Qt_2.out.below hb)
      clear hb
      go_wp2_with fail
      refine (same_ref2 Rs_3.out Qt_3.out (by omega) rfl).mono ?_
      rintro e w4 ⟨rfl, hb⟩
      have HB4 := Lib.hid (HB3.out.trans (hb.mono HB3.out.size))
      have Qt_4 := Lib.hid (Qt_3.out.below hb)
      clear hb
      go_wp2_with fail
      refine (bits_num (HA.out.below HB4.out) (by omega) HBL.out).mono ?_
      rintro e w' ⟨rfl, rfl⟩
      go_wp2_with fail
      refine (refBits_num (HA.out.below HB4.out) (by omega) HBL.out).mono ?_
      rintro e w5 ⟨rfl, hb⟩
      have HB5 := Lib.hid (HB4.out.trans (hb.mono HB4.out.size))
      have Qt_5 := Lib.hid (Qt_4.out.below hb)
      clear hb
      go_wp2_with fail
      refine (of_num u (by omega) _).mono ?_
      rintro e w6 ⟨hb, go, Lo, rfl, _, hr⟩
      have HB6 := Lib.hid (HB5.out.trans (hb.mono HB5.out.size))
      have Qt_6 := Lib.hid (Qt_5.out.below hb)
      have Ro_6 := Lib.hid hr
      clear hb hr
      go_wp2_with fail
      refine (refOf_num (x := u) (by omega)).mono ?_
      rintro e w7 ⟨hb, Ap, np, cp, rfl, hr⟩
      have HB7 := Lib.hid (HB6.out.trans (hb.mono HB6.out.size))
      have Ro_7 := Lib.hid (Ro_6.out.below hb)
      have Qt_7 := Lib.hid (Qt_6.out.below hb)
      have Qp_7 := Lib.hid hr
      clear hb hr
      go_wp2_with fail
      refine (same_ref2 Ro_7.out Qp_7.out (by omega) rfl).mono ?_
      rintro e w8 ⟨rfl, hb⟩
      have HB8 := Lib.hid (HB7.out.trans (hb.mono HB7.out.size))
      have Qt_8 := Lib.hid (Qt_7.out.below hb)
      clear hb
      go_wp2_with fail
      go_ret
      exact bp_true (by simp) HB8.out
    · obtain ⟨z, tt, hsm⟩ : ∃ z tt, smallV a = (z, tt) := ⟨_, _, rfl⟩
      have HSM := Lib.hid hsm
      obtain ⟨bl, hbl⟩ : ∃ bl, bln a = bl := ⟨_, rfl⟩
      have HBL := Lib.hid hbl
      clear hsm hbl
      go_enter Tryd.func7, Tryd.ntmps7
      go_wp2_with fail
      refine (HAW.out).mono ?_
      rintro e wa ⟨rfl, hb2⟩
      go_wp2_with fail
      refine (HLONG.out wa).mono ?_
      rintro e w3 ⟨rfl, rfl⟩
      have HB0 := Lib.hid (hb2.alloc hb2.size (.cells #[.slice A n1 c1] 23))
      clear hb2
      go_wp2_with fail
      refine (shift_down_num2 (HA.out.below HB0.out) (by omega) s hs hs0).mono ?_
      rintro e w1 ⟨hb, gs, Ls, rfl, _, hr⟩
      have HB1 := Lib.hid (HB0.out.trans (hb.mono HB0.out.size))
      have Rs_1 := Lib.hid hr
      clear hb hr
      go_wp2_with fail
      refine (refShift_down_num (HA.out.below HB1.out) (by omega) s hs).mono ?_
      rintro e w2 ⟨hb, At, nt, ct, rfl, hr⟩
      have HB2 := Lib.hid (HB1.out.trans (hb.mono HB1.out.size))
      have Rs_2 := Lib.hid (Rs_1.out.below hb)
      have Qt_2 := Lib.hid hr
      clear hb hr
      go_wp2_with fail
      refine (small_num (HA.out.below HB2.out) (by omega) (q := (z, tt)) HSM.out).mono ?_
      rintro e w' ⟨rfl, rfl⟩
      go_wp2_with fail
      refine (refSmall_num (HA.out.below HB2.out) (by omega) (q := (z, tt)) HSM.out).mono ?_
      rintro e w3 ⟨rfl, hb⟩
      have HB3 := Lib.hid (HB2.out.trans (hb.mono HB2.out.size))
      have Rs_3 := Lib.hid (Rs_2.out.below hb)
      have Qt_3 := Lib.hid (Qt_2.out.below hb)
      clear hb
      go_wp2_with fail
      refine (same_ref2 Rs_3.out Qt_3.out (by omega) rfl).mono ?_
      rintro e w4 ⟨rfl, hb⟩
      have HB4 := Lib.hid (HB3.out.trans (hb.mono HB3.out.size))
      have Qt_4 := Lib.hid (Qt_3.out.below hb)
      clear hb
      go_wp2_with fail
      refine (bits_num (HA.out.below HB4.out) (by omega) HBL.out).mono ?_
      rintro e w' ⟨rfl, rfl⟩
      go_wp2_with fail
      refine (refBits_num (HA.out.below HB4.out) (by omega) HBL.out).mono ?_
      rintro e w5 ⟨rfl, hb⟩
      have HB5 := Lib.hid (HB4.out.trans (hb.mono HB4.out.size))
      have Qt_5 := Lib.hid (Qt_4.out.below hb)
      clear hb
      go_wp2_with fail
      refine (of_num u (by omega) _).mono ?_
      rintro e w6 ⟨hb, go, Lo, rfl, _, hr⟩
      have HB6 := Lib.hid (HB5.out.trans (hb.mono HB5.out.size))
      have Qt_6 := Lib.hid (Qt_5.out.below hb)
      have Ro_6 := Lib.hid hr
      clear hb hr
      go_wp2_with fail
      refine (refOf_num (x := u) (by omega)).mono ?_
      rintro e w7 ⟨hb, Ap, np, cp, rfl, hr⟩
      have HB7 := Lib.hid (HB6.out.trans (hb.mono HB6.out.size))
      have Ro_7 := Lib.hid (Ro_6.out.below hb)
      have Qt_7 := Lib.hid (Qt_6.out.below hb)
      have Qp_7 := Lib.hid hr
      clear hb hr
      go_wp2_with fail
      refine (same_ref2 Ro_7.out Qp_7.out (by omega) rfl).mono ?_
      rintro e w8 ⟨rfl, hb⟩
      have HB8 := Lib.hid (HB7.out.trans (hb.mono HB7.out.size))
      have Qt_8 := Lib.hid (Qt_7.out.below hb)
      clear hb
      go_wp2_with fail
      go_ret
      exact bp_true (by simp) HB8.out

end Go.Proofs.YtgiepikoffaaiaaDoor
