/- NatBack: the law, walked. -/
import Derived.Test.YtgiepikoffaaiaaDoorBackP
import Derived.IntWalk
namespace Go.Proofs.YtgiepikoffaaiaaDoor
open Go.RowKit

theorem back_ways (a : Nat) : a = 0 ∨ (a ≠ 0 ∧ a < 18446744073709551616) ∨ (a ≠ 0 ∧ ¬ a < 18446744073709551616) := by omega
theorem ne_self {l : List UInt8} (W : World) : (binOp .neq 9 (.string ⟨l.toArray⟩) (.string ⟨l.toArray⟩)).run Tryd.prog W = .ok (.bool false) W := by
  simp [go_sem]

set_option linter.unusedSimpArgs false in
set_option maxRecDepth 100000 in
set_option maxHeartbeats 4000000 in
theorem back_long {A : Option Addr} {n1 c1 : Nat} {w : World} (s : ByteArray) (up : Nat) (ht : Tab w) (hbig : 80 < n1 ∨ 800 < s.size ∨ 4000 < up) :
    Calls Tryd.prog 11 #[.slice A n1 c1, .string s, .int .u16 (up : Int)] w (BoolPost true w) := by
  have hlong := fun (w2 : World) => long_one (Blk.new w2 23 #[.slice A n1 c1]) (b := decide (80 < n1)) rfl
  have HLONG := Lib.hid hlong
  have HAW := Lib.hid (awake_any ht)
  clear hlong ht
  by_cases h1 : 80 < n1
  · rw [decide_eq_true h1] at HLONG
    clear h1 hbig
    go_enter Tryd.func11, Tryd.ntmps11
    go_wp2_with fail
    refine (HAW.out).mono ?_
    rintro e wa ⟨rfl, hb2⟩
    go_wp2_with fail
    refine (HLONG.out wa).mono ?_
    rintro e w3 ⟨rfl, rfl⟩
    go_wp2_with fail
    go_ret
    exact bp_true rfl (hb2.alloc hb2.size _)
  · rw [decide_eq_false h1] at HLONG
    by_cases h2 : 800 < s.size
    · clear h1 hbig
      go_enter Tryd.func11, Tryd.ntmps11
      go_wp2_with fail
      refine (HAW.out).mono ?_
      rintro e wa ⟨rfl, hb2⟩
      go_wp2_with fail
      refine (HLONG.out wa).mono ?_
      rintro e w3 ⟨rfl, rfl⟩
      go_wp2_with fail
      go_ret
      exact bp_true rfl (hb2.alloc hb2.size _)
    · have h3 : 4000 < up := by omega
      clear h1 hbig
      go_enter Tryd.func11, Tryd.ntmps11
      go_wp2_with fail
      refine (HAW.out).mono ?_
      rintro e wa ⟨rfl, hb2⟩
      go_wp2_with fail
      refine (HLONG.out wa).mono ?_
      rintro e w3 ⟨rfl, rfl⟩
      go_wp2_with fail
      go_ret
      exact bp_true rfl (hb2.alloc hb2.size _)

set_option linter.unusedSimpArgs false in
set_option maxRecDepth 100000 in
set_option maxHeartbeats 4000000 in
theorem back_law {A : Option Addr} {n1 c1 : Nat} {x1 : List Nat} {w : World} (ha : NatV w A n1 c1 x1) (ht : Tab w) (s : ByteArray) (up : Nat) :
    Calls Tryd.prog 11 #[.slice A n1 c1, .string s, .int .u16 (up : Int)] w (BoolPost true w) := by
  by_cases hbig : 80 < n1 ∨ 800 < s.size ∨ 4000 < up
  · exact back_long s up ht hbig
  have hle : n1 ≤ 80 ∧ s.size ≤ 800 ∧ up ≤ 4000 := by omega
  obtain ⟨hn1, hsz, hup⟩ := hle
  have hlong := fun (w2 : World) => long_one (Blk.new w2 23 #[.slice A n1 c1]) (b := false) (decide_eq_false (by omega)).symm
  have HLONG := Lib.hid hlong
  have HAW := Lib.hid (awake_any ht)
  have HT := Lib.hid ht
  clear hlong ht
  have HA : RowKit.Hid (Arg w A n1 c1 (val x1) 80) := Lib.hid ⟨_, ha, rfl, hn1⟩
  generalize val x1 = a at HA
  clear ha hn1 hbig
  have HDS := Lib.hid (dec_size HA.out (by omega))
  have HND := Lib.hid (dec_numB a)
  have HDD := Lib.hid (dnum_dec a)
  have hwr : IntKind.i64.wrap (up : Int) = (up : Int) := IntWalk.i64_in _ (by omega)
  have heq := @ne_self s.data.toList
  have HB9 := Lib.hid (rfl : bln a = bln a)
  cases hnb : numB s.data.toList with
  | true =>
    have HNB := Lib.hid hnb
    clear hnb
    have HDO := Lib.hid (dec_of_num HNB.out)
    rcases back_ways a with h0 | ⟨h0, hv⟩ | ⟨h0, hv⟩
    · have HW0 := Lib.hid h0
      obtain ⟨b, hb⟩ : ∃ b, b = bln a := ⟨_, rfl⟩
      have HBL := Lib.hid hb.symm
      have hbz : b = 0 := by rw [hb, HW0.out]; rfl
      subst hbz
      clear hb h0
      go_enter Tryd.func11, Tryd.ntmps11
      go_wp2_with fail
      refine (HAW.out).mono ?_
      rintro e wa ⟨rfl, hb2⟩
      go_wp2_with fail
      refine (HLONG.out wa).mono ?_
      rintro e w3 ⟨rfl, rfl⟩
      have HB0 := Lib.hid (hb2.alloc hb2.size (.cells #[.slice A n1 c1] 23))
      clear hb2
      go_wp2_with fail
      refine (decimal_num (HA.out.below HB0.out) (by omega) (tab_below HT.out HB0.out)).mono ?_
      rintro e w1 ⟨rfl, hb⟩
      have HB1 := Lib.hid (HB0.out.trans (hb.mono HB0.out.size))
      clear hb
      have HP1 := Lib.hid (parse_num ⟨(Lib.decDigits a).toArray⟩ w1 HDS.out HND.out)
      go_wp2_with fail
      refine (HP1.out).mono ?_
      rintro e w2 ⟨hb, gp1, Lp1, rfl, _, hr⟩
      have HB2 := Lib.hid (HB1.out.trans (hb.mono HB1.out.size))
      have Rp1_2 := Lib.hid hr
      clear hb hr
      go_wp2_with fail
      refine (norm_num' (HA.out.below HB2.out)).mono ?_
      rintro e w3 ⟨hb, gr1, Lr1, rfl, _, hr⟩
      have HB3 := Lib.hid (HB2.out.trans (hb.mono HB2.out.size))
      have Rp1_3 := Lib.hid (Rp1_2.out.below hb)
      have Rr1_3 := Lib.hid hr
      clear hb hr
      go_wp2_with fail
      refine (same_num Rp1_3.out Rr1_3.out (by omega) (by omega) (HDD.out)).mono ?_
      rintro e w4 ⟨rfl, hb⟩
      have HB4 := Lib.hid (HB3.out.trans (hb.mono HB3.out.size))
      clear hb
      go_wp2_with fail
      refine (parse_num s _ (by omega) HNB.out).mono ?_
      rintro e w5 ⟨hb, gp2, Lp2, rfl, _, hr⟩
      have HB5 := Lib.hid (HB4.out.trans (hb.mono HB4.out.size))
      have Rp2_5 := Lib.hid hr
      clear hb hr
      have HD2 := Lib.hid (decimal_num (Rp2_5.out.arg (by omega)) (by omega) (tab_below HT.out HB5.out))
      rw [HDO.out] at HD2
      go_wp2_with fail
      refine (HD2.out).mono ?_
      rintro e w6 ⟨rfl, hb⟩
      have HB6 := Lib.hid (HB5.out.trans (hb.mono HB5.out.size))
      clear hb
      go_wp2_with fail
      refine (shift_up_num (HA.out.below HB6.out) (by omega) up hup rfl).mono ?_
      rintro e w7 ⟨hb, gu, Lu, rfl, _, hr⟩
      have HB7 := Lib.hid (HB6.out.trans (hb.mono HB6.out.size))
      have Ru_7 := Lib.hid hr
      clear hb hr
      go_wp2_with fail
      refine (shift_down_num (Ru_7.out.arg (by omega)) (by omega) up hup).mono ?_
      rintro e w8 ⟨hb, gd, Ld, rfl, _, hr⟩
      have HB8 := Lib.hid (HB7.out.trans (hb.mono HB7.out.size))
      have Ru_8 := Lib.hid (Ru_7.out.below hb)
      have Rd_8 := Lib.hid hr
      clear hb hr
      have HB9 := Lib.hid (HB8.out.alloc HB8.out.size (.cells #[.int .u32 1] 34))
      have Ru_9 := Lib.hid (Ru_8.out.alloc (.cells #[.int .u32 1] 34))
      have Rd_9 := Lib.hid (Rd_8.out.alloc (.cells #[.int .u32 1] 34))
      have Rl1_9 := Lib.hid (lit_one w8)
      go_wp2_with fail
      refine (shift_up_num (Rl1_9.out.arg (by omega)) (by omega) up hup rfl).mono ?_
      rintro e w10 ⟨hb, gt, Lt, rfl, _, hr⟩
      have HB10 := Lib.hid (HB9.out.trans (hb.mono HB9.out.size))
      have Ru_10 := Lib.hid (Ru_9.out.below hb)
      have Rd_10 := Lib.hid (Rd_9.out.below hb)
      have Rl1_10 := Lib.hid (Rl1_9.out.below hb)
      have Rt_10 := Lib.hid hr
      clear hb hr
      go_wp2_with fail
      refine (norm_num' (HA.out.below HB10.out)).mono ?_
      rintro e w11 ⟨hb, gr2, Lr2, rfl, _, hr⟩
      have HB11 := Lib.hid (HB10.out.trans (hb.mono HB10.out.size))
      have Ru_11 := Lib.hid (Ru_10.out.below hb)
      have Rd_11 := Lib.hid (Rd_10.out.below hb)
      have Rt_11 := Lib.hid (Rt_10.out.below hb)
      have Rr2_11 := Lib.hid hr
      clear hb hr
      go_wp2_with fail
      refine (same_num Rd_11.out Rr2_11.out (by omega) (by omega) (Nat.mul_div_cancel _ (Nat.pow_pos (by decide)))).mono ?_
      rintro e w12 ⟨rfl, hb⟩
      have HB12 := Lib.hid (HB11.out.trans (hb.mono HB11.out.size))
      have Ru_12 := Lib.hid (Ru_11.out.below hb)
      have Rt_12 := Lib.hid (Rt_11.out.below hb)
      clear hb
      go_wp2_with fail
      refine (mul_num (HA.out.below HB12.out) (Rt_12.out.arg (by omega)) (by omega) (by omega) rfl).mono ?_
      rintro e w13 ⟨hb, gr3, Lr3, rfl, _, hr⟩
      have HB13 := Lib.hid (HB12.out.trans (hb.mono HB12.out.size))
      have Ru_13 := Lib.hid (Ru_12.out.below hb)
      have Rr3_13 := Lib.hid hr
      clear hb hr
      go_wp2_with fail
      refine (same_num Ru_13.out Rr3_13.out (by omega) (by omega) (by rw [Nat.one_mul])).mono ?_
      rintro e w14 ⟨rfl, hb⟩
      have HB14 := Lib.hid (HB13.out.trans (hb.mono HB13.out.size))
      have Ru_14 := Lib.hid (Ru_13.out.below hb)
      clear hb
      go_wp2_with fail
      refine (bits_num (HA.out.below HB14.out) (by omega) HBL.out).mono ?_
      rintro e w' ⟨rfl, rfl⟩
      go_wp2_with fail
      refine (small_num (HA.out.below HB14.out) (by omega) (q := ((a : Int), true)) (if_pos (by rw [HW0.out]; omega))).mono ?_
      rintro e w' ⟨rfl, rfl⟩
      go_wp2_with fail
      refine (bits_num (HA.out.below HB14.out) (by omega) HBL.out).mono ?_
      rintro e w' ⟨rfl, rfl⟩
      go_wp2_with fail
      refine (of_num a (by rw [HW0.out]; omega) _).mono ?_
      rintro e w15 ⟨hb, go9, Lo9, rfl, _, hr⟩
      have HB15 := Lib.hid (HB14.out.trans (hb.mono HB14.out.size))
      have Ro9_15 := Lib.hid hr
      clear hb hr
      go_wp2_with fail
      refine (norm_num' (HA.out.below HB15.out)).mono ?_
      rintro e w16 ⟨hb, gr4, Lr4, rfl, _, hr⟩
      have HB16 := Lib.hid (HB15.out.trans (hb.mono HB15.out.size))
      have Ro9_16 := Lib.hid (Ro9_15.out.below hb)
      have Rr4_16 := Lib.hid hr
      clear hb hr
      go_wp2_with fail
      refine (same_num Ro9_16.out Rr4_16.out (by omega) (by omega) (rfl)).mono ?_
      rintro e w17 ⟨rfl, hb⟩
      have HB17 := Lib.hid (HB16.out.trans (hb.mono HB16.out.size))
      clear hb
      go_wp2_with fail
      go_ret
      exact bp_true rfl HB17.out
    · have HW0 := Lib.hid h0
      have HWV := Lib.hid hv
      obtain ⟨b, hb⟩ : ∃ b, b = bln a := ⟨_, rfl⟩
      have HBL := Lib.hid hb.symm
      have hb0 : 0 < b := by rw [hb]; have := (bln_ge HW0.out).2.2; omega
      have hb64 : b ≤ 64 := by rw [hb, bln_le]; exact HWV.out
      have hble : b ≤ 2560 := by rw [hb]; exact bln_pw HA.out.lt
      clear hb h0 hv
      go_enter Tryd.func11, Tryd.ntmps11
      go_wp2_with fail
      refine (HAW.out).mono ?_
      rintro e wa ⟨rfl, hb2⟩
      go_wp2_with fail
      refine (HLONG.out wa).mono ?_
      rintro e w3 ⟨rfl, rfl⟩
      have HB0 := Lib.hid (hb2.alloc hb2.size (.cells #[.slice A n1 c1] 23))
      clear hb2
      go_wp2_with fail
      refine (decimal_num (HA.out.below HB0.out) (by omega) (tab_below HT.out HB0.out)).mono ?_
      rintro e w1 ⟨rfl, hb⟩
      have HB1 := Lib.hid (HB0.out.trans (hb.mono HB0.out.size))
      clear hb
      have HP1 := Lib.hid (parse_num ⟨(Lib.decDigits a).toArray⟩ w1 HDS.out HND.out)
      go_wp2_with fail
      refine (HP1.out).mono ?_
      rintro e w2 ⟨hb, gp1, Lp1, rfl, _, hr⟩
      have HB2 := Lib.hid (HB1.out.trans (hb.mono HB1.out.size))
      have Rp1_2 := Lib.hid hr
      clear hb hr
      go_wp2_with fail
      refine (norm_num' (HA.out.below HB2.out)).mono ?_
      rintro e w3 ⟨hb, gr1, Lr1, rfl, _, hr⟩
      have HB3 := Lib.hid (HB2.out.trans (hb.mono HB2.out.size))
      have Rp1_3 := Lib.hid (Rp1_2.out.below hb)
      have Rr1_3 := Lib.hid hr
      clear hb hr
      go_wp2_with fail
      refine (same_num Rp1_3.out Rr1_3.out (by omega) (by omega) (HDD.out)).mono ?_
      rintro e w4 ⟨rfl, hb⟩
      have HB4 := Lib.hid (HB3.out.trans (hb.mono HB3.out.size))
      clear hb
      go_wp2_with fail
      refine (parse_num s _ (by omega) HNB.out).mono ?_
      rintro e w5 ⟨hb, gp2, Lp2, rfl, _, hr⟩
      have HB5 := Lib.hid (HB4.out.trans (hb.mono HB4.out.size))
      have Rp2_5 := Lib.hid hr
      clear hb hr
      have HD2 := Lib.hid (decimal_num (Rp2_5.out.arg (by omega)) (by omega) (tab_below HT.out HB5.out))
      rw [HDO.out] at HD2
      go_wp2_with fail
      refine (HD2.out).mono ?_
      rintro e w6 ⟨rfl, hb⟩
      have HB6 := Lib.hid (HB5.out.trans (hb.mono HB5.out.size))
      clear hb
      go_wp2_with fail
      refine (shift_up_num (HA.out.below HB6.out) (by omega) up hup rfl).mono ?_
      rintro e w7 ⟨hb, gu, Lu, rfl, _, hr⟩
      have HB7 := Lib.hid (HB6.out.trans (hb.mono HB6.out.size))
      have Ru_7 := Lib.hid hr
      clear hb hr
      go_wp2_with fail
      refine (shift_down_num (Ru_7.out.arg (by omega)) (by omega) up hup).mono ?_
      rintro e w8 ⟨hb, gd, Ld, rfl, _, hr⟩
      have HB8 := Lib.hid (HB7.out.trans (hb.mono HB7.out.size))
      have Ru_8 := Lib.hid (Ru_7.out.below hb)
      have Rd_8 := Lib.hid hr
      clear hb hr
      have HB9 := Lib.hid (HB8.out.alloc HB8.out.size (.cells #[.int .u32 1] 34))
      have Ru_9 := Lib.hid (Ru_8.out.alloc (.cells #[.int .u32 1] 34))
      have Rd_9 := Lib.hid (Rd_8.out.alloc (.cells #[.int .u32 1] 34))
      have Rl1_9 := Lib.hid (lit_one w8)
      go_wp2_with fail
      refine (shift_up_num (Rl1_9.out.arg (by omega)) (by omega) up hup rfl).mono ?_
      rintro e w10 ⟨hb, gt, Lt, rfl, _, hr⟩
      have HB10 := Lib.hid (HB9.out.trans (hb.mono HB9.out.size))
      have Ru_10 := Lib.hid (Ru_9.out.below hb)
      have Rd_10 := Lib.hid (Rd_9.out.below hb)
      have Rl1_10 := Lib.hid (Rl1_9.out.below hb)
      have Rt_10 := Lib.hid hr
      clear hb hr
      go_wp2_with fail
      refine (norm_num' (HA.out.below HB10.out)).mono ?_
      rintro e w11 ⟨hb, gr2, Lr2, rfl, _, hr⟩
      have HB11 := Lib.hid (HB10.out.trans (hb.mono HB10.out.size))
      have Ru_11 := Lib.hid (Ru_10.out.below hb)
      have Rd_11 := Lib.hid (Rd_10.out.below hb)
      have Rt_11 := Lib.hid (Rt_10.out.below hb)
      have Rr2_11 := Lib.hid hr
      clear hb hr
      go_wp2_with fail
      refine (same_num Rd_11.out Rr2_11.out (by omega) (by omega) (Nat.mul_div_cancel _ (Nat.pow_pos (by decide)))).mono ?_
      rintro e w12 ⟨rfl, hb⟩
      have HB12 := Lib.hid (HB11.out.trans (hb.mono HB11.out.size))
      have Ru_12 := Lib.hid (Ru_11.out.below hb)
      have Rt_12 := Lib.hid (Rt_11.out.below hb)
      clear hb
      go_wp2_with fail
      refine (mul_num (HA.out.below HB12.out) (Rt_12.out.arg (by omega)) (by omega) (by omega) rfl).mono ?_
      rintro e w13 ⟨hb, gr3, Lr3, rfl, _, hr⟩
      have HB13 := Lib.hid (HB12.out.trans (hb.mono HB12.out.size))
      have Ru_13 := Lib.hid (Ru_12.out.below hb)
      have Rr3_13 := Lib.hid hr
      clear hb hr
      go_wp2_with fail
      refine (same_num Ru_13.out Rr3_13.out (by omega) (by omega) (by rw [Nat.one_mul])).mono ?_
      rintro e w14 ⟨rfl, hb⟩
      have HB14 := Lib.hid (HB13.out.trans (hb.mono HB13.out.size))
      have Ru_14 := Lib.hid (Ru_13.out.below hb)
      clear hb
      go_wp2_with fail
      refine (bits_num (HA.out.below HB14.out) (by omega) HBL.out).mono ?_
      rintro e w' ⟨rfl, rfl⟩
      go_wp2_with fail
      refine (bits_num (Ru_14.out.arg (by omega)) (by omega) (b := b + up) (by rw [bln_shift HW0.out, HBL.out])).mono ?_
      rintro e w' ⟨rfl, rfl⟩
      go_wp2_with fail
      refine (bits_num (HA.out.below HB14.out) (by omega) HBL.out).mono ?_
      rintro e w' ⟨rfl, rfl⟩
      go_wp2_with fail
      refine (small_num (HA.out.below HB14.out) (by omega) (q := ((a : Int), true)) (if_pos (by exact HWV.out))).mono ?_
      rintro e w' ⟨rfl, rfl⟩
      go_wp2_with fail
      refine (bits_num (HA.out.below HB14.out) (by omega) HBL.out).mono ?_
      rintro e w' ⟨rfl, rfl⟩
      go_wp2_with fail
      refine (of_num a (by exact HWV.out) _).mono ?_
      rintro e w15 ⟨hb, go9, Lo9, rfl, _, hr⟩
      have HB15 := Lib.hid (HB14.out.trans (hb.mono HB14.out.size))
      have Ro9_15 := Lib.hid hr
      clear hb hr
      go_wp2_with fail
      refine (norm_num' (HA.out.below HB15.out)).mono ?_
      rintro e w16 ⟨hb, gr4, Lr4, rfl, _, hr⟩
      have HB16 := Lib.hid (HB15.out.trans (hb.mono HB15.out.size))
      have Ro9_16 := Lib.hid (Ro9_15.out.below hb)
      have Rr4_16 := Lib.hid hr
      clear hb hr
      go_wp2_with fail
      refine (same_num Ro9_16.out Rr4_16.out (by omega) (by omega) (rfl)).mono ?_
      rintro e w17 ⟨rfl, hb⟩
      have HB17 := Lib.hid (HB16.out.trans (hb.mono HB16.out.size))
      clear hb
      go_wp2_with fail
      go_ret
      exact bp_true rfl HB17.out
    · have HW0 := Lib.hid h0
      have HWV := Lib.hid hv
      obtain ⟨b, hb⟩ : ∃ b, b = bln a := ⟨_, rfl⟩
      have HBL := Lib.hid hb.symm
      have hb0 : 0 < b := by rw [hb]; have := (bln_ge HW0.out).2.2; omega
      have hb64 : ¬ b ≤ 64 := by rw [hb, bln_le]; exact HWV.out
      have hble : b ≤ 2560 := by rw [hb]; exact bln_pw HA.out.lt
      clear hb h0 hv
      go_enter Tryd.func11, Tryd.ntmps11
      go_wp2_with fail
      refine (HAW.out).mono ?_
      rintro e wa ⟨rfl, hb2⟩
      go_wp2_with fail
      refine (HLONG.out wa).mono ?_
      rintro e w3 ⟨rfl, rfl⟩
      have HB0 := Lib.hid (hb2.alloc hb2.size (.cells #[.slice A n1 c1] 23))
      clear hb2
      go_wp2_with fail
      refine (decimal_num (HA.out.below HB0.out) (by omega) (tab_below HT.out HB0.out)).mono ?_
      rintro e w1 ⟨rfl, hb⟩
      have HB1 := Lib.hid (HB0.out.trans (hb.mono HB0.out.size))
      clear hb
      have HP1 := Lib.hid (parse_num ⟨(Lib.decDigits a).toArray⟩ w1 HDS.out HND.out)
      go_wp2_with fail
      refine (HP1.out).mono ?_
      rintro e w2 ⟨hb, gp1, Lp1, rfl, _, hr⟩
      have HB2 := Lib.hid (HB1.out.trans (hb.mono HB1.out.size))
      have Rp1_2 := Lib.hid hr
      clear hb hr
      go_wp2_with fail
      refine (norm_num' (HA.out.below HB2.out)).mono ?_
      rintro e w3 ⟨hb, gr1, Lr1, rfl, _, hr⟩
      have HB3 := Lib.hid (HB2.out.trans (hb.mono HB2.out.size))
      have Rp1_3 := Lib.hid (Rp1_2.out.below hb)
      have Rr1_3 := Lib.hid hr
      clear hb hr
      go_wp2_with fail
      refine (same_num Rp1_3.out Rr1_3.out (by omega) (by omega) (HDD.out)).mono ?_
      rintro e w4 ⟨rfl, hb⟩
      have HB4 := Lib.hid (HB3.out.trans (hb.mono HB3.out.size))
      clear hb
      go_wp2_with fail
      refine (parse_num s _ (by omega) HNB.out).mono ?_
      rintro e w5 ⟨hb, gp2, Lp2, rfl, _, hr⟩
      have HB5 := Lib.hid (HB4.out.trans (hb.mono HB4.out.size))
      have Rp2_5 := Lib.hid hr
      clear hb hr
      have HD2 := Lib.hid (decimal_num (Rp2_5.out.arg (by omega)) (by omega) (tab_below HT.out HB5.out))
      rw [HDO.out] at HD2
      go_wp2_with fail
      refine (HD2.out).mono ?_
      rintro e w6 ⟨rfl, hb⟩
      have HB6 := Lib.hid (HB5.out.trans (hb.mono HB5.out.size))
      clear hb
      go_wp2_with fail
      refine (shift_up_num (HA.out.below HB6.out) (by omega) up hup rfl).mono ?_
      rintro e w7 ⟨hb, gu, Lu, rfl, _, hr⟩
      have HB7 := Lib.hid (HB6.out.trans (hb.mono HB6.out.size))
      have Ru_7 := Lib.hid hr
      clear hb hr
      go_wp2_with fail
      refine (shift_down_num (Ru_7.out.arg (by omega)) (by omega) up hup).mono ?_
      rintro e w8 ⟨hb, gd, Ld, rfl, _, hr⟩
      have HB8 := Lib.hid (HB7.out.trans (hb.mono HB7.out.size))
      have Ru_8 := Lib.hid (Ru_7.out.below hb)
      have Rd_8 := Lib.hid hr
      clear hb hr
      have HB9 := Lib.hid (HB8.out.alloc HB8.out.size (.cells #[.int .u32 1] 34))
      have Ru_9 := Lib.hid (Ru_8.out.alloc (.cells #[.int .u32 1] 34))
      have Rd_9 := Lib.hid (Rd_8.out.alloc (.cells #[.int .u32 1] 34))
      have Rl1_9 := Lib.hid (lit_one w8)
      go_wp2_with fail
      refine (shift_up_num (Rl1_9.out.arg (by omega)) (by omega) up hup rfl).mono ?_
      rintro e w10 ⟨hb, gt, Lt, rfl, _, hr⟩
      have HB10 := Lib.hid (HB9.out.trans (hb.mono HB9.out.size))
      have Ru_10 := Lib.hid (Ru_9.out.below hb)
      have Rd_10 := Lib.hid (Rd_9.out.below hb)
      have Rl1_10 := Lib.hid (Rl1_9.out.below hb)
      have Rt_10 := Lib.hid hr
      clear hb hr
      go_wp2_with fail
      refine (norm_num' (HA.out.below HB10.out)).mono ?_
      rintro e w11 ⟨hb, gr2, Lr2, rfl, _, hr⟩
      have HB11 := Lib.hid (HB10.out.trans (hb.mono HB10.out.size))
      have Ru_11 := Lib.hid (Ru_10.out.below hb)
      have Rd_11 := Lib.hid (Rd_10.out.below hb)
      have Rt_11 := Lib.hid (Rt_10.out.below hb)
      have Rr2_11 := Lib.hid hr
      clear hb hr
      go_wp2_with fail
      refine (same_num Rd_11.out Rr2_11.out (by omega) (by omega) (Nat.mul_div_cancel _ (Nat.pow_pos (by decide)))).mono ?_
      rintro e w12 ⟨rfl, hb⟩
      have HB12 := Lib.hid (HB11.out.trans (hb.mono HB11.out.size))
      have Ru_12 := Lib.hid (Ru_11.out.below hb)
      have Rt_12 := Lib.hid (Rt_11.out.below hb)
      clear hb
      go_wp2_with fail
      refine (mul_num (HA.out.below HB12.out) (Rt_12.out.arg (by omega)) (by omega) (by omega) rfl).mono ?_
      rintro e w13 ⟨hb, gr3, Lr3, rfl, _, hr⟩
      have HB13 := Lib.hid (HB12.out.trans (hb.mono HB12.out.size))
      have Ru_13 := Lib.hid (Ru_12.out.below hb)
      have Rr3_13 := Lib.hid hr
      clear hb hr
      go_wp2_with fail
      refine (same_num Ru_13.out Rr3_13.out (by omega) (by omega) (by rw [Nat.one_mul])).mono ?_
      rintro e w14 ⟨rfl, hb⟩
      have HB14 := Lib.hid (HB13.out.trans (hb.mono HB13.out.size))
      have Ru_14 := Lib.hid (Ru_13.out.below hb)
      clear hb
      go_wp2_with fail
      refine (bits_num (HA.out.below HB14.out) (by omega) HBL.out).mono ?_
      rintro e w' ⟨rfl, rfl⟩
      go_wp2_with fail
      refine (bits_num (Ru_14.out.arg (by omega)) (by omega) (b := b + up) (by rw [bln_shift HW0.out, HBL.out])).mono ?_
      rintro e w' ⟨rfl, rfl⟩
      go_wp2_with fail
      refine (bits_num (HA.out.below HB14.out) (by omega) HBL.out).mono ?_
      rintro e w' ⟨rfl, rfl⟩
      go_wp2_with fail
      refine (small_num (HA.out.below HB14.out) (by omega) (q := (0, false)) (if_neg HWV.out)).mono ?_
      rintro e w' ⟨rfl, rfl⟩
      go_wp2_with fail
      refine (bits_num (HA.out.below HB14.out) (by omega) HBL.out).mono ?_
      rintro e w' ⟨rfl, rfl⟩
      go_wp2_with fail
      go_ret
      exact bp_true (by simp; omega) HB14.out
  | false =>
    have HNB := Lib.hid hnb
    clear hnb
    rcases back_ways a with h0 | ⟨h0, hv⟩ | ⟨h0, hv⟩
    · have HW0 := Lib.hid h0
      obtain ⟨b, hb⟩ : ∃ b, b = bln a := ⟨_, rfl⟩
      have HBL := Lib.hid hb.symm
      have hbz : b = 0 := by rw [hb, HW0.out]; rfl
      subst hbz
      clear hb h0
      go_enter Tryd.func11, Tryd.ntmps11
      go_wp2_with fail
      refine (HAW.out).mono ?_
      rintro e wa ⟨rfl, hb2⟩
      go_wp2_with fail
      refine (HLONG.out wa).mono ?_
      rintro e w3 ⟨rfl, rfl⟩
      have HB0 := Lib.hid (hb2.alloc hb2.size (.cells #[.slice A n1 c1] 23))
      clear hb2
      go_wp2_with fail
      refine (decimal_num (HA.out.below HB0.out) (by omega) (tab_below HT.out HB0.out)).mono ?_
      rintro e w1 ⟨rfl, hb⟩
      have HB1 := Lib.hid (HB0.out.trans (hb.mono HB0.out.size))
      clear hb
      have HP1 := Lib.hid (parse_num ⟨(Lib.decDigits a).toArray⟩ w1 HDS.out HND.out)
      go_wp2_with fail
      refine (HP1.out).mono ?_
      rintro e w2 ⟨hb, gp1, Lp1, rfl, _, hr⟩
      have HB2 := Lib.hid (HB1.out.trans (hb.mono HB1.out.size))
      have Rp1_2 := Lib.hid hr
      clear hb hr
      go_wp2_with fail
      refine (norm_num' (HA.out.below HB2.out)).mono ?_
      rintro e w3 ⟨hb, gr1, Lr1, rfl, _, hr⟩
      have HB3 := Lib.hid (HB2.out.trans (hb.mono HB2.out.size))
      have Rp1_3 := Lib.hid (Rp1_2.out.below hb)
      have Rr1_3 := Lib.hid hr
      clear hb hr
      go_wp2_with fail
      refine (same_num Rp1_3.out Rr1_3.out (by omega) (by omega) (HDD.out)).mono ?_
      rintro e w4 ⟨rfl, hb⟩
      have HB4 := Lib.hid (HB3.out.trans (hb.mono HB3.out.size))
      clear hb
      go_wp2_with fail
      refine (parse_err s _ (by omega) HNB.out).mono ?_
      rintro e w5 ⟨rfl, hb⟩
      have HB5 := Lib.hid (HB4.out.trans (hb.mono HB4.out.size))
      clear hb
      go_wp2_with fail
      refine (shift_up_num (HA.out.below HB5.out) (by omega) up hup rfl).mono ?_
      rintro e w6 ⟨hb, gu, Lu, rfl, _, hr⟩
      have HB6 := Lib.hid (HB5.out.trans (hb.mono HB5.out.size))
      have Ru_6 := Lib.hid hr
      clear hb hr
      go_wp2_with fail
      refine (shift_down_num (Ru_6.out.arg (by omega)) (by omega) up hup).mono ?_
      rintro e w7 ⟨hb, gd, Ld, rfl, _, hr⟩
      have HB7 := Lib.hid (HB6.out.trans (hb.mono HB6.out.size))
      have Ru_7 := Lib.hid (Ru_6.out.below hb)
      have Rd_7 := Lib.hid hr
      clear hb hr
      have HB8 := Lib.hid (HB7.out.alloc HB7.out.size (.cells #[.int .u32 1] 34))
      have Ru_8 := Lib.hid (Ru_7.out.alloc (.cells #[.int .u32 1] 34))
      have Rd_8 := Lib.hid (Rd_7.out.alloc (.cells #[.int .u32 1] 34))
      have Rl1_8 := Lib.hid (lit_one w7)
      go_wp2_with fail
      refine (shift_up_num (Rl1_8.out.arg (by omega)) (by omega) up hup rfl).mono ?_
      rintro e w9 ⟨hb, gt, Lt, rfl, _, hr⟩
      have HB9 := Lib.hid (HB8.out.trans (hb.mono HB8.out.size))
      have Ru_9 := Lib.hid (Ru_8.out.below hb)
      have Rd_9 := Lib.hid (Rd_8.out.below hb)
      have Rl1_9 := Lib.hid (Rl1_8.out.below hb)
      have Rt_9 := Lib.hid hr
      clear hb hr
      go_wp2_with fail
      refine (norm_num' (HA.out.below HB9.out)).mono ?_
      rintro e w10 ⟨hb, gr2, Lr2, rfl, _, hr⟩
      have HB10 := Lib.hid (HB9.out.trans (hb.mono HB9.out.size))
      have Ru_10 := Lib.hid (Ru_9.out.below hb)
      have Rd_10 := Lib.hid (Rd_9.out.below hb)
      have Rt_10 := Lib.hid (Rt_9.out.below hb)
      have Rr2_10 := Lib.hid hr
      clear hb hr
      go_wp2_with fail
      refine (same_num Rd_10.out Rr2_10.out (by omega) (by omega) (Nat.mul_div_cancel _ (Nat.pow_pos (by decide)))).mono ?_
      rintro e w11 ⟨rfl, hb⟩
      have HB11 := Lib.hid (HB10.out.trans (hb.mono HB10.out.size))
      have Ru_11 := Lib.hid (Ru_10.out.below hb)
      have Rt_11 := Lib.hid (Rt_10.out.below hb)
      clear hb
      go_wp2_with fail
      refine (mul_num (HA.out.below HB11.out) (Rt_11.out.arg (by omega)) (by omega) (by omega) rfl).mono ?_
      rintro e w12 ⟨hb, gr3, Lr3, rfl, _, hr⟩
      have HB12 := Lib.hid (HB11.out.trans (hb.mono HB11.out.size))
      have Ru_12 := Lib.hid (Ru_11.out.below hb)
      have Rr3_12 := Lib.hid hr
      clear hb hr
      go_wp2_with fail
      refine (same_num Ru_12.out Rr3_12.out (by omega) (by omega) (by rw [Nat.one_mul])).mono ?_
      rintro e w13 ⟨rfl, hb⟩
      have HB13 := Lib.hid (HB12.out.trans (hb.mono HB12.out.size))
      have Ru_13 := Lib.hid (Ru_12.out.below hb)
      clear hb
      go_wp2_with fail
      refine (bits_num (HA.out.below HB13.out) (by omega) HBL.out).mono ?_
      rintro e w' ⟨rfl, rfl⟩
      go_wp2_with fail
      refine (small_num (HA.out.below HB13.out) (by omega) (q := ((a : Int), true)) (if_pos (by rw [HW0.out]; omega))).mono ?_
      rintro e w' ⟨rfl, rfl⟩
      go_wp2_with fail
      refine (bits_num (HA.out.below HB13.out) (by omega) HBL.out).mono ?_
      rintro e w' ⟨rfl, rfl⟩
      go_wp2_with fail
      refine (of_num a (by rw [HW0.out]; omega) _).mono ?_
      rintro e w14 ⟨hb, go9, Lo9, rfl, _, hr⟩
      have HB14 := Lib.hid (HB13.out.trans (hb.mono HB13.out.size))
      have Ro9_14 := Lib.hid hr
      clear hb hr
      go_wp2_with fail
      refine (norm_num' (HA.out.below HB14.out)).mono ?_
      rintro e w15 ⟨hb, gr4, Lr4, rfl, _, hr⟩
      have HB15 := Lib.hid (HB14.out.trans (hb.mono HB14.out.size))
      have Ro9_15 := Lib.hid (Ro9_14.out.below hb)
      have Rr4_15 := Lib.hid hr
      clear hb hr
      go_wp2_with fail
      refine (same_num Ro9_15.out Rr4_15.out (by omega) (by omega) (rfl)).mono ?_
      rintro e w16 ⟨rfl, hb⟩
      have HB16 := Lib.hid (HB15.out.trans (hb.mono HB15.out.size))
      clear hb
      go_wp2_with fail
      go_ret
      exact bp_true rfl HB16.out
    · have HW0 := Lib.hid h0
      have HWV := Lib.hid hv
      obtain ⟨b, hb⟩ : ∃ b, b = bln a := ⟨_, rfl⟩
      have HBL := Lib.hid hb.symm
      have hb0 : 0 < b := by rw [hb]; have := (bln_ge HW0.out).2.2; omega
      have hb64 : b ≤ 64 := by rw [hb, bln_le]; exact HWV.out
      have hble : b ≤ 2560 := by rw [hb]; exact bln_pw HA.out.lt
      clear hb h0 hv
      go_enter Tryd.func11, Tryd.ntmps11
      go_wp2_with fail
      refine (HAW.out).mono ?_
      rintro e wa ⟨rfl, hb2⟩
      go_wp2_with fail
      refine (HLONG.out wa).mono ?_
      rintro e w3 ⟨rfl, rfl⟩
      have HB0 := Lib.hid (hb2.alloc hb2.size (.cells #[.slice A n1 c1] 23))
      clear hb2
      go_wp2_with fail
      refine (decimal_num (HA.out.below HB0.out) (by omega) (tab_below HT.out HB0.out)).mono ?_
      rintro e w1 ⟨rfl, hb⟩
      have HB1 := Lib.hid (HB0.out.trans (hb.mono HB0.out.size))
      clear hb
      have HP1 := Lib.hid (parse_num ⟨(Lib.decDigits a).toArray⟩ w1 HDS.out HND.out)
      go_wp2_with fail
      refine (HP1.out).mono ?_
      rintro e w2 ⟨hb, gp1, Lp1, rfl, _, hr⟩
      have HB2 := Lib.hid (HB1.out.trans (hb.mono HB1.out.size))
      have Rp1_2 := Lib.hid hr
      clear hb hr
      go_wp2_with fail
      refine (norm_num' (HA.out.below HB2.out)).mono ?_
      rintro e w3 ⟨hb, gr1, Lr1, rfl, _, hr⟩
      have HB3 := Lib.hid (HB2.out.trans (hb.mono HB2.out.size))
      have Rp1_3 := Lib.hid (Rp1_2.out.below hb)
      have Rr1_3 := Lib.hid hr
      clear hb hr
      go_wp2_with fail
      refine (same_num Rp1_3.out Rr1_3.out (by omega) (by omega) (HDD.out)).mono ?_
      rintro e w4 ⟨rfl, hb⟩
      have HB4 := Lib.hid (HB3.out.trans (hb.mono HB3.out.size))
      clear hb
      go_wp2_with fail
      refine (parse_err s _ (by omega) HNB.out).mono ?_
      rintro e w5 ⟨rfl, hb⟩
      have HB5 := Lib.hid (HB4.out.trans (hb.mono HB4.out.size))
      clear hb
      go_wp2_with fail
      refine (shift_up_num (HA.out.below HB5.out) (by omega) up hup rfl).mono ?_
      rintro e w6 ⟨hb, gu, Lu, rfl, _, hr⟩
      have HB6 := Lib.hid (HB5.out.trans (hb.mono HB5.out.size))
      have Ru_6 := Lib.hid hr
      clear hb hr
      go_wp2_with fail
      refine (shift_down_num (Ru_6.out.arg (by omega)) (by omega) up hup).mono ?_
      rintro e w7 ⟨hb, gd, Ld, rfl, _, hr⟩
      have HB7 := Lib.hid (HB6.out.trans (hb.mono HB6.out.size))
      have Ru_7 := Lib.hid (Ru_6.out.below hb)
      have Rd_7 := Lib.hid hr
      clear hb hr
      have HB8 := Lib.hid (HB7.out.alloc HB7.out.size (.cells #[.int .u32 1] 34))
      have Ru_8 := Lib.hid (Ru_7.out.alloc (.cells #[.int .u32 1] 34))
      have Rd_8 := Lib.hid (Rd_7.out.alloc (.cells #[.int .u32 1] 34))
      have Rl1_8 := Lib.hid (lit_one w7)
      go_wp2_with fail
      refine (shift_up_num (Rl1_8.out.arg (by omega)) (by omega) up hup rfl).mono ?_
      rintro e w9 ⟨hb, gt, Lt, rfl, _, hr⟩
      have HB9 := Lib.hid (HB8.out.trans (hb.mono HB8.out.size))
      have Ru_9 := Lib.hid (Ru_8.out.below hb)
      have Rd_9 := Lib.hid (Rd_8.out.below hb)
      have Rl1_9 := Lib.hid (Rl1_8.out.below hb)
      have Rt_9 := Lib.hid hr
      clear hb hr
      go_wp2_with fail
      refine (norm_num' (HA.out.below HB9.out)).mono ?_
      rintro e w10 ⟨hb, gr2, Lr2, rfl, _, hr⟩
      have HB10 := Lib.hid (HB9.out.trans (hb.mono HB9.out.size))
      have Ru_10 := Lib.hid (Ru_9.out.below hb)
      have Rd_10 := Lib.hid (Rd_9.out.below hb)
      have Rt_10 := Lib.hid (Rt_9.out.below hb)
      have Rr2_10 := Lib.hid hr
      clear hb hr
      go_wp2_with fail
      refine (same_num Rd_10.out Rr2_10.out (by omega) (by omega) (Nat.mul_div_cancel _ (Nat.pow_pos (by decide)))).mono ?_
      rintro e w11 ⟨rfl, hb⟩
      have HB11 := Lib.hid (HB10.out.trans (hb.mono HB10.out.size))
      have Ru_11 := Lib.hid (Ru_10.out.below hb)
      have Rt_11 := Lib.hid (Rt_10.out.below hb)
      clear hb
      go_wp2_with fail
      refine (mul_num (HA.out.below HB11.out) (Rt_11.out.arg (by omega)) (by omega) (by omega) rfl).mono ?_
      rintro e w12 ⟨hb, gr3, Lr3, rfl, _, hr⟩
      have HB12 := Lib.hid (HB11.out.trans (hb.mono HB11.out.size))
      have Ru_12 := Lib.hid (Ru_11.out.below hb)
      have Rr3_12 := Lib.hid hr
      clear hb hr
      go_wp2_with fail
      refine (same_num Ru_12.out Rr3_12.out (by omega) (by omega) (by rw [Nat.one_mul])).mono ?_
      rintro e w13 ⟨rfl, hb⟩
      have HB13 := Lib.hid (HB12.out.trans (hb.mono HB12.out.size))
      have Ru_13 := Lib.hid (Ru_12.out.below hb)
      clear hb
      go_wp2_with fail
      refine (bits_num (HA.out.below HB13.out) (by omega) HBL.out).mono ?_
      rintro e w' ⟨rfl, rfl⟩
      go_wp2_with fail
      refine (bits_num (Ru_13.out.arg (by omega)) (by omega) (b := b + up) (by rw [bln_shift HW0.out, HBL.out])).mono ?_
      rintro e w' ⟨rfl, rfl⟩
      go_wp2_with fail
      refine (bits_num (HA.out.below HB13.out) (by omega) HBL.out).mono ?_
      rintro e w' ⟨rfl, rfl⟩
      go_wp2_with fail
      refine (small_num (HA.out.below HB13.out) (by omega) (q := ((a : Int), true)) (if_pos (by exact HWV.out))).mono ?_
      rintro e w' ⟨rfl, rfl⟩
      go_wp2_with fail
      refine (bits_num (HA.out.below HB13.out) (by omega) HBL.out).mono ?_
      rintro e w' ⟨rfl, rfl⟩
      go_wp2_with fail
      refine (of_num a (by exact HWV.out) _).mono ?_
      rintro e w14 ⟨hb, go9, Lo9, rfl, _, hr⟩
      have HB14 := Lib.hid (HB13.out.trans (hb.mono HB13.out.size))
      have Ro9_14 := Lib.hid hr
      clear hb hr
      go_wp2_with fail
      refine (norm_num' (HA.out.below HB14.out)).mono ?_
      rintro e w15 ⟨hb, gr4, Lr4, rfl, _, hr⟩
      have HB15 := Lib.hid (HB14.out.trans (hb.mono HB14.out.size))
      have Ro9_15 := Lib.hid (Ro9_14.out.below hb)
      have Rr4_15 := Lib.hid hr
      clear hb hr
      go_wp2_with fail
      refine (same_num Ro9_15.out Rr4_15.out (by omega) (by omega) (rfl)).mono ?_
      rintro e w16 ⟨rfl, hb⟩
      have HB16 := Lib.hid (HB15.out.trans (hb.mono HB15.out.size))
      clear hb
      go_wp2_with fail
      go_ret
      exact bp_true rfl HB16.out
    · have HW0 := Lib.hid h0
      have HWV := Lib.hid hv
      obtain ⟨b, hb⟩ : ∃ b, b = bln a := ⟨_, rfl⟩
      have HBL := Lib.hid hb.symm
      have hb0 : 0 < b := by rw [hb]; have := (bln_ge HW0.out).2.2; omega
      have hb64 : ¬ b ≤ 64 := by rw [hb, bln_le]; exact HWV.out
      have hble : b ≤ 2560 := by rw [hb]; exact bln_pw HA.out.lt
      clear hb h0 hv
      go_enter Tryd.func11, Tryd.ntmps11
      go_wp2_with fail
      refine (HAW.out).mono ?_
      rintro e wa ⟨rfl, hb2⟩
      go_wp2_with fail
      refine (HLONG.out wa).mono ?_
      rintro e w3 ⟨rfl, rfl⟩
      have HB0 := Lib.hid (hb2.alloc hb2.size (.cells #[.slice A n1 c1] 23))
      clear hb2
      go_wp2_with fail
      refine (decimal_num (HA.out.below HB0.out) (by omega) (tab_below HT.out HB0.out)).mono ?_
      rintro e w1 ⟨rfl, hb⟩
      have HB1 := Lib.hid (HB0.out.trans (hb.mono HB0.out.size))
      clear hb
      have HP1 := Lib.hid (parse_num ⟨(Lib.decDigits a).toArray⟩ w1 HDS.out HND.out)
      go_wp2_with fail
      refine (HP1.out).mono ?_
      rintro e w2 ⟨hb, gp1, Lp1, rfl, _, hr⟩
      have HB2 := Lib.hid (HB1.out.trans (hb.mono HB1.out.size))
      have Rp1_2 := Lib.hid hr
      clear hb hr
      go_wp2_with fail
      refine (norm_num' (HA.out.below HB2.out)).mono ?_
      rintro e w3 ⟨hb, gr1, Lr1, rfl, _, hr⟩
      have HB3 := Lib.hid (HB2.out.trans (hb.mono HB2.out.size))
      have Rp1_3 := Lib.hid (Rp1_2.out.below hb)
      have Rr1_3 := Lib.hid hr
      clear hb hr
      go_wp2_with fail
      refine (same_num Rp1_3.out Rr1_3.out (by omega) (by omega) (HDD.out)).mono ?_
      rintro e w4 ⟨rfl, hb⟩
      have HB4 := Lib.hid (HB3.out.trans (hb.mono HB3.out.size))
      clear hb
      go_wp2_with fail
      refine (parse_err s _ (by omega) HNB.out).mono ?_
      rintro e w5 ⟨rfl, hb⟩
      have HB5 := Lib.hid (HB4.out.trans (hb.mono HB4.out.size))
      clear hb
      go_wp2_with fail
      refine (shift_up_num (HA.out.below HB5.out) (by omega) up hup rfl).mono ?_
      rintro e w6 ⟨hb, gu, Lu, rfl, _, hr⟩
      have HB6 := Lib.hid (HB5.out.trans (hb.mono HB5.out.size))
      have Ru_6 := Lib.hid hr
      clear hb hr
      go_wp2_with fail
      refine (shift_down_num (Ru_6.out.arg (by omega)) (by omega) up hup).mono ?_
      rintro e w7 ⟨hb, gd, Ld, rfl, _, hr⟩
      have HB7 := Lib.hid (HB6.out.trans (hb.mono HB6.out.size))
      have Ru_7 := Lib.hid (Ru_6.out.below hb)
      have Rd_7 := Lib.hid hr
      clear hb hr
      have HB8 := Lib.hid (HB7.out.alloc HB7.out.size (.cells #[.int .u32 1] 34))
      have Ru_8 := Lib.hid (Ru_7.out.alloc (.cells #[.int .u32 1] 34))
      have Rd_8 := Lib.hid (Rd_7.out.alloc (.cells #[.int .u32 1] 34))
      have Rl1_8 := Lib.hid (lit_one w7)
      go_wp2_with fail
      refine (shift_up_num (Rl1_8.out.arg (by omega)) (by omega) up hup rfl).mono ?_
      rintro e w9 ⟨hb, gt, Lt, rfl, _, hr⟩
      have HB9 := Lib.hid (HB8.out.trans (hb.mono HB8.out.size))
      have Ru_9 := Lib.hid (Ru_8.out.below hb)
      have Rd_9 := Lib.hid (Rd_8.out.below hb)
      have Rl1_9 := Lib.hid (Rl1_8.out.below hb)
      have Rt_9 := Lib.hid hr
      clear hb hr
      go_wp2_with fail
      refine (norm_num' (HA.out.below HB9.out)).mono ?_
      rintro e w10 ⟨hb, gr2, Lr2, rfl, _, hr⟩
      have HB10 := Lib.hid (HB9.out.trans (hb.mono HB9.out.size))
      have Ru_10 := Lib.hid (Ru_9.out.below hb)
      have Rd_10 := Lib.hid (Rd_9.out.below hb)
      have Rt_10 := Lib.hid (Rt_9.out.below hb)
      have Rr2_10 := Lib.hid hr
      clear hb hr
      go_wp2_with fail
      refine (same_num Rd_10.out Rr2_10.out (by omega) (by omega) (Nat.mul_div_cancel _ (Nat.pow_pos (by decide)))).mono ?_
      rintro e w11 ⟨rfl, hb⟩
      have HB11 := Lib.hid (HB10.out.trans (hb.mono HB10.out.size))
      have Ru_11 := Lib.hid (Ru_10.out.below hb)
      have Rt_11 := Lib.hid (Rt_10.out.below hb)
      clear hb
      go_wp2_with fail
      refine (mul_num (HA.out.below HB11.out) (Rt_11.out.arg (by omega)) (by omega) (by omega) rfl).mono ?_
      rintro e w12 ⟨hb, gr3, Lr3, rfl, _, hr⟩
      have HB12 := Lib.hid (HB11.out.trans (hb.mono HB11.out.size))
      have Ru_12 := Lib.hid (Ru_11.out.below hb)
      have Rr3_12 := Lib.hid hr
      clear hb hr
      go_wp2_with fail
      refine (same_num Ru_12.out Rr3_12.out (by omega) (by omega) (by rw [Nat.one_mul])).mono ?_
      rintro e w13 ⟨rfl, hb⟩
      have HB13 := Lib.hid (HB12.out.trans (hb.mono HB12.out.size))
      have Ru_13 := Lib.hid (Ru_12.out.below hb)
      clear hb
      go_wp2_with fail
      refine (bits_num (HA.out.below HB13.out) (by omega) HBL.out).mono ?_
      rintro e w' ⟨rfl, rfl⟩
      go_wp2_with fail
      refine (bits_num (Ru_13.out.arg (by omega)) (by omega) (b := b + up) (by rw [bln_shift HW0.out, HBL.out])).mono ?_
      rintro e w' ⟨rfl, rfl⟩
      go_wp2_with fail
      refine (bits_num (HA.out.below HB13.out) (by omega) HBL.out).mono ?_
      rintro e w' ⟨rfl, rfl⟩
      go_wp2_with fail
      refine (small_num (HA.out.below HB13.out) (by omega) (q := (0, false)) (if_neg HWV.out)).mono ?_
      rintro e w' ⟨rfl, rfl⟩
      go_wp2_with fail
      refine (bits_num (HA.out.below HB13.out) (by omega) HBL.out).mono ?_
      rintro e w' ⟨rfl, rfl⟩
      go_wp2_with fail
      go_ret
      exact bp_true (by simp; omega) HB13.out

end Go.Proofs.YtgiepikoffaaiaaDoor
