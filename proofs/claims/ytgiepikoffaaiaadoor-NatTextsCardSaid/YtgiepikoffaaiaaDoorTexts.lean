/- NatTexts: the law, walked. -/
import Derived.Test.YtgiepikoffaaiaaDoorRefParse
import Derived.Test.YtgiepikoffaaiaaDoorRefDecimal
namespace Go.Proofs.YtgiepikoffaaiaaDoor
open Go.RowKit

theorem eq_self {l : List UInt8} (W : World) : (binOp .eql 9 (.string ⟨l.toArray⟩) (.string ⟨l.toArray⟩)).run Tryd.prog W = .ok (.bool true) W := by
  simp [go_sem]
theorem same_ref2 {A : Option Addr} {n c x y i g L : Nat} {w : World} (hx : Num w g L x i) (hy : NatV w A n c (wds y)) (hi : i ≤ 100000) (he : x = y) : Calls Tryd.prog 16 #[.slice (some ⟨g, 0, none⟩) L L, .slice A n c] w (BoolPost true w) := by
  subst he
  refine (same_any w (hx.natV (by omega)) hy).mono ?_
  rintro e w' ⟨rfl, m, rfl⟩
  exact ⟨by simp, below_drewN (Below.refl _ _) m⟩
theorem same_nil (w : World) : Calls Tryd.prog 16 #[.slice none 0 0, .slice none 0 0] w (BoolPost true w) := by
  refine (same_any w (show NatV w none 0 0 [] from NatR.nil w) (show NatV w none 0 0 [] from NatR.nil w)).mono ?_
  rintro e w' ⟨rfl, m, rfl⟩
  exact ⟨by simp, below_drewN (Below.refl _ _) m⟩
theorem refParse_num (s : ByteArray) (w : World) (hsz : s.size ≤ 900) (h : numB s.data.toList = true) : Calls Tryd.prog 36 #[.string s] w (RNatOkPost (dnum s.data.toList) w) := by
  refine (refParse_any s w hsz).mono fun e w' hp => ?_
  unfold RParsePost at hp
  rwa [if_pos h] at hp
theorem refParse_err (s : ByteArray) (w : World) (hsz : s.size ≤ 900) (h : numB s.data.toList = false) : Calls Tryd.prog 36 #[.string s] w fun e w' => e = .returned (.tuple #[.slice none 0 0, .int .i64 3]) ∧ Below w.heap.size w w' := by
  refine (refParse_any s w hsz).mono fun e w' hp => ?_
  unfold RParsePost at hp
  rw [h] at hp
  exact ⟨hp.2, hp.1⟩

set_option linter.unusedSimpArgs false in
set_option maxRecDepth 100000 in
set_option maxHeartbeats 4000000 in
theorem texts_long {A : Option Addr} {n1 c1 : Nat} {w : World} (s : ByteArray) (ht : Tab w) (hbig : 80 < n1 ∨ 800 < s.size) :
    Calls Tryd.prog 9 #[.slice A n1 c1, .string s] w (BoolPost true w) := by
  have hlong := fun (w2 : World) => long_one (Blk.new w2 23 #[.slice A n1 c1]) (b := decide (80 < n1)) rfl
  have HLONG := Lib.hid hlong
  have HAW := Lib.hid (awake_any ht)
  clear hlong ht
  by_cases h1 : 80 < n1
  · rw [decide_eq_true h1] at HLONG
    clear h1 hbig
    go_enter Tryd.func9, Tryd.ntmps9
    go_wp2_with fail
    refine (HAW.out).mono ?_
    rintro e wa ⟨rfl, hb2⟩
    go_wp2_with fail
    refine (HLONG.out wa).mono ?_
    rintro e w3 ⟨rfl, rfl⟩
    go_wp2_with fail
    go_ret
    exact bp_true rfl (hb2.alloc hb2.size _)
  · rw [decide_eq_false h1] at HLONG
    have h2 : 800 < s.size := by omega
    clear h1 hbig
    go_enter Tryd.func9, Tryd.ntmps9
    go_wp2_with fail
    refine (HAW.out).mono ?_
    rintro e wa ⟨rfl, hb2⟩
    go_wp2_with fail
    refine (HLONG.out wa).mono ?_
    rintro e w3 ⟨rfl, rfl⟩
    go_wp2_with fail
    go_ret
    exact bp_true rfl (hb2.alloc hb2.size _)

set_option linter.unusedSimpArgs false in
set_option maxRecDepth 100000 in
set_option maxHeartbeats 4000000 in
theorem texts_law {A : Option Addr} {n1 c1 : Nat} {x1 : List Nat} {w : World} (ha : NatV w A n1 c1 x1) (ht : Tab w) (s : ByteArray) :
    Calls Tryd.prog 9 #[.slice A n1 c1, .string s] w (BoolPost true w) := by
  by_cases hbig : 80 < n1 ∨ 800 < s.size
  · exact texts_long s ht hbig
  have hle : n1 ≤ 80 ∧ s.size ≤ 800 := by omega
  obtain ⟨hn1, hsz⟩ := hle
  have hlong := fun (w2 : World) => long_one (Blk.new w2 23 #[.slice A n1 c1]) (b := false) (decide_eq_false (by omega)).symm
  have HLONG := Lib.hid hlong
  have HAW := Lib.hid (awake_any ht)
  have HT := Lib.hid ht
  clear hlong ht
  have HA : RowKit.Hid (Arg w A n1 c1 (val x1) 80) := Lib.hid ⟨_, ha, rfl, hn1⟩
  generalize val x1 = a at HA
  clear ha hn1 hbig
  have heq := @eq_self (Lib.decDigits a)
  cases hnb : numB s.data.toList with
  | true =>
    have HNB := Lib.hid hnb
    clear hnb
    go_enter Tryd.func9, Tryd.ntmps9
    go_wp2_with fail
    refine (HAW.out).mono ?_
    rintro e wa ⟨rfl, hb2⟩
    go_wp2_with fail
    refine (HLONG.out wa).mono ?_
    rintro e w3 ⟨rfl, rfl⟩
    have HB0 := Lib.hid (hb2.alloc hb2.size (.cells #[.slice A n1 c1] 23))
    clear hb2
    go_wp2_with fail
    refine (parse_num s _ (by omega) HNB.out).mono ?_
    rintro e w1 ⟨hb, gx, Lx, rfl, _, hr⟩
    have HB1 := Lib.hid (HB0.out.trans (hb.mono HB0.out.size))
    have Rx_1 := Lib.hid hr
    clear hb hr
    go_wp2_with fail
    refine (refParse_num s _ (by omega) HNB.out).mono ?_
    rintro e w2 ⟨hb, Ay, ny, cy, rfl, hr⟩
    have HB2 := Lib.hid (HB1.out.trans (hb.mono HB1.out.size))
    have Rx_2 := Lib.hid (Rx_1.out.below hb)
    have Qy_2 := Lib.hid hr
    clear hb hr
    go_wp2_with fail
    refine (decimal_num (HA.out.below HB2.out) (by omega) (tab_below HT.out HB2.out)).mono ?_
    rintro e w3 ⟨rfl, hb⟩
    have HB3 := Lib.hid (HB2.out.trans (hb.mono HB2.out.size))
    have Rx_3 := Lib.hid (Rx_2.out.below hb)
    have Qy_3 := Lib.hid (Qy_2.out.below hb)
    clear hb
    go_wp2_with fail
    refine (refDecimal_num (HA.out.below HB3.out) (by omega)).mono ?_
    rintro e w4 ⟨rfl, hb⟩
    have HB4 := Lib.hid (HB3.out.trans (hb.mono HB3.out.size))
    have Rx_4 := Lib.hid (Rx_3.out.below hb)
    have Qy_4 := Lib.hid (Qy_3.out.below hb)
    clear hb
    go_wp2_with fail
    refine (same_ref2 Rx_4.out Qy_4.out (by omega) rfl).mono ?_
    rintro e w5 ⟨rfl, hb⟩
    have HB5 := Lib.hid (HB4.out.trans (hb.mono HB4.out.size))
    clear hb
    go_wp2_with fail
    go_ret
    exact bp_true rfl HB5.out
  | false =>
    have HNB := Lib.hid hnb
    clear hnb
    go_enter Tryd.func9, Tryd.ntmps9
    go_wp2_with fail
    refine (HAW.out).mono ?_
    rintro e wa ⟨rfl, hb2⟩
    go_wp2_with fail
    refine (HLONG.out wa).mono ?_
    rintro e w3 ⟨rfl, rfl⟩
    have HB0 := Lib.hid (hb2.alloc hb2.size (.cells #[.slice A n1 c1] 23))
    clear hb2
    go_wp2_with fail
    refine (parse_err s _ (by omega) HNB.out).mono ?_
    rintro e w1 ⟨rfl, hb⟩
    have HB1 := Lib.hid (HB0.out.trans (hb.mono HB0.out.size))
    clear hb
    go_wp2_with fail
    refine (refParse_err s _ (by omega) HNB.out).mono ?_
    rintro e w2 ⟨rfl, hb⟩
    have HB2 := Lib.hid (HB1.out.trans (hb.mono HB1.out.size))
    clear hb
    go_wp2_with fail
    refine (decimal_num (HA.out.below HB2.out) (by omega) (tab_below HT.out HB2.out)).mono ?_
    rintro e w3 ⟨rfl, hb⟩
    have HB3 := Lib.hid (HB2.out.trans (hb.mono HB2.out.size))
    clear hb
    go_wp2_with fail
    refine (refDecimal_num (HA.out.below HB3.out) (by omega)).mono ?_
    rintro e w4 ⟨rfl, hb⟩
    have HB4 := Lib.hid (HB3.out.trans (hb.mono HB3.out.size))
    clear hb
    go_wp2_with fail
    refine (same_nil _).mono ?_
    rintro e w5 ⟨rfl, hb⟩
    have HB5 := Lib.hid (HB4.out.trans (hb.mono HB4.out.size))
    clear hb
    go_wp2_with fail
    go_ret
    exact bp_true rfl HB5.out

end Go.Proofs.YtgiepikoffaaiaaDoor
