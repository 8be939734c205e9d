/- Norm, Add, Monus, Compare of the reference. -/
import Derived.Test.YtgiepikoffaaiaaDoorLess
import Derived.Test.YtgiepikoffaaiaaDoorWords
namespace Go.Proofs.YtgiepikoffaaiaaDoor
open Go Go.RowKit

section
variable {A B : Option Addr} {n c m d x y i j : Nat} {w : World}
theorem digits_num (hx : Arg w A n c x i) (hi : i ≤ 1000) : Calls Tryd.prog 47 #[.slice A n c] w (DigPost (dgs x) w) := by
  obtain ⟨a, ha, rfl, hna⟩ := hx
  exact digits_any ha (by omega)
theorem dgs_few (hx : x < pw i) : (dgs x).length ≤ 4 * i := wds_len8 (by rwa [pw8_word])
theorem words_num {v : Nat} (hd : DigR w A n c (dgs v)) : Calls Tryd.prog 53 #[.slice A n c] w (RNatPost v w) := by
  have := words_any hd (ok_wds8 v)
  rwa [val_wds8] at this
theorem plus_num (hx : DigR w A n c (dgs x)) (hy : DigR w B m d (dgs y)) (hsn : n ≤ 40000) (hsm : m ≤ 40000) : Calls Tryd.prog 49 #[.slice A n c, .slice B m d] w (DigPost (dgs (x + y)) w) := by
  have := plus_any hx hy (ok_wds8 x) (ok_wds8 y) hsn hsm
  rwa [val_wds8, val_wds8] at this
theorem RNatPost.trans {v : Nat} {w w1 : World} {e : Ending} {w' : World} (h : RNatPost v w1 e w') (hb : Below w.heap.size w w1) : RNatPost v w e w' := ⟨hb.trans (h.1.mono hb.size), h.2⟩

set_option maxHeartbeats 1000000 in
theorem refNorm_num (hx : Arg w A n c x i) (hi : i ≤ 1000) : Calls Tryd.prog 20 #[.slice A n c] w (RNatPost x w) := by
  have H := Lib.hid (digits_num hx hi)
  have hf := dgs_few hx.lt
  clear hx
  go_enter Tryd.func20, Tryd.ntmps20
  go_wp2_with fail
  refine (H.out).mono ?_
  rintro e w1 ⟨hb1, A1, n1, c1, rfl, hd1⟩
  have hl := hd1.len
  have HW := Lib.hid (words_num hd1)
  have HB1 := Lib.hid hb1
  clear hb1 hd1 hl
  go_wp2_with fail
  refine (HW.out).mono ?_
  rintro e w2 ⟨hb2, A2, n2, c2, rfl, hn2⟩
  go_wp2_with fail
  go_ret
  exact ⟨HB1.out.trans (hb2.mono HB1.out.size), _, _, _, rfl, hn2⟩

set_option maxHeartbeats 1000000 in
theorem refAdd_num (hx : Arg w A n c x i) (hy : Arg w B m d y j) (hi : i ≤ 1000) (hj : j ≤ 1000) : Calls Tryd.prog 22 #[.slice A n c, .slice B m d] w (RNatPost (x + y) w) := by
  have H := Lib.hid (digits_num hx hi)
  have hfx := dgs_few hx.lt
  have hfy := dgs_few hy.lt
  have hfs := dgs_few (pw_add_lt hx.lt hy.lt)
  have HY := Lib.hid hy
  clear hx hy
  go_enter Tryd.func22, Tryd.ntmps22
  go_wp2_with fail
  refine (H.out).mono ?_
  rintro e w1 ⟨hb1, A1, n1, c1, rfl, hd1⟩
  have hl1 := hd1.len
  have H2 := Lib.hid (digits_num (HY.out.below hb1) hj)
  have HB1 := Lib.hid hb1
  have HD1 := Lib.hid hd1
  have hn1 : n1 ≤ 40000 := by omega
  clear hb1 hd1 hl1
  go_wp2_with fail
  refine (H2.out).mono ?_
  rintro e w2 ⟨hb2, A2, n2, c2, rfl, hd2⟩
  have hl2 := hd2.len
  have H3 := Lib.hid (plus_num (HD1.out.below hb2) hd2 hn1 (by omega))
  have HB2 := Lib.hid (HB1.out.trans (hb2.mono HB1.out.size))
  clear hb2 hd2 hl2
  go_wp2_with fail
  refine (H3.out).mono ?_
  rintro e w3 ⟨hb3, A3, n3, c3, rfl, hd3⟩
  have hl3 := hd3.len
  have H4 := Lib.hid (words_num hd3)
  have HB3 := Lib.hid (HB2.out.trans (hb3.mono HB2.out.size))
  clear hb3 hd3 hl3
  go_wp2_with fail
  refine (H4.out).mono ?_
  rintro e w4 ⟨hb4, A4, n4, c4, rfl, hn4⟩
  go_wp2_with fail
  go_ret
  exact ⟨HB3.out.trans (hb4.mono HB3.out.size), _, _, _, rfl, hn4⟩

set_option maxHeartbeats 1000000 in
theorem refMonus_num (hx : Arg w A n c x i) (hy : Arg w B m d y j) (hi : i ≤ 1000) (hj : j ≤ 1000) : Calls Tryd.prog 24 #[.slice A n c, .slice B m d] w (RNatPost (x - y) w) := by
  have H := Lib.hid (digits_num hx hi)
  have hfx := dgs_few (Nat.lt_of_le_of_lt (Nat.sub_le x y) hx.lt)
  have HY := Lib.hid hy
  clear hx hy
  by_cases hlt : x < y
  · have hz : x - y = 0 := by omega
    have HZ := Lib.hid hz
    have HL := Lib.hid (decide_eq_true hlt)
    clear hz hlt
    go_enter Tryd.func24, Tryd.ntmps24
    go_wp2_with fail
    refine (H.out).mono ?_
    rintro e w1 ⟨hb1, A1, n1, c1, rfl, hd1⟩
    have H2 := Lib.hid (digits_num (HY.out.below hb1) hj)
    have HB1 := Lib.hid hb1
    have HD1 := Lib.hid hd1
    clear hb1 hd1
    go_wp2_with fail
    refine (H2.out).mono ?_
    rintro e w2 ⟨hb2, A2, n2, c2, rfl, hd2⟩
    have hless := less_any (HD1.out.below hb2) hd2
    rw [HL.out] at hless
    have H3 := Lib.hid hless
    have HB2 := Lib.hid (HB1.out.trans (hb2.mono HB1.out.size))
    clear hb2 hd2 hless
    go_wp2_with fail
    refine (H3.out).mono ?_
    rintro e w3 ⟨rfl, hb3⟩
    have HB3 := Lib.hid (HB2.out.trans (hb3.mono HB2.out.size))
    clear hb3
    go_wp2_with fail
    go_ret
    rw [HZ.out]
    have hr : RowB (w3.alloc (.cells #[] 34)) w3.heap.size [] := Blk.new w3 _ _
    exact ⟨HB3.out.alloc HB3.out.size _, _, _, _, rfl, by rw [wds_zero]; exact hr.natV ok_nil (by decide)⟩
  · have HLE := Lib.hid (show y ≤ x by omega)
    have HL := Lib.hid (decide_eq_false hlt)
    clear hlt
    go_enter Tryd.func24, Tryd.ntmps24
    go_wp2_with fail
    refine (H.out).mono ?_
    rintro e w1 ⟨hb1, A1, n1, c1, rfl, hd1⟩
    have H2 := Lib.hid (digits_num (HY.out.below hb1) hj)
    have HB1 := Lib.hid hb1
    have HD1 := Lib.hid hd1
    clear hb1 hd1
    go_wp2_with fail
    refine (H2.out).mono ?_
    rintro e w2 ⟨hb2, A2, n2, c2, rfl, hd2⟩
    have hless := less_any (HD1.out.below hb2) hd2
    rw [HL.out] at hless
    have H3 := Lib.hid hless
    have HD1b := Lib.hid (HD1.out.below hb2)
    have HD2 := Lib.hid hd2
    have HB2 := Lib.hid (HB1.out.trans (hb2.mono HB1.out.size))
    clear hb2 hd2 hless
    go_wp2_with fail
    refine (H3.out).mono ?_
    rintro e w3 ⟨rfl, hb3⟩
    have H4 := Lib.hid (minus_any (HD1b.out.below hb3) (HD2.out.below hb3) HLE.out)
    have HB3 := Lib.hid (HB2.out.trans (hb3.mono HB2.out.size))
    clear hb3
    go_wp2_with fail
    refine (H4.out).mono ?_
    rintro e w4 ⟨hb4, A4, n4, c4, rfl, hd4⟩
    have hl4 := hd4.len
    have H5 := Lib.hid (words_num hd4)
    have HB4 := Lib.hid (HB3.out.trans (hb4.mono HB3.out.size))
    clear hb4 hd4 hl4
    go_wp2_with fail
    refine (H5.out).mono ?_
    rintro e w5 ⟨hb5, A5, n5, c5, rfl, hn5⟩
    go_wp2_with fail
    go_ret
    exact ⟨HB4.out.trans (hb5.mono HB4.out.size), _, _, _, rfl, hn5⟩

set_option maxHeartbeats 2000000 in
theorem refCompare_num (hx : Arg w A n c x i) (hy : Arg w B m d y j) (hi : i ≤ 1000) (hj : j ≤ 1000) {v : Int} (hv : cmpI x y = v) : Calls Tryd.prog 26 #[.slice A n c, .slice B m d] w fun e w' => e = .returned (.int .i64 v) ∧ Below w.heap.size w w' := by
  subst hv
  have H := Lib.hid (digits_num hx hi)
  have HX := Lib.hid hx
  have HY := Lib.hid hy
  clear hx hy
  rcases Nat.lt_trichotomy x y with hlt | heq | hgt
  case' inl => have HL := Lib.hid (decide_eq_true hlt)
               have HV := Lib.hid (cmp_l hlt)
               clear hlt
  case' inr.inl => have HL := Lib.hid (decide_eq_false (show ¬ x < y by omega))
                   have HL2 := Lib.hid (decide_eq_false (show ¬ y < x by omega))
                   have HV := Lib.hid (cmp_e heq)
                   clear heq
  case' inr.inr => have HL := Lib.hid (decide_eq_false (show ¬ x < y by omega))
                   have HL2 := Lib.hid (decide_eq_true hgt)
                   have HV := Lib.hid (cmp_g hgt)
                   clear hgt
  all_goals
    go_enter Tryd.func26, Tryd.ntmps26
    go_wp2_with fail
    refine (H.out).mono ?_
    rintro e w1 ⟨hb1, A1, n1, c1, rfl, hd1⟩
    have H2 := Lib.hid (digits_num (HY.out.below hb1) hj)
    have HB1 := Lib.hid hb1
    have HD1 := Lib.hid hd1
    clear hb1 hd1
    go_wp2_with fail
    refine (H2.out).mono ?_
    rintro e w2 ⟨hb2, A2, n2, c2, rfl, hd2⟩
    have hless := less_any (HD1.out.below hb2) hd2
    rw [HL.out] at hless
    have H3 := Lib.hid hless
    have HB2 := Lib.hid (HB1.out.trans (hb2.mono HB1.out.size))
    clear hb2 hd2 hless
    go_wp2_with fail
    refine (H3.out).mono ?_
    rintro e w3 ⟨rfl, hb3⟩
    have HB3 := Lib.hid (HB2.out.trans (hb3.mono HB2.out.size))
    clear hb3
    go_wp2_with fail
  rotate_left 2
  · go_ret
    exact ⟨ret_int HV.out.symm, HB3.out⟩
  all_goals
    refine (digits_num (HY.out.below HB3.out) hj).mono ?_
    rintro e w4 ⟨hb4, A4, n4, c4, rfl, hd4⟩
    have HB4 := Lib.hid (HB3.out.trans (hb4.mono HB3.out.size))
    have HD4 := Lib.hid hd4
    clear hb4 hd4
    go_wp2_with fail
    refine (digits_num (HX.out.below HB4.out) hi).mono ?_
    rintro e w5 ⟨hb5, A5, n5, c5, rfl, hd5⟩
    have hless := less_any (HD4.out.below hb5) hd5
    rw [HL2.out] at hless
    have H6 := Lib.hid hless
    have HB5 := Lib.hid (HB4.out.trans (hb5.mono HB4.out.size))
    clear hb5 hd5 hless
    go_wp2_with fail
    refine (H6.out).mono ?_
    rintro e w6 ⟨rfl, hb6⟩
    have HB6 := Lib.hid (HB5.out.trans (hb6.mono HB5.out.size))
    clear hb6
    go_wp2_with fail
    go_ret
    exact ⟨ret_int HV.out.symm, HB6.out⟩
end

end Go.Proofs.YtgiepikoffaaiaaDoor
