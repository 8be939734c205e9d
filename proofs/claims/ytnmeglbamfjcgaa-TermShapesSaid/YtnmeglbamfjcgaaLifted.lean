/- TermLifted: the law, walked. -/
import Derived.Test.YtnmeglbamfjcgaaUndone
import Derived.Test.YtnmeglbamfjcgaaTermP2
namespace Go.Proofs.Ytnmeglbamfjcgaa
open Go.RowKit

theorem one_cell {w : World} {x : Value} {i : Nat} {L : List Nat} (h : Blk w i 23 #[x]) (hx : ∃ A d, x = .slice A (L.getD 0 0) d) (hL : L.length = 1) : ∀ j, j < L.length → ∃ A d, w.cell? ⟨i, 0 + j, none⟩ = some (.slice A (L.getD j 0) d) := by
  intro j hj
  rw [hL] at hj
  rw [Nat.zero_add, h.cell]
  match j, hj with
  | 0, _ => obtain ⟨A, d, rfl⟩ := hx; exact ⟨A, d, rfl⟩
theorem long_one {A : Option Addr} {nn c : Nat} (hft : nn ≤ 5864062014805) (w2 : World) : Calls Try.prog 14 #[.slice (some ⟨w2.heap.size, 0, none⟩) 1 1] (w2.alloc (.cells #[.slice A nn c] 23)) fun e w' => e = .returned (.bool (decide (9000 < nn))) ∧ (w2.alloc (.cells #[.slice A nn c] 23)) = w' := by
  have := long_any (L := [nn]) (c := 1) (w := w2.alloc (.cells #[.slice A nn c] 23)) (b := w2.heap.size) (off := 0) (by simp) (one_cell (Blk.new _ _ _) ⟨_, _, rfl⟩ rfl) (fun i => by
    match i with
    | 0 => exact hft
    | n + 1 => exact Nat.zero_le _) (by simp)
  refine this.mono ?_
  rintro e w' ⟨he, hw⟩
  refine ⟨?_, hw⟩
  rw [he]
  congr 2

set_option linter.unusedSimpArgs false in
set_option maxRecDepth 100000 in
set_option maxHeartbeats 4000000 in
theorem lifted_law {A : Option Addr} {nn c : Nat} {t : List Nd} {w : World} (ht : TermV w A nn c t) (a b x : Int) (ha0 : 0 ≤ a) (ha1 : a ≤ 65535) (hbb0 : 0 ≤ b) (hbb1 : b ≤ 65535) (hx0 : 0 ≤ x) (hx1 : x ≤ 65535) :
    Calls Try.prog 8 #[.slice A nn c, .int .u16 a, .int .u16 b, .int .u16 x] w (BoolPost true w) := by
  have hlong := fun w2 => long_one (A := A) (c := c) ht.few w2
  have HT := Lib.hid ht
  have HLONG := Lib.hid hlong
  clear ht hlong
  by_cases h1 : 9000 < nn
  · have h1b : decide (9000 < nn) = true := by simpa using h1
    clear h1
    go_enter Try.func8, Try.ntmps8
    go_wp2_with (first | (go_at_call 13; refine (awake_any).mono ?_; rintro e w2 ⟨rfl, hb2⟩) | (go_at_call 14; refine (HLONG.out w2).mono ?_; rintro e w3 ⟨rfl, rfl⟩))
    go_ret
    exact bp_true rfl (hb2.alloc hb2.size _)
  have h1b : decide (9000 < nn) = false := by simpa using h1
  by_cases h2 : 1000 < a
  · have h2b : decide (1000 < a) = true := by simpa using h2
    clear h1 h2
    go_enter Try.func8, Try.ntmps8
    go_wp2_with (first | (go_at_call 13; refine (awake_any).mono ?_; rintro e w2 ⟨rfl, hb2⟩) | (go_at_call 14; refine (HLONG.out w2).mono ?_; rintro e w3 ⟨rfl, rfl⟩))
    go_ret
    exact bp_true rfl (hb2.alloc hb2.size _)
  have h2b : decide (1000 < a) = false := by simpa using h2
  by_cases h3 : 1000 < b
  · have h3b : decide (1000 < b) = true := by simpa using h3
    clear h1 h2 h3
    go_enter Try.func8, Try.ntmps8
    go_wp2_with (first | (go_at_call 13; refine (awake_any).mono ?_; rintro e w2 ⟨rfl, hb2⟩) | (go_at_call 14; refine (HLONG.out w2).mono ?_; rintro e w3 ⟨rfl, rfl⟩))
    go_ret
    exact bp_true rfl (hb2.alloc hb2.size _)
  have h3b : decide (1000 < b) = false := by simpa using h3
  by_cases h4 : 1000 < x
  · have h4b : decide (1000 < x) = true := by simpa using h4
    clear h1 h2 h3 h4
    go_enter Try.func8, Try.ntmps8
    go_wp2_with (first | (go_at_call 13; refine (awake_any).mono ?_; rintro e w2 ⟨rfl, hb2⟩) | (go_at_call 14; refine (HLONG.out w2).mono ?_; rintro e w3 ⟨rfl, rfl⟩))
    go_ret
    exact bp_true rfl (hb2.alloc hb2.size _)
  have h4b : decide (1000 < x) = false := by simpa using h4
  by_cases h5 : shapeI t = 0
  rotate_left
  · have h5b : (shapeI t != 0) = true := by simp [h5]
    clear h1 h2 h3 h4 h5
    go_enter Try.func8, Try.ntmps8
    go_wp2_with (first | (go_at_call 13; refine (awake_any).mono ?_; rintro e w2 ⟨rfl, hb2⟩) | (go_at_call 14; refine (HLONG.out w2).mono ?_; rintro e w3 ⟨rfl, rfl⟩))
    have hb3 := hb2.alloc hb2.size (.cells #[.slice A nn c] 23)
    refine (shape_any (HT.out.below hb3)).mono ?_
    rintro e w4 ⟨rfl, hb4⟩
    go_wp2_with fail
    go_ret
    exact bp_true rfl (hb3.trans (hb4.mono hb3.size))
  have h5b : (shapeI t != 0) = false := by simp [h5]
  have ha2 : a ≤ 1000 := by omega
  have hbb2 : b ≤ 1000 := by omega
  have hx2 : x ≤ 1000 := by omega
  have hlif := fun h => lifted (t := t) (a := a) (b := b) (fr := x) h5 ha0 hbb0 hx0 (by omega) h
  have herr := liftR_err h5 (up := a + b) (fr := x) (by omega) hx0
  have htl := shape_few h5
  clear h1 h2 h3 h4 h5
  go_enter Try.func8, Try.ntmps8
  go_wp2_with (first | (go_at_call 13; refine (awake_any).mono ?_; rintro e w2 ⟨rfl, hb2⟩) | (go_at_call 14; refine (HLONG.out w2).mono ?_; rintro e w3 ⟨rfl, rfl⟩))
  have hb3 := hb2.alloc hb2.size (.cells #[.slice A nn c] 23)
  refine (shape_any (HT.out.below hb3)).mono ?_
  rintro e w4 ⟨rfl, hb4⟩
  have hb5 := hb3.trans (hb4.mono hb3.size)
  go_wp2_with fail
  refine (lift_any (HT.out.below hb5) (a + b) x (by omega)).mono ?_
  rintro e w5 ⟨hb6, A1, n1, c1, rfl, hown1⟩
  have hb7 := hb5.trans (hb6.mono hb5.size)
  rcases herr with he | he
  rotate_left
  · rw [he]
    go_wp2_with fail
    go_ret
    exact bp_true rfl hb7
  obtain ⟨e1, s1, e2, hz, s2, hfree, hbel⟩ := hlif he
  rw [he]
  have tx := OwnN.termV hown1 (shape_few s2)
  go_wp2_with fail
  refine (lift_any (HT.out.below hb7) a x (by omega)).mono ?_
  rintro e w6 ⟨hb8, A2, n2, c2, rfl, hown2⟩
  have hb9 := hb7.trans (hb8.mono hb7.size)
  have ty := OwnN.termV hown2 (shape_few s1)
  rw [e1]
  go_wp2_with fail
  refine (lift_any ty b (x + a) (by omega)).mono ?_
  rintro e w7 ⟨hb10, A3, n3, c3, rfl, hown3⟩
  have hb11 := hb9.trans (hb10.mono hb9.size)
  rw [hz] at hown3
  have tz := OwnN.termV hown3 (shape_few s2)
  rw [e2]
  go_wp2_with fail
  refine (same_any w7 (tx.below (hb8.trans (hb10.mono hb8.size))) tz).mono ?_
  rintro e w8 ⟨rfl, m, hw8⟩
  rw [show decide ((liftR t (a + b) x).1 = (liftR t (a + b) x).1) = true from decide_eq_true rfl]
  have hb12 : Below w.heap.size w w8 := by rw [hw8]; exact below_drewN hb11 m
  have ty8 : TermV w8 A2 n2 c2 (liftR t a x).1 := by rw [hw8]; exact ty.below (below_drewN hb10 m)
  have tx8 : TermV w8 A1 n1 c1 (liftR t (a + b) x).1 := by rw [hw8]; exact tx.below (below_drewN (hb8.trans (hb10.mono hb8.size)) m)
  clear hw8
  by_cases hpa : 0 < a
  · have hpab : decide (0 < a) = true := by simpa using hpa
    have hfr := hfree hpa
    clear hpa
    go_wp2_with fail
    refine (free_any ty8 x).mono ?_
    rintro e w9 ⟨rfl, hb13⟩
    have hbt := hb12.trans (hb13.mono hb12.size)
    have tx9 := tx8.below hb13
    rw [hfr]
    go_wp2_with fail
    refine (below_any (HT.out.below hbt) x).mono ?_
    rintro e w10 ⟨rfl, hb14⟩
    have hb15 := hbt.trans (hb14.mono hbt.size)
    by_cases hB : belowB t x = true
    · rw [hB]
      dsimp only
      go_wp2_with fail
      refine (same_any w10 (HT.out.below hb15) (tx9.below hb14)).mono ?_
      rintro e w11 ⟨rfl, m2, hw11⟩
      have hb16 : Below w.heap.size w (w10.drewN m2) := below_drewN hb15 m2
      subst hw11
      rw [show decide (t = (liftR t (a + b) x).1) = true from decide_eq_true (hbel hB)]
      dsimp only
      go_wp2_with fail
      go_ret
      exact bp_true rfl hb16
    · rw [Bool.not_eq_true] at hB
      rw [hB]
      go_wp2_with fail
      go_ret
      exact bp_true rfl hb15
  · have hpab : decide (0 < a) = false := by simpa using hpa
    clear hpa
    go_wp2_with fail
    refine (below_any (HT.out.below hb12) x).mono ?_
    rintro e w10 ⟨rfl, hb14⟩
    have hb15 := hb12.trans (hb14.mono hb12.size)
    by_cases hB : belowB t x = true
    · rw [hB]
      dsimp only
      go_wp2_with fail
      refine (same_any w10 (HT.out.below hb15) (tx8.below hb14)).mono ?_
      rintro e w11 ⟨rfl, m2, hw11⟩
      have hb16 : Below w.heap.size w (w10.drewN m2) := below_drewN hb15 m2
      subst hw11
      rw [show decide (t = (liftR t (a + b) x).1) = true from decide_eq_true (hbel hB)]
      dsimp only
      go_wp2_with fail
      go_ret
      exact bp_true rfl hb16
    · rw [Bool.not_eq_true] at hB
      rw [hB]
      go_wp2_with fail
      go_ret
      exact bp_true rfl hb15

end Go.Proofs.Ytnmeglbamfjcgaa
