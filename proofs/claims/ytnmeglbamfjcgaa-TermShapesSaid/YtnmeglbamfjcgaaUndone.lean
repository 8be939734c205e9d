/- TermUndone: the law, walked. -/
import Derived.Test.YtnmeglbamfjcgaaAwake
import Derived.Test.YtnmeglbamfjcgaaTermP
namespace Go.Proofs.Ytnmeglbamfjcgaa
open Go.RowKit

theorem liftR_err {t : List Nd} {up fr : Int} (ht : shapeI t = 0) (h0 : 0 ≤ up) (h1 : 0 ≤ fr) : (liftR t up fr).2 = 0 ∨ (liftR t up fr).2 = 6 := by
  unfold liftR
  rw [if_pos ht, if_neg (by omega)]
  unfold liftT
  split
  · split
    · exact .inl rfl
    · exact .inr rfl
  · exact .inl rfl

theorem shape_few {l : List Nd} (h : shapeI l = 0) : l.length ≤ 5864062014805 := by
  obtain ⟨hl, _⟩ := shape_ok h
  omega
theorem bp_true {b : Bool} {w w' : World} (hb : b = true) (h : Below w.heap.size w w') : BoolPost true w (.returned (.bool b)) w' := by
  subst hb
  exact ⟨rfl, h⟩
theorem two_cells {w : World} {x y : Value} {i : Nat} {L : List Nat} (h : Blk w i 23 #[x, y]) (hx : ∃ A d, x = .slice A (L.getD 0 0) d) (hy : ∃ A d, y = .slice A (L.getD 1 0) d) (hL : L.length = 2) : ∀ j, j < L.length → ∃ A d, w.cell? ⟨i, 0 + j, none⟩ = some (.slice A (L.getD j 0) d) := by
  intro j hj
  rw [hL] at hj
  rw [Nat.zero_add, h.cell]
  match j, hj with
  | 0, _ => obtain ⟨A, d, rfl⟩ := hx; exact ⟨A, d, rfl⟩
  | 1, _ => obtain ⟨A, d, rfl⟩ := hy; exact ⟨A, d, rfl⟩

set_option linter.unusedSimpArgs false in
set_option maxRecDepth 100000 in
set_option maxHeartbeats 2000000 in
theorem undone_law {A B : Option Addr} {nn c mm d : Nat} {t u : List Nd} {w : World} (ht : TermV w A nn c t) (hu : TermV w B mm d u) (x : Int) (hx0 : 0 ≤ x) (hx1 : x ≤ 65535) :
    Calls Try.prog 6 #[.slice A nn c, .slice B mm d, .int .u16 x] w (BoolPost true w) := by
  have hft := ht.few
  have hfu := hu.few
  have HT := Lib.hid ht
  have HU := Lib.hid hu
  clear ht hu
  have hlong : ∀ w2 : World, Calls Try.prog 14 #[.slice (some ⟨w2.heap.size, 0, none⟩) 2 2] (w2.alloc (.cells #[.slice A nn c, .slice B mm d] 23)) fun e w' => e = .returned (.bool (decide (9000 < nn + mm))) ∧ (w2.alloc (.cells #[.slice A nn c, .slice B mm d] 23)) = w' := fun w2 => by
    have := long_any (L := [nn, mm]) (c := 2) (w := w2.alloc (.cells #[.slice A nn c, .slice B mm d] 23)) (b := w2.heap.size) (off := 0) (by simp) (two_cells (Blk.new _ _ _) ⟨_, _, rfl⟩ ⟨_, _, rfl⟩ rfl) (fun i => by
      match i with
      | 0 => exact hft
      | 1 => exact hfu
      | n + 2 => exact Nat.zero_le _) (by simp)
    refine this.mono ?_
    rintro e w' ⟨he, hw⟩
    refine ⟨?_, hw⟩
    rw [he]
    congr 2
  have HLONG := Lib.hid hlong
  clear hlong
  by_cases h1 : 9000 < nn + mm
  · have h1b : decide (9000 < nn + mm) = true := by simpa using h1
    clear h1
    go_enter Try.func6, Try.ntmps6
    go_wp2_with (first | (go_at_call 13; refine (awake_any).mono ?_; rintro e w2 ⟨rfl, hb2⟩) | (go_at_call 14; refine (HLONG.out w2).mono ?_; rintro e w3 ⟨rfl, rfl⟩))
    go_ret
    exact bp_true rfl (hb2.alloc hb2.size _)
  · have h1b : decide (9000 < nn + mm) = false := by simpa using h1
    clear h1
    by_cases h2 : 1000 < x
    · go_enter Try.func6, Try.ntmps6
      go_wp2_with (first | (go_at_call 13; refine (awake_any).mono ?_; rintro e w2 ⟨rfl, hb2⟩) | (go_at_call 14; refine (HLONG.out w2).mono ?_; rintro e w3 ⟨rfl, rfl⟩))
      go_ret
      exact bp_true rfl (hb2.alloc hb2.size _)
    · have h2b : decide (1000 < x) = false := by simpa using h2
      by_cases h3 : shapeI t = 0
      · by_cases h4 : shapeI u = 0
        · have h3b : (shapeI t != 0) = false := by simp [h3]
          have h4b : (shapeI u != 0) = false := by simp [h4]
          have hx2 : x ≤ 1000 := by omega
          have hund := fun h => undone (t := t) (u := u) (x := x) h3 h4 hx0 (by omega) h
          have herr := liftR_err h3 (up := 1) (fr := x) (by omega) hx0
          have htl := shape_few h3
          clear h2 h3 h4
          go_enter Try.func6, Try.ntmps6
          go_wp2_with (first | (go_at_call 13; refine (awake_any).mono ?_; rintro e w2 ⟨rfl, hb2⟩) | (go_at_call 14; refine (HLONG.out w2).mono ?_; rintro e w3 ⟨rfl, rfl⟩))
          have hb3 := hb2.alloc hb2.size (.cells #[.slice A nn c, .slice B mm d] 23)
          refine (shape_any (HT.out.below hb3)).mono ?_
          rintro e w4 ⟨rfl, hb4⟩
          have hb5 := hb3.trans (hb4.mono hb3.size)
          go_wp2_with fail
          refine (shape_any (HU.out.below hb5)).mono ?_
          rintro e w5 ⟨rfl, hb6⟩
          have hb7 := hb5.trans (hb6.mono hb5.size)
          go_wp2_with fail
          refine (lift_any (HT.out.below hb7) 1 x (by omega)).mono ?_
          rintro e w6 ⟨hb8, A', n', c', rfl, hown⟩
          have hb9 := hb7.trans (hb8.mono hb7.size)
          rcases herr with he | he
          · obtain ⟨hD, hs, hR⟩ := hund he
            rw [he]
            have htl2 := OwnN.termV hown (shape_few hs)
            go_wp2_with fail
            refine (subst_any htl2 (HU.out.below hb9) x (fun _ _ _ => hD)).mono ?_
            rintro e w7 ⟨hb10, A2, n2, c2, rfl, hown2⟩
            have hb11 := hb9.trans (hb10.mono hb9.size)
            rw [hR] at hown2 ⊢
            have ht2 := OwnN.termV hown2 htl
            go_wp2_with fail
            refine (same_any w7 ht2 (HT.out.below hb11)).mono ?_
            rintro e w8 ⟨rfl, m, rfl⟩
            go_wp2_with fail
            go_ret
            exact bp_true (by simp) (below_drewN hb11 _)
          · rw [he]
            go_wp2_with fail
            go_ret
            exact bp_true rfl hb9
        · have h3b : (shapeI t != 0) = false := by simp [h3]
          have h4b : (shapeI u != 0) = true := by simp [h4]
          clear h2 h3 h4
          go_enter Try.func6, Try.ntmps6
          go_wp2_with (first | (go_at_call 13; refine (awake_any).mono ?_; rintro e w2 ⟨rfl, hb2⟩) | (go_at_call 14; refine (HLONG.out w2).mono ?_; rintro e w3 ⟨rfl, rfl⟩))
          have hb3 := hb2.alloc hb2.size (.cells #[.slice A nn c, .slice B mm d] 23)
          refine (shape_any (HT.out.below hb3)).mono ?_
          rintro e w4 ⟨rfl, hb4⟩
          have hb5 := hb3.trans (hb4.mono hb3.size)
          go_wp2_with fail
          refine (shape_any (HU.out.below hb5)).mono ?_
          rintro e w5 ⟨rfl, hb6⟩
          go_wp2_with fail
          go_ret
          exact bp_true rfl (hb5.trans (hb6.mono hb5.size))
      · have h3b : (shapeI t != 0) = true := by simp [h3]
        clear h2 h3
        go_enter Try.func6, Try.ntmps6
        go_wp2_with (first | (go_at_call 13; refine (awake_any).mono ?_; rintro e w2 ⟨rfl, hb2⟩) | (go_at_call 14; refine (HLONG.out w2).mono ?_; rintro e w3 ⟨rfl, rfl⟩))
        have hb3 := hb2.alloc hb2.size (.cells #[.slice A nn c, .slice B mm d] 23)
        refine (shape_any (HT.out.below hb3)).mono ?_
        rintro e w4 ⟨rfl, hb4⟩
        go_wp2_with fail
        go_ret
        exact bp_true rfl (hb3.trans (hb4.mono hb3.size))

end Go.Proofs.Ytnmeglbamfjcgaa
