/- Slices of numbers and slices of rows in memory; the two are compared (SameInts, SameRows of the references). -/
import Derived.Test.YtnmeglbamfjcgaaSame
namespace Go.Proofs.Ytnmeglbamfjcgaa
open Go.RowKit

/-- The slice value '.slice A n c' reads as these numbers. -/
structure IntsR (R : Nat → Prop) (w : World) (A : Option Addr) (n c : Nat) (zs : List Int) : Prop where
  len : zs.length = n
  few : n ≤ 5864062014805
  mem : 0 < n → ∃ b off, A = some ⟨b, off, none⟩ ∧ R b ∧ ∀ k, k < n → w.cell? ⟨b, off + k, none⟩ = some (.int .i64 (zs.getD k 0))
/-- .. as these rows. -/
structure RowsR (R : Nat → Prop) (w : World) (A : Option Addr) (n c : Nat) (ls : List (List Nd)) : Prop where
  len : ls.length = n
  few : n ≤ 5864062014805
  mem : 0 < n → ∃ b off, A = some ⟨b, off, none⟩ ∧ R b ∧ ∀ k, k < n → ∃ A' n' c', w.cell? ⟨b, off + k, none⟩ = some (.slice A' n' c') ∧ TermR R w A' n' c' (ls.getD k [])
theorem IntsR.keep {R R' : Nat → Prop} {w w' : World} {A : Option Addr} {n c : Nat} {zs : List Int} (h : IntsR R w A n c zs) (hR : ∀ b, R b → R' b ∧ ∀ o, w'.cell? ⟨b, o, none⟩ = w.cell? ⟨b, o, none⟩) : IntsR R' w' A n c zs := by
  refine ⟨h.len, h.few, fun hn => ?_⟩
  obtain ⟨b, off, e, hb, hk⟩ := h.mem hn
  exact ⟨b, off, e, (hR b hb).1, fun k hkn => by rw [(hR b hb).2]; exact hk k hkn⟩
theorem RowsR.keep {R R' : Nat → Prop} {w w' : World} {A : Option Addr} {n c : Nat} {ls : List (List Nd)} (h : RowsR R w A n c ls) (hR : ∀ b, R b → R' b ∧ ∀ o, w'.cell? ⟨b, o, none⟩ = w.cell? ⟨b, o, none⟩) : RowsR R' w' A n c ls := by
  refine ⟨h.len, h.few, fun hn => ?_⟩
  obtain ⟨b, off, e, hb, hk⟩ := h.mem hn
  refine ⟨b, off, e, (hR b hb).1, fun k hkn => ?_⟩
  obtain ⟨A', n', c', hc, ht⟩ := hk k hkn
  exact ⟨A', n', c', by rw [(hR b hb).2]; exact hc, ht.keep hR⟩
theorem ext_getD {α : Type} {d : α} {l m : List α} (h : l.length = m.length) (hk : ∀ k, k < l.length → l.getD k d = m.getD k d) : l = m := by
  apply List.ext_getElem h
  intro i h1 h2
  have := hk i h1
  simpa [List.getD_eq_getElem?_getD, List.getElem?_eq_getElem h1, List.getElem?_eq_getElem h2] using this

set_option maxHeartbeats 400000 in
theorem sameInts_any {R R' : Nat → Prop} {A A' : Option Addr} {n c n' c' : Nat} {l l' : List Int} (w : World) (h : IntsR R w A n c l) (h' : IntsR R' w A' n' c' l') :
    Calls Try.prog 31 #[.slice A n c, .slice A' n' c'] w fun e w' => e = .returned (.bool (decide (l = l'))) ∧ ∃ m, w' = w.drewN m := by
  have hf := h.few
  by_cases hne : n = n'
  · subst hne
    go_enter Try.func31, Try.ntmps31
    go_wp2
    go_loopw [5] (fun i wr => ∃ k : Nat, k ≤ n ∧ i = .int .i64 k ∧ (∃ dr, wr = w.drewN dr) ∧ ∀ j, j < k → l.getD j 0 = l'.getD j 0) (fun i _ => n - (intOf i).toNat)
    case atStart => exact ⟨0, Nat.zero_le _, rfl, ⟨0, rfl⟩, fun j hj => absurd hj (by omega)⟩
    case round =>
      obtain ⟨k, hk, rfl, ⟨dr, rfl⟩, hd⟩ := hrel
      have HD := Lib.hid hd
      clear hd
      by_cases hlt : k < n
      · obtain ⟨b, off, rfl, _, hm⟩ := h.mem (by omega)
        obtain ⟨b', off', rfl, _, hm'⟩ := h'.mem (by omega)
        have g0 := hm k hlt
        have g0' := hm' k hlt
        clear hm hm'
        generalize hx : l.getD k 0 = x at g0
        generalize hy : l'.getD k 0 = y at g0'
        by_cases hq : x = y
        · have HQ := Lib.hid hq
          have HX := Lib.hid hx
          have HY := Lib.hid hy
          have hnb : (x != y) = false := by simp [hq]
          clear hq hx hy
          go_wp2
          go_quiet (fail)
          go_wp2
          go_roundw
          case rel => exact ⟨k + 1, by omega, by go_num, ⟨_, rfl⟩, fun j hj => by
            by_cases e : j = k
            · subst e; rw [HX.out, HY.out]; exact HQ.out
            · exact HD.out j (by omega)⟩
          case measure => simp [intOf]; omega
        · have HQ := Lib.hid hq
          have HX := Lib.hid hx
          have HY := Lib.hid hy
          have hnb : (x != y) = true := by simp [hq]
          clear hq hx hy
          go_wp2
          go_quiet (fail)
          go_wp2
          go_ret
          refine ⟨ret_bool ?_, _, World.drewN_drewN _ _ _⟩
          have : l ≠ l' := fun e => HQ.out (by rw [← HX.out, ← HY.out, e])
          simp [this]
      · go_wp2
        go_ret
        refine ⟨ret_bool ?_, dr, rfl⟩
        have : l = l' := ext_getD (d := 0) (by rw [h.len, h'.len]) fun j hj => HD.out j (by rw [h.len] at hj; omega)
        simp [this]
  · have hb : (((n : Nat) : Int) != (n' : Int)) = true := by simp; omega
    go_enter Try.func31, Try.ntmps31
    go_wp2
    go_ret
    refine ⟨ret_bool ?_, 0, rfl⟩
    have : l ≠ l' := fun e => hne (by rw [← h.len, ← h'.len, e])
    simp [this]

set_option maxHeartbeats 1000000 in
theorem sameRows_any {R R' : Nat → Prop} {A A' : Option Addr} {n c n' c' : Nat} {l l' : List (List Nd)} (w : World) (hR : ∀ b, R b → b < w.heap.size) (hR' : ∀ b, R' b → b < w.heap.size) (h : RowsR R w A n c l) (h' : RowsR R' w A' n' c' l') :
    Calls Try.prog 28 #[.slice A n c, .slice A' n' c'] w fun e w' => e = .returned (.bool (decide (l = l'))) ∧ ∃ m, w' = w.drewN m := by
  have hf := h.few
  by_cases hne : n = n'
  · subst hne
    go_enter Try.func28, Try.ntmps28
    go_wp2
    go_loopw [5] (fun i wr => ∃ k : Nat, k ≤ n ∧ i = .int .i64 k ∧ (∃ dr, wr = w.drewN dr) ∧ ∀ j, j < k → l.getD j [] = l'.getD j []) (fun i _ => n - (intOf i).toNat)
    case atStart => exact ⟨0, Nat.zero_le _, rfl, ⟨0, rfl⟩, fun j hj => absurd hj (by omega)⟩
    case round =>
      obtain ⟨k, hk, rfl, ⟨dr, rfl⟩, hd⟩ := hrel
      have HD := Lib.hid hd
      clear hd
      by_cases hlt : k < n
      · obtain ⟨b, off, rfl, _, hm⟩ := h.mem (by omega)
        obtain ⟨b', off', rfl, _, hm'⟩ := h'.mem (by omega)
        obtain ⟨Ax, nx, cx, g0, tx⟩ := hm k hlt
        obtain ⟨Ay, ny, cy, g0', ty⟩ := hm' k hlt
        have htx : ∀ d m, TermV (w.drewN (d + m)) Ax nx cx (l.getD k []) := fun d m => tx.keep fun b hb => ⟨hR b hb, fun _ => rfl⟩
        have hty : ∀ d m, TermV (w.drewN (d + m)) Ay ny cy (l'.getD k []) := fun d m => ty.keep fun b hb => ⟨hR' b hb, fun _ => rfl⟩
        have HTX := Lib.hid htx
        have HTY := Lib.hid hty
        clear hm hm' tx ty htx hty
        generalize hx : l.getD k [] = x at HTX
        generalize hy : l'.getD k [] = y at HTY
        have HX := Lib.hid hx
        have HY := Lib.hid hy
        clear hx hy
        by_cases hq : x = y
        · have HQ := Lib.hid hq
          have hnb : decide (x = y) = true := by simp [hq]
          clear hq
          have hsame : ∀ d m, Calls Try.prog 17 #[.slice Ax nx cx, .slice Ay ny cy] (w.drewN (d + m)) fun e w' => e = .returned (.bool true) ∧ ∃ k, w' = w.drewN (d + k) := fun d m => by
            have := same_any _ (HTX.out d m) (HTY.out d m)
            rw [hnb] at this
            exact this.mono fun e w' ⟨h1, q, h2⟩ => ⟨h1, m + q, h2.trans ((World.drewN_drewN _ _ _).trans (by rw [Nat.add_assoc]))⟩
          have HSAME := Lib.hid hsame
          clear hsame hnb
          go_wp2
          go_quiet ((go_at_call 17; exact HSAME.out _ _))
          go_wp2
          go_roundw
          case rel => exact ⟨k + 1, by omega, by go_num, ⟨_, rfl⟩, fun j hj => by
            by_cases e : j = k
            · subst e; rw [HX.out, HY.out]; exact HQ.out
            · exact HD.out j (by omega)⟩
          case measure => simp [intOf]; omega
        · have HQ := Lib.hid hq
          have hnb : decide (x = y) = false := by simp [hq]
          clear hq
          have hsame : ∀ d m, Calls Try.prog 17 #[.slice Ax nx cx, .slice Ay ny cy] (w.drewN (d + m)) fun e w' => e = .returned (.bool false) ∧ ∃ k, w' = w.drewN (d + k) := fun d m => by
            have := same_any _ (HTX.out d m) (HTY.out d m)
            rw [hnb] at this
            exact this.mono fun e w' ⟨h1, q, h2⟩ => ⟨h1, m + q, h2.trans ((World.drewN_drewN _ _ _).trans (by rw [Nat.add_assoc]))⟩
          have HSAME := Lib.hid hsame
          clear hsame hnb
          go_wp2
          go_quiet ((go_at_call 17; exact HSAME.out _ _))
          go_wp2
          go_ret
          refine ⟨ret_bool ?_, _, World.drewN_drewN _ _ _⟩
          have : l ≠ l' := fun e => HQ.out (by rw [← HX.out, ← HY.out, e])
          simp [this]
      · go_wp2
        go_ret
        refine ⟨ret_bool ?_, dr, rfl⟩
        have : l = l' := ext_getD (d := []) (by rw [h.len, h'.len]) fun j hj => HD.out j (by rw [h.len] at hj; omega)
        simp [this]
  · have hb : (((n : Nat) : Int) != (n' : Int)) = true := by simp; omega
    go_enter Try.func28, Try.ntmps28
    go_wp2
    go_ret
    refine ⟨ret_bool ?_, 0, rfl⟩
    have : l ≠ l' := fun e => hne (by rw [← h.len, ← h'.len, e])
    simp [this]

end Go.Proofs.Ytnmeglbamfjcgaa
