/- The leaves: word, Same, longest, long. -/
import Derived.Test.YtgiepikoffaaiaaDoorMem
namespace Go.Proofs.YtgiepikoffaaiaaDoor
open Go.RowKit

theorem word_any {A : Option Addr} {n c : Nat} {l : List Nat} {w : World} (h : NatV w A n c l) (i : Nat) :
    Calls Tryd.prog 56 #[.slice A n c, .int .i64 (i : Int)] w fun e w' => e = .returned (.int .u32 ((wd l i : Nat) : Int)) ∧ w = w' := by
  have hf := h.few
  by_cases hi : i < n
  · obtain ⟨b, off, rfl, _, hm⟩ := h.mem (by omega)
    have hc := hm i hi
    clear hm h
    go_enter Tryd.func56, Tryd.ntmps56
    go_wp2
    go_ret
    exact ⟨rfl, rfl⟩
  · have hz := wd_out (l := l) (i := i) (by rw [h.len]; omega)
    have HZ := Lib.hid hz
    clear hz h
    go_enter Tryd.func56, Tryd.ntmps56
    go_wp2
    go_ret
    exact ⟨ret_int (by rw [HZ.out]; rfl), rfl⟩

set_option maxHeartbeats 400000 in
theorem same_any {R R' : Nat → Prop} {A A' : Option Addr} {n c n' c' : Nat} {l l' : List Nat} (w : World) (h : NatR R w A n c l) (h' : NatR R' w A' n' c' l') :
    Calls Tryd.prog 16 #[.slice A n c, .slice A' n' c'] w fun e w' => e = .returned (.bool (decide (l = l'))) ∧ ∃ m, w' = w.drewN m := by
  have hf := h.few
  by_cases hne : n = n'
  · subst hne
    go_enter Tryd.func16, Tryd.ntmps16
    go_wp2
    go_loopw [5] (fun i wr => ∃ k : Nat, k ≤ n ∧ i = .int .i64 k ∧ (∃ dr, wr = w.drewN dr) ∧ ∀ j, j < k → wd l j = wd l' j) (fun i _ => n - (intOf i).toNat)
    case atStart => exact ⟨0, Nat.zero_le _, rfl, ⟨0, rfl⟩, fun j hj => absurd hj (by omega)⟩
    case round =>
      obtain ⟨k, hk, rfl, ⟨dr, rfl⟩, hd⟩ := hrel
      have HD := Lib.hid hd
      clear hd
      by_cases hlt : k < n
      · obtain ⟨b, off, rfl, _, hm⟩ := h.mem (by omega)
        obtain ⟨b', off', rfl, _, hm'⟩ := h'.mem (by omega)
        have g0 := hm k hlt
        have g0' := hm' k hlt
        clear hm hm'
        generalize hx : wd l k = x at g0
        generalize hy : wd l' k = y at g0'
        by_cases hq : x = y
        · have HQ := Lib.hid hq
          have HX := Lib.hid hx
          have HY := Lib.hid hy
          have hnb : (((x : Nat) : Int) != ((y : Nat) : Int)) = false := by simp [hq]
          clear hq hx hy
          go_wp2
          go_quiet (fail)
          go_wp2
          go_roundw
          case rel => exact ⟨k + 1, by omega, by go_num, ⟨_, rfl⟩, fun j hj => by
            by_cases e : j = k
            · subst e; rw [HX.out, HY.out]; exact HQ.out
            · exact HD.out j (by omega)⟩
          case measure => simp [intOf]; omega
        · have HQ := Lib.hid hq
          have HX := Lib.hid hx
          have HY := Lib.hid hy
          have hnb : (((x : Nat) : Int) != ((y : Nat) : Int)) = true := by simp; omega
          clear hq hx hy
          go_wp2
          go_quiet (fail)
          go_wp2
          go_ret
          refine ⟨ret_bool ?_, _, World.drewN_drewN _ _ _⟩
          have : l ≠ l' := fun e => HQ.out (by rw [← HX.out, ← HY.out, e])
          simp [this]
      · go_wp2
        go_ret
        refine ⟨ret_bool ?_, dr, rfl⟩
        have : l = l' := ext_wd (by rw [h.len, h'.len]) fun j hj => HD.out j (by rw [h.len] at hj; omega)
        simp [this]
  · have hb : (((n : Nat) : Int) != (n' : Int)) = true := by simp; omega
    go_enter Tryd.func16, Tryd.ntmps16
    go_wp2
    go_ret
    refine ⟨ret_bool ?_, 0, rfl⟩
    have : l ≠ l' := fun e => hne (by rw [← h.len, ← h'.len, e])
    simp [this]

/-- Slices in a block of slices. -/
def slC (vs : List (Option Addr × Nat × Nat)) : Array Value := (vs.map fun v => Value.slice v.1 v.2.1 v.2.2).toArray
def maxL : List (Option Addr × Nat × Nat) → Nat
  | [] => 0
  | v :: vs => max v.2.1 (maxL vs)
theorem maxL_snoc : ∀ (vs : List (Option Addr × Nat × Nat)) (v : Option Addr × Nat × Nat), maxL (vs ++ [v]) = max (maxL vs) v.2.1
  | [], v => by simp [maxL]
  | u :: vs, v => by simp only [List.cons_append, maxL, maxL_snoc vs v]; omega

set_option maxHeartbeats 400000 in
theorem longest_any {g : Nat} {vs : List (Option Addr × Nat × Nat)} {w : World} (h : Blk w g 23 (slC vs)) (hs : vs.length ≤ 1000) (hm : ∀ v ∈ vs, v.2.1 ≤ 35184372087808) :
    Calls Tryd.prog 54 #[.slice (some ⟨g, 0, none⟩) vs.length vs.length] w fun e w' => e = .returned (.int .i64 ((maxL vs : Nat) : Int)) ∧ w = w' := by
  have HC := Lib.hid h.cell
  have HM := Lib.hid hm
  clear h hm
  go_enter Tryd.func54, Tryd.ntmps54
  go_wp2
  go_loop [3, 8] (fun m i => ∃ k : Nat, k ≤ vs.length ∧ i = .int .i64 k ∧ m = .int .i64 ((maxL (vs.take k) : Nat) : Int)) (fun _ i => vs.length - (intOf i).toNat)
  case atStart => exact ⟨0, Nat.zero_le _, rfl, rfl⟩
  case round =>
    obtain ⟨k, hk, rfl, rfl⟩ := hrel
    by_cases hlt : k < vs.length
    · have hc : w.cell? ⟨g, k, none⟩ = some (.slice vs[k].1 vs[k].2.1 vs[k].2.2) := by
        rw [HC.out k]; simp [slC, List.getElem?_eq_getElem hlt]
      have hb := HM.out vs[k] (List.getElem_mem hlt)
      have hsn : maxL (vs.take (k + 1)) = max (maxL (vs.take k)) vs[k].2.1 := by
        rw [List.take_succ_eq_append_getElem hlt, maxL_snoc]
      have HS := Lib.hid hsn
      clear hsn
      generalize vs[k].2.1 = ln at hc hb HS
      generalize vs[k].1 = la at hc
      generalize vs[k].2.2 = lc at hc
      go_wp2
      go_round
      case rel => exact ⟨k + 1, by omega, by go_num, by rw [HS.out]; congr 1; omega⟩
      case measure => simp [intOf]; omega
    · go_wp2
      go_ret
      exact ⟨ret_int (by rw [List.take_of_length_le (by omega)]), rfl⟩

end Go.Proofs.YtgiepikoffaaiaaDoor
