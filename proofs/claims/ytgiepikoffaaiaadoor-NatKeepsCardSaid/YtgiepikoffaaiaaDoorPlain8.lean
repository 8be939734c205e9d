/- Numbers as rows of digits of base 256: plain laws. No program. -/
import Derived.WalkKit
import Derived.Lib.Hide
namespace Go.Proofs.YtgiepikoffaaiaaDoor

/-- The number that words stand for, the least word first. -/
def val8 : List Nat → Nat
  | [] => 0
  | x :: l => x + 256 * val8 l
def Ok8 (l : List Nat) : Prop := ∀ x ∈ l, x < 256
def pw8 (i : Nat) : Nat := 256 ^ i
/-- The words of a number, none 0 at the end. -/
def dgs (n : Nat) : List Nat := if h : n = 0 then [] else n % 256 :: dgs (n / 256)
termination_by n
decreasing_by omega
def dg8 (l : List Nat) (i : Nat) : Nat := l.getD i 0

theorem pw_zero8 : pw8 0 = 1 := rfl
theorem pw_succ8 (i : Nat) : pw8 (i + 1) = 256 * pw8 i := by unfold pw8; rw [Nat.pow_succ, Nat.mul_comm]
theorem pw_pos8 (i : Nat) : 0 < pw8 i := Nat.pow_pos (by decide)
theorem pw_add8 (i j : Nat) : pw8 (i + j) = pw8 i * pw8 j := by unfold pw8; rw [Nat.pow_add]
theorem pw_le8 {i j : Nat} (h : i ≤ j) : pw8 i ≤ pw8 j := Nat.pow_le_pow_right (by decide) h

theorem wd_lt8 {l : List Nat} (h : Ok8 l) (i : Nat) : dg8 l i < 256 := by
  unfold dg8
  rw [List.getD_eq_getElem?_getD]
  by_cases hi : i < l.length
  · rw [List.getElem?_eq_getElem hi]; exact h _ (List.getElem_mem hi)
  · rw [List.getElem?_eq_none (by omega)]; decide
theorem wd_out8 {l : List Nat} {i : Nat} (h : l.length ≤ i) : dg8 l i = 0 := by
  unfold dg8
  rw [List.getD_eq_getElem?_getD, List.getElem?_eq_none h]; rfl
theorem wd_eq8 {l : List Nat} {i : Nat} (h : i < l.length) : dg8 l i = l[i] := by
  unfold dg8
  rw [List.getD_eq_getElem?_getD, List.getElem?_eq_getElem h]; rfl
theorem ok_nil8 : Ok8 [] := fun x h => by cases h
theorem ok_cons8 {x : Nat} {l : List Nat} : Ok8 (x :: l) ↔ x < 256 ∧ Ok8 l := by
  unfold Ok8; simp
theorem ok_take8 {l : List Nat} (h : Ok8 l) (k : Nat) : Ok8 (l.take k) := fun x hx => h x (List.mem_of_mem_take hx)
theorem ok_drop8 {l : List Nat} (h : Ok8 l) (k : Nat) : Ok8 (l.drop k) := fun x hx => h x (List.mem_of_mem_drop hx)
theorem ok_set8 {l : List Nat} (h : Ok8 l) (k : Nat) {x : Nat} (hx : x < 256) : Ok8 (l.set k x) := fun y hy => by
  rcases List.mem_or_eq_of_mem_set hy with h1 | h1
  · exact h y h1
  · omega
theorem ok_zero8 (k : Nat) : Ok8 (List.replicate k 0) := fun x hx => by
  rw [List.mem_replicate] at hx
  omega
theorem wd_set8 {l : List Nat} {k i x : Nat} (h : k < l.length) : dg8 (l.set k x) i = if i = k then x else dg8 l i := by
  unfold dg8
  rw [List.getD_eq_getElem?_getD, List.getD_eq_getElem?_getD, List.getElem?_set]
  by_cases e : k = i
  · subst e; simp [h]
  · rw [if_neg e, if_neg (fun q => e q.symm)]
theorem wd_zero8 (k i : Nat) : dg8 (List.replicate k 0) i = 0 := by
  unfold dg8
  rw [List.getD_eq_getElem?_getD, List.getElem?_replicate]
  split <;> rfl
theorem wd_take8 {l : List Nat} {k i : Nat} (h : i < k) : dg8 (l.take k) i = dg8 l i := by
  unfold dg8
  rw [List.getD_eq_getElem?_getD, List.getD_eq_getElem?_getD, List.getElem?_take, if_pos h]
theorem wd_drop8 (l : List Nat) (k i : Nat) : dg8 (l.drop k) i = dg8 l (k + i) := by
  unfold dg8
  rw [List.getD_eq_getElem?_getD, List.getD_eq_getElem?_getD, List.getElem?_drop]
theorem ext_wd8 {l m : List Nat} (h : l.length = m.length) (hk : ∀ k, k < l.length → dg8 l k = dg8 m k) : l = m := by
  apply List.ext_getElem h
  intro i h1 h2
  have := hk i h1
  rwa [wd_eq8 h1, wd_eq8 h2] at this

theorem val_append8 : ∀ (l m : List Nat), val8 (l ++ m) = val8 l + pw8 l.length * val8 m
  | [], m => by simp [val8, pw_zero8]
  | x :: l, m => by
    simp only [List.cons_append, val8, List.length_cons, pw_succ8]
    rw [val_append8 l m]
    grind
theorem val_lt8 : ∀ {l : List Nat}, Ok8 l → val8 l < pw8 l.length
  | [], _ => by simp [val8, pw_zero8]
  | x :: l, h => by
    rw [ok_cons8] at h
    have := val_lt8 h.2
    simp only [val8, List.length_cons, pw_succ8]
    omega
theorem val_take_succ8 (l : List Nat) (i : Nat) : val8 (l.take (i + 1)) = val8 (l.take i) + pw8 i * dg8 l i := by
  by_cases h : i < l.length
  · rw [List.take_succ_eq_append_getElem h, val_append8, List.length_take, Nat.min_eq_left (by omega), wd_eq8 h]
    simp [val8]
  · rw [wd_out8 (by omega), List.take_of_length_le (by omega), List.take_of_length_le (by omega)]
    simp
theorem val_take_all8 {l : List Nat} {k : Nat} (h : l.length ≤ k) : val8 (l.take k) = val8 l := by rw [List.take_of_length_le h]
theorem val_split8 (l : List Nat) (k : Nat) : val8 l = val8 (l.take k) + pw8 k * val8 (l.drop k) := by
  by_cases h : k ≤ l.length
  · conv => lhs; rw [← List.take_append_drop k l]
    rw [val_append8, List.length_take, Nat.min_eq_left h]
  · rw [List.take_of_length_le (by omega), List.drop_eq_nil_of_le (by omega)]; simp [val8]
theorem val_zeros8 : ∀ (k : Nat), val8 (List.replicate k 0) = 0
  | 0 => rfl
  | k + 1 => by simp [List.replicate_succ, val8, val_zeros8 k]
theorem val_zero_of8 {l : List Nat} (h : ∀ k, k < l.length → dg8 l k = 0) : val8 l = 0 := by
  have : l = List.replicate l.length 0 := ext_wd8 (by simp) fun k hk => by rw [h k hk, wd_zero8]
  rw [this, val_zeros8]
theorem val_set8 : ∀ (l : List Nat) (i x : Nat), i < l.length → val8 (l.set i x) + pw8 i * dg8 l i = val8 l + pw8 i * x
  | [], i, x, h => absurd h (by simp)
  | y :: l, 0, x, _ => by simp [val8, pw_zero8, dg8]; omega
  | y :: l, i + 1, x, h => by
    have ih := val_set8 l i x (by simpa using h)
    have e : dg8 (y :: l) (i + 1) = dg8 l i := by simp [dg8]
    simp only [List.set_cons_succ, val8, pw_succ8, e]
    grind

theorem val_wds8 (n : Nat) : val8 (dgs n) = n := by
  induction n using Nat.strongRecOn with
  | ind n ih =>
    rw [dgs]
    split
    · rename_i h; subst h; rfl
    · rename_i h
      simp only [val8]
      rw [ih (n / 256) (by omega)]
      omega
theorem ok_wds8 (n : Nat) : Ok8 (dgs n) := by
  induction n using Nat.strongRecOn with
  | ind n ih =>
    rw [dgs]
    split
    · exact ok_nil8
    · rw [ok_cons8]
      exact ⟨by omega, ih _ (by omega)⟩
theorem wds_zero8 : dgs 0 = [] := by rw [dgs]; simp
theorem wds_pos8 {n : Nat} (h : n ≠ 0) : dgs n = n % 256 :: dgs (n / 256) := by
  conv => lhs; rw [dgs]
  rw [dif_neg h]
theorem wds_cons8 {x v : Nat} (hx : x < 256) (h : x + 256 * v ≠ 0) : dgs (x + 256 * v) = x :: dgs v := by
  rw [wds_pos8 h]
  congr 1
  · omega
  · congr 1; omega
theorem wds_val8 : ∀ {l : List Nat}, Ok8 l → (l = [] ∨ dg8 l (l.length - 1) ≠ 0) → dgs (val8 l) = l
  | [], _, _ => wds_zero8
  | [x], h, hl => by
    rw [ok_cons8] at h
    have hx : x ≠ 0 := by
      rcases hl with h1 | h1
      · cases h1
      · simpa [dg8] using h1
    have := wds_cons8 (v := 0) h.1 (by omega)
    simpa [val8, wds_zero8] using this
  | x :: y :: l, h, hl => by
    rw [ok_cons8] at h
    have hl' : dg8 (y :: l) ((y :: l).length - 1) ≠ 0 := by
      rcases hl with h1 | h1
      · cases h1
      · simpa [dg8] using h1
    have ih := wds_val8 h.2 (.inr hl')
    have hv : val8 (y :: l) ≠ 0 := by
      intro e
      rw [e, wds_zero8] at ih
      cases ih
    show dgs (x + 256 * val8 (y :: l)) = _
    rw [wds_cons8 h.1 (by omega), ih]
/-- Norm. -/
theorem wds_take8 {l : List Nat} {n : Nat} (ho : Ok8 l) (hn : n ≤ l.length) (hz : ∀ k, n ≤ k → dg8 l k = 0) (hl : n = 0 ∨ dg8 l (n - 1) ≠ 0) : dgs (val8 l) = l.take n := by
  have e : val8 l = val8 (l.take n) := by
    rw [val_split8 l n, val_zero_of8 (l := l.drop n) (fun k _ => by rw [wd_drop8]; exact hz _ (by omega))]
    simp
  rw [e]
  refine wds_val8 (ok_take8 ho n) ?_
  rcases hl with rfl | hl
  · left; rfl
  · by_cases h0 : n = 0
    · left; subst h0; rfl
    · right
      rw [List.length_take, Nat.min_eq_left hn, wd_take8 (by omega)]
      exact hl
theorem wds_len8 {n k : Nat} (h : n < pw8 k) : (dgs n).length ≤ k := by
  induction k generalizing n with
  | zero =>
    rw [pw_zero8] at h
    obtain rfl : n = 0 := by omega
    rw [wds_zero8]; simp
  | succ k ih =>
    by_cases h0 : n = 0
    · subst h0; rw [wds_zero8]; simp
    · rw [wds_pos8 h0, List.length_cons]
      rw [pw_succ8] at h
      have := ih (n := n / 256) (by omega)
      omega
theorem wds_inj8 {m n : Nat} (h : dgs m = dgs n) : m = n := by rw [← val_wds8 m, ← val_wds8 n, h]
theorem wds_nil8 {n : Nat} : dgs n = [] ↔ n = 0 := ⟨fun h => wds_inj8 (h.trans wds_zero8.symm), fun h => by rw [h, wds_zero8]⟩

theorem cmp_lt8 {a b : List Nat} {i : Nat} (ha : Ok8 a) (h : ∀ k, i < k → dg8 a k = dg8 b k) (hi : dg8 a i < dg8 b i) : val8 a < val8 b := by
  have e : val8 (a.drop (i + 1)) = val8 (b.drop (i + 1)) := by
    have key : ∀ (n : Nat) (l m : List Nat), l.length ≤ n → m.length ≤ n → (∀ k, dg8 l k = dg8 m k) → val8 l = val8 m := by
      intro n
      induction n with
      | zero =>
        intro l m hl hm _
        rw [List.eq_nil_of_length_eq_zero (by omega : l.length = 0), List.eq_nil_of_length_eq_zero (by omega : m.length = 0)]
      | succ n ih =>
        intro l m hl hm hk
        have h1 := val_split8 l 1
        have h2 := val_split8 m 1
        have h3 := val_take_succ8 l 0
        have h4 := val_take_succ8 m 0
        have h5 := ih (l.drop 1) (m.drop 1) (by rw [List.length_drop]; omega) (by rw [List.length_drop]; omega) (fun k => by rw [wd_drop8, wd_drop8]; exact hk _)
        rw [h1, h2, h5]
        simp only [Nat.zero_add] at h3 h4
        rw [h3, h4, hk 0]
        simp [val8]
    refine key (max a.length b.length) _ _ (by rw [List.length_drop]; omega) (by rw [List.length_drop]; omega) fun k => ?_
    rw [wd_drop8, wd_drop8]
    exact h _ (by omega)
  rw [val_split8 a (i + 1), val_split8 b (i + 1), e, val_take_succ8, val_take_succ8]
  have h1 := val_lt8 (ok_take8 ha i)
  have h2 : pw8 (a.take i).length ≤ pw8 i := pw_le8 (by rw [List.length_take]; omega)
  have h3 : pw8 i * dg8 a i + pw8 i ≤ pw8 i * dg8 b i := by
    have := Nat.mul_le_mul_left (pw8 i) (show dg8 a i + 1 ≤ dg8 b i from hi)
    rwa [Nat.mul_add, Nat.mul_one] at this
  omega
theorem cmp_eq8 {a b : List Nat} (h : ∀ k, dg8 a k = dg8 b k) : val8 a = val8 b := by
  have h1 : ∀ i, val8 (a.take i) = val8 (b.take i) := by
    intro i
    induction i with
    | zero => rfl
    | succ i ih => rw [val_take_succ8, val_take_succ8, ih, h]
  have := h1 (max a.length b.length)
  rwa [val_take_all8 (by omega), val_take_all8 (by omega)] at this

end Go.Proofs.YtgiepikoffaaiaaDoor
