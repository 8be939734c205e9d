/- Numbers as rows of words of 32 bits: plain laws. No program. -/
import Derived.WalkKit
import Derived.Lib.Hide
namespace Go.Proofs.YtgiepikoffaaiaaDoor

/-- The number that words stand for, the least word first. -/
def val : List Nat → Nat
  | [] => 0
  | x :: l => x + 4294967296 * val l
def Ok (l : List Nat) : Prop := ∀ x ∈ l, x < 4294967296
def pw (i : Nat) : Nat := 4294967296 ^ i
/-- The words of a number, none 0 at the end. -/
def wds (n : Nat) : List Nat := if h : n = 0 then [] else n % 4294967296 :: wds (n / 4294967296)
termination_by n
decreasing_by omega
def wd (l : List Nat) (i : Nat) : Nat := l.getD i 0

theorem pw_zero : pw 0 = 1 := rfl
theorem pw_succ (i : Nat) : pw (i + 1) = 4294967296 * pw i := by unfold pw; rw [Nat.pow_succ, Nat.mul_comm]
theorem pw_pos (i : Nat) : 0 < pw i := Nat.pow_pos (by decide)
theorem pw_add (i j : Nat) : pw (i + j) = pw i * pw j := by unfold pw; rw [Nat.pow_add]
theorem pw_le {i j : Nat} (h : i ≤ j) : pw i ≤ pw j := Nat.pow_le_pow_right (by decide) h

theorem wd_lt {l : List Nat} (h : Ok l) (i : Nat) : wd l i < 4294967296 := by
  unfold wd
  rw [List.getD_eq_getElem?_getD]
  by_cases hi : i < l.length
  · rw [List.getElem?_eq_getElem hi]; exact h _ (List.getElem_mem hi)
  · rw [List.getElem?_eq_none (by omega)]; decide
theorem wd_out {l : List Nat} {i : Nat} (h : l.length ≤ i) : wd l i = 0 := by
  unfold wd
  rw [List.getD_eq_getElem?_getD, List.getElem?_eq_none h]; rfl
theorem wd_eq {l : List Nat} {i : Nat} (h : i < l.length) : wd l i = l[i] := by
  unfold wd
  rw [List.getD_eq_getElem?_getD, List.getElem?_eq_getElem h]; rfl
theorem ok_nil : Ok [] := fun x h => by cases h
theorem ok_cons {x : Nat} {l : List Nat} : Ok (x :: l) ↔ x < 4294967296 ∧ Ok l := by
  unfold Ok; simp
theorem ok_take {l : List Nat} (h : Ok l) (k : Nat) : Ok (l.take k) := fun x hx => h x (List.mem_of_mem_take hx)
theorem ok_drop {l : List Nat} (h : Ok l) (k : Nat) : Ok (l.drop k) := fun x hx => h x (List.mem_of_mem_drop hx)
theorem ok_set {l : List Nat} (h : Ok l) (k : Nat) {x : Nat} (hx : x < 4294967296) : Ok (l.set k x) := fun y hy => by
  rcases List.mem_or_eq_of_mem_set hy with h1 | h1
  · exact h y h1
  · omega
theorem ok_zero (k : Nat) : Ok (List.replicate k 0) := fun x hx => by
  rw [List.mem_replicate] at hx
  omega
theorem wd_set {l : List Nat} {k i x : Nat} (h : k < l.length) : wd (l.set k x) i = if i = k then x else wd l i := by
  unfold wd
  rw [List.getD_eq_getElem?_getD, List.getD_eq_getElem?_getD, List.getElem?_set]
  by_cases e : k = i
  · subst e; simp [h]
  · rw [if_neg e, if_neg (fun q => e q.symm)]
theorem wd_zero (k i : Nat) : wd (List.replicate k 0) i = 0 := by
  unfold wd
  rw [List.getD_eq_getElem?_getD, List.getElem?_replicate]
  split <;> rfl
theorem wd_take {l : List Nat} {k i : Nat} (h : i < k) : wd (l.take k) i = wd l i := by
  unfold wd
  rw [List.getD_eq_getElem?_getD, List.getD_eq_getElem?_getD, List.getElem?_take, if_pos h]
theorem wd_drop (l : List Nat) (k i : Nat) : wd (l.drop k) i = wd l (k + i) := by
  unfold wd
  rw [List.getD_eq_getElem?_getD, List.getD_eq_getElem?_getD, List.getElem?_drop]
theorem ext_wd {l m : List Nat} (h : l.length = m.length) (hk : ∀ k, k < l.length → wd l k = wd m k) : l = m := by
  apply List.ext_getElem h
  intro i h1 h2
  have := hk i h1
  rwa [wd_eq h1, wd_eq h2] at this

theorem val_append : ∀ (l m : List Nat), val (l ++ m) = val l + pw l.length * val m
  | [], m => by simp [val, pw_zero]
  | x :: l, m => by
    simp only [List.cons_append, val, List.length_cons, pw_succ]
    rw [val_append l m]
    grind
theorem val_lt : ∀ {l : List Nat}, Ok l → val l < pw l.length
  | [], _ => by simp [val, pw_zero]
  | x :: l, h => by
    rw [ok_cons] at h
    have := val_lt h.2
    simp only [val, List.length_cons, pw_succ]
    omega
theorem val_take_succ (l : List Nat) (i : Nat) : val (l.take (i + 1)) = val (l.take i) + pw i * wd l i := by
  by_cases h : i < l.length
  · rw [List.take_succ_eq_append_getElem h, val_append, List.length_take, Nat.min_eq_left (by omega), wd_eq h]
    simp [val]
  · rw [wd_out (by omega), List.take_of_length_le (by omega), List.take_of_length_le (by omega)]
    simp
theorem val_take_all {l : List Nat} {k : Nat} (h : l.length ≤ k) : val (l.take k) = val l := by rw [List.take_of_length_le h]
theorem val_split (l : List Nat) (k : Nat) : val l = val (l.take k) + pw k * val (l.drop k) := by
  by_cases h : k ≤ l.length
  · conv => lhs; rw [← List.take_append_drop k l]
    rw [val_append, List.length_take, Nat.min_eq_left h]
  · rw [List.take_of_length_le (by omega), List.drop_eq_nil_of_le (by omega)]; simp [val]
theorem val_zeros : ∀ (k : Nat), val (List.replicate k 0) = 0
  | 0 => rfl
  | k + 1 => by simp [List.replicate_succ, val, val_zeros k]
theorem val_zero_of {l : List Nat} (h : ∀ k, k < l.length → wd l k = 0) : val l = 0 := by
  have : l = List.replicate l.length 0 := ext_wd (by simp) fun k hk => by rw [h k hk, wd_zero]
  rw [this, val_zeros]
theorem val_set : ∀ (l : List Nat) (i x : Nat), i < l.length → val (l.set i x) + pw i * wd l i = val l + pw i * x
  | [], i, x, h => absurd h (by simp)
  | y :: l, 0, x, _ => by simp [val, pw_zero, wd]; omega
  | y :: l, i + 1, x, h => by
    have ih := val_set l i x (by simpa using h)
    have e : wd (y :: l) (i + 1) = wd l i := by simp [wd]
    simp only [List.set_cons_succ, val, pw_succ, e]
    grind

theorem val_wds (n : Nat) : val (wds n) = n := by
  induction n using Nat.strongRecOn with
  | ind n ih =>
    rw [wds]
    split
    · rename_i h; subst h; rfl
    · rename_i h
      simp only [val]
      rw [ih (n / 4294967296) (by omega)]
      omega
theorem ok_wds (n : Nat) : Ok (wds n) := by
  induction n using Nat.strongRecOn with
  | ind n ih =>
    rw [wds]
    split
    · exact ok_nil
    · rw [ok_cons]
      exact ⟨by omega, ih _ (by omega)⟩
theorem wds_zero : wds 0 = [] := by rw [wds]; simp
theorem wds_pos {n : Nat} (h : n ≠ 0) : wds n = n % 4294967296 :: wds (n / 4294967296) := by
  conv => lhs; rw [wds]
  rw [dif_neg h]
theorem wds_cons {x v : Nat} (hx : x < 4294967296) (h : x + 4294967296 * v ≠ 0) : wds (x + 4294967296 * v) = x :: wds v := by
  rw [wds_pos h]
  congr 1
  · omega
  · congr 1; omega
theorem wds_val : ∀ {l : List Nat}, Ok l → (l = [] ∨ wd l (l.length - 1) ≠ 0) → wds (val l) = l
  | [], _, _ => wds_zero
  | [x], h, hl => by
    rw [ok_cons] at h
    have hx : x ≠ 0 := by
      rcases hl with h1 | h1
      · cases h1
      · simpa [wd] using h1
    have := wds_cons (v := 0) h.1 (by omega)
    simpa [val, wds_zero] using this
  | x :: y :: l, h, hl => by
    rw [ok_cons] at h
    have hl' : wd (y :: l) ((y :: l).length - 1) ≠ 0 := by
      rcases hl with h1 | h1
      · cases h1
      · simpa [wd] using h1
    have ih := wds_val h.2 (.inr hl')
    have hv : val (y :: l) ≠ 0 := by
      intro e
      rw [e, wds_zero] at ih
      cases ih
    show wds (x + 4294967296 * val (y :: l)) = _
    rw [wds_cons h.1 (by omega), ih]
/-- Norm. -/
theorem wds_take {l : List Nat} {n : Nat} (ho : Ok l) (hn : n ≤ l.length) (hz : ∀ k, n ≤ k → wd l k = 0) (hl : n = 0 ∨ wd l (n - 1) ≠ 0) : wds (val l) = l.take n := by
  have e : val l = val (l.take n) := by
    rw [val_split l n, val_zero_of (l := l.drop n) (fun k _ => by rw [wd_drop]; exact hz _ (by omega))]
    simp
  rw [e]
  refine wds_val (ok_take ho n) ?_
  rcases hl with rfl | hl
  · left; rfl
  · by_cases h0 : n = 0
    · left; subst h0; rfl
    · right
      rw [List.length_take, Nat.min_eq_left hn, wd_take (by omega)]
      exact hl
theorem wds_len {n k : Nat} (h : n < pw k) : (wds n).length ≤ k := by
  induction k generalizing n with
  | zero =>
    rw [pw_zero] at h
    obtain rfl : n = 0 := by omega
    rw [wds_zero]; simp
  | succ k ih =>
    by_cases h0 : n = 0
    · subst h0; rw [wds_zero]; simp
    · rw [wds_pos h0, List.length_cons]
      rw [pw_succ] at h
      have := ih (n := n / 4294967296) (by omega)
      omega
theorem wds_inj {m n : Nat} (h : wds m = wds n) : m = n := by rw [← val_wds m, ← val_wds n, h]
theorem wds_nil {n : Nat} : wds n = [] ↔ n = 0 := ⟨fun h => wds_inj (h.trans wds_zero.symm), fun h => by rw [h, wds_zero]⟩

/-- One word more of a sum. -/
theorem add_step {o p a b x y c s c' q : Nat} (h : o + c * p = a + b) (hs : s + 4294967296 * c' = x + y + c) (hq : q = 4294967296 * p) : o + p * s + c' * q = (a + p * x) + (b + p * y) := by
  subst hq
  grind
/-- One word more of a difference. -/
theorem sub_step {o p a b x y c s c' q : Nat} (h : o + b = a + c * p) (hs : s + y + c = x + 4294967296 * c') (hq : q = 4294967296 * p) : (o + p * s) + (b + p * y) = (a + p * x) + c' * q := by
  subst hq
  grind
/-- One word more of a product: the word at i + j is set to s, c' is carried. -/
theorem mul_step {v v' old p q r x y c s c' t : Nat} (h : v + c * p = t + r * x) (hv : v' + p * old = v + p * s) (hs : s + 4294967296 * c' = x * y + old + c) (hq : q = 4294967296 * p) {r' : Nat} (hr : r' * x = r * x + p * y * x) : v' + c' * q = t + r' * x := by
  subst hq
  grind
theorem cmp_lt {a b : List Nat} {i : Nat} (ha : Ok a) (h : ∀ k, i < k → wd a k = wd b k) (hi : wd a i < wd b i) : val a < val b := by
  have e : val (a.drop (i + 1)) = val (b.drop (i + 1)) := by
    have key : ∀ (n : Nat) (l m : List Nat), l.length ≤ n → m.length ≤ n → (∀ k, wd l k = wd m k) → val l = val m := by
      intro n
      induction n with
      | zero =>
        intro l m hl hm _
        rw [List.eq_nil_of_length_eq_zero (by omega : l.length = 0), List.eq_nil_of_length_eq_zero (by omega : m.length = 0)]
      | succ n ih =>
        intro l m hl hm hk
        have h1 := val_split l 1
        have h2 := val_split m 1
        have h3 := val_take_succ l 0
        have h4 := val_take_succ m 0
        have h5 := ih (l.drop 1) (m.drop 1) (by rw [List.length_drop]; omega) (by rw [List.length_drop]; omega) (fun k => by rw [wd_drop, wd_drop]; exact hk _)
        rw [h1, h2, h5]
        simp only [Nat.zero_add] at h3 h4
        rw [h3, h4, hk 0]
        simp [val]
    refine key (max a.length b.length) _ _ (by rw [List.length_drop]; omega) (by rw [List.length_drop]; omega) fun k => ?_
    rw [wd_drop, wd_drop]
    exact h _ (by omega)
  rw [val_split a (i + 1), val_split b (i + 1), e, val_take_succ, val_take_succ]
  have h1 := val_lt (ok_take ha i)
  have h2 : pw (a.take i).length ≤ pw i := pw_le (by rw [List.length_take]; omega)
  have h3 : pw i * wd a i + pw i ≤ pw i * wd b i := by
    have := Nat.mul_le_mul_left (pw i) (show wd a i + 1 ≤ wd b i from hi)
    rwa [Nat.mul_add, Nat.mul_one] at this
  omega
theorem cmp_eq {a b : List Nat} (h : ∀ k, wd a k = wd b k) : val a = val b := by
  have h1 : ∀ i, val (a.take i) = val (b.take i) := by
    intro i
    induction i with
    | zero => rfl
    | succ i ih => rw [val_take_succ, val_take_succ, ih, h]
  have := h1 (max a.length b.length)
  rwa [val_take_all (by omega), val_take_all (by omega)] at this

end Go.Proofs.YtgiepikoffaaiaaDoor
