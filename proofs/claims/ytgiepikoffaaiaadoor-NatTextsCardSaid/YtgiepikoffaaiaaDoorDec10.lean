/- Numbers as rows of decimal digits: plain laws. No program. -/
import Derived.Test.YtgiepikoffaaiaaDoorRefBit
import Derived.Test.YtgiepikoffaaiaaDoorBackP
namespace Go.Proofs.YtgiepikoffaaiaaDoor
open Go Go.RowKit

def val10 : List Nat → Nat
  | [] => 0
  | x :: l => x + 10 * val10 l
theorem val10_append : ∀ (a b : List Nat), val10 (a ++ b) = val10 a + 10 ^ a.length * val10 b
  | [], b => by simp [val10]
  | x :: a, b => by
    simp only [List.cons_append, val10, val10_append a b, List.length_cons, Nat.pow_succ]
    grind
theorem take_succ10 (l : List Nat) (k : Nat) : val10 (l.take (k + 1)) = val10 (l.take k) + 10 ^ k * dg8 l k := by
  by_cases hk : k < l.length
  · rw [List.take_succ_eq_append_getElem hk, val10_append, List.length_take, Nat.min_eq_left (by omega), wd_eq8 hk]
    simp [val10]
  · rw [List.take_of_length_le (by omega), List.take_of_length_le (by omega), wd_out8 (by omega), Nat.mul_zero, Nat.add_zero]
theorem val10_lt : ∀ {l : List Nat}, (∀ x ∈ l, x < 10) → val10 l < 10 ^ l.length
  | [], _ => by simp [val10]
  | x :: l, h => by
    have h1 := h x (by simp)
    have h2 := val10_lt (l := l) (fun y hy => h y (by simp [hy]))
    simp only [val10, List.length_cons, Nat.pow_succ]
    omega
/-- Decimal digits of v. -/
structure DcS (v : Nat) (o : List Nat) : Prop where
  pos : 0 < o.length
  ok : ∀ x ∈ o, x < 10
  val : val10 o = v
  top : o.length = 1 ∨ 10 ^ (o.length - 1) ≤ v
theorem DcS.zero : DcS 0 [0] := ⟨by simp, by simp, rfl, .inl rfl⟩
/-- Of the doubling: k digits are done, c is carried. -/
structure DcI (o : List Nat) (b k : Nat) (p : List Nat) (c : Nat) : Prop where
  len : p.length = o.length
  rest : ∀ j, k ≤ j → dg8 p j = dg8 o j
  ok : ∀ x ∈ p, x < 10
  val : val10 (p.take k) + 10 ^ k * c = 2 * val10 (o.take k) + b
  le : c ≤ 1
theorem DcI.start {v b : Nat} {o : List Nat} (h : DcS v o) (hb : b ≤ 1) : DcI o b 0 o b := ⟨rfl, fun _ _ => rfl, h.ok, by simp [val10], hb⟩
theorem dg_lt10 {p : List Nat} (h : ∀ x ∈ p, x < 10) (k : Nat) : dg8 p k < 10 := by
  by_cases hk : k < p.length
  · rw [wd_eq8 hk]; exact h _ (List.getElem_mem hk)
  · rw [wd_out8 (by omega)]; omega
theorem DcI.step {o p : List Nat} {b k c : Nat} (h : DcI o b k p c) (hk : k < o.length) : DcI o b (k + 1) (p.set k ((2 * dg8 p k + c) % 10)) ((2 * dg8 p k + c) / 10) := by
  have hl := h.len
  have hd := dg_lt10 h.ok k
  have hr := h.rest k (Nat.le_refl _)
  refine ⟨by rw [List.length_set, hl], fun j hj => ?_, fun x hx => ?_, ?_, by have := h.le; omega⟩
  · rw [wd_set8 (by omega), if_neg (by omega)]; exact h.rest j (by omega)
  · rcases List.mem_or_eq_of_mem_set hx with h1 | h1
    · exact h.ok x h1
    · omega
  · rw [take_succ10, take_succ10, wd_set8 (by omega), if_pos rfl, List.take_set_of_le (by omega), ← hr]
    have h1 := h.val
    have h2 := Nat.div_add_mod (2 * dg8 p k + c) 10
    generalize (2 * dg8 p k + c) / 10 = q at *
    generalize (2 * dg8 p k + c) % 10 = t at *
    generalize dg8 p k = d at *
    have h3 : 10 ^ k * (2 * d + c) = 10 ^ k * (10 * q + t) := by rw [h2]
    rw [Nat.pow_succ]
    grind
theorem DcI.done {v b : Nat} {o p : List Nat} (hs : DcS v o) (h : DcI o b o.length p 0) : DcS (2 * v + b) p := by
  have h1 := h.val
  rw [List.take_of_length_le (by rw [h.len]; omega), List.take_of_length_le (Nat.le_refl _), hs.val, Nat.mul_zero, Nat.add_zero] at h1
  refine ⟨by rw [h.len]; exact hs.pos, h.ok, h1, ?_⟩
  rw [h.len]
  rcases hs.top with h2 | h2
  · exact .inl h2
  · right; omega
theorem DcI.more {v b c : Nat} {o p : List Nat} (hs : DcS v o) (h : DcI o b o.length p c) (hc : 0 < c) : DcS (2 * v + b) (p ++ [c]) := by
  have h1 := h.val
  have hc1 := h.le
  obtain rfl : c = 1 := by omega
  rw [List.take_of_length_le (by rw [h.len]; omega), List.take_of_length_le (Nat.le_refl _), hs.val] at h1
  refine ⟨by simp, fun x hx => ?_, ?_, ?_⟩
  · rcases List.mem_append.1 hx with h2 | h2
    · exact h.ok x h2
    · rw [List.mem_singleton] at h2; omega
  · rw [val10_append, h.len]; simp only [val10]; omega
  · right
    rw [List.length_append, h.len]
    simp only [List.length_singleton, Nat.add_sub_cancel]
    omega
/-- The bytes of digits, the greatest first. -/
def bys (o : List Nat) : List UInt8 := o.reverse.map fun x => UInt8.ofNat (48 + x)
theorem by_val {x : Nat} (h : x < 10) : (UInt8.ofNat (48 + x)).toNat = 48 + x := by rw [UInt8.toNat_ofNat']; omega
theorem bys_cons (x : Nat) (t : List Nat) : bys (x :: t) = bys t ++ [UInt8.ofNat (48 + x)] := by simp [bys]
theorem dnum_bys : ∀ {o : List Nat}, (∀ x ∈ o, x < 10) → dnum (bys o) = val10 o ∧ (bys o).all isDig = true
  | [], _ => ⟨rfl, rfl⟩
  | x :: t, h => by
    obtain ⟨h1, h2⟩ := dnum_bys (o := t) (fun y hy => h y (by simp [hy]))
    have hx := h x (by simp)
    have hv := by_val hx
    rw [bys_cons, dnum_snoc, h1, hv]
    refine ⟨by simp only [val10]; omega, ?_⟩
    rw [List.all_append, h2, List.all_cons, isDig_ok (by rw [hv]; omega) (by rw [hv]; omega)]
    rfl
theorem bys_dec {v : Nat} {o : List Nat} (h : DcS v o) : bys o = Lib.decDigits v := by
  obtain ⟨h1, h2⟩ := dnum_bys h.ok
  have hl : (bys o).length = o.length := by simp [bys]
  have hp := h.pos
  rw [← h.val, ← h1]
  symm
  refine dec_of _ (bys o) rfl h2 (fun e => by rw [e] at hl; simp at hl; omega) ?_
  rw [hl]
  rcases h.top with h3 | h3
  · exact .inr h3
  · left
    have hne : o ≠ [] := fun e => by rw [e] at hp; simp at hp
    obtain ⟨t, x, rfl⟩ : ∃ t x, o = t ++ [x] := ⟨o.dropLast, o.getLast hne, (List.dropLast_concat_getLast hne).symm⟩
    have hx : x < 10 := h.ok x (by simp)
    have ht := val10_lt (l := t) (fun y hy => h.ok y (by simp [hy]))
    have hv := h.val
    rw [val10_append] at hv
    simp only [val10, Nat.mul_zero, Nat.add_zero, List.length_append, List.length_singleton, Nat.add_sub_cancel] at hv h3
    have hx0 : x ≠ 0 := fun e => by rw [e, Nat.mul_zero, Nat.add_zero] at hv; omega
    have e : (bys (t ++ [x])).getD 0 0 = UInt8.ofNat (48 + x) := by simp [bys]
    rw [e]
    intro hh
    have h4 := by_val hx
    rw [hh] at h4
    have h5 : (48 : UInt8).toNat = 48 := rfl
    omega
theorem half_bit (x q : Nat) : x / 2 ^ q = 2 * (x / 2 ^ (q + 1)) + bitN x q := by
  unfold bitN
  rw [Nat.pow_succ, ← Nat.div_div_eq_div_mul]
  omega
theorem drop_bys {o : List Nat} {k : Nat} (hk : k < o.length) : bys (o.drop k) = bys (o.drop (k + 1)) ++ [UInt8.ofNat (48 + dg8 o k)] := by
  rw [List.drop_eq_getElem_cons hk, bys_cons, wd_eq8 hk]

end Go.Proofs.YtgiepikoffaaiaaDoor
