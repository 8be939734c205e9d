/- DivMod of the reference, bit by bit: plain laws. -/
import Derived.Test.YtgiepikoffaaiaaDoorRefMul
namespace Go.Proofs.YtgiepikoffaaiaaDoor
open Go Go.RowKit

theorem div_bit0 {X y b : Nat} (hy : 0 < y) (h : 2 * (X % y) + b < y) : (2 * X + b) / y = 2 * (X / y) ∧ (2 * X + b) % y = 2 * (X % y) + b := by
  have h1 := Nat.div_add_mod X y
  have e : 2 * X + b = (2 * (X % y) + b) + y * (2 * (X / y)) := by
    rw [show y * (2 * (X / y)) = 2 * (y * (X / y)) from by rw [Nat.mul_left_comm]]; omega
  rw [e, Nat.add_mul_div_left _ _ hy, Nat.add_mul_mod_self_left, Nat.div_eq_of_lt h, Nat.mod_eq_of_lt h]
  omega
theorem div_bit1 {X y b : Nat} (hy : 0 < y) (hb : b < 2) (h : y ≤ 2 * (X % y) + b) : (2 * X + b) / y = 2 * (X / y) + 1 ∧ (2 * X + b) % y = 2 * (X % y) + b - y := by
  have h1 := Nat.div_add_mod X y
  have h2 := Nat.mod_lt X hy
  have e : 2 * X + b = (2 * (X % y) + b - y) + y * (2 * (X / y) + 1) := by
    rw [Nat.mul_add, Nat.mul_one, show y * (2 * (X / y)) = 2 * (y * (X / y)) from by rw [Nat.mul_left_comm]]; omega
  have h3 : 2 * (X % y) + b - y < y := by omega
  rw [e, Nat.add_mul_div_left _ _ hy, Nat.add_mul_mod_self_left, Nat.div_eq_of_lt h3, Nat.mod_eq_of_lt h3]
  omega
theorem half_bit (x k : Nat) : x / 2 ^ k = 2 * (x / 2 ^ (k + 1)) + bitN x k := by
  unfold bitN
  rw [Nat.pow_succ, ← Nat.div_div_eq_div_mul]
  omega
theorem set_low {o : List Nat} (ho : Ok8 o) {k q r M : Nat} (hk : k = 8 * q + r) (hr : r < 8) (hq : q < o.length) (hv : val8 o = 2 ^ (k + 1) * M) :
    dg8 o q + 2 ^ r < 256 ∧ Ok8 (o.set q (dg8 o q + 2 ^ r)) ∧ val8 (o.set q (dg8 o q + 2 ^ r)) = val8 o + 2 ^ k := by
  have h1 : dg8 o q = 2 ^ (r + 1) * (M % 2 ^ (7 - r)) := by
    rw [wd_val8 ho, hv, pw8_two, hk, show 8 * q + r + 1 = 8 * q + (r + 1) from by omega, Nat.pow_add, Nat.mul_assoc, Nat.mul_div_cancel_left _ (Nat.pow_pos (by decide))]
    have e : (256 : Nat) = 2 ^ (r + 1) * 2 ^ (7 - r) := by rw [← Nat.pow_add, show r + 1 + (7 - r) = 8 from by omega]
    rw [e, Nat.mul_mod_mul_left]
  have h2 : M % 2 ^ (7 - r) < 2 ^ (7 - r) := Nat.mod_lt _ (Nat.pow_pos (by decide))
  have h3 : 2 ^ (r + 1) * (M % 2 ^ (7 - r) + 1) ≤ 2 ^ (r + 1) * 2 ^ (7 - r) := Nat.mul_le_mul_left _ h2
  rw [← Nat.pow_add, show r + 1 + (7 - r) = 8 from by omega, Nat.mul_add, Nat.mul_one, ← h1] at h3
  have h4 : (2 : Nat) ^ (r + 1) = 2 * 2 ^ r := by rw [Nat.pow_succ, Nat.mul_comm]
  have h5 : (2 : Nat) ^ 8 = 256 := by decide
  have h6 : 0 < 2 ^ r := Nat.pow_pos (by decide)
  have h7 : dg8 o q + 2 ^ r < 256 := by omega
  refine ⟨h7, ok_set8 ho _ h7, ?_⟩
  have h8 := val_set8 o q (dg8 o q + 2 ^ r) hq
  have e : pw8 q * 2 ^ r = 2 ^ k := by rw [pw8_two, hk, Nat.pow_add]
  rw [Nat.mul_add, e] at h8
  omega

/-- The quotient's bits from the k-th on, and the rest of them. -/
structure RdS (x y n k : Nat) (q : List Nat) (r : Nat) : Prop where
  len : q.length = n
  ok : Ok8 q
  num : val8 q = 2 ^ k * (x / 2 ^ k / y)
  rest : r = x / 2 ^ k % y
theorem RdS.start {x y n : Nat} (hn : (dgs x).length = n) : RdS x y n (8 * n) (List.replicate n 0) 0 := by
  have h : x / 2 ^ (8 * n) = 0 := by
    apply Nat.div_eq_of_lt
    have := val_lt8 (ok_wds8 x)
    rwa [val_wds8, hn, pw8_two] at this
  exact ⟨by simp, ok_zero8 _, by rw [val_zeros8, h, Nat.zero_div, Nat.mul_zero], by rw [h, Nat.zero_mod]⟩
theorem RdS.step0 {x y n k r : Nat} {q : List Nat} (h : RdS x y n (k + 1) q r) (hy : 0 < y) (hlt : 2 * r + bitN x k < y) : RdS x y n k q (2 * r + bitN x k) := by
  obtain ⟨h1, h2⟩ := div_bit0 (X := x / 2 ^ (k + 1)) hy (by rw [← h.rest]; exact hlt)
  rw [← half_bit] at h1 h2
  refine ⟨h.len, h.ok, ?_, by rw [h2, h.rest]⟩
  rw [h.num, h1, Nat.pow_succ]
  grind
theorem RdS.step1 {x y n k r q0 r0 : Nat} {q : List Nat} (h : RdS x y n (k + 1) q r) (hy : 0 < y) (hge : y ≤ 2 * r + bitN x k) (hk : k = 8 * q0 + r0) (hr : r0 < 8) (hn : q0 < n) :
    dg8 q q0 + 2 ^ r0 < 256 ∧ RdS x y n k (q.set q0 (dg8 q q0 + 2 ^ r0)) (2 * r + bitN x k - y) := by
  obtain ⟨h1, h2⟩ := div_bit1 (X := x / 2 ^ (k + 1)) hy (bitN_lt x k) (by rw [← h.rest]; exact hge)
  rw [← half_bit] at h1 h2
  obtain ⟨h3, h4, h5⟩ := set_low h.ok hk hr (by rw [h.len]; exact hn) h.num
  refine ⟨h3, by rw [List.length_set]; exact h.len, h4, ?_, by rw [h2, h.rest]⟩
  rw [h5, h.num, h1, Nat.pow_succ]
  grind
theorem RdS.fin {x y n r : Nat} {q : List Nat} (h : RdS x y n 0 q r) : val8 q = x / y ∧ r = x % y := by
  have h1 := h.num
  have h2 := h.rest
  rw [Nat.pow_zero, Nat.div_one] at h1 h2
  rw [Nat.one_mul] at h1
  exact ⟨h1, h2⟩

end Go.Proofs.YtgiepikoffaaiaaDoor
