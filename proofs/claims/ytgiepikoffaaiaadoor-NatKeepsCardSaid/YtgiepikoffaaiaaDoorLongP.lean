/- Long division: plain laws of its steps. -/
import Derived.Test.YtgiepikoffaaiaaDoorDigit
namespace Go.Proofs.YtgiepikoffaaiaaDoor
open Go Go.RowKit

theorem wd_ext : ∀ {a b : List Nat}, a.length = b.length → (∀ k, wd a k = wd b k) → a = b
  | [], [], _, _ => rfl
  | [], _ :: _, h, _ => by simp at h
  | _ :: _, [], h, _ => by simp at h
  | x :: a, y :: b, h, hk => by
    have h0 := hk 0
    simp only [wd, List.getD_cons_zero] at h0
    rw [h0, wd_ext (a := a) (b := b) (by simpa using h) (fun k => by have := hk (k + 1); simpa [wd] using this)]
theorem SegE.low {off m : Nat} {l l' : List Nat} (h : SegE off m l l') : l'.take off = l.take off := by
  refine wd_ext (by rw [List.length_take, List.length_take, h.len]) (fun k => ?_)
  by_cases hk : k < off
  · rw [wd_take hk, wd_take hk]; exact h.out k (.inl hk)
  · rw [wd_out (by rw [List.length_take]; omega), wd_out (by rw [List.length_take]; omega)]
theorem SegE.high {off m : Nat} {l l' : List Nat} (h : SegE off m l l') : l'.drop (off + m) = l.drop (off + m) := by
  refine wd_ext (by rw [List.length_drop, List.length_drop, h.len]) (fun k => ?_)
  rw [wd_drop, wd_drop]
  exact h.out _ (.inr (by omega))
theorem drop_val (l : List Nat) (off m : Nat) : val (l.drop off) = sv l off m + pw m * val (l.drop (off + m)) := by
  have := val_split (l.drop off) m
  rwa [List.drop_drop] at this
/-- One digit of the quotient. -/
theorem long_step {l l' b : List Nat} {off n q : Nat} (hb : Ok b) (hbl : b.length = n) (hs : SegE off (n + 1) l l') (hok : Ok l) (hlt : val (l.drop (off + 1)) < val b)
    (hq : sv l off (n + 1) = q * val b + sv l' off (n + 1)) (hr : sv l' off (n + 1) < val b) : val l = pw off * q * val b + val l' ∧ val (l'.drop off) < val b := by
  have h1 := val_lt hb
  rw [hbl] at h1
  have h2 := drop_val l off 1
  have h3 : sv l off 1 < pw 1 := sv_lt hok off 1
  have h4 : val (l.drop off) < pw (n + 1) := by
    have e : pw 1 = 4294967296 := by decide
    rw [e] at h2 h3
    rw [h2, pw_succ]
    have := Nat.mul_le_mul_left 4294967296 (show val (l.drop (off + 1)) + 1 ≤ pw n by omega)
    omega
  have h5 := drop_val l off (n + 1)
  have h6 : val (l.drop (off + (n + 1))) = 0 := by
    rcases Nat.eq_zero_or_pos (val (l.drop (off + (n + 1)))) with h | h
    · exact h
    · have := Nat.le_mul_of_pos_right (pw (n + 1)) h
      omega
  have h7 := drop_val l' off (n + 1)
  rw [hs.high, h6, Nat.mul_zero, Nat.add_zero] at h7
  rw [h6, Nat.mul_zero, Nat.add_zero] at h5
  refine ⟨?_, by rw [h7]; exact hr⟩
  have h8 := val_split l off
  have h9 := val_split l' off
  rw [hs.low] at h9
  rw [h8, h9, h5, h7, hq]
  grind
/-- What digit asks of the part. -/
theorem long_part {l b : List Nat} {off n : Nat} (hok : Ok l) (hlt : val (l.drop (off + 1)) < val b) : sv l off (n + 1) < 4294967296 * val b := by
  have h2 := drop_val l off 1
  have h3 : sv l off 1 < pw 1 := sv_lt hok off 1
  have h5 := drop_val l off (n + 1)
  have e : pw 1 = 4294967296 := by decide
  rw [e] at h2 h3
  omega

end Go.Proofs.YtgiepikoffaaiaaDoor
