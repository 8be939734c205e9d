/- Numbers and rows as bytes: plain. -/
import Derived.Test.YtplecfbdchmogaaEBase
namespace Go.Proofs.Ytplecfbdchmogaa
open Go.RowKit
def formF : Nat → Nat → List Nat
 | 0, n => [n % 256]
 | k + 1, n => if n < 128 then [n] else (n % 128 + 128) :: formF k (n / 128)
def formL (n : Nat) : List Nat := formF 9 n
theorem formF_more : ∀ (k j n : Nat), n < 128 ^ (k + 1) → formF (k + j) n = formF k n
 | 0, j, n, h => by
  cases j with
  | zero => rfl
  | succ j =>
   have h1 : n < 128 := by simpa using h
   rw [show 0 + (j + 1) = j + 1 from by omega]
   simp only [formF, h1, if_true]
   rw [Nat.mod_eq_of_lt (by omega)]
 | k + 1, j, n, h => by
  rw [show k + 1 + j = k + j + 1 from by omega]
  simp only [formF]
  by_cases h1 : n < 128
  · rw [if_pos h1, if_pos h1]
  · rw [if_neg h1, if_neg h1, formF_more k j (n / 128) (by rw [Nat.div_lt_iff_lt_mul (by omega)]; rw [← Nat.pow_succ]; exact h)]
theorem formL_small {n : Nat} (h : n < 128) : formL n = [n] := by
 unfold formL formF
 rw [if_pos h]
theorem formL_step {n : Nat} (h : 128 ≤ n) (h2 : n < 18446744073709551616) : formL n = (n % 128 + 128) :: formL (n / 128) := by
 have e : formL n = (n % 128 + 128) :: formF 8 (n / 128) := by
  show formF (8 + 1) n = _
  simp only [formF]
  rw [if_neg (by omega)]
 rw [e]
 have : formL (n / 128) = formF 8 (n / 128) := formF_more 8 1 (n / 128) (by
  rw [Nat.div_lt_iff_lt_mul (by omega)]
  have : (128 : Nat) ^ (8 + 1) * 128 = 1180591620717411303424 := by decide
  omega)
 rw [this]
theorem formF_len : ∀ (k n : Nat), 1 ≤ (formF k n).length ∧ (formF k n).length ≤ k + 1
 | 0, n => by simp [formF]
 | k + 1, n => by
  simp only [formF]
  by_cases h1 : n < 128
  · rw [if_pos h1]; simp
  · rw [if_neg h1]
    have := formF_len k (n / 128)
    simp only [List.length_cons]
    omega
theorem formL_len (n : Nat) : 1 ≤ (formL n).length ∧ (formL n).length ≤ 10 := formF_len 9 n
theorem formF_byte : ∀ (k n : Nat), ∀ c ∈ formF k n, c < 256
 | 0, n, c, h => by
  simp only [formF, List.mem_singleton] at h
  subst h
  exact Nat.mod_lt _ (by omega)
 | k + 1, n, c, h => by
  simp only [formF] at h
  by_cases h1 : n < 128
  · rw [if_pos h1, List.mem_singleton] at h
    omega
  · rw [if_neg h1, List.mem_cons] at h
    rcases h with h | h
    · omega
    exact formF_byte k _ c h
theorem formL_byte (n : Nat) : ∀ c ∈ formL n, c < 256 := formF_byte 9 n
def zig (z : Int) : Nat := if 0 ≤ z then 2 * z.toNat else 2 * (-z).toNat - 1
def formsL (ns : List Int) : List Nat := ns.flatMap fun n => formL n.toNat
def nodeBs (n : Nd) : List Nat := formL n.op.toNat ++ formL n.a.toNat ++ formL n.b.toNat
def rowBs (t : List Nd) : List Nat := formL t.length ++ t.flatMap nodeBs
def rowsBs (ls : List (List Nd)) : List Nat := formL ls.length ++ ls.flatMap rowBs
def orderBs (o : Nd) : List Nat := formL o.op.toNat ++ formL (zig o.a) ++ formL o.b.toNat
def nextF (most : Nat) : Nat → Nat → List Nat → Int × Nat × Nat
 | _, _, [] => (4, 0, 0)
 | i, n, c :: r =>
  if (i = 9 ∧ 1 < c % 128) ∨ most < n + c % 128 * 2 ^ (7 * i) ∨ (0 < i ∧ c = 0) then (3, 0, 0)
  else if c < 128 then (0, n + c % 128 * 2 ^ (7 * i), i + 1)
  else if 56 < 7 * i ∨ most - (n + c % 128 * 2 ^ (7 * i)) < 2 ^ (7 * i + 7) then (3, 0, 0)
  else nextF most (i + 1) (n + c % 128 * 2 ^ (7 * i)) r
structure Rd where
 rest : List Nat
 err : Int
 odd : Bool
def rdNext (most : Nat) (s : Rd) : Nat × Rd :=
 if s.err ≠ 0 then (0, s)
 else if (nextF most 0 0 s.rest).1 ≠ 0 then (0, ⟨s.rest, (nextF most 0 0 s.rest).1, s.odd⟩)
 else ((nextF most 0 0 s.rest).2.1, ⟨s.rest.drop (nextF most 0 0 s.rest).2.2, 0, s.odd⟩)
theorem nextF_form : ∀ (k i n m most : Nat) (r : List Nat), i + k = 9 → n + m * 2 ^ (7 * i) ≤ most → most < 2 ^ 64 → m < 128 ^ (k + 1) → (k = 0 → m ≤ 1) → (0 < i → 0 < m) → nextF most i n (formF k m ++ r) = (0, n + m * 2 ^ (7 * i), i + (formF k m).length)
 | 0, i, n, m, most, r, hi, hm, h64, hk, h0, hp => by
  have hm1 := h0 rfl
  obtain rfl : i = 9 := by omega
  have hm0 := hp (by omega)
  obtain rfl : m = 1 := by omega
  simp only [formF, List.singleton_append, nextF]
  rw [if_neg (by omega), if_pos (by omega)]
  rfl
 | k + 1, i, n, m, most, r, hi, hm, h64, hk, h0, hp => by
  simp only [formF]
  by_cases h1 : m < 128
  · rw [if_pos h1, List.singleton_append]
    simp only [nextF]
    have e : m % 128 = m := Nat.mod_eq_of_lt h1
    rw [e, if_neg (by omega), if_pos h1]
    rfl
  · rw [if_neg h1, List.cons_append]
    simp only [nextF]
    have e : (m % 128 + 128) % 128 = m % 128 := by omega
    have hd := Nat.div_add_mod m 128
    have hp2 : 2 ^ (7 * i + 7) = 2 ^ (7 * i) * 128 := by rw [Nat.pow_add]
    have hq : 1 ≤ m / 128 := by omega
    have hsum : m * 2 ^ (7 * i) = m / 128 * (2 ^ (7 * i) * 128) + m % 128 * 2 ^ (7 * i) := by
     have h3 : m * 2 ^ (7 * i) = (128 * (m / 128) + m % 128) * 2 ^ (7 * i) := by rw [hd]
     rw [h3, Nat.add_mul, Nat.mul_comm 128 (m / 128), Nat.mul_assoc, Nat.mul_comm 128]
    have hge : 2 ^ (7 * i) * 128 ≤ m / 128 * (2 ^ (7 * i) * 128) := Nat.le_mul_of_pos_left _ hq
    rw [e, if_neg (by omega), if_neg (by omega), if_neg (by rw [hp2]; omega)]
    have hk2 : m / 128 < 128 ^ (k + 1) := by rw [Nat.div_lt_iff_lt_mul (by omega), ← Nat.pow_succ]; exact hk
    have := nextF_form k (i + 1) (n + m % 128 * 2 ^ (7 * i)) (m / 128) most r (by omega) (by rw [show 7 * (i + 1) = 7 * i + 7 from by omega, hp2]; omega) h64 hk2 (fun hk0 => by
     subst hk0
     have hi8 : i = 8 := by omega
     subst hi8
     have h9 : (2 : Nat) ^ (7 * 8) * 128 = 9223372036854775808 := by decide
     have h10 : (2 : Nat) ^ 64 = 18446744073709551616 := by decide
     rw [h9] at hsum hge
     rw [h10] at h64
     omega) (fun _ => hq)
    rw [this, show 7 * (i + 1) = 7 * i + 7 from by omega, hp2]
    refine Prod.ext rfl (Prod.ext ?_ ?_)
    · show n + m % 128 * 2 ^ (7 * i) + m / 128 * (2 ^ (7 * i) * 128) = n + m * 2 ^ (7 * i)
      omega
    show i + 1 + (formF k (m / 128)).length = i + ((m % 128 + 128) :: formF k (m / 128)).length
    simp only [List.length_cons]
    omega
theorem nextF_cut : ∀ (k i n m most p : Nat), i + k = 9 → n + m * 2 ^ (7 * i) ≤ most → most < 2 ^ 64 → m < 128 ^ (k + 1) → (k = 0 → m ≤ 1) → p < (formF k m).length → nextF most i n ((formF k m).take p) = (4, 0, 0)
 | _, _, _, _, _, 0, _, _, _, _, _, _ => by simp [nextF]
 | 0, i, n, m, most, p + 1, hi, hm, h64, hk, h0, hp => by simp [formF] at hp
 | k + 1, i, n, m, most, p + 1, hi, hm, h64, hk, h0, hp => by
  simp only [formF] at hp ⊢
  by_cases h1 : m < 128
  · rw [if_pos h1] at hp; simp at hp
  · rw [if_neg h1] at hp ⊢
    rw [List.take_succ_cons]
    simp only [nextF]
    have e : (m % 128 + 128) % 128 = m % 128 := by omega
    have hd := Nat.div_add_mod m 128
    have hp2 : 2 ^ (7 * i + 7) = 2 ^ (7 * i) * 128 := by rw [Nat.pow_add]
    have hq : 1 ≤ m / 128 := by omega
    have hsum : m * 2 ^ (7 * i) = m / 128 * (2 ^ (7 * i) * 128) + m % 128 * 2 ^ (7 * i) := by
     have h3 : m * 2 ^ (7 * i) = (128 * (m / 128) + m % 128) * 2 ^ (7 * i) := by rw [hd]
     rw [h3, Nat.add_mul, Nat.mul_comm 128 (m / 128), Nat.mul_assoc, Nat.mul_comm 128]
    have hge : 2 ^ (7 * i) * 128 ≤ m / 128 * (2 ^ (7 * i) * 128) := Nat.le_mul_of_pos_left _ hq
    rw [e, if_neg (by omega), if_neg (by omega), if_neg (by rw [hp2]; omega)]
    have hk2 : m / 128 < 128 ^ (k + 1) := by rw [Nat.div_lt_iff_lt_mul (by omega), ← Nat.pow_succ]; exact hk
    refine nextF_cut k (i + 1) (n + m % 128 * 2 ^ (7 * i)) (m / 128) most p (by omega) (by rw [show 7 * (i + 1) = 7 * i + 7 from by omega, hp2]; omega) h64 hk2 (fun hk0 => ?_) (by simpa using hp)
    subst hk0
    have hi8 : i = 8 := by omega
    subst hi8
    have h9 : (2 : Nat) ^ (7 * 8) * 128 = 9223372036854775808 := by decide
    have h10 : (2 : Nat) ^ 64 = 18446744073709551616 := by decide
    rw [h9] at hsum hge
    rw [h10] at h64
    omega
theorem nextF_ok : ∀ (k i n most : Nat) (l : List Nat) (v j : Nat), i + k = 9 → (∀ c ∈ l, c < 256) → nextF most i n l = (0, v, j) → ∃ m, v = n + m * 2 ^ (7 * i) ∧ j = i + (formF k m).length ∧ l = formF k m ++ l.drop (j - i) ∧ v ≤ most ∧ (0 < i → 0 < m)
 | k, i, n, most, [], v, j, hi, hc, h => by simp [nextF] at h
 | 0, i, n, most, c :: r, v, j, hi, hc, h => by
  have hi9 : i = 9 := by omega
  simp only [nextF] at h
  by_cases h1 : (i = 9 ∧ 1 < c % 128) ∨ most < n + c % 128 * 2 ^ (7 * i) ∨ (0 < i ∧ c = 0)
  · rw [if_pos h1] at h; simp at h
  rw [if_neg h1] at h
  by_cases h2 : c < 128
  · rw [if_pos h2] at h
    injection h with _ h
    injection h with h3 h4
    have e : c = 1 := by omega
    subst e
    refine ⟨1, h3.symm, h4.symm, ?_, by omega, fun _ => by omega⟩
    rw [← h4, show i + 1 - i = 1 from by omega]
    rfl
  · rw [if_neg h2, if_pos (by omega)] at h; simp at h
 | k + 1, i, n, most, c :: r, v, j, hi, hc, h => by
  simp only [nextF] at h
  by_cases h1 : (i = 9 ∧ 1 < c % 128) ∨ most < n + c % 128 * 2 ^ (7 * i) ∨ (0 < i ∧ c = 0)
  · rw [if_pos h1] at h; simp at h
  rw [if_neg h1] at h
  by_cases h2 : c < 128
  · rw [if_pos h2] at h
    injection h with _ h
    injection h with h3 h4
    have e : c % 128 = c := Nat.mod_eq_of_lt h2
    rw [e] at h3 h1
    refine ⟨c, h3.symm, ?_, ?_, by omega, fun _ => by omega⟩
    · simp only [formF]; rw [if_pos h2]; simp [h4]
    simp only [formF]; rw [if_pos h2, ← h4, show i + 1 - i = 1 from by omega]; rfl
  · rw [if_neg h2] at h
    by_cases h3 : 56 < 7 * i ∨ most - (n + c % 128 * 2 ^ (7 * i)) < 2 ^ (7 * i + 7)
    · rw [if_pos h3] at h; simp at h
    rw [if_neg h3] at h
    obtain ⟨m, hv, hj, hl, hmost, hpos⟩ := nextF_ok k (i + 1) _ most r v j (by omega) (fun x hx => hc x (List.mem_cons_of_mem _ hx)) h
    have hm := hpos (by omega)
    have hc2 := hc c List.mem_cons_self
    have hp2 : 2 ^ (7 * (i + 1)) = 128 * 2 ^ (7 * i) := by rw [show 7 * (i + 1) = 7 * i + 7 from by omega, Nat.pow_add, Nat.mul_comm]
    have hd : (m * 128 + c % 128) / 128 = m := by omega
    have hr : (m * 128 + c % 128) % 128 + 128 = c := by omega
    refine ⟨m * 128 + c % 128, ?_, ?_, ?_, hmost, fun _ => by omega⟩
    · rw [hv, hp2, Nat.add_mul, Nat.mul_assoc]; omega
    · simp only [formF]; rw [if_neg (by omega), hd, hj]; simp only [List.length_cons]; omega
    simp only [formF]
    rw [if_neg (by omega), hd, hr, List.cons_append]
    have : j - i = (j - (i + 1)) + 1 := by have := (formF_len k m).1; omega
    rw [this, List.drop_succ_cons, ← hl]
theorem rdNext_form {most n : Nat} (hn : n ≤ most) (hm : most < 2 ^ 64) (r : List Nat) (o : Bool) : rdNext most ⟨formL n ++ r, 0, o⟩ = (n, ⟨r, 0, o⟩) := by
 have h := nextF_form 9 0 0 n most r rfl (by simpa using hn) hm (by
  have h10 : (2 : Nat) ^ 64 = 18446744073709551616 := by decide
  have h11 : (128 : Nat) ^ (9 + 1) = 1180591620717411303424 := by decide
  rw [h10] at hm; rw [h11]; omega) (fun h => absurd h (by omega)) (fun h => absurd h (by omega))
 unfold rdNext
 rw [if_neg (by simp), show formL n = formF 9 n from rfl, h]
 simp
theorem rdNext_cut {most n p : Nat} (hn : n ≤ most) (hm : most < 2 ^ 64) (hp : p < (formL n).length) (o : Bool) : (rdNext most ⟨(formL n).take p, 0, o⟩).2.err = 4 ∧ (rdNext most ⟨(formL n).take p, 0, o⟩).2.odd = o ∧ (rdNext most ⟨(formL n).take p, 0, o⟩).1 = 0 := by
 have h := nextF_cut 9 0 0 n most p rfl (by simpa using hn) hm (by
  have h10 : (2 : Nat) ^ 64 = 18446744073709551616 := by decide
  have h11 : (128 : Nat) ^ (9 + 1) = 1180591620717411303424 := by decide
  rw [h10] at hm; rw [h11]; omega) (fun h => absurd h (by omega)) hp
 unfold rdNext
 rw [if_neg (by simp), show formL n = formF 9 n from rfl, h]
 simp
theorem rdNext_ok {most : Nat} {s : Rd} (hb : ∀ c ∈ s.rest, c < 256) (h : (rdNext most s).2.err = 0) : s.err = 0 ∧ (rdNext most s).1 ≤ most ∧ s.rest = formL (rdNext most s).1 ++ (rdNext most s).2.rest := by
 unfold rdNext at h ⊢
 by_cases h1 : s.err ≠ 0
 · rw [if_pos h1] at h; exact absurd h h1
 rw [if_neg h1] at h ⊢
 by_cases h2 : (nextF most 0 0 s.rest).1 ≠ 0
 · rw [if_pos h2] at h; exact absurd h h2
 rw [if_neg h2]
 obtain ⟨m, hv, hj, hl, hm, _⟩ := nextF_ok 9 0 0 most s.rest (nextF most 0 0 s.rest).2.1 (nextF most 0 0 s.rest).2.2 rfl hb (by
  have : (nextF most 0 0 s.rest).1 = 0 := by simpa using h2
  rw [← this])
 refine ⟨by simpa using h1, hm, ?_⟩
 have e : (nextF most 0 0 s.rest).2.1 = m := by rw [hv]; simp
 rw [e, show formL m = formF 9 m from rfl]
 simpa using hl
theorem rdNext_odd (most : Nat) (s : Rd) : (rdNext most s).2.odd = s.odd := by
 unfold rdNext
 split
 · rfl
 split <;> rfl
theorem rdNext_err {most : Nat} {s : Rd} (h : s.err ≠ 0) : rdNext most s = (0, s) := by
 unfold rdNext
 rw [if_pos h]
end Go.Proofs.Ytplecfbdchmogaa
