/- Bits and Small: how many bits a number has; a number of 64 bits. -/
import Derived.Test.YtgiepikoffaaiaaDoorShift
import Derived.Test.YtgiepikoffaaiaaDoorShelf
import Derived.Lib.ItoaNum
namespace Go.Proofs.YtgiepikoffaaiaaDoor
open Go.RowKit

/-- How many bits a number has. -/
def bln (n : Nat) : Nat := if n = 0 then 0 else Nat.log2 n + 1
theorem bln_zero : bln 0 = 0 := rfl
theorem bln_eq {n k : Nat} (h1 : 2 ^ k ≤ n) (h2 : n < 2 ^ (k + 1)) : bln n = k + 1 := by
  have h0 : n ≠ 0 := by have := Nat.pow_pos (n := k) (show 0 < 2 by decide); omega
  unfold bln
  rw [if_neg h0]
  have a := (Nat.le_log2 h0 (k := k)).2 h1
  have b := (Nat.log2_lt h0 (k := k + 1)).2 h2
  omega
theorem bln_ge {n : Nat} (h : n ≠ 0) : 2 ^ (bln n - 1) ≤ n ∧ n < 2 ^ bln n ∧ 1 ≤ bln n := by
  unfold bln
  rw [if_neg h]
  exact ⟨Nat.log2_self_le h, Nat.lt_log2_self, by omega⟩
theorem bln_le {n k : Nat} : bln n ≤ k ↔ n < 2 ^ k := by
  by_cases h : n = 0
  · subst h; simp [bln_zero, Nat.pow_pos]
  · obtain ⟨h1, h2, h3⟩ := bln_ge h
    constructor
    · intro hk
      exact Nat.lt_of_lt_of_le h2 (Nat.pow_le_pow_right (by decide) hk)
    · intro hk
      have := (Nat.pow_lt_pow_iff_right (a := 2) (by decide)).1 (Nat.lt_of_le_of_lt h1 hk)
      omega
theorem bln_shift {n s : Nat} (h : n ≠ 0) : bln (n * 2 ^ s) = bln n + s := by
  obtain ⟨h1, h2, h3⟩ := bln_ge h
  have e : bln n + s = (bln n - 1 + s) + 1 := by omega
  rw [e]
  refine bln_eq ?_ ?_
  · rw [Nat.pow_add]; exact Nat.mul_le_mul_right _ h1
  · rw [show bln n - 1 + s + 1 = bln n + s from by omega, Nat.pow_add]
    exact Nat.mul_lt_mul_of_pos_right h2 (Nat.pow_pos (by decide))
theorem bl_bounds (x : Nat) (h0 : x ≠ 0) (h : x < 4294967296) : 1 ≤ Lib.bitLen x ∧ 2 ^ (Lib.bitLen x - 1) ≤ x ∧ x < 2 ^ Lib.bitLen x := by
  have h2 : x < 2 ^ 64 := Nat.lt_of_lt_of_le h (by decide)
  unfold Lib.bitLen
  exact Lib.bitLenAux_bounds 64 x h2 h0
theorem bl_le (x : Nat) (h : x < 4294967296) : Lib.bitLen x ≤ 32 := by
  have h2 : x < 2 ^ 32 := h
  exact Lib.bitLen_le x 32 (by decide) h2
theorem bln_word {v p t x L i : Nat} (hp : p = 2 ^ (32 * i)) (hv : v = t + p * x) (ht : t < p) (b1 : 1 ≤ L) (b2 : 2 ^ (L - 1) ≤ x) (b3 : x < 2 ^ L) : 32 * i + L = bln v := by
  have e2 : 32 * i + L = (32 * i + (L - 1)) + 1 := by omega
  rw [e2]
  symm
  refine bln_eq ?_ ?_
  · rw [hv, Nat.pow_add, ← hp]
    have := Nat.mul_le_mul_left p b2
    omega
  · rw [hv, ← e2, Nat.pow_add, ← hp]
    have := Nat.mul_le_mul_left p (show x + 1 ≤ 2 ^ L from b3)
    rw [Nat.mul_add, Nat.mul_one] at this
    omega
theorem val_top {a : List Nat} (i : Nat) (hz : ∀ j, i + 1 ≤ j → wd a j = 0) : val a = val (a.take i) + pw i * wd a i := by
  have h1 := val_split a (i + 1)
  have h2 : val (a.drop (i + 1)) = 0 := val_zero_of fun k _ => by
    rw [wd_drop]
    exact hz _ (by omega)
  rw [h2, Nat.mul_zero, Nat.add_zero, val_take_succ] at h1
  exact h1
theorem val_take_lt {a : List Nat} (ha : Ok a) (i : Nat) : val (a.take i) < pw i := by
  have ht := val_lt (ok_take ha i)
  have ht2 : pw (a.take i).length ≤ pw i := pw_le (by rw [List.length_take]; omega)
  omega
theorem bits_top {a : List Nat} (ha : Ok a) {i : Nat} (hz : ∀ j, i + 1 ≤ j → wd a j = 0) (hx : wd a i ≠ 0) : 32 * i + Lib.bitLen (wd a i) = bln (val a) ∧ Lib.bitLen (wd a i) ≤ 32 := by
  have hl := wd_lt ha i
  have hb := bl_bounds (wd a i) hx hl
  exact ⟨bln_word (pw_two i) (val_top i hz) (val_take_lt ha i) hb.1 hb.2.1 hb.2.2, bl_le (wd a i) hl⟩

set_option maxHeartbeats 1000000 in
theorem bits_any {A : Option Addr} {n c : Nat} {a : List Nat} {w : World} (ha : NatV w A n c a) (hsn : n ≤ 100000) :
    Calls Tryd.prog 31 #[.slice A n c] w fun e w' => e = .returned (.int .i64 ((bln (val a) : Nat) : Int)) ∧ w = w' := by
  have HA := Lib.hid ha
  clear ha
  go_enter Tryd.func31, Tryd.ntmps31
  go_wp2_with fail
  go_loop [3] (fun i => ∃ k : Nat, k ≤ n ∧ i = .int .i64 ((k : Int) - 1) ∧ RowKit.Hid (∀ j, k ≤ j → wd a j = 0)) (fun i => (intOf i + 1).toNat)
  case atStart => exact ⟨n, Nat.le_refl _, rfl, Lib.hid fun j hj => wd_out (by rw [HA.out.len]; omega)⟩
  case round =>
    obtain ⟨k, hk, rfl, hz⟩ := hrel
    by_cases hk0 : k = 0
    · subst hk0
      have hv : val a = 0 := val_zero_of fun j _ => hz.out j (by omega)
      have HV := Lib.hid hv
      clear hv
      simp only [Int.natCast_zero, Int.zero_sub]
      go_wp2_with fail
      go_ret
      exact ⟨ret_int (by rw [HV.out]; rfl), rfl⟩
    · obtain ⟨q, rfl⟩ : ∃ q, k = q + 1 := ⟨k - 1, by omega⟩
      obtain ⟨ab, aoff, rfl, hab, hac⟩ := HA.out.cell_at (k := q) (by omega)
      have hq : (((q + 1 : Nat) : Int) - 1) = (q : Int) := by omega
      rw [hq]
      clear hq hk0
      have hxl := wd_lt HA.out.ok q
      by_cases hx : wd a q = 0
      · rw [hx] at hac
        have HX := Lib.hid hx
        clear hx
        go_wp2_with fail
        go_round
        case rel => exact ⟨q, by omega, rfl, Lib.hid fun j hj => by
          by_cases e : j = q
          · subst e; exact HX.out
          · exact hz.out j (by omega)⟩
        case measure => simp [intOf]
      · obtain ⟨ht, ht2⟩ := bits_top HA.out.ok hz.out hx
        have hxb : (((wd a q : Nat) : Int) != 0) = true := by simp; omega
        have HT := Lib.hid ht
        have hlen := Tryd.bits_Len32 ((wd a q : Nat) : Int) w (by omega) (by omega)
        rw [Int.toNat_natCast] at hlen
        generalize Lib.bitLen (wd a q) = L at hlen HT ht2
        have HLEN := Lib.hid hlen
        clear hlen ht hx
        generalize wd a q = x at hac hxb hxl HLEN
        go_wp2_with fail
        refine (HLEN.out).mono ?_
        rintro e w' ⟨rfl, rfl⟩
        go_wp2_with fail
        go_ret
        exact ⟨ret_int (by rw [← HT.out]; omega), rfl⟩

/-- The number and whether it is one of 64 bits. -/
def smallV (v : Nat) : Int × Bool := if v < 18446744073709551616 then ((v : Int), true) else (0, false)
theorem small_two {l : List Nat} (h : Ok l) (hv : val l < 18446744073709551616) : wd l 1 * 4294967296 + wd l 0 = val l := by
  have h1 := wd_val h 0
  have h2 := wd_val h 1
  rw [pw_zero, Nat.div_one] at h1
  rw [pw_succ, pw_zero, Nat.mul_one] at h2
  omega

set_option maxHeartbeats 1000000 in
theorem small_any {A : Option Addr} {n c : Nat} {a : List Nat} {w : World} (ha : NatV w A n c a) (hsn : n ≤ 100000) :
    Calls Tryd.prog 29 #[.slice A n c] w fun e w' => e = .returned (.tuple #[.int .u64 (smallV (val a)).1, .bool (smallV (val a)).2]) ∧ w = w' := by
  have hb := bits_any ha hsn
  have HA := Lib.hid ha
  have h64 : (bln (val a) ≤ 64) ↔ val a < 18446744073709551616 := by
    rw [bln_le]
  by_cases hs : val a < 18446744073709551616
  · have hbl := h64.2 hs
    have hx := wd_lt ha.ok 1
    have hy := wd_lt ha.ok 0
    have hor := or_words hx hy
    rw [small_two ha.ok hs] at hor
    have hS : smallV (val a) = ((val a : Int), true) := if_pos hs
    have h1 := word_any ha 1
    have h0 := word_any ha 0
    rw [hS]
    generalize bln (val a) = L at hb hbl
    generalize val a = V at hor hs
    generalize wd a 1 = x at hor h1 hx
    generalize wd a 0 = y at hor h0 hy
    have HB := Lib.hid hb
    have H1 : RowKit.Hid (Calls Tryd.prog 56 #[.slice A n c, .int .i64 1] w fun e w' => e = .returned (.int .u32 ((x : Nat) : Int)) ∧ w = w') := Lib.hid h1
    have H0 : RowKit.Hid (Calls Tryd.prog 56 #[.slice A n c, .int .i64 0] w fun e w' => e = .returned (.int .u32 ((y : Nat) : Int)) ∧ w = w') := Lib.hid h0
    have HS := Lib.hid hs
    clear ha hb h1 h0 hS h64 hs
    have hLn : ¬ (64 < L) := by omega
    go_enter Tryd.func29, Tryd.ntmps29
    go_wp2_with fail
    refine (HB.out).mono ?_
    rintro e w' ⟨rfl, rfl⟩
    go_wp2_with fail
    refine (H1.out).mono ?_
    rintro e w' ⟨rfl, rfl⟩
    go_wp2_with fail
    refine (H0.out).mono ?_
    rintro e w' ⟨rfl, rfl⟩
    go_wp2_with fail
    go_ret2
    exact ⟨rfl, rfl⟩
  · have hbl : 64 < bln (val a) := by
      have : ¬ bln (val a) ≤ 64 := fun h => hs (h64.1 h)
      omega
    have hS : smallV (val a) = (0, false) := if_neg hs
    rw [hS]
    generalize bln (val a) = L at hb hbl
    have HB := Lib.hid hb
    clear ha hb hS h64 hs
    go_enter Tryd.func29, Tryd.ntmps29
    go_wp2_with fail
    refine (HB.out).mono ?_
    rintro e w' ⟨rfl, rfl⟩
    go_wp2_with fail
    go_ret2
    exact ⟨rfl, rfl⟩

end Go.Proofs.YtgiepikoffaaiaaDoor
