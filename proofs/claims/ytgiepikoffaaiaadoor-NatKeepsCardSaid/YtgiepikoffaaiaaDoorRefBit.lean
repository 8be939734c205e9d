/- bit, Bits, Of, Small of the reference. -/
import Derived.Test.YtgiepikoffaaiaaDoorRefSums
import Derived.Test.YtgiepikoffaaiaaDoorBitsP
namespace Go.Proofs.YtgiepikoffaaiaaDoor
open Go Go.RowKit

/-- The i-th bit of a number. -/
def bitN (v i : Nat) : Nat := v / 2 ^ i % 2
theorem wd_val8 : ∀ {l : List Nat}, Ok8 l → ∀ i, dg8 l i = val8 l / pw8 i % 256
  | [], _, i => by simp [dg8, val8]
  | x :: l, h, 0 => by
    rw [ok_cons8] at h
    simp only [dg8, val8, pw_zero8, Nat.div_one, List.getD_cons_zero]
    omega
  | x :: l, h, i + 1 => by
    rw [ok_cons8] at h
    have ih := wd_val8 h.2 i
    have e : dg8 (x :: l) (i + 1) = dg8 l i := by simp [dg8]
    rw [e, ih, pw_succ8, ← Nat.div_div_eq_div_mul]
    simp only [val8]
    rw [show (x + 256 * val8 l) / 256 = val8 l from by omega]
theorem pw8_two (i : Nat) : pw8 i = 2 ^ (8 * i) := by
  unfold pw8
  rw [Nat.pow_mul]
theorem bit_dgs (v q r : Nat) (hr : r < 8) : dg8 (dgs v) q / 2 ^ r % 2 = bitN v (8 * q + r) := by
  rw [wd_val8 (ok_wds8 v), val_wds8]
  unfold bitN
  rw [Nat.pow_add, ← Nat.div_div_eq_div_mul, pw8_two]
  generalize v / 2 ^ (8 * q) = M
  have e : (256 : Nat) = 2 ^ r * 2 ^ (8 - r) := by rw [← Nat.pow_add, show r + (8 - r) = 8 from by omega]
  have e2 : 2 ^ (8 - r) = 2 * 2 ^ (7 - r) := by rw [show 8 - r = (7 - r) + 1 from by omega, Nat.pow_succ, Nat.mul_comm]
  rw [e, Nat.mod_mul_right_div_self, e2, Nat.mod_mul_right_mod]
theorem bitN_lt (v i : Nat) : bitN v i < 2 := Nat.mod_lt _ (by decide)
theorem mod_bit (v i : Nat) : v % 2 ^ (i + 1) = v % 2 ^ i + 2 ^ i * bitN v i := by
  unfold bitN
  rw [Nat.pow_succ, Nat.mod_mul]
theorem wraps_i64 (n : Int) (h₀ : 0 ≤ n) (h₁ : n < 2 ^ 63) : IntKind.i64.wrap n = n := by rw [IntKind.wrap_i64]; omega
theorem and_one (z : Nat) (hz : z < 9223372036854775808) : bits .and .i64 (z : Int) 1 = ((z % 2 : Nat) : Int) := by
  have := bits_mask .i64 63 (by decide) wraps_i64 1 (by decide) (z : Int) (by omega) (by omega)
  have e : (2 : Int) ^ 1 - 1 = 1 := by decide
  have e2 : (2 : Int) ^ 1 = 2 := by decide
  rw [e, e2] at this
  rw [this]; rfl

set_option maxRecDepth 100000 in
set_option maxHeartbeats 2000000 in
theorem bit_any {A : Option Addr} {n c v i : Nat} {w : World} (hd : DigR w A n c (dgs v)) (hi : i < 8 * n) :
    Calls Tryd.prog 50 #[.slice A n c, .int .i64 (i : Int)] w fun e w' => e = .returned (.int .i64 ((bitN v i : Nat) : Int)) ∧ w = w' := by
  have hf := hd.few
  obtain ⟨q, hq⟩ : ∃ q, q = i / 8 := ⟨_, rfl⟩
  obtain ⟨r, hr⟩ : ∃ r, r = i % 8 := ⟨_, rfl⟩
  have hrl : r < 8 := by omega
  have hqn : q < n := by omega
  obtain ⟨b, off, rfl, _, hc⟩ := hd.cell_at hqn
  have hbit := bit_dgs v q r hrl
  rw [show 8 * q + r = i from by omega] at hbit
  have hzl := wd_lt8 (ok_wds8 v) q
  generalize dg8 (dgs v) q = z at *
  have hq1 : (i : Int) / 8 = (q : Int) := by omega
  have hr1 : (i : Int) % 8 = (r : Int) := by omega
  obtain ⟨B, hB⟩ : ∃ B, B = 2 ^ r := ⟨_, rfl⟩
  have hBI : ((2 : Int) ^ r) = (B : Int) := by rw [hB]; simp
  obtain ⟨t, ht⟩ : ∃ t, t = z / B := ⟨_, rfl⟩
  have hti : (z : Int) / (B : Int) = (t : Int) := by rw [ht, Int.natCast_ediv]
  have htl : t ≤ z := by rw [ht]; exact Nat.div_le_self _ _
  have hand := and_one t (by omega)
  rw [← hB, ← ht] at hbit
  rw [hbit] at hand
  generalize bitN v i = y at *
  clear hd hq hr hB ht hbit
  go_enter Tryd.func50, Tryd.ntmps50
  go_wp2_with fail
  go_ret
  exact ⟨rfl, rfl⟩

theorem digs_all {v n : Nat} (h : (dgs v).length = n) : v % 2 ^ (8 * n) = v := by
  apply Nat.mod_eq_of_lt
  have := val_lt8 (ok_wds8 v)
  rwa [val_wds8, h, pw8_two] at this

set_option maxHeartbeats 2000000 in
theorem refBits_num {A : Option Addr} {n c x i : Nat} {w : World} (hx : Arg w A n c x i) (hi : i ≤ 1000) {b : Nat} (hb : bln x = b) : Calls Tryd.prog 32 #[.slice A n c] w fun e w' => e = .returned (.int .i64 (b : Int)) ∧ Below w.heap.size w w' := by
  subst hb
  have H := Lib.hid (digits_num hx hi)
  have hfx := dgs_few hx.lt
  clear hx
  go_enter Tryd.func32, Tryd.ntmps32
  go_wp2_with fail
  refine (H.out).mono ?_
  rintro e w1 ⟨hb1, A1, n1, c1, rfl, hd1⟩
  have hl := hd1.len
  have HL := Lib.hid hl
  have HD := Lib.hid hd1
  have HB1 := Lib.hid hb1
  have hn1 : n1 ≤ 4000 := by omega
  clear hb1 hd1 hl
  go_wp2_with fail
  go_loop [4, 5] (fun nv iv => ∃ (k b : Nat), k ≤ 8 * n1 ∧ iv = .int .i64 (k : Int) ∧ nv = .int .i64 (b : Int) ∧ b ≤ k ∧ RowKit.Hid (b = bln (x % 2 ^ k))) (fun _ i => 8 * n1 - (intOf i).toNat)
  case atStart => exact ⟨0, 0, by omega, rfl, rfl, by omega, Lib.hid (by rw [Nat.pow_zero, Nat.mod_one]; rfl)⟩
  case round =>
    obtain ⟨k, b, hk, rfl, rfl, hbk, hb⟩ := hrel
    by_cases hlt : k < 8 * n1
    · have hbit := bit_any HD.out hlt
      have hmb := mod_bit x k
      have hbl := bitN_lt x k
      by_cases h1 : bitN x k = 1
      · rw [h1] at hbit
        have HBIT := Lib.hid hbit
        have HN : RowKit.Hid (k + 1 = bln (x % 2 ^ (k + 1))) := Lib.hid (by
          symm
          refine bln_eq ?_ (Nat.mod_lt _ (Nat.pow_pos (by decide)))
          rw [hmb, h1, Nat.mul_one]
          exact Nat.le_add_left _ _)
        clear hbit hmb hbl h1
        go_wp2_with fail
        refine (HBIT.out).mono ?_
        rintro e w' ⟨rfl, rfl⟩
        go_wp2_with fail
        go_round
        case rel => exact ⟨k + 1, k + 1, by omega, by go_num, by go_num, by omega, HN⟩
        case measure => simp [intOf]; omega
      · have h0 : bitN x k = 0 := by omega
        rw [h0] at hbit
        have HBIT := Lib.hid hbit
        have HN : RowKit.Hid (b = bln (x % 2 ^ (k + 1))) := Lib.hid (by rw [hmb, h0, Nat.mul_zero, Nat.add_zero]; exact hb.out)
        clear hbit hmb hbl h1 h0
        go_wp2_with fail
        refine (HBIT.out).mono ?_
        rintro e w' ⟨rfl, rfl⟩
        go_wp2_with fail
        go_round
        case rel => exact ⟨k + 1, b, by omega, by go_num, rfl, by omega, HN⟩
        case measure => simp [intOf]; omega
    · have HE : RowKit.Hid (b = bln x) := Lib.hid (by
        have := hb.out
        rw [show k = 8 * n1 from by omega, digs_all HL.out] at this
        exact this)
      go_wp2_with fail
      go_ret
      exact ⟨ret_int (by rw [HE.out]), HB1.out⟩

set_option maxHeartbeats 2000000 in
theorem refSmall_num {A : Option Addr} {n c x i : Nat} {w : World} (hx : Arg w A n c x i) (hi : i ≤ 1000) {q : Int × Bool} (hq : smallV x = q) : Calls Tryd.prog 30 #[.slice A n c] w fun e w' => e = .returned (.tuple #[.int .u64 q.1, .bool q.2]) ∧ Below w.heap.size w w' := by
  subst hq
  have H := Lib.hid (digits_num hx hi)
  have hfx := dgs_few hx.lt
  clear hx
  have h8 : pw8 8 = 18446744073709551616 := by decide
  by_cases hs : x < 18446744073709551616
  · have hl8 : (dgs x).length ≤ 8 := wds_len8 (by rw [h8]; exact hs)
    have hS : smallV x = ((x : Int), true) := if_pos hs
    rw [hS]
    have HS := Lib.hid hs
    clear hs hS h8
    go_enter Tryd.func30, Tryd.ntmps30
    go_wp2_with fail
    refine (H.out).mono ?_
    rintro e w1 ⟨hb1, A1, n1, c1, rfl, hd1⟩
    have hl := hd1.len
    have HL := Lib.hid hl
    have HD := Lib.hid hd1
    have HB1 := Lib.hid hb1
    have hn1 : n1 ≤ 8 := by omega
    clear hb1 hd1 hl hl8 hfx
    go_wp2_with fail
    go_loop [5, 6] (fun nv iv => ∃ (k v : Nat), k ≤ n1 ∧ iv = .int .i64 ((k : Int) - 1) ∧ nv = .int .u64 (v : Int) ∧ RowKit.Hid (v = val8 ((dgs x).drop k))) (fun _ i => (intOf i + 1).toNat)
    case atStart => exact ⟨n1, 0, by omega, rfl, rfl, Lib.hid (by rw [List.drop_eq_nil_of_le (by rw [HL.out]; omega)]; rfl)⟩
    case round =>
      obtain ⟨k, v, hk, rfl, rfl, hv⟩ := hrel
      by_cases hk0 : k = 0
      · subst hk0
        have HV : RowKit.Hid (v = x) := Lib.hid (by have := hv.out; rwa [List.drop_zero, val_wds8] at this)
        simp only [Int.natCast_zero, Int.zero_sub]
        go_wp2_with fail
        go_ret2
        rw [HV.out]
        exact ⟨rfl, HB1.out⟩
      · obtain ⟨q, rfl⟩ : ∃ q, k = q + 1 := ⟨k - 1, by omega⟩
        have hq : (((q + 1 : Nat) : Int) - 1) = (q : Int) := by omega
        rw [hq]
        clear hq hk0
        obtain ⟨b, off, rfl, _, hc⟩ := HD.out.cell_at (k := q) (by omega)
        have HN : RowKit.Hid (256 * v + dg8 (dgs x) q = val8 ((dgs x).drop q)) := Lib.hid (by
          rw [hv.out, List.drop_eq_getElem_cons (i := q) (by rw [HL.out]; omega), wd_eq8 (by rw [HL.out]; omega)]
          simp only [val8]; omega)
        have hbd : 256 * v + dg8 (dgs x) q < 18446744073709551616 := by
          rw [HN.out]
          have h1 := HS.out
          have h2 : val8 ((dgs x).drop q) ≤ x := by
            have h3 := val_split8 (dgs x) q
            rw [val_wds8] at h3
            have := Nat.le_mul_of_pos_left (val8 ((dgs x).drop q)) (pw_pos8 q)
            omega
          omega
        have hzl := wd_lt8 (ok_wds8 x) q
        generalize dg8 (dgs x) q = z at *
        have hc1 : (q : Int) < (n1 : Int) := by omega
        go_wp2_with fail
        go_round
        case rel => exact ⟨q, 256 * v + z, by omega, rfl, by congr 1, HN⟩
        case measure => simp [intOf]
  · have hl8 : 8 < (dgs x).length := by
      rcases Nat.lt_or_ge 8 (dgs x).length with h | h
      · exact h
      · have h1 := val_lt8 (ok_wds8 x)
        have h2 := pw_le8 h
        rw [val_wds8] at h1
        omega
    have hS : smallV x = (0, false) := if_neg hs
    rw [hS]
    clear hs hS h8
    go_enter Tryd.func30, Tryd.ntmps30
    go_wp2_with fail
    refine (H.out).mono ?_
    rintro e w1 ⟨hb1, A1, n1, c1, rfl, hd1⟩
    have hl := hd1.len
    have hn1 : 8 < n1 := by omega
    have HB1 := Lib.hid hb1
    clear hb1 hd1 hl hl8 hfx
    go_wp2_with fail
    go_ret2
    exact ⟨rfl, HB1.out⟩

end Go.Proofs.YtgiepikoffaaiaaDoor
