/- lowered: a number by a power of two below 2^32. -/
import Derived.Test.YtgiepikoffaaiaaDoorRaised
import Derived.Deep.RegionHeld3
import Derived.IntWalk
namespace Go.Proofs.YtgiepikoffaaiaaDoor
open Go.RowKit

/-- The i-th word of a number. -/
theorem wd_val : ∀ {l : List Nat}, Ok l → ∀ i, wd l i = val l / pw i % 4294967296
  | [], _, i => by simp [wd, val]
  | x :: l, h, 0 => by
    rw [ok_cons] at h
    simp only [wd, val, pw_zero, Nat.div_one, List.getD_cons_zero]
    omega
  | x :: l, h, i + 1 => by
    rw [ok_cons] at h
    have ih := wd_val h.2 i
    have e : wd (x :: l) (i + 1) = wd l i := by simp [wd]
    rw [e, ih, pw_succ, ← Nat.div_div_eq_div_mul]
    simp only [val]
    rw [show (x + 4294967296 * val l) / 4294967296 = val l from by omega]
theorem val_digits {l : List Nat} {N : Nat} (h : ∀ i, i < l.length → wd l i = N / pw i % 4294967296) : ∀ k, k ≤ l.length → val (l.take k) = N % pw k
  | 0, _ => by simp [val, pw_zero, Nat.mod_one]
  | k + 1, hk => by
    rw [val_take_succ, val_digits h k (by omega), h k (by omega), pw_succ, Nat.mul_comm 4294967296 (pw k), Nat.mod_mul]
theorem low_word {V B C p : Nat} (hBC : 4294967296 = B * C) :
    ((V / p / 4294967296 % 4294967296) * 4294967296 + V / p % 4294967296) / B % 4294967296 = V / B / p % 4294967296 := by
  rw [Nat.div_div_eq_div_mul V B p, Nat.mul_comm B p, ← Nat.div_div_eq_div_mul V p B]
  generalize V / p = M
  have h1 : M / 4294967296 % 4294967296 * 4294967296 + M % 4294967296 = M % (4294967296 * 4294967296) := by
    rw [Nat.mod_mul, Nat.mul_comm]; omega
  rw [h1]
  have h2 : M % (4294967296 * 4294967296) / B = M / B % (C * 4294967296) := by
    conv => lhs; rw [show (4294967296 : Nat) * 4294967296 = B * (C * 4294967296) from by rw [← Nat.mul_assoc, ← hBC]]
    rw [Nat.mod_mul_right_div_self]
  rw [h2, Nat.mod_mul_left_mod]

set_option maxHeartbeats 400000 in
theorem lowered_any {A : Option Addr} {n c : Nat} {a : List Nat} {w : World} (ha : NatV w A n c a) (hsn : n ≤ 100000) (s : Nat) (hs : s < 32) :
    Calls Tryd.prog 46 #[.slice A n c, .int .i64 (s : Int)] w (NatPost (wds (val a / 2 ^ s)) w) := by
  have HA := Lib.hid ha
  have hmk := make_nat n (by omega)
  obtain ⟨C, hBC, hB0, hBle⟩ := pow_split hs
  obtain ⟨B, hB⟩ : ∃ B, B = 2 ^ s := ⟨_, rfl⟩
  have hBI : ((2 : Int) ^ s) = (B : Int) := by rw [hB]; simp
  rw [← hB] at hBC hB0 hBle
  rw [← hB]
  have HB := Lib.hid hB
  have HBC := Lib.hid hBC
  clear ha hB hBC
  go_enter Tryd.func46, Tryd.ntmps46
  go_wp2_with fail
  clear hmk
  go_loopw [12] (fun i wr => ∃ (k : Nat) (o : List Nat), k ≤ n ∧ i = .int .i64 (k : Int) ∧ RowKit.Hid (o.length = n) ∧ RowKit.Hid (Ok o) ∧ RowKit.Hid (∀ j, j < k → wd o j = val a / B / pw j % 4294967296) ∧ RowKit.Hid (RowB wr w.heap.size o) ∧ RowKit.Hid (Below w.heap.size w wr)) (fun i _ => n - (intOf i).toNat)
  case atStart =>
    exact ⟨0, List.replicate n 0, by omega, rfl, Lib.hid (by simp), Lib.hid (ok_zero _), Lib.hid (fun j hj => absurd hj (by omega)), Lib.hid (Blk.new _ _ _), Lib.hid (below_alloc _ _)⟩
  case round =>
    obtain ⟨k, o, hk, rfl, hol, hok, hinv, hrow, hbw⟩ := hrel
    by_cases hlt : k < n
    · have hx := wd_lt HA.out.ok k
      have hy := wd_lt HA.out.ok (k + 1)
      have HA2 := Lib.hid (HA.out.below hbw.out)
      obtain ⟨ab, aoff, rfl, hab, hac⟩ := HA2.out.cell_at hlt
      have hwv := wd_val HA.out.ok k
      have hwv1 := wd_val HA.out.ok (k + 1)
      rw [pw_succ, Nat.mul_comm 4294967296 (pw k), ← Nat.div_div_eq_div_mul] at hwv1
      have hlw := low_word (V := val a) (p := pw k) HBC.out
      rw [← hwv, ← hwv1] at hlw
      have HLW := Lib.hid hlw
      have hword := word_any (HA2.out.drewN 1) (k + 1)
      clear hwv hwv1 hlw
      generalize wd a k = x at hac HLW hx
      generalize wd a (k + 1) = y at hword HLW hy
      have HWORD : RowKit.Hid (Calls Tryd.prog 56 #[.slice (some ⟨ab, aoff, none⟩) n c, .int .i64 ((k : Int) + 1)] (wr.drewN 1) fun e w' => e = .returned (.int .u32 ((y : Nat) : Int)) ∧ wr.drewN 1 = w') := Lib.hid hword
      have hc0 := RowB.cell hrow.out (i := k) (by rw [hol.out]; omega)
      have hor := or_words (r := y) (y := x) hy hx
      obtain ⟨X, hX⟩ : ∃ X, X = y * 4294967296 + x := ⟨_, rfl⟩
      rw [← hX] at hor HLW
      have hXl : X < 18446744073709551616 := by omega
      obtain ⟨z, hz⟩ : ∃ z, z = X / B % 4294967296 := ⟨_, rfl⟩
      have hz2 : z < 4294967296 := by omega
      have hzi : (X : Int) / (B : Int) % 4294967296 = (z : Int) := by rw [hz, Int.natCast_emod, Int.natCast_ediv]; rfl
      have HZ := Lib.hid hz
      have hfz := Blk.frozen hrow.out
      have hsz : w.heap.size < wr.heap.size := Blk.lt hrow.out
      have hne : ab ≠ w.heap.size := by
        obtain ⟨b', off', e, hb', _⟩ := HA.out.mem (by omega)
        injection e with e
        injection e with e1 e2
        subst e1
        have hb2 : ab < w.heap.size := hb'
        omega
      have HKEEP : RowKit.Hid (∀ v, (wr.drew.setCell ⟨w.heap.size, k, none⟩ v).cell? ⟨ab, aoff + k, none⟩ = some (.int .u32 ((x : Nat) : Int))) := Lib.hid fun v => (cell_of_heap (Below.heap_setCell _ _ _ _ hne) _).trans hac
      have hs1 : IntKind.i64.wrap ((k : Int) + 1) = (k : Int) + 1 := IntWalk.i64_in _ (by omega)
      have hs2 : IntKind.u64.wrap ((y : Int) * 4294967296) = (y : Int) * 4294967296 := by rw [IntKind.wrap_u64]; omega
      have hs3 : IntKind.u64.wrap (y : Int) = (y : Int) := by rw [IntKind.wrap_u64]; omega
      have hs4 : IntKind.u64.wrap (x : Int) = (x : Int) := by rw [IntKind.wrap_u64]; omega
      have hs5 : IntKind.u32.wrap ((X : Int) / (B : Int)) = (z : Int) := by rw [IntKind.wrap_u32]; exact hzi
      clear hX hz hword
      go_wp2_with fail
      go_region_held3 (fun w' => w'.cell? ⟨ab, aoff + k, none⟩ = some (.int .u32 ((x : Nat) : Int))) (first | exact hac | exact HKEEP.out _)
        (first
          | (go_at_call 56; refine (HWORD.out).mono ?_; rintro e w5 ⟨rfl, rfl⟩))
      clear hs1 hs2 hs3 hs4 hs5
      go_wp2_with fail
      go_roundw
      case rel =>
        refine ⟨k + 1, o.set k z, by omega, by go_num, Lib.hid (by rw [List.length_set]; exact hol.out), Lib.hid (ok_set hok.out _ hz2), Lib.hid ?_, Lib.hid ?_, Lib.hid (Below.setCell (below_drewN hbw.out 1) (by simp) _)⟩
        · intro j hj
          rw [wd_set (by rw [hol.out]; omega)]
          by_cases e : j = k
          · rw [if_pos e, e, HZ.out]; exact HLW.out
          · rw [if_neg e]; exact hinv.out j (by omega)
        · have := (hrow.out.drewN 1).set_ k (.int .u32 ((z : Nat) : Int))
          rwa [cellsU_set] at this
      case measure => simp [intOf]; omega
    · have hko : k = n := by omega
      have hv : val o = val a / B := by
        have h1 := val_digits (l := o) (N := val a / B) (fun i hi => hinv.out i (by rw [hol.out] at hi; omega)) n (by rw [hol.out]; omega)
        rw [val_take_all (by rw [hol.out]; omega)] at h1
        rw [h1, Nat.mod_eq_of_lt]
        have h2 := val_lt HA.out.ok
        rw [HA.out.len] at h2
        exact Nat.lt_of_le_of_lt (Nat.div_le_self _ _) h2
      have hnorm := norm_any (hrow.out.natV hok.out (by rw [hol.out]; omega))
      rw [hol.out, hv] at hnorm
      have HNORM := Lib.hid hnorm
      clear hv hko hnorm
      go_wp2_with fail
      refine (HNORM.out).mono ?_
      intro e w3 h3
      have h4 := h3.trans hbw.out
      obtain ⟨hb5, g5, rfl, hg5, hr5⟩ := h4
      go_wp2_with fail
      go_ret
      exact ⟨hb5, g5, rfl, hg5, hr5⟩

end Go.Proofs.YtgiepikoffaaiaaDoor
