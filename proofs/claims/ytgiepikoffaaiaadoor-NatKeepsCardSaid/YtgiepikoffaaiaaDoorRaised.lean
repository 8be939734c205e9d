/- raised: a number times a power of two below 2^32. -/
import Derived.Test.YtgiepikoffaaiaaDoorNum
import Derived.Lib.EndianBits
namespace Go.Proofs.YtgiepikoffaaiaaDoor
open Go.RowKit

theorem pow_split {s : Nat} (hs : s < 32) : ∃ C, 4294967296 = 2 ^ s * C ∧ 0 < 2 ^ s ∧ 2 ^ s ≤ 2147483648 := by
  refine ⟨2 ^ (32 - s), ?_, Nat.pow_pos (by decide), ?_⟩
  · rw [← Nat.pow_add, show s + (32 - s) = 32 from by omega]
  · have : 2 ^ s ≤ 2 ^ 31 := Nat.pow_le_pow_right (by decide) (by omega)
    simpa using this
/-- What one round of raised computes. -/
theorem raise_word {x o B C : Nat} (hx : x < 4294967296) (ho : o < B) (hBC : 4294967296 = B * C) (hB : B ≤ 2147483648) (hB0 : 0 < B) :
    x * B < 18446744073709551616 ∧ (x * B) % 4294967296 % B = 0 ∧ o + (x * B) % 4294967296 < 4294967296 ∧ (x * B) / 4294967296 < B := by
  have h1 : x * B ≤ 4294967295 * 2147483648 := Nat.mul_le_mul (by omega) hB
  have h2 : (x * B) % 4294967296 % B = 0 := by
    rw [hBC, Nat.mod_mul_right_mod, Nat.mul_mod_left]
  have h3 : (x * B) % 4294967296 < 4294967296 := Nat.mod_lt _ (by decide)
  refine ⟨by omega, h2, ?_, ?_⟩
  · obtain ⟨q, hq⟩ := Nat.dvd_of_mod_eq_zero h2
    rw [hq] at h3 ⊢
    rw [hBC] at h3 ⊢
    have hq2 : q < C := Nat.lt_of_mul_lt_mul_left h3
    have : B * (q + 1) ≤ B * C := Nat.mul_le_mul_left B hq2
    rw [Nat.mul_add, Nat.mul_one] at this
    omega
  · rw [Nat.div_lt_iff_lt_mul (by decide), Nat.mul_comm]
    exact Nat.mul_lt_mul_of_pos_left hx hB0
theorem raise_step {v v' v'' k x o B : Nat} (h1 : v' + pw k * o = v + pw k * (o + (x * B) % 4294967296)) (h2 : v'' + pw (k + 1) * 0 = v' + pw (k + 1) * ((x * B) / 4294967296)) {t : Nat} (h : v = t * B) : v'' = (t + pw k * x) * B := by
  have hdm := Nat.div_add_mod (x * B) 4294967296
  rw [pw_succ] at h2
  generalize (x * B) / 4294967296 = q at *
  generalize (x * B) % 4294967296 = r at *
  subst h
  have : pw k * (x * B) = pw k * (4294967296 * q + r) := by rw [hdm]
  grind

set_option maxHeartbeats 2000000 in
theorem raised_any {A : Option Addr} {n c : Nat} {a : List Nat} {w : World} (ha : NatV w A n c a) (hsn : n ≤ 100000) (s : Nat) (hs : s < 32) :
    Calls Tryd.prog 44 #[.slice A n c, .int .i64 (s : Int)] w (NatPost (wds (val a * 2 ^ s)) w) := by
  have HA := Lib.hid ha
  have hmk := make_nat (n + 1) (by omega)
  rw [show (((n + 1 : Nat) : Int)) = (n : Int) + 1 from rfl] at hmk
  obtain ⟨C, hBC, hB0, hBle⟩ := pow_split hs
  obtain ⟨B, hB⟩ : ∃ B, B = 2 ^ s := ⟨_, rfl⟩
  have hBI : ((2 : Int) ^ s) = (B : Int) := by rw [hB]; simp
  rw [← hB] at hBC hB0 hBle
  rw [← hB]
  have HB := Lib.hid hB
  have HBC := Lib.hid hBC
  clear ha hB hBC
  go_enter Tryd.func44, Tryd.ntmps44
  go_wp2_with fail
  clear hmk
  go_loopw [15] (fun i wr => ∃ (k : Nat) (o : List Nat), k ≤ n ∧ i = .int .i64 (k : Int) ∧ RowKit.Hid (o.length = n + 1) ∧ RowKit.Hid (Ok o) ∧ RowKit.Hid (val o = val (a.take k) * B) ∧ RowKit.Hid (wd o k < B) ∧ RowKit.Hid (∀ j, k < j → wd o j = 0) ∧ RowKit.Hid (RowB wr w.heap.size o) ∧ RowKit.Hid (Below w.heap.size w wr)) (fun i _ => n - (intOf i).toNat)
  case atStart =>
    exact ⟨0, List.replicate (n + 1) 0, by omega, rfl, Lib.hid (by simp), Lib.hid (ok_zero _), Lib.hid (by rw [val_zeros, List.take_zero]; simp [val]), Lib.hid (by rw [wd_zero]; exact hB0), Lib.hid fun j _ => wd_zero _ _, Lib.hid (Blk.new _ _ _), Lib.hid (below_alloc _ _)⟩
  case round =>
    obtain ⟨k, o, hk, rfl, hol, hok, hinv, hlow, hzz, hrow, hbw⟩ := hrel
    by_cases hlt : k < n
    · have HX := Lib.hid (wd_lt HA.out.ok k)
      obtain ⟨ab, aoff, rfl, hab, hac⟩ := (HA.out.below hbw.out).cell_at hlt
      have HXE : RowKit.Hid (val (a.take (k + 1)) = val (a.take k) + pw k * wd a k) := Lib.hid (val_take_succ a k)
      generalize wd a k = x at hac HX HXE
      have hx := HX.out
      have hc0 := RowB.cell hrow.out (i := k) (by rw [hol.out]; omega)
      have hc1 := RowB.cell hrow.out (i := k + 1) (by rw [hol.out]; omega)
      rw [hzz.out (k + 1) (by omega)] at hc1
      have hlo := hlow.out
      have HV1 := Lib.hid (fun t => val_set o k t (by rw [hol.out]; omega))
      generalize wd o k = od at hc0 hlo HV1
      obtain ⟨r1, r2, r3, r4⟩ := raise_word hx hlo HBC.out hBle hB0
      obtain ⟨Y, hY⟩ : ∃ Y, Y = x * B := ⟨_, rfl⟩
      rw [← hY] at r1 r2 r3 r4
      obtain ⟨yl, hyl⟩ : ∃ yl, yl = Y % 4294967296 := ⟨_, rfl⟩
      obtain ⟨yh, hyh⟩ : ∃ yh, yh = Y / 4294967296 := ⟨_, rfl⟩
      rw [← hyl] at r2 r3
      rw [← hyh] at r4
      have hsh : IntKind.u64.wrap ((x : Int) * (B : Int)) = (Y : Int) := by
        have e : (x : Int) * (B : Int) = (Y : Int) := by rw [hY, Int.natCast_mul]
        rw [e, IntKind.wrap_u64]; omega
      have hyli : (Y : Int) % 4294967296 = (yl : Int) := by omega
      have hyhi : (Y : Int) / 4294967296 = (yh : Int) := by omega
      have hyl2 : yl < 4294967296 := by omega
      have hyh2 : yh < 4294967296 := by omega
      have hor : bits .or .u32 (od : Int) (yl : Int) = ((od + yl : Nat) : Int) := by
        have h2 : (yl : Int) % 2 ^ s = 0 := by rw [hBI]; omega
        have := bits_join_low .u32 32 (by decide) wraps_u32 s (od : Int) (yl : Int) (by omega) (by rw [hBI]; omega) (by omega) (by omega) h2 (by omega)
        rw [this]; omega
      obtain ⟨z, hz⟩ : ∃ z, z = od + yl := ⟨_, rfl⟩
      rw [← hz] at hor
      have hz2 : z < 4294967296 := by omega
      have HY := Lib.hid hY
      have HYL := Lib.hid hyl
      have HYH := Lib.hid hyh
      have HZ := Lib.hid hz
      have HR4 := Lib.hid r4
      have hfz := Blk.frozen hrow.out
      have hsz : w.heap.size < wr.heap.size := Blk.lt hrow.out
      clear hY hyl hyh hz r2 r3 r4 hlo
      go_wp2_with fail
      go_roundw
      case rel =>
        have hrow1 := hrow.out.set_ k (.int .u32 ((z : Nat) : Int))
        rw [cellsU_set] at hrow1
        have hrow2 := hrow1.set_ (k + 1) (.int .u32 ((yh : Nat) : Int))
        rw [cellsU_set] at hrow2
        have hl1 : (o.set k z).length = n + 1 := by rw [List.length_set]; exact hol.out
        have e1 : wd (o.set k z) (k + 1) = 0 := by rw [wd_set (by rw [hol.out]; omega), if_neg (by omega)]; exact hzz.out _ (by omega)
        refine ⟨k + 1, (o.set k z).set (k + 1) yh, by omega, by go_num, Lib.hid (by rw [List.length_set]; exact hl1), Lib.hid (ok_set (ok_set hok.out _ hz2) _ hyh2), Lib.hid ?_, Lib.hid ?_, Lib.hid ?_, Lib.hid hrow2, Lib.hid ((hbw.out.setCell (by simp) _).setCell (by simp) _)⟩
        · have h1 := HV1.out z
          have h2 := val_set (o.set k z) (k + 1) yh (by rw [hl1]; omega)
          rw [e1] at h2
          rw [HXE.out]
          refine raise_step (o := od) (x := x) (B := B) ?_ ?_ hinv.out (v' := val (o.set k z))
          · rw [h1, HZ.out, HYL.out, HY.out]
          · rw [h2, HYH.out, HY.out]
        · rw [wd_set (by rw [hl1]; omega), if_pos rfl]; exact HR4.out
        · intro j hj
          rw [wd_set (by rw [hl1]; omega), if_neg (by omega), wd_set (by rw [hol.out]; omega), if_neg (by omega)]
          exact hzz.out j (by omega)
      case measure => simp [intOf]; omega
    · have hko : k = n := by omega
      have hv : val o = val a * B := by
        rw [hinv.out, val_take_all (l := a) (k := k) (by rw [HA.out.len]; omega)]
      have hnorm := norm_any (hrow.out.natV hok.out (by rw [hol.out]; omega))
      rw [hol.out, hv] at hnorm
      have HNORM := Lib.hid hnorm
      clear hv hko hnorm
      go_wp2_with fail
      refine (HNORM.out).mono ?_
      intro e w3 h3
      have h4 := h3.trans hbw.out
      obtain ⟨hb5, g5, rfl, hg5, hr5⟩ := h4
      go_wp2_with fail
      go_ret
      exact ⟨hb5, g5, rfl, hg5, hr5⟩

end Go.Proofs.YtgiepikoffaaiaaDoor
