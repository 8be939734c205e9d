/- Monus: the difference. -/
import Derived.Test.YtgiepikoffaaiaaDoorCompare
import Derived.Deep.RegionHeld3
namespace Go.Proofs.YtgiepikoffaaiaaDoor
open Go.RowKit

theorem word_still {A : Option Addr} {n c : Nat} {l : List Nat} {w : World} (h : NatV w A n c l) (i : Nat) :
    Calls Tryd.prog 56 #[.slice A n c, .int .i64 (i : Int)] w fun e w' => e = .returned (.int .u32 ((wd l i : Nat) : Int)) ∧ w' = w := (word_any h i).mono fun _ _ h => ⟨h.1, h.2.symm⟩
theorem sub32_still (x y c : Nat) (hx : x < 4294967296) (hy : y < 4294967296) (hc : c ≤ 1) (w : World) :
    Calls Tryd.prog 57 #[.int .u32 (x : Int), .int .u32 (y : Int), .int .u32 (c : Int)] w fun e w' => e = .returned (.tuple #[.int .u32 ((diffN x y c : Nat) : Int), .int .u32 ((borrowN x y c : Nat) : Int)]) ∧ w' = w := (sub32_any x y c hx hy hc w).mono fun _ _ h => ⟨h.1, h.2.symm⟩
theorem sub_word {x y c : Nat} (hx : x < 4294967296) (hy : y < 4294967296) (hc : c ≤ 1) : diffN x y c + y + c = x + 4294967296 * borrowN x y c ∧ borrowN x y c ≤ 1 ∧ diffN x y c < 4294967296 := by
  unfold diffN borrowN
  split <;> omega
theorem mon_end {o a b : List Nat} {cr : Nat} (ho : Ok o) (hl : o.length = a.length) (ha : Ok a) (h : val o + val (b.take a.length) = val a + cr * pw a.length) (hle : val b ≤ val a) : val o = val a - val b := by
  have h1 := val_lt ha
  have h2 := val_lt ho
  have h3 := val_split b a.length
  rw [hl] at h2
  have h4 : val (b.drop a.length) = 0 := by
    rcases Nat.eq_zero_or_pos (val (b.drop a.length)) with h0 | h0
    · exact h0
    · have := Nat.mul_le_mul_left (pw a.length) (show 1 ≤ val (b.drop a.length) from h0)
      omega
  rw [h4] at h3
  have h5 : val (b.take a.length) = val b := by omega
  rw [h5] at h
  rcases Nat.eq_zero_or_pos cr with rfl | hp
  · omega
  · have := Nat.mul_le_mul_right (pw a.length) (show 1 ≤ cr from hp)
    omega

set_option maxHeartbeats 2000000 in
theorem monus_any {A B : Option Addr} {n c m d : Nat} {a b : List Nat} {w : World} (ha : NatV w A n c a) (hb : NatV w B m d b) (hsn : n ≤ 100000) :
    Calls Tryd.prog 23 #[.slice A n c, .slice B m d] w (NatPost (wds (val a - val b)) w) := by
  have hcmp := compare_any ha hb
  have HA := Lib.hid ha
  have HB := Lib.hid hb
  by_cases hlt : val a < val b
  · rw [show cmpI (val a) (val b) = -1 from by simp [cmpI, hlt]] at hcmp
    have HC := Lib.hid hcmp
    have HZ : RowKit.Hid (wds (val a - val b) = []) := Lib.hid (by rw [show val a - val b = 0 from by omega, wds_zero])
    clear hcmp hlt ha hb
    go_enter Tryd.func23, Tryd.ntmps23
    go_wp2_with fail
    refine (HC.out).mono ?_
    rintro e w2 ⟨rfl, hb2⟩
    go_wp2_with fail
    go_ret
    rw [HZ.out]
    exact ⟨hb2.alloc hb2.size _, w2.heap.size, rfl, hb2.size, Blk.new _ _ _⟩
  · have hci : cmpI (val a) (val b) = 0 ∨ cmpI (val a) (val b) = 1 := by
      unfold cmpI
      rw [if_neg hlt]
      split
      · right; rfl
      · left; rfl
    obtain ⟨ci, hci2⟩ : ∃ ci, ci = cmpI (val a) (val b) := ⟨_, rfl⟩
    rw [← hci2] at hcmp hci
    have hcn : decide (ci < 0) = false := decide_eq_false (by omega)
    have HC := Lib.hid hcmp
    have HLE : RowKit.Hid (val b ≤ val a) := Lib.hid (by omega)
    have hmk := make_nat n (by omega)
    clear hcmp hlt ha hb hci hci2
    go_enter Tryd.func23, Tryd.ntmps23
    go_wp2_with fail
    refine (HC.out).mono ?_
    rintro e w2 ⟨rfl, hb2⟩
    have HB2 := Lib.hid hb2
    clear hb2
    go_wp2_with fail
    clear hmk
    go_loopw [6, 18] (fun cv i wr => ∃ (k cr : Nat) (o : List Nat), k ≤ n ∧ i = .int .i64 (k : Int) ∧ cv = .int .u32 (cr : Int) ∧ cr ≤ 1 ∧ RowKit.Hid (o.length = n) ∧ RowKit.Hid (Ok o) ∧ RowKit.Hid (val (o.take k) + val (b.take k) = val (a.take k) + cr * pw k) ∧ RowKit.Hid (RowB wr w2.heap.size o) ∧ RowKit.Hid (Below w.heap.size w wr)) (fun _ i _ => n - (intOf i).toNat)
    case atStart =>
      exact ⟨0, 0, List.replicate n 0, by omega, rfl, rfl, by omega, Lib.hid (by simp), Lib.hid (ok_zero _), Lib.hid rfl, Lib.hid (Blk.new _ _ _), Lib.hid (HB2.out.alloc HB2.out.size _)⟩
    case round =>
      obtain ⟨k, cr, o, hk, rfl, rfl, hcr, hol, hok, hinv, hrow, hbw⟩ := hrel
      by_cases hlt : k < n
      · have HX := Lib.hid (wd_lt HA.out.ok k)
        have HY := Lib.hid (wd_lt HB.out.ok k)
        obtain ⟨ab, aoff, rfl, hab, ham⟩ := HA.out.mem (by omega)
        have hac : wr.cell? ⟨ab, aoff + k, none⟩ = some (.int .u32 ((wd a k : Nat) : Int)) := by
          rw [hbw.out.cell (p := ⟨ab, aoff + k, none⟩) hab]; exact ham k hlt
        have hc0 := RowB.cell hrow.out (i := k) (by rw [hol.out]; exact hlt)
        have hfz := Blk.frozen hrow.out
        have hsz : w2.heap.size < wr.heap.size := Blk.lt hrow.out
        have HB3 := Lib.hid (HB.out.below hbw.out)
        have hne : ab ≠ w2.heap.size := by have := HB2.out.size; omega
        have HKEEP : RowKit.Hid (∀ v, (wr.drew.setCell ⟨w2.heap.size, k, none⟩ v).cell? ⟨ab, aoff + k, none⟩ = some (.int .u32 ((wd a k : Nat) : Int))) := Lib.hid fun v => (cell_of_heap (Below.heap_setCell _ _ _ _ hne) _).trans hac
        clear ham hab
        go_wp2_with fail
        go_region_held3 (fun w' => w'.cell? ⟨ab, aoff + k, none⟩ = some (.int .u32 ((wd a k : Nat) : Int))) (first | exact hac | exact HKEEP.out _)
          (first
            | (go_at_call 56; refine (word_any (HB3.out.drewN 1) k).mono ?_; rintro e w5 ⟨rfl, rfl⟩)
            | (go_at_call 57; refine (sub32_any _ _ _ HX.out HY.out hcr _).mono ?_; rintro e w5 ⟨rfl, rfl⟩))
        go_wp2_with fail
        go_roundw
        case rel =>
          obtain ⟨hs1, hs2, hs3⟩ := sub_word HX.out HY.out hcr
          refine ⟨k + 1, borrowN (wd a k) (wd b k) cr, o.set k (diffN (wd a k) (wd b k) cr), by omega, by go_num, rfl, hs2, Lib.hid (by rw [List.length_set]; exact hol.out), Lib.hid (ok_set hok.out _ hs3), Lib.hid ?_, Lib.hid ?_, Lib.hid (Below.setCell (below_drewN hbw.out 1) (by have := HB2.out.size; exact this) _)⟩
          · rw [val_take_set _ (by rw [hol.out]; exact hlt), val_take_succ, val_take_succ]
            exact sub_step hinv.out hs1 (pw_succ k)
          · have := (hrow.out.drewN 1).set_ k (.int .u32 ((diffN (wd a k) (wd b k) cr : Nat) : Int))
            rwa [cellsU_set] at this
        case measure => simp [intOf]; omega
      · have hko : k = n := by omega
        have hv : val o = val a - val b := by
          have h1 := hinv.out
          rw [val_take_all (l := o) (k := k) (by rw [hol.out]; omega), val_take_all (l := a) (k := k) (by rw [HA.out.len]; omega), hko] at h1
          rw [← HA.out.len] at h1
          exact mon_end hok.out (by rw [hol.out, HA.out.len]) HA.out.ok h1 HLE.out
        have hnorm := norm_any (hrow.out.natV hok.out (by rw [hol.out]; omega))
        rw [hol.out, hv] at hnorm
        have HNORM := Lib.hid hnorm
        clear hv hko hnorm
        go_wp2_with fail
        refine (HNORM.out).mono ?_
        intro e w3 h3
        have h4 := h3.trans hbw.out
        obtain ⟨hb5, g5, rfl, hg5, hr5⟩ := h4
        go_wp2_with fail
        go_ret
        exact ⟨hb5, g5, rfl, hg5, hr5⟩

end Go.Proofs.YtgiepikoffaaiaaDoor
