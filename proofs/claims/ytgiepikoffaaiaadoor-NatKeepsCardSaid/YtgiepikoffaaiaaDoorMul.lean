/- Mul: the product. -/
import Derived.Test.YtgiepikoffaaiaaDoorAdd
namespace Go.Proofs.YtgiepikoffaaiaaDoor
open Go.RowKit

theorem NatR.cell_at {R : Nat → Prop} {w : World} {A : Option Addr} {n c : Nat} {l : List Nat} (h : NatR R w A n c l) {k : Nat} (hk : k < n) : ∃ b off, A = some ⟨b, off, none⟩ ∧ R b ∧ w.cell? ⟨b, off + k, none⟩ = some (.int .u32 ((wd l k : Nat) : Int)) := by
  obtain ⟨b, off, e, hb, hm⟩ := h.mem (by omega)
  exact ⟨b, off, e, hb, hm k hk⟩
theorem mul_bd {x y o c : Nat} (hx : x < 4294967296) (hy : y < 4294967296) (ho : o < 4294967296) (hc : c < 4294967296) : x * y ≤ 18446744065119617025 ∧ x * y + o + c < 18446744073709551616 := by
  have h1 : x * y ≤ 4294967295 * 4294967295 := Nat.mul_le_mul (by omega) (by omega)
  omega
theorem mul_inner {v v' old k j x y c s c' t bj : Nat} (h : v + c * pw (k + j) = t + pw k * bj * x) (hv : v' + pw (k + j) * old = v + pw (k + j) * s) (hs : s + 4294967296 * c' = x * y + old + c) :
    v' + c' * pw (k + (j + 1)) = t + pw k * (bj + pw j * y) * x := by
  refine mul_step (p := pw (k + j)) (y := y) h hv hs (pw_succ (k + j)) ?_
  rw [pw_add]
  grind
theorem mul_outer {v v' k m x c a' b' : Nat} (h : v + c * pw (k + m) = a' * b' + pw k * b' * x) (hv : v' + pw (k + m) * 0 = v + pw (k + m) * c) : v' = (a' + pw k * x) * b' := by
  grind

set_option maxHeartbeats 2000000 in
theorem mul_any {A B : Option Addr} {n c m d : Nat} {a b : List Nat} {w : World} (ha : NatV w A n c a) (hb : NatV w B m d b) (hsn : n ≤ 100000) (hsm : m ≤ 100000) :
    Calls Tryd.prog 17 #[.slice A n c, .slice B m d] w (NatPost (wds (val a * val b)) w) := by
  have HA := Lib.hid ha
  have HB := Lib.hid hb
  have hmk := make_nat (n + m) (by omega)
  rw [show (((n + m : Nat) : Int)) = (n : Int) + (m : Int) from by omega] at hmk
  clear ha hb
  go_enter Tryd.func17, Tryd.ntmps17
  go_wp2_with fail
  clear hmk
  go_loopw [20] (fun i wr => ∃ (k : Nat) (o : List Nat), k ≤ n ∧ i = .int .i64 (k : Int) ∧ RowKit.Hid (o.length = n + m) ∧ RowKit.Hid (Ok o) ∧ RowKit.Hid (val o = val (a.take k) * val b) ∧ RowKit.Hid (∀ j, k + m ≤ j → wd o j = 0) ∧ RowKit.Hid (RowB wr w.heap.size o) ∧ RowKit.Hid (Below w.heap.size w wr)) (fun i _ => n - (intOf i).toNat)
  case atStart =>
    exact ⟨0, List.replicate (n + m) 0, by omega, rfl, Lib.hid (by simp), Lib.hid (ok_zero _), Lib.hid (by rw [val_zeros, List.take_zero]; simp [val]), Lib.hid fun j _ => wd_zero _ _, Lib.hid (Blk.new _ _ _), Lib.hid (below_alloc _ _)⟩
  case round =>
    obtain ⟨k, o, hk, rfl, hol, hok, hinv, hzz, hrow, hbw⟩ := hrel
    by_cases hlt : k < n
    · have HX := Lib.hid (wd_lt HA.out.ok k)
      obtain ⟨ab, aoff, rfl, hab, hac⟩ := (HA.out.below hbw.out).cell_at hlt
      have HXE : RowKit.Hid (val (a.take (k + 1)) = val (a.take k) + pw k * wd a k) := Lib.hid (val_take_succ a k)
      generalize wd a k = x at hac HX HXE
      have hx := HX.out
      obtain ⟨wo, rfl⟩ : ∃ wo : World, wo = wr := ⟨_, rfl⟩
      go_wp2_with fail
      go_loopw [8, 27] (fun cv i wr => ∃ (j cr : Nat) (o : List Nat), j ≤ m ∧ i = .int .i64 (j : Int) ∧ cv = .int .u64 (cr : Int) ∧ cr < 4294967296 ∧ RowKit.Hid (o.length = n + m) ∧ RowKit.Hid (Ok o) ∧ RowKit.Hid (val o + cr * pw (k + j) = val (a.take k) * val b + pw k * val (b.take j) * x) ∧ RowKit.Hid (∀ j, k + m ≤ j → wd o j = 0) ∧ RowKit.Hid (RowB wr w.heap.size o) ∧ RowKit.Hid (Below w.heap.size w wr)) (fun _ i _ => m - (intOf i).toNat)
      case atStart =>
        exact ⟨0, 0, o, by omega, rfl, rfl, by omega, hol, hok, Lib.hid (by rw [hinv.out, List.take_zero]; simp [val]), hzz, hrow, hbw⟩
      case round =>
        obtain ⟨j, cr, o, hj, rfl, rfl, hcr, hol, hok, hinv, hzz, hrow, hbw⟩ := hrel
        by_cases hjm : j < m
        · obtain ⟨bb, boff, rfl, hbb, hbc⟩ := (HB.out.below hbw.out).cell_at hjm
          have HY := Lib.hid (wd_lt HB.out.ok j)
          have HYE : RowKit.Hid (val (b.take (j + 1)) = val (b.take j) + pw j * wd b j) := Lib.hid (val_take_succ b j)
          generalize wd b j = y at hbc HY HYE
          have hy := HY.out
          have hc0 := RowB.cell hrow.out (i := k + j) (by rw [hol.out]; omega)
          have HO := Lib.hid (wd_lt hok.out (k + j))
          have hvs : ∀ s, val (o.set (k + j) s) + pw (k + j) * wd o (k + j) = val o + pw (k + j) * s := fun s => val_set o (k + j) s (by rw [hol.out]; omega)
          have HVS := Lib.hid hvs
          clear hvs
          generalize wd o (k + j) = old at hc0 HO HVS
          have ho := HO.out
          have hfz := Blk.frozen hrow.out
          have hsz : w.heap.size < wr.heap.size := Blk.lt hrow.out
          obtain ⟨hm1, hm2⟩ := mul_bd hx hy ho hcr
          obtain ⟨P, hP⟩ : ∃ P, P = x * y := ⟨_, rfl⟩
          have hPI : (x : Int) * (y : Int) = (P : Int) := by rw [hP, Int.natCast_mul]
          rw [← hP] at hm1 hm2
          have HP := Lib.hid hP
          clear hP
          go_wp2_with fail
          go_roundw
          case rel =>
            have hdm := Nat.div_add_mod (P + old + cr) 4294967296
            refine ⟨j + 1, (P + old + cr) / 4294967296, o.set (k + j) ((P + old + cr) % 4294967296), by omega, by go_num, rfl, by omega, Lib.hid (by rw [List.length_set]; exact hol.out), Lib.hid (ok_set hok.out _ (by omega)), Lib.hid ?_, Lib.hid ?_, Lib.hid ?_, Lib.hid (hbw.out.setCell (by simp) _)⟩
            · rw [HYE.out]
              exact mul_inner hinv.out (HVS.out _) (by rw [← HP.out]; omega)
            · intro q hq
              rw [wd_set (by rw [hol.out]; omega), if_neg (by omega)]
              exact hzz.out q hq
            · have := hrow.out.set_ (k + j) (.int .u32 (((P + old + cr) % 4294967296 : Nat) : Int))
              rwa [cellsU_set] at this
          case measure => simp [intOf]; omega
        · have hc0 := RowB.cell hrow.out (i := k + m) (by rw [hol.out]; omega)
          have hfz := Blk.frozen hrow.out
          have hsz : w.heap.size < wr.heap.size := Blk.lt hrow.out
          have HJ : RowKit.Hid (j = m) := Lib.hid (by omega)
          go_wp2_with fail
          go_roundw
          case rel =>
            refine ⟨k + 1, o.set (k + m) cr, by omega, by go_num, Lib.hid (by rw [List.length_set]; exact hol.out), Lib.hid (ok_set hok.out _ hcr), Lib.hid ?_, Lib.hid ?_, Lib.hid ?_, Lib.hid (hbw.out.setCell (by simp) _)⟩
            · have h1 := hinv.out
              rw [HJ.out, val_take_all (l := b) (k := m) (by rw [HB.out.len]; omega)] at h1
              have h2 := val_set o (k + m) cr (by rw [hol.out]; omega)
              rw [hzz.out (k + m) (Nat.le_refl _)] at h2
              rw [HXE.out]
              exact mul_outer h1 h2
            · intro q hq
              rw [wd_set (by rw [hol.out]; omega), if_neg (by omega)]
              exact hzz.out q (by omega)
            · have := hrow.out.set_ (k + m) (.int .u32 ((cr : Nat) : Int))
              rwa [cellsU_set] at this
          case measure => simp [intOf]; omega
    · have hko : k = n := by omega
      have hv : val o = val a * val b := by
        rw [hinv.out, val_take_all (l := a) (k := k) (by rw [HA.out.len]; omega)]
      have hnorm := norm_any (hrow.out.natV hok.out (by rw [hol.out]; omega))
      rw [hol.out, hv] at hnorm
      have HNORM := Lib.hid hnorm
      clear hv hko hnorm
      go_wp2_with fail
      refine (HNORM.out).mono ?_
      intro e w3 h3
      have h4 := h3.trans hbw.out
      obtain ⟨hb5, g5, rfl, hg5, hr5⟩ := h4
      go_wp2_with fail
      go_ret
      exact ⟨hb5, g5, rfl, hg5, hr5⟩

end Go.Proofs.YtgiepikoffaaiaaDoor
