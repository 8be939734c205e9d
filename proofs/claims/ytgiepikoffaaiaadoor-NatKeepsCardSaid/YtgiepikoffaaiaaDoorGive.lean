/- give: d is given back to a part of a row. -/
import Derived.Test.YtgiepikoffaaiaaDoorTake
import Derived.Test.YtgiepikoffaaiaaDoorOwn
namespace Go.Proofs.YtgiepikoffaaiaaDoor
open Go Go.RowKit

theorem give_step {S' S V Q x d cr s q : Nat} (h : S' + Q * cr = S + V) (h1 : s + 4294967296 * q = x + d + cr) : S' + Q * s + 4294967296 * Q * q = S + Q * x + (V + Q * d) := by
  have h2 : Q * (s + 4294967296 * q) = Q * (x + d + cr) := by rw [h1]
  grind

set_option maxRecDepth 100000 in
set_option maxHeartbeats 1000000 in
theorem give_any {B : Option Addr} {n cd g off m cc : Nat} {b l : List Nat} {w : World} (hd : NatO g w B n cd b) (hr : RowB w g l) (hm : m = n + 1) (hl : off + m ≤ l.length) (hlf : off + m ≤ 1000000) (hok : Ok l) :
    Calls Tryd.prog 61 #[.slice (some ⟨g, off, none⟩) m cc, .slice B n cd] w fun e w' => w.grownBy w' (some g) ∧ ∃ (l' : List Nat) (cr : Nat), cr ≤ 1 ∧ e = .returned (.bool ((cr : Int) != 0)) ∧ RowB w' g l' ∧ SegE off m l l' ∧ sv l' off m + pw m * cr = sv l off m + val b := by
  have HD := Lib.hid hd
  have HNV : RowKit.Hid (∀ wr : World, w.grownBy wr (some g) → NatV wr B n cd b) := Lib.hid fun wr h => (hd.grown h).keep fun b hb => ⟨hb.1, fun _ => rfl⟩
  have HM := Lib.hid hm
  have HOK := Lib.hid hok
  have hmf : m ≤ 1000000 := by omega
  have HL := Lib.hid hl
  clear hd hm hok hl
  go_enter Tryd.func61, Tryd.ntmps61
  go_wp2_with fail
  go_loopw [5, 9] (fun cv iv wr => ∃ (k cr : Nat) (l' : List Nat), k ≤ m ∧ iv = .int .i64 (k : Int) ∧ cv = .int .u32 (cr : Int) ∧ cr ≤ 1 ∧ RowKit.Hid (SegE off k l l') ∧ RowKit.Hid (sv l' off k + pw k * cr = sv l off k + val (b.take k)) ∧ RowKit.Hid (RowB wr g l') ∧ RowKit.Hid (w.grownBy wr (some g))) (fun _ i _ => m - (intOf i).toNat)
  case atStart => exact ⟨0, 0, l, by omega, rfl, rfl, by omega, Lib.hid (SegE.refl HOK.out), Lib.hid (by simp [sv, val]), Lib.hid hr, Lib.hid (World.grownBy.refl _ _)⟩
  case round =>
    obtain ⟨k, cr, l', hk, rfl, rfl, hcr, hse, hinv, hrow, hgr⟩ := hrel
    by_cases hlt : k < m
    · have hlk : off + k < l.length := by have := HL.out; omega
      have hxl := wd_lt hse.out.ok (off + k)
      have hc0 := RowB.cell hrow.out (i := off + k) (by rw [hse.out.len]; exact hlk)
      have hfz := Blk.frozen hrow.out
      have HSAME : RowKit.Hid (wd l' (off + k) = wd l (off + k)) := Lib.hid (hse.out.out _ (by omega))
      have hdl := wd_lt HD.out.ok k
      have hword := word_any ((HNV.out _ hgr.out).drewN 1) k
      have HVT := Lib.hid (val_take_succ b k)
      generalize wd l' (off + k) = x at *
      generalize wd b k = d at *
      have HWORD := Lib.hid hword
      clear hword
      obtain ⟨q, hq⟩ : ∃ q, q = (x + d + cr) / 4294967296 := ⟨_, rfl⟩
      obtain ⟨s, hs⟩ : ∃ s, s = (x + d + cr) % 4294967296 := ⟨_, rfl⟩
      have hadd := fun w => add32_any x d cr hxl hdl hcr w
      rw [← hq, ← hs] at hadd
      have HADD := Lib.hid hadd
      have hql : q ≤ 1 := by omega
      have hsl : s < 4294967296 := by omega
      have HS : RowKit.Hid (s + 4294967296 * q = x + d + cr) := Lib.hid (by omega)
      clear hq hs hadd
      go_wp2_with fail
      go_region_law
        (first
          | (go_simp; go_at_call 56; refine (HWORD.out).mono ?_; rintro e w5 ⟨rfl, rfl⟩)
          | (go_simp; go_at_call 55; refine (HADD.out _).mono ?_; rintro e w5 ⟨rfl, rfl⟩))
      all_goals
        go_wp2_with fail
        go_roundw
        case rel =>
          refine ⟨k + 1, q, l'.set (off + k) s, by omega, by go_num, rfl, hql, Lib.hid (hse.out.step hlk hsl), Lib.hid ?_, Lib.hid ?_, Lib.hid ?_⟩
          · rw [sv_set _ (by rw [hse.out.len]; exact hlk), HVT.out, sv_succ, ← HSAME.out, pw_succ]
            exact give_step hinv.out HS.out
          · have := (hrow.out.drewN 1).set_ (off + k) (.int .u32 ((s : Nat) : Int))
            rwa [cellsU_set] at this
          · exact (hgr.out.trans (grown_of_below (below_drewN (Below.refl _ _) 1) _)).trans (grown_set _ _ _ _)
        case measure => simp [intOf]; omega
    · have hke : k = m := by omega
      have HV : RowKit.Hid (sv l' off m + pw m * cr = sv l off m + val b) := Lib.hid (by
        have h1 := hinv.out
        rw [hke, val_take_all (l := b) (k := m) (by rw [HD.out.len, HM.out]; omega)] at h1
        exact h1)
      have HSE : RowKit.Hid (SegE off m l l') := Lib.hid (by rw [← hke]; exact hse.out)
      clear hke
      go_wp2_with fail
      go_ret
      exact ⟨hgr.out, l', cr, hcr, rfl, hrow.out, HSE.out, HV.out⟩

end Go.Proofs.YtgiepikoffaaiaaDoor
