/- minus of the reference: what comes back is a row of its own. -/
import Derived.Test.YtgiepikoffaaiaaDoorOwnPlus
import Derived.Test.YtgiepikoffaaiaaDoorLess
namespace Go.Proofs.YtgiepikoffaaiaaDoor
open Go Go.RowKit

set_option maxRecDepth 100000 in
set_option maxHeartbeats 4000000 in
theorem minus_own {A C : Option Addr} {n c m d a b : Nat} {w : World} (hx : DigR w A n c (dgs a)) (hy : DigR w C m d (dgs b)) (hle : b ≤ a) :
    Calls Tryd.prog 52 #[.slice A n c, .slice C m d] w (DigOPost (dgs (a - b)) w) := by
  obtain ⟨i0, hi, hy0, hy1, hy2⟩ := info_parts infoI
  have HI0 := Lib.hid hi
  have HY0 := Lib.hid hy0
  have HY1 := Lib.hid hy1
  have HY2 := Lib.hid hy2
  have hfn := hx.few
  have hfm := hy.few
  have HX := Lib.hid hx
  have HY := Lib.hid hy
  have HLE := Lib.hid hle
  clear hi hy0 hy1 hy2 hx hy hle
  go_enter Tryd.func52, Tryd.ntmps52
  go_wp2_with fail
  go_loopw [5, 6, 7] (fun ov bv iv wr => ∃ (i br k1 : Nat) (B : Option Addr) (o : List Nat), iv = .int .i64 (i : Int) ∧ bv = .int .i64 (br : Int) ∧ ov = .slice B i k1 ∧ i ≤ n ∧ br ≤ 1 ∧ RowKit.Hid (MiS (dgs a) (dgs b) i br o) ∧ RowKit.Hid (OwnD wr w.heap.size B i k1 o) ∧ RowKit.Hid (Below w.heap.size w wr)) (fun _ _ i _ => n - (intOf i).toNat)
  case atStart => exact ⟨0, 0, 0, none, [], rfl, rfl, rfl, by omega, by omega, Lib.hid ⟨rfl, ok_nil8, by simp [val8]⟩, Lib.hid (OwnD.nil _ _), Lib.hid (Below.refl _ _)⟩
  case round =>
    obtain ⟨i, br, k1, B, o, rfl, rfl, rfl, hin, hbr, hmi, hown, hbw⟩ := hrel
    have hbs := hbw.out.size
    by_cases hlt : i < n
    · obtain ⟨ab, aoff, rfl, hab, hac⟩ := (HX.out.below hbw.out).cell_at hlt
      have hxl := wd_lt8 (ok_wds8 a) i
      have hyl := wd_lt8 (ok_wds8 b) i
      have HST := Lib.hid (fun (s br' : Nat) => hmi.out.step (s := s) (br' := br'))
      by_cases hm : i < m
      · obtain ⟨bb, boff, rfl, hbb, hbc⟩ := (HY.out.below hbw.out).cell_at hm
        generalize dg8 (dgs a) i = x at *
        generalize dg8 (dgs b) i = y at *
        by_cases hneg : x < y + br
        · obtain ⟨s, hs⟩ : ∃ s, s = x + 256 - (y + br) := ⟨_, rfl⟩
          have hsi : (x : Int) - (br : Int) - (y : Int) + 256 = (s : Int) := by omega
          have hng : decide ((x : Int) - (br : Int) - (y : Int) < 0) = true := decide_eq_true (by omega)
          have hsl : s < 256 := by omega
          have HM := Lib.hid (HST.out s 1 (by omega) hsl)
          clear hs
          go_wp2_with (at_builtin; go_loud (refine wpList_oper rfl (oper_append_one (.tmp 35) (.tmp 37) 56 3 rfl w.heap.size i0 _ 8 Tryd.underlying56 HI0.out HY0.out HY1.out HY2.out rfl (by decide) (.slice B i k1) i _ (.int .i64 (s : Int)) rfl wr rfl rfl hown.out _ rfl rfl (by omega) hbs ?_)); intro A4 c4 w4 happ4)
          go_roundw
          case rel =>
            have ho := happ4.own
            rw [← cellsD_snoc] at ho
            exact ⟨i + 1, 1, c4, A4, _, by go_num, rfl, rfl, by omega, by omega, HM, Lib.hid ho, Lib.hid (hbw.out.grown happ4.grown hbw.out.size (fun g hg => (ownsRow_block hown.out hg).1))⟩
          case measure => simp [intOf]; omega
        · obtain ⟨s, hs⟩ : ∃ s, s = x - (y + br) := ⟨_, rfl⟩
          have hsi : (x : Int) - (br : Int) - (y : Int) = (s : Int) := by omega
          have hsl : s < 256 := by omega
          have HM := Lib.hid (HST.out s 0 (by omega) hsl)
          clear hs
          go_wp2_with (at_builtin; go_loud (refine wpList_oper rfl (oper_append_one (.tmp 35) (.tmp 37) 56 3 rfl w.heap.size i0 _ 8 Tryd.underlying56 HI0.out HY0.out HY1.out HY2.out rfl (by decide) (.slice B i k1) i _ (.int .i64 (s : Int)) rfl wr rfl rfl hown.out _ rfl rfl (by omega) hbs ?_)); intro A4 c4 w4 happ4)
          go_roundw
          case rel =>
            have ho := happ4.own
            rw [← cellsD_snoc] at ho
            exact ⟨i + 1, 0, c4, A4, _, by go_num, rfl, rfl, by omega, by omega, HM, Lib.hid ho, Lib.hid (hbw.out.grown happ4.grown hbw.out.size (fun g hg => (ownsRow_block hown.out hg).1))⟩
          case measure => simp [intOf]; omega
      · have hy0 : dg8 (dgs b) i = 0 := wd_out8 (by rw [HY.out.len]; omega)
        rw [hy0] at HST hyl
        clear hy0
        generalize dg8 (dgs a) i = x at *
        by_cases hneg : x < br
        · obtain ⟨s, hs⟩ : ∃ s, s = x + 256 - (br) := ⟨_, rfl⟩
          have hsi : (x : Int) - (br : Int) + 256 = (s : Int) := by omega
          have hng : decide ((x : Int) - (br : Int) < 0) = true := decide_eq_true (by omega)
          have hsl : s < 256 := by omega
          have HM := Lib.hid (HST.out s 1 (by omega) hsl)
          clear hs
          go_wp2_with (at_builtin; go_loud (refine wpList_oper rfl (oper_append_one (.tmp 35) (.tmp 37) 56 3 rfl w.heap.size i0 _ 8 Tryd.underlying56 HI0.out HY0.out HY1.out HY2.out rfl (by decide) (.slice B i k1) i _ (.int .i64 (s : Int)) rfl wr rfl rfl hown.out _ rfl rfl (by omega) hbs ?_)); intro A4 c4 w4 happ4)
          go_roundw
          case rel =>
            have ho := happ4.own
            rw [← cellsD_snoc] at ho
            exact ⟨i + 1, 1, c4, A4, _, by go_num, rfl, rfl, by omega, by omega, HM, Lib.hid ho, Lib.hid (hbw.out.grown happ4.grown hbw.out.size (fun g hg => (ownsRow_block hown.out hg).1))⟩
          case measure => simp [intOf]; omega
        · obtain ⟨s, hs⟩ : ∃ s, s = x - (br) := ⟨_, rfl⟩
          have hsi : (x : Int) - (br : Int) = (s : Int) := by omega
          have hsl : s < 256 := by omega
          have HM := Lib.hid (HST.out s 0 (by omega) hsl)
          clear hs
          go_wp2_with (at_builtin; go_loud (refine wpList_oper rfl (oper_append_one (.tmp 35) (.tmp 37) 56 3 rfl w.heap.size i0 _ 8 Tryd.underlying56 HI0.out HY0.out HY1.out HY2.out rfl (by decide) (.slice B i k1) i _ (.int .i64 (s : Int)) rfl wr rfl rfl hown.out _ rfl rfl (by omega) hbs ?_)); intro A4 c4 w4 happ4)
          go_roundw
          case rel =>
            have ho := happ4.own
            rw [← cellsD_snoc] at ho
            exact ⟨i + 1, 0, c4, A4, _, by go_num, rfl, rfl, by omega, by omega, HM, Lib.hid ho, Lib.hid (hbw.out.grown happ4.grown hbw.out.size (fun g hg => (ownsRow_block hown.out hg).1))⟩
          case measure => simp [intOf]; omega
    · have hie : i = n := by omega
      have HV : RowKit.Hid (val8 o = a - b) := Lib.hid (by
        have h1 := hmi.out
        rw [hie, ← HX.out.len] at h1
        exact h1.done HLE.out)
      have hcut := cut_any (OwnD.digR hown.out (by omega)) hmi.out.ok
      have HTK := Lib.hid (fun n' h => dgs_take (n := n') hmi.out.ok h)
      rw [HV.out] at hcut HTK
      have HCUT := Lib.hid hcut
      clear hcut hie
      go_wp2_with fail
      refine (HCUT.out).mono ?_
      rintro e w' ⟨⟨n', rfl, hr⟩, rfl⟩
      have HR := Lib.hid hr
      have HLE2 : RowKit.Hid (n' ≤ i) := Lib.hid (by
        have h1 := hr.len
        have h2 := val_lt8 hmi.out.ok
        have h3 := wds_len8 h2
        rw [HV.out, h1, hmi.out.len] at h3
        exact h3)
      clear hr
      go_wp2_with fail
      go_ret
      refine ⟨hbw.out, _, _, _, rfl, HR.out.few, ?_⟩
      rw [HTK.out n' HR.out.len]
      exact own_take hown.out HLE2.out

end Go.Proofs.YtgiepikoffaaiaaDoor
