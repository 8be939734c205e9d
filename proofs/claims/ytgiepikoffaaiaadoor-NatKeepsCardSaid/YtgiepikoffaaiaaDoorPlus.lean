/- plus, less, minus of the reference. -/
import Derived.Test.YtgiepikoffaaiaaDoorCarried
import Derived.Test.YtgiepikoffaaiaaDoorNum
namespace Go.Proofs.YtgiepikoffaaiaaDoor
open Go Go.RowKit

theorem val8_take_ext {a b : List Nat} (h : ∀ k, dg8 a k = dg8 b k) : val8 a = val8 b := cmp_eq8 h
/-- The places summed. -/
structure PlS (x y : List Nat) (i : Nat) (o : List Nat) : Prop where
  len : o.length = i
  num : val8 o = val8 (x.take i) + val8 (y.take i)
  small : ∀ k, dg8 o k ≤ 510
theorem dg8_snoc (o : List Nat) (s k : Nat) : dg8 (o ++ [s]) k = if k = o.length then s else dg8 o k := by
  unfold dg8
  rw [List.getD_eq_getElem?_getD, List.getD_eq_getElem?_getD, List.getElem?_append]
  split
  · rw [if_neg (by omega)]
  · by_cases e : k = o.length
    · subst e; simp
    · rw [if_neg e, List.getElem?_eq_none (by simp; omega), List.getElem?_eq_none (by omega)]
theorem PlS.step {x y : List Nat} {i : Nat} {o : List Nat} (h : PlS x y i o) (hx : dg8 x i < 256) (hy : dg8 y i < 256) : PlS x y (i + 1) (o ++ [dg8 x i + dg8 y i]) := by
  refine ⟨by rw [List.length_append, h.len]; rfl, ?_, fun k => ?_⟩
  · rw [val8_snoc, h.num, h.len, val_take_succ8, val_take_succ8, Nat.mul_add]; omega
  · rw [dg8_snoc]
    split
    · omega
    · exact h.small k

set_option maxRecDepth 100000 in
set_option maxHeartbeats 4000000 in
theorem plus_any {A C : Option Addr} {n c m d : Nat} {x y : List Nat} {w : World} (hx : DigR w A n c x) (hy : DigR w C m d y) (hox : Ok8 x) (hoy : Ok8 y) (hsn : n ≤ 40000) (hsm : m ≤ 40000) :
    Calls Tryd.prog 49 #[.slice A n c, .slice C m d] w (DigPost (dgs (val8 x + val8 y)) w) := by
  obtain ⟨i0, hi, hy0, hy1, hy2⟩ := info_parts infoI
  have HI0 := Lib.hid hi
  have HY0 := Lib.hid hy0
  have HY1 := Lib.hid hy1
  have HY2 := Lib.hid hy2
  have HX := Lib.hid hx
  have HY := Lib.hid hy
  have HOX := Lib.hid hox
  have HOY := Lib.hid hoy
  clear hi hy0 hy1 hy2 hx hy hox hoy
  go_enter Tryd.func49, Tryd.ntmps49
  go_wp2_with fail
  go_loopw [5, 6] (fun ov iv wr => ∃ (i k1 : Nat) (B : Option Addr) (o : List Nat), iv = .int .i64 (i : Int) ∧ ov = .slice B i k1 ∧ i ≤ max n m ∧ RowKit.Hid (PlS x y i o) ∧ RowKit.Hid (OwnD wr w.heap.size B i k1 o) ∧ RowKit.Hid (Below w.heap.size w wr)) (fun _ i _ => max n m - (intOf i).toNat)
  case atStart => exact ⟨0, 0, none, [], rfl, rfl, by omega, Lib.hid ⟨rfl, by simp [val8], fun k => by simp [dg8]⟩, Lib.hid (OwnD.nil _ _), Lib.hid (Below.refl _ _)⟩
  case round =>
    obtain ⟨i, k1, B, o, rfl, rfl, him, hpl, hown, hbw⟩ := hrel
    have hbs := hbw.out.size
    have hxl := wd_lt8 HOX.out i
    have hyl := wd_lt8 HOY.out i
    have HST := Lib.hid (hpl.out.step hxl hyl)
    by_cases hn : i < n
    · obtain ⟨ab, aoff, rfl, hab, hac⟩ := (HX.out.below hbw.out).cell_at hn
      by_cases hm : i < m
      · obtain ⟨bb, boff, rfl, hbb, hbc⟩ := (HY.out.below hbw.out).cell_at hm
        generalize dg8 x i = p at *
        generalize dg8 y i = q at *
        obtain ⟨s, hs⟩ : ∃ s, s = p + q := ⟨_, rfl⟩
        have hsi : (p : Int) + (q : Int) = (s : Int) := by omega
        rw [← hs] at HST
        clear hs
        go_wp2_with (at_builtin; go_loud (refine wpList_oper rfl (oper_append_one (.tmp 40) (.tmp 42) 56 3 rfl w.heap.size i0 _ 8 Tryd.underlying56 HI0.out HY0.out HY1.out HY2.out rfl (by decide) (.slice B i k1) i _ (.int .i64 (s : Int)) rfl wr rfl rfl hown.out _ rfl rfl (by omega) hbs ?_)); intro A4 c4 w4 happ4)
        go_roundw
        case rel =>
          have ho := happ4.own
          rw [← cellsD_snoc] at ho
          exact ⟨i + 1, c4, A4, _, by go_num, rfl, by omega, HST, Lib.hid ho, Lib.hid (hbw.out.grown happ4.grown hbw.out.size (fun g hg => (ownsRow_block hown.out hg).1))⟩
        case measure => simp [intOf]; omega
      · have hy0 : dg8 y i = 0 := wd_out8 (by rw [HY.out.len]; omega)
        rw [hy0, Nat.add_zero] at HST
        clear hy0 hyl
        generalize dg8 x i = p at *
        go_wp2_with (at_builtin; go_loud (refine wpList_oper rfl (oper_append_one (.tmp 40) (.tmp 42) 56 3 rfl w.heap.size i0 _ 8 Tryd.underlying56 HI0.out HY0.out HY1.out HY2.out rfl (by decide) (.slice B i k1) i _ (.int .i64 (p : Int)) rfl wr rfl rfl hown.out _ rfl rfl (by omega) hbs ?_)); intro A4 c4 w4 happ4)
        go_roundw
        case rel =>
          have ho := happ4.own
          rw [← cellsD_snoc] at ho
          exact ⟨i + 1, c4, A4, _, by go_num, rfl, by omega, HST, Lib.hid ho, Lib.hid (hbw.out.grown happ4.grown hbw.out.size (fun g hg => (ownsRow_block hown.out hg).1))⟩
        case measure => simp [intOf]; omega
    · have hx0 : dg8 x i = 0 := wd_out8 (by rw [HX.out.len]; omega)
      rw [hx0, Nat.zero_add] at HST
      clear hx0 hxl
      by_cases hm : i < m
      · obtain ⟨bb, boff, rfl, hbb, hbc⟩ := (HY.out.below hbw.out).cell_at hm
        generalize dg8 y i = q at *
        go_wp2_with (at_builtin; go_loud (refine wpList_oper rfl (oper_append_one (.tmp 40) (.tmp 42) 56 3 rfl w.heap.size i0 _ 8 Tryd.underlying56 HI0.out HY0.out HY1.out HY2.out rfl (by decide) (.slice B i k1) i _ (.int .i64 (q : Int)) rfl wr rfl rfl hown.out _ rfl rfl (by omega) hbs ?_)); intro A4 c4 w4 happ4)
        go_roundw
        case rel =>
          have ho := happ4.own
          rw [← cellsD_snoc] at ho
          exact ⟨i + 1, c4, A4, _, by go_num, rfl, by omega, HST, Lib.hid ho, Lib.hid (hbw.out.grown happ4.grown hbw.out.size (fun g hg => (ownsRow_block hown.out hg).1))⟩
        case measure => simp [intOf]; omega
      · have HV : RowKit.Hid (val8 o = val8 x + val8 y) := Lib.hid (by
          rw [hpl.out.num, List.take_of_length_le (by rw [HX.out.len]; omega), List.take_of_length_le (by rw [HY.out.len]; omega)])
        have hcar := carried_any (OwnD.digR hown.out (by omega)) (by omega) (fun k => Nat.le_trans (hpl.out.small k) (by decide))
        rw [HV.out] at hcar
        have HCAR := Lib.hid hcar
        clear hcar
        go_wp2_with fail
        refine (HCAR.out).mono ?_
        rintro e w5 ⟨hb5, A5, n5, c5, rfl, hr5⟩
        go_wp2_with fail
        go_ret
        exact ⟨hbw.out.trans (hb5.mono hbw.out.size), A5, n5, c5, rfl, hr5⟩

end Go.Proofs.YtgiepikoffaaiaaDoor
