/- less, minus of the reference. -/
import Derived.Test.YtgiepikoffaaiaaDoorPlus
namespace Go.Proofs.YtgiepikoffaaiaaDoor
open Go Go.RowKit

theorem dgs_len_lt {a b : Nat} (h : (dgs a).length < (dgs b).length) : a < b := by
  have h1 := val_lt8 (ok_wds8 a)
  rw [val_wds8] at h1
  obtain ⟨m, hm⟩ : ∃ m, (dgs b).length = m + 1 := ⟨(dgs b).length - 1, by omega⟩
  rcases Nat.lt_or_ge b (pw8 m) with h2 | h2
  · have := wds_len8 h2; omega
  · have h3 : pw8 (dgs a).length ≤ pw8 m := pw_le8 (by omega)
    omega
theorem dgs_top {a b q : Nat} (h : ∀ j, q + 1 ≤ j → dg8 (dgs a) j = dg8 (dgs b) j) (hlt : dg8 (dgs a) q < dg8 (dgs b) q) : a < b := by
  have := cmp_lt8 (ok_wds8 a) (i := q) (fun j hj => h j hj) hlt
  rwa [val_wds8, val_wds8] at this
theorem dgs_same {a b : Nat} (h : ∀ j, 0 ≤ j → dg8 (dgs a) j = dg8 (dgs b) j) : a = b := by
  have := cmp_eq8 fun j => h j (Nat.zero_le _)
  rwa [val_wds8, val_wds8] at this
def LessPost (v : Bool) (w : World) (e : Ending) (w' : World) : Prop := e = .returned (.bool v) ∧ Below w.heap.size w w'

set_option maxRecDepth 100000 in
set_option maxHeartbeats 2000000 in
theorem less_any {A C : Option Addr} {n c m d a b : Nat} {w : World} (hx : DigR w A n c (dgs a)) (hy : DigR w C m d (dgs b)) :
    Calls Tryd.prog 51 #[.slice A n c, .slice C m d] w (LessPost (decide (a < b)) w) := by
  have hn := hx.len
  have hm := hy.len
  have hfn := hx.few
  have hfm := hy.few
  by_cases hne : n = m
  · subst hne
    have hne2 : (((n : Nat) : Int) != (n : Int)) = false := by simp
    have HX := Lib.hid hx
    have HY := Lib.hid hy
    have HN := Lib.hid hn
    have HM := Lib.hid hm
    clear hx hy hn hm
    go_enter Tryd.func51, Tryd.ntmps51
    go_wp2_with fail
    go_loopw [5] (fun iv wr => ∃ k : Nat, k ≤ n ∧ iv = .int .i64 ((k : Int) - 1) ∧ (∃ dr, wr = w.drewN dr) ∧ RowKit.Hid (∀ j, k ≤ j → dg8 (dgs a) j = dg8 (dgs b) j)) (fun i _ => (intOf i + 1).toNat)
    case atStart => exact ⟨n, Nat.le_refl _, rfl, ⟨0, rfl⟩, Lib.hid fun j hj => by rw [wd_out8 (by rw [HN.out]; omega), wd_out8 (by rw [HM.out]; omega)]⟩
    case round =>
      obtain ⟨k, hk, rfl, ⟨dr, rfl⟩, hz⟩ := hrel
      by_cases hk0 : k = 0
      · subst hk0
        have HZ := Lib.hid (dgs_same hz.out)
        simp only [Int.natCast_zero, Int.zero_sub]
        go_wp2_with fail
        go_ret
        refine ⟨ret_bool ?_, below_drewN (Below.refl _ _) _⟩
        rw [HZ.out]; simp
      · obtain ⟨q, rfl⟩ : ∃ q, k = q + 1 := ⟨k - 1, by omega⟩
        have hq : (((q + 1 : Nat) : Int) - 1) = (q : Int) := by omega
        rw [hq]
        clear hq hk0
        obtain ⟨ab, aoff, rfl, hab, hac⟩ := HX.out.cell_at (k := q) (by omega)
        obtain ⟨bb, boff, rfl, hbb, hbc⟩ := HY.out.cell_at (k := q) (by omega)
        have hq1 : (0 : Int) ≤ (q : Int) := by omega
        have hq2 : (q : Int) < (n : Int) := by omega
        rcases Nat.lt_trichotomy (dg8 (dgs a) q) (dg8 (dgs b) q) with hlt | heq | hgt
        · have HZ := Lib.hid (decide_eq_true (dgs_top hz.out hlt))
          have c1 : (((dg8 (dgs a) q : Nat) : Int) != ((dg8 (dgs b) q : Nat) : Int)) = true := by simp; omega
          have c2 : decide (dg8 (dgs a) q < dg8 (dgs b) q) = true := decide_eq_true hlt
          clear hlt
          generalize dg8 (dgs a) q = x at *
          generalize dg8 (dgs b) q = y at *
          go_wp2_with fail
          go_quiet (fail)
          go_wp2_with fail
          go_quiet (fail)
          go_wp2_with fail
          go_ret
          refine ⟨ret_bool HZ.out.symm, ?_⟩
          exact below_drewN (below_drewN (below_drewN (Below.refl _ _) _) _) _
        · have c1 : (((dg8 (dgs a) q : Nat) : Int) != ((dg8 (dgs b) q : Nat) : Int)) = false := by simp; omega
          have HQ := Lib.hid heq
          clear heq
          generalize hxx : dg8 (dgs a) q = x at hac c1
          generalize hyy : dg8 (dgs b) q = y at hbc c1
          have HXX := Lib.hid hxx
          have HYY := Lib.hid hyy
          clear hxx hyy
          go_wp2_with fail
          go_quiet (fail)
          go_wp2_with fail
          go_roundw
          case rel => exact ⟨q, by omega, rfl, ⟨_, rfl⟩, Lib.hid fun j hj => by
            by_cases e : j = q
            · subst e; exact HQ.out
            · exact hz.out j (by omega)⟩
          case measure => simp [intOf]
        · have HZ : RowKit.Hid (decide (a < b) = false) := Lib.hid (decide_eq_false (by
            have := dgs_top (fun j hj => (hz.out j hj).symm) hgt
            omega))
          have c1 : (((dg8 (dgs a) q : Nat) : Int) != ((dg8 (dgs b) q : Nat) : Int)) = true := by simp; omega
          have c2 : decide (dg8 (dgs a) q < dg8 (dgs b) q) = false := decide_eq_false (by omega)
          clear hgt
          generalize dg8 (dgs a) q = x at *
          generalize dg8 (dgs b) q = y at *
          go_wp2_with fail
          go_quiet (fail)
          go_wp2_with fail
          go_quiet (fail)
          go_wp2_with fail
          go_ret
          refine ⟨ret_bool HZ.out.symm, ?_⟩
          exact below_drewN (below_drewN (below_drewN (Below.refl _ _) _) _) _
  · have hne2 : (((n : Nat) : Int) != (m : Int)) = true := by simp; omega
    have HV : RowKit.Hid (decide (a < b) = decide (n < m)) := Lib.hid (decide_eq_decide.2 (by
      constructor
      · intro h
        rcases Nat.lt_or_ge n m with h1 | h1
        · exact h1
        · have := dgs_len_lt (a := b) (b := a) (by rw [hn, hm]; omega)
          omega
      · intro h
        exact dgs_len_lt (by rw [hn, hm]; exact h)))
    clear hne hn hm hx hy
    go_enter Tryd.func51, Tryd.ntmps51
    go_wp2_with fail
    go_ret
    exact ⟨ret_bool (by rw [HV.out]), Below.refl _ _⟩

/-- The places of a difference. -/
structure MiS (x y : List Nat) (i br : Nat) (o : List Nat) : Prop where
  len : o.length = i
  ok : Ok8 o
  num : val8 o + val8 (y.take i) = val8 (x.take i) + br * pw8 i
theorem MiS.step {x y : List Nat} {i br : Nat} {o : List Nat} (h : MiS x y i br o) {s br' : Nat} (hs : s + dg8 y i + br = dg8 x i + 256 * br') (hl : s < 256) : MiS x y (i + 1) br' (o ++ [s]) := by
  refine ⟨by rw [List.length_append, h.len]; rfl, ok8_snoc h.ok hl, ?_⟩
  rw [val8_snoc, h.len, val_take_succ8, val_take_succ8, pw_succ8]
  have h1 := h.num
  generalize dg8 y i = p at *
  generalize dg8 x i = q at *
  have h2 : pw8 i * (s + p + br) = pw8 i * (q + 256 * br') := by rw [hs]
  grind
theorem MiS.done {a b br : Nat} {o : List Nat} (h : MiS (dgs a) (dgs b) (dgs a).length br o) (hle : b ≤ a) : val8 o = a - b := by
  have h1 := h.num
  rw [List.take_of_length_le (Nat.le_refl _), val_wds8] at h1
  have hlen : (dgs b).length ≤ (dgs a).length := by
    rcases Nat.lt_or_ge (dgs a).length (dgs b).length with h2 | h2
    · have := dgs_len_lt h2; omega
    · exact h2
  rw [List.take_of_length_le hlen, val_wds8] at h1
  have h2 := val_lt8 h.ok
  rw [h.len] at h2
  rcases Nat.eq_zero_or_pos br with rfl | hp
  · omega
  · have h3 := Nat.mul_le_mul_right (pw8 (dgs a).length) (show 1 ≤ br from hp)
    have h4 := val_lt8 (ok_wds8 a)
    rw [val_wds8] at h4
    omega

set_option maxRecDepth 100000 in
set_option maxHeartbeats 4000000 in
theorem minus_any {A C : Option Addr} {n c m d a b : Nat} {w : World} (hx : DigR w A n c (dgs a)) (hy : DigR w C m d (dgs b)) (hle : b ≤ a) :
    Calls Tryd.prog 52 #[.slice A n c, .slice C m d] w (DigPost (dgs (a - b)) w) := by
  obtain ⟨i0, hi, hy0, hy1, hy2⟩ := info_parts infoI
  have HI0 := Lib.hid hi
  have HY0 := Lib.hid hy0
  have HY1 := Lib.hid hy1
  have HY2 := Lib.hid hy2
  have hfn := hx.few
  have hfm := hy.few
  have HX := Lib.hid hx
  have HY := Lib.hid hy
  have HLE := Lib.hid hle
  clear hi hy0 hy1 hy2 hx hy hle
  go_enter Tryd.func52, Tryd.ntmps52
  go_wp2_with fail
  go_loopw [5, 6, 7] (fun ov bv iv wr => ∃ (i br k1 : Nat) (B : Option Addr) (o : List Nat), iv = .int .i64 (i : Int) ∧ bv = .int .i64 (br : Int) ∧ ov = .slice B i k1 ∧ i ≤ n ∧ br ≤ 1 ∧ RowKit.Hid (MiS (dgs a) (dgs b) i br o) ∧ RowKit.Hid (OwnD wr w.heap.size B i k1 o) ∧ RowKit.Hid (Below w.heap.size w wr)) (fun _ _ i _ => n - (intOf i).toNat)
  case atStart => exact ⟨0, 0, 0, none, [], rfl, rfl, rfl, by omega, by omega, Lib.hid ⟨rfl, ok_nil8, by simp [val8]⟩, Lib.hid (OwnD.nil _ _), Lib.hid (Below.refl _ _)⟩
  case round =>
    obtain ⟨i, br, k1, B, o, rfl, rfl, rfl, hin, hbr, hmi, hown, hbw⟩ := hrel
    have hbs := hbw.out.size
    by_cases hlt : i < n
    · obtain ⟨ab, aoff, rfl, hab, hac⟩ := (HX.out.below hbw.out).cell_at hlt
      have hxl := wd_lt8 (ok_wds8 a) i
      have hyl := wd_lt8 (ok_wds8 b) i
      have HST := Lib.hid (fun (s br' : Nat) => hmi.out.step (s := s) (br' := br'))
      by_cases hm : i < m
      · obtain ⟨bb, boff, rfl, hbb, hbc⟩ := (HY.out.below hbw.out).cell_at hm
        generalize dg8 (dgs a) i = x at *
        generalize dg8 (dgs b) i = y at *
        by_cases hneg : x < y + br
        · obtain ⟨s, hs⟩ : ∃ s, s = x + 256 - (y + br) := ⟨_, rfl⟩
          have hsi : (x : Int) - (br : Int) - (y : Int) + 256 = (s : Int) := by omega
          have hng : decide ((x : Int) - (br : Int) - (y : Int) < 0) = true := decide_eq_true (by omega)
          have hsl : s < 256 := by omega
          have HM := Lib.hid (HST.out s 1 (by omega) hsl)
          clear hs
          go_wp2_with (at_builtin; go_loud (refine wpList_oper rfl (oper_append_one (.tmp 35) (.tmp 37) 56 3 rfl w.heap.size i0 _ 8 Tryd.underlying56 HI0.out HY0.out HY1.out HY2.out rfl (by decide) (.slice B i k1) i _ (.int .i64 (s : Int)) rfl wr rfl rfl hown.out _ rfl rfl (by omega) hbs ?_)); intro A4 c4 w4 happ4)
          go_roundw
          case rel =>
            have ho := happ4.own
            rw [← cellsD_snoc] at ho
            exact ⟨i + 1, 1, c4, A4, _, by go_num, rfl, rfl, by omega, by omega, HM, Lib.hid ho, Lib.hid (hbw.out.grown happ4.grown hbw.out.size (fun g hg => (ownsRow_block hown.out hg).1))⟩
          case measure => simp [intOf]; omega
        · obtain ⟨s, hs⟩ : ∃ s, s = x - (y + br) := ⟨_, rfl⟩
          have hsi : (x : Int) - (br : Int) - (y : Int) = (s : Int) := by omega
          have hsl : s < 256 := by omega
          have HM := Lib.hid (HST.out s 0 (by omega) hsl)
          clear hs
          go_wp2_with (at_builtin; go_loud (refine wpList_oper rfl (oper_append_one (.tmp 35) (.tmp 37) 56 3 rfl w.heap.size i0 _ 8 Tryd.underlying56 HI0.out HY0.out HY1.out HY2.out rfl (by decide) (.slice B i k1) i _ (.int .i64 (s : Int)) rfl wr rfl rfl hown.out _ rfl rfl (by omega) hbs ?_)); intro A4 c4 w4 happ4)
          go_roundw
          case rel =>
            have ho := happ4.own
            rw [← cellsD_snoc] at ho
            exact ⟨i + 1, 0, c4, A4, _, by go_num, rfl, rfl, by omega, by omega, HM, Lib.hid ho, Lib.hid (hbw.out.grown happ4.grown hbw.out.size (fun g hg => (ownsRow_block hown.out hg).1))⟩
          case measure => simp [intOf]; omega
      · have hy0 : dg8 (dgs b) i = 0 := wd_out8 (by rw [HY.out.len]; omega)
        rw [hy0] at HST hyl
        clear hy0
        generalize dg8 (dgs a) i = x at *
        by_cases hneg : x < br
        · obtain ⟨s, hs⟩ : ∃ s, s = x + 256 - (br) := ⟨_, rfl⟩
          have hsi : (x : Int) - (br : Int) + 256 = (s : Int) := by omega
          have hng : decide ((x : Int) - (br : Int) < 0) = true := decide_eq_true (by omega)
          have hsl : s < 256 := by omega
          have HM := Lib.hid (HST.out s 1 (by omega) hsl)
          clear hs
          go_wp2_with (at_builtin; go_loud (refine wpList_oper rfl (oper_append_one (.tmp 35) (.tmp 37) 56 3 rfl w.heap.size i0 _ 8 Tryd.underlying56 HI0.out HY0.out HY1.out HY2.out rfl (by decide) (.slice B i k1) i _ (.int .i64 (s : Int)) rfl wr rfl rfl hown.out _ rfl rfl (by omega) hbs ?_)); intro A4 c4 w4 happ4)
          go_roundw
          case rel =>
            have ho := happ4.own
            rw [← cellsD_snoc] at ho
            exact ⟨i + 1, 1, c4, A4, _, by go_num, rfl, rfl, by omega, by omega, HM, Lib.hid ho, Lib.hid (hbw.out.grown happ4.grown hbw.out.size (fun g hg => (ownsRow_block hown.out hg).1))⟩
          case measure => simp [intOf]; omega
        · obtain ⟨s, hs⟩ : ∃ s, s = x - (br) := ⟨_, rfl⟩
          have hsi : (x : Int) - (br : Int) = (s : Int) := by omega
          have hsl : s < 256 := by omega
          have HM := Lib.hid (HST.out s 0 (by omega) hsl)
          clear hs
          go_wp2_with (at_builtin; go_loud (refine wpList_oper rfl (oper_append_one (.tmp 35) (.tmp 37) 56 3 rfl w.heap.size i0 _ 8 Tryd.underlying56 HI0.out HY0.out HY1.out HY2.out rfl (by decide) (.slice B i k1) i _ (.int .i64 (s : Int)) rfl wr rfl rfl hown.out _ rfl rfl (by omega) hbs ?_)); intro A4 c4 w4 happ4)
          go_roundw
          case rel =>
            have ho := happ4.own
            rw [← cellsD_snoc] at ho
            exact ⟨i + 1, 0, c4, A4, _, by go_num, rfl, rfl, by omega, by omega, HM, Lib.hid ho, Lib.hid (hbw.out.grown happ4.grown hbw.out.size (fun g hg => (ownsRow_block hown.out hg).1))⟩
          case measure => simp [intOf]; omega
    · have hie : i = n := by omega
      have HV : RowKit.Hid (val8 o = a - b) := Lib.hid (by
        have h1 := hmi.out
        rw [hie, ← HX.out.len] at h1
        exact h1.done HLE.out)
      have hcut := cut_any (OwnD.digR hown.out (by omega)) hmi.out.ok
      rw [HV.out] at hcut
      have HCUT := Lib.hid hcut
      clear hcut hie
      go_wp2_with fail
      refine (HCUT.out).mono ?_
      rintro e w' ⟨⟨n', rfl, hr⟩, rfl⟩
      go_wp2_with fail
      go_ret
      exact ⟨hbw.out, _, _, _, rfl, hr⟩

end Go.Proofs.YtgiepikoffaaiaaDoor
