/- Mul of the reference. -/
import Derived.Test.YtgiepikoffaaiaaDoorRefShift
namespace Go.Proofs.YtgiepikoffaaiaaDoor
open Go Go.RowKit

/-- The sums so far: i rows whole, j products of the next one. -/
structure MuS (x y : List Nat) (i j : Nat) (o : List Nat) : Prop where
  len : o.length = x.length + y.length
  num : val8 o = val8 (x.take i) * val8 y + pw8 i * (dg8 x i * val8 (y.take j))
  low : ∀ t, dg8 o t ≤ 65025 * (i + 1)
  high : ∀ t, i + j ≤ t → dg8 o t ≤ 65025 * i
theorem MuS.start (x y : List Nat) : MuS x y 0 0 (List.replicate (x.length + y.length) 0) :=
  ⟨by simp, by rw [val_zeros8]; simp [val8], fun t => by rw [wd_zero8]; omega, fun t _ => by rw [wd_zero8]; omega⟩
theorem MuS.row {x y : List Nat} {i : Nat} {o : List Nat} (h : MuS x y i y.length o) : MuS x y (i + 1) 0 o := by
  refine ⟨h.len, ?_, fun t => by have := h.low t; omega, fun t _ => h.low t⟩
  rw [h.num, val_take_succ8, List.take_length, List.take_zero]
  simp only [val8]
  grind
theorem MuS.step {x y : List Nat} {i j : Nat} {o : List Nat} (h : MuS x y i j o) (hx : Ok8 x) (hy : Ok8 y) (hi : i < x.length) (hj : j < y.length) : MuS x y i (j + 1) (o.set (i + j) (dg8 o (i + j) + dg8 x i * dg8 y j)) := by
  have hp : dg8 x i * dg8 y j ≤ 255 * 255 := Nat.mul_le_mul (by have := wd_lt8 hx i; omega) (by have := wd_lt8 hy j; omega)
  have hl : i + j < o.length := by rw [h.len]; omega
  refine ⟨by rw [List.length_set]; exact h.len, ?_, fun t => ?_, fun t ht => ?_⟩
  · have h1 := val_set8 o (i + j) (dg8 o (i + j) + dg8 x i * dg8 y j) hl
    rw [h.num] at h1
    rw [val_take_succ8]
    rw [pw_add8] at h1
    grind
  · rw [wd_set8 hl]
    by_cases e : t = i + j
    · rw [if_pos e]; have := h.high (i + j) (Nat.le_refl _); omega
    · rw [if_neg e]; exact h.low t
  · rw [wd_set8 hl, if_neg (by omega)]
    exact h.high t (by omega)
theorem MuS.fin {x y : List Nat} {o : List Nat} (h : MuS x y x.length 0 o) : val8 o = val8 x * val8 y := by
  rw [h.num, List.take_length, List.take_zero]
  simp [val8]
theorem Blk.digR {w : World} {g : Nat} {l : List Nat} (h : Blk w g 3 (cellsD l)) (hf : l.length ≤ 1000000) : DigR w (some ⟨g, 0, none⟩) l.length l.length l :=
  ⟨rfl, Nat.le_refl _, hf, (fun e => by cases e), fun _ => ⟨g, 0, rfl, h.lt, fun k hk => by rw [Nat.zero_add, Blk.cell h, cellsD_at l hk]⟩⟩

set_option maxRecDepth 100000 in
set_option maxHeartbeats 4000000 in
theorem refMul_num {A B : Option Addr} {n c m d x y i j : Nat} {w : World} (hx : Arg w A n c x i) (hy : Arg w B m d y j) (hi : i ≤ 300) (hj : j ≤ 300) : Calls Tryd.prog 18 #[.slice A n c, .slice B m d] w (RNatPost (x * y) w) := by
  have H := Lib.hid (digits_num hx (by omega))
  have hfx := dgs_few hx.lt
  have hfy := dgs_few hy.lt
  have HY := Lib.hid hy
  clear hx hy
  go_enter Tryd.func18, Tryd.ntmps18
  go_wp2_with fail
  refine (H.out).mono ?_
  rintro e w1 ⟨hb1, A1, n1, c1, rfl, hd1⟩
  have hl1 := hd1.len
  have H2 := Lib.hid (digits_num (HY.out.below hb1) (by omega))
  have HB1 := Lib.hid hb1
  have HD1 := Lib.hid hd1
  have hn1 : n1 ≤ 1200 := by omega
  have HL1 := Lib.hid hl1
  clear hb1 hd1 hl1
  go_wp2_with fail
  refine (H2.out).mono ?_
  rintro e w2 ⟨hb2, A2, n2, c2, rfl, hd2⟩
  have hl2 := hd2.len
  have HD12 := Lib.hid (HD1.out.below hb2)
  have HB2 := Lib.hid (HB1.out.trans (hb2.mono HB1.out.size))
  have HD2 := Lib.hid hd2
  have hn2 : n2 ≤ 1200 := by omega
  have HL2 := Lib.hid hl2
  have hmk : ∀ w : World, (Instr.makeSlice 56 (.int .i64 ((n1 : Int) + (n2 : Int))) (.int .i64 ((n1 : Int) + (n2 : Int)))).run Tryd.prog w = .ok (.slice (some ⟨w.heap.size, 0, none⟩) (n1 + n2) (n1 + n2)) (w.alloc (.cells (cellsD (List.replicate (n1 + n2) 0)) 3)) := fun w => by
    have := make_dig (n1 + n2) (by omega) w
    rwa [Int.natCast_add] at this
  clear hb2 hd2 hl2 hfx hfy
  go_wp2_with fail
  clear hmk
  have HDX : RowKit.Hid (∀ wr, Below w2.heap.size w2 wr → DigR wr A1 n1 c1 (dgs x)) := Lib.hid fun wr h => HD12.out.below h
  have HDY : RowKit.Hid (∀ wr, Below w2.heap.size w2 wr → DigR wr A2 n2 c2 (dgs y)) := Lib.hid fun wr h => HD2.out.below h
  go_loopw [8] (fun iv wr => ∃ (i : Nat) (o : List Nat), i ≤ n1 ∧ iv = .int .i64 (i : Int) ∧ RowKit.Hid (MuS (dgs x) (dgs y) i 0 o) ∧ RowKit.Hid (Blk wr w2.heap.size 3 (cellsD o)) ∧ RowKit.Hid (Below w2.heap.size w2 wr)) (fun i _ => n1 - (intOf i).toNat)
  case atStart => exact ⟨0, List.replicate (n1 + n2) 0, by omega, rfl, Lib.hid (by have := MuS.start (dgs x) (dgs y); rwa [HL1.out, HL2.out] at this), Lib.hid (Blk.new _ _ _), Lib.hid (below_alloc _ _)⟩
  case round =>
    obtain ⟨i, o, hi, rfl, hmu, hrow, hbw⟩ := hrel
    by_cases hlt : i < n1
    · obtain ⟨wo, rfl⟩ : ∃ wo : World, wo = wr := ⟨_, rfl⟩
      go_wp2_with fail
      go_loopw [9] (fun jv wr => ∃ (j : Nat) (o : List Nat), j ≤ n2 ∧ jv = .int .i64 (j : Int) ∧ RowKit.Hid (MuS (dgs x) (dgs y) i j o) ∧ RowKit.Hid (Blk wr w2.heap.size 3 (cellsD o)) ∧ RowKit.Hid (Below w2.heap.size w2 wr)) (fun j _ => n2 - (intOf j).toNat)
      case atStart => exact ⟨0, o, by omega, rfl, hmu, hrow, hbw⟩
      case round =>
        obtain ⟨j, o, hj, rfl, hmu, hrow, hbw⟩ := hrel
        by_cases hjm : j < n2
        · have HMS := Lib.hid (hmu.out.step (ok_wds8 x) (ok_wds8 y) (by rw [HL1.out]; exact hlt) (by rw [HL2.out]; exact hjm))
          have hol : o.length = n1 + n2 := by rw [hmu.out.len, HL1.out, HL2.out]
          have hlo := hmu.out.low (i + j)
          obtain ⟨xb, xo, rfl, _, hxc⟩ := (HDX.out _ hbw.out).cell_at hlt
          obtain ⟨yb, yo, rfl, _, hyc⟩ := (HDY.out _ hbw.out).cell_at hjm
          have hxl := wd_lt8 (ok_wds8 x) i
          have hyl := wd_lt8 (ok_wds8 y) j
          have hoc : wr.cell? ⟨w2.heap.size, i + j, none⟩ = some (.int .i64 ((dg8 o (i + j) : Nat) : Int)) := by rw [Blk.cell hrow.out, cellsD_at o (by omega)]
          have hfz := Blk.frozen hrow.out
          generalize dg8 (dgs x) i = xi at *
          generalize dg8 (dgs y) j = yj at *
          generalize dg8 o (i + j) = z at *
          obtain ⟨pr, hpr⟩ : ∃ pr, pr = xi * yj := ⟨_, rfl⟩
          have hpri : (xi : Int) * (yj : Int) = (pr : Int) := by rw [hpr, Int.natCast_mul]
          have hprl : pr ≤ 255 * 255 := by rw [hpr]; exact Nat.mul_le_mul (by omega) (by omega)
          rw [← hpr] at HMS
          obtain ⟨u, hu⟩ : ∃ u, u = z + pr := ⟨_, rfl⟩
          have hui : (z : Int) + (pr : Int) = (u : Int) := by omega
          rw [← hu] at HMS
          have hul : u ≤ 100000000 := by omega
          clear hpr hu hol
          have hij : (i : Int) + (j : Int) < (n1 : Int) + (n2 : Int) := by omega
          have hij0 : (0 : Int) ≤ (i : Int) + (j : Int) := by omega
          go_wp2_with fail
          go_region
          go_wp2_with fail
          go_roundw
          case rel => exact ⟨j + 1, o.set (i + j) u, by omega, by go_num, HMS, Lib.hid (by
            have := (hrow.out.drewN 1).set_ (i + j) (.int .i64 (u : Int))
            rwa [cellsD_set] at this), Lib.hid ((below_drewN hbw.out 1).setCell (by simp) _)⟩
          case measure => simp [intOf]; omega
        · have HJ : RowKit.Hid (j = n2) := Lib.hid (by omega)
          go_wp2_with fail
          go_roundw
          case rel => exact ⟨i + 1, o, by omega, by go_num, Lib.hid (by
            have := hmu.out
            rw [HJ.out, ← HL2.out] at this
            exact this.row), hrow, hbw⟩
          case measure => simp [intOf]; omega
    · have hie : i = n1 := by omega
      have HMF : RowKit.Hid (MuS (dgs x) (dgs y) (dgs x).length 0 o) := Lib.hid (by rw [HL1.out, ← hie]; exact hmu.out)
      have HV : RowKit.Hid (val8 o = x * y) := Lib.hid (by rw [HMF.out.fin, val_wds8, val_wds8])
      have hol : o.length = n1 + n2 := by rw [hmu.out.len, HL1.out, HL2.out]
      have hcd := carried_any (Blk.digR hrow.out (by omega)) (by omega) (fun k => by have := HMF.out.low k; have := HL1.out; omega)
      rw [hol, HV.out] at hcd
      have HCD := Lib.hid hcd
      have HBW := Lib.hid (HB2.out.trans (hbw.out.mono HB2.out.size))
      clear hie hol hcd
      go_wp2_with fail
      refine (HCD.out).mono ?_
      rintro e w4 ⟨hb4, A4, n4, c4, rfl, hd4⟩
      have HW := Lib.hid (words_num hd4)
      have HB4 := Lib.hid (HBW.out.trans (hb4.mono HBW.out.size))
      clear hb4 hd4
      go_wp2_with fail
      refine (HW.out).mono ?_
      rintro e w5 ⟨hb5, A5, n5, c5, rfl, hn5⟩
      go_wp2_with fail
      go_ret
      exact ⟨HB4.out.trans (hb5.mono HB4.out.size), _, _, _, rfl, hn5⟩

end Go.Proofs.YtgiepikoffaaiaaDoor
