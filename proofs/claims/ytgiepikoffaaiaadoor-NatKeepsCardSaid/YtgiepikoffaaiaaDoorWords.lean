/- Words of the reference: the words of digits of base 256. -/
import Derived.Test.YtgiepikoffaaiaaDoorDigits
import Derived.Test.YtgiepikoffaaiaaDoorLowered
import Derived.Test.YtgiepikoffaaiaaDoorHeldF
import Derived.IntWalk
namespace Go.Proofs.YtgiepikoffaaiaaDoor
open Go Go.RowKit

theorem own_set {w : World} {base g n c : Nat} {e : TypeId} {xs : List Value} (h : w.ownsRow base e 1 (.slice (some ⟨g, 0, none⟩) n c) n xs) (i : Nat) (u : Value) : (w.setCell ⟨g, i, none⟩ u).ownsRow base e 1 (.slice (some ⟨g, 0, none⟩) n c) n (xs.set i u) := by
  obtain ⟨hl, hc⟩ := h
  refine ⟨by simpa using hl, .inr ?_⟩
  rcases hc with ⟨h1, _⟩ | ⟨g', cap, cur, hv, hg, hh, h1, h2, h3, h4⟩
  · cases h1
  · injection hv with e1 e2 e3
    injection e1 with e1
    injection e1 with e1
    subst e1 e3
    refine ⟨g, c, cur.setIfInBounds i u, rfl, hg, ?_, h1, h2, by simpa using h3, ?_⟩
    · have hb : Blk w g e cur := hh
      exact hb.set_ i u
    · rw [Array.toList_setIfInBounds, List.take_set, h4]
theorem OwnU.set {w : World} {base g n c : Nat} {l : List Nat} (h : OwnU w base (some ⟨g, 0, none⟩) n c l) (i x : Nat) : OwnU (w.setCell ⟨g, i, none⟩ (.int .u32 (x : Int))) base (some ⟨g, 0, none⟩) n c (l.set i x) := by
  have := own_set h i (.int .u32 (x : Int))
  rwa [← Array.toList_setIfInBounds, cellsU_set] at this
theorem OwnU.row {w : World} {base n c : Nat} {A : Option Addr} {l : List Nat} (h : OwnU w base A n c l) (hn : 0 < n) : ∃ g cur, A = some ⟨g, 0, none⟩ ∧ base ≤ g ∧ Blk w g 34 cur := by
  obtain ⟨_, hcase⟩ := h
  rcases hcase with ⟨_, h2⟩ | ⟨g, cap', cur, hv, hg, hh, _⟩
  · omega
  · injection hv with e1
    exact ⟨g, cur, e1, hg, hh⟩
theorem OwnU.cell {w : World} {base n c g : Nat} {l : List Nat} (h : OwnU w base (some ⟨g, 0, none⟩) n c l) {k : Nat} (hk : k < n) : w.cell? ⟨g, k, none⟩ = some (.int .u32 ((wd l k : Nat) : Int)) := by
  have hln : l.length = n := by have := h.1; simpa [cellsU] using this
  rw [h.cellAt k (by omega), Array.getElem?_toList, cellsU_at l (by omega)]

/-- Words of the first i digits. -/
structure WdS (ds : List Nat) (i : Nat) (o : List Nat) : Prop where
  len : o.length = (i + 3) / 4
  ok : Ok o
  num : val o = val8 (ds.take i)
/-- .. with room for the next digit. -/
structure WdR (ds : List Nat) (q r : Nat) (o : List Nat) : Prop where
  len : o.length = q + 1
  ok : Ok o
  num : val o = val8 (ds.take (4 * q + r))
theorem WdS.room0 {ds : List Nat} {q : Nat} {o : List Nat} (h : WdS ds (4 * q) o) : WdR ds q 0 (o ++ [0]) := by
  refine ⟨by rw [List.length_append, h.len]; simp; omega, fun x hx => ?_, ?_⟩
  · rcases List.mem_append.1 hx with h1 | h1
    · exact h.ok x h1
    · rw [List.mem_singleton] at h1; omega
  · rw [val_append, h.num]; simp [val]
theorem WdS.room {ds : List Nat} {q r : Nat} {o : List Nat} (h : WdS ds (4 * q + r) o) (h0 : 0 < r) (h4 : r < 4) : WdR ds q r o := ⟨by rw [h.len]; omega, h.ok, h.num⟩
theorem val8_take_lt {ds : List Nat} (h : Ok8 ds) (i : Nat) : val8 (ds.take i) < pw8 i := by
  have h1 := val_lt8 (ok_take8 h i)
  have h2 : pw8 (ds.take i).length ≤ pw8 i := pw_le8 (by rw [List.length_take]; omega)
  omega
theorem WdR.low {ds : List Nat} (hd : Ok8 ds) {q r : Nat} {o : List Nat} (h : WdR ds q r o) : wd o q < 256 ^ r := by
  have h1 := wd_val h.ok q
  have h2 := val8_take_lt hd (4 * q + r)
  rw [← h.num, pw_add8, pw8_word] at h2
  have h3 : val o / pw q < pw8 r := by
    rw [Nat.div_lt_iff_lt_mul (pw_pos q), Nat.mul_comm]
    exact h2
  have h4 : val o / pw q % 4294967296 ≤ val o / pw q := Nat.mod_le _ _
  unfold pw8 at h3
  omega
theorem WdR.step {ds : List Nat} (hd : Ok8 ds) {q r : Nat} (hr : r < 4) {o : List Nat} (h : WdR ds q r o) : wd o q + dg8 ds (4 * q + r) * 256 ^ r < 4294967296 ∧ WdS ds (4 * q + r + 1) (o.set q (wd o q + dg8 ds (4 * q + r) * 256 ^ r)) := by
  have h1 := h.low hd
  have h2 := wd_lt8 hd (4 * q + r)
  have h3 : wd o q + dg8 ds (4 * q + r) * 256 ^ r < 256 ^ (r + 1) := by
    rw [Nat.pow_succ]
    have := Nat.mul_le_mul_right (256 ^ r) (show dg8 ds (4 * q + r) ≤ 255 by omega)
    omega
  have h4 : 256 ^ (r + 1) ≤ 256 ^ 4 := Nat.pow_le_pow_right (by decide) (by omega)
  have h5 : wd o q + dg8 ds (4 * q + r) * 256 ^ r < 4294967296 := Nat.lt_of_lt_of_le h3 h4
  refine ⟨h5, by rw [List.length_set, h.len]; omega, ok_set h.ok _ h5, ?_⟩
  have h6 := val_set o q (wd o q + dg8 ds (4 * q + r) * 256 ^ r) (by rw [h.len]; omega)
  rw [val_take_succ8, ← h.num, pw_add8, pw8_word]
  unfold pw8
  generalize dg8 ds (4 * q + r) = d at *
  generalize wd o q = x at *
  generalize 256 ^ r = R at *
  rw [Nat.mul_add] at h6
  have e : pw q * (d * R) = pw q * R * d := by rw [Nat.mul_comm d R, Nat.mul_assoc]
  omega
theorem dgs_low {v m : Nat} (h : (dgs v).length = m + 1) : pw8 m ≤ v := by
  rcases Nat.lt_or_ge v (pw8 m) with h1 | h1
  · have := wds_len8 h1; omega
  · exact h1
theorem WdS.done {v : Nat} {o : List Nat} (h : WdS (dgs v) (dgs v).length o) : o = wds v := by
  have hv : val o = v := by rw [h.num, List.take_of_length_le (Nat.le_refl _), val_wds8]
  rw [← hv]
  symm
  refine wds_val h.ok ?_
  by_cases h0 : o.length = 0
  · left; exact List.eq_nil_of_length_eq_zero h0
  · right
    intro hz
    obtain ⟨m, hm⟩ : ∃ m, (dgs v).length = m + 1 := ⟨(dgs v).length - 1, by have := h.len; omega⟩
    have h1 := dgs_low hm
    have h2 := h.len
    rw [hm] at h2
    have hq : o.length - 1 = m / 4 := by omega
    rw [hq] at hz
    have h3 := val_take_succ o (m / 4)
    rw [hz, val_take_all (by omega), Nat.mul_zero, Nat.add_zero] at h3
    have h4 := val_lt (ok_take h.ok (m / 4))
    have h5 : pw (o.take (m / 4)).length ≤ pw (m / 4) := pw_le (by rw [List.length_take]; omega)
    have h6 : pw (m / 4) ≤ pw8 m := by rw [← pw8_word]; exact pw_le8 (by omega)
    omega

set_option linter.unusedSimpArgs false in
set_option maxRecDepth 100000 in
set_option maxHeartbeats 4000000 in
theorem words_any {A : Option Addr} {n c : Nat} {l : List Nat} {w : World} (hd : DigR w A n c l) (ho : Ok8 l) :
    Calls Tryd.prog 53 #[.slice A n c] w (RNatPost (val8 l) w) := by
  obtain ⟨i0, hi, hy0, hy1, hy2⟩ := info_parts infoU
  have HI0 := Lib.hid hi
  have HY0 := Lib.hid hy0
  have HY1 := Lib.hid hy1
  have HY2 := Lib.hid hy2
  have HCUT := Lib.hid (cut_any hd ho)
  clear hi hy0 hy1 hy2 hd ho
  generalize val8 l = v at *
  go_enter Tryd.func53, Tryd.ntmps53
  go_wp2_with fail
  refine (HCUT.out).mono ?_
  rintro e w' ⟨⟨m, rfl, hr⟩, rfl⟩
  have HD := Lib.hid hr
  have hml := hr.few
  have HO : RowKit.Hid (Ok8 (dgs v)) := Lib.hid (ok_wds8 v)
  have HLEN := Lib.hid hr.len
  clear hr
  go_wp2_with fail
  go_loopw [3, 4] (fun ov iv wr => ∃ (i L k1 : Nat) (B : Option Addr) (o : List Nat), i ≤ m ∧ iv = .int .i64 (i : Int) ∧ ov = .slice B L k1 ∧ L ≤ 500000 ∧ RowKit.Hid (WdS (dgs v) i o) ∧ RowKit.Hid (OwnU wr w.heap.size B L k1 o) ∧ RowKit.Hid (Below w.heap.size w wr)) (fun _ i _ => m - (intOf i).toNat)
  case atStart => exact ⟨0, 0, 0, some ⟨w.heap.size, 0, none⟩, [], by omega, rfl, rfl, by omega, Lib.hid ⟨rfl, ok_nil, by simp [val8, val]⟩, Lib.hid (own_new (Blk.new w _ _) (Nat.le_refl _) (by decide)), Lib.hid (below_alloc _ _)⟩
  case round =>
    obtain ⟨i, L, k1, B, o, him, rfl, rfl, hL, hwd, hown, hbw⟩ := hrel
    have HLL : RowKit.Hid (L = (i + 3) / 4) := Lib.hid (by
      have h1 := hwd.out.len
      have h2 := hown.out.1
      simp [cellsU] at h2
      omega)
    by_cases hlt : i < m
    · obtain ⟨db, doff, rfl, hdb, hdc⟩ := (HD.out.below hbw.out).cell_at hlt
      obtain ⟨q, hq⟩ : ∃ q, q = i / 4 := ⟨_, rfl⟩
      have r4 : i = 4 * q + 0 ∨ i = 4 * q + 1 ∨ i = 4 * q + 2 ∨ i = 4 * q + 3 := by omega
      have hbs := hbw.out.size
      have hql : q ≤ 250000 := by omega
      have hdl := wd_lt8 HO.out i
      clear hq
      rcases r4 with rfl | rfl | rfl | rfl
      · have hLq := HLL.out
        have hLq2 : L = q := by omega
        subst hLq2
        have HWR := Lib.hid (WdS.room0 (q := L) hwd.out)
        have hs2 : (((4 * L + 0 : Nat) : Int)).tmod 4 = 0 := by rw [Int.tmod_eq_emod_of_nonneg (by omega)]; omega
        clear hLq
        obtain ⟨i, hi⟩ : ∃ i, i = 4 * L + 0 := ⟨_, rfl⟩
        rw [← hi] at hdc hdl him hlt
        have hq1 : (i : Int) / 4 = (L : Int) := by omega
        have hq2 : (i : Int) % 4 = 0 := by omega
        have HI := Lib.hid hi
        rw [← hi]
        clear hi hs2
        go_wp2_with (at_builtin; go_loud (refine wpList_oper rfl (oper_append_one (.tmp 17) (.tmp 18) 23 34 rfl w.heap.size i0 _ 4 Tryd.underlying23 HI0.out HY0.out HY1.out HY2.out rfl (by decide) (.slice B L k1) L _ (.int .u32 0) rfl wr rfl rfl hown.out _ rfl rfl (by omega) hbs ?_)); intro A4 c4 w4 happ4)
        have ho4 : OwnU w4 w.heap.size A4 (L + 1) c4 (o ++ [0]) := by
          have := happ4.own
          have e : (cellsU (o ++ [0])).toList = (cellsU o).toList ++ [.int .u32 0] := by simp [cellsU]
          rw [← e] at this
          exact this
        have hb4 := hbw.out.grown happ4.grown hbs (fun g hg => (ownsRow_block hown.out hg).1)
        have hdc4 : w4.cell? ⟨db, doff + i, none⟩ = some (.int .i64 ((dg8 (dgs v) i : Nat) : Int)) := by
          obtain ⟨b2, o2, e2, hb2, hm2⟩ := HD.out.mem (by omega)
          injection e2 with e2; injection e2 with e3 e4; subst e3 e4
          rw [hb4.cell (p := ⟨db, doff + i, none⟩) hb2]; exact hm2 i hlt
        obtain ⟨g, cur, rfl, hg, hblk⟩ := OwnU.row ho4 (by omega)
        have hxc := OwnU.cell ho4 (k := L) (by omega)
        have hfz := hblk.frozen
        obtain ⟨hz1, hz2⟩ := HWR.out.step HO.out (by omega)
        rw [← HI.out] at hz1 hz2
        have hxl := wd_lt HWR.out.ok L
        simp only [Nat.reducePow, Nat.mul_one] at hz1 hz2
        have HZ2 := Lib.hid hz2
        have HOW := Lib.hid ho4
        have HBW := Lib.hid hb4
        clear hz2
        generalize dg8 (dgs v) i = d at *
        generalize wd (o ++ [0]) L = x at *
        obtain ⟨z, hz⟩ : ∃ z, z = x + d := ⟨_, rfl⟩
        have hs3 : (i : Int).tdiv 4 = (L : Int) := by rw [Int.tdiv_eq_ediv_of_nonneg (by omega)]; exact hq1
        have hs4 : (i : Int).tmod 4 = 0 := by rw [Int.tmod_eq_emod_of_nonneg (by omega)]; exact hq2
        have hs5 : IntKind.i64.wrap (L : Int) = (L : Int) := IntWalk.i64_in _ (by omega)
        have hs6 : IntKind.u32.wrap (d : Int) = (d : Int) := by rw [IntKind.wrap_u32]; omega
        have hs8 : IntKind.u32.wrap ((x : Int) + (d : Int)) = (z : Int) := by rw [IntKind.wrap_u32]; omega
        have hs9 : IntKind.i64.wrap 0 = 0 := IntWalk.i64_in _ (by omega)
        have hs10 : IntKind.u64.wrap 0 = 0 := by rw [IntKind.wrap_u64]; omega
        have hs11 : (L : Int) < (L : Int) + 1 := by omega
        have hs12 : (i : Int) < (m : Int) := by omega
        have HZ := Lib.hid hz
        have hqn : (0 : Int) ≤ (L : Int) := by omega
        clear hz hq1 hq2
        go_wp2_with fail
        refine wp_region_noPanic ?_
        refine wp_region_E 20 (fun w' => w'.cell? ⟨g, L, none⟩ = some (.int .u32 (x : Int)) ∧ w'.cell? ⟨db, doff + i, none⟩ = some (.int .i64 (d : Int))) (by rfl) ⟨hxc, hdc4⟩ (fun hS0 => ?_)
        refine wpAnyE_take' (i := 0) (v := ?_) rfl (by kernel_rfl) (by kernel_rfl) (by kernel_rfl) (by kernel_rfl) (by kernel_rfl) (fun _ _ _ h => h) (Or.inl ⟨by rfl, ?_⟩) (by assumption) ?_
        rotate_left
        · (intro w hSw; (try dsimp only at hSw); go_simp); all_goals with_reducible rfl
        try simp only [Act.put, List.getElem_toArray, List.getElem_cons_zero, List.getElem_cons_succ, List.setIfInBounds_toArray, List.set_cons_zero, List.set_cons_succ]
        refine wpAnyE_take' (i := 1) (v := ?_) rfl (by kernel_rfl) (by kernel_rfl) (by kernel_rfl) (by kernel_rfl) (by kernel_rfl) (fun _ _ _ h => h) (Or.inl ⟨by rfl, ?_⟩) (by assumption) ?_
        rotate_left
        · (intro w hSw; (try dsimp only at hSw); go_simp); all_goals with_reducible rfl
        try simp only [Act.put, List.getElem_toArray, List.getElem_cons_zero, List.getElem_cons_succ, List.setIfInBounds_toArray, List.set_cons_zero, List.set_cons_succ]
        refine wpAnyE_take' (i := 2) (v := ?_) rfl (by kernel_rfl) (by kernel_rfl) (by kernel_rfl) (by kernel_rfl) (by kernel_rfl) (fun _ _ _ h => h) (Or.inl ⟨by rfl, ?_⟩) (by assumption) ?_
        rotate_left
        · (intro w hSw; (try dsimp only at hSw); go_simp); all_goals with_reducible rfl
        try simp only [Act.put, List.getElem_toArray, List.getElem_cons_zero, List.getElem_cons_succ, List.setIfInBounds_toArray, List.set_cons_zero, List.set_cons_succ]
        refine wpAnyE_take' (i := 3) (v := ?_) rfl (by kernel_rfl) (by kernel_rfl) (by kernel_rfl) (by kernel_rfl) (by kernel_rfl) (fun _ _ _ h => h) (Or.inl ⟨by rfl, ?_⟩) (by assumption) ?_
        rotate_left
        · (intro w hSw; (try dsimp only at hSw); go_simp); all_goals with_reducible rfl
        try simp only [Act.put, List.getElem_toArray, List.getElem_cons_zero, List.getElem_cons_succ, List.setIfInBounds_toArray, List.set_cons_zero, List.set_cons_succ]
        refine wpAnyE_take' (i := 4) (v := ?_) rfl (by kernel_rfl) (by kernel_rfl) (by kernel_rfl) (by kernel_rfl) (by kernel_rfl) (fun _ _ _ h => h) (Or.inl ⟨by rfl, ?_⟩) (by assumption) ?_
        rotate_left
        · (intro w hSw; (try dsimp only at hSw); go_simp); all_goals with_reducible rfl
        try simp only [Act.put, List.getElem_toArray, List.getElem_cons_zero, List.getElem_cons_succ, List.setIfInBounds_toArray, List.set_cons_zero, List.set_cons_succ]
        refine wpAnyE_take' (i := 5) (v := ?_) rfl (by kernel_rfl) (by kernel_rfl) (by kernel_rfl) (by kernel_rfl) (by kernel_rfl) (fun _ _ _ h => h) (Or.inl ⟨by rfl, ?_⟩) (by assumption) ?_
        rotate_left
        · (intro w hSw; (try dsimp only at hSw); go_simp); all_goals with_reducible rfl
        try simp only [Act.put, List.getElem_toArray, List.getElem_cons_zero, List.getElem_cons_succ, List.setIfInBounds_toArray, List.set_cons_zero, List.set_cons_succ]
        refine wpAnyE_take' (i := 6) (v := ?_) rfl (by kernel_rfl) (by kernel_rfl) (by kernel_rfl) (by kernel_rfl) (by kernel_rfl) (fun _ _ _ h => h) (Or.inl ⟨by rfl, ?_⟩) (by assumption) ?_
        rotate_left
        · (intro w hSw; (try dsimp only at hSw); go_simp); all_goals with_reducible rfl
        try simp only [Act.put, List.getElem_toArray, List.getElem_cons_zero, List.getElem_cons_succ, List.setIfInBounds_toArray, List.set_cons_zero, List.set_cons_succ]
        refine wpAnyE_take' (i := 7) (v := ?_) rfl (by kernel_rfl) (by kernel_rfl) (by kernel_rfl) (by kernel_rfl) (by kernel_rfl) (fun _ _ _ h => h) (Or.inl ⟨by rfl, ?_⟩) (by assumption) ?_
        rotate_left
        · (intro w hSw; (try dsimp only at hSw); go_simp); all_goals with_reducible rfl
        try simp only [Act.put, List.getElem_toArray, List.getElem_cons_zero, List.getElem_cons_succ, List.setIfInBounds_toArray, List.set_cons_zero, List.set_cons_succ]
        refine wpAnyE_take' (i := 8) (v := ?_) rfl (by kernel_rfl) (by kernel_rfl) (by kernel_rfl) (by kernel_rfl) (by kernel_rfl) (fun _ _ _ h => h) (Or.inl ⟨by rfl, ?_⟩) (by assumption) ?_
        rotate_left
        · (intro w hSw; (try dsimp only at hSw); go_simp); all_goals with_reducible rfl
        try simp only [Act.put, List.getElem_toArray, List.getElem_cons_zero, List.getElem_cons_succ, List.setIfInBounds_toArray, List.set_cons_zero, List.set_cons_succ]
        refine wpAnyE_take' (i := 9) (v := ?_) rfl (by kernel_rfl) (by kernel_rfl) (by kernel_rfl) (by kernel_rfl) (by kernel_rfl) (fun _ _ _ h => h) (Or.inl ⟨by rfl, ?_⟩) (by assumption) ?_
        rotate_left
        · (intro w hSw; (try dsimp only at hSw); go_simp); all_goals with_reducible rfl
        try simp only [Act.put, List.getElem_toArray, List.getElem_cons_zero, List.getElem_cons_succ, List.setIfInBounds_toArray, List.set_cons_zero, List.set_cons_succ]
        refine wpAnyE_take' (i := 10) (v := ?_) rfl (by kernel_rfl) (by kernel_rfl) (by kernel_rfl) (by kernel_rfl) (by kernel_rfl) (fun _ _ _ h => h) (Or.inl ⟨by rfl, ?_⟩) (by assumption) ?_
        rotate_left
        · (intro w hSw; (try dsimp only at hSw); go_simp); all_goals with_reducible rfl
        try simp only [Act.put, List.getElem_toArray, List.getElem_cons_zero, List.getElem_cons_succ, List.setIfInBounds_toArray, List.set_cons_zero, List.set_cons_succ]
        refine wpAnyE_take' (i := 11) (v := ?_) rfl (by kernel_rfl) (by kernel_rfl) (by kernel_rfl) (by kernel_rfl) (by kernel_rfl) (fun _ _ _ h => h) (Or.inl ⟨by rfl, ?_⟩) (by assumption) ?_
        rotate_left
        · (intro w hSw; (try dsimp only at hSw); go_simp); all_goals with_reducible rfl
        try simp only [Act.put, List.getElem_toArray, List.getElem_cons_zero, List.getElem_cons_succ, List.setIfInBounds_toArray, List.set_cons_zero, List.set_cons_succ]
        refine wpAnyE_take' (i := 12) (v := ?_) rfl (by kernel_rfl) (by kernel_rfl) (by kernel_rfl) (by kernel_rfl) (by kernel_rfl) (fun _ _ _ h => h) (Or.inl ⟨by rfl, ?_⟩) (by assumption) ?_
        rotate_left
        · (intro w hSw; (try dsimp only at hSw); go_simp); all_goals with_reducible rfl
        try simp only [Act.put, List.getElem_toArray, List.getElem_cons_zero, List.getElem_cons_succ, List.setIfInBounds_toArray, List.set_cons_zero, List.set_cons_succ]
        refine wpAnyE_take' (i := 13) (v := ?_) rfl (by kernel_rfl) (by kernel_rfl) (by kernel_rfl) (by kernel_rfl) (by kernel_rfl) (fun _ _ _ h => h) (Or.inl ⟨by rfl, ?_⟩) (by assumption) ?_
        rotate_left
        · (intro w hSw; (try dsimp only at hSw); go_simp); all_goals with_reducible rfl
        try simp only [Act.put, List.getElem_toArray, List.getElem_cons_zero, List.getElem_cons_succ, List.setIfInBounds_toArray, List.set_cons_zero, List.set_cons_succ]
        refine wpAnyE_take' (i := 14) (v := ?_) rfl (by kernel_rfl) (by kernel_rfl) (by kernel_rfl) (by kernel_rfl) (by kernel_rfl) (fun _ _ _ h => h) (Or.inl ⟨by rfl, ?_⟩) (by assumption) ?_
        rotate_left
        · (intro w hSw; (try dsimp only at hSw); go_simp); all_goals with_reducible rfl
        try simp only [Act.put, List.getElem_toArray, List.getElem_cons_zero, List.getElem_cons_succ, List.setIfInBounds_toArray, List.set_cons_zero, List.set_cons_succ]
        refine wpAnyE_take' (i := 15) (v := ?_) rfl (by kernel_rfl) (by kernel_rfl) (by kernel_rfl) (by kernel_rfl) (by kernel_rfl) (fun _ _ _ h => h) (Or.inl ⟨by rfl, ?_⟩) (by assumption) ?_
        rotate_left
        · (intro w hSw; (try dsimp only at hSw); go_simp); all_goals with_reducible rfl
        try simp only [Act.put, List.getElem_toArray, List.getElem_cons_zero, List.getElem_cons_succ, List.setIfInBounds_toArray, List.set_cons_zero, List.set_cons_succ]
        refine wpAnyE_take' (i := 16) (v := ?_) rfl (by kernel_rfl) (by kernel_rfl) (by kernel_rfl) (by kernel_rfl) (by kernel_rfl) (fun _ _ _ h => h) (Or.inl ⟨by rfl, ?_⟩) (by assumption) ?_
        rotate_left
        · (intro w hSw; (try dsimp only at hSw); go_simp); all_goals with_reducible rfl
        try simp only [Act.put, List.getElem_toArray, List.getElem_cons_zero, List.getElem_cons_succ, List.setIfInBounds_toArray, List.set_cons_zero, List.set_cons_succ]
        refine wpAnyE_take' (i := 17) (v := ?_) rfl (by kernel_rfl) (by kernel_rfl) (by kernel_rfl) (by kernel_rfl) (by kernel_rfl) (fun _ _ _ h => h) (Or.inl ⟨by rfl, ?_⟩) (by assumption) ?_
        rotate_left
        · (intro w hSw; (try dsimp only at hSw); go_simp); all_goals with_reducible rfl
        try simp only [Act.put, List.getElem_toArray, List.getElem_cons_zero, List.getElem_cons_succ, List.setIfInBounds_toArray, List.set_cons_zero, List.set_cons_succ]
        refine wpAnyE_take' (i := 18) (v := ?_) rfl (by kernel_rfl) (by kernel_rfl) (by kernel_rfl) (by kernel_rfl) (by kernel_rfl) (fun _ _ _ h => h) (Or.inl ⟨by rfl, ?_⟩) (by assumption) ?_
        rotate_left
        · (intro w hSw; (try dsimp only at hSw); go_simp); all_goals with_reducible rfl
        try simp only [Act.put, List.getElem_toArray, List.getElem_cons_zero, List.getElem_cons_succ, List.setIfInBounds_toArray, List.set_cons_zero, List.set_cons_succ]
        refine wpAnyE_take' (i := 19) (v := ?_) rfl (by kernel_rfl) (by kernel_rfl) (by kernel_rfl) (by kernel_rfl) (by kernel_rfl) (fun _ _ _ h => h) (Or.inl ⟨by rfl, ?_⟩) (by assumption) ?_
        rotate_left
        · (intro w hSw; (try dsimp only at hSw); go_simp); all_goals with_reducible rfl
        try simp only [Act.put, List.getElem_toArray, List.getElem_cons_zero, List.getElem_cons_succ, List.setIfInBounds_toArray, List.set_cons_zero, List.set_cons_succ]
        refine wpAnyE_step (i := 20) (by kernel_rfl) rfl rfl (fun K20 hK20 => ?_)
        go_simp
        refine hK20.out _ _ (fun h => absurd rfl h) ?_
        refine wpAnyE_end (by kernel_rfl) (NoPanic.normal ?_) _
        clear hs3 hs4 hs5 hs6 hs8 hs9 hs10
        go_wp2_with fail
        go_roundw
        case rel =>
          refine ⟨i + 1, L + 1, c4, some ⟨g, 0, none⟩, (o ++ [0]).set L z, by omega, by go_num, rfl, by omega, Lib.hid (by rw [HZ.out]; exact HZ2.out), Lib.hid (own_below (OwnU.set HOW.out L z) (below_drewN (Below.refl _ _) 1)), Lib.hid (below_drewN (HBW.out.setCell hg _) 1)⟩
        case measure => simp [intOf]; omega
      · have hLq := HLL.out
        have hLq2 : L = q + 1 := by omega
        subst hLq2
        have HWR := Lib.hid (WdS.room (q := q) (r := 1) hwd.out (by omega) (by omega))
        clear hLq
        obtain ⟨i, hi⟩ : ∃ i, i = 4 * q + 1 := ⟨_, rfl⟩
        rw [← hi] at hdc hdl him hlt
        have hq1 : (i : Int) / 4 = (q : Int) := by omega
        have hq2 : (i : Int) % 4 = 1 := by omega
        have HI := Lib.hid hi
        rw [← hi]
        clear hi
        obtain ⟨g, cur, rfl, hg, hblk⟩ := OwnU.row hown.out (by omega)
        have hxc := OwnU.cell hown.out (k := q) (by omega)
        have hfz := hblk.frozen
        obtain ⟨hz1, hz2⟩ := HWR.out.step HO.out (by omega)
        rw [← HI.out] at hz1 hz2
        have hxl := wd_lt HWR.out.ok q
        simp only [Nat.reducePow, Nat.mul_one] at hz1 hz2
        have HZ2 := Lib.hid hz2
        have HOW := Lib.hid hown.out
        have HBW := Lib.hid hbw.out
        clear hz2
        generalize dg8 (dgs v) i = d at *
        generalize wd o q = x at *
        obtain ⟨z, hz⟩ : ∃ z, z = x + d * 256 := ⟨_, rfl⟩
        have hs3 : (i : Int).tdiv 4 = (q : Int) := by rw [Int.tdiv_eq_ediv_of_nonneg (by omega)]; exact hq1
        have hs4 : (i : Int).tmod 4 = 1 := by rw [Int.tmod_eq_emod_of_nonneg (by omega)]; exact hq2
        have hs5 : IntKind.i64.wrap (q : Int) = (q : Int) := IntWalk.i64_in _ (by omega)
        have hs6 : IntKind.u32.wrap (d : Int) = (d : Int) := by rw [IntKind.wrap_u32]; omega
        have hs7 : IntKind.u32.wrap ((d : Int) * 256) = (d : Int) * 256 := by rw [IntKind.wrap_u32]; omega
        have hs8 : IntKind.u32.wrap ((x : Int) + (d : Int) * 256) = (z : Int) := by rw [IntKind.wrap_u32]; omega
        have hs9 : IntKind.i64.wrap 8 = 8 := IntWalk.i64_in _ (by omega)
        have hs10 : IntKind.u64.wrap 8 = 8 := by rw [IntKind.wrap_u64]; omega
        have hs11 : (q : Int) < (q : Int) + 1 := by omega
        have hs12 : (i : Int) < (m : Int) := by omega
        have HZ := Lib.hid hz
        have hqn : (0 : Int) ≤ (q : Int) := by omega
        clear hz hq1 hq2
        go_wp2_with fail
        refine wp_region_noPanic ?_
        refine wp_region_E 20 (fun w' => w'.cell? ⟨g, q, none⟩ = some (.int .u32 (x : Int)) ∧ w'.cell? ⟨db, doff + i, none⟩ = some (.int .i64 (d : Int))) (by rfl) ⟨hxc, hdc⟩ (fun hS0 => ?_)
        refine wpAnyE_take' (i := 0) (v := ?_) rfl (by kernel_rfl) (by kernel_rfl) (by kernel_rfl) (by kernel_rfl) (by kernel_rfl) (fun _ _ _ h => h) (Or.inl ⟨by rfl, ?_⟩) (by assumption) ?_
        rotate_left
        · (intro w hSw; (try dsimp only at hSw); go_simp); all_goals with_reducible rfl
        try simp only [Act.put, List.getElem_toArray, List.getElem_cons_zero, List.getElem_cons_succ, List.setIfInBounds_toArray, List.set_cons_zero, List.set_cons_succ]
        refine wpAnyE_take' (i := 1) (v := ?_) rfl (by kernel_rfl) (by kernel_rfl) (by kernel_rfl) (by kernel_rfl) (by kernel_rfl) (fun _ _ _ h => h) (Or.inl ⟨by rfl, ?_⟩) (by assumption) ?_
        rotate_left
        · (intro w hSw; (try dsimp only at hSw); go_simp); all_goals with_reducible rfl
        try simp only [Act.put, List.getElem_toArray, List.getElem_cons_zero, List.getElem_cons_succ, List.setIfInBounds_toArray, List.set_cons_zero, List.set_cons_succ]
        refine wpAnyE_take' (i := 2) (v := ?_) rfl (by kernel_rfl) (by kernel_rfl) (by kernel_rfl) (by kernel_rfl) (by kernel_rfl) (fun _ _ _ h => h) (Or.inl ⟨by rfl, ?_⟩) (by assumption) ?_
        rotate_left
        · (intro w hSw; (try dsimp only at hSw); go_simp); all_goals with_reducible rfl
        try simp only [Act.put, List.getElem_toArray, List.getElem_cons_zero, List.getElem_cons_succ, List.setIfInBounds_toArray, List.set_cons_zero, List.set_cons_succ]
        refine wpAnyE_take' (i := 3) (v := ?_) rfl (by kernel_rfl) (by kernel_rfl) (by kernel_rfl) (by kernel_rfl) (by kernel_rfl) (fun _ _ _ h => h) (Or.inl ⟨by rfl, ?_⟩) (by assumption) ?_
        rotate_left
        · (intro w hSw; (try dsimp only at hSw); go_simp); all_goals with_reducible rfl
        try simp only [Act.put, List.getElem_toArray, List.getElem_cons_zero, List.getElem_cons_succ, List.setIfInBounds_toArray, List.set_cons_zero, List.set_cons_succ]
        refine wpAnyE_take' (i := 4) (v := ?_) rfl (by kernel_rfl) (by kernel_rfl) (by kernel_rfl) (by kernel_rfl) (by kernel_rfl) (fun _ _ _ h => h) (Or.inl ⟨by rfl, ?_⟩) (by assumption) ?_
        rotate_left
        · (intro w hSw; (try dsimp only at hSw); go_simp); all_goals with_reducible rfl
        try simp only [Act.put, List.getElem_toArray, List.getElem_cons_zero, List.getElem_cons_succ, List.setIfInBounds_toArray, List.set_cons_zero, List.set_cons_succ]
        refine wpAnyE_take' (i := 5) (v := ?_) rfl (by kernel_rfl) (by kernel_rfl) (by kernel_rfl) (by kernel_rfl) (by kernel_rfl) (fun _ _ _ h => h) (Or.inl ⟨by rfl, ?_⟩) (by assumption) ?_
        rotate_left
        · (intro w hSw; (try dsimp only at hSw); go_simp); all_goals with_reducible rfl
        try simp only [Act.put, List.getElem_toArray, List.getElem_cons_zero, List.getElem_cons_succ, List.setIfInBounds_toArray, List.set_cons_zero, List.set_cons_succ]
        refine wpAnyE_take' (i := 6) (v := ?_) rfl (by kernel_rfl) (by kernel_rfl) (by kernel_rfl) (by kernel_rfl) (by kernel_rfl) (fun _ _ _ h => h) (Or.inl ⟨by rfl, ?_⟩) (by assumption) ?_
        rotate_left
        · (intro w hSw; (try dsimp only at hSw); go_simp); all_goals with_reducible rfl
        try simp only [Act.put, List.getElem_toArray, List.getElem_cons_zero, List.getElem_cons_succ, List.setIfInBounds_toArray, List.set_cons_zero, List.set_cons_succ]
        refine wpAnyE_take' (i := 7) (v := ?_) rfl (by kernel_rfl) (by kernel_rfl) (by kernel_rfl) (by kernel_rfl) (by kernel_rfl) (fun _ _ _ h => h) (Or.inl ⟨by rfl, ?_⟩) (by assumption) ?_
        rotate_left
        · (intro w hSw; (try dsimp only at hSw); go_simp); all_goals with_reducible rfl
        try simp only [Act.put, List.getElem_toArray, List.getElem_cons_zero, List.getElem_cons_succ, List.setIfInBounds_toArray, List.set_cons_zero, List.set_cons_succ]
        refine wpAnyE_take' (i := 8) (v := ?_) rfl (by kernel_rfl) (by kernel_rfl) (by kernel_rfl) (by kernel_rfl) (by kernel_rfl) (fun _ _ _ h => h) (Or.inl ⟨by rfl, ?_⟩) (by assumption) ?_
        rotate_left
        · (intro w hSw; (try dsimp only at hSw); go_simp); all_goals with_reducible rfl
        try simp only [Act.put, List.getElem_toArray, List.getElem_cons_zero, List.getElem_cons_succ, List.setIfInBounds_toArray, List.set_cons_zero, List.set_cons_succ]
        refine wpAnyE_take' (i := 9) (v := ?_) rfl (by kernel_rfl) (by kernel_rfl) (by kernel_rfl) (by kernel_rfl) (by kernel_rfl) (fun _ _ _ h => h) (Or.inl ⟨by rfl, ?_⟩) (by assumption) ?_
        rotate_left
        · (intro w hSw; (try dsimp only at hSw); go_simp); all_goals with_reducible rfl
        try simp only [Act.put, List.getElem_toArray, List.getElem_cons_zero, List.getElem_cons_succ, List.setIfInBounds_toArray, List.set_cons_zero, List.set_cons_succ]
        refine wpAnyE_take' (i := 10) (v := ?_) rfl (by kernel_rfl) (by kernel_rfl) (by kernel_rfl) (by kernel_rfl) (by kernel_rfl) (fun _ _ _ h => h) (Or.inl ⟨by rfl, ?_⟩) (by assumption) ?_
        rotate_left
        · (intro w hSw; (try dsimp only at hSw); go_simp); all_goals with_reducible rfl
        try simp only [Act.put, List.getElem_toArray, List.getElem_cons_zero, List.getElem_cons_succ, List.setIfInBounds_toArray, List.set_cons_zero, List.set_cons_succ]
        refine wpAnyE_take' (i := 11) (v := ?_) rfl (by kernel_rfl) (by kernel_rfl) (by kernel_rfl) (by kernel_rfl) (by kernel_rfl) (fun _ _ _ h => h) (Or.inl ⟨by rfl, ?_⟩) (by assumption) ?_
        rotate_left
        · (intro w hSw; (try dsimp only at hSw); go_simp); all_goals with_reducible rfl
        try simp only [Act.put, List.getElem_toArray, List.getElem_cons_zero, List.getElem_cons_succ, List.setIfInBounds_toArray, List.set_cons_zero, List.set_cons_succ]
        refine wpAnyE_take' (i := 12) (v := ?_) rfl (by kernel_rfl) (by kernel_rfl) (by kernel_rfl) (by kernel_rfl) (by kernel_rfl) (fun _ _ _ h => h) (Or.inl ⟨by rfl, ?_⟩) (by assumption) ?_
        rotate_left
        · (intro w hSw; (try dsimp only at hSw); go_simp); all_goals with_reducible rfl
        try simp only [Act.put, List.getElem_toArray, List.getElem_cons_zero, List.getElem_cons_succ, List.setIfInBounds_toArray, List.set_cons_zero, List.set_cons_succ]
        refine wpAnyE_take' (i := 13) (v := ?_) rfl (by kernel_rfl) (by kernel_rfl) (by kernel_rfl) (by kernel_rfl) (by kernel_rfl) (fun _ _ _ h => h) (Or.inl ⟨by rfl, ?_⟩) (by assumption) ?_
        rotate_left
        · (intro w hSw; (try dsimp only at hSw); go_simp); all_goals with_reducible rfl
        try simp only [Act.put, List.getElem_toArray, List.getElem_cons_zero, List.getElem_cons_succ, List.setIfInBounds_toArray, List.set_cons_zero, List.set_cons_succ]
        refine wpAnyE_take' (i := 14) (v := ?_) rfl (by kernel_rfl) (by kernel_rfl) (by kernel_rfl) (by kernel_rfl) (by kernel_rfl) (fun _ _ _ h => h) (Or.inl ⟨by rfl, ?_⟩) (by assumption) ?_
        rotate_left
        · (intro w hSw; (try dsimp only at hSw); go_simp); all_goals with_reducible rfl
        try simp only [Act.put, List.getElem_toArray, List.getElem_cons_zero, List.getElem_cons_succ, List.setIfInBounds_toArray, List.set_cons_zero, List.set_cons_succ]
        refine wpAnyE_take' (i := 15) (v := ?_) rfl (by kernel_rfl) (by kernel_rfl) (by kernel_rfl) (by kernel_rfl) (by kernel_rfl) (fun _ _ _ h => h) (Or.inl ⟨by rfl, ?_⟩) (by assumption) ?_
        rotate_left
        · (intro w hSw; (try dsimp only at hSw); go_simp); all_goals with_reducible rfl
        try simp only [Act.put, List.getElem_toArray, List.getElem_cons_zero, List.getElem_cons_succ, List.setIfInBounds_toArray, List.set_cons_zero, List.set_cons_succ]
        refine wpAnyE_take' (i := 16) (v := ?_) rfl (by kernel_rfl) (by kernel_rfl) (by kernel_rfl) (by kernel_rfl) (by kernel_rfl) (fun _ _ _ h => h) (Or.inl ⟨by rfl, ?_⟩) (by assumption) ?_
        rotate_left
        · (intro w hSw; (try dsimp only at hSw); go_simp); all_goals with_reducible rfl
        try simp only [Act.put, List.getElem_toArray, List.getElem_cons_zero, List.getElem_cons_succ, List.setIfInBounds_toArray, List.set_cons_zero, List.set_cons_succ]
        refine wpAnyE_take' (i := 17) (v := ?_) rfl (by kernel_rfl) (by kernel_rfl) (by kernel_rfl) (by kernel_rfl) (by kernel_rfl) (fun _ _ _ h => h) (Or.inl ⟨by rfl, ?_⟩) (by assumption) ?_
        rotate_left
        · (intro w hSw; (try dsimp only at hSw); go_simp); all_goals with_reducible rfl
        try simp only [Act.put, List.getElem_toArray, List.getElem_cons_zero, List.getElem_cons_succ, List.setIfInBounds_toArray, List.set_cons_zero, List.set_cons_succ]
        refine wpAnyE_take' (i := 18) (v := ?_) rfl (by kernel_rfl) (by kernel_rfl) (by kernel_rfl) (by kernel_rfl) (by kernel_rfl) (fun _ _ _ h => h) (Or.inl ⟨by rfl, ?_⟩) (by assumption) ?_
        rotate_left
        · (intro w hSw; (try dsimp only at hSw); go_simp); all_goals with_reducible rfl
        try simp only [Act.put, List.getElem_toArray, List.getElem_cons_zero, List.getElem_cons_succ, List.setIfInBounds_toArray, List.set_cons_zero, List.set_cons_succ]
        refine wpAnyE_take' (i := 19) (v := ?_) rfl (by kernel_rfl) (by kernel_rfl) (by kernel_rfl) (by kernel_rfl) (by kernel_rfl) (fun _ _ _ h => h) (Or.inl ⟨by rfl, ?_⟩) (by assumption) ?_
        rotate_left
        · (intro w hSw; (try dsimp only at hSw); go_simp); all_goals with_reducible rfl
        try simp only [Act.put, List.getElem_toArray, List.getElem_cons_zero, List.getElem_cons_succ, List.setIfInBounds_toArray, List.set_cons_zero, List.set_cons_succ]
        refine wpAnyE_step (i := 20) (by kernel_rfl) rfl rfl (fun K20 hK20 => ?_)
        go_simp
        refine hK20.out _ _ (fun h => absurd rfl h) ?_
        refine wpAnyE_end (by kernel_rfl) (NoPanic.normal ?_) _
        clear hs3 hs4 hs5 hs6 hs8 hs9 hs10 hs7
        go_wp2_with fail
        go_roundw
        case rel =>
          refine ⟨i + 1, q + 1, k1, some ⟨g, 0, none⟩, o.set q z, by omega, by go_num, rfl, by omega, Lib.hid (by rw [HZ.out]; exact HZ2.out), Lib.hid (own_below (OwnU.set HOW.out q z) (below_drewN (Below.refl _ _) 1)), Lib.hid (below_drewN (HBW.out.setCell hg _) 1)⟩
        case measure => simp [intOf]; omega
      · have hLq := HLL.out
        have hLq2 : L = q + 1 := by omega
        subst hLq2
        have HWR := Lib.hid (WdS.room (q := q) (r := 2) hwd.out (by omega) (by omega))
        clear hLq
        obtain ⟨i, hi⟩ : ∃ i, i = 4 * q + 2 := ⟨_, rfl⟩
        rw [← hi] at hdc hdl him hlt
        have hq1 : (i : Int) / 4 = (q : Int) := by omega
        have hq2 : (i : Int) % 4 = 2 := by omega
        have HI := Lib.hid hi
        rw [← hi]
        clear hi
        obtain ⟨g, cur, rfl, hg, hblk⟩ := OwnU.row hown.out (by omega)
        have hxc := OwnU.cell hown.out (k := q) (by omega)
        have hfz := hblk.frozen
        obtain ⟨hz1, hz2⟩ := HWR.out.step HO.out (by omega)
        rw [← HI.out] at hz1 hz2
        have hxl := wd_lt HWR.out.ok q
        simp only [Nat.reducePow] at hz1 hz2
        have HZ2 := Lib.hid hz2
        have HOW := Lib.hid hown.out
        have HBW := Lib.hid hbw.out
        clear hz2
        generalize dg8 (dgs v) i = d at *
        generalize wd o q = x at *
        obtain ⟨z, hz⟩ : ∃ z, z = x + d * 65536 := ⟨_, rfl⟩
        have hs3 : (i : Int).tdiv 4 = (q : Int) := by rw [Int.tdiv_eq_ediv_of_nonneg (by omega)]; exact hq1
        have hs4 : (i : Int).tmod 4 = 2 := by rw [Int.tmod_eq_emod_of_nonneg (by omega)]; exact hq2
        have hs5 : IntKind.i64.wrap (q : Int) = (q : Int) := IntWalk.i64_in _ (by omega)
        have hs6 : IntKind.u32.wrap (d : Int) = (d : Int) := by rw [IntKind.wrap_u32]; omega
        have hs7 : IntKind.u32.wrap ((d : Int) * 65536) = (d : Int) * 65536 := by rw [IntKind.wrap_u32]; omega
        have hs8 : IntKind.u32.wrap ((x : Int) + (d : Int) * 65536) = (z : Int) := by rw [IntKind.wrap_u32]; omega
        have hs9 : IntKind.i64.wrap 16 = 16 := IntWalk.i64_in _ (by omega)
        have hs10 : IntKind.u64.wrap 16 = 16 := by rw [IntKind.wrap_u64]; omega
        have hs11 : (q : Int) < (q : Int) + 1 := by omega
        have hs12 : (i : Int) < (m : Int) := by omega
        have HZ := Lib.hid hz
        have hqn : (0 : Int) ≤ (q : Int) := by omega
        clear hz hq1 hq2
        go_wp2_with fail
        refine wp_region_noPanic ?_
        refine wp_region_E 20 (fun w' => w'.cell? ⟨g, q, none⟩ = some (.int .u32 (x : Int)) ∧ w'.cell? ⟨db, doff + i, none⟩ = some (.int .i64 (d : Int))) (by rfl) ⟨hxc, hdc⟩ (fun hS0 => ?_)
        refine wpAnyE_take' (i := 0) (v := ?_) rfl (by kernel_rfl) (by kernel_rfl) (by kernel_rfl) (by kernel_rfl) (by kernel_rfl) (fun _ _ _ h => h) (Or.inl ⟨by rfl, ?_⟩) (by assumption) ?_
        rotate_left
        · (intro w hSw; (try dsimp only at hSw); go_simp); all_goals with_reducible rfl
        try simp only [Act.put, List.getElem_toArray, List.getElem_cons_zero, List.getElem_cons_succ, List.setIfInBounds_toArray, List.set_cons_zero, List.set_cons_succ]
        refine wpAnyE_take' (i := 1) (v := ?_) rfl (by kernel_rfl) (by kernel_rfl) (by kernel_rfl) (by kernel_rfl) (by kernel_rfl) (fun _ _ _ h => h) (Or.inl ⟨by rfl, ?_⟩) (by assumption) ?_
        rotate_left
        · (intro w hSw; (try dsimp only at hSw); go_simp); all_goals with_reducible rfl
        try simp only [Act.put, List.getElem_toArray, List.getElem_cons_zero, List.getElem_cons_succ, List.setIfInBounds_toArray, List.set_cons_zero, List.set_cons_succ]
        refine wpAnyE_take' (i := 2) (v := ?_) rfl (by kernel_rfl) (by kernel_rfl) (by kernel_rfl) (by kernel_rfl) (by kernel_rfl) (fun _ _ _ h => h) (Or.inl ⟨by rfl, ?_⟩) (by assumption) ?_
        rotate_left
        · (intro w hSw; (try dsimp only at hSw); go_simp); all_goals with_reducible rfl
        try simp only [Act.put, List.getElem_toArray, List.getElem_cons_zero, List.getElem_cons_succ, List.setIfInBounds_toArray, List.set_cons_zero, List.set_cons_succ]
        refine wpAnyE_take' (i := 3) (v := ?_) rfl (by kernel_rfl) (by kernel_rfl) (by kernel_rfl) (by kernel_rfl) (by kernel_rfl) (fun _ _ _ h => h) (Or.inl ⟨by rfl, ?_⟩) (by assumption) ?_
        rotate_left
        · (intro w hSw; (try dsimp only at hSw); go_simp); all_goals with_reducible rfl
        try simp only [Act.put, List.getElem_toArray, List.getElem_cons_zero, List.getElem_cons_succ, List.setIfInBounds_toArray, List.set_cons_zero, List.set_cons_succ]
        refine wpAnyE_take' (i := 4) (v := ?_) rfl (by kernel_rfl) (by kernel_rfl) (by kernel_rfl) (by kernel_rfl) (by kernel_rfl) (fun _ _ _ h => h) (Or.inl ⟨by rfl, ?_⟩) (by assumption) ?_
        rotate_left
        · (intro w hSw; (try dsimp only at hSw); go_simp); all_goals with_reducible rfl
        try simp only [Act.put, List.getElem_toArray, List.getElem_cons_zero, List.getElem_cons_succ, List.setIfInBounds_toArray, List.set_cons_zero, List.set_cons_succ]
        refine wpAnyE_take' (i := 5) (v := ?_) rfl (by kernel_rfl) (by kernel_rfl) (by kernel_rfl) (by kernel_rfl) (by kernel_rfl) (fun _ _ _ h => h) (Or.inl ⟨by rfl, ?_⟩) (by assumption) ?_
        rotate_left
        · (intro w hSw; (try dsimp only at hSw); go_simp); all_goals with_reducible rfl
        try simp only [Act.put, List.getElem_toArray, List.getElem_cons_zero, List.getElem_cons_succ, List.setIfInBounds_toArray, List.set_cons_zero, List.set_cons_succ]
        refine wpAnyE_take' (i := 6) (v := ?_) rfl (by kernel_rfl) (by kernel_rfl) (by kernel_rfl) (by kernel_rfl) (by kernel_rfl) (fun _ _ _ h => h) (Or.inl ⟨by rfl, ?_⟩) (by assumption) ?_
        rotate_left
        · (intro w hSw; (try dsimp only at hSw); go_simp); all_goals with_reducible rfl
        try simp only [Act.put, List.getElem_toArray, List.getElem_cons_zero, List.getElem_cons_succ, List.setIfInBounds_toArray, List.set_cons_zero, List.set_cons_succ]
        refine wpAnyE_take' (i := 7) (v := ?_) rfl (by kernel_rfl) (by kernel_rfl) (by kernel_rfl) (by kernel_rfl) (by kernel_rfl) (fun _ _ _ h => h) (Or.inl ⟨by rfl, ?_⟩) (by assumption) ?_
        rotate_left
        · (intro w hSw; (try dsimp only at hSw); go_simp); all_goals with_reducible rfl
        try simp only [Act.put, List.getElem_toArray, List.getElem_cons_zero, List.getElem_cons_succ, List.setIfInBounds_toArray, List.set_cons_zero, List.set_cons_succ]
        refine wpAnyE_take' (i := 8) (v := ?_) rfl (by kernel_rfl) (by kernel_rfl) (by kernel_rfl) (by kernel_rfl) (by kernel_rfl) (fun _ _ _ h => h) (Or.inl ⟨by rfl, ?_⟩) (by assumption) ?_
        rotate_left
        · (intro w hSw; (try dsimp only at hSw); go_simp); all_goals with_reducible rfl
        try simp only [Act.put, List.getElem_toArray, List.getElem_cons_zero, List.getElem_cons_succ, List.setIfInBounds_toArray, List.set_cons_zero, List.set_cons_succ]
        refine wpAnyE_take' (i := 9) (v := ?_) rfl (by kernel_rfl) (by kernel_rfl) (by kernel_rfl) (by kernel_rfl) (by kernel_rfl) (fun _ _ _ h => h) (Or.inl ⟨by rfl, ?_⟩) (by assumption) ?_
        rotate_left
        · (intro w hSw; (try dsimp only at hSw); go_simp); all_goals with_reducible rfl
        try simp only [Act.put, List.getElem_toArray, List.getElem_cons_zero, List.getElem_cons_succ, List.setIfInBounds_toArray, List.set_cons_zero, List.set_cons_succ]
        refine wpAnyE_take' (i := 10) (v := ?_) rfl (by kernel_rfl) (by kernel_rfl) (by kernel_rfl) (by kernel_rfl) (by kernel_rfl) (fun _ _ _ h => h) (Or.inl ⟨by rfl, ?_⟩) (by assumption) ?_
        rotate_left
        · (intro w hSw; (try dsimp only at hSw); go_simp); all_goals with_reducible rfl
        try simp only [Act.put, List.getElem_toArray, List.getElem_cons_zero, List.getElem_cons_succ, List.setIfInBounds_toArray, List.set_cons_zero, List.set_cons_succ]
        refine wpAnyE_take' (i := 11) (v := ?_) rfl (by kernel_rfl) (by kernel_rfl) (by kernel_rfl) (by kernel_rfl) (by kernel_rfl) (fun _ _ _ h => h) (Or.inl ⟨by rfl, ?_⟩) (by assumption) ?_
        rotate_left
        · (intro w hSw; (try dsimp only at hSw); go_simp); all_goals with_reducible rfl
        try simp only [Act.put, List.getElem_toArray, List.getElem_cons_zero, List.getElem_cons_succ, List.setIfInBounds_toArray, List.set_cons_zero, List.set_cons_succ]
        refine wpAnyE_take' (i := 12) (v := ?_) rfl (by kernel_rfl) (by kernel_rfl) (by kernel_rfl) (by kernel_rfl) (by kernel_rfl) (fun _ _ _ h => h) (Or.inl ⟨by rfl, ?_⟩) (by assumption) ?_
        rotate_left
        · (intro w hSw; (try dsimp only at hSw); go_simp); all_goals with_reducible rfl
        try simp only [Act.put, List.getElem_toArray, List.getElem_cons_zero, List.getElem_cons_succ, List.setIfInBounds_toArray, List.set_cons_zero, List.set_cons_succ]
        refine wpAnyE_take' (i := 13) (v := ?_) rfl (by kernel_rfl) (by kernel_rfl) (by kernel_rfl) (by kernel_rfl) (by kernel_rfl) (fun _ _ _ h => h) (Or.inl ⟨by rfl, ?_⟩) (by assumption) ?_
        rotate_left
        · (intro w hSw; (try dsimp only at hSw); go_simp); all_goals with_reducible rfl
        try simp only [Act.put, List.getElem_toArray, List.getElem_cons_zero, List.getElem_cons_succ, List.setIfInBounds_toArray, List.set_cons_zero, List.set_cons_succ]
        refine wpAnyE_take' (i := 14) (v := ?_) rfl (by kernel_rfl) (by kernel_rfl) (by kernel_rfl) (by kernel_rfl) (by kernel_rfl) (fun _ _ _ h => h) (Or.inl ⟨by rfl, ?_⟩) (by assumption) ?_
        rotate_left
        · (intro w hSw; (try dsimp only at hSw); go_simp); all_goals with_reducible rfl
        try simp only [Act.put, List.getElem_toArray, List.getElem_cons_zero, List.getElem_cons_succ, List.setIfInBounds_toArray, List.set_cons_zero, List.set_cons_succ]
        refine wpAnyE_take' (i := 15) (v := ?_) rfl (by kernel_rfl) (by kernel_rfl) (by kernel_rfl) (by kernel_rfl) (by kernel_rfl) (fun _ _ _ h => h) (Or.inl ⟨by rfl, ?_⟩) (by assumption) ?_
        rotate_left
        · (intro w hSw; (try dsimp only at hSw); go_simp); all_goals with_reducible rfl
        try simp only [Act.put, List.getElem_toArray, List.getElem_cons_zero, List.getElem_cons_succ, List.setIfInBounds_toArray, List.set_cons_zero, List.set_cons_succ]
        refine wpAnyE_take' (i := 16) (v := ?_) rfl (by kernel_rfl) (by kernel_rfl) (by kernel_rfl) (by kernel_rfl) (by kernel_rfl) (fun _ _ _ h => h) (Or.inl ⟨by rfl, ?_⟩) (by assumption) ?_
        rotate_left
        · (intro w hSw; (try dsimp only at hSw); go_simp); all_goals with_reducible rfl
        try simp only [Act.put, List.getElem_toArray, List.getElem_cons_zero, List.getElem_cons_succ, List.setIfInBounds_toArray, List.set_cons_zero, List.set_cons_succ]
        refine wpAnyE_take' (i := 17) (v := ?_) rfl (by kernel_rfl) (by kernel_rfl) (by kernel_rfl) (by kernel_rfl) (by kernel_rfl) (fun _ _ _ h => h) (Or.inl ⟨by rfl, ?_⟩) (by assumption) ?_
        rotate_left
        · (intro w hSw; (try dsimp only at hSw); go_simp); all_goals with_reducible rfl
        try simp only [Act.put, List.getElem_toArray, List.getElem_cons_zero, List.getElem_cons_succ, List.setIfInBounds_toArray, List.set_cons_zero, List.set_cons_succ]
        refine wpAnyE_take' (i := 18) (v := ?_) rfl (by kernel_rfl) (by kernel_rfl) (by kernel_rfl) (by kernel_rfl) (by kernel_rfl) (fun _ _ _ h => h) (Or.inl ⟨by rfl, ?_⟩) (by assumption) ?_
        rotate_left
        · (intro w hSw; (try dsimp only at hSw); go_simp); all_goals with_reducible rfl
        try simp only [Act.put, List.getElem_toArray, List.getElem_cons_zero, List.getElem_cons_succ, List.setIfInBounds_toArray, List.set_cons_zero, List.set_cons_succ]
        refine wpAnyE_take' (i := 19) (v := ?_) rfl (by kernel_rfl) (by kernel_rfl) (by kernel_rfl) (by kernel_rfl) (by kernel_rfl) (fun _ _ _ h => h) (Or.inl ⟨by rfl, ?_⟩) (by assumption) ?_
        rotate_left
        · (intro w hSw; (try dsimp only at hSw); go_simp); all_goals with_reducible rfl
        try simp only [Act.put, List.getElem_toArray, List.getElem_cons_zero, List.getElem_cons_succ, List.setIfInBounds_toArray, List.set_cons_zero, List.set_cons_succ]
        refine wpAnyE_step (i := 20) (by kernel_rfl) rfl rfl (fun K20 hK20 => ?_)
        go_simp
        refine hK20.out _ _ (fun h => absurd rfl h) ?_
        refine wpAnyE_end (by kernel_rfl) (NoPanic.normal ?_) _
        clear hs3 hs4 hs5 hs6 hs8 hs9 hs10 hs7
        go_wp2_with fail
        go_roundw
        case rel =>
          refine ⟨i + 1, q + 1, k1, some ⟨g, 0, none⟩, o.set q z, by omega, by go_num, rfl, by omega, Lib.hid (by rw [HZ.out]; exact HZ2.out), Lib.hid (own_below (OwnU.set HOW.out q z) (below_drewN (Below.refl _ _) 1)), Lib.hid (below_drewN (HBW.out.setCell hg _) 1)⟩
        case measure => simp [intOf]; omega
      · have hLq := HLL.out
        have hLq2 : L = q + 1 := by omega
        subst hLq2
        have HWR := Lib.hid (WdS.room (q := q) (r := 3) hwd.out (by omega) (by omega))
        clear hLq
        obtain ⟨i, hi⟩ : ∃ i, i = 4 * q + 3 := ⟨_, rfl⟩
        rw [← hi] at hdc hdl him hlt
        have hq1 : (i : Int) / 4 = (q : Int) := by omega
        have hq2 : (i : Int) % 4 = 3 := by omega
        have HI := Lib.hid hi
        rw [← hi]
        clear hi
        obtain ⟨g, cur, rfl, hg, hblk⟩ := OwnU.row hown.out (by omega)
        have hxc := OwnU.cell hown.out (k := q) (by omega)
        have hfz := hblk.frozen
        obtain ⟨hz1, hz2⟩ := HWR.out.step HO.out (by omega)
        rw [← HI.out] at hz1 hz2
        have hxl := wd_lt HWR.out.ok q
        simp only [Nat.reducePow] at hz1 hz2
        have HZ2 := Lib.hid hz2
        have HOW := Lib.hid hown.out
        have HBW := Lib.hid hbw.out
        clear hz2
        generalize dg8 (dgs v) i = d at *
        generalize wd o q = x at *
        obtain ⟨z, hz⟩ : ∃ z, z = x + d * 16777216 := ⟨_, rfl⟩
        have hs3 : (i : Int).tdiv 4 = (q : Int) := by rw [Int.tdiv_eq_ediv_of_nonneg (by omega)]; exact hq1
        have hs4 : (i : Int).tmod 4 = 3 := by rw [Int.tmod_eq_emod_of_nonneg (by omega)]; exact hq2
        have hs5 : IntKind.i64.wrap (q : Int) = (q : Int) := IntWalk.i64_in _ (by omega)
        have hs6 : IntKind.u32.wrap (d : Int) = (d : Int) := by rw [IntKind.wrap_u32]; omega
        have hs7 : IntKind.u32.wrap ((d : Int) * 16777216) = (d : Int) * 16777216 := by rw [IntKind.wrap_u32]; omega
        have hs8 : IntKind.u32.wrap ((x : Int) + (d : Int) * 16777216) = (z : Int) := by rw [IntKind.wrap_u32]; omega
        have hs9 : IntKind.i64.wrap 24 = 24 := IntWalk.i64_in _ (by omega)
        have hs10 : IntKind.u64.wrap 24 = 24 := by rw [IntKind.wrap_u64]; omega
        have hs11 : (q : Int) < (q : Int) + 1 := by omega
        have hs12 : (i : Int) < (m : Int) := by omega
        have HZ := Lib.hid hz
        have hqn : (0 : Int) ≤ (q : Int) := by omega
        clear hz hq1 hq2
        go_wp2_with fail
        refine wp_region_noPanic ?_
        refine wp_region_E 20 (fun w' => w'.cell? ⟨g, q, none⟩ = some (.int .u32 (x : Int)) ∧ w'.cell? ⟨db, doff + i, none⟩ = some (.int .i64 (d : Int))) (by rfl) ⟨hxc, hdc⟩ (fun hS0 => ?_)
        refine wpAnyE_take' (i := 0) (v := ?_) rfl (by kernel_rfl) (by kernel_rfl) (by kernel_rfl) (by kernel_rfl) (by kernel_rfl) (fun _ _ _ h => h) (Or.inl ⟨by rfl, ?_⟩) (by assumption) ?_
        rotate_left
        · (intro w hSw; (try dsimp only at hSw); go_simp); all_goals with_reducible rfl
        try simp only [Act.put, List.getElem_toArray, List.getElem_cons_zero, List.getElem_cons_succ, List.setIfInBounds_toArray, List.set_cons_zero, List.set_cons_succ]
        refine wpAnyE_take' (i := 1) (v := ?_) rfl (by kernel_rfl) (by kernel_rfl) (by kernel_rfl) (by kernel_rfl) (by kernel_rfl) (fun _ _ _ h => h) (Or.inl ⟨by rfl, ?_⟩) (by assumption) ?_
        rotate_left
        · (intro w hSw; (try dsimp only at hSw); go_simp); all_goals with_reducible rfl
        try simp only [Act.put, List.getElem_toArray, List.getElem_cons_zero, List.getElem_cons_succ, List.setIfInBounds_toArray, List.set_cons_zero, List.set_cons_succ]
        refine wpAnyE_take' (i := 2) (v := ?_) rfl (by kernel_rfl) (by kernel_rfl) (by kernel_rfl) (by kernel_rfl) (by kernel_rfl) (fun _ _ _ h => h) (Or.inl ⟨by rfl, ?_⟩) (by assumption) ?_
        rotate_left
        · (intro w hSw; (try dsimp only at hSw); go_simp); all_goals with_reducible rfl
        try simp only [Act.put, List.getElem_toArray, List.getElem_cons_zero, List.getElem_cons_succ, List.setIfInBounds_toArray, List.set_cons_zero, List.set_cons_succ]
        refine wpAnyE_take' (i := 3) (v := ?_) rfl (by kernel_rfl) (by kernel_rfl) (by kernel_rfl) (by kernel_rfl) (by kernel_rfl) (fun _ _ _ h => h) (Or.inl ⟨by rfl, ?_⟩) (by assumption) ?_
        rotate_left
        · (intro w hSw; (try dsimp only at hSw); go_simp); all_goals with_reducible rfl
        try simp only [Act.put, List.getElem_toArray, List.getElem_cons_zero, List.getElem_cons_succ, List.setIfInBounds_toArray, List.set_cons_zero, List.set_cons_succ]
        refine wpAnyE_take' (i := 4) (v := ?_) rfl (by kernel_rfl) (by kernel_rfl) (by kernel_rfl) (by kernel_rfl) (by kernel_rfl) (fun _ _ _ h => h) (Or.inl ⟨by rfl, ?_⟩) (by assumption) ?_
        rotate_left
        · (intro w hSw; (try dsimp only at hSw); go_simp); all_goals with_reducible rfl
        try simp only [Act.put, List.getElem_toArray, List.getElem_cons_zero, List.getElem_cons_succ, List.setIfInBounds_toArray, List.set_cons_zero, List.set_cons_succ]
        refine wpAnyE_take' (i := 5) (v := ?_) rfl (by kernel_rfl) (by kernel_rfl) (by kernel_rfl) (by kernel_rfl) (by kernel_rfl) (fun _ _ _ h => h) (Or.inl ⟨by rfl, ?_⟩) (by assumption) ?_
        rotate_left
        · (intro w hSw; (try dsimp only at hSw); go_simp); all_goals with_reducible rfl
        try simp only [Act.put, List.getElem_toArray, List.getElem_cons_zero, List.getElem_cons_succ, List.setIfInBounds_toArray, List.set_cons_zero, List.set_cons_succ]
        refine wpAnyE_take' (i := 6) (v := ?_) rfl (by kernel_rfl) (by kernel_rfl) (by kernel_rfl) (by kernel_rfl) (by kernel_rfl) (fun _ _ _ h => h) (Or.inl ⟨by rfl, ?_⟩) (by assumption) ?_
        rotate_left
        · (intro w hSw; (try dsimp only at hSw); go_simp); all_goals with_reducible rfl
        try simp only [Act.put, List.getElem_toArray, List.getElem_cons_zero, List.getElem_cons_succ, List.setIfInBounds_toArray, List.set_cons_zero, List.set_cons_succ]
        refine wpAnyE_take' (i := 7) (v := ?_) rfl (by kernel_rfl) (by kernel_rfl) (by kernel_rfl) (by kernel_rfl) (by kernel_rfl) (fun _ _ _ h => h) (Or.inl ⟨by rfl, ?_⟩) (by assumption) ?_
        rotate_left
        · (intro w hSw; (try dsimp only at hSw); go_simp); all_goals with_reducible rfl
        try simp only [Act.put, List.getElem_toArray, List.getElem_cons_zero, List.getElem_cons_succ, List.setIfInBounds_toArray, List.set_cons_zero, List.set_cons_succ]
        refine wpAnyE_take' (i := 8) (v := ?_) rfl (by kernel_rfl) (by kernel_rfl) (by kernel_rfl) (by kernel_rfl) (by kernel_rfl) (fun _ _ _ h => h) (Or.inl ⟨by rfl, ?_⟩) (by assumption) ?_
        rotate_left
        · (intro w hSw; (try dsimp only at hSw); go_simp); all_goals with_reducible rfl
        try simp only [Act.put, List.getElem_toArray, List.getElem_cons_zero, List.getElem_cons_succ, List.setIfInBounds_toArray, List.set_cons_zero, List.set_cons_succ]
        refine wpAnyE_take' (i := 9) (v := ?_) rfl (by kernel_rfl) (by kernel_rfl) (by kernel_rfl) (by kernel_rfl) (by kernel_rfl) (fun _ _ _ h => h) (Or.inl ⟨by rfl, ?_⟩) (by assumption) ?_
        rotate_left
        · (intro w hSw; (try dsimp only at hSw); go_simp); all_goals with_reducible rfl
        try simp only [Act.put, List.getElem_toArray, List.getElem_cons_zero, List.getElem_cons_succ, List.setIfInBounds_toArray, List.set_cons_zero, List.set_cons_succ]
        refine wpAnyE_take' (i := 10) (v := ?_) rfl (by kernel_rfl) (by kernel_rfl) (by kernel_rfl) (by kernel_rfl) (by kernel_rfl) (fun _ _ _ h => h) (Or.inl ⟨by rfl, ?_⟩) (by assumption) ?_
        rotate_left
        · (intro w hSw; (try dsimp only at hSw); go_simp); all_goals with_reducible rfl
        try simp only [Act.put, List.getElem_toArray, List.getElem_cons_zero, List.getElem_cons_succ, List.setIfInBounds_toArray, List.set_cons_zero, List.set_cons_succ]
        refine wpAnyE_take' (i := 11) (v := ?_) rfl (by kernel_rfl) (by kernel_rfl) (by kernel_rfl) (by kernel_rfl) (by kernel_rfl) (fun _ _ _ h => h) (Or.inl ⟨by rfl, ?_⟩) (by assumption) ?_
        rotate_left
        · (intro w hSw; (try dsimp only at hSw); go_simp); all_goals with_reducible rfl
        try simp only [Act.put, List.getElem_toArray, List.getElem_cons_zero, List.getElem_cons_succ, List.setIfInBounds_toArray, List.set_cons_zero, List.set_cons_succ]
        refine wpAnyE_take' (i := 12) (v := ?_) rfl (by kernel_rfl) (by kernel_rfl) (by kernel_rfl) (by kernel_rfl) (by kernel_rfl) (fun _ _ _ h => h) (Or.inl ⟨by rfl, ?_⟩) (by assumption) ?_
        rotate_left
        · (intro w hSw; (try dsimp only at hSw); go_simp); all_goals with_reducible rfl
        try simp only [Act.put, List.getElem_toArray, List.getElem_cons_zero, List.getElem_cons_succ, List.setIfInBounds_toArray, List.set_cons_zero, List.set_cons_succ]
        refine wpAnyE_take' (i := 13) (v := ?_) rfl (by kernel_rfl) (by kernel_rfl) (by kernel_rfl) (by kernel_rfl) (by kernel_rfl) (fun _ _ _ h => h) (Or.inl ⟨by rfl, ?_⟩) (by assumption) ?_
        rotate_left
        · (intro w hSw; (try dsimp only at hSw); go_simp); all_goals with_reducible rfl
        try simp only [Act.put, List.getElem_toArray, List.getElem_cons_zero, List.getElem_cons_succ, List.setIfInBounds_toArray, List.set_cons_zero, List.set_cons_succ]
        refine wpAnyE_take' (i := 14) (v := ?_) rfl (by kernel_rfl) (by kernel_rfl) (by kernel_rfl) (by kernel_rfl) (by kernel_rfl) (fun _ _ _ h => h) (Or.inl ⟨by rfl, ?_⟩) (by assumption) ?_
        rotate_left
        · (intro w hSw; (try dsimp only at hSw); go_simp); all_goals with_reducible rfl
        try simp only [Act.put, List.getElem_toArray, List.getElem_cons_zero, List.getElem_cons_succ, List.setIfInBounds_toArray, List.set_cons_zero, List.set_cons_succ]
        refine wpAnyE_take' (i := 15) (v := ?_) rfl (by kernel_rfl) (by kernel_rfl) (by kernel_rfl) (by kernel_rfl) (by kernel_rfl) (fun _ _ _ h => h) (Or.inl ⟨by rfl, ?_⟩) (by assumption) ?_
        rotate_left
        · (intro w hSw; (try dsimp only at hSw); go_simp); all_goals with_reducible rfl
        try simp only [Act.put, List.getElem_toArray, List.getElem_cons_zero, List.getElem_cons_succ, List.setIfInBounds_toArray, List.set_cons_zero, List.set_cons_succ]
        refine wpAnyE_take' (i := 16) (v := ?_) rfl (by kernel_rfl) (by kernel_rfl) (by kernel_rfl) (by kernel_rfl) (by kernel_rfl) (fun _ _ _ h => h) (Or.inl ⟨by rfl, ?_⟩) (by assumption) ?_
        rotate_left
        · (intro w hSw; (try dsimp only at hSw); go_simp); all_goals with_reducible rfl
        try simp only [Act.put, List.getElem_toArray, List.getElem_cons_zero, List.getElem_cons_succ, List.setIfInBounds_toArray, List.set_cons_zero, List.set_cons_succ]
        refine wpAnyE_take' (i := 17) (v := ?_) rfl (by kernel_rfl) (by kernel_rfl) (by kernel_rfl) (by kernel_rfl) (by kernel_rfl) (fun _ _ _ h => h) (Or.inl ⟨by rfl, ?_⟩) (by assumption) ?_
        rotate_left
        · (intro w hSw; (try dsimp only at hSw); go_simp); all_goals with_reducible rfl
        try simp only [Act.put, List.getElem_toArray, List.getElem_cons_zero, List.getElem_cons_succ, List.setIfInBounds_toArray, List.set_cons_zero, List.set_cons_succ]
        refine wpAnyE_take' (i := 18) (v := ?_) rfl (by kernel_rfl) (by kernel_rfl) (by kernel_rfl) (by kernel_rfl) (by kernel_rfl) (fun _ _ _ h => h) (Or.inl ⟨by rfl, ?_⟩) (by assumption) ?_
        rotate_left
        · (intro w hSw; (try dsimp only at hSw); go_simp); all_goals with_reducible rfl
        try simp only [Act.put, List.getElem_toArray, List.getElem_cons_zero, List.getElem_cons_succ, List.setIfInBounds_toArray, List.set_cons_zero, List.set_cons_succ]
        refine wpAnyE_take' (i := 19) (v := ?_) rfl (by kernel_rfl) (by kernel_rfl) (by kernel_rfl) (by kernel_rfl) (by kernel_rfl) (fun _ _ _ h => h) (Or.inl ⟨by rfl, ?_⟩) (by assumption) ?_
        rotate_left
        · (intro w hSw; (try dsimp only at hSw); go_simp); all_goals with_reducible rfl
        try simp only [Act.put, List.getElem_toArray, List.getElem_cons_zero, List.getElem_cons_succ, List.setIfInBounds_toArray, List.set_cons_zero, List.set_cons_succ]
        refine wpAnyE_step (i := 20) (by kernel_rfl) rfl rfl (fun K20 hK20 => ?_)
        go_simp
        refine hK20.out _ _ (fun h => absurd rfl h) ?_
        refine wpAnyE_end (by kernel_rfl) (NoPanic.normal ?_) _
        clear hs3 hs4 hs5 hs6 hs8 hs9 hs10 hs7
        go_wp2_with fail
        go_roundw
        case rel =>
          refine ⟨i + 1, q + 1, k1, some ⟨g, 0, none⟩, o.set q z, by omega, by go_num, rfl, by omega, Lib.hid (by rw [HZ.out]; exact HZ2.out), Lib.hid (own_below (OwnU.set HOW.out q z) (below_drewN (Below.refl _ _) 1)), Lib.hid (below_drewN (HBW.out.setCell hg _) 1)⟩
        case measure => simp [intOf]; omega
    · have hie : i = m := by omega
      have HW : RowKit.Hid (o = wds v) := Lib.hid (by
        have h1 := hwd.out
        rw [hie, ← HLEN.out] at h1
        exact h1.done)
      clear hie
      go_wp2_with fail
      go_ret
      have h2 := OwnU.natV hown.out hwd.out.ok (by omega)
      rw [HW.out] at h2
      exact ⟨hbw.out, _, _, _, rfl, h2⟩

end Go.Proofs.YtgiepikoffaaiaaDoor
