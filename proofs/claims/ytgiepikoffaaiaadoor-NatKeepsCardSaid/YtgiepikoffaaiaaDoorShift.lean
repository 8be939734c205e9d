/- Shift: a number by so many bits, up or down. -/
import Derived.Test.YtgiepikoffaaiaaDoorLowered
import Derived.Test.YtgiepikoffaaiaaDoorOwn
import Derived.IntWalk
namespace Go.Proofs.YtgiepikoffaaiaaDoor
open Go.RowKit

/-- A number and no error. -/
def NatOkPost (l : List Nat) (w : World) (e : Ending) (w' : World) : Prop := Below w.heap.size w w' ∧ ∃ g, e = .returned (.tuple #[.slice (some ⟨g, 0, none⟩) l.length l.length, .int .i64 0]) ∧ w.heap.size ≤ g ∧ RowB w' g l

theorem pw_two (i : Nat) : pw i = 2 ^ (32 * i) := by
  unfold pw
  rw [Nat.pow_mul]
theorem shift_up (V q r : Nat) : pw q * (V * 2 ^ r) = V * 2 ^ (32 * q + r) := by
  rw [pw_two, Nat.pow_add]
  grind
theorem shift_down (V q r : Nat) : V / pw q / 2 ^ r = V / 2 ^ (32 * q + r) := by
  rw [pw_two, Nat.pow_add, Nat.div_div_eq_div_mul]
theorem val_drop_div {l : List Nat} (h : Ok l) (k : Nat) : val (l.drop k) = val l / pw k := by
  rw [val_split l k]
  have h1 := val_lt (ok_take h k)
  have h2 : pw (l.take k).length ≤ pw k := pw_le (by rw [List.length_take]; omega)
  rw [Nat.add_mul_div_left _ _ (pw_pos k), Nat.div_eq_of_lt (by omega), Nat.zero_add]

theorem val_normed {l : List Nat} {x : Nat} (h : val l = x) : wds (val l) = wds x := by rw [h]
theorem nat_cut {w : World} {A : Option Addr} {n c : Nat} {l : List Nat} (h : NatV w A n c l) {k : Nat} (hk : k < n) : NatV w (A.map (·.add k)) (n - k) (c - k) (l.drop k) := by
  obtain ⟨b, off, rfl, hb, hm⟩ := h.mem (by omega)
  have hc := h.cap
  refine ⟨by rw [List.length_drop, h.len], by omega, by have := h.few; omega, (fun e => by cases e), ok_drop h.ok k, fun _ => ⟨b, off + k, ?_, hb, fun j hj => ?_⟩⟩
  · simp only [Option.map_some, Addr.add]
    split
    · rename_i h0; rw [h0, Nat.add_zero]
    · rfl
  · rw [wd_drop]
    have := hm (k + j) (by omega)
    rwa [← Nat.add_assoc] at this
theorem size_word (w : World) : (sizeOf 34).run Tryd.prog w = .ok 1 w := by kernel_rfl
theorem slice_from (A : Option Addr) (n c k : Nat) (hk : k < n) (hc : n ≤ c) (w : World) : (Instr.slice 23 (.slice A n c) (some (.int .i64 (k : Int))) none none).run Tryd.prog w = .ok (.slice (A.map (·.add k)) (n - k) (c - k)) w := by
  go_simp
  rw [if_pos (by omega), if_neg (by omega)]

set_option maxHeartbeats 2000000 in
theorem shift_big {A : Option Addr} {n c : Nat} (w : World) {by_ : Int} (h : by_ > 65536 ∨ by_ < -65536) :
    Calls Tryd.prog 27 #[.slice A n c, .int .i64 by_] w fun e w' => e = .returned (.tuple #[.slice none 0 0, .int .i64 6]) ∧ w = w' := by
  rcases h with h | h
  · go_enter Tryd.func27, Tryd.ntmps27
    go_wp2_with fail
    go_ret2
    exact ⟨rfl, rfl⟩
  · have h2 : ¬ (by_ > 65536) := by omega
    go_enter Tryd.func27, Tryd.ntmps27
    go_wp2_with fail
    go_ret2
    exact ⟨rfl, rfl⟩

set_option maxHeartbeats 2000000 in
theorem shift_up_any {A : Option Addr} {n c : Nat} {a : List Nat} {w : World} (ha : NatV w A n c a) (hsn : n ≤ 10000) (s : Nat) (hs : s ≤ 65536) :
    Calls Tryd.prog 27 #[.slice A n c, .int .i64 (s : Int)] w (NatOkPost (wds (val a * 2 ^ s)) w) := by
  obtain ⟨i0, hi, hy0, hy1, hy2⟩ := info_parts infoU
  have HI0 := Lib.hid hi
  have HY0 := Lib.hid hy0
  have HY1 := Lib.hid hy1
  have HY2 := Lib.hid hy2
  have HA := Lib.hid ha
  obtain ⟨q, hq⟩ : ∃ q, q = s / 32 := ⟨_, rfl⟩
  obtain ⟨r, hr⟩ : ∃ r, r = s % 32 := ⟨_, rfl⟩
  have hmk := make_nat q (by omega)
  have hrl : r < 32 := by omega
  have hql : q ≤ 2048 := by omega
  have hs1 : (s : Int).tdiv 32 = (q : Int) := by rw [Int.tdiv_eq_ediv_of_nonneg (by omega)]; omega
  have hs2 : (s : Int).tmod 32 = (r : Int) := by rw [Int.tmod_eq_emod_of_nonneg (by omega)]; omega
  have hs3 : IntKind.i64.wrap (q : Int) = (q : Int) := IntWalk.i64_in _ (by omega)
  have hs4 : IntKind.i64.wrap (r : Int) = (r : Int) := IntWalk.i64_in _ (by omega)
  have HSP : RowKit.Hid (s = 32 * q + r) := Lib.hid (by omega)
  have h0 : decide ((s : Int) > 65536) = false := decide_eq_false (by omega)
  have h1 : decide ((s : Int) < -65536) = false := decide_eq_false (by omega)
  have h2 : decide ((s : Int) ≥ 0) = true := decide_eq_true (by omega)
  obtain ⟨X, hX⟩ : ∃ X, X = wds (val a * 2 ^ r) := ⟨_, rfl⟩
  obtain ⟨L, hL⟩ : ∃ L, L = X.length := ⟨_, rfl⟩
  have hLn : L ≤ n + 1 := by
    rw [hL, hX]
    refine wds_len ?_
    have h3 := val_lt ha.ok
    rw [ha.len] at h3
    have h4 : 2 ^ r ≤ 4294967296 := by
      have : 2 ^ r ≤ 2 ^ 32 := Nat.pow_le_pow_right (by decide) (by omega)
      simpa using this
    rw [pw_succ, Nat.mul_comm 4294967296]
    exact Nat.mul_lt_mul_of_lt_of_le h3 h4 (by decide)
  have HRA : RowKit.Hid (∀ W, NatV W A n c a → Calls Tryd.prog 44 #[.slice A n c, .int .i64 (r : Int)] W fun e w' => Below W.heap.size W w' ∧ ∃ g, e = .returned (.slice (some ⟨g, 0, none⟩) L L) ∧ W.heap.size ≤ g ∧ RowB w' g X) := Lib.hid fun W hW => by
    have := raised_any hW (by omega) r hrl
    rw [hL, hX]
    exact this
  have HOK : RowKit.Hid (Ok (List.replicate q 0 ++ X)) := Lib.hid fun x hx => by
    rcases List.mem_append.1 hx with h | h
    · exact ok_zero _ x h
    · rw [hX] at h; exact ok_wds _ x h
  have HXO : RowKit.Hid (Ok X) := Lib.hid (by rw [hX]; exact ok_wds _)
  have HV : RowKit.Hid (val (List.replicate q 0 ++ X) = val a * 2 ^ s) := Lib.hid (by
    rw [val_append, val_zeros, List.length_replicate, hX, val_wds, shift_up, HSP.out, Nat.zero_add])
  have HXL := Lib.hid hL
  have HX := Lib.hid hX
  have hown1 : ∀ (W : World) (g : Nat), RowB W g (List.replicate q 0) → w.heap.size ≤ g → OwnU W w.heap.size (some ⟨g, 0, none⟩) q q (List.replicate q 0) := fun W g hr hg => by
    have := own_new hr hg (by unfold maxLen; simp; omega)
    rwa [List.length_replicate] at this
  have hnatX : ∀ (W : World) (g : Nat), RowB W g X → NatV W (some ⟨g, 0, none⟩) L L X := fun W g hr => by
    have := hr.natV HXO.out (by rw [← HXL.out]; omega)
    rwa [← HXL.out] at this
  have HOWN1 := Lib.hid hown1
  have HNATX := Lib.hid hnatX
  clear hi hy0 hy1 hy2 ha hq hr hX hL hown1 hnatX
  go_enter Tryd.func27, Tryd.ntmps27
  go_wp2_with fail
  go_region_held3 (fun _ => True) (exact trivial)
    (first
      | (go_at_call 44; refine (HRA.out _ ((HA.out.drewN 1).alloc (.cells (cellsU (List.replicate q 0)) 34))).mono ?_; rintro e w2 ⟨hb2, g2, rfl, hg2, hr2⟩; have hn1 : RowB (w.alloc (.cells (cellsU (List.replicate q 0)) 34)).drew w.heap.size (List.replicate q 0) := Blk.new w _ _; have hw1 := hn1.below hb2 hn1.lt; have hbd : Below w.heap.size w (w.alloc (.cells (cellsU (List.replicate q 0)) 34)).drew := below_drewN (below_alloc w _) 1; have hbW := hbd.trans (hb2.mono hbd.size); have hgg := Nat.le_trans hbd.size hg2)
      | (go_at_call 44; refine (HRA.out _ (HA.out.drewN 1)).mono ?_; rintro e w2 ⟨hb2, g2, rfl, hg2, hr2⟩; have hbV : Below w.heap.size w w2 := Below.trans (below_drewN (Below.refl w.heap.size w) 1) hb2; have hgg : w.heap.size ≤ g2 := hg2)
      | (refine step_oper rfl (oper_append_words (.tmp 16) (.tmp 20) 23 rfl w.heap.size i0 Tryd.underlying23 HI0.out HY0.out HY1.out HY2.out rfl (HOWN1.out _ _ hw1 (Nat.le_refl _)) rfl (HNATX.out _ _ hr2) (by omega) hbW.size ?_); intro A' c' w4 happ)
      | (refine step_oper rfl (oper_append_words (.tmp 16) (.tmp 20) 23 rfl w.heap.size i0 Tryd.underlying23 HI0.out HY0.out HY1.out HY2.out rfl (HOWN1.out _ _ (Blk.new w2 _ _) hbV.size) rfl (HNATX.out _ _ (hr2.alloc _)) (by omega) (Nat.le_trans hbV.size (by simp)) ?_); intro A' c' w4 happ)
      | (go_at_call 19; refine (norm_any (OwnU.natV happ.own HOK.out (by omega))).mono ?_; rintro e w5 ⟨hb5, g5, rfl, hg5, hr5⟩))
  · have hb4 : Below w.heap.size w w4 := hbW.grown happ.grown hbW.size (fun g hg => by simp [Value.ownBlock] at hg; omega)
    have hb6 := hb4.trans (hb5.mono hb4.size)
    rw [val_normed HV.out] at hr5
    clear hb5 happ hbW hw1 hn1 hbd hb2
    go_wp2_with fail
    go_ret2
    refine ⟨hb6, g5, ?_, Nat.le_trans hb4.size hg5, hr5⟩
    rw [HV.out]; rfl
  · have hb3 := hbV.alloc hbV.size (.cells (cellsU (List.replicate q 0)) 34)
    have hb4 : Below w.heap.size w w4 := hb3.grown happ.grown hb3.size (fun g hg => by have := hbV.size; simp [Value.ownBlock] at hg; omega)
    have hb6 := hb4.trans (hb5.mono hb4.size)
    rw [val_normed HV.out] at hr5
    clear hb5 happ hbV hb3 hb2
    go_wp2_with fail
    go_ret2
    refine ⟨hb6, g5, ?_, Nat.le_trans hb4.size hg5, hr5⟩
    rw [HV.out]; rfl

set_option maxHeartbeats 2000000 in
theorem shift_down_any {A : Option Addr} {n c : Nat} {a : List Nat} {w : World} (ha : NatV w A n c a) (hsn : n ≤ 10000) (s : Nat) (hs : s ≤ 65536) (h0 : 0 < s) :
    Calls Tryd.prog 27 #[.slice A n c, .int .i64 (-(s : Int))] w (NatOkPost (wds (val a / 2 ^ s)) w) := by
  obtain ⟨q, hq⟩ : ∃ q, q = s / 32 := ⟨_, rfl⟩
  obtain ⟨r, hr⟩ : ∃ r, r = s % 32 := ⟨_, rfl⟩
  have hrl : r < 32 := by omega
  have hql : q ≤ 2048 := by omega
  have hs1 : (s : Int) / 32 = (q : Int) := by omega
  have hs2 : (s : Int) % 32 = (r : Int) := by omega
  have HSP : RowKit.Hid (s = 32 * q + r) := Lib.hid (by omega)
  have h1 : decide (-(s : Int) > 65536) = false := decide_eq_false (by omega)
  have h2 : decide (-(s : Int) < -65536) = false := decide_eq_false (by omega)
  have h3 : decide (-(s : Int) ≥ 0) = false := decide_eq_false (by omega)
  by_cases hqn : n ≤ q
  · have hz : val a / 2 ^ s = 0 := by
      apply Nat.div_eq_of_lt
      have h4 := val_lt ha.ok
      rw [ha.len, pw_two] at h4
      exact Nat.lt_of_lt_of_le h4 (Nat.pow_le_pow_right (by decide) (by omega))
    have HZ := Lib.hid hz
    clear hq hr hz ha
    go_enter Tryd.func27, Tryd.ntmps27
    go_wp2_with fail
    go_ret2
    rw [HZ.out, wds_zero]
    exact ⟨below_alloc _ _, w.heap.size, rfl, Nat.le_refl _, Blk.new _ _ _⟩
  · have hcut := nat_cut ha (k := q) (by omega)
    have hsl := slice_from A n c q (by omega) ha.cap
    have hlow := lowered_any hcut (by omega) r hrl
    rw [val_drop_div ha.ok, shift_down, ← HSP.out] at hlow
    have HLOW := Lib.hid hlow
    clear hq hr hcut hlow ha
    go_enter Tryd.func27, Tryd.ntmps27
    go_wp2_with fail
    refine (HLOW.out).mono ?_
    rintro e w2 ⟨hb2, g2, rfl, hg2, hr2⟩
    go_wp2_with fail
    go_ret2
    exact ⟨hb2, g2, rfl, hg2, hr2⟩

end Go.Proofs.YtgiepikoffaaiaaDoor
