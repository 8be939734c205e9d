/- count: of a node of the reference how many kids. -/
import Derived.Test.YtnmeglbamfjcgaaProg
import Derived.Test.YtnmeglbamfjcgaaMem
import Derived.Test.YtnmeglbamfjcgaaTree
import Derived.Test.YtnmeglbamfjcgaaLeaf
import Derived.WalkKit
import Derived.WalkLawsBesides
import Derived.WalkSpells
import Derived.Lib.Hide
import Derived.Deep.QuietTactic
import Derived.BigQuiet
namespace Go.Proofs.Ytnmeglbamfjcgaa
open Go.RowKit

def CountPost (n : Nd) (w : World) (e : Ending) (w' : World) : Prop := (∃ k : Int, e = .returned (.tuple #[.int .i64 k, .bool (okN n)]) ∧ (okN n = true → k = nkI n.op n.b)) ∧ Below w.heap.size w w'
theorem countPost {n : Nd} {w w' : World} {k : Int} {b : Bool} (hb : b = okN n) (hk : okN n = true → k = nkI n.op n.b) (hw : Below w.heap.size w w') : CountPost n w (.returned (.tuple #[.int .i64 k, .bool b])) w' :=
  ⟨⟨k, by rw [hb], hk⟩, hw⟩

theorem within_q (n lo hi : Int) (w : World) (m : Nat) :
    Calls Try.prog 72 #[.int .i64 n, .int .i64 lo, .int .i64 hi] (w.drewN m) fun e w' => e = .returned (.bool (decide (lo ≤ n) && decide (n ≤ hi))) ∧ ∃ k, w' = w.drewN k :=
  (within_any n lo hi (w.drewN m)).mono fun _ _ ⟨h1, h2⟩ => ⟨h1, m, h2.symm⟩
theorem within_qt (n lo hi : Int) (w : World) (m : Nat) (h : lo ≤ n ∧ n ≤ hi) :
    Calls Try.prog 72 #[.int .i64 n, .int .i64 lo, .int .i64 hi] (w.drewN m) fun e w' => e = .returned (.bool true) ∧ ∃ k, w' = w.drewN k :=
  (within_q n lo hi w m).mono fun _ _ ⟨h1, h2⟩ => ⟨by rw [h1]; simp [h], h2⟩
theorem within_qf (n lo hi : Int) (w : World) (m : Nat) (h : ¬ (lo ≤ n ∧ n ≤ hi)) :
    Calls Try.prog 72 #[.int .i64 n, .int .i64 lo, .int .i64 hi] (w.drewN m) fun e w' => e = .returned (.bool false) ∧ ∃ k, w' = w.drewN k :=
  (within_q n lo hi w m).mono fun _ _ ⟨h1, h2⟩ => ⟨by rw [h1, ← Bool.decide_and, decide_eq_false h], h2⟩
theorem below_box_drewN (w : World) (o : Obj) (m : Nat) : Below w.heap.size w ((w.alloc o).drewN m) := below_drewN (below_alloc w o) m

theorem okN_iff (n : Nd) : okN n = true ↔ plainB n.op n.a n.b = true ∧ n.op ≠ 3 ∧ n.op ≠ 13 := by
  simp only [okN, Bool.and_eq_true, decide_eq_true_eq, and_assoc]
theorem okN_false_iff (n : Nd) : okN n = false ↔ ¬ (plainB n.op n.a n.b = true ∧ n.op ≠ 3 ∧ n.op ≠ 13) := by
  rw [← okN_iff]; simp

set_option maxRecDepth 100000 in
set_option maxHeartbeats 1000000 in
theorem count_1 (a b : Int) (w : World) :
    Calls Try.prog 71 #[.agg #[.int .i64 1, .int .i64 a, .int .i64 b]] w (CountPost ⟨1, a, b⟩ w) := by
  by_cases a0 : a = 0
  · have a0b : (a == 0) = true := by simp [a0]
    have A0 := Lib.hid a0
    clear a0
    by_cases ht : 0 ≤ a ∧ a ≤ 1048576
    · obtain ⟨hl, hh⟩ := ht
      go_enter Try.func71, Try.ntmps71
      go_wp2_with fail
      all_goals
        go_quiet ((go_at_call 72; first | exact within_qt _ _ _ _ _ (by omega) | exact within_qf _ _ _ _ _ (by omega) | exact within_q _ _ _ _ _))
        go_wp2_with fail
      all_goals
        have a0 := A0.out
        refine bodyPost_ret (results_tmp2 rfl _ _ _) rfl ?_
        refine countPost ?_ ?_ (by first | exact below_alloc _ _ | exact below_box_drewN _ _ _)
        · rw [Bool.eq_iff_iff, okN_iff, plainB_iff]; first | (simp; done) | (simp; omega) | (simp [IntKind.wrap_i64]; omega)
        · rw [okN_iff, plainB_iff]; first | (simp [nkI]; done) | (simp [nkI]; omega) | (simp [nkI, wrap64]; omega) | (simp [nkI, IntKind.wrap_i64]; omega)
    · have htb : (decide ((0 : Int) ≤ a) && decide (a ≤ 1048576)) = false := by rw [Bool.and_eq_false_iff, decide_eq_false_iff_not, decide_eq_false_iff_not]; omega
      have HT := Lib.hid ht
      go_enter Try.func71, Try.ntmps71
      go_wp2_with fail
      all_goals
        go_quiet ((go_at_call 72; first | exact within_qt _ _ _ _ _ (by omega) | exact within_qf _ _ _ _ _ (by omega) | exact within_q _ _ _ _ _))
        go_wp2_with fail
      all_goals
        have a0 := A0.out
        refine bodyPost_ret (results_tmp2 rfl _ _ _) rfl ?_
        refine countPost ?_ ?_ (by first | exact below_alloc _ _ | exact below_box_drewN _ _ _)
        · rw [Bool.eq_iff_iff, okN_iff, plainB_iff]; first | (simp; done) | (simp; omega) | (simp [IntKind.wrap_i64]; omega)
        · rw [okN_iff, plainB_iff]; first | (simp [nkI]; done) | (simp [nkI]; omega) | (simp [nkI, wrap64]; omega) | (simp [nkI, IntKind.wrap_i64]; omega)
  · have a0b : (a == 0) = false := by simp [a0]
    have A0 := Lib.hid a0
    clear a0
    by_cases ht : 0 ≤ a ∧ a ≤ 1048576
    · obtain ⟨hl, hh⟩ := ht
      go_enter Try.func71, Try.ntmps71
      go_wp2_with fail
      all_goals
        go_quiet ((go_at_call 72; first | exact within_qt _ _ _ _ _ (by omega) | exact within_qf _ _ _ _ _ (by omega) | exact within_q _ _ _ _ _))
        go_wp2_with fail
      all_goals
        have a0 := A0.out
        refine bodyPost_ret (results_tmp2 rfl _ _ _) rfl ?_
        refine countPost ?_ ?_ (by first | exact below_alloc _ _ | exact below_box_drewN _ _ _)
        · rw [Bool.eq_iff_iff, okN_iff, plainB_iff]; first | (simp; done) | (simp; omega) | (simp [IntKind.wrap_i64]; omega)
        · rw [okN_iff, plainB_iff]; first | (simp [nkI]; done) | (simp [nkI]; omega) | (simp [nkI, wrap64]; omega) | (simp [nkI, IntKind.wrap_i64]; omega)
    · have htb : (decide ((0 : Int) ≤ a) && decide (a ≤ 1048576)) = false := by rw [Bool.and_eq_false_iff, decide_eq_false_iff_not, decide_eq_false_iff_not]; omega
      have HT := Lib.hid ht
      go_enter Try.func71, Try.ntmps71
      go_wp2_with fail
      all_goals
        go_quiet ((go_at_call 72; first | exact within_qt _ _ _ _ _ (by omega) | exact within_qf _ _ _ _ _ (by omega) | exact within_q _ _ _ _ _))
        go_wp2_with fail
      all_goals
        have a0 := A0.out
        refine bodyPost_ret (results_tmp2 rfl _ _ _) rfl ?_
        refine countPost ?_ ?_ (by first | exact below_alloc _ _ | exact below_box_drewN _ _ _)
        · rw [Bool.eq_iff_iff, okN_iff, plainB_iff]; first | (simp; done) | (simp; omega) | (simp [IntKind.wrap_i64]; omega)
        · rw [okN_iff, plainB_iff]; first | (simp [nkI]; done) | (simp [nkI]; omega) | (simp [nkI, wrap64]; omega) | (simp [nkI, IntKind.wrap_i64]; omega)
set_option maxRecDepth 100000 in
set_option maxHeartbeats 1000000 in
theorem count_2 (a b : Int) (w : World) :
    Calls Try.prog 71 #[.agg #[.int .i64 2, .int .i64 a, .int .i64 b]] w (CountPost ⟨2, a, b⟩ w) := by
  by_cases a0 : a = 0
  · have a0b : (a == 0) = true := by simp [a0]
    have A0 := Lib.hid a0
    clear a0
    by_cases ht : 0 ≤ a ∧ a ≤ 1
    · obtain ⟨hl, hh⟩ := ht
      go_enter Try.func71, Try.ntmps71
      go_wp2_with (go_at_call 72; refine (within_any _ _ _ _).mono ?_; rintro e w2 ⟨rfl, rfl⟩)
      all_goals
        have a0 := A0.out
        refine bodyPost_ret (results_tmp2 rfl _ _ _) rfl ?_
        refine countPost ?_ ?_ (by first | exact below_alloc _ _ | exact below_box_drewN _ _ _)
        · rw [Bool.eq_iff_iff, okN_iff, plainB_iff]; first | (simp; done) | (simp; omega) | (simp [IntKind.wrap_i64]; omega)
        · rw [okN_iff, plainB_iff]; first | (simp [nkI]; done) | (simp [nkI]; omega) | (simp [nkI, wrap64]; omega) | (simp [nkI, IntKind.wrap_i64]; omega)
    · have htb : (decide ((0 : Int) ≤ a) && decide (a ≤ 1)) = false := by rw [Bool.and_eq_false_iff, decide_eq_false_iff_not, decide_eq_false_iff_not]; omega
      have HT := Lib.hid ht
      clear ht
      go_enter Try.func71, Try.ntmps71
      go_wp2_with (go_at_call 72; refine (within_any _ _ _ _).mono ?_; rintro e w2 ⟨rfl, rfl⟩)
      all_goals
        have a0 := A0.out
        have ht := HT.out
        refine bodyPost_ret (results_tmp2 rfl _ _ _) rfl ?_
        refine countPost ?_ ?_ (by first | exact below_alloc _ _ | exact below_box_drewN _ _ _)
        · rw [Bool.eq_iff_iff, okN_iff, plainB_iff]; first | (simp; done) | (simp; omega) | (simp [IntKind.wrap_i64]; omega)
        · rw [okN_iff, plainB_iff]; first | (simp [nkI]; done) | (simp [nkI]; omega) | (simp [nkI, wrap64]; omega) | (simp [nkI, IntKind.wrap_i64]; omega)
  · have a0b : (a == 0) = false := by simp [a0]
    have A0 := Lib.hid a0
    clear a0
    by_cases ht : 0 ≤ a ∧ a ≤ 1
    · obtain ⟨hl, hh⟩ := ht
      go_enter Try.func71, Try.ntmps71
      go_wp2_with (go_at_call 72; refine (within_any _ _ _ _).mono ?_; rintro e w2 ⟨rfl, rfl⟩)
      all_goals
        have a0 := A0.out
        refine bodyPost_ret (results_tmp2 rfl _ _ _) rfl ?_
        refine countPost ?_ ?_ (by first | exact below_alloc _ _ | exact below_box_drewN _ _ _)
        · rw [Bool.eq_iff_iff, okN_iff, plainB_iff]; first | (simp; done) | (simp; omega) | (simp [IntKind.wrap_i64]; omega)
        · rw [okN_iff, plainB_iff]; first | (simp [nkI]; done) | (simp [nkI]; omega) | (simp [nkI, wrap64]; omega) | (simp [nkI, IntKind.wrap_i64]; omega)
    · have htb : (decide ((0 : Int) ≤ a) && decide (a ≤ 1)) = false := by rw [Bool.and_eq_false_iff, decide_eq_false_iff_not, decide_eq_false_iff_not]; omega
      have HT := Lib.hid ht
      clear ht
      go_enter Try.func71, Try.ntmps71
      go_wp2_with (go_at_call 72; refine (within_any _ _ _ _).mono ?_; rintro e w2 ⟨rfl, rfl⟩)
      all_goals
        have a0 := A0.out
        have ht := HT.out
        refine bodyPost_ret (results_tmp2 rfl _ _ _) rfl ?_
        refine countPost ?_ ?_ (by first | exact below_alloc _ _ | exact below_box_drewN _ _ _)
        · rw [Bool.eq_iff_iff, okN_iff, plainB_iff]; first | (simp; done) | (simp; omega) | (simp [IntKind.wrap_i64]; omega)
        · rw [okN_iff, plainB_iff]; first | (simp [nkI]; done) | (simp [nkI]; omega) | (simp [nkI, wrap64]; omega) | (simp [nkI, IntKind.wrap_i64]; omega)
set_option maxRecDepth 100000 in
set_option maxHeartbeats 1000000 in
theorem count_4 (a b : Int) (w : World) :
    Calls Try.prog 71 #[.agg #[.int .i64 4, .int .i64 a, .int .i64 b]] w (CountPost ⟨4, a, b⟩ w) := by
  by_cases h1 : a = 0
  · have h2 : (a == 0) = true := by simp [h1]
    have H1 := Lib.hid h1
    clear h1
    go_enter Try.func71, Try.ntmps71
    go_wp2
    all_goals
      have h1 := H1.out
      refine bodyPost_ret (results_tmp2 rfl _ _ _) rfl ?_
      refine countPost ?_ ?_ (by first | exact below_alloc _ _ | exact below_box_drewN _ _ _)
      · rw [Bool.eq_iff_iff, okN_iff, plainB_iff]; first | (simp; done) | (simp; omega) | (simp [IntKind.wrap_i64]; omega)
      · rw [okN_iff, plainB_iff]; first | (simp [nkI]; done) | (simp [nkI]; omega) | (simp [nkI, wrap64]; omega) | (simp [nkI, IntKind.wrap_i64]; omega)
  · have h2 : (a == 0) = false := by simp [h1]
    have H1 := Lib.hid h1
    clear h1
    go_enter Try.func71, Try.ntmps71
    go_wp2
    all_goals
      have h1 := H1.out
      refine bodyPost_ret (results_tmp2 rfl _ _ _) rfl ?_
      refine countPost ?_ ?_ (by first | exact below_alloc _ _ | exact below_box_drewN _ _ _)
      · rw [Bool.eq_iff_iff, okN_iff, plainB_iff]; first | (simp; done) | (simp; omega) | (simp [IntKind.wrap_i64]; omega)
      · rw [okN_iff, plainB_iff]; first | (simp [nkI]; done) | (simp [nkI]; omega) | (simp [nkI, wrap64]; omega) | (simp [nkI, IntKind.wrap_i64]; omega)
set_option maxRecDepth 100000 in
set_option maxHeartbeats 1000000 in
theorem count_5 (a b : Int) (w : World) :
    Calls Try.prog 71 #[.agg #[.int .i64 5, .int .i64 a, .int .i64 b]] w (CountPost ⟨5, a, b⟩ w) := by
  by_cases h1 : a = 0
  · have h2 : (a == 0) = true := by simp [h1]
    have H1 := Lib.hid h1
    clear h1
    go_enter Try.func71, Try.ntmps71
    go_wp2
    all_goals
      have h1 := H1.out
      refine bodyPost_ret (results_tmp2 rfl _ _ _) rfl ?_
      refine countPost ?_ ?_ (by first | exact below_alloc _ _ | exact below_box_drewN _ _ _)
      · rw [Bool.eq_iff_iff, okN_iff, plainB_iff]; first | (simp; done) | (simp; omega) | (simp [IntKind.wrap_i64]; omega)
      · rw [okN_iff, plainB_iff]; first | (simp [nkI]; done) | (simp [nkI]; omega) | (simp [nkI, wrap64]; omega) | (simp [nkI, IntKind.wrap_i64]; omega)
  · have h2 : (a == 0) = false := by simp [h1]
    have H1 := Lib.hid h1
    clear h1
    go_enter Try.func71, Try.ntmps71
    go_wp2
    all_goals
      have h1 := H1.out
      refine bodyPost_ret (results_tmp2 rfl _ _ _) rfl ?_
      refine countPost ?_ ?_ (by first | exact below_alloc _ _ | exact below_box_drewN _ _ _)
      · rw [Bool.eq_iff_iff, okN_iff, plainB_iff]; first | (simp; done) | (simp; omega) | (simp [IntKind.wrap_i64]; omega)
      · rw [okN_iff, plainB_iff]; first | (simp [nkI]; done) | (simp [nkI]; omega) | (simp [nkI, wrap64]; omega) | (simp [nkI, IntKind.wrap_i64]; omega)
set_option maxRecDepth 100000 in
set_option maxHeartbeats 1000000 in
theorem count_6 (a b : Int) (w : World) :
    Calls Try.prog 71 #[.agg #[.int .i64 6, .int .i64 a, .int .i64 b]] w (CountPost ⟨6, a, b⟩ w) := by
  by_cases h1 : a = 0
  · have h2 : (a == 0) = true := by simp [h1]
    have H1 := Lib.hid h1
    clear h1
    go_enter Try.func71, Try.ntmps71
    go_wp2
    all_goals
      have h1 := H1.out
      refine bodyPost_ret (results_tmp2 rfl _ _ _) rfl ?_
      refine countPost ?_ ?_ (by first | exact below_alloc _ _ | exact below_box_drewN _ _ _)
      · rw [Bool.eq_iff_iff, okN_iff, plainB_iff]; first | (simp; done) | (simp; omega) | (simp [IntKind.wrap_i64]; omega)
      · rw [okN_iff, plainB_iff]; first | (simp [nkI]; done) | (simp [nkI]; omega) | (simp [nkI, wrap64]; omega) | (simp [nkI, IntKind.wrap_i64]; omega)
  · have h2 : (a == 0) = false := by simp [h1]
    have H1 := Lib.hid h1
    clear h1
    go_enter Try.func71, Try.ntmps71
    go_wp2
    all_goals
      have h1 := H1.out
      refine bodyPost_ret (results_tmp2 rfl _ _ _) rfl ?_
      refine countPost ?_ ?_ (by first | exact below_alloc _ _ | exact below_box_drewN _ _ _)
      · rw [Bool.eq_iff_iff, okN_iff, plainB_iff]; first | (simp; done) | (simp; omega) | (simp [IntKind.wrap_i64]; omega)
      · rw [okN_iff, plainB_iff]; first | (simp [nkI]; done) | (simp [nkI]; omega) | (simp [nkI, wrap64]; omega) | (simp [nkI, IntKind.wrap_i64]; omega)
set_option maxRecDepth 100000 in
set_option maxHeartbeats 1000000 in
theorem count_7 (a b : Int) (w : World) :
    Calls Try.prog 71 #[.agg #[.int .i64 7, .int .i64 a, .int .i64 b]] w (CountPost ⟨7, a, b⟩ w) := by
  by_cases h1 : a = 0
  · have h2 : (a == 0) = true := by simp [h1]
    have H1 := Lib.hid h1
    clear h1
    go_enter Try.func71, Try.ntmps71
    go_wp2
    all_goals
      have h1 := H1.out
      refine bodyPost_ret (results_tmp2 rfl _ _ _) rfl ?_
      refine countPost ?_ ?_ (by first | exact below_alloc _ _ | exact below_box_drewN _ _ _)
      · rw [Bool.eq_iff_iff, okN_iff, plainB_iff]; first | (simp; done) | (simp; omega) | (simp [IntKind.wrap_i64]; omega)
      · rw [okN_iff, plainB_iff]; first | (simp [nkI]; done) | (simp [nkI]; omega) | (simp [nkI, wrap64]; omega) | (simp [nkI, IntKind.wrap_i64]; omega)
  · have h2 : (a == 0) = false := by simp [h1]
    have H1 := Lib.hid h1
    clear h1
    go_enter Try.func71, Try.ntmps71
    go_wp2
    all_goals
      have h1 := H1.out
      refine bodyPost_ret (results_tmp2 rfl _ _ _) rfl ?_
      refine countPost ?_ ?_ (by first | exact below_alloc _ _ | exact below_box_drewN _ _ _)
      · rw [Bool.eq_iff_iff, okN_iff, plainB_iff]; first | (simp; done) | (simp; omega) | (simp [IntKind.wrap_i64]; omega)
      · rw [okN_iff, plainB_iff]; first | (simp [nkI]; done) | (simp [nkI]; omega) | (simp [nkI, wrap64]; omega) | (simp [nkI, IntKind.wrap_i64]; omega)
set_option maxRecDepth 100000 in
set_option maxHeartbeats 1000000 in
theorem count_8 (a b : Int) (w : World) :
    Calls Try.prog 71 #[.agg #[.int .i64 8, .int .i64 a, .int .i64 b]] w (CountPost ⟨8, a, b⟩ w) := by
  by_cases a0 : a = 0
  · have a0b : (a == 0) = true := by simp [a0]
    have A0 := Lib.hid a0
    clear a0
    by_cases ht : 0 ≤ a ∧ a ≤ 63
    · obtain ⟨hl, hh⟩ := ht
      go_enter Try.func71, Try.ntmps71
      go_wp2_with fail
      all_goals
        go_quiet ((go_at_call 72; first | exact within_qt _ _ _ _ _ (by omega) | exact within_qf _ _ _ _ _ (by omega) | exact within_q _ _ _ _ _))
        go_wp2_with fail
      all_goals
        have a0 := A0.out
        refine bodyPost_ret (results_tmp2 rfl _ _ _) rfl ?_
        refine countPost ?_ ?_ (by first | exact below_alloc _ _ | exact below_box_drewN _ _ _)
        · rw [Bool.eq_iff_iff, okN_iff, plainB_iff]; first | (simp; done) | (simp; omega) | (simp [IntKind.wrap_i64]; omega)
        · rw [okN_iff, plainB_iff]; first | (simp [nkI]; done) | (simp [nkI]; omega) | (simp [nkI, wrap64]; omega) | (simp [nkI, IntKind.wrap_i64]; omega)
    · have htb : (decide ((0 : Int) ≤ a) && decide (a ≤ 63)) = false := by rw [Bool.and_eq_false_iff, decide_eq_false_iff_not, decide_eq_false_iff_not]; omega
      have HT := Lib.hid ht
      go_enter Try.func71, Try.ntmps71
      go_wp2_with fail
      all_goals
        go_quiet ((go_at_call 72; first | exact within_qt _ _ _ _ _ (by omega) | exact within_qf _ _ _ _ _ (by omega) | exact within_q _ _ _ _ _))
        go_wp2_with fail
      all_goals
        have a0 := A0.out
        refine bodyPost_ret (results_tmp2 rfl _ _ _) rfl ?_
        refine countPost ?_ ?_ (by first | exact below_alloc _ _ | exact below_box_drewN _ _ _)
        · rw [Bool.eq_iff_iff, okN_iff, plainB_iff]; first | (simp; done) | (simp; omega) | (simp [IntKind.wrap_i64]; omega)
        · rw [okN_iff, plainB_iff]; first | (simp [nkI]; done) | (simp [nkI]; omega) | (simp [nkI, wrap64]; omega) | (simp [nkI, IntKind.wrap_i64]; omega)
  · have a0b : (a == 0) = false := by simp [a0]
    have A0 := Lib.hid a0
    clear a0
    by_cases ht : 0 ≤ a ∧ a ≤ 63
    · obtain ⟨hl, hh⟩ := ht
      go_enter Try.func71, Try.ntmps71
      go_wp2_with fail
      all_goals
        go_quiet ((go_at_call 72; first | exact within_qt _ _ _ _ _ (by omega) | exact within_qf _ _ _ _ _ (by omega) | exact within_q _ _ _ _ _))
        go_wp2_with fail
      all_goals
        have a0 := A0.out
        refine bodyPost_ret (results_tmp2 rfl _ _ _) rfl ?_
        refine countPost ?_ ?_ (by first | exact below_alloc _ _ | exact below_box_drewN _ _ _)
        · rw [Bool.eq_iff_iff, okN_iff, plainB_iff]; first | (simp; done) | (simp; omega) | (simp [IntKind.wrap_i64]; omega)
        · rw [okN_iff, plainB_iff]; first | (simp [nkI]; done) | (simp [nkI]; omega) | (simp [nkI, wrap64]; omega) | (simp [nkI, IntKind.wrap_i64]; omega)
    · have htb : (decide ((0 : Int) ≤ a) && decide (a ≤ 63)) = false := by rw [Bool.and_eq_false_iff, decide_eq_false_iff_not, decide_eq_false_iff_not]; omega
      have HT := Lib.hid ht
      go_enter Try.func71, Try.ntmps71
      go_wp2_with fail
      all_goals
        go_quiet ((go_at_call 72; first | exact within_qt _ _ _ _ _ (by omega) | exact within_qf _ _ _ _ _ (by omega) | exact within_q _ _ _ _ _))
        go_wp2_with fail
      all_goals
        have a0 := A0.out
        refine bodyPost_ret (results_tmp2 rfl _ _ _) rfl ?_
        refine countPost ?_ ?_ (by first | exact below_alloc _ _ | exact below_box_drewN _ _ _)
        · rw [Bool.eq_iff_iff, okN_iff, plainB_iff]; first | (simp; done) | (simp; omega) | (simp [IntKind.wrap_i64]; omega)
        · rw [okN_iff, plainB_iff]; first | (simp [nkI]; done) | (simp [nkI]; omega) | (simp [nkI, wrap64]; omega) | (simp [nkI, IntKind.wrap_i64]; omega)
set_option maxRecDepth 100000 in
set_option maxHeartbeats 1000000 in
theorem count_9 (a b : Int) (w : World) :
    Calls Try.prog 71 #[.agg #[.int .i64 9, .int .i64 a, .int .i64 b]] w (CountPost ⟨9, a, b⟩ w) := by
  by_cases a0 : a = 0
  · have a0b : (a == 0) = true := by simp [a0]
    have A0 := Lib.hid a0
    clear a0
    by_cases ht : 0 ≤ a ∧ a ≤ 63
    · obtain ⟨hl, hh⟩ := ht
      go_enter Try.func71, Try.ntmps71
      go_wp2_with fail
      all_goals
        go_quiet ((go_at_call 72; first | exact within_qt _ _ _ _ _ (by omega) | exact within_qf _ _ _ _ _ (by omega) | exact within_q _ _ _ _ _))
        go_wp2_with fail
      all_goals
        have a0 := A0.out
        refine bodyPost_ret (results_tmp2 rfl _ _ _) rfl ?_
        refine countPost ?_ ?_ (by first | exact below_alloc _ _ | exact below_box_drewN _ _ _)
        · rw [Bool.eq_iff_iff, okN_iff, plainB_iff]; first | (simp; done) | (simp; omega) | (simp [IntKind.wrap_i64]; omega)
        · rw [okN_iff, plainB_iff]; first | (simp [nkI]; done) | (simp [nkI]; omega) | (simp [nkI, wrap64]; omega) | (simp [nkI, IntKind.wrap_i64]; omega)
    · have htb : (decide ((0 : Int) ≤ a) && decide (a ≤ 63)) = false := by rw [Bool.and_eq_false_iff, decide_eq_false_iff_not, decide_eq_false_iff_not]; omega
      have HT := Lib.hid ht
      go_enter Try.func71, Try.ntmps71
      go_wp2_with fail
      all_goals
        go_quiet ((go_at_call 72; first | exact within_qt _ _ _ _ _ (by omega) | exact within_qf _ _ _ _ _ (by omega) | exact within_q _ _ _ _ _))
        go_wp2_with fail
      all_goals
        have a0 := A0.out
        refine bodyPost_ret (results_tmp2 rfl _ _ _) rfl ?_
        refine countPost ?_ ?_ (by first | exact below_alloc _ _ | exact below_box_drewN _ _ _)
        · rw [Bool.eq_iff_iff, okN_iff, plainB_iff]; first | (simp; done) | (simp; omega) | (simp [IntKind.wrap_i64]; omega)
        · rw [okN_iff, plainB_iff]; first | (simp [nkI]; done) | (simp [nkI]; omega) | (simp [nkI, wrap64]; omega) | (simp [nkI, IntKind.wrap_i64]; omega)
  · have a0b : (a == 0) = false := by simp [a0]
    have A0 := Lib.hid a0
    clear a0
    by_cases ht : 0 ≤ a ∧ a ≤ 63
    · obtain ⟨hl, hh⟩ := ht
      go_enter Try.func71, Try.ntmps71
      go_wp2_with fail
      all_goals
        go_quiet ((go_at_call 72; first | exact within_qt _ _ _ _ _ (by omega) | exact within_qf _ _ _ _ _ (by omega) | exact within_q _ _ _ _ _))
        go_wp2_with fail
      all_goals
        have a0 := A0.out
        refine bodyPost_ret (results_tmp2 rfl _ _ _) rfl ?_
        refine countPost ?_ ?_ (by first | exact below_alloc _ _ | exact below_box_drewN _ _ _)
        · rw [Bool.eq_iff_iff, okN_iff, plainB_iff]; first | (simp; done) | (simp; omega) | (simp [IntKind.wrap_i64]; omega)
        · rw [okN_iff, plainB_iff]; first | (simp [nkI]; done) | (simp [nkI]; omega) | (simp [nkI, wrap64]; omega) | (simp [nkI, IntKind.wrap_i64]; omega)
    · have htb : (decide ((0 : Int) ≤ a) && decide (a ≤ 63)) = false := by rw [Bool.and_eq_false_iff, decide_eq_false_iff_not, decide_eq_false_iff_not]; omega
      have HT := Lib.hid ht
      go_enter Try.func71, Try.ntmps71
      go_wp2_with fail
      all_goals
        go_quiet ((go_at_call 72; first | exact within_qt _ _ _ _ _ (by omega) | exact within_qf _ _ _ _ _ (by omega) | exact within_q _ _ _ _ _))
        go_wp2_with fail
      all_goals
        have a0 := A0.out
        refine bodyPost_ret (results_tmp2 rfl _ _ _) rfl ?_
        refine countPost ?_ ?_ (by first | exact below_alloc _ _ | exact below_box_drewN _ _ _)
        · rw [Bool.eq_iff_iff, okN_iff, plainB_iff]; first | (simp; done) | (simp; omega) | (simp [IntKind.wrap_i64]; omega)
        · rw [okN_iff, plainB_iff]; first | (simp [nkI]; done) | (simp [nkI]; omega) | (simp [nkI, wrap64]; omega) | (simp [nkI, IntKind.wrap_i64]; omega)
set_option maxRecDepth 100000 in
set_option maxHeartbeats 1000000 in
theorem count_10 (a b : Int) (w : World) :
    Calls Try.prog 71 #[.agg #[.int .i64 10, .int .i64 a, .int .i64 b]] w (CountPost ⟨10, a, b⟩ w) := by
  by_cases a0 : a = 0
  · have a0b : (a == 0) = true := by simp [a0]
    have A0 := Lib.hid a0
    clear a0
    by_cases ht : 0 ≤ a ∧ a ≤ 63
    · obtain ⟨hl, hh⟩ := ht
      go_enter Try.func71, Try.ntmps71
      go_wp2_with (go_at_call 72; refine (within_any _ _ _ _).mono ?_; rintro e w2 ⟨rfl, rfl⟩)
      all_goals
        have a0 := A0.out
        refine bodyPost_ret (results_tmp2 rfl _ _ _) rfl ?_
        refine countPost ?_ ?_ (by first | exact below_alloc _ _ | exact below_box_drewN _ _ _)
        · rw [Bool.eq_iff_iff, okN_iff, plainB_iff]; first | (simp; done) | (simp; omega) | (simp [IntKind.wrap_i64]; omega)
        · rw [okN_iff, plainB_iff]; first | (simp [nkI]; done) | (simp [nkI]; omega) | (simp [nkI, wrap64]; omega) | (simp [nkI, IntKind.wrap_i64]; omega)
    · have htb : (decide ((0 : Int) ≤ a) && decide (a ≤ 63)) = false := by rw [Bool.and_eq_false_iff, decide_eq_false_iff_not, decide_eq_false_iff_not]; omega
      have HT := Lib.hid ht
      clear ht
      go_enter Try.func71, Try.ntmps71
      go_wp2_with (go_at_call 72; refine (within_any _ _ _ _).mono ?_; rintro e w2 ⟨rfl, rfl⟩)
      all_goals
        have a0 := A0.out
        have ht := HT.out
        refine bodyPost_ret (results_tmp2 rfl _ _ _) rfl ?_
        refine countPost ?_ ?_ (by first | exact below_alloc _ _ | exact below_box_drewN _ _ _)
        · rw [Bool.eq_iff_iff, okN_iff, plainB_iff]; first | (simp; done) | (simp; omega) | (simp [IntKind.wrap_i64]; omega)
        · rw [okN_iff, plainB_iff]; first | (simp [nkI]; done) | (simp [nkI]; omega) | (simp [nkI, wrap64]; omega) | (simp [nkI, IntKind.wrap_i64]; omega)
  · have a0b : (a == 0) = false := by simp [a0]
    have A0 := Lib.hid a0
    clear a0
    by_cases ht : 0 ≤ a ∧ a ≤ 63
    · obtain ⟨hl, hh⟩ := ht
      go_enter Try.func71, Try.ntmps71
      go_wp2_with (go_at_call 72; refine (within_any _ _ _ _).mono ?_; rintro e w2 ⟨rfl, rfl⟩)
      all_goals
        have a0 := A0.out
        refine bodyPost_ret (results_tmp2 rfl _ _ _) rfl ?_
        refine countPost ?_ ?_ (by first | exact below_alloc _ _ | exact below_box_drewN _ _ _)
        · rw [Bool.eq_iff_iff, okN_iff, plainB_iff]; first | (simp; done) | (simp; omega) | (simp [IntKind.wrap_i64]; omega)
        · rw [okN_iff, plainB_iff]; first | (simp [nkI]; done) | (simp [nkI]; omega) | (simp [nkI, wrap64]; omega) | (simp [nkI, IntKind.wrap_i64]; omega)
    · have htb : (decide ((0 : Int) ≤ a) && decide (a ≤ 63)) = false := by rw [Bool.and_eq_false_iff, decide_eq_false_iff_not, decide_eq_false_iff_not]; omega
      have HT := Lib.hid ht
      clear ht
      go_enter Try.func71, Try.ntmps71
      go_wp2_with (go_at_call 72; refine (within_any _ _ _ _).mono ?_; rintro e w2 ⟨rfl, rfl⟩)
      all_goals
        have a0 := A0.out
        have ht := HT.out
        refine bodyPost_ret (results_tmp2 rfl _ _ _) rfl ?_
        refine countPost ?_ ?_ (by first | exact below_alloc _ _ | exact below_box_drewN _ _ _)
        · rw [Bool.eq_iff_iff, okN_iff, plainB_iff]; first | (simp; done) | (simp; omega) | (simp [IntKind.wrap_i64]; omega)
        · rw [okN_iff, plainB_iff]; first | (simp [nkI]; done) | (simp [nkI]; omega) | (simp [nkI, wrap64]; omega) | (simp [nkI, IntKind.wrap_i64]; omega)
set_option maxRecDepth 100000 in
set_option maxHeartbeats 1000000 in
theorem count_11 (a b : Int) (w : World) :
    Calls Try.prog 71 #[.agg #[.int .i64 11, .int .i64 a, .int .i64 b]] w (CountPost ⟨11, a, b⟩ w) := by
  by_cases a0 : a = 0
  · have a0b : (a == 0) = true := by simp [a0]
    have A0 := Lib.hid a0
    clear a0
    by_cases ht : 0 ≤ a ∧ a ≤ 63
    · obtain ⟨hl, hh⟩ := ht
      go_enter Try.func71, Try.ntmps71
      go_wp2_with fail
      all_goals
        go_quiet ((go_at_call 72; first | exact within_qt _ _ _ _ _ (by omega) | exact within_qf _ _ _ _ _ (by omega) | exact within_q _ _ _ _ _))
        go_wp2_with fail
      all_goals
        have a0 := A0.out
        refine bodyPost_ret (results_tmp2 rfl _ _ _) rfl ?_
        refine countPost ?_ ?_ (by first | exact below_alloc _ _ | exact below_box_drewN _ _ _)
        · rw [Bool.eq_iff_iff, okN_iff, plainB_iff]; first | (simp; done) | (simp; omega) | (simp [IntKind.wrap_i64]; omega)
        · rw [okN_iff, plainB_iff]; first | (simp [nkI]; done) | (simp [nkI]; omega) | (simp [nkI, wrap64]; omega) | (simp [nkI, IntKind.wrap_i64]; omega)
    · have htb : (decide ((0 : Int) ≤ a) && decide (a ≤ 63)) = false := by rw [Bool.and_eq_false_iff, decide_eq_false_iff_not, decide_eq_false_iff_not]; omega
      have HT := Lib.hid ht
      go_enter Try.func71, Try.ntmps71
      go_wp2_with fail
      all_goals
        go_quiet ((go_at_call 72; first | exact within_qt _ _ _ _ _ (by omega) | exact within_qf _ _ _ _ _ (by omega) | exact within_q _ _ _ _ _))
        go_wp2_with fail
      all_goals
        have a0 := A0.out
        refine bodyPost_ret (results_tmp2 rfl _ _ _) rfl ?_
        refine countPost ?_ ?_ (by first | exact below_alloc _ _ | exact below_box_drewN _ _ _)
        · rw [Bool.eq_iff_iff, okN_iff, plainB_iff]; first | (simp; done) | (simp; omega) | (simp [IntKind.wrap_i64]; omega)
        · rw [okN_iff, plainB_iff]; first | (simp [nkI]; done) | (simp [nkI]; omega) | (simp [nkI, wrap64]; omega) | (simp [nkI, IntKind.wrap_i64]; omega)
  · have a0b : (a == 0) = false := by simp [a0]
    have A0 := Lib.hid a0
    clear a0
    by_cases ht : 0 ≤ a ∧ a ≤ 63
    · obtain ⟨hl, hh⟩ := ht
      go_enter Try.func71, Try.ntmps71
      go_wp2_with fail
      all_goals
        go_quiet ((go_at_call 72; first | exact within_qt _ _ _ _ _ (by omega) | exact within_qf _ _ _ _ _ (by omega) | exact within_q _ _ _ _ _))
        go_wp2_with fail
      all_goals
        have a0 := A0.out
        refine bodyPost_ret (results_tmp2 rfl _ _ _) rfl ?_
        refine countPost ?_ ?_ (by first | exact below_alloc _ _ | exact below_box_drewN _ _ _)
        · rw [Bool.eq_iff_iff, okN_iff, plainB_iff]; first | (simp; done) | (simp; omega) | (simp [IntKind.wrap_i64]; omega)
        · rw [okN_iff, plainB_iff]; first | (simp [nkI]; done) | (simp [nkI]; omega) | (simp [nkI, wrap64]; omega) | (simp [nkI, IntKind.wrap_i64]; omega)
    · have htb : (decide ((0 : Int) ≤ a) && decide (a ≤ 63)) = false := by rw [Bool.and_eq_false_iff, decide_eq_false_iff_not, decide_eq_false_iff_not]; omega
      have HT := Lib.hid ht
      go_enter Try.func71, Try.ntmps71
      go_wp2_with fail
      all_goals
        go_quiet ((go_at_call 72; first | exact within_qt _ _ _ _ _ (by omega) | exact within_qf _ _ _ _ _ (by omega) | exact within_q _ _ _ _ _))
        go_wp2_with fail
      all_goals
        have a0 := A0.out
        refine bodyPost_ret (results_tmp2 rfl _ _ _) rfl ?_
        refine countPost ?_ ?_ (by first | exact below_alloc _ _ | exact below_box_drewN _ _ _)
        · rw [Bool.eq_iff_iff, okN_iff, plainB_iff]; first | (simp; done) | (simp; omega) | (simp [IntKind.wrap_i64]; omega)
        · rw [okN_iff, plainB_iff]; first | (simp [nkI]; done) | (simp [nkI]; omega) | (simp [nkI, wrap64]; omega) | (simp [nkI, IntKind.wrap_i64]; omega)
set_option maxRecDepth 100000 in
set_option maxHeartbeats 1000000 in
theorem count_12 (a b : Int) (w : World) :
    Calls Try.prog 71 #[.agg #[.int .i64 12, .int .i64 a, .int .i64 b]] w (CountPost ⟨12, a, b⟩ w) := by
  by_cases a0 : a = 0
  · have a0b : (a == 0) = true := by simp [a0]
    have A0 := Lib.hid a0
    clear a0
    by_cases ht : 1 ≤ b ∧ b ≤ 4
    · obtain ⟨hl, hh⟩ := ht
      go_enter Try.func71, Try.ntmps71
      go_wp2_with fail
      all_goals
        go_quiet ((go_at_call 72; first | exact within_qt _ _ _ _ _ (by omega) | exact within_qf _ _ _ _ _ (by omega) | exact within_q _ _ _ _ _))
        go_wp2_with fail
      all_goals
        have a0 := A0.out
        refine bodyPost_ret (results_tmp2 rfl _ _ _) rfl ?_
        refine countPost ?_ ?_ (by first | exact below_alloc _ _ | exact below_box_drewN _ _ _)
        · rw [Bool.eq_iff_iff, okN_iff, plainB_iff]; first | (simp; done) | (simp; omega) | (simp [IntKind.wrap_i64]; omega)
        · rw [okN_iff, plainB_iff]; first | (simp [nkI]; done) | (simp [nkI]; omega) | (simp [nkI, wrap64]; omega) | (simp [nkI, IntKind.wrap_i64]; omega)
    · have htb : (decide ((1 : Int) ≤ b) && decide (b ≤ 4)) = false := by rw [Bool.and_eq_false_iff, decide_eq_false_iff_not, decide_eq_false_iff_not]; omega
      have HT := Lib.hid ht
      go_enter Try.func71, Try.ntmps71
      go_wp2_with fail
      all_goals
        go_quiet ((go_at_call 72; first | exact within_qt _ _ _ _ _ (by omega) | exact within_qf _ _ _ _ _ (by omega) | exact within_q _ _ _ _ _))
        go_wp2_with fail
      all_goals
        have a0 := A0.out
        refine bodyPost_ret (results_tmp2 rfl _ _ _) rfl ?_
        refine countPost ?_ ?_ (by first | exact below_alloc _ _ | exact below_box_drewN _ _ _)
        · rw [Bool.eq_iff_iff, okN_iff, plainB_iff]; first | (simp; done) | (simp; omega) | (simp [IntKind.wrap_i64]; omega)
        · rw [okN_iff, plainB_iff]; first | (simp [nkI]; done) | (simp [nkI]; omega) | (simp [nkI, wrap64]; omega) | (simp [nkI, IntKind.wrap_i64]; omega)
  · have a0b : (a == 0) = false := by simp [a0]
    have A0 := Lib.hid a0
    clear a0
    by_cases ht : 1 ≤ b ∧ b ≤ 4
    · obtain ⟨hl, hh⟩ := ht
      go_enter Try.func71, Try.ntmps71
      go_wp2_with fail
      all_goals
        go_quiet ((go_at_call 72; first | exact within_qt _ _ _ _ _ (by omega) | exact within_qf _ _ _ _ _ (by omega) | exact within_q _ _ _ _ _))
        go_wp2_with fail
      all_goals
        have a0 := A0.out
        refine bodyPost_ret (results_tmp2 rfl _ _ _) rfl ?_
        refine countPost ?_ ?_ (by first | exact below_alloc _ _ | exact below_box_drewN _ _ _)
        · rw [Bool.eq_iff_iff, okN_iff, plainB_iff]; first | (simp; done) | (simp; omega) | (simp [IntKind.wrap_i64]; omega)
        · rw [okN_iff, plainB_iff]; first | (simp [nkI]; done) | (simp [nkI]; omega) | (simp [nkI, wrap64]; omega) | (simp [nkI, IntKind.wrap_i64]; omega)
    · have htb : (decide ((1 : Int) ≤ b) && decide (b ≤ 4)) = false := by rw [Bool.and_eq_false_iff, decide_eq_false_iff_not, decide_eq_false_iff_not]; omega
      have HT := Lib.hid ht
      go_enter Try.func71, Try.ntmps71
      go_wp2_with fail
      all_goals
        go_quiet ((go_at_call 72; first | exact within_qt _ _ _ _ _ (by omega) | exact within_qf _ _ _ _ _ (by omega) | exact within_q _ _ _ _ _))
        go_wp2_with fail
      all_goals
        have a0 := A0.out
        refine bodyPost_ret (results_tmp2 rfl _ _ _) rfl ?_
        refine countPost ?_ ?_ (by first | exact below_alloc _ _ | exact below_box_drewN _ _ _)
        · rw [Bool.eq_iff_iff, okN_iff, plainB_iff]; first | (simp; done) | (simp; omega) | (simp [IntKind.wrap_i64]; omega)
        · rw [okN_iff, plainB_iff]; first | (simp [nkI]; done) | (simp [nkI]; omega) | (simp [nkI, wrap64]; omega) | (simp [nkI, IntKind.wrap_i64]; omega)

set_option maxRecDepth 100000 in
set_option maxHeartbeats 1000000 in
theorem count_bad (op a b : Int) (w : World) (hop : ¬ (1 ≤ op ∧ op ≤ 12 ∧ op ≠ 3)) :
    Calls Try.prog 71 #[.agg #[.int .i64 op, .int .i64 a, .int .i64 b]] w (CountPost ⟨op, a, b⟩ w) := by
  have b1 : (op == 1) = false := beq_eq_false_iff_ne.2 (by omega)
  have b2 : (op == 2) = false := beq_eq_false_iff_ne.2 (by omega)
  have b4 : (op == 4) = false := beq_eq_false_iff_ne.2 (by omega)
  have b5 : (op == 5) = false := beq_eq_false_iff_ne.2 (by omega)
  have b6 : (op == 6) = false := beq_eq_false_iff_ne.2 (by omega)
  have b7 : (op == 7) = false := beq_eq_false_iff_ne.2 (by omega)
  have b8 : (op == 8) = false := beq_eq_false_iff_ne.2 (by omega)
  have b9 : (op == 9) = false := beq_eq_false_iff_ne.2 (by omega)
  have b10 : (op == 10) = false := beq_eq_false_iff_ne.2 (by omega)
  have b11 : (op == 11) = false := beq_eq_false_iff_ne.2 (by omega)
  have b12 : (op == 12) = false := beq_eq_false_iff_ne.2 (by omega)
  have HOP := Lib.hid hop
  clear hop
  by_cases a0 : a = 0
  · have a0b : (a == 0) = true := by simp [a0]
    clear a0
    go_enter Try.func71, Try.ntmps71
    go_wp2_with fail
    all_goals
      refine bodyPost_ret (results_tmp2 rfl _ _ _) rfl ?_
      refine countPost ?_ ?_ (below_alloc _ _)
      · have hop := HOP.out
        symm
        rw [okN_false_iff, plainB_iff]; dsimp only; omega
      · have hop := HOP.out
        rw [okN_iff, plainB_iff]; dsimp only; omega
  · have a0b : (a == 0) = false := by simp [a0]
    clear a0
    go_enter Try.func71, Try.ntmps71
    go_wp2_with fail
    all_goals
      refine bodyPost_ret (results_tmp2 rfl _ _ _) rfl ?_
      refine countPost ?_ ?_ (below_alloc _ _)
      · have hop := HOP.out
        symm
        rw [okN_false_iff, plainB_iff]; dsimp only; omega
      · have hop := HOP.out
        rw [okN_iff, plainB_iff]; dsimp only; omega

theorem count_any (op a b : Int) (w : World) :
    Calls Try.prog 71 #[.agg #[.int .i64 op, .int .i64 a, .int .i64 b]] w (CountPost ⟨op, a, b⟩ w) := by
  by_cases hop : 1 ≤ op ∧ op ≤ 12 ∧ op ≠ 3
  · have : op = 1 ∨ op = 2 ∨ op = 4 ∨ op = 5 ∨ op = 6 ∨ op = 7 ∨ op = 8 ∨ op = 9 ∨ op = 10 ∨ op = 11 ∨ op = 12 := by omega
    rcases this with rfl | rfl | rfl | rfl | rfl | rfl | rfl | rfl | rfl | rfl | rfl
    · exact count_1 a b w
    · exact count_2 a b w
    · exact count_4 a b w
    · exact count_5 a b w
    · exact count_6 a b w
    · exact count_7 a b w
    · exact count_8 a b w
    · exact count_9 a b w
    · exact count_10 a b w
    · exact count_11 a b w
    · exact count_12 a b w
  · exact count_bad op a b w hop


theorem count_yes (op a b : Int) (w : World) (h : okN ⟨op, a, b⟩ = true) :
    Calls Try.prog 71 #[.agg #[.int .i64 op, .int .i64 a, .int .i64 b]] w fun e w' => e = .returned (.tuple #[.int .i64 (nkI op b), .bool true]) ∧ Below w.heap.size w w' :=
  (count_any op a b w).mono fun _ _ ⟨⟨k, h1, h2⟩, h3⟩ => ⟨by rw [h1, h, h2 h], h3⟩
theorem count_no (op a b : Int) (w : World) (h : okN ⟨op, a, b⟩ = false) :
    Calls Try.prog 71 #[.agg #[.int .i64 op, .int .i64 a, .int .i64 b]] w fun e w' => (∃ k : Int, e = .returned (.tuple #[.int .i64 k, .bool false])) ∧ Below w.heap.size w w' :=
  (count_any op a b w).mono fun _ _ ⟨⟨k, h1, _⟩, h3⟩ => ⟨⟨k, by rw [h1, h]⟩, h3⟩


end Go.Proofs.Ytnmeglbamfjcgaa
