/- The leaves: what each small function of nodes computes. -/
import Derived.Test.YtnmeglbamfjcgaaProg
import Derived.Test.YtnmeglbamfjcgaaMem
import Derived.Test.YtnmeglbamfjcgaaTree
import Derived.WalkKit
import Derived.WalkLawsBesides
import Derived.WalkSpells
import Derived.Lib.Hide
import Derived.Deep.QuietTactic
import Derived.BigQuiet
namespace Go.Proofs.Ytnmeglbamfjcgaa
open Go.RowKit

theorem entry_any (op a b : Int) (w : World) :
    Calls Try.prog 73 #[.agg #[.int .i64 op, .int .i64 a, .int .i64 b]] w fun e w' => e = .returned (.bool (decide (0 ≤ a) && decide (a < 64))) ∧ w.alloc (.cells #[.int .i64 op, .int .i64 a, .int .i64 b] 53) = w' := by
  go_enter Try.func73, Try.ntmps73
  go_wp2
  all_goals
    go_ret
    exact ⟨ret_bool (by simp <;> omega), rfl⟩

def PlainPost (op a b : Int) (w : World) (e : Ending) (w' : World) : Prop := e = .returned (.bool (plainB op a b)) ∧ Below w.heap.size w w'

set_option maxRecDepth 100000 in
set_option maxHeartbeats 2000000 in
theorem plain_any (op a b : Int) (w : World) :
    Calls Try.prog 58 #[.agg #[.int .i64 op, .int .i64 a, .int .i64 b]] w (PlainPost op a b w) := by
  by_cases h : 1 ≤ op ∧ op ≤ 13
  · obtain ⟨h0, h13⟩ := h
    obtain ⟨k, rfl⟩ := Int.eq_ofNat_of_zero_le (by omega : 0 ≤ op)
    have : k = 1 ∨ k = 2 ∨ k = 3 ∨ k = 4 ∨ k = 5 ∨ k = 6 ∨ k = 7 ∨ k = 8 ∨ k = 9 ∨ k = 10 ∨ k = 11 ∨ k = 12 ∨ k = 13 := by omega
    clear h0 h13
    rcases this with rfl | rfl | rfl | rfl | rfl | rfl | rfl | rfl | rfl | rfl | rfl | rfl | rfl
    all_goals
      go_enter Try.func58, Try.ntmps58
      go_wp2_with (go_at_call 73; refine (entry_any _ _ _ _).mono ?_; rintro e w' ⟨rfl, rfl⟩)
      all_goals
        go_ret
        refine ⟨ret_bool ?_, by first | exact below_alloc _ _ | exact below_alloc2 _ _ _⟩
        rw [Bool.eq_iff_iff]
        simp [plainB]
        try omega
  · have b1 : (op == 1) = false := beq_eq_false_iff_ne.2 (by omega)
    have b2 : (op == 2) = false := beq_eq_false_iff_ne.2 (by omega)
    have b3 : (op == 3) = false := beq_eq_false_iff_ne.2 (by omega)
    have b4 : (op == 4) = false := beq_eq_false_iff_ne.2 (by omega)
    have b5 : (op == 5) = false := beq_eq_false_iff_ne.2 (by omega)
    have b6 : (op == 6) = false := beq_eq_false_iff_ne.2 (by omega)
    have b7 : (op == 7) = false := beq_eq_false_iff_ne.2 (by omega)
    have b8 : (op == 8) = false := beq_eq_false_iff_ne.2 (by omega)
    have b9 : (op == 9) = false := beq_eq_false_iff_ne.2 (by omega)
    have b10 : (op == 10) = false := beq_eq_false_iff_ne.2 (by omega)
    have b11 : (op == 11) = false := beq_eq_false_iff_ne.2 (by omega)
    have b12 : (op == 12) = false := beq_eq_false_iff_ne.2 (by omega)
    have b13 : (op == 13) = false := beq_eq_false_iff_ne.2 (by omega)
    have hp : plainB op a b = false := by
      simp only [plainB]
      repeat rw [if_neg (by omega)]
    have HP := Lib.hid hp
    clear hp h
    go_enter Try.func58, Try.ntmps58
    go_wp2
    go_ret
    exact ⟨ret_bool HP.out.symm, below_alloc _ _⟩

theorem within_any (n lo hi : Int) (w : World) :
    Calls Try.prog 72 #[.int .i64 n, .int .i64 lo, .int .i64 hi] w fun e w' => e = .returned (.bool (decide (lo ≤ n) && decide (n ≤ hi))) ∧ w = w' := by
  go_enter Try.func72, Try.ntmps72
  go_wp2
  all_goals
    go_ret
    exact ⟨ret_bool (by simp <;> omega), rfl⟩

end Go.Proofs.Ytnmeglbamfjcgaa
