/- The leaves that tell how many kids a node has, and the binders around them. -/
import Derived.Test.YtnmeglbamfjcgaaProg
import Derived.Test.YtnmeglbamfjcgaaMem
import Derived.Test.YtnmeglbamfjcgaaLeaf
import Derived.WalkKit
import Derived.WalkLawsBesides
import Derived.WalkSpells
import Derived.Lib.Hide
import Derived.Deep.QuietTactic
import Derived.BigQuiet
namespace Go.Proofs.Ytnmeglbamfjcgaa
open Go.RowKit

set_option maxRecDepth 100000 in
set_option maxHeartbeats 1000000 in
theorem kids_any (op a b : Int) (w : World) (hb : -1000 ≤ b ∧ b ≤ 1000) :
    Calls Try.prog 60 #[.agg #[.int .i64 op, .int .i64 a, .int .i64 b]] w fun e w' => e = .returned (.int .i64 (kidsI op b)) ∧ w.alloc (.cells #[.int .i64 op, .int .i64 a, .int .i64 b] 53) = w' := by
  obtain ⟨hb1, hb2⟩ := hb
  by_cases h : op = 4 ∨ op = 5 ∨ op = 6 ∨ op = 7 ∨ op = 11 ∨ op = 12 ∨ op = 13
  · rcases h with rfl | rfl | rfl | rfl | rfl | rfl | rfl
    all_goals
      go_enter Try.func60, Try.ntmps60
      go_wp2
      all_goals
        go_ret
        refine ⟨ret_int ?_, rfl⟩
        simp [kidsI]
  ·
    have b4 : (op == 4) = false := beq_eq_false_iff_ne.2 (by omega)
    have b5 : (op == 5) = false := beq_eq_false_iff_ne.2 (by omega)
    have b6 : (op == 6) = false := beq_eq_false_iff_ne.2 (by omega)
    have b7 : (op == 7) = false := beq_eq_false_iff_ne.2 (by omega)
    have b11 : (op == 11) = false := beq_eq_false_iff_ne.2 (by omega)
    have b12 : (op == 12) = false := beq_eq_false_iff_ne.2 (by omega)
    have b13 : (op == 13) = false := beq_eq_false_iff_ne.2 (by omega)
    have hp : kidsI op b = 0 := by
      simp only [kidsI]
      repeat rw [if_neg (by omega)]
    have HP := Lib.hid hp
    clear hp h
    go_enter Try.func60, Try.ntmps60
    go_wp2
    go_ret
    exact ⟨ret_int HP.out.symm, rfl⟩

set_option maxRecDepth 100000 in
set_option maxHeartbeats 1000000 in
theorem binders_any (op a b k : Int) (w : World) :
    Calls Try.prog 69 #[.agg #[.int .i64 op, .int .i64 a, .int .i64 b], .int .i64 k] w fun e w' => e = .returned (.int .i64 (bindersI op k)) ∧ w.alloc (.cells #[.int .i64 op, .int .i64 a, .int .i64 b] 53) = w' := by
  by_cases h : op = 4 ∨ op = 5 ∨ op = 7
  · rcases h with rfl | rfl | rfl
    all_goals
      by_cases k1 : k = 1
      · subst k1
        go_enter Try.func69, Try.ntmps69
        go_wp2
        all_goals
          go_ret
          refine ⟨ret_int ?_, rfl⟩
          simp [bindersI]
      · by_cases k2 : k = 2
        · subst k2
          go_enter Try.func69, Try.ntmps69
          go_wp2
          all_goals
            go_ret
            refine ⟨ret_int ?_, rfl⟩
            simp [bindersI]
        · have c1 : (k == 1) = false := beq_eq_false_iff_ne.2 k1
          have c2 : (k == 2) = false := beq_eq_false_iff_ne.2 k2
          have K1 := Lib.hid k1
          have K2 := Lib.hid k2
          clear k1 k2
          go_enter Try.func69, Try.ntmps69
          go_wp2
          all_goals
            go_ret
            refine ⟨ret_int ?_, rfl⟩
            simp [bindersI, K1.out, K2.out]
  ·
    have b4 : (op == 4) = false := beq_eq_false_iff_ne.2 (by omega)
    have b5 : (op == 5) = false := beq_eq_false_iff_ne.2 (by omega)
    have b7 : (op == 7) = false := beq_eq_false_iff_ne.2 (by omega)
    have hp : bindersI op k = 0 := by
      simp only [bindersI]
      rw [if_neg (by omega)]
    have HP := Lib.hid hp
    clear hp h
    go_enter Try.func69, Try.ntmps69
    go_wp2
    go_ret
    exact ⟨ret_int HP.out.symm, rfl⟩

set_option maxRecDepth 100000 in
set_option maxHeartbeats 1000000 in
theorem around_any (op a b k : Int) (w : World) (hk : 0 ≤ k) :
    Calls Try.prog 63 #[.agg #[.int .i64 op, .int .i64 a, .int .i64 b], .int .i64 k] w fun e w' => e = .returned (.int .i64 (aroundI op b k)) ∧ w.alloc (.cells #[.int .i64 op, .int .i64 a, .int .i64 b] 53) = w' := by
  by_cases h : op = 4 ∨ op = 5 ∨ op = 7 ∨ op = 12
  · rcases h with rfl | rfl | rfl | rfl
    iterate 3
      by_cases k1 : k = 1
      · subst k1
        go_enter Try.func63, Try.ntmps63
        go_wp2
        all_goals
          go_ret
          refine ⟨ret_int ?_, rfl⟩
          simp [aroundI]
      · by_cases k2 : k = 2
        · subst k2
          go_enter Try.func63, Try.ntmps63
          go_wp2
          all_goals
            go_ret
            refine ⟨ret_int ?_, rfl⟩
            simp [aroundI]
        · have c1 : (k == 1) = false := beq_eq_false_iff_ne.2 k1
          have c2 : (k == 2) = false := beq_eq_false_iff_ne.2 k2
          have K1 := Lib.hid k1
          have K2 := Lib.hid k2
          clear k1 k2
          go_enter Try.func63, Try.ntmps63
          go_wp2
          all_goals
            go_ret
            refine ⟨ret_int ?_, rfl⟩
            simp [aroundI, K1.out, K2.out]
    by_cases k1 : k % 2 = 1
    · have c1 : (k % 2 == 1) = true := beq_iff_eq.2 k1
      have K1 := Lib.hid k1
      clear k1
      go_enter Try.func63, Try.ntmps63
      go_wp2
      all_goals
        go_ret
        refine ⟨ret_int ?_, rfl⟩
        simp [aroundI, K1.out]
    · have c1 : (k % 2 == 1) = false := beq_eq_false_iff_ne.2 k1
      have K1 := Lib.hid k1
      clear k1
      go_enter Try.func63, Try.ntmps63
      go_wp2
      all_goals
        go_ret
        refine ⟨ret_int ?_, rfl⟩
        simp [aroundI, K1.out]
  ·
    have b4 : (op == 4) = false := beq_eq_false_iff_ne.2 (by omega)
    have b5 : (op == 5) = false := beq_eq_false_iff_ne.2 (by omega)
    have b7 : (op == 7) = false := beq_eq_false_iff_ne.2 (by omega)
    have b12 : (op == 12) = false := beq_eq_false_iff_ne.2 (by omega)
    have hp : aroundI op b k = 0 := by
      simp only [aroundI]
      rw [if_neg (by omega), if_neg (by omega)]
    have HP := Lib.hid hp
    clear hp h
    go_enter Try.func63, Try.ntmps63
    go_wp2
    go_ret
    exact ⟨ret_int HP.out.symm, rfl⟩

end Go.Proofs.Ytnmeglbamfjcgaa
