/- Pieces of rows of nodes, as the program cuts them. -/
import Derived.Test.YtnmeglbamfjcgaaProg
import Derived.Test.YtnmeglbamfjcgaaMem
import Derived.Test.YtnmeglbamfjcgaaOwn
import Derived.WalkKit
import Derived.WalkLawsBesides
import Derived.WalkSpells
namespace Go.Proofs.Ytnmeglbamfjcgaa
open Go.RowKit

theorem TermR.cutAt {R : Nat → Prop} {w : World} {A : Option Addr} {n c : Nat} {l : List Nd} (h : TermR R w A n c l) {k : Nat} (hk : k ≤ n) :
    TermR R w (if c = k then A else A.map (·.add (k * 3))) (n - k) (c - k) (l.drop k) := by
  refine ⟨by rw [List.length_drop, h.len], by have := h.cap; omega, by have := h.few; omega, fun e => ?_, fun hn => ?_⟩
  · split at e
    · omega
    · have := h.nul (by simpa using e); omega
  obtain ⟨b, off, rfl, hb, hc⟩ := h.mem (by omega)
  have := h.cap
  rw [if_neg (by omega)]
  refine ⟨b, off + k * 3, ?_, hb, ?_⟩
  · simp only [Option.map_some, Addr.add]
    split
    · rename_i h0; rw [h0, Nat.add_zero]
    · rfl
  · intro j hj
    rw [List.length_drop, h.len] at hj
    rw [nth_drop]
    have := hc (k + j) (by rw [h.len]; omega)
    rwa [Nat.add_mul, ← Nat.add_assoc] at this
theorem TermR.frontAt {R : Nat → Prop} {w : World} {A : Option Addr} {n c : Nat} {l : List Nd} (h : TermR R w A n c l) {k : Nat} (hk : k ≤ n) : TermR R w A k c (l.take k) := by
  refine ⟨by rw [List.length_take, h.len]; omega, by have := h.cap; omega, by have := h.few; omega, h.nul, fun hn => ?_⟩
  obtain ⟨b, off, e, hb, hc⟩ := h.mem (by omega)
  refine ⟨b, off, e, hb, ?_⟩
  intro j hj
  rw [List.length_take] at hj
  rw [nth_take (by omega)]
  exact hc j (by omega)

theorem size_node (w : World) : (sizeOf 53).run Try.prog w = .ok 3 w := by kernel_rfl

/-- 't[k:]'. -/
theorem cut_from (A : Option Addr) (n c k : Nat) (hk : k ≤ n) : ∃ A', (∀ w : World, (Instr.slice 23 (.slice A n c) (some (.int .i64 (k : Int))) none none).run Try.prog w = .ok (.slice A' (n - k) (c - k)) w) ∧
    ∀ (R : Nat → Prop) (w : World) (l : List Nd), TermR R w A n c l → TermR R w A' (n - k) (c - k) (l.drop k) := by
  refine ⟨if c = k then A else A.map (·.add (k * 3)), fun w => ?_, fun R w l h => h.cutAt hk⟩
  rw [run_slice_l w 23 A n c (by kernel_rfl) .i64 (k : Int) (by omega) (by omega)]
  have e : Try.prog.elem 23 = 53 := by kernel_rfl
  rw [e, size_node]
  rfl
/-- 't[j:k]'. -/
theorem cut_mid (A : Option Addr) (n c j k : Nat) (hj : j ≤ k) (hk : k ≤ n) (hc : n ≤ c) : ∃ A', (∀ w : World, (Instr.slice 23 (.slice A n c) (some (.int .i64 (j : Int))) (some (.int .i64 (k : Int))) none).run Try.prog w = .ok (.slice A' (k - j) (c - j)) w) ∧
    ∀ (R : Nat → Prop) (w : World) (l : List Nd), TermR R w A n c l → TermR R w A' (k - j) (c - j) ((l.take k).drop j) := by
  refine ⟨if c = j then A else A.map (·.add (j * 3)), fun w => ?_, fun R w l h => (h.frontAt hk).cutAt hj⟩
  rw [run_slice_lh w 23 A n c (by kernel_rfl) .i64 .i64 (j : Int) (k : Int) (by omega) (by omega) (by omega)]
  have e : Try.prog.elem 23 = 53 := by kernel_rfl
  rw [e, size_node]
  rfl

end Go.Proofs.Ytnmeglbamfjcgaa
