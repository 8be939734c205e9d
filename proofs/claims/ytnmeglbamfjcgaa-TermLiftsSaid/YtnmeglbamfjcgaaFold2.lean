/- Bounds on what the reference reckons over trees. -/
import Derived.Test.YtnmeglbamfjcgaaFold
namespace Go.Proofs.Ytnmeglbamfjcgaa

theorem tim_bd' (pop pb : Int) (ha : ∀ k : Int, 0 ≤ aroundI pop pb k ∧ aroundI pop pb k ≤ 4) : ∀ (j : Nat) (v : Int) (F : Fo), AllOk F → 0 ≤ (tim pop pb j v F).1 ∧ (tim pop pb j v F).1 ≤ fsize F ∧ 0 ≤ (tim pop pb j v F).2 ∧ (tim pop pb j v F).2 ≤ 4 * fsize F
  | _, _, .nil, _ => by simp [tim, fsize]
  | j, v, .cons p n a k x, h => by
    obtain ⟨h1, h2, h3⟩ := h
    have hk := tim_bd' n.op n.b (fun i => aroundI_bd h1 i) 0 (v + aroundI pop pb j) k h2
    have hx := tim_bd' pop pb ha (j + 1) v x h3
    obtain ⟨a1, a2⟩ := ha j
    have hq : 0 ≤ (timT n k (v + aroundI pop pb j)).1 ∧ (timT n k (v + aroundI pop pb j)).1 ≤ fsize k + 1 ∧ 0 ≤ (timT n k (v + aroundI pop pb j)).2 ∧ (timT n k (v + aroundI pop pb j)).2 ≤ 4 * fsize k := by
      simp only [timT]
      split
      · split <;> (simp only; omega)
      · omega
    rw [tim_cons]
    simp only [fsize]
    refine ⟨by omega, by omega, ?_, ?_⟩ <;> split <;> omega
theorem tim_bd {n : Nd} (h : okN n = true) (j : Nat) (v : Int) (F : Fo) (hF : AllOk F) : 0 ≤ (tim n.op n.b j v F).1 ∧ (tim n.op n.b j v F).1 ≤ fsize F ∧ 0 ≤ (tim n.op n.b j v F).2 ∧ (tim n.op n.b j v F).2 ≤ 4 * fsize F :=
  tim_bd' n.op n.b (fun i => aroundI_bd h i) j v F hF
theorem timT_bd {n : Nd} (h : okN n = true) (v : Int) (F : Fo) (hF : AllOk F) : 0 ≤ (timT n F v).1 ∧ (timT n F v).1 ≤ fsize F + 1 ∧ 0 ≤ (timT n F v).2 ∧ (timT n F v).2 ≤ 4 * fsize F := by
  have := tim_bd h 0 v F hF
  simp only [timT]
  split
  · split <;> (simp only; omega)
  · omega

end Go.Proofs.Ytnmeglbamfjcgaa
