/- Free variables replaced: a term is fine as before. -/
import Derived.Test.YtjllmblbbgojbaaUFineW
namespace Go.Proofs.Ytjllmblbbgojbaa
open Go.RowKit
def trF (σ : Int → Nd → TT) (pop pb : Int) : Nat → Int → Fo → Fo
 | _, _, .nil => .nil
 | j, a, .cons p n ats k x =>
  if n.op = 1 then .cons p (σ (a + aroundI pop pb j) n).1 (σ (a + aroundI pop pb j) n).2.1 (σ (a + aroundI pop pb j) n).2.2 (trF σ pop pb (j + 1) a x)
  else .cons p n ats (trF σ n.op n.b 0 (a + aroundI pop pb j) k) (trF σ pop pb (j + 1) a x)
def trT (σ : Int → Nd → TT) (a : Int) (x : TT) : TT := if x.1.op = 1 then σ a x.1 else (x.1, x.2.1, trF σ x.1.op x.1.b 0 a x.2.2)
section
variable {σ : Int → Nd → TT}
theorem trT_var {a : Int} {x : TT} (h : x.1.op = 1) : trT σ a x = σ a x.1 := by unfold trT; rw [if_pos h]
theorem trT_other {a : Int} {x : TT} (h : x.1.op ≠ 1) : trT σ a x = (x.1, x.2.1, trF σ x.1.op x.1.b 0 a x.2.2) := by unfold trT; rw [if_neg h]
theorem trF_cons (pop pb : Int) (j : Nat) (a : Int) (p : List Nd) (n : Nd) (ats : List Nd) (k x : Fo) : trF σ pop pb j a (.cons p n ats k x) = .cons p (trT σ (a + aroundI pop pb j) (n, ats, k)).1 (trT σ (a + aroundI pop pb j) (n, ats, k)).2.1 (trT σ (a + aroundI pop pb j) (n, ats, k)).2.2 (trF σ pop pb (j + 1) a x) := by
 simp only [trF, trT]
 split <;> rfl
theorem kidL_cons (p : List Nd) (n : Nd) (a : List Nd) (k x : Fo) : kidL (.cons p n a k x) = (n, a, k) :: kidL x := rfl
theorem around_plain {op b : Int} (h4 : op ≠ 4) (h5 : op ≠ 5) (h7 : op ≠ 7) (h12 : op ≠ 12) (k : Int) : aroundI op b k = 0 := by
 unfold aroundI
 rw [if_neg (by omega), if_neg (by omega)]
def BOk : Fo → Prop
 | .nil => True
 | .cons _ n _ k x => (n.op = 12 → 0 ≤ n.b) ∧ BOk k ∧ BOk x
variable {places : List Int} {ca : Int → Nat → Nat}
end
end Go.Proofs.Ytjllmblbbgojbaa
