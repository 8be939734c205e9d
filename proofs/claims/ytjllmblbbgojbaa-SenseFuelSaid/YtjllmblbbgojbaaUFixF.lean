/- The fixes of a row, told of forests; free variables replaced. -/
import Derived.Test.YtjllmblbbgojbaaUFines
import Derived.Test.YtjllmblbbgojbaaUTr
namespace Go.Proofs.Ytjllmblbbgojbaa
open Go.RowKit
section
variable {σ : Int → Nd → TT} {places : List Int} {ca : Int → Nat → Nat}
def VkF : Fo → Prop
 | .nil => True
 | .cons _ n ats k x => (n.op = 1 → ats = [] ∧ k = .nil) ∧ VkF k ∧ VkF x
theorem around_ge {op b : Int} (h : op = 12 → 0 ≤ b) (k : Int) : 0 ≤ aroundI op b k := by
 unfold aroundI
 split
 · omega
 split
 · rename_i h2; exact h h2.1
 omega
end
end Go.Proofs.Ytjllmblbbgojbaa
