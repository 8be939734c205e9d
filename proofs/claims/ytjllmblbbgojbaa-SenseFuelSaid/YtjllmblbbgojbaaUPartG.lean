/- A term is taken just if its kids are: plain laws. -/
import Derived.Test.YtjllmblbbgojbaaULiftG
import Derived.Test.YtjllmblbbgojbaaUPutG
import Derived.Test.YtjllmblbbgojbaaUKidss
namespace Go.Proofs.Ytjllmblbbgojbaa
open Go.RowKit
theorem rowsL_kid : ∀ (F : Fo), rowsL F = (kidL F).map rowT
 | .nil => rfl
 | .cons p n a k x => by
  rw [kidL_cons, List.map_cons, ← rowsL_kid x]
  simp [rowsL, row, rowT]
theorem kid_wf : ∀ {F : Fo} {dl : List Bool}, Wf dl F → ∀ {y : TT}, y ∈ kidL F → OkT y
 | .nil, _, _, y, h => by cases h
 | .cons _ _ _ _ _, [], h, _, _ => h.elim
 | .cons p n a k x, d :: dr, h, y, hy => by
  obtain ⟨_, hok, hat, hk, hx⟩ := h
  rw [kidL_cons] at hy
  rcases List.mem_cons.1 hy with rfl | hy
  · exact ⟨hok, hat, hk⟩
  · exact kid_wf hx hy
end Go.Proofs.Ytjllmblbbgojbaa
