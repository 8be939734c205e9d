/- Merged: Match, FineS. -/
import Derived.Test.YtjllmblbbgojbaaTHeads
import Derived.Test.YtjllmblbbgojbaaTLeafs
namespace Go.Proofs.Ytjllmblbbgojbaa
section
open Go.RowKit
end
section
open Go.RowKit
theorem hd_len : ∀ (m : Nat) (x : TT), RtX x → (hd m x).2.length < (rowT x).length
 | 0, x, _ => by
  obtain ⟨n, a, k⟩ := x
  simp [hd, rowT]
 | m + 1, (n, a, k), h => by
  by_cases h6 : n.op = 6
  · obtain ⟨n1, a1, k1, n2, a2, k2, rfl, hs⟩ := app_split h h6
    rw [hd_app h6]
    have e1 := hd_len m (n1, a1, k1) hs.fst
    have hr := congrArg List.length hs.eq
    simp only [rowT, List.length_cons, List.length_append] at hr e1 ⊢
    simp only [List.length_nil]
    omega
  · rw [hd_stop (x := (n, a, k)) h6]
    simp [rowT]
end
end Go.Proofs.Ytjllmblbbgojbaa
