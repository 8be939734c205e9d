/- Merged: FineL, FineT, FineX. -/
import Derived.Test.YtjllmblbbgojbaaUShort2
import Derived.Test.YtjllmblbbgojbaaUFineS
namespace Go.Proofs.Ytjllmblbbgojbaa
section
open Go.RowKit
end
section
open Go.RowKit
end
section
open Go.RowKit
def dsF : Nat → List Bool
 | 0 => []
 | r + 1 => true :: false :: dsF r
theorem dsF_flat : ∀ r : Nat, (List.replicate r [true, false]).flatten = dsF r
 | 0 => rfl
 | r + 1 => by rw [List.replicate_succ, List.flatten_cons, dsF_flat r]; rfl
theorem ds_fix {n : Nd} {nb : Nat} (h : n.op = 12) (hb : n.b = (nb : Int)) : ds n = dsF nb := by
 unfold ds
 rw [if_pos h, hb, Int.toNat_natCast, dsF_flat]
theorem AtF_len : ∀ (r : Nat) {t : List Nd} {p : Nat} {F : Fo}, At t p (dsF r) F → p + 3 * r ≤ t.length
 | 0, t, p, F, h => by have := h.le; omega
 | r + 1, t, p, F, h => by
  obtain ⟨pre1, n1, a1, k1, nx1, rfl, s1⟩ := h.step
  obtain ⟨pre2, n2, a2, k2, nx2, rfl, s2⟩ := s1.next.step
  have h1 := AtF_len r s2.next
  have e1 : pre1.length = 1 := s1.plen
  have e2 : pre2.length = 0 := s2.plen
  have l1 : 0 < (rowT (n1, a1, k1)).length := by simp [rowT]
  have l2 : 0 < (rowT (n2, a2, k2)).length := by simp [rowT]
  omega
end
end Go.Proofs.Ytjllmblbbgojbaa
