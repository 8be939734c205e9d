/- More words for memory that a call makes. Plain lemmas over any program. -/
import Derived.WalkKit
import Derived.Lib.Hide
import Derived.Test.YtnmeglbamfjcgaaMem
import Derived.Test.YtnmeglbamfjcgaaTree
import Derived.Test.YtnmeglbamfjcgaaOwn
namespace Go.Proofs.Ytnmeglbamfjcgaa
open Go.RowKit

/-- New memory of a call. -/
def fresh (w w' : World) (b : Nat) : Prop := w.heap.size ≤ b ∧ b < w'.heap.size

/-- A new row of one node. -/
theorem own_new' {w : World} {base g : Nat} (hg : g = w.heap.size) (hb : base ≤ w.heap.size) (n : Nd) : OwnN (w.alloc (.cells #[.int .i64 n.op, .int .i64 n.a, .int .i64 n.b] 53)) base (.slice (some ⟨g, 0, none⟩) 1 1) [n] := by
  subst hg
  exact own_new hb n

theorem OwnN.cast {w : World} {base : Nat} {A : Option Addr} {n m c : Nat} {l l' : List Nd} (h : OwnN w base (.slice A n c) l) (hn : n = m) (hl : l = l') : OwnN w base (.slice A m c) l' := by
  subst hn hl
  exact h
theorem flen_le : ∀ (F : Fo), flen F ≤ (row F).length
  | .nil => Nat.le_refl _
  | .cons p n a k x => by
    have := flen_le x
    simp only [flen, row, List.length_append, List.length_cons]
    omega

end Go.Proofs.Ytnmeglbamfjcgaa
