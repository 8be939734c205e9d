/- Merged: Short3, Guarded, Sub. -/
import Derived.Test.YtplecfbdchmogaaEBase
import Derived.Test.YtplecfbdchmogaaEShort2
import Derived.Test.YtplecfbdchmogaaEFines
import Derived.Test.YtplecfbdchmogaaEBooks
namespace Go.Proofs.Ytplecfbdchmogaa
section
open Go.RowKit
section
variable {P : Program} {ops : Array Oper} {Q : Exit → Act → World → Prop} {md : Region.Mode} {S : World → Prop} {l : Nat}
theorem te (i : Nat) {v : Value} {oi : Oper} {fuel : Nat} {done : Array Bool} {a : Act} {w : World} (hS : S w) (h : wpAnyE P md ops Q S l fuel (done.setIfInBounds i true) (a.put oi.dst v) w)
 (hi : ops[i]? = some oi := by exact rfl) (hy : ∀ w, S w → (execOp a.eval oi).run P w = .ok (.value v) w := by (intro w hSw; (try dsimp only at hSw); go_simp; try with_reducible rfl)) (hw : waits md ops i 8 l = true := by kernel_rfl) (hsh : shutB md ops done = true := by kernel_rfl)
 (hs : Region.noSelect ops = true := by kernel_rfl) (hf : Region.free md ops done i = true := by kernel_rfl) (hr : (Region.ready md ops done).contains i = true := by kernel_rfl)
 (hQ : ∀ c a w, Q (.panic c) (a.put oi.dst v) w → Q (.panic c) a w := by exact fun _ _ _ h => h) (hwn : Region.wanted oi (yielded ops a.tmps) = true := by rfl) : wpAnyE P md ops Q S l (fuel + 1) done a w :=
 wpAnyE_take' hi hw hsh hs hf hr hQ (.inl ⟨hwn, hy⟩) hS h
end
end
section
open Go.RowKit
end
section
open Go.RowKit
theorem row_nodes {b : Bk} {known self below : Int} {l : List Nd} (h : rowE b known self l below = 0) : shapeI l = 0 ∧ belowB l below = true ∧ ∀ m ∈ l, nodeB b known self m = true := by
 unfold rowE at h
 split at h
 · rename_i h1; exact absurd h h1
 rename_i h1
 split at h
 · cases h
 rename_i h2
 split at h
 · rename_i h3
   exact ⟨Decidable.not_not.1 h1, by simpa using h2, List.all_eq_true.1 h3⟩
 cases h
end
end Go.Proofs.Ytplecfbdchmogaa
