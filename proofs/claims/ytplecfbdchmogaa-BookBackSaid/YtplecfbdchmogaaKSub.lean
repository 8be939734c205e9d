/- Merged: Guarded, Sub. -/
import Derived.Test.YtplecfbdchmogaaKShort2
import Derived.Test.YtplecfbdchmogaaKShort3
import Derived.Test.YtplecfbdchmogaaKFines
import Derived.Test.YtplecfbdchmogaaKBase
import Derived.Test.YtplecfbdchmogaaKBooks
namespace Go.Proofs.Ytplecfbdchmogaa
section
open Go.RowKit
end
section
open Go.RowKit
theorem row_nodes {b : Bk} {known self below : Int} {l : List Nd} (h : rowE b known self l below = 0) : shapeI l = 0 ∧ belowB l below = true ∧ ∀ m ∈ l, nodeB b known self m = true := by
 unfold rowE at h
 split at h
 · rename_i h1; exact absurd h h1
 rename_i h1
 split at h
 · cases h
 rename_i h2
 split at h
 · rename_i h3
   exact ⟨Decidable.not_not.1 h1, by simpa using h2, List.all_eq_true.1 h3⟩
 cases h
end
end Go.Proofs.Ytplecfbdchmogaa
