/- Merged: LiftP, TermP, TermP2, TermP3, TermP4, Parts0, KidsD, Parts1, Clone, Count, Parts, Kids. -/
import Derived.Test.YtplecfbdchmogaaKBase
import Derived.Test.YtplecfbdchmogaaKTermL
import Derived.Test.YtplecfbdchmogaaKFines
import Derived.Test.YtplecfbdchmogaaKRowsD
import Derived.Test.YtplecfbdchmogaaKEnds
import Derived.Test.YtplecfbdchmogaaKLeafs
import Derived.Lib.SliceRun
import Derived.Test.YtplecfbdchmogaaProg
import Derived.WalkKit
import Derived.WalkLawsBesides
import Derived.WalkSpells
import Derived.Lib.Hide
import Derived.Deep.QuietTactic
import Derived.BigQuiet
namespace Go.Proofs.Ytplecfbdchmogaa
section
open Go.RowKit
end
section
open Go.RowKit
end
section
open Go.RowKit
end
section
open Go.RowKit
end
section
open Go.RowKit
section
variable {l : List Nd} {n : Nd} {ats : List Nd} {k : Fo}
end
end
section
open Go.RowKit
end
section
open Go.RowKit
end
section
open Go.RowKit
end
section
open Go.RowKit
theorem own_fresh {w w' : World} {A : Option Addr} {n c : Nat} {l : List Nd} (h : OwnN w' w.heap.size (.slice A n c) l) (hl : l.length ≤ 5864062014805) : TermR (fresh w w') w' A n c l := by
 obtain ⟨A', n', c', e, ht⟩ := OwnN.termS h hl
 injection e with e1 e2 e3
 subst e1 e2 e3
 exact ht.keep fun b hb => ⟨⟨(ownsRow_block h hb).1, (ownsRow_block h hb).2.1⟩, fun _ => rfl⟩
end
section
open Go.RowKit
end
section
open Go.RowKit
end
section
open Go.RowKit
end
end Go.Proofs.Ytplecfbdchmogaa
