/- Merged: FineA, GuardP. -/
import Derived.Test.YtplecfbdchmogaaKFineX
import Derived.Test.YtplecfbdchmogaaKHeads
namespace Go.Proofs.Ytplecfbdchmogaa
section
open Go.RowKit
end
section
open Go.RowKit
def ErrP (e : Int) (w : World) (en : Ending) (w' : World) : Prop := en = .returned (.int .i64 e) ∧ Below w.heap.size w w'
end
end Go.Proofs.Ytplecfbdchmogaa
