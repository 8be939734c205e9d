/- Still more words for memory. -/
import Derived.Test.YtnmeglbamfjcgaaOwn2
namespace Go.Proofs.Ytnmeglbamfjcgaa
open Go.RowKit

theorem below_step {B : Nat} {a W w' : World} (hA : Below B a W) (hb : Below W.heap.size W w') (hB : B ≤ a.heap.size) : Below B a w' := hA.trans (hb.mono (Nat.le_trans hB hA.size))

end Go.Proofs.Ytnmeglbamfjcgaa
