/- What closed terms mean: more fuel, and less. Plain laws. -/
import Derived.Test.YtjllmblbbgojbaaTSenseM
namespace Go.Proofs.Ytjllmblbbgojbaa
open Go.RowKit
end Go.Proofs.Ytjllmblbbgojbaa
