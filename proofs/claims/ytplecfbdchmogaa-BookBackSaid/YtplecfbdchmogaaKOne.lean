/- BookOne walked. -/
import Derived.Test.YtplecfbdchmogaaKAwk
namespace Go.Proofs.Ytplecfbdchmogaa
open Go.RowKit
end Go.Proofs.Ytplecfbdchmogaa
