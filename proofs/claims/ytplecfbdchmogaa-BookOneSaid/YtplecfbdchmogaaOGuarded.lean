/- The guard checker's walks: Guarded. -/
import Derived.Test.YtplecfbdchmogaaOShort2
import Derived.Test.YtplecfbdchmogaaOShort3
import Derived.Test.YtplecfbdchmogaaOFines
import Derived.Test.YtplecfbdchmogaaOBase
namespace Go.Proofs.Ytplecfbdchmogaa
open Go.RowKit
end Go.Proofs.Ytplecfbdchmogaa
