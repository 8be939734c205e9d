/- Merged: Sizes, Size. -/
import Derived.Test.YtplecfbdchmogaaOBooks
import Derived.Test.YtplecfbdchmogaaOShort2
import Derived.Test.YtplecfbdchmogaaORegist
namespace Go.Proofs.Ytplecfbdchmogaa
section
open Go.RowKit
end
section
open Go.RowKit
end
end Go.Proofs.Ytplecfbdchmogaa
