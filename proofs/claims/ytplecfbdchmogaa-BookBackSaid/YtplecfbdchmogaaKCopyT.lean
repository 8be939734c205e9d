/- Copy and CopyRows of the reference: the same nodes in new memory. -/
import Derived.Test.YtplecfbdchmogaaKRowsD
import Derived.Test.YtplecfbdchmogaaKBooks
import Derived.Test.YtplecfbdchmogaaKLeafs
import Derived.Test.YtplecfbdchmogaaKHeads
namespace Go.Proofs.Ytplecfbdchmogaa
open Go.RowKit
end Go.Proofs.Ytplecfbdchmogaa
