/- Copy and CopyRows of the reference: the same nodes in new memory. -/
import Derived.Test.YtplecfbdchmogaaORowsD
import Derived.Test.YtplecfbdchmogaaOBooks
import Derived.Test.YtplecfbdchmogaaOLeafs
import Derived.Test.YtplecfbdchmogaaOHeads
namespace Go.Proofs.Ytplecfbdchmogaa
open Go.RowKit
end Go.Proofs.Ytplecfbdchmogaa
