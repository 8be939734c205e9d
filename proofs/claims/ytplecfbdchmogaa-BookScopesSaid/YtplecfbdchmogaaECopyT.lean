/- Copy and CopyRows of the reference: the same nodes in new memory. -/
import Derived.Test.YtplecfbdchmogaaERowsD
import Derived.Test.YtplecfbdchmogaaEBooks
import Derived.Test.YtplecfbdchmogaaELeafs
import Derived.Test.YtplecfbdchmogaaEFines
namespace Go.Proofs.Ytplecfbdchmogaa
open Go.RowKit
end Go.Proofs.Ytplecfbdchmogaa
