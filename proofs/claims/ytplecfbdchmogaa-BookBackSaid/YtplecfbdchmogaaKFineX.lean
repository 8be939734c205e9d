/- Merged: Match, FineS, FineL, FineT, FineX. -/
import Derived.Test.YtplecfbdchmogaaKHeads
import Derived.Test.YtplecfbdchmogaaKLeafs
import Derived.Test.YtplecfbdchmogaaKShort2
namespace Go.Proofs.Ytplecfbdchmogaa
section
open Go.RowKit
end
section
open Go.RowKit
end
section
open Go.RowKit
end
section
open Go.RowKit
end
section
open Go.RowKit
end
end Go.Proofs.Ytplecfbdchmogaa
