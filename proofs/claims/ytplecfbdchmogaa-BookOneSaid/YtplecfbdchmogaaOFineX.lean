/- Merged: Match, FineS, FineL, FineT, FineX. -/
import Derived.Test.YtplecfbdchmogaaOHeads
import Derived.Test.YtplecfbdchmogaaOLeafs
import Derived.Test.YtplecfbdchmogaaOShort2
namespace Go.Proofs.Ytplecfbdchmogaa
section
open Go.RowKit
end
section
open Go.RowKit
end
section
open Go.RowKit
end
section
open Go.RowKit
end
section
open Go.RowKit
end
end Go.Proofs.Ytplecfbdchmogaa
