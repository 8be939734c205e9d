/- Merged: FineL, FineT. -/
import Derived.Test.YtjllmblbbgojbaaTShort2
import Derived.Test.YtjllmblbbgojbaaTFineS
namespace Go.Proofs.Ytjllmblbbgojbaa
section
open Go.RowKit
end
section
open Go.RowKit
end
end Go.Proofs.Ytjllmblbbgojbaa
