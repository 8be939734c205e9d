/- What does not fit has another error than what is not guarded. -/
import Derived.Test.YtjllmblbbgojbaaUSub
namespace Go.Proofs.Ytjllmblbbgojbaa
open Go.RowKit
end Go.Proofs.Ytjllmblbbgojbaa
