/- What does not fit has another error than what is not guarded. -/
import Derived.Test.YtjoddliplahgkaaDSubst1
namespace Go.Proofs.Ytjoddliplahgkaa
open Go.RowKit
end Go.Proofs.Ytjoddliplahgkaa
