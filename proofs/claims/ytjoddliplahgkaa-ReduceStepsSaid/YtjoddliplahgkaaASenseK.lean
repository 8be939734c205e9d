/- term.Kids: the kids come in new memory; slices of rows cut. -/
import Derived.Test.YtjoddliplahgkaaAKidss
import Derived.Test.YtjoddliplahgkaaASenseL
namespace Go.Proofs.Ytjoddliplahgkaa
open Go.RowKit
theorem size_term (w : World) : (sizeOf 29).run Try.prog w = .ok 1 w := by kernel_rfl
end Go.Proofs.Ytjoddliplahgkaa
