/- sense: must, and apart: what is applied, and the arguments, as pieces of a row. -/
import Derived.Test.YtjoddliplahgkaaCShort2
import Derived.Test.YtjoddliplahgkaaCGuarded
import Derived.Test.YtjoddliplahgkaaCWalks
namespace Go.Proofs.Ytjoddliplahgkaa
open Go.RowKit
section
variable {A : Option Addr} {n c : Nat} {l : List Nd}
end
end Go.Proofs.Ytjoddliplahgkaa
