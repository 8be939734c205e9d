/- sense: must, and apart: what is applied, and the arguments, as pieces of a row. -/
import Derived.Test.YtjoddliplahgkaaDShort2
import Derived.Test.YtjoddliplahgkaaDGuarded
import Derived.Test.YtjoddliplahgkaaDWalks
namespace Go.Proofs.Ytjoddliplahgkaa
open Go.RowKit
section
variable {A : Option Addr} {n c : Nat} {l : List Nd}
end
end Go.Proofs.Ytjoddliplahgkaa
