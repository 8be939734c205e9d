/- sense: must, and apart: what is applied, and the arguments, as pieces of a row. -/
import Derived.Test.YtjoddliplahgkaaBShort2
import Derived.Test.YtjoddliplahgkaaBGuarded
import Derived.Test.YtjoddliplahgkaaBHeads
import Derived.Test.YtjoddliplahgkaaBWalks
namespace Go.Proofs.Ytjoddliplahgkaa
open Go.RowKit
section
variable {A : Option Addr} {n c : Nat} {l : List Nd}
end
end Go.Proofs.Ytjoddliplahgkaa
