/- Merged: Subst1, Subst, TermL. -/
import Derived.Test.YtplecfbdchmogaaKEnds
namespace Go.Proofs.Ytplecfbdchmogaa
section
open Go.RowKit
structure Put where
 n : Nd
 a : List Nd
 k : Fo
end
section
open Go.RowKit
section
variable {A B : Option Addr} {nn c mm d : Nat} {t u : List Nd} {w w3 : World} {n un : Nd} {ats ua : List Nd} {k uk : Fo} {x : Int}
end
end
section
open Go.RowKit
end
end Go.Proofs.Ytplecfbdchmogaa
