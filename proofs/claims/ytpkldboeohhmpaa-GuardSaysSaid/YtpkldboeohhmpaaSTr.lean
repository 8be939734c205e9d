/- Free variables replaced: a term is fine as before. -/
import Derived.Test.YtpkldboeohhmpaaSFineW
namespace Go.Proofs.Ytpkldboeohhmpaa
open Go.RowKit
section
variable {σ : Int → Nd → TT}
variable {places : List Int} {ca : Int → Nat → Nat}
end
end Go.Proofs.Ytpkldboeohhmpaa
