/- The functions that Subst hands to each and walk. -/
import Derived.Test.YtpkldboeohhmpaaSEnds
namespace Go.Proofs.Ytpkldboeohhmpaa
open Go.RowKit
structure Put where
 n : Nd
 a : List Nd
 k : Fo
def puV (u : Put) (x : Int) : Vis Unit where
 em := fun _ n a => if n.op = 1 ∧ n.a = x + a then (raV (x + a) 0).E1 0 () u.n u.a u.k else if n.op = 1 ∧ x + a < n.a then [⟨n.op, n.a - 1, n.b⟩] else [n]
 nx := fun _ _ _ => ()
 ok := fun _ _ _ => true
 dm := fun _ n a => n.op = 1 ∧ n.a = x + a → (raV (x + a) 0).G1 0 () u.n u.k = true
end Go.Proofs.Ytpkldboeohhmpaa
