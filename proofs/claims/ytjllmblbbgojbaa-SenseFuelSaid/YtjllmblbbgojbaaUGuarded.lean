/- The guard checker's walks: Guarded. -/
import Derived.Test.YtjllmblbbgojbaaUShort2
import Derived.Test.YtjllmblbbgojbaaUFines
import Derived.Test.YtjllmblbbgojbaaUBase
namespace Go.Proofs.Ytjllmblbbgojbaa
open Go.RowKit
theorem press_cons (p : List Nd) (n : Nd) (a : List Nd) (k x : Fo) : press (.cons p n a k x) = p ++ press x := rfl
end Go.Proofs.Ytjllmblbbgojbaa
