/- A row of nodes that was handed in, opened: it reads as a list of nodes. And the end of a row's proof: true comes back and the arguments read as before. -/
import Derived.Test.YtplecfbdchmogaaChecked
import Derived.Test.YtplecfbdchmogaaOBase
import Derived.ProofKit
import Derived.SizedLaws
import Derived.Deep.Slices
import Derived.Deep.Fields
namespace Go.Proofs.Ytplecfbdchmogaa
open Go.ChangeShapes Go.WideShapes Go.ChangeAt Go.RowKit Go.Deep
theorem Try.own : ownKnob Try.prog.godebug = none := by kernel_rfl
theorem Try.laidOut : laidOutB Try.prog = true := by kernel_rfl
section
variable {H : Type} {enc : TypeId × Value → H}
theorem shut_true {W : World} {base : Nat} {sp : Nat → Bool} {held : Bool} : DataW.Trod enc Try.prog W base sp held 4 (.bool true) (.lit (.bool true)) [] := ⟨1, by simp [DataW.trod, Value.cells, Try.underlying4]⟩
end
end Go.Proofs.Ytplecfbdchmogaa
