/- A row of nodes that was handed in, opened: it reads as a list of nodes. And the end of a row's proof: true comes back and the arguments read as before. -/
import Derived.Test.YtjoddliplahgkaaChecked
import Derived.Test.YtjoddliplahgkaaABase
import Derived.ProofKit
import Derived.SizedLaws
import Derived.Deep.Slices
import Derived.Deep.Fields
namespace Go.Proofs.Ytjoddliplahgkaa
open Go.ChangeShapes Go.WideShapes Go.ChangeAt Go.RowKit Go.Deep
theorem Try.own : ownKnob Try.prog.godebug = none := by kernel_rfl
theorem Try.laidOut : laidOutB Try.prog = true := by kernel_rfl
theorem nodeCells : Try.prog.cellsOf 50 = 3 := by kernel_rfl
theorem nodeBytes : Try.prog.bytesOf 50 = 24 := by kernel_rfl
theorem intCells : Try.prog.cellsOf 3 = 1 := by kernel_rfl
section
variable {H : Type} {enc : TypeId × Value → H}
set_option maxRecDepth 100000 in
theorem node_at {w : World} {base : Nat} {spare : Nat → Bool} {held : Bool} {n : Nat} {cs : List Value} {x : DataW H × List MemPlace} (h : DataW.trod enc Try.prog w base spare held n 50 cs = some x) : ∃ o a b : Int, cs = [.int .i64 o, .int .i64 a, .int .i64 b] := by
 obtain ⟨xs, m, _, _, hlen, hxs, hf⟩ := DataW.trod_struct Try.underlying50 h
 rw [nodeCells] at hlen
 have g0 : DataW.trod enc Try.prog w base spare held m 3 ((cs.drop 0).take (Try.prog.cellsOf 3)) = xs[0]? := hf 0 _ rfl
 have g1 : DataW.trod enc Try.prog w base spare held m 3 ((cs.drop 1).take (Try.prog.cellsOf 3)) = xs[1]? := hf 1 _ rfl
 have g2 : DataW.trod enc Try.prog w base spare held m 3 ((cs.drop 2).take (Try.prog.cellsOf 3)) = xs[2]? := hf 2 _ rfl
 have hx3 : xs.length = 3 := hxs
 rw [intCells] at g0 g1 g2
 match cs, hlen with
 | [c0, c1, c2], _ =>
  match xs, hx3 with
  | [y0, y1, y2], _ =>
   obtain ⟨o, ho, _⟩ := DataW.trod_int Try.underlying3 g0
   obtain ⟨a, ha, _⟩ := DataW.trod_int Try.underlying3 g1
   obtain ⟨b, hb, _⟩ := DataW.trod_int Try.underlying3 g2
   simp at ho ha hb
   subst ho ha hb
   exact ⟨o, a, b, rfl⟩
theorem shut_true {W : World} {base : Nat} {sp : Nat → Bool} {held : Bool} : DataW.Trod enc Try.prog W base sp held 4 (.bool true) (.lit (.bool true)) [] := ⟨1, by simp [DataW.trod, Value.cells, Try.underlying4]⟩
end
end Go.Proofs.Ytjoddliplahgkaa
