/-
  No cell of these rows narrows 'for every input' (looked for: loops, veiled, ifaces, maps, wideKeys, modest, calm, conditions, laid).
  DERIVED. THE GIVEN ROWS OF THIS SEAT. 4 by the template 'for every input the law returns true; each argument reads behind the call as it read before'; 0 by the template 'total and deterministic' (their statements: YtjoddliplahgkaaTotals.lean).
  GIVEN WITH THE SEED: the statements are not yours to turn. If you find one false, say at which input.
  Laid BY PROGRAM, IN A SANDBOX (cutbox-rows.mjs): the forced cells as the released guide's own fill.sh prints them over the translation bf7d849367d56f55… (all of the seat's roots in one cut). By AI agents, Wed Nov 11 2026. No macro, syntax, notation, axiom, sorry.
-/
import Derived.Test.YtjoddliplahgkaaChecked
import GoSem.Claim
import GoSem.ClaimJoined
import GoSem.ClaimMapViews
import Derived.JoinedTies
import Derived.KernelRfl
namespace Go.Proofs.Ytjoddliplahgkaa
/- THE CELL 'sum', in the pinned program and in every row, IS THE sha256 OF THE DUMP (.gsa) THAT YtjoddliplahgkaaProg.lean LOADS. Nothing in Lean hashes anything: it is a label: what it is worth is what the hold of that sum in a sandbox is worth. -/
noncomputable def Try.pinned : Pinned := { name := "ytjoddliplahgkaa", sum := "bf7d849367d56f55d90cae370efa894834fafaf323fd19153eeeaafd3e210dd1", checked := Try.checked }
namespace Rows
def none {H : Type} : Left H := { results := [], args := [] }

/-- 'retortlaw08.ReduceSteps': WHATEVER THE INPUT: true; the input reads as it did. -/
def reduceStepsSpec : ChangeSpec := { name := "reduceSteps", fn := fun _ => fun
  | [d] => { results := [.lit (.bool true)], args := [d] }
  | _ => none }
def reduceStepsRow : OpenClaim := { program := "ytjoddliplahgkaa", sum := "bf7d849367d56f55d90cae370efa894834fafaf323fd19153eeeaafd3e210dd1", func := "retort/retortlaw08.ReduceSteps", spec := "reduceSteps", unfollowed := true, recurses := true, plainKeys := false, apart := false }
def ReduceStepsSaid : Prop := reduceStepsRow.holds Try.pinned (OpenSpec.ofChange reduceStepsSpec)

/-- ITS FALSE NEIGHBOUR: 'it returns false'. Refute it at one input. -/
def reduceStepsWrong : ChangeSpec := { name := "reduceSteps", fn := fun _ => fun
  | [d] => { results := [.lit (.bool false)], args := [d] }
  | _ => none }
def ReduceStepsWrongFalsely : Prop := reduceStepsRow.holds Try.pinned (OpenSpec.ofChange reduceStepsWrong)

/-- 'retortlaw08.ReduceKeepsFree': WHATEVER THE INPUT: true; the input reads as it did. -/
def reduceKeepsFreeSpec : ChangeSpec := { name := "reduceKeepsFree", fn := fun _ => fun
  | [d1, d2] => { results := [.lit (.bool true)], args := [d1, d2] }
  | _ => none }
def reduceKeepsFreeRow : OpenClaim := { program := "ytjoddliplahgkaa", sum := "bf7d849367d56f55d90cae370efa894834fafaf323fd19153eeeaafd3e210dd1", func := "retort/retortlaw08.ReduceKeepsFree", spec := "reduceKeepsFree", unfollowed := true, recurses := true, plainKeys := false, apart := false }
def ReduceKeepsFreeSaid : Prop := reduceKeepsFreeRow.holds Try.pinned (OpenSpec.ofChange reduceKeepsFreeSpec)

/-- ITS FALSE NEIGHBOUR: 'it returns false'. Refute it at one input. -/
def reduceKeepsFreeWrong : ChangeSpec := { name := "reduceKeepsFree", fn := fun _ => fun
  | [d1, d2] => { results := [.lit (.bool false)], args := [d1, d2] }
  | _ => none }
def ReduceKeepsFreeWrongFalsely : Prop := reduceKeepsFreeRow.holds Try.pinned (OpenSpec.ofChange reduceKeepsFreeWrong)

/-- 'retortlaw08.ReduceFuel': WHATEVER THE INPUT: true; the input reads as it did. -/
def reduceFuelSpec : ChangeSpec := { name := "reduceFuel", fn := fun _ => fun
  | [d1, d2, d3] => { results := [.lit (.bool true)], args := [d1, d2, d3] }
  | _ => none }
def reduceFuelRow : OpenClaim := { program := "ytjoddliplahgkaa", sum := "bf7d849367d56f55d90cae370efa894834fafaf323fd19153eeeaafd3e210dd1", func := "retort/retortlaw08.ReduceFuel", spec := "reduceFuel", unfollowed := true, recurses := true, plainKeys := false, apart := false }
def ReduceFuelSaid : Prop := reduceFuelRow.holds Try.pinned (OpenSpec.ofChange reduceFuelSpec)

/-- ITS FALSE NEIGHBOUR: 'it returns false'. Refute it at one input. -/
def reduceFuelWrong : ChangeSpec := { name := "reduceFuel", fn := fun _ => fun
  | [d1, d2, d3] => { results := [.lit (.bool false)], args := [d1, d2, d3] }
  | _ => none }
def ReduceFuelWrongFalsely : Prop := reduceFuelRow.holds Try.pinned (OpenSpec.ofChange reduceFuelWrong)

/-- 'retortlaw08.ReduceStays': WHATEVER THE INPUT: true; the input reads as it did. -/
def reduceStaysSpec : ChangeSpec := { name := "reduceStays", fn := fun _ => fun
  | [d] => { results := [.lit (.bool true)], args := [d] }
  | _ => none }
def reduceStaysRow : OpenClaim := { program := "ytjoddliplahgkaa", sum := "bf7d849367d56f55d90cae370efa894834fafaf323fd19153eeeaafd3e210dd1", func := "retort/retortlaw08.ReduceStays", spec := "reduceStays", unfollowed := true, recurses := true, plainKeys := false, apart := false }
def ReduceStaysSaid : Prop := reduceStaysRow.holds Try.pinned (OpenSpec.ofChange reduceStaysSpec)

/-- ITS FALSE NEIGHBOUR: 'it returns false'. Refute it at one input. -/
def reduceStaysWrong : ChangeSpec := { name := "reduceStays", fn := fun _ => fun
  | [d] => { results := [.lit (.bool false)], args := [d] }
  | _ => none }
def ReduceStaysWrongFalsely : Prop := reduceStaysRow.holds Try.pinned (OpenSpec.ofChange reduceStaysWrong)

/- THE SECOND FORM. 'bulk': how many values and letters a reading holds, each counted each time it is reached (what is shared counts as often as it is met; a slice's spare places count too). A statement '..UptoSaid' is the law's where the arguments, and the package variables that the reading takes, are together of bulk at most 1048576: NARROWER than '..Said'. Prove '..Said' where nothing that the law and all that it calls make is longer than what came in: it says more and counts as full. Else prove '..UptoSaid'. A law counts once. -/
mutual
def uptoBulk {H : Type} : DataW H → Nat
  | .lit (.string bytes) => bytes.length + 1
  | .lit _ => 1
  | .nil => 1
  | .ptr d => uptoBulk d + 1
  | .slice elems spare => uptoBulkAll elems + uptoBulkAll spare + 1
  | .agg parts => uptoBulkAll parts + 1
  | .iface _ d => uptoBulk d + 1
  | .map entries => uptoBulkEntries entries + 1
  | .held _ => 1
def uptoBulkAll {H : Type} : List (DataW H) → Nat
  | [] => 0
  | d :: r => uptoBulk d + uptoBulkAll r
def uptoBulkEntries {H : Type} : List (Lit × DataW H) → Nat
  | [] => 0
  | x :: r => uptoBulkEntry x + uptoBulkEntries r
def uptoBulkEntry {H : Type} : Lit × DataW H → Nat
  | (.string bytes, d) => bytes.length + uptoBulk d + 1
  | (_, d) => uptoBulk d + 1
 end
def uptoSmall : (H : Type) → List (DataW H) → Bool := fun _ ds => decide (uptoBulkAll ds ≤ 1048576)
def OpenSpec.upto (s : _root_.Go.ChangeSpec) : _root_.Go.OpenSpec := { _root_.Go.OpenSpec.ofChange s with cond := some uptoSmall }

/-- 'retortlaw08.ReduceSteps', WHERE WHAT IT READS IS OF BULK AT MOST 1048576: true; the input reads as it did. -/
def reduceStepsUptoRow : OpenClaim := { program := "ytjoddliplahgkaa", sum := "bf7d849367d56f55d90cae370efa894834fafaf323fd19153eeeaafd3e210dd1", func := "retort/retortlaw08.ReduceSteps", spec := "reduceSteps", unfollowed := true, recurses := true, plainKeys := false, apart := false, narrowed := true }
def ReduceStepsUptoSaid : Prop := reduceStepsUptoRow.holds Try.pinned (OpenSpec.upto reduceStepsSpec)

/-- 'retortlaw08.ReduceKeepsFree', WHERE WHAT IT READS IS OF BULK AT MOST 1048576: true; the input reads as it did. -/
def reduceKeepsFreeUptoRow : OpenClaim := { program := "ytjoddliplahgkaa", sum := "bf7d849367d56f55d90cae370efa894834fafaf323fd19153eeeaafd3e210dd1", func := "retort/retortlaw08.ReduceKeepsFree", spec := "reduceKeepsFree", unfollowed := true, recurses := true, plainKeys := false, apart := false, narrowed := true }
def ReduceKeepsFreeUptoSaid : Prop := reduceKeepsFreeUptoRow.holds Try.pinned (OpenSpec.upto reduceKeepsFreeSpec)

/-- 'retortlaw08.ReduceFuel', WHERE WHAT IT READS IS OF BULK AT MOST 1048576: true; the input reads as it did. -/
def reduceFuelUptoRow : OpenClaim := { program := "ytjoddliplahgkaa", sum := "bf7d849367d56f55d90cae370efa894834fafaf323fd19153eeeaafd3e210dd1", func := "retort/retortlaw08.ReduceFuel", spec := "reduceFuel", unfollowed := true, recurses := true, plainKeys := false, apart := false, narrowed := true }
def ReduceFuelUptoSaid : Prop := reduceFuelUptoRow.holds Try.pinned (OpenSpec.upto reduceFuelSpec)

/-- 'retortlaw08.ReduceStays', WHERE WHAT IT READS IS OF BULK AT MOST 1048576: true; the input reads as it did. -/
def reduceStaysUptoRow : OpenClaim := { program := "ytjoddliplahgkaa", sum := "bf7d849367d56f55d90cae370efa894834fafaf323fd19153eeeaafd3e210dd1", func := "retort/retortlaw08.ReduceStays", spec := "reduceStays", unfollowed := true, recurses := true, plainKeys := false, apart := false, narrowed := true }
def ReduceStaysUptoSaid : Prop := reduceStaysUptoRow.holds Try.pinned (OpenSpec.upto reduceStaysSpec)

end Rows
end Go.Proofs.Ytjoddliplahgkaa
