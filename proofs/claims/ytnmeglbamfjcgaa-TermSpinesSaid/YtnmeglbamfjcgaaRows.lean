/-
  No cell of these rows narrows 'for every input' (looked for: loops, veiled, ifaces, maps, wideKeys, modest, calm, conditions, laid).
  DERIVED. THE GIVEN ROWS OF THIS SEAT. 10 by the template 'for every input the law returns true; each argument reads behind the call as it read before'; 0 by the template 'total and deterministic' (their statements: YtnmeglbamfjcgaaTotals.lean).
  GIVEN WITH THE SEED: the statements are not yours to turn. If you find one false, say at which input.
  Laid BY PROGRAM, IN A SANDBOX (cutbox-rows.mjs): the forced cells as the released guide's own fill.sh prints them over the translation 363e538f23529de8… (all of the seat's roots in one cut). By AI agents, Wed Nov 11 2026. No macro, syntax, notation, axiom, sorry.
-/
import Derived.Test.YtnmeglbamfjcgaaChecked
import GoSem.Claim
import GoSem.ClaimJoined
import GoSem.ClaimMapViews
import Derived.JoinedTies
import Derived.KernelRfl
namespace Go.Proofs.Ytnmeglbamfjcgaa
/- THE CELL 'sum', in the pinned program and in every row, IS THE sha256 OF THE DUMP (.gsa) THAT YtnmeglbamfjcgaaProg.lean LOADS. Nothing in Lean hashes anything: it is a label: what it is worth is what the hold of that sum in a sandbox is worth. -/
noncomputable def Try.pinned : Pinned := { name := "ytnmeglbamfjcgaa", sum := "363e538f23529de8f9a2b1f53fb0a2f1f84679d6a02ae6e09316df736633b1aa", checked := Try.checked }
namespace Rows
def none {H : Type} : Left H := { results := [], args := [] }

/-- 'retortlaw04.TermSubsts': WHATEVER THE INPUT: true; the input reads as it did. -/
def termSubstsSpec : ChangeSpec := { name := "termSubsts", fn := fun _ => fun
  | [d1, d2, d3] => { results := [.lit (.bool true)], args := [d1, d2, d3] }
  | _ => none }
def termSubstsRow : OpenClaim := { program := "ytnmeglbamfjcgaa", sum := "363e538f23529de8f9a2b1f53fb0a2f1f84679d6a02ae6e09316df736633b1aa", func := "retort/retortlaw04.TermSubsts", spec := "termSubsts", unfollowed := true, recurses := true, apart := false }
def TermSubstsSaid : Prop := termSubstsRow.holds Try.pinned (OpenSpec.ofChange termSubstsSpec)

/-- ITS FALSE NEIGHBOUR: 'it returns false'. Refute it at one input. -/
def termSubstsWrong : ChangeSpec := { name := "termSubsts", fn := fun _ => fun
  | [d1, d2, d3] => { results := [.lit (.bool false)], args := [d1, d2, d3] }
  | _ => none }
def TermSubstsWrongFalsely : Prop := termSubstsRow.holds Try.pinned (OpenSpec.ofChange termSubstsWrong)

/-- 'retortlaw04.TermSwaps': WHATEVER THE INPUT: true; the input reads as it did. -/
def termSwapsSpec : ChangeSpec := { name := "termSwaps", fn := fun _ => fun
  | [d1, d2, d3] => { results := [.lit (.bool true)], args := [d1, d2, d3] }
  | _ => none }
def termSwapsRow : OpenClaim := { program := "ytnmeglbamfjcgaa", sum := "363e538f23529de8f9a2b1f53fb0a2f1f84679d6a02ae6e09316df736633b1aa", func := "retort/retortlaw04.TermSwaps", spec := "termSwaps", unfollowed := true, recurses := true, apart := false }
def TermSwapsSaid : Prop := termSwapsRow.holds Try.pinned (OpenSpec.ofChange termSwapsSpec)

/-- ITS FALSE NEIGHBOUR: 'it returns false'. Refute it at one input. -/
def termSwapsWrong : ChangeSpec := { name := "termSwaps", fn := fun _ => fun
  | [d1, d2, d3] => { results := [.lit (.bool false)], args := [d1, d2, d3] }
  | _ => none }
def TermSwapsWrongFalsely : Prop := termSwapsRow.holds Try.pinned (OpenSpec.ofChange termSwapsWrong)

/-- 'retortlaw04.TermFree': WHATEVER THE INPUT: true; the input reads as it did. -/
def termFreeSpec : ChangeSpec := { name := "termFree", fn := fun _ => fun
  | [d1, d2, d3] => { results := [.lit (.bool true)], args := [d1, d2, d3] }
  | _ => none }
def termFreeRow : OpenClaim := { program := "ytnmeglbamfjcgaa", sum := "363e538f23529de8f9a2b1f53fb0a2f1f84679d6a02ae6e09316df736633b1aa", func := "retort/retortlaw04.TermFree", spec := "termFree", unfollowed := true, recurses := true, apart := false }
def TermFreeSaid : Prop := termFreeRow.holds Try.pinned (OpenSpec.ofChange termFreeSpec)

/-- ITS FALSE NEIGHBOUR: 'it returns false'. Refute it at one input. -/
def termFreeWrong : ChangeSpec := { name := "termFree", fn := fun _ => fun
  | [d1, d2, d3] => { results := [.lit (.bool false)], args := [d1, d2, d3] }
  | _ => none }
def TermFreeWrongFalsely : Prop := termFreeRow.holds Try.pinned (OpenSpec.ofChange termFreeWrong)

/-- 'retortlaw04.TermUndone': WHATEVER THE INPUT: true; the input reads as it did. -/
def termUndoneSpec : ChangeSpec := { name := "termUndone", fn := fun _ => fun
  | [d1, d2, d3] => { results := [.lit (.bool true)], args := [d1, d2, d3] }
  | _ => none }
def termUndoneRow : OpenClaim := { program := "ytnmeglbamfjcgaa", sum := "363e538f23529de8f9a2b1f53fb0a2f1f84679d6a02ae6e09316df736633b1aa", func := "retort/retortlaw04.TermUndone", spec := "termUndone", unfollowed := true, recurses := true, apart := false }
def TermUndoneSaid : Prop := termUndoneRow.holds Try.pinned (OpenSpec.ofChange termUndoneSpec)

/-- ITS FALSE NEIGHBOUR: 'it returns false'. Refute it at one input. -/
def termUndoneWrong : ChangeSpec := { name := "termUndone", fn := fun _ => fun
  | [d1, d2, d3] => { results := [.lit (.bool false)], args := [d1, d2, d3] }
  | _ => none }
def TermUndoneWrongFalsely : Prop := termUndoneRow.holds Try.pinned (OpenSpec.ofChange termUndoneWrong)

/-- 'retortlaw04.TermLifts': WHATEVER THE INPUT: true; the input reads as it did. -/
def termLiftsSpec : ChangeSpec := { name := "termLifts", fn := fun _ => fun
  | [d1, d2, d3] => { results := [.lit (.bool true)], args := [d1, d2, d3] }
  | _ => none }
def termLiftsRow : OpenClaim := { program := "ytnmeglbamfjcgaa", sum := "363e538f23529de8f9a2b1f53fb0a2f1f84679d6a02ae6e09316df736633b1aa", func := "retort/retortlaw04.TermLifts", spec := "termLifts", unfollowed := true, recurses := true, apart := false }
def TermLiftsSaid : Prop := termLiftsRow.holds Try.pinned (OpenSpec.ofChange termLiftsSpec)

/-- ITS FALSE NEIGHBOUR: 'it returns false'. Refute it at one input. -/
def termLiftsWrong : ChangeSpec := { name := "termLifts", fn := fun _ => fun
  | [d1, d2, d3] => { results := [.lit (.bool false)], args := [d1, d2, d3] }
  | _ => none }
def TermLiftsWrongFalsely : Prop := termLiftsRow.holds Try.pinned (OpenSpec.ofChange termLiftsWrong)

/-- 'retortlaw04.TermLifted': WHATEVER THE INPUT: true; the input reads as it did. -/
def termLiftedSpec : ChangeSpec := { name := "termLifted", fn := fun _ => fun
  | [d1, d2, d3, d4] => { results := [.lit (.bool true)], args := [d1, d2, d3, d4] }
  | _ => none }
def termLiftedRow : OpenClaim := { program := "ytnmeglbamfjcgaa", sum := "363e538f23529de8f9a2b1f53fb0a2f1f84679d6a02ae6e09316df736633b1aa", func := "retort/retortlaw04.TermLifted", spec := "termLifted", unfollowed := true, recurses := true, apart := false }
def TermLiftedSaid : Prop := termLiftedRow.holds Try.pinned (OpenSpec.ofChange termLiftedSpec)

/-- ITS FALSE NEIGHBOUR: 'it returns false'. Refute it at one input. -/
def termLiftedWrong : ChangeSpec := { name := "termLifted", fn := fun _ => fun
  | [d1, d2, d3, d4] => { results := [.lit (.bool false)], args := [d1, d2, d3, d4] }
  | _ => none }
def TermLiftedWrongFalsely : Prop := termLiftedRow.holds Try.pinned (OpenSpec.ofChange termLiftedWrong)

/-- 'retortlaw04.TermShapes': WHATEVER THE INPUT: true; the input reads as it did. -/
def termShapesSpec : ChangeSpec := { name := "termShapes", fn := fun _ => fun
  | [d1, d2] => { results := [.lit (.bool true)], args := [d1, d2] }
  | _ => none }
def termShapesRow : OpenClaim := { program := "ytnmeglbamfjcgaa", sum := "363e538f23529de8f9a2b1f53fb0a2f1f84679d6a02ae6e09316df736633b1aa", func := "retort/retortlaw04.TermShapes", spec := "termShapes", unfollowed := true, recurses := true, apart := false }
def TermShapesSaid : Prop := termShapesRow.holds Try.pinned (OpenSpec.ofChange termShapesSpec)

/-- ITS FALSE NEIGHBOUR: 'it returns false'. Refute it at one input. -/
def termShapesWrong : ChangeSpec := { name := "termShapes", fn := fun _ => fun
  | [d1, d2] => { results := [.lit (.bool false)], args := [d1, d2] }
  | _ => none }
def TermShapesWrongFalsely : Prop := termShapesRow.holds Try.pinned (OpenSpec.ofChange termShapesWrong)

/-- 'retortlaw04.TermSpines': WHATEVER THE INPUT: true; the input reads as it did. -/
def termSpinesSpec : ChangeSpec := { name := "termSpines", fn := fun _ => fun
  | [d1, d2, d3] => { results := [.lit (.bool true)], args := [d1, d2, d3] }
  | _ => none }
def termSpinesRow : OpenClaim := { program := "ytnmeglbamfjcgaa", sum := "363e538f23529de8f9a2b1f53fb0a2f1f84679d6a02ae6e09316df736633b1aa", func := "retort/retortlaw04.TermSpines", spec := "termSpines", unfollowed := true, recurses := true, apart := false }
def TermSpinesSaid : Prop := termSpinesRow.holds Try.pinned (OpenSpec.ofChange termSpinesSpec)

/-- ITS FALSE NEIGHBOUR: 'it returns false'. Refute it at one input. -/
def termSpinesWrong : ChangeSpec := { name := "termSpines", fn := fun _ => fun
  | [d1, d2, d3] => { results := [.lit (.bool false)], args := [d1, d2, d3] }
  | _ => none }
def TermSpinesWrongFalsely : Prop := termSpinesRow.holds Try.pinned (OpenSpec.ofChange termSpinesWrong)

/-- 'retortlaw04.TermApart': WHATEVER THE INPUT: true; the input reads as it did. -/
def termApartSpec : ChangeSpec := { name := "termApart", fn := fun _ => fun
  | [d] => { results := [.lit (.bool true)], args := [d] }
  | _ => none }
def termApartRow : OpenClaim := { program := "ytnmeglbamfjcgaa", sum := "363e538f23529de8f9a2b1f53fb0a2f1f84679d6a02ae6e09316df736633b1aa", func := "retort/retortlaw04.TermApart", spec := "termApart", unfollowed := true, recurses := true, apart := false }
def TermApartSaid : Prop := termApartRow.holds Try.pinned (OpenSpec.ofChange termApartSpec)

/-- ITS FALSE NEIGHBOUR: 'it returns false'. Refute it at one input. -/
def termApartWrong : ChangeSpec := { name := "termApart", fn := fun _ => fun
  | [d] => { results := [.lit (.bool false)], args := [d] }
  | _ => none }
def TermApartWrongFalsely : Prop := termApartRow.holds Try.pinned (OpenSpec.ofChange termApartWrong)

/-- 'retortlaw04.TermKeeps': WHATEVER THE INPUT: true; the input reads as it did. -/
def termKeepsSpec : ChangeSpec := { name := "termKeeps", fn := fun _ => fun
  | [d1, d2] => { results := [.lit (.bool true)], args := [d1, d2] }
  | _ => none }
def termKeepsRow : OpenClaim := { program := "ytnmeglbamfjcgaa", sum := "363e538f23529de8f9a2b1f53fb0a2f1f84679d6a02ae6e09316df736633b1aa", func := "retort/retortlaw04.TermKeeps", spec := "termKeeps", unfollowed := true, recurses := true, apart := false }
def TermKeepsSaid : Prop := termKeepsRow.holds Try.pinned (OpenSpec.ofChange termKeepsSpec)

/-- ITS FALSE NEIGHBOUR: 'it returns false'. Refute it at one input. -/
def termKeepsWrong : ChangeSpec := { name := "termKeeps", fn := fun _ => fun
  | [d1, d2] => { results := [.lit (.bool false)], args := [d1, d2] }
  | _ => none }
def TermKeepsWrongFalsely : Prop := termKeepsRow.holds Try.pinned (OpenSpec.ofChange termKeepsWrong)

/- THE SECOND FORM. 'bulk': how many values and letters a reading holds, each counted each time it is reached (what is shared counts as often as it is met; a slice's spare places count too). A statement '..UptoSaid' is the law's where the arguments, and the package variables that the reading takes, are together of bulk at most 1048576: NARROWER than '..Said'. Prove '..Said' where nothing that the law and all that it calls make is longer than what came in: it says more and counts as full. Else prove '..UptoSaid'. A law counts once. -/
mutual
def uptoBulk {H : Type} : DataW H → Nat
  | .lit (.string bytes) => bytes.length + 1
  | .lit _ => 1
  | .nil => 1
  | .ptr d => uptoBulk d + 1
  | .slice elems spare => uptoBulkAll elems + uptoBulkAll spare + 1
  | .agg parts => uptoBulkAll parts + 1
  | .iface _ d => uptoBulk d + 1
  | .map entries => uptoBulkEntries entries + 1
  | .held _ => 1
def uptoBulkAll {H : Type} : List (DataW H) → Nat
  | [] => 0
  | d :: r => uptoBulk d + uptoBulkAll r
def uptoBulkEntries {H : Type} : List (Lit × DataW H) → Nat
  | [] => 0
  | x :: r => uptoBulkEntry x + uptoBulkEntries r
def uptoBulkEntry {H : Type} : Lit × DataW H → Nat
  | (.string bytes, d) => bytes.length + uptoBulk d + 1
  | (_, d) => uptoBulk d + 1
 end
def uptoSmall : (H : Type) → List (DataW H) → Bool := fun _ ds => decide (uptoBulkAll ds ≤ 1048576)
def OpenSpec.upto (s : _root_.Go.ChangeSpec) : _root_.Go.OpenSpec := { _root_.Go.OpenSpec.ofChange s with cond := some uptoSmall }

/-- 'retortlaw04.TermSubsts', WHERE WHAT IT READS IS OF BULK AT MOST 1048576: true; the input reads as it did. -/
def termSubstsUptoRow : OpenClaim := { program := "ytnmeglbamfjcgaa", sum := "363e538f23529de8f9a2b1f53fb0a2f1f84679d6a02ae6e09316df736633b1aa", func := "retort/retortlaw04.TermSubsts", spec := "termSubsts", unfollowed := true, recurses := true, apart := false, narrowed := true }
def TermSubstsUptoSaid : Prop := termSubstsUptoRow.holds Try.pinned (OpenSpec.upto termSubstsSpec)

/-- 'retortlaw04.TermSwaps', WHERE WHAT IT READS IS OF BULK AT MOST 1048576: true; the input reads as it did. -/
def termSwapsUptoRow : OpenClaim := { program := "ytnmeglbamfjcgaa", sum := "363e538f23529de8f9a2b1f53fb0a2f1f84679d6a02ae6e09316df736633b1aa", func := "retort/retortlaw04.TermSwaps", spec := "termSwaps", unfollowed := true, recurses := true, apart := false, narrowed := true }
def TermSwapsUptoSaid : Prop := termSwapsUptoRow.holds Try.pinned (OpenSpec.upto termSwapsSpec)

/-- 'retortlaw04.TermFree', WHERE WHAT IT READS IS OF BULK AT MOST 1048576: true; the input reads as it did. -/
def termFreeUptoRow : OpenClaim := { program := "ytnmeglbamfjcgaa", sum := "363e538f23529de8f9a2b1f53fb0a2f1f84679d6a02ae6e09316df736633b1aa", func := "retort/retortlaw04.TermFree", spec := "termFree", unfollowed := true, recurses := true, apart := false, narrowed := true }
def TermFreeUptoSaid : Prop := termFreeUptoRow.holds Try.pinned (OpenSpec.upto termFreeSpec)

/-- 'retortlaw04.TermUndone', WHERE WHAT IT READS IS OF BULK AT MOST 1048576: true; the input reads as it did. -/
def termUndoneUptoRow : OpenClaim := { program := "ytnmeglbamfjcgaa", sum := "363e538f23529de8f9a2b1f53fb0a2f1f84679d6a02ae6e09316df736633b1aa", func := "retort/retortlaw04.TermUndone", spec := "termUndone", unfollowed := true, recurses := true, apart := false, narrowed := true }
def TermUndoneUptoSaid : Prop := termUndoneUptoRow.holds Try.pinned (OpenSpec.upto termUndoneSpec)

/-- 'retortlaw04.TermLifts', WHERE WHAT IT READS IS OF BULK AT MOST 1048576: true; the input reads as it did. -/
def termLiftsUptoRow : OpenClaim := { program := "ytnmeglbamfjcgaa", sum := "363e538f23529de8f9a2b1f53fb0a2f1f84679d6a02ae6e09316df736633b1aa", func := "retort/retortlaw04.TermLifts", spec := "termLifts", unfollowed := true, recurses := true, apart := false, narrowed := true }
def TermLiftsUptoSaid : Prop := termLiftsUptoRow.holds Try.pinned (OpenSpec.upto termLiftsSpec)

/-- 'retortlaw04.TermLifted', WHERE WHAT IT READS IS OF BULK AT MOST 1048576: true; the input reads as it did. -/
def termLiftedUptoRow : OpenClaim := { program := "ytnmeglbamfjcgaa", sum := "363e538f23529de8f9a2b1f53fb0a2f1f84679d6a02ae6e09316df736633b1aa", func := "retort/retortlaw04.TermLifted", spec := "termLifted", unfollowed := true, recurses := true, apart := false, narrowed := true }
def TermLiftedUptoSaid : Prop := termLiftedUptoRow.holds Try.pinned (OpenSpec.upto termLiftedSpec)

/-- 'retortlaw04.TermShapes', WHERE WHAT IT READS IS OF BULK AT MOST 1048576: true; the input reads as it did. -/
def termShapesUptoRow : OpenClaim := { program := "ytnmeglbamfjcgaa", sum := "363e538f23529de8f9a2b1f53fb0a2f1f84679d6a02ae6e09316df736633b1aa", func := "retort/retortlaw04.TermShapes", spec := "termShapes", unfollowed := true, recurses := true, apart := false, narrowed := true }
def TermShapesUptoSaid : Prop := termShapesUptoRow.holds Try.pinned (OpenSpec.upto termShapesSpec)

/-- 'retortlaw04.TermSpines', WHERE WHAT IT READS IS OF BULK AT MOST 1048576: true; the input reads as it did. -/
def termSpinesUptoRow : OpenClaim := { program := "ytnmeglbamfjcgaa", sum := "363e538f23529de8f9a2b1f53fb0a2f1f84679d6a02ae6e09316df736633b1aa", func := "retort/retortlaw04.TermSpines", spec := "termSpines", unfollowed := true, recurses := true, apart := false, narrowed := true }
def TermSpinesUptoSaid : Prop := termSpinesUptoRow.holds Try.pinned (OpenSpec.upto termSpinesSpec)

/-- 'retortlaw04.TermApart', WHERE WHAT IT READS IS OF BULK AT MOST 1048576: true; the input reads as it did. -/
def termApartUptoRow : OpenClaim := { program := "ytnmeglbamfjcgaa", sum := "363e538f23529de8f9a2b1f53fb0a2f1f84679d6a02ae6e09316df736633b1aa", func := "retort/retortlaw04.TermApart", spec := "termApart", unfollowed := true, recurses := true, apart := false, narrowed := true }
def TermApartUptoSaid : Prop := termApartUptoRow.holds Try.pinned (OpenSpec.upto termApartSpec)

/-- 'retortlaw04.TermKeeps', WHERE WHAT IT READS IS OF BULK AT MOST 1048576: true; the input reads as it did. -/
def termKeepsUptoRow : OpenClaim := { program := "ytnmeglbamfjcgaa", sum := "363e538f23529de8f9a2b1f53fb0a2f1f84679d6a02ae6e09316df736633b1aa", func := "retort/retortlaw04.TermKeeps", spec := "termKeeps", unfollowed := true, recurses := true, apart := false, narrowed := true }
def TermKeepsUptoSaid : Prop := termKeepsUptoRow.holds Try.pinned (OpenSpec.upto termKeepsSpec)

end Rows
end Go.Proofs.Ytnmeglbamfjcgaa
