/-
  No cell of these rows narrows 'for every input' (looked for: loops, veiled, ifaces, maps, wideKeys, modest, calm, conditions, laid).
  DERIVED. THE GIVEN ROWS OF THIS SEAT. 4 by the template 'for every input the law returns true; each argument reads behind the call as it read before'; 0 by the template 'total and deterministic' (their statements: YtjllmblbbgojbaaTotals.lean).
  GIVEN WITH THE SEED: the statements are not yours to turn. If you find one false, say at which input.
  Laid BY PROGRAM, IN A SANDBOX (cutbox-rows.mjs): the forced cells as the released guide's own fill.sh prints them over the translation f28169f488c45e3d… (all of the seat's roots in one cut). By AI agents, Wed Nov 11 2026. No macro, syntax, notation, axiom, sorry.
-/
import Derived.Test.YtjllmblbbgojbaaChecked
import GoSem.Claim
import GoSem.ClaimJoined
import GoSem.ClaimMapViews
import Derived.JoinedTies
import Derived.KernelRfl
namespace Go.Proofs.Ytjllmblbbgojbaa
/- THE CELL 'sum', in the pinned program and in every row, IS THE sha256 OF THE DUMP (.gsa) THAT YtjllmblbbgojbaaProg.lean LOADS. Nothing in Lean hashes anything: it is a label: what it is worth is what the hold of that sum in a sandbox is worth. -/
noncomputable def Try.pinned : Pinned := { name := "ytjllmblbbgojbaa", sum := "f28169f488c45e3d765af858200bcbfa853ea03c7096dc81161729e3ff0449fb", checked := Try.checked }
namespace Rows
def none {H : Type} : Left H := { results := [], args := [] }

/-- 'retortlaw07.GuardKeeps': WHATEVER THE INPUT: true; the input reads as it did. -/
def guardKeepsSpec : ChangeSpec := { name := "guardKeeps", fn := fun _ => fun
  | [d1, d2] => { results := [.lit (.bool true)], args := [d1, d2] }
  | _ => none }
def guardKeepsRow : OpenClaim := { program := "ytjllmblbbgojbaa", sum := "f28169f488c45e3d765af858200bcbfa853ea03c7096dc81161729e3ff0449fb", func := "retort/retortlaw07.GuardKeeps", spec := "guardKeeps", unfollowed := true, recurses := true, plainKeys := false, apart := false }
def GuardKeepsSaid : Prop := guardKeepsRow.holds Try.pinned (OpenSpec.ofChange guardKeepsSpec)

/-- ITS FALSE NEIGHBOUR: 'it returns false'. Refute it at one input. -/
def guardKeepsWrong : ChangeSpec := { name := "guardKeeps", fn := fun _ => fun
  | [d1, d2] => { results := [.lit (.bool false)], args := [d1, d2] }
  | _ => none }
def GuardKeepsWrongFalsely : Prop := guardKeepsRow.holds Try.pinned (OpenSpec.ofChange guardKeepsWrong)

/-- 'retortlaw13.SenseStays': WHATEVER THE INPUT: true; the input reads as it did. -/
def senseStaysSpec : ChangeSpec := { name := "senseStays", fn := fun _ => fun
  | [d1, d2, d3] => { results := [.lit (.bool true)], args := [d1, d2, d3] }
  | _ => none }
def senseStaysRow : OpenClaim := { program := "ytjllmblbbgojbaa", sum := "f28169f488c45e3d765af858200bcbfa853ea03c7096dc81161729e3ff0449fb", func := "retort/retortlaw13.SenseStays", spec := "senseStays", unfollowed := true, recurses := true, plainKeys := false, apart := false }
def SenseStaysSaid : Prop := senseStaysRow.holds Try.pinned (OpenSpec.ofChange senseStaysSpec)

/-- ITS FALSE NEIGHBOUR: 'it returns false'. Refute it at one input. -/
def senseStaysWrong : ChangeSpec := { name := "senseStays", fn := fun _ => fun
  | [d1, d2, d3] => { results := [.lit (.bool false)], args := [d1, d2, d3] }
  | _ => none }
def SenseStaysWrongFalsely : Prop := senseStaysRow.holds Try.pinned (OpenSpec.ofChange senseStaysWrong)

/-- 'retortlaw13.SenseFuel': WHATEVER THE INPUT: true; the input reads as it did. -/
def senseFuelSpec : ChangeSpec := { name := "senseFuel", fn := fun _ => fun
  | [d1, d2, d3, d4] => { results := [.lit (.bool true)], args := [d1, d2, d3, d4] }
  | _ => none }
def senseFuelRow : OpenClaim := { program := "ytjllmblbbgojbaa", sum := "f28169f488c45e3d765af858200bcbfa853ea03c7096dc81161729e3ff0449fb", func := "retort/retortlaw13.SenseFuel", spec := "senseFuel", unfollowed := true, recurses := true, plainKeys := false, apart := false }
def SenseFuelSaid : Prop := senseFuelRow.holds Try.pinned (OpenSpec.ofChange senseFuelSpec)

/-- ITS FALSE NEIGHBOUR: 'it returns false'. Refute it at one input. -/
def senseFuelWrong : ChangeSpec := { name := "senseFuel", fn := fun _ => fun
  | [d1, d2, d3, d4] => { results := [.lit (.bool false)], args := [d1, d2, d3, d4] }
  | _ => none }
def SenseFuelWrongFalsely : Prop := senseFuelRow.holds Try.pinned (OpenSpec.ofChange senseFuelWrong)

/-- 'retortlaw13.SenseCounts': WHATEVER THE INPUT: true; the input reads as it did. -/
def senseCountsSpec : ChangeSpec := { name := "senseCounts", fn := fun _ => fun
  | [d1, d2, d3] => { results := [.lit (.bool true)], args := [d1, d2, d3] }
  | _ => none }
def senseCountsRow : OpenClaim := { program := "ytjllmblbbgojbaa", sum := "f28169f488c45e3d765af858200bcbfa853ea03c7096dc81161729e3ff0449fb", func := "retort/retortlaw13.SenseCounts", spec := "senseCounts", unfollowed := true, recurses := true, plainKeys := false, apart := false }
def SenseCountsSaid : Prop := senseCountsRow.holds Try.pinned (OpenSpec.ofChange senseCountsSpec)

/-- ITS FALSE NEIGHBOUR: 'it returns false'. Refute it at one input. -/
def senseCountsWrong : ChangeSpec := { name := "senseCounts", fn := fun _ => fun
  | [d1, d2, d3] => { results := [.lit (.bool false)], args := [d1, d2, d3] }
  | _ => none }
def SenseCountsWrongFalsely : Prop := senseCountsRow.holds Try.pinned (OpenSpec.ofChange senseCountsWrong)

/- THE SECOND FORM. 'bulk': how many values and letters a reading holds, each counted each time it is reached (what is shared counts as often as it is met; a slice's spare places count too). A statement '..UptoSaid' is the law's where the arguments, and the package variables that the reading takes, are together of bulk at most 1048576: NARROWER than '..Said'. Prove '..Said' where nothing that the law and all that it calls make is longer than what came in: it says more and counts as full. Else prove '..UptoSaid'. A law counts once. -/
mutual
def uptoBulk {H : Type} : DataW H → Nat
  | .lit (.string bytes) => bytes.length + 1
  | .lit _ => 1
  | .nil => 1
  | .ptr d => uptoBulk d + 1
  | .slice elems spare => uptoBulkAll elems + uptoBulkAll spare + 1
  | .agg parts => uptoBulkAll parts + 1
  | .iface _ d => uptoBulk d + 1
  | .map entries => uptoBulkEntries entries + 1
  | .held _ => 1
def uptoBulkAll {H : Type} : List (DataW H) → Nat
  | [] => 0
  | d :: r => uptoBulk d + uptoBulkAll r
def uptoBulkEntries {H : Type} : List (Lit × DataW H) → Nat
  | [] => 0
  | x :: r => uptoBulkEntry x + uptoBulkEntries r
def uptoBulkEntry {H : Type} : Lit × DataW H → Nat
  | (.string bytes, d) => bytes.length + uptoBulk d + 1
  | (_, d) => uptoBulk d + 1
 end
def uptoSmall : (H : Type) → List (DataW H) → Bool := fun _ ds => decide (uptoBulkAll ds ≤ 1048576)
def OpenSpec.upto (s : _root_.Go.ChangeSpec) : _root_.Go.OpenSpec := { _root_.Go.OpenSpec.ofChange s with cond := some uptoSmall }

/-- 'retortlaw07.GuardKeeps', WHERE WHAT IT READS IS OF BULK AT MOST 1048576: true; the input reads as it did. -/
def guardKeepsUptoRow : OpenClaim := { program := "ytjllmblbbgojbaa", sum := "f28169f488c45e3d765af858200bcbfa853ea03c7096dc81161729e3ff0449fb", func := "retort/retortlaw07.GuardKeeps", spec := "guardKeeps", unfollowed := true, recurses := true, plainKeys := false, apart := false, narrowed := true }
def GuardKeepsUptoSaid : Prop := guardKeepsUptoRow.holds Try.pinned (OpenSpec.upto guardKeepsSpec)

/-- 'retortlaw13.SenseStays', WHERE WHAT IT READS IS OF BULK AT MOST 1048576: true; the input reads as it did. -/
def senseStaysUptoRow : OpenClaim := { program := "ytjllmblbbgojbaa", sum := "f28169f488c45e3d765af858200bcbfa853ea03c7096dc81161729e3ff0449fb", func := "retort/retortlaw13.SenseStays", spec := "senseStays", unfollowed := true, recurses := true, plainKeys := false, apart := false, narrowed := true }
def SenseStaysUptoSaid : Prop := senseStaysUptoRow.holds Try.pinned (OpenSpec.upto senseStaysSpec)

/-- 'retortlaw13.SenseFuel', WHERE WHAT IT READS IS OF BULK AT MOST 1048576: true; the input reads as it did. -/
def senseFuelUptoRow : OpenClaim := { program := "ytjllmblbbgojbaa", sum := "f28169f488c45e3d765af858200bcbfa853ea03c7096dc81161729e3ff0449fb", func := "retort/retortlaw13.SenseFuel", spec := "senseFuel", unfollowed := true, recurses := true, plainKeys := false, apart := false, narrowed := true }
def SenseFuelUptoSaid : Prop := senseFuelUptoRow.holds Try.pinned (OpenSpec.upto senseFuelSpec)

/-- 'retortlaw13.SenseCounts', WHERE WHAT IT READS IS OF BULK AT MOST 1048576: true; the input reads as it did. -/
def senseCountsUptoRow : OpenClaim := { program := "ytjllmblbbgojbaa", sum := "f28169f488c45e3d765af858200bcbfa853ea03c7096dc81161729e3ff0449fb", func := "retort/retortlaw13.SenseCounts", spec := "senseCounts", unfollowed := true, recurses := true, plainKeys := false, apart := false, narrowed := true }
def SenseCountsUptoSaid : Prop := senseCountsUptoRow.holds Try.pinned (OpenSpec.upto senseCountsSpec)

end Rows
end Go.Proofs.Ytjllmblbbgojbaa
