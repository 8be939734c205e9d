/-
  No cell of these rows narrows 'for every input' (looked for: loops, veiled, ifaces, maps, wideKeys, modest, calm, conditions, laid).
  DERIVED. THE GIVEN ROWS OF THIS SEAT. 6 by the template 'for every input the law returns true; each argument reads behind the call as it read before'; 0 by the template 'total and deterministic' (their statements: YtpkldboeohhmpaaTotals.lean).
  GIVEN WITH THE SEED: the statements are not yours to turn. If you find one false, say at which input.
  Laid BY PROGRAM, IN A SANDBOX (cutbox-rows.mjs): the forced cells as the released guide's own fill.sh prints them over the translation 094f4269aba3d06a… (all of the seat's roots in one cut). By AI agents, Wed Nov 11 2026. No macro, syntax, notation, axiom, sorry.
-/
import Derived.Test.YtpkldboeohhmpaaChecked
import GoSem.Claim
import GoSem.ClaimJoined
import GoSem.ClaimMapViews
import Derived.JoinedTies
import Derived.KernelRfl
namespace Go.Proofs.Ytpkldboeohhmpaa
/- THE CELL 'sum', in the pinned program and in every row, IS THE sha256 OF THE DUMP (.gsa) THAT YtpkldboeohhmpaaProg.lean LOADS. Nothing in Lean hashes anything: it is a label: what it is worth is what the hold of that sum in a sandbox is worth. -/
noncomputable def Try.pinned : Pinned := { name := "ytpkldboeohhmpaa", sum := "094f4269aba3d06a7f492652f66a5cfc422c7dee61332951dd745e9e08edf5ea", checked := Try.checked }
namespace Rows
def none {H : Type} : Left H := { results := [], args := [] }

/-- 'retortlaw07.GuardDeep': WHATEVER THE INPUT: true; the input reads as it did. -/
def guardDeepSpec : ChangeSpec := { name := "guardDeep", fn := fun _ => fun
  | [d1, d2] => { results := [.lit (.bool true)], args := [d1, d2] }
  | _ => none }
def guardDeepRow : OpenClaim := { program := "ytpkldboeohhmpaa", sum := "094f4269aba3d06a7f492652f66a5cfc422c7dee61332951dd745e9e08edf5ea", func := "retort/retortlaw07.GuardDeep", spec := "guardDeep", unfollowed := true, recurses := true, plainKeys := false, apart := false }
def GuardDeepSaid : Prop := guardDeepRow.holds Try.pinned (OpenSpec.ofChange guardDeepSpec)

/-- ITS FALSE NEIGHBOUR: 'it returns false'. Refute it at one input. -/
def guardDeepWrong : ChangeSpec := { name := "guardDeep", fn := fun _ => fun
  | [d1, d2] => { results := [.lit (.bool false)], args := [d1, d2] }
  | _ => none }
def GuardDeepWrongFalsely : Prop := guardDeepRow.holds Try.pinned (OpenSpec.ofChange guardDeepWrong)

/-- 'retortlaw07.GuardSays': WHATEVER THE INPUT: true; the input reads as it did. -/
def guardSaysSpec : ChangeSpec := { name := "guardSays", fn := fun _ => fun
  | [d1, d2, d3] => { results := [.lit (.bool true)], args := [d1, d2, d3] }
  | _ => none }
def guardSaysRow : OpenClaim := { program := "ytpkldboeohhmpaa", sum := "094f4269aba3d06a7f492652f66a5cfc422c7dee61332951dd745e9e08edf5ea", func := "retort/retortlaw07.GuardSays", spec := "guardSays", unfollowed := true, recurses := true, plainKeys := false, apart := false }
def GuardSaysSaid : Prop := guardSaysRow.holds Try.pinned (OpenSpec.ofChange guardSaysSpec)

/-- ITS FALSE NEIGHBOUR: 'it returns false'. Refute it at one input. -/
def guardSaysWrong : ChangeSpec := { name := "guardSays", fn := fun _ => fun
  | [d1, d2, d3] => { results := [.lit (.bool false)], args := [d1, d2, d3] }
  | _ => none }
def GuardSaysWrongFalsely : Prop := guardSaysRow.holds Try.pinned (OpenSpec.ofChange guardSaysWrong)

/-- 'retortlaw07.GuardKeeps': WHATEVER THE INPUT: true; the input reads as it did. -/
def guardKeepsSpec : ChangeSpec := { name := "guardKeeps", fn := fun _ => fun
  | [d1, d2] => { results := [.lit (.bool true)], args := [d1, d2] }
  | _ => none }
def guardKeepsRow : OpenClaim := { program := "ytpkldboeohhmpaa", sum := "094f4269aba3d06a7f492652f66a5cfc422c7dee61332951dd745e9e08edf5ea", func := "retort/retortlaw07.GuardKeeps", spec := "guardKeeps", unfollowed := true, recurses := true, plainKeys := false, apart := false }
def GuardKeepsSaid : Prop := guardKeepsRow.holds Try.pinned (OpenSpec.ofChange guardKeepsSpec)

/-- ITS FALSE NEIGHBOUR: 'it returns false'. Refute it at one input. -/
def guardKeepsWrong : ChangeSpec := { name := "guardKeeps", fn := fun _ => fun
  | [d1, d2] => { results := [.lit (.bool false)], args := [d1, d2] }
  | _ => none }
def GuardKeepsWrongFalsely : Prop := guardKeepsRow.holds Try.pinned (OpenSpec.ofChange guardKeepsWrong)

/-- 'retortlaw07.GuardLifts': WHATEVER THE INPUT: true; the input reads as it did. -/
def guardLiftsSpec : ChangeSpec := { name := "guardLifts", fn := fun _ => fun
  | [d1, d2, d3, d4] => { results := [.lit (.bool true)], args := [d1, d2, d3, d4] }
  | _ => none }
def guardLiftsRow : OpenClaim := { program := "ytpkldboeohhmpaa", sum := "094f4269aba3d06a7f492652f66a5cfc422c7dee61332951dd745e9e08edf5ea", func := "retort/retortlaw07.GuardLifts", spec := "guardLifts", unfollowed := true, recurses := true, plainKeys := false, apart := false }
def GuardLiftsSaid : Prop := guardLiftsRow.holds Try.pinned (OpenSpec.ofChange guardLiftsSpec)

/-- ITS FALSE NEIGHBOUR: 'it returns false'. Refute it at one input. -/
def guardLiftsWrong : ChangeSpec := { name := "guardLifts", fn := fun _ => fun
  | [d1, d2, d3, d4] => { results := [.lit (.bool false)], args := [d1, d2, d3, d4] }
  | _ => none }
def GuardLiftsWrongFalsely : Prop := guardLiftsRow.holds Try.pinned (OpenSpec.ofChange guardLiftsWrong)

/-- 'retortlaw07.GuardParts': WHATEVER THE INPUT: true; the input reads as it did. -/
def guardPartsSpec : ChangeSpec := { name := "guardParts", fn := fun _ => fun
  | [d1, d2, d3] => { results := [.lit (.bool true)], args := [d1, d2, d3] }
  | _ => none }
def guardPartsRow : OpenClaim := { program := "ytpkldboeohhmpaa", sum := "094f4269aba3d06a7f492652f66a5cfc422c7dee61332951dd745e9e08edf5ea", func := "retort/retortlaw07.GuardParts", spec := "guardParts", unfollowed := true, recurses := true, plainKeys := false, apart := false }
def GuardPartsSaid : Prop := guardPartsRow.holds Try.pinned (OpenSpec.ofChange guardPartsSpec)

/-- ITS FALSE NEIGHBOUR: 'it returns false'. Refute it at one input. -/
def guardPartsWrong : ChangeSpec := { name := "guardParts", fn := fun _ => fun
  | [d1, d2, d3] => { results := [.lit (.bool false)], args := [d1, d2, d3] }
  | _ => none }
def GuardPartsWrongFalsely : Prop := guardPartsRow.holds Try.pinned (OpenSpec.ofChange guardPartsWrong)

/-- 'retortlaw07.GuardPuts': WHATEVER THE INPUT: true; the input reads as it did. -/
def guardPutsSpec : ChangeSpec := { name := "guardPuts", fn := fun _ => fun
  | [d1, d2, d3, d4] => { results := [.lit (.bool true)], args := [d1, d2, d3, d4] }
  | _ => none }
def guardPutsRow : OpenClaim := { program := "ytpkldboeohhmpaa", sum := "094f4269aba3d06a7f492652f66a5cfc422c7dee61332951dd745e9e08edf5ea", func := "retort/retortlaw07.GuardPuts", spec := "guardPuts", unfollowed := true, recurses := true, plainKeys := false, apart := false }
def GuardPutsSaid : Prop := guardPutsRow.holds Try.pinned (OpenSpec.ofChange guardPutsSpec)

/-- ITS FALSE NEIGHBOUR: 'it returns false'. Refute it at one input. -/
def guardPutsWrong : ChangeSpec := { name := "guardPuts", fn := fun _ => fun
  | [d1, d2, d3, d4] => { results := [.lit (.bool false)], args := [d1, d2, d3, d4] }
  | _ => none }
def GuardPutsWrongFalsely : Prop := guardPutsRow.holds Try.pinned (OpenSpec.ofChange guardPutsWrong)

/- THE SECOND FORM. 'bulk': how many values and letters a reading holds, each counted each time it is reached (what is shared counts as often as it is met; a slice's spare places count too). A statement '..UptoSaid' is the law's where the arguments, and the package variables that the reading takes, are together of bulk at most 1048576: NARROWER than '..Said'. Prove '..Said' where nothing that the law and all that it calls make is longer than what came in: it says more and counts as full. Else prove '..UptoSaid'. A law counts once. -/
mutual
def uptoBulk {H : Type} : DataW H → Nat
  | .lit (.string bytes) => bytes.length + 1
  | .lit _ => 1
  | .nil => 1
  | .ptr d => uptoBulk d + 1
  | .slice elems spare => uptoBulkAll elems + uptoBulkAll spare + 1
  | .agg parts => uptoBulkAll parts + 1
  | .iface _ d => uptoBulk d + 1
  | .map entries => uptoBulkEntries entries + 1
  | .held _ => 1
def uptoBulkAll {H : Type} : List (DataW H) → Nat
  | [] => 0
  | d :: r => uptoBulk d + uptoBulkAll r
def uptoBulkEntries {H : Type} : List (Lit × DataW H) → Nat
  | [] => 0
  | x :: r => uptoBulkEntry x + uptoBulkEntries r
def uptoBulkEntry {H : Type} : Lit × DataW H → Nat
  | (.string bytes, d) => bytes.length + uptoBulk d + 1
  | (_, d) => uptoBulk d + 1
 end
def uptoSmall : (H : Type) → List (DataW H) → Bool := fun _ ds => decide (uptoBulkAll ds ≤ 1048576)
def OpenSpec.upto (s : _root_.Go.ChangeSpec) : _root_.Go.OpenSpec := { _root_.Go.OpenSpec.ofChange s with cond := some uptoSmall }

/-- 'retortlaw07.GuardDeep', WHERE WHAT IT READS IS OF BULK AT MOST 1048576: true; the input reads as it did. -/
def guardDeepUptoRow : OpenClaim := { program := "ytpkldboeohhmpaa", sum := "094f4269aba3d06a7f492652f66a5cfc422c7dee61332951dd745e9e08edf5ea", func := "retort/retortlaw07.GuardDeep", spec := "guardDeep", unfollowed := true, recurses := true, plainKeys := false, apart := false, narrowed := true }
def GuardDeepUptoSaid : Prop := guardDeepUptoRow.holds Try.pinned (OpenSpec.upto guardDeepSpec)

/-- 'retortlaw07.GuardSays', WHERE WHAT IT READS IS OF BULK AT MOST 1048576: true; the input reads as it did. -/
def guardSaysUptoRow : OpenClaim := { program := "ytpkldboeohhmpaa", sum := "094f4269aba3d06a7f492652f66a5cfc422c7dee61332951dd745e9e08edf5ea", func := "retort/retortlaw07.GuardSays", spec := "guardSays", unfollowed := true, recurses := true, plainKeys := false, apart := false, narrowed := true }
def GuardSaysUptoSaid : Prop := guardSaysUptoRow.holds Try.pinned (OpenSpec.upto guardSaysSpec)

/-- 'retortlaw07.GuardKeeps', WHERE WHAT IT READS IS OF BULK AT MOST 1048576: true; the input reads as it did. -/
def guardKeepsUptoRow : OpenClaim := { program := "ytpkldboeohhmpaa", sum := "094f4269aba3d06a7f492652f66a5cfc422c7dee61332951dd745e9e08edf5ea", func := "retort/retortlaw07.GuardKeeps", spec := "guardKeeps", unfollowed := true, recurses := true, plainKeys := false, apart := false, narrowed := true }
def GuardKeepsUptoSaid : Prop := guardKeepsUptoRow.holds Try.pinned (OpenSpec.upto guardKeepsSpec)

/-- 'retortlaw07.GuardLifts', WHERE WHAT IT READS IS OF BULK AT MOST 1048576: true; the input reads as it did. -/
def guardLiftsUptoRow : OpenClaim := { program := "ytpkldboeohhmpaa", sum := "094f4269aba3d06a7f492652f66a5cfc422c7dee61332951dd745e9e08edf5ea", func := "retort/retortlaw07.GuardLifts", spec := "guardLifts", unfollowed := true, recurses := true, plainKeys := false, apart := false, narrowed := true }
def GuardLiftsUptoSaid : Prop := guardLiftsUptoRow.holds Try.pinned (OpenSpec.upto guardLiftsSpec)

/-- 'retortlaw07.GuardParts', WHERE WHAT IT READS IS OF BULK AT MOST 1048576: true; the input reads as it did. -/
def guardPartsUptoRow : OpenClaim := { program := "ytpkldboeohhmpaa", sum := "094f4269aba3d06a7f492652f66a5cfc422c7dee61332951dd745e9e08edf5ea", func := "retort/retortlaw07.GuardParts", spec := "guardParts", unfollowed := true, recurses := true, plainKeys := false, apart := false, narrowed := true }
def GuardPartsUptoSaid : Prop := guardPartsUptoRow.holds Try.pinned (OpenSpec.upto guardPartsSpec)

/-- 'retortlaw07.GuardPuts', WHERE WHAT IT READS IS OF BULK AT MOST 1048576: true; the input reads as it did. -/
def guardPutsUptoRow : OpenClaim := { program := "ytpkldboeohhmpaa", sum := "094f4269aba3d06a7f492652f66a5cfc422c7dee61332951dd745e9e08edf5ea", func := "retort/retortlaw07.GuardPuts", spec := "guardPuts", unfollowed := true, recurses := true, plainKeys := false, apart := false, narrowed := true }
def GuardPutsUptoSaid : Prop := guardPutsUptoRow.holds Try.pinned (OpenSpec.upto guardPutsSpec)

end Rows
end Go.Proofs.Ytpkldboeohhmpaa
