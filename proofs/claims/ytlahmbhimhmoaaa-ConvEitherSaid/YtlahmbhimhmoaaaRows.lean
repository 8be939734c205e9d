/-
  No cell of these rows narrows 'for every input' (looked for: loops, veiled, ifaces, maps, wideKeys, modest, calm, conditions, laid).
  DERIVED. THE GIVEN ROWS OF THIS SEAT. 3 by the template 'for every input the law returns true; each argument reads behind the call as it read before'; 0 by the template 'total and deterministic' (their statements: YtlahmbhimhmoaaaTotals.lean).
  GIVEN WITH THE SEED: the statements are not yours to turn. If you find one false, say at which input.
  Laid BY PROGRAM, IN A SANDBOX (cutbox-rows.mjs): the forced cells as the released guide's own fill.sh prints them over the translation 38dda078915708ea… (all of the seat's roots in one cut). By AI agents, Wed Nov 11 2026. No macro, syntax, notation, axiom, sorry.
-/
import Derived.Test.YtlahmbhimhmoaaaChecked
import GoSem.Claim
import GoSem.ClaimJoined
import GoSem.ClaimMapViews
import Derived.JoinedTies
import Derived.KernelRfl
namespace Go.Proofs.Ytlahmbhimhmoaaa
/- THE CELL 'sum', in the pinned program and in every row, IS THE sha256 OF THE DUMP (.gsa) THAT YtlahmbhimhmoaaaProg.lean LOADS. Nothing in Lean hashes anything: it is a label: what it is worth is what the hold of that sum in a sandbox is worth. -/
noncomputable def Try.pinned : Pinned := { name := "ytlahmbhimhmoaaa", sum := "38dda078915708ea06d649eaa0530388bec9b7f0a9c1a0d63c9f227f7ceafbd9", checked := Try.checked }
namespace Rows
def none {H : Type} : Left H := { results := [], args := [] }

/-- 'retortlaw09.ConvEither': WHATEVER THE INPUT: true; the input reads as it did. -/
def convEitherSpec : ChangeSpec := { name := "convEither", fn := fun _ => fun
  | [d] => { results := [.lit (.bool true)], args := [d] }
  | _ => none }
def convEitherRow : OpenClaim := { program := "ytlahmbhimhmoaaa", sum := "38dda078915708ea06d649eaa0530388bec9b7f0a9c1a0d63c9f227f7ceafbd9", func := "retort/retortlaw09.ConvEither", spec := "convEither", unfollowed := true, recurses := true, plainKeys := false, apart := false }
def ConvEitherSaid : Prop := convEitherRow.holds Try.pinned (OpenSpec.ofChange convEitherSpec)

/-- ITS FALSE NEIGHBOUR: 'it returns false'. Refute it at one input. -/
def convEitherWrong : ChangeSpec := { name := "convEither", fn := fun _ => fun
  | [d] => { results := [.lit (.bool false)], args := [d] }
  | _ => none }
def ConvEitherWrongFalsely : Prop := convEitherRow.holds Try.pinned (OpenSpec.ofChange convEitherWrong)

/-- 'retortlaw09.ConvChain': WHATEVER THE INPUT: true; the input reads as it did. -/
def convChainSpec : ChangeSpec := { name := "convChain", fn := fun _ => fun
  | [d1, d2] => { results := [.lit (.bool true)], args := [d1, d2] }
  | _ => none }
def convChainRow : OpenClaim := { program := "ytlahmbhimhmoaaa", sum := "38dda078915708ea06d649eaa0530388bec9b7f0a9c1a0d63c9f227f7ceafbd9", func := "retort/retortlaw09.ConvChain", spec := "convChain", unfollowed := true, recurses := true, plainKeys := false, apart := false }
def ConvChainSaid : Prop := convChainRow.holds Try.pinned (OpenSpec.ofChange convChainSpec)

/-- ITS FALSE NEIGHBOUR: 'it returns false'. Refute it at one input. -/
def convChainWrong : ChangeSpec := { name := "convChain", fn := fun _ => fun
  | [d1, d2] => { results := [.lit (.bool false)], args := [d1, d2] }
  | _ => none }
def ConvChainWrongFalsely : Prop := convChainRow.holds Try.pinned (OpenSpec.ofChange convChainWrong)

/-- 'retortlaw09.ConvFuel': WHATEVER THE INPUT: true; the input reads as it did. -/
def convFuelSpec : ChangeSpec := { name := "convFuel", fn := fun _ => fun
  | [d1, d2, d3] => { results := [.lit (.bool true)], args := [d1, d2, d3] }
  | _ => none }
def convFuelRow : OpenClaim := { program := "ytlahmbhimhmoaaa", sum := "38dda078915708ea06d649eaa0530388bec9b7f0a9c1a0d63c9f227f7ceafbd9", func := "retort/retortlaw09.ConvFuel", spec := "convFuel", unfollowed := true, recurses := true, plainKeys := false, apart := false }
def ConvFuelSaid : Prop := convFuelRow.holds Try.pinned (OpenSpec.ofChange convFuelSpec)

/-- ITS FALSE NEIGHBOUR: 'it returns false'. Refute it at one input. -/
def convFuelWrong : ChangeSpec := { name := "convFuel", fn := fun _ => fun
  | [d1, d2, d3] => { results := [.lit (.bool false)], args := [d1, d2, d3] }
  | _ => none }
def ConvFuelWrongFalsely : Prop := convFuelRow.holds Try.pinned (OpenSpec.ofChange convFuelWrong)

/- THE SECOND FORM. 'bulk': how many values and letters a reading holds, each counted each time it is reached (what is shared counts as often as it is met; a slice's spare places count too). A statement '..UptoSaid' is the law's where the arguments, and the package variables that the reading takes, are together of bulk at most 1048576: NARROWER than '..Said'. Prove '..Said' where nothing that the law and all that it calls make is longer than what came in: it says more and counts as full. Else prove '..UptoSaid'. A law counts once. -/
mutual
def uptoBulk {H : Type} : DataW H → Nat
  | .lit (.string bytes) => bytes.length + 1
  | .lit _ => 1
  | .nil => 1
  | .ptr d => uptoBulk d + 1
  | .slice elems spare => uptoBulkAll elems + uptoBulkAll spare + 1
  | .agg parts => uptoBulkAll parts + 1
  | .iface _ d => uptoBulk d + 1
  | .map entries => uptoBulkEntries entries + 1
  | .held _ => 1
def uptoBulkAll {H : Type} : List (DataW H) → Nat
  | [] => 0
  | d :: r => uptoBulk d + uptoBulkAll r
def uptoBulkEntries {H : Type} : List (Lit × DataW H) → Nat
  | [] => 0
  | x :: r => uptoBulkEntry x + uptoBulkEntries r
def uptoBulkEntry {H : Type} : Lit × DataW H → Nat
  | (.string bytes, d) => bytes.length + uptoBulk d + 1
  | (_, d) => uptoBulk d + 1
 end
def uptoSmall : (H : Type) → List (DataW H) → Bool := fun _ ds => decide (uptoBulkAll ds ≤ 1048576)
def OpenSpec.upto (s : _root_.Go.ChangeSpec) : _root_.Go.OpenSpec := { _root_.Go.OpenSpec.ofChange s with cond := some uptoSmall }

/-- 'retortlaw09.ConvEither', WHERE WHAT IT READS IS OF BULK AT MOST 1048576: true; the input reads as it did. -/
def convEitherUptoRow : OpenClaim := { program := "ytlahmbhimhmoaaa", sum := "38dda078915708ea06d649eaa0530388bec9b7f0a9c1a0d63c9f227f7ceafbd9", func := "retort/retortlaw09.ConvEither", spec := "convEither", unfollowed := true, recurses := true, plainKeys := false, apart := false, narrowed := true }
def ConvEitherUptoSaid : Prop := convEitherUptoRow.holds Try.pinned (OpenSpec.upto convEitherSpec)

/-- 'retortlaw09.ConvChain', WHERE WHAT IT READS IS OF BULK AT MOST 1048576: true; the input reads as it did. -/
def convChainUptoRow : OpenClaim := { program := "ytlahmbhimhmoaaa", sum := "38dda078915708ea06d649eaa0530388bec9b7f0a9c1a0d63c9f227f7ceafbd9", func := "retort/retortlaw09.ConvChain", spec := "convChain", unfollowed := true, recurses := true, plainKeys := false, apart := false, narrowed := true }
def ConvChainUptoSaid : Prop := convChainUptoRow.holds Try.pinned (OpenSpec.upto convChainSpec)

/-- 'retortlaw09.ConvFuel', WHERE WHAT IT READS IS OF BULK AT MOST 1048576: true; the input reads as it did. -/
def convFuelUptoRow : OpenClaim := { program := "ytlahmbhimhmoaaa", sum := "38dda078915708ea06d649eaa0530388bec9b7f0a9c1a0d63c9f227f7ceafbd9", func := "retort/retortlaw09.ConvFuel", spec := "convFuel", unfollowed := true, recurses := true, plainKeys := false, apart := false, narrowed := true }
def ConvFuelUptoSaid : Prop := convFuelUptoRow.holds Try.pinned (OpenSpec.upto convFuelSpec)

end Rows
end Go.Proofs.Ytlahmbhimhmoaaa
