/-
  No cell of these rows narrows 'for every input' (looked for: loops, veiled, ifaces, maps, wideKeys, modest, calm, conditions, laid).
  DERIVED. THE GIVEN ROWS OF THIS SEAT. 3 by the template 'for every input the law returns true; each argument reads behind the call as it read before'; 0 by the template 'total and deterministic' (their statements: YtplecfbdchmogaaTotals.lean).
  GIVEN WITH THE SEED: the statements are not yours to turn. If you find one false, say at which input.
  Laid BY PROGRAM, IN A SANDBOX (cutbox-rows.mjs): the forced cells as the released guide's own fill.sh prints them over the translation 6219b155fa7a346a… (all of the seat's roots in one cut). By AI agents, Wed Nov 11 2026. No macro, syntax, notation, axiom, sorry.
-/
import Derived.Test.YtplecfbdchmogaaChecked
import GoSem.Claim
import GoSem.ClaimJoined
import GoSem.ClaimMapViews
import Derived.JoinedTies
import Derived.KernelRfl
namespace Go.Proofs.Ytplecfbdchmogaa
/- THE CELL 'sum', in the pinned program and in every row, IS THE sha256 OF THE DUMP (.gsa) THAT YtplecfbdchmogaaProg.lean LOADS. Nothing in Lean hashes anything: it is a label: what it is worth is what the hold of that sum in a sandbox is worth. -/
noncomputable def Try.pinned : Pinned := { name := "ytplecfbdchmogaa", sum := "6219b155fa7a346a88b4ef1f933fd1ac02652ff6d33079d2e8ad7ae2c6fff13c", checked := Try.checked }
namespace Rows
def none {H : Type} : Left H := { results := [], args := [] }

/-- 'retortlaw05.BookBack': WHATEVER THE INPUT: true; the input reads as it did. -/
def bookBackSpec : ChangeSpec := { name := "bookBack", fn := fun _ => fun
  | [d1, d2] => { results := [.lit (.bool true)], args := [d1, d2] }
  | _ => none }
def bookBackRow : OpenClaim := { program := "ytplecfbdchmogaa", sum := "6219b155fa7a346a88b4ef1f933fd1ac02652ff6d33079d2e8ad7ae2c6fff13c", func := "retort/retortlaw05.BookBack", spec := "bookBack", unfollowed := true, recurses := true, plainKeys := false, apart := false }
def BookBackSaid : Prop := bookBackRow.holds Try.pinned (OpenSpec.ofChange bookBackSpec)

/-- ITS FALSE NEIGHBOUR: 'it returns false'. Refute it at one input. -/
def bookBackWrong : ChangeSpec := { name := "bookBack", fn := fun _ => fun
  | [d1, d2] => { results := [.lit (.bool false)], args := [d1, d2] }
  | _ => none }
def BookBackWrongFalsely : Prop := bookBackRow.holds Try.pinned (OpenSpec.ofChange bookBackWrong)

/-- 'retortlaw05.BookOne': WHATEVER THE INPUT: true; the input reads as it did. -/
def bookOneSpec : ChangeSpec := { name := "bookOne", fn := fun _ => fun
  | [d] => { results := [.lit (.bool true)], args := [d] }
  | _ => none }
def bookOneRow : OpenClaim := { program := "ytplecfbdchmogaa", sum := "6219b155fa7a346a88b4ef1f933fd1ac02652ff6d33079d2e8ad7ae2c6fff13c", func := "retort/retortlaw05.BookOne", spec := "bookOne", unfollowed := true, recurses := true, plainKeys := false, apart := false }
def BookOneSaid : Prop := bookOneRow.holds Try.pinned (OpenSpec.ofChange bookOneSpec)

/-- ITS FALSE NEIGHBOUR: 'it returns false'. Refute it at one input. -/
def bookOneWrong : ChangeSpec := { name := "bookOne", fn := fun _ => fun
  | [d] => { results := [.lit (.bool false)], args := [d] }
  | _ => none }
def BookOneWrongFalsely : Prop := bookOneRow.holds Try.pinned (OpenSpec.ofChange bookOneWrong)

/-- 'retortlaw05.BookScopes': WHATEVER THE INPUT: true; the input reads as it did. -/
def bookScopesSpec : ChangeSpec := { name := "bookScopes", fn := fun _ => fun
  | [d] => { results := [.lit (.bool true)], args := [d] }
  | _ => none }
def bookScopesRow : OpenClaim := { program := "ytplecfbdchmogaa", sum := "6219b155fa7a346a88b4ef1f933fd1ac02652ff6d33079d2e8ad7ae2c6fff13c", func := "retort/retortlaw05.BookScopes", spec := "bookScopes", unfollowed := true, recurses := true, plainKeys := false, apart := false }
def BookScopesSaid : Prop := bookScopesRow.holds Try.pinned (OpenSpec.ofChange bookScopesSpec)

/-- ITS FALSE NEIGHBOUR: 'it returns false'. Refute it at one input. -/
def bookScopesWrong : ChangeSpec := { name := "bookScopes", fn := fun _ => fun
  | [d] => { results := [.lit (.bool false)], args := [d] }
  | _ => none }
def BookScopesWrongFalsely : Prop := bookScopesRow.holds Try.pinned (OpenSpec.ofChange bookScopesWrong)

/- THE SECOND FORM. 'bulk': how many values and letters a reading holds, each counted each time it is reached (what is shared counts as often as it is met; a slice's spare places count too). A statement '..UptoSaid' is the law's where the arguments, and the package variables that the reading takes, are together of bulk at most 1048576: NARROWER than '..Said'. Prove '..Said' where nothing that the law and all that it calls make is longer than what came in: it says more and counts as full. Else prove '..UptoSaid'. A law counts once. -/
mutual
def uptoBulk {H : Type} : DataW H → Nat
  | .lit (.string bytes) => bytes.length + 1
  | .lit _ => 1
  | .nil => 1
  | .ptr d => uptoBulk d + 1
  | .slice elems spare => uptoBulkAll elems + uptoBulkAll spare + 1
  | .agg parts => uptoBulkAll parts + 1
  | .iface _ d => uptoBulk d + 1
  | .map entries => uptoBulkEntries entries + 1
  | .held _ => 1
def uptoBulkAll {H : Type} : List (DataW H) → Nat
  | [] => 0
  | d :: r => uptoBulk d + uptoBulkAll r
def uptoBulkEntries {H : Type} : List (Lit × DataW H) → Nat
  | [] => 0
  | x :: r => uptoBulkEntry x + uptoBulkEntries r
def uptoBulkEntry {H : Type} : Lit × DataW H → Nat
  | (.string bytes, d) => bytes.length + uptoBulk d + 1
  | (_, d) => uptoBulk d + 1
 end
def uptoSmall : (H : Type) → List (DataW H) → Bool := fun _ ds => decide (uptoBulkAll ds ≤ 1048576)
def OpenSpec.upto (s : _root_.Go.ChangeSpec) : _root_.Go.OpenSpec := { _root_.Go.OpenSpec.ofChange s with cond := some uptoSmall }

/-- 'retortlaw05.BookBack', WHERE WHAT IT READS IS OF BULK AT MOST 1048576: true; the input reads as it did. -/
def bookBackUptoRow : OpenClaim := { program := "ytplecfbdchmogaa", sum := "6219b155fa7a346a88b4ef1f933fd1ac02652ff6d33079d2e8ad7ae2c6fff13c", func := "retort/retortlaw05.BookBack", spec := "bookBack", unfollowed := true, recurses := true, plainKeys := false, apart := false, narrowed := true }
def BookBackUptoSaid : Prop := bookBackUptoRow.holds Try.pinned (OpenSpec.upto bookBackSpec)

/-- 'retortlaw05.BookOne', WHERE WHAT IT READS IS OF BULK AT MOST 1048576: true; the input reads as it did. -/
def bookOneUptoRow : OpenClaim := { program := "ytplecfbdchmogaa", sum := "6219b155fa7a346a88b4ef1f933fd1ac02652ff6d33079d2e8ad7ae2c6fff13c", func := "retort/retortlaw05.BookOne", spec := "bookOne", unfollowed := true, recurses := true, plainKeys := false, apart := false, narrowed := true }
def BookOneUptoSaid : Prop := bookOneUptoRow.holds Try.pinned (OpenSpec.upto bookOneSpec)

/-- 'retortlaw05.BookScopes', WHERE WHAT IT READS IS OF BULK AT MOST 1048576: true; the input reads as it did. -/
def bookScopesUptoRow : OpenClaim := { program := "ytplecfbdchmogaa", sum := "6219b155fa7a346a88b4ef1f933fd1ac02652ff6d33079d2e8ad7ae2c6fff13c", func := "retort/retortlaw05.BookScopes", spec := "bookScopes", unfollowed := true, recurses := true, plainKeys := false, apart := false, narrowed := true }
def BookScopesUptoSaid : Prop := bookScopesUptoRow.holds Try.pinned (OpenSpec.upto bookScopesSpec)

end Rows
end Go.Proofs.Ytplecfbdchmogaa
