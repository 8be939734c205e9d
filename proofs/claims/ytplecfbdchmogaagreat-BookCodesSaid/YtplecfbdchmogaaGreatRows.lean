/-
  No cell of these rows narrows 'for every input' (looked for: loops, veiled, ifaces, maps, wideKeys, modest, calm, conditions, laid).
  DERIVED. THE GIVEN ROWS OF THIS SEAT. 4 by the template 'for every input the law returns true; each argument reads behind the call as it read before'; 0 by the template 'total and deterministic' (their statements: YtplecfbdchmogaaGreatTotals.lean).
  GIVEN WITH THE SEED: the statements are not yours to turn. If you find one false, say at which input.
  Laid BY PROGRAM, IN A SANDBOX (cutbox-rows.mjs): the forced cells as the released guide's own fill.sh prints them over the translation af1ab6e80b48da0e… (all of the seat's roots in one cut). By AI agents, Wed Nov 11 2026. No macro, syntax, notation, axiom, sorry.
-/
import Derived.Test.YtplecfbdchmogaaGreatChecked
import GoSem.Claim
import GoSem.ClaimJoined
import GoSem.ClaimMapViews
import Derived.JoinedTies
import Derived.KernelRfl
namespace Go.Proofs.YtplecfbdchmogaaGreat
/- THE CELL 'sum', in the pinned program and in every row, IS THE sha256 OF THE DUMP (.gsa) THAT YtplecfbdchmogaaGreatProg.lean LOADS. Nothing in Lean hashes anything: it is a label: what it is worth is what the hold of that sum in a sandbox is worth. -/
noncomputable def Tryz.pinned : Pinned := { name := "ytplecfbdchmogaagreat", sum := "af1ab6e80b48da0e4f2991018e1ecc4fb3080d5f97ddd8a6fdeb21466b514dff", checked := Tryz.checked }
namespace Rows
def none {H : Type} : Left H := { results := [], args := [] }

/-- 'retortlaw05.BookRights': WHATEVER THE INPUT: true; the input reads as it did. -/
def bookRightsSpec : ChangeSpec := { name := "bookRights", fn := fun _ => fun
  | [d1, d2, d3] => { results := [.lit (.bool true)], args := [d1, d2, d3] }
  | _ => none }
def bookRightsRow : OpenClaim := { program := "ytplecfbdchmogaagreat", sum := "af1ab6e80b48da0e4f2991018e1ecc4fb3080d5f97ddd8a6fdeb21466b514dff", func := "retort/retortlaw05.BookRights", spec := "bookRights", unfollowed := true, recurses := true, plainKeys := false, apart := false }
def BookRightsSaid : Prop := bookRightsRow.holds Tryz.pinned (OpenSpec.ofChange bookRightsSpec)

/-- ITS FALSE NEIGHBOUR: 'it returns false'. Refute it at one input. -/
def bookRightsWrong : ChangeSpec := { name := "bookRights", fn := fun _ => fun
  | [d1, d2, d3] => { results := [.lit (.bool false)], args := [d1, d2, d3] }
  | _ => none }
def BookRightsWrongFalsely : Prop := bookRightsRow.holds Tryz.pinned (OpenSpec.ofChange bookRightsWrong)

/-- 'retortlaw05.BookCodes': WHATEVER THE INPUT: true; the input reads as it did. -/
def bookCodesSpec : ChangeSpec := { name := "bookCodes", fn := fun _ => fun
  | [d1, d2] => { results := [.lit (.bool true)], args := [d1, d2] }
  | _ => none }
def bookCodesRow : OpenClaim := { program := "ytplecfbdchmogaagreat", sum := "af1ab6e80b48da0e4f2991018e1ecc4fb3080d5f97ddd8a6fdeb21466b514dff", func := "retort/retortlaw05.BookCodes", spec := "bookCodes", unfollowed := true, recurses := true, plainKeys := false, apart := false }
def BookCodesSaid : Prop := bookCodesRow.holds Tryz.pinned (OpenSpec.ofChange bookCodesSpec)

/-- ITS FALSE NEIGHBOUR: 'it returns false'. Refute it at one input. -/
def bookCodesWrong : ChangeSpec := { name := "bookCodes", fn := fun _ => fun
  | [d1, d2] => { results := [.lit (.bool false)], args := [d1, d2] }
  | _ => none }
def BookCodesWrongFalsely : Prop := bookCodesRow.holds Tryz.pinned (OpenSpec.ofChange bookCodesWrong)

/-- 'retortlaw05.BookTypes': WHATEVER THE INPUT: true; the input reads as it did. -/
def bookTypesSpec : ChangeSpec := { name := "bookTypes", fn := fun _ => fun
  | [d1, d2, d3] => { results := [.lit (.bool true)], args := [d1, d2, d3] }
  | _ => none }
def bookTypesRow : OpenClaim := { program := "ytplecfbdchmogaagreat", sum := "af1ab6e80b48da0e4f2991018e1ecc4fb3080d5f97ddd8a6fdeb21466b514dff", func := "retort/retortlaw05.BookTypes", spec := "bookTypes", unfollowed := true, recurses := true, plainKeys := false, apart := false }
def BookTypesSaid : Prop := bookTypesRow.holds Tryz.pinned (OpenSpec.ofChange bookTypesSpec)

/-- ITS FALSE NEIGHBOUR: 'it returns false'. Refute it at one input. -/
def bookTypesWrong : ChangeSpec := { name := "bookTypes", fn := fun _ => fun
  | [d1, d2, d3] => { results := [.lit (.bool false)], args := [d1, d2, d3] }
  | _ => none }
def BookTypesWrongFalsely : Prop := bookTypesRow.holds Tryz.pinned (OpenSpec.ofChange bookTypesWrong)

/-- 'retortlaw05.BookKeeps': WHATEVER THE INPUT: true; the input reads as it did. -/
def bookKeepsSpec : ChangeSpec := { name := "bookKeeps", fn := fun _ => fun
  | [d] => { results := [.lit (.bool true)], args := [d] }
  | _ => none }
def bookKeepsRow : OpenClaim := { program := "ytplecfbdchmogaagreat", sum := "af1ab6e80b48da0e4f2991018e1ecc4fb3080d5f97ddd8a6fdeb21466b514dff", func := "retort/retortlaw05.BookKeeps", spec := "bookKeeps", unfollowed := true, recurses := true, plainKeys := false, apart := false }
def BookKeepsSaid : Prop := bookKeepsRow.holds Tryz.pinned (OpenSpec.ofChange bookKeepsSpec)

/-- ITS FALSE NEIGHBOUR: 'it returns false'. Refute it at one input. -/
def bookKeepsWrong : ChangeSpec := { name := "bookKeeps", fn := fun _ => fun
  | [d] => { results := [.lit (.bool false)], args := [d] }
  | _ => none }
def BookKeepsWrongFalsely : Prop := bookKeepsRow.holds Tryz.pinned (OpenSpec.ofChange bookKeepsWrong)

/- THE SECOND FORM. 'bulk': how many values and letters a reading holds, each counted each time it is reached (what is shared counts as often as it is met; a slice's spare places count too). A statement '..UptoSaid' is the law's where the arguments, and the package variables that the reading takes, are together of bulk at most 1048576: NARROWER than '..Said'. Prove '..Said' where nothing that the law and all that it calls make is longer than what came in: it says more and counts as full. Else prove '..UptoSaid'. A law counts once. -/
mutual
def uptoBulk {H : Type} : DataW H → Nat
  | .lit (.string bytes) => bytes.length + 1
  | .lit _ => 1
  | .nil => 1
  | .ptr d => uptoBulk d + 1
  | .slice elems spare => uptoBulkAll elems + uptoBulkAll spare + 1
  | .agg parts => uptoBulkAll parts + 1
  | .iface _ d => uptoBulk d + 1
  | .map entries => uptoBulkEntries entries + 1
  | .held _ => 1
def uptoBulkAll {H : Type} : List (DataW H) → Nat
  | [] => 0
  | d :: r => uptoBulk d + uptoBulkAll r
def uptoBulkEntries {H : Type} : List (Lit × DataW H) → Nat
  | [] => 0
  | x :: r => uptoBulkEntry x + uptoBulkEntries r
def uptoBulkEntry {H : Type} : Lit × DataW H → Nat
  | (.string bytes, d) => bytes.length + uptoBulk d + 1
  | (_, d) => uptoBulk d + 1
 end
def uptoSmall : (H : Type) → List (DataW H) → Bool := fun _ ds => decide (uptoBulkAll ds ≤ 1048576)
def OpenSpec.upto (s : _root_.Go.ChangeSpec) : _root_.Go.OpenSpec := { _root_.Go.OpenSpec.ofChange s with cond := some uptoSmall }

/-- 'retortlaw05.BookRights', WHERE WHAT IT READS IS OF BULK AT MOST 1048576: true; the input reads as it did. -/
def bookRightsUptoRow : OpenClaim := { program := "ytplecfbdchmogaagreat", sum := "af1ab6e80b48da0e4f2991018e1ecc4fb3080d5f97ddd8a6fdeb21466b514dff", func := "retort/retortlaw05.BookRights", spec := "bookRights", unfollowed := true, recurses := true, plainKeys := false, apart := false, narrowed := true }
def BookRightsUptoSaid : Prop := bookRightsUptoRow.holds Tryz.pinned (OpenSpec.upto bookRightsSpec)

/-- 'retortlaw05.BookCodes', WHERE WHAT IT READS IS OF BULK AT MOST 1048576: true; the input reads as it did. -/
def bookCodesUptoRow : OpenClaim := { program := "ytplecfbdchmogaagreat", sum := "af1ab6e80b48da0e4f2991018e1ecc4fb3080d5f97ddd8a6fdeb21466b514dff", func := "retort/retortlaw05.BookCodes", spec := "bookCodes", unfollowed := true, recurses := true, plainKeys := false, apart := false, narrowed := true }
def BookCodesUptoSaid : Prop := bookCodesUptoRow.holds Tryz.pinned (OpenSpec.upto bookCodesSpec)

/-- 'retortlaw05.BookTypes', WHERE WHAT IT READS IS OF BULK AT MOST 1048576: true; the input reads as it did. -/
def bookTypesUptoRow : OpenClaim := { program := "ytplecfbdchmogaagreat", sum := "af1ab6e80b48da0e4f2991018e1ecc4fb3080d5f97ddd8a6fdeb21466b514dff", func := "retort/retortlaw05.BookTypes", spec := "bookTypes", unfollowed := true, recurses := true, plainKeys := false, apart := false, narrowed := true }
def BookTypesUptoSaid : Prop := bookTypesUptoRow.holds Tryz.pinned (OpenSpec.upto bookTypesSpec)

/-- 'retortlaw05.BookKeeps', WHERE WHAT IT READS IS OF BULK AT MOST 1048576: true; the input reads as it did. -/
def bookKeepsUptoRow : OpenClaim := { program := "ytplecfbdchmogaagreat", sum := "af1ab6e80b48da0e4f2991018e1ecc4fb3080d5f97ddd8a6fdeb21466b514dff", func := "retort/retortlaw05.BookKeeps", spec := "bookKeeps", unfollowed := true, recurses := true, plainKeys := false, apart := false, narrowed := true }
def BookKeepsUptoSaid : Prop := bookKeepsUptoRow.holds Tryz.pinned (OpenSpec.upto bookKeepsSpec)

end Rows
end Go.Proofs.YtplecfbdchmogaaGreat
