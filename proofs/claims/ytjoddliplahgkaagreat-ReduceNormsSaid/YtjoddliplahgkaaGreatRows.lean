/-
  No cell of these rows narrows 'for every input' (looked for: loops, veiled, ifaces, maps, wideKeys, modest, calm, conditions, laid).
  DERIVED. THE GIVEN ROWS OF THIS SEAT. 4 by the template 'for every input the law returns true; each argument reads behind the call as it read before'; 0 by the template 'total and deterministic' (their statements: YtjoddliplahgkaaGreatTotals.lean).
  GIVEN WITH THE SEED: the statements are not yours to turn. If you find one false, say at which input.
  Laid BY PROGRAM, IN A SANDBOX (cutbox-rows.mjs): the forced cells as the released guide's own fill.sh prints them over the translation 92cbaa7c76223d0c… (all of the seat's roots in one cut). By AI agents, Wed Nov 11 2026. No macro, syntax, notation, axiom, sorry.
-/
import Derived.Test.YtjoddliplahgkaaGreatChecked
import GoSem.Claim
import GoSem.ClaimJoined
import GoSem.ClaimMapViews
import Derived.JoinedTies
import Derived.KernelRfl
namespace Go.Proofs.YtjoddliplahgkaaGreat
/- THE CELL 'sum', in the pinned program and in every row, IS THE sha256 OF THE DUMP (.gsa) THAT YtjoddliplahgkaaGreatProg.lean LOADS. Nothing in Lean hashes anything: it is a label: what it is worth is what the hold of that sum in a sandbox is worth. -/
noncomputable def Tryz.pinned : Pinned := { name := "ytjoddliplahgkaagreat", sum := "92cbaa7c76223d0cdb8fe87a6d837b8d33ef721d6d2f08436e1104d259c0d74a", checked := Tryz.checked }
namespace Rows
def none {H : Type} : Left H := { results := [], args := [] }

/-- 'retortlaw08.ReduceFits': WHATEVER THE INPUT: true; the input reads as it did. -/
def reduceFitsSpec : ChangeSpec := { name := "reduceFits", fn := fun _ => fun
  | [d] => { results := [.lit (.bool true)], args := [d] }
  | _ => none }
def reduceFitsRow : OpenClaim := { program := "ytjoddliplahgkaagreat", sum := "92cbaa7c76223d0cdb8fe87a6d837b8d33ef721d6d2f08436e1104d259c0d74a", func := "retort/retortlaw08.ReduceFits", spec := "reduceFits", unfollowed := true, recurses := true, plainKeys := false, apart := false }
def ReduceFitsSaid : Prop := reduceFitsRow.holds Tryz.pinned (OpenSpec.ofChange reduceFitsSpec)

/-- ITS FALSE NEIGHBOUR: 'it returns false'. Refute it at one input. -/
def reduceFitsWrong : ChangeSpec := { name := "reduceFits", fn := fun _ => fun
  | [d] => { results := [.lit (.bool false)], args := [d] }
  | _ => none }
def ReduceFitsWrongFalsely : Prop := reduceFitsRow.holds Tryz.pinned (OpenSpec.ofChange reduceFitsWrong)

/-- 'retortlaw08.ReduceGoes': WHATEVER THE INPUT: true; the input reads as it did. -/
def reduceGoesSpec : ChangeSpec := { name := "reduceGoes", fn := fun _ => fun
  | [d] => { results := [.lit (.bool true)], args := [d] }
  | _ => none }
def reduceGoesRow : OpenClaim := { program := "ytjoddliplahgkaagreat", sum := "92cbaa7c76223d0cdb8fe87a6d837b8d33ef721d6d2f08436e1104d259c0d74a", func := "retort/retortlaw08.ReduceGoes", spec := "reduceGoes", unfollowed := true, recurses := true, plainKeys := false, apart := false }
def ReduceGoesSaid : Prop := reduceGoesRow.holds Tryz.pinned (OpenSpec.ofChange reduceGoesSpec)

/-- ITS FALSE NEIGHBOUR: 'it returns false'. Refute it at one input. -/
def reduceGoesWrong : ChangeSpec := { name := "reduceGoes", fn := fun _ => fun
  | [d] => { results := [.lit (.bool false)], args := [d] }
  | _ => none }
def ReduceGoesWrongFalsely : Prop := reduceGoesRow.holds Tryz.pinned (OpenSpec.ofChange reduceGoesWrong)

/-- 'retortlaw08.ReduceNorms': WHATEVER THE INPUT: true; the input reads as it did. -/
def reduceNormsSpec : ChangeSpec := { name := "reduceNorms", fn := fun _ => fun
  | [d] => { results := [.lit (.bool true)], args := [d] }
  | _ => none }
def reduceNormsRow : OpenClaim := { program := "ytjoddliplahgkaagreat", sum := "92cbaa7c76223d0cdb8fe87a6d837b8d33ef721d6d2f08436e1104d259c0d74a", func := "retort/retortlaw08.ReduceNorms", spec := "reduceNorms", unfollowed := true, recurses := true, plainKeys := false, apart := false }
def ReduceNormsSaid : Prop := reduceNormsRow.holds Tryz.pinned (OpenSpec.ofChange reduceNormsSpec)

/-- ITS FALSE NEIGHBOUR: 'it returns false'. Refute it at one input. -/
def reduceNormsWrong : ChangeSpec := { name := "reduceNorms", fn := fun _ => fun
  | [d] => { results := [.lit (.bool false)], args := [d] }
  | _ => none }
def ReduceNormsWrongFalsely : Prop := reduceNormsRow.holds Tryz.pinned (OpenSpec.ofChange reduceNormsWrong)

/-- 'retortlaw08.ReduceKeeps': WHATEVER THE INPUT: true; the input reads as it did. -/
def reduceKeepsSpec : ChangeSpec := { name := "reduceKeeps", fn := fun _ => fun
  | [d] => { results := [.lit (.bool true)], args := [d] }
  | _ => none }
def reduceKeepsRow : OpenClaim := { program := "ytjoddliplahgkaagreat", sum := "92cbaa7c76223d0cdb8fe87a6d837b8d33ef721d6d2f08436e1104d259c0d74a", func := "retort/retortlaw08.ReduceKeeps", spec := "reduceKeeps", unfollowed := true, recurses := true, plainKeys := false, apart := false }
def ReduceKeepsSaid : Prop := reduceKeepsRow.holds Tryz.pinned (OpenSpec.ofChange reduceKeepsSpec)

/-- ITS FALSE NEIGHBOUR: 'it returns false'. Refute it at one input. -/
def reduceKeepsWrong : ChangeSpec := { name := "reduceKeeps", fn := fun _ => fun
  | [d] => { results := [.lit (.bool false)], args := [d] }
  | _ => none }
def ReduceKeepsWrongFalsely : Prop := reduceKeepsRow.holds Tryz.pinned (OpenSpec.ofChange reduceKeepsWrong)

/- THE SECOND FORM. 'bulk': how many values and letters a reading holds, each counted each time it is reached (what is shared counts as often as it is met; a slice's spare places count too). A statement '..UptoSaid' is the law's where the arguments, and the package variables that the reading takes, are together of bulk at most 1048576: NARROWER than '..Said'. Prove '..Said' where nothing that the law and all that it calls make is longer than what came in: it says more and counts as full. Else prove '..UptoSaid'. A law counts once. -/
mutual
def uptoBulk {H : Type} : DataW H → Nat
  | .lit (.string bytes) => bytes.length + 1
  | .lit _ => 1
  | .nil => 1
  | .ptr d => uptoBulk d + 1
  | .slice elems spare => uptoBulkAll elems + uptoBulkAll spare + 1
  | .agg parts => uptoBulkAll parts + 1
  | .iface _ d => uptoBulk d + 1
  | .map entries => uptoBulkEntries entries + 1
  | .held _ => 1
def uptoBulkAll {H : Type} : List (DataW H) → Nat
  | [] => 0
  | d :: r => uptoBulk d + uptoBulkAll r
def uptoBulkEntries {H : Type} : List (Lit × DataW H) → Nat
  | [] => 0
  | x :: r => uptoBulkEntry x + uptoBulkEntries r
def uptoBulkEntry {H : Type} : Lit × DataW H → Nat
  | (.string bytes, d) => bytes.length + uptoBulk d + 1
  | (_, d) => uptoBulk d + 1
 end
def uptoSmall : (H : Type) → List (DataW H) → Bool := fun _ ds => decide (uptoBulkAll ds ≤ 1048576)
def OpenSpec.upto (s : _root_.Go.ChangeSpec) : _root_.Go.OpenSpec := { _root_.Go.OpenSpec.ofChange s with cond := some uptoSmall }

/-- 'retortlaw08.ReduceFits', WHERE WHAT IT READS IS OF BULK AT MOST 1048576: true; the input reads as it did. -/
def reduceFitsUptoRow : OpenClaim := { program := "ytjoddliplahgkaagreat", sum := "92cbaa7c76223d0cdb8fe87a6d837b8d33ef721d6d2f08436e1104d259c0d74a", func := "retort/retortlaw08.ReduceFits", spec := "reduceFits", unfollowed := true, recurses := true, plainKeys := false, apart := false, narrowed := true }
def ReduceFitsUptoSaid : Prop := reduceFitsUptoRow.holds Tryz.pinned (OpenSpec.upto reduceFitsSpec)

/-- 'retortlaw08.ReduceGoes', WHERE WHAT IT READS IS OF BULK AT MOST 1048576: true; the input reads as it did. -/
def reduceGoesUptoRow : OpenClaim := { program := "ytjoddliplahgkaagreat", sum := "92cbaa7c76223d0cdb8fe87a6d837b8d33ef721d6d2f08436e1104d259c0d74a", func := "retort/retortlaw08.ReduceGoes", spec := "reduceGoes", unfollowed := true, recurses := true, plainKeys := false, apart := false, narrowed := true }
def ReduceGoesUptoSaid : Prop := reduceGoesUptoRow.holds Tryz.pinned (OpenSpec.upto reduceGoesSpec)

/-- 'retortlaw08.ReduceNorms', WHERE WHAT IT READS IS OF BULK AT MOST 1048576: true; the input reads as it did. -/
def reduceNormsUptoRow : OpenClaim := { program := "ytjoddliplahgkaagreat", sum := "92cbaa7c76223d0cdb8fe87a6d837b8d33ef721d6d2f08436e1104d259c0d74a", func := "retort/retortlaw08.ReduceNorms", spec := "reduceNorms", unfollowed := true, recurses := true, plainKeys := false, apart := false, narrowed := true }
def ReduceNormsUptoSaid : Prop := reduceNormsUptoRow.holds Tryz.pinned (OpenSpec.upto reduceNormsSpec)

/-- 'retortlaw08.ReduceKeeps', WHERE WHAT IT READS IS OF BULK AT MOST 1048576: true; the input reads as it did. -/
def reduceKeepsUptoRow : OpenClaim := { program := "ytjoddliplahgkaagreat", sum := "92cbaa7c76223d0cdb8fe87a6d837b8d33ef721d6d2f08436e1104d259c0d74a", func := "retort/retortlaw08.ReduceKeeps", spec := "reduceKeeps", unfollowed := true, recurses := true, plainKeys := false, apart := false, narrowed := true }
def ReduceKeepsUptoSaid : Prop := reduceKeepsUptoRow.holds Tryz.pinned (OpenSpec.upto reduceKeepsSpec)

end Rows
end Go.Proofs.YtjoddliplahgkaaGreat
