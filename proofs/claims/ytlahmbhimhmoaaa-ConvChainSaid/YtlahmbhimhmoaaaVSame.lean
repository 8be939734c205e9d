/- Same of the reference: two rows of nodes are compared. -/
import Derived.Test.YtlahmbhimhmoaaaProg
import Derived.Test.YtlahmbhimhmoaaaVBase
import Derived.WalkLawsBesides
import Derived.WalkSpells
import Derived.Deep.QuietTactic
import Derived.BigQuiet
namespace Go.Proofs.Ytlahmbhimhmoaaa
set_option linter.unusedVariables false
set_option linter.unusedSimpArgs false
open Go.RowKit
theorem k9(x y:Nd)(w:OE):(Go.binOp .eql 42 (.agg #[.int .i64 x.op,.int .i64 x.a,.int .i64 x.b]) (.agg #[.int .i64 y.op,.int .i64 y.a,.int .i64 y.b])).run Try.prog w=.ok (.bool (decide (x=y))) w:=by
 obtain⟨p,q,r⟩:=x;obtain⟨I,O,U⟩:=y;simp[go_sem];by_cases D:p=I<;>by_cases F:q=O<;>by_cases G:r=U<;>simp[D,F,G]
theorem jM(x y:Nd)(w:OE):(Go.binOp .neq 42 (.agg #[.int .i64 x.op,.int .i64 x.a,.int .i64 x.b]) (.agg #[.int .i64 y.op,.int .i64 y.a,.int .i64 y.b])).run Try.prog w=.ok (.bool (!decide (x=y))) w:=by
 obtain⟨p,q,r⟩:=x;obtain⟨I,O,U⟩:=y;simp[go_sem];by_cases D:p=I<;>by_cases F:q=O<;>by_cases G:r=U<;>simp[D,F,G]
end Go.Proofs.Ytlahmbhimhmoaaa
