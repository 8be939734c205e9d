/- Merged: Heads, Match, FineS, FineL, FineT, FineX, Fines. -/
import Derived.Test.YtplecfbdchmogaaGreatDEnds
import Derived.Test.YtplecfbdchmogaaGreatDLeafs
import Derived.Test.YtplecfbdchmogaaGreatDBase
import Derived.Test.YtplecfbdchmogaaGreatDShort2
namespace Go.Proofs.YtplecfbdchmogaaGreat
section
section
open Go.RowKit
abbrev TT:=Nd×List Nd×Fo
def hd:Nat->TT->TT×List TT
 | m+1,(n,a,.cons p n1 a1 k1 (.cons q n2 a2 k2 r))=>if n.op=6 then ((hd m (n1,a1,k1)).1,(hd m (n1,a1,k1)).2++[(n2,a2,k2)]) else ((n,a,.cons p n1 a1 k1 (.cons q n2 a2 k2 r)),[])
 | _,x=>(x,[])
theorem wQ:(Tryz.prog.info? 28).map (fun i=>(i.zero,i.size,i.bytes))=some (some (.slice none 0 0),1,24):=by kernel_rfl
end
section
open Go.RowKit
def fT (b:Bool) (w:World) (e:Ending) (w':World):Prop:=e=.returned (.bool b)/\Below w.heap.size w w'
end
section
open Go.RowKit
end
section
open Go.RowKit
end
section
open Go.RowKit
end
section
open Go.RowKit
end
section
open Go.RowKit
end
section
open Go.RowKit
structure At (t:List Nd) (p:Nat) (dl:List Bool) (F:Fo):Prop where
 wf:Wf dl F
 few:t.length<=4096
 le:p<=t.length
 rest:t.drop p=row F
end
end
section
open Go.RowKit
end
section
open Go.RowKit
end
section
open Go.RowKit
end
section
open Go.RowKit
end
section
open Go.RowKit
end
section
section
open Go.RowKit
end
section
open Go.RowKit
def gD (e:Int) (w:World) (en:Ending) (w':World):Prop:=en=.returned (.int .i64 e)/\Below w.heap.size w w'
theorem LT:(Tryz.prog.info? 3).map (fun i=>(i.zero,i.size,i.bytes))=some (some (.int .i64 0),1,8):=by kernel_rfl
theorem zX (n:Nat):madeCells #[Value.int .i64 0] n=(List.replicate n (Value.int .i64 0)).toArray:=by
 apply Array.ext
 · simp [madeCells]
 intro i h1 h2;simp [madeCells,Nat.mod_one]
end
end
end Go.Proofs.YtplecfbdchmogaaGreat
