/- A tree in the place of a variable, in plain Lean. -/
import Derived.Test.YtjoddliplahgkaaGreatTKidss
namespace Go.Proofs.YtjoddliplahgkaaGreat
set_option linter.unusedVariables false
set_option linter.unusedSimpArgs false
open Go.RowKit
structure Tr where
 n:Nd
 a:List Nd
 k:Fo
def lD(t:Tr)(n:Nd)(v d:Int):Nd:=if n.op=1 then (if n.a=v then lE d t.n 0 else if v<n.a then ⟨1,n.a-1,0⟩ else n) else n
def s8(t:Tr)(n:Nd)(a:List Nd)(v _d:Int):List Nd:=if n.op=1 then (if n.a=v then s9 t.n t.a 0 else if v<n.a then [] else a) else a
def rL(t:Tr)(D F:Int):Nat->Int->Int->Fo->Fo
 | _,_,_,.nil=>.nil
 | j,v,d,.cons p n a k x=>.cons p (lD t n (v+aR D F j) (d+aR D F j)) (s8 t n a (v+aR D F j) (d+aR D F j))
  (if n.op=1 then (if n.a=v+aR D F j then tA (d+aR D F j) t.n t.k 0 else if v+aR D F j<n.a then .nil else k) else rL t n.op n.b 0 (v+aR D F j) (d+aR D F j) k) (rL t D F (j+1) v d x)
def uL(t:Tr)(n:Nd)(k:Fo)(v d:Int):Fo:=if n.op=1 then (if n.a=v then tA d t.n t.k 0 else if v<n.a then .nil else k) else rL t n.op n.b 0 v d k
theorem kF(t:Tr)(D F:Int)(j:Nat)(v d:Int)(p:List Nd)(n:Nd)(a:List Nd)(k x:Fo):rL t D F j v d (.cons p n a k x)=.cons p (lD t n (v+aR D F j) (d+aR D F j)) (s8 t n a (v+aR D F j) (d+aR D F j)) (uL t n k (v+aR D F j) (d+aR D F j)) (rL t D F (j+1) v d x):=rfl
theorem zU(t:Tr)(D G:Int):∀(j:Nat)(v d:Int)(F:Fo),bE (rL t D G j v d F)=bE F
 | _,_,_,.nil=>rfl
 | j,v,d,.cons p n a k x=>by rw[kF];simp only[bE,zU t D G (j+1) v d x]
theorem wS(t:Tr)(D G:Int):∀(j:Nat)(v d:Int)(F:Fo),cG (rL t D G j v d F)=cG F
 | _,_,_,.nil=>rfl
 | j,v,d,.cons p n a k x=>by rw[kF];simp only[cG,wS t D G (j+1) v d x]
theorem FC(t:Tr)(D I:Int):∀(j:Nat)(v d:Int)(F G:Fo),rL t D I j v d (F.app G)=(rL t D I j v d F).app (rL t D I (j+bE F) v d G)
 | _,_,_,.nil,G=>by simp[Fo.app,rL,bE]
 | j,v,d,.cons p n a k x,G=>by
  have:=FC t D I (j+1) v d x G;rw[show (Fo.cons p n a k x).app G=.cons p n a k (x.app G) from rfl,kF,kF,this];simp only[Fo.app,bE];rw[show j+1+bE x=j+(bE x+1) from by omega]
end Go.Proofs.YtjoddliplahgkaaGreat
