/- A tree in the place of a variable, in plain Lean. -/
import Derived.Test.YtjoddliplahgkaaGreatPKidss
namespace Go.Proofs.YtjoddliplahgkaaGreat
set_option linter.unusedVariables false
set_option linter.unusedSimpArgs false
open Go.RowKit
structure Tr where
 n:Nd
 a:List Nd
 k:Fo
def kJ (t:Tr) (n:Nd) (v d:Int):Nd:=if n.op=1 then (if n.a=v then kK d t.n 0 else if v<n.a then ⟨1,n.a-1,0⟩ else n) else n
def rF (t:Tr) (n:Nd) (a:List Nd) (v _d:Int):List Nd:=if n.op=1 then (if n.a=v then rG t.n t.a 0 else if v<n.a then [] else a) else a
def qA (t:Tr) (pop pb:Int):Nat->Int->Int->Fo->Fo
 | _,_,_,.nil=>.nil
 | j,v,d,.cons p n a k x=>.cons p (kJ t n (v+aR pop pb j) (d+aR pop pb j)) (rF t n a (v+aR pop pb j) (d+aR pop pb j))
  (if n.op=1 then (if n.a=v+aR pop pb j then rH (d+aR pop pb j) t.n t.k 0 else if v+aR pop pb j<n.a then .nil else k) else qA t n.op n.b 0 (v+aR pop pb j) (d+aR pop pb j) k) (qA t pop pb (j+1) v d x)
def sI (t:Tr) (n:Nd) (k:Fo) (v d:Int):Fo:=if n.op=1 then (if n.a=v then rH d t.n t.k 0 else if v<n.a then .nil else k) else qA t n.op n.b 0 v d k
theorem jS (t:Tr) (pop pb:Int) (j:Nat) (v d:Int) (p:List Nd) (n:Nd) (a:List Nd) (k x:Fo):qA t pop pb j v d (.cons p n a k x)=.cons p (kJ t n (v+aR pop pb j) (d+aR pop pb j)) (rF t n a (v+aR pop pb j) (d+aR pop pb j)) (sI t n k (v+aR pop pb j) (d+aR pop pb j)) (qA t pop pb (j+1) v d x):=rfl
theorem wP (t:Tr) (pop pb:Int) : ∀(j:Nat) (v d:Int) (F:Fo),bF (qA t pop pb j v d F)=bF F
 | _,_,_,.nil=>rfl
 | j,v,d,.cons p n a k x=>by rw[jS];simp only[bF,wP t pop pb (j+1) v d x]
theorem uB (t:Tr) (pop pb:Int) : ∀(j:Nat) (v d:Int) (F:Fo),cO (qA t pop pb j v d F)=cO F
 | _,_,_,.nil=>rfl
 | j,v,d,.cons p n a k x=>by rw[jS];simp only[cO,uB t pop pb (j+1) v d x]
theorem CR (t:Tr) (pop pb:Int) : ∀(j:Nat) (v d:Int) (F G:Fo),qA t pop pb j v d (F.app G)=(qA t pop pb j v d F).app (qA t pop pb (j+bF F) v d G)
 | _,_,_,.nil,G=>by simp[Fo.app,qA,bF]
 | j,v,d,.cons p n a k x,G=>by
  have:=CR t pop pb (j+1) v d x G;rw[show (Fo.cons p n a k x).app G=.cons p n a k (x.app G) from rfl,jS,jS,this];simp only[Fo.app,bF];rw[show j+1+bF x=j+(bF x+1) from by omega]
end Go.Proofs.YtjoddliplahgkaaGreat
