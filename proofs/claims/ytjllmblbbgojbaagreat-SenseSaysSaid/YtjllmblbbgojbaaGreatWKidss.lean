/- Merged: LiftP, TermP, TermP2, TermP3, TermP4, Parts0, KidsD, Parts1, Clone, Count, Parts, Kids. -/
import Derived.Test.YtjllmblbbgojbaaGreatWBase
import Derived.Test.YtjllmblbbgojbaaGreatWErr18
import Derived.Test.YtjllmblbbgojbaaGreatWGuarded
import Derived.Test.YtjllmblbbgojbaaGreatWRowsD
import Derived.Test.YtjllmblbbgojbaaGreatWEnds
import Derived.Test.YtjllmblbbgojbaaGreatWLeafs
import Derived.Lib.SliceRun
import Derived.Test.YtjllmblbbgojbaaGreatProg
import Derived.WalkKit
import Derived.WalkLawsBesides
import Derived.WalkSpells
import Derived.Lib.Hide
import Derived.Deep.QuietTactic
import Derived.BigQuiet
namespace Go.Proofs.YtjllmblbbgojbaaGreat
open Go.Value renaming int → O, slice → X
open Go.IntKind renaming i64 → S
open Option renaming none → Y, some → Z
open Go.Obj renaming cells → I
open Go.Lib (hid)
set_option maxHeartbeats 4000000
set_option maxRecDepth 100000
set_option linter.unusedSimpArgs false
section
open Go.RowKit
def jB (up:Int) (n:Nd) (f:Int):Nd:=if n.op=1/\f<=n.a then ⟨1,n.a+up,0⟩ else n
def pE (n:Nd) (a:List Nd) (f:Int):List Nd:=if n.op=1/\f<=n.a then [] else a
def DX (pop pb up:Int):Nat->Int->Fo->Fo
 | _,_,.nil=>.nil
 | j,f,.cons p n a k x=>.cons p (jB up n (f+aC pop pb j)) (pE n a (f+aC pop pb j)) (if n.op=1/\f+aC pop pb j<=n.a then .nil else DX n.op n.b up 0 (f+aC pop pb j) k) (DX pop pb up (j+1) f x)
def pF (up:Int) (n:Nd) (k:Fo) (f:Int):Fo:=if n.op=1/\f<=n.a then .nil else DX n.op n.b up 0 f k
theorem jU (pop pb up:Int) (j:Nat) (f:Int) (p:List Nd) (n:Nd) (a:List Nd) (k x:Fo):DX pop pb up j f (.cons p n a k x)=.cons p (jB up n (f+aC pop pb j)) (pE n a (f+aC pop pb j)) (pF up n k (f+aC pop pb j)) (DX pop pb up (j+1) f x):=rfl
theorem yF (pop pb up:Int) : ∀ (j:Nat) (f:Int) (F:Fo),aT (DX pop pb up j f F)=aT F
 | _,_,.nil=>rfl
 | j,f,.cons p n a k x=>by rw [jU];simp only [aT,yF pop pb up (j+1) f x]
theorem uK (pop pb up:Int) : ∀ (j:Nat) (f:Int) (F:Fo),bO (DX pop pb up j f F)=bO F
 | _,_,.nil=>rfl
 | j,f,.cons p n a k x=>by rw [jU];simp only [bO,uK pop pb up (j+1) f x]
theorem DY (pop pb up:Int) : ∀ (j:Nat) (f:Int) (F G:Fo),DX pop pb up j f (F.app G)=(DX pop pb up j f F).app (DX pop pb up (j+aT F) f G)
 | _,_,.nil,G=>by simp [Fo.app,DX,aT]
 | j,f,.cons p n a k x,G=>by
  have:=DY pop pb up (j+1) f x G;rw [show (Fo.cons p n a k x).app G=.cons p n a k (x.app G) from rfl,jU,jU,this];simp only [Fo.app,aT];rw [show j+1+aT x=j+(aT x+1) from by omega]
def aK (R:Nat->Prop) (w w':World) (b:Nat):Prop:=R b\/jM w w' b
def eK (R:Nat->Prop) (w:World) (n:Nd) (ats:List Nd) (ks:Fo) (e:Ending) (w':World):Prop:=Below w.heap.size w w'/\∃ ys,e=.returned (.agg ys.toArray)/\bP (aK R w w') w' ys n ats ks
def lE (R:Nat->Prop) (B:Nat) (w:World) (u:Value) (b:Nat):Prop:=(R b\/(B<=b/\b<w.heap.size))/\u.ownBlock ≠ Z b
theorem tY {R:Nat->Prop} {B0 B:Nat} {wr V w2 W w' wf:World} {e1:TypeId} {s1 n1:Nat} {u:Value} {x1:List Value} {F:Fo} {xs ys:List Value} {nd:Nd} {ats:List Nd} {ks:Fo} {pre:List Nd} {A':Option Addr} {m c':Nat} {zs:List Value}
 (hfc:iG (lE R B wr u) wr F xs) (ht:bP (aK R V w2) w2 ys nd ats ks) (hV:wr.heap.size<=V.heap.size) (hb:Below wr.heap.size wr w2) (hB:B<=wr.heap.size) (hR:∀ b,R b->b<B0) (hB0:B0<=B)
 (h1:wr.ownsRow B e1 s1 u n1 x1) (hW:Below w2.heap.size w2 W) (hap:eI W w' B e1 s1 u A' m c' zs)
 (hwf:∀ b,b<B0\/B<=b->∀ o,wf.cell? ⟨b,o,Y⟩=w'.cell? ⟨b,o,Y⟩) (hws:wf.heap.size=w'.heap.size) :
 iG (lE R B wf (X A' m c')) wf (F.app (.cons pre nd ats ks .nil)) (xs++ys):=by
 have hWs:=hW.size;have hbs:=hb.size;have hgs:=hap.grown.size;have hcell:∀ b,b<w2.heap.size->(b<B0\/B<=b)->u.ownBlock ≠ Z b->∀ o,wf.cell? ⟨b,o,Y⟩=w2.cell? ⟨b,o,Y⟩:=fun b hb1 hb2 hb3 o=>by
  rw [hwf b hb2 o,World.cell?_of_block (w:=W) (hap.grown.block b aA (fun e=>hb3 e.symm)),hW.cell (p:=⟨b,o,Y⟩) hb1]
 have hnew:∀ b,b<w2.heap.size->u.ownBlock ≠ Z b->(Value.slice A' m c').ownBlock ≠ Z b:=fun b hb1 hb2 e=>by
  rcases hap.new b e with e | e
  · exact hb2 e
  omega
 refine iG.app F _ xs ys (iG.keep ?_ F xs hfc) ?_
 · rintro b ⟨hb1,hb3⟩;have hlt:b<wr.heap.size:=by
    rcases hb1 with h | h
    · have:=hR b h;omega
    exact h.2
   have hor:b<B0\/B<=b:=by
    rcases hb1 with h | h
    · exact .inl (hR b h)
    exact .inr h.1
   refine ⟨⟨hb1.imp id (fun h=>⟨h.1,by omega⟩),hnew b aA hb3⟩,fun o => ?_⟩;rw [hcell b aA hor hb3,hb.cell (p:=⟨b,o,Y⟩) hlt]
 refine ⟨ys,[],by simp,ht.keep ?_,rfl⟩;intro b hm;have hu:u.ownBlock ≠ Z b:=fun e=>by
  have h2:=aE h1 e;rcases hm with h | ⟨h,_⟩
  · have:=hR b h;omega
  omega
 have hlt:b<w2.heap.size:=by
  rcases hm with h | ⟨_,h⟩
  · have:=hR b h;omega
  exact h
 have hor:b<B0\/B<=b:=by
  rcases hm with h | ⟨h,_⟩
  · exact .inl (hR b h)
  exact .inr aA
 refine ⟨⟨?_,hnew b hlt hu⟩,hcell b hlt hor hu⟩;rcases hm with h | ⟨h,h'⟩
 · exact .inl h
 exact .inr ⟨by omega,by omega⟩
end
section
open Go.RowKit
theorem CZ (x:Int) (pop pb:Int) : ∀ (j:Nat) (a:Int) (F:Fo),s8 x pop pb j a (jA 1 x pop pb j a F)=0
 | _,_,.nil=>rfl
 | j,a,.cons p n ats k y=>by
  have hs:=fL 1 x n (a+aC pop pb j);simp only [jA,s8,hs.1,hs.2];rw [CZ x n.op n.b 0 _ k,CZ x pop pb (j+1) a y];have:¬ (n.op=1/\(iK 1 x n (a+aC pop pb j)).a-(a+aC pop pb j)=x):=by
   unfold iK;split
   · simp only;omega
   omega
  rw [if_neg this];rfl
theorem JY (u:Put) (x:Int) (n:Nd) (a:Int):(i8 u x).em () (iK 1 x n a) a=[n]/\(i8 u x).dm () (iK 1 x n a) a:=by
 unfold iK;split
 · rename_i h
   constructor
   · simp only [i8];rw [if_neg aA,if_pos aA];have:n.a+1-1=n.a:=aA;rw [this]
   simp only [i8];intro h2;omega
 rename_i h
 constructor
 · simp only [i8];rw [if_neg aA,if_neg aA]
 simp only [i8];intro h2;omega
theorem wX (u:Put) (x:Int) (pop pb:Int) : ∀ (j:Nat) (a:Int) (F:Fo),(i8 u x).E pop pb j a () (jA 1 x pop pb j a F)=row F/\(i8 u x).D pop pb j a () (jA 1 x pop pb j a F)
 | _,_,.nil=>⟨rfl,trivial⟩
 | j,a,.cons p n ats k y=>by
  have e:∀ s:Unit,s=():=fun _=>rfl;have hs:=fL 1 x n (a+aC pop pb j);have h1:=wX u x n.op n.b 0 (a+aC pop pb j) k;have h2:=wX u x pop pb (j+1) a y;have h3:=JY u x n (a+aC pop pb j);constructor
  · simp only [jA];rw [bV.E_cons,bV.E1,h3.1,hs.1,hs.2,e ((i8 u x).nx () _ _),e ((i8 u x).S1 _ () _ _),h1.1,h2.1];simp [row]
  · simp only [jA];rw [bV.D_cons,bV.D1,hs.1,hs.2,e ((i8 u x).nx () _ _),e ((i8 u x).S1 _ () _ _)];exact ⟨⟨h3.2,h1.2⟩,h2.2⟩
theorem undone {t u:List Nd} {x:Int} (ht:aN t=0) (hu:aN u=0) (h0:0<=x) (h1:x<=1048577) (h:(eQ t 1 x).2=0):mZ (eQ t 1 x).1 u (min x 1048577)/\aN (eQ t 1 x).1=0/\fY (eQ t 1 x).1 u x=(t,0):=by
 obtain ⟨hl,n,ats,k,hpp,hrow,hfs⟩:=dQ ht;obtain ⟨hul,un,ua,uk,hpu,hurow,hufs⟩:=dQ hu;have hm:min x 1048577=x:=aA;have hlr:eQ t 1 x=if (fJ 1 x).G1 0 () n k=true then ((fJ 1 x).E1 0 () n ats k,0) else ([],6):=by
  unfold eQ;rw [if_pos ht,if_neg aA];unfold rJ;rw [hpp,hm]
 by_cases hg:(fJ 1 x).G1 0 () n k=true;rotate_left
 · rw [if_neg hg] at hlr;rw [hlr] at h;cases h
 rw [if_pos hg] at hlr;rw [hlr];obtain ⟨hp2,hs2,hl2⟩:=mU (up:=1) (fr:=x) hpp hl aA hg;have hs:=fL 1 x n 0;have hem:=JY ⟨un,ua,uk⟩ x n 0;have hro:=wX ⟨un,ua,uk⟩ x n.op n.b 0 0 k;have e:∀ s:Unit,s=():=fun _=>rfl;have hcn:mN x (iK 1 x n 0) (jA 1 x n.op n.b 0 0 k)=0:=by
  unfold mN;rw [hs.1,hs.2,CZ];have:¬ (n.op=1/\(iK 1 x n 0).a=x):=by
   unfold iK;split
   · simp only;omega
   omega
  rw [if_neg this];rfl
 refine ⟨?_,hs2,?_⟩
 · unfold mZ;rw [hp2,hpu,hm];simp only;rw [bV.D1,hs.1,hs.2];exact ⟨hem.2,hro.2⟩
 unfold fY;rw [if_pos hs2,if_pos hu,if_neg aA,hm];unfold m4;rw [hp2,hpu];simp only;rw [hcn,if_neg aA,if_neg (by rw [hl2];omega),bV.E1,hem.1,hs.1,hs.2,e ((i8 ⟨un,ua,uk⟩ x).nx () _ _),hro.1,hrow];rfl
end
section
open Go.RowKit
theorem zE {a b fr:Int} (ha:0<=a) (n:Nd) (y:Int):iK b (fr+a) (iK a fr n y) y=iK (a+b) fr n y:=by
 unfold iK;by_cases h:n.op=1/\fr+y<=n.a
 · rw [if_pos h,if_pos h];simp only;rw [if_pos ⟨h.1,by omega⟩]
   congr 1
   omega
 rw [if_neg h,if_neg h,if_neg (fun q=>h ⟨q.1,by omega⟩)]
theorem pT {a b fr:Int} (ha:0<=a) (hb:0<=b) {n:Nd} {y:Int} (h:(fJ (a+b) fr).ok () n y=true):(fJ a fr).ok () n y=true/\(fJ b (fr+a)).ok () (iK a fr n y) y=true:=by
 simp only [fJ] at h ⊢;unfold iK;by_cases h1:n.op=1/\fr+y<=n.a
 · rw [if_pos h1] at h;rw [if_pos h1,if_pos h1];simp only [decide_eq_true_eq] at h ⊢;rw [if_pos ⟨h1.1,by omega⟩];exact ⟨by omega,by simp only [decide_eq_true_eq];omega⟩
 rw [if_neg h1,if_neg h1,if_neg (fun q=>h1 ⟨q.1,by omega⟩)];exact ⟨rfl,rfl⟩
theorem pD {a b fr:Int} (ha:0<=a) (pop pb:Int) : ∀ (j:Nat) (y:Int) (F:Fo),jA b (fr+a) pop pb j y (jA a fr pop pb j y F)=jA (a+b) fr pop pb j y F
 | _,_,.nil=>rfl
 | j,y,.cons p n ats k x=>by
  have hs:=fL a fr n (y+aC pop pb j);simp only [jA];rw [hs.1,hs.2,zE ha,pD ha n.op n.b 0 _ k,pD ha pop pb (j+1) y x]
theorem kB {a b fr:Int} (ha:0<=a) (hb:0<=b) (pop pb:Int) : ∀ (j:Nat) (y:Int) (F:Fo),(fJ (a+b) fr).G pop pb j y () F=true->(fJ a fr).G pop pb j y () F=true/\(fJ b (fr+a)).G pop pb j y () (jA a fr pop pb j y F)=true
 | _,_,.nil,_=>⟨rfl,rfl⟩
 | j,y,.cons p n ats k x,h=>by
  have hs:=fL a fr n (y+aC pop pb j);rw [bV.G_cons,bV.G1,Bool.and_eq_true,Bool.and_eq_true] at h;obtain ⟨⟨h1,h2⟩,h3⟩:=h;have q1:=pT ha hb h1;have q2:=kB ha hb n.op n.b 0 _ k h2;have q3:=kB ha hb pop pb (j+1) y x h3;simp only [jA];rw [bV.G_cons,bV.G1,bV.G_cons,bV.G1,hs.1,hs.2];simp only [Bool.and_eq_true];exact ⟨⟨⟨q1.1,q2.1⟩,q3.1⟩,⟨⟨q1.2,q2.2⟩,q3.2⟩⟩
theorem DW {a fr:Int} (ha:0<a) (n:Nd) (y:Int):(decide ((iK a fr n y).op=1)&&decide ((iK a fr n y).a-y=fr))=false:=by
 unfold iK;split
 · rename_i h
   simp only [Bool.and_eq_false_iff,decide_eq_false_iff_not];right;omega
 rename_i h
 simp only [Bool.and_eq_false_iff,decide_eq_false_iff_not];by_cases h1:n.op=1
 · right;intro h2;exact h ⟨h1,by omega⟩
 exact .inl h1
theorem rS {a fr:Int} (ha:0<a) (pop pb:Int) : ∀ (j:Nat) (y:Int) (F:Fo),lZ (fun v z=>decide (v-z=fr)) pop pb j y (jA a fr pop pb j y F)=false
 | _,_,.nil=>rfl
 | j,y,.cons p n ats k x=>by
  have hs:=fL a fr n (y+aC pop pb j);have h1:=DW (fr:=fr) ha n (y+aC pop pb j);have h2:=rS (fr:=fr) ha n.op n.b 0 (y+aC pop pb j) k;have h3:=rS (fr:=fr) ha pop pb (j+1) y x;simp only [jA,lZ];rw [h1,hs.1,hs.2,h2,h3];rfl
theorem I7 {up fr:Int} {n:Nd} {y:Int} (h:(decide (n.op=1)&&decide (fr<=n.a-y))=false):iK up fr n y=n:=by
 unfold iK;simp only [Bool.and_eq_false_iff,decide_eq_false_iff_not] at h;rw [if_neg];intro q;rcases h with h | h
 · exact h q.1
 exact h aA
theorem wF {up fr:Int} (pop pb:Int) : ∀ (j:Nat) (y:Int) (F:Fo),lZ (fun v z=>decide (fr<=v-z)) pop pb j y F=false->jA up fr pop pb j y F=F
 | _,_,.nil,_=>rfl
 | j,y,.cons p n ats k x,h=>by
  simp only [lZ,Bool.or_eq_false_iff] at h;obtain ⟨⟨h1,h2⟩,h3⟩:=h;simp only [jA];rw [I7 h1,wF n.op n.b 0 _ k h2,wF pop pb (j+1) y x h3]
theorem mT {t:List Nd} {n:Nd} {ats:List Nd} {k:Fo} {up fr:Int} (ht:aN t=0) (hpp:pp [false] t=Z (.cons [] n ats k .nil,[])) (h0:0<=up) (h1:0<=fr) (h2:fr<=1048577) :
 eQ t up fr=if (fJ up fr).G1 0 () n k=true then ((fJ up fr).E1 0 () n ats k,0) else ([],6):=by
 have hm:min fr 1048577=fr:=aA;unfold eQ;rw [if_pos ht,if_neg aA];unfold rJ;rw [hpp,hm]
theorem NQ {t:List Nd} {a b fr:Int} (ht:aN t=0) (ha:0<=a) (hb:0<=b) (hf:0<=fr) (hfa:fr+a<=1048577) (h:(eQ t (a+b) fr).2=0) :
 (eQ t a fr).2=0/\aN (eQ t a fr).1=0/\(eQ (eQ t a fr).1 b (fr+a)).2=0/\(eQ (eQ t a fr).1 b (fr+a)).1=(eQ t (a+b) fr).1/\aN (eQ t (a+b) fr).1=0 ∧
  (0<a->L0 (eQ t a fr).1 fr=false)/\(eT t fr=true->t=(eQ t (a+b) fr).1):=by
 obtain ⟨hl,n,ats,k,hpp,hrow,hfs⟩:=dQ ht;have e1:=mT (up:=a+b) (fr:=fr) ht hpp aA hf aA;have e2:=mT (up:=a) (fr:=fr) ht hpp ha hf aA;by_cases hg:(fJ (a+b) fr).G1 0 () n k=true;rotate_left
 · rw [if_neg hg] at e1;rw [e1] at h;cases h
 rw [if_pos hg] at e1;have hs:=fL a fr n 0;have hg0:=hg;rw [bV.G1,Bool.and_eq_true] at hg0;obtain ⟨g1,g2⟩:=hg0;have q1:=pT ha hb g1;have q2:=kB ha hb n.op n.b 0 0 k g2;have hga:(fJ a fr).G1 0 () n k=true:=by
  rw [bV.G1,Bool.and_eq_true];exact ⟨q1.1,q2.1⟩
 rw [if_pos hga] at e2;obtain ⟨hp2,hs2,hl2⟩:=mU (up:=a) (fr:=fr) hpp hl ha hga;have hgb:(fJ b (fr+a)).G1 0 () (iK a fr n 0) (jA a fr n.op n.b 0 0 k)=true:=by
  rw [bV.G1,Bool.and_eq_true,hs.1,hs.2];exact ⟨q1.2,q2.2⟩
 have e3:=mT (up:=b) (fr:=fr+a) hs2 hp2 hb aA hfa;rw [if_pos hgb] at e3;obtain ⟨_,hs1,_⟩:=mU (up:=a+b) (fr:=fr) hpp hl aA hg;have e4:(fJ b (fr+a)).E1 0 () (iK a fr n 0) ats (jA a fr n.op n.b 0 0 k)=(fJ (a+b) fr).E1 0 () n ats k:=by
  rw [jT,jT,hs.1,hs.2,zE ha,pD ha]
 rw [e2];simp only;rw [e3,e1];refine ⟨by trivial,hs2,by trivial,e4,hs1,fun hpos => ?_,fun hbel => ?_⟩
 · have r1:=DW (fr:=fr) hpos n 0;have r2:=rS (fr:=fr) hpos n.op n.b 0 0 k;unfold L0 KT;rw [hp2];simp only [mB];rw [r1,hs.1,hs.2,r2];simp
 unfold eT KT at hbel;rw [hpp] at hbel;have hmx:max fr 0=fr:=aA;rw [hmx] at hbel;simp only [mB,Bool.and_eq_true,Bool.not_eq_true',Bool.or_eq_false_iff] at hbel;obtain ⟨_,r1,r2⟩:=hbel;simp only;rw [jT,I7 r1,wF n.op n.b 0 0 k r2,hrow]
end
section
open Go.RowKit
def Vk:Fo->Prop
 | .nil=>True
 | .cons _ n ats k x=>dG n=true/\(n.op=1->ats=[]/\k=.nil)/\Vk k/\Vk x
theorem MJ {n:Nd} (h:n.op=1):ds n=[]:=by simp [ds,dA,h]
theorem xD {n:Nd} {ats:List Nd} {k:Fo} (h1:gW n ats) (h2:Wf (ds n) k) (h:n.op=1):ats=[]/\k=.nil:=by
 rw [MJ h] at h2;constructor
 · unfold gW at h1;rw [if_neg aA] at h1;exact h1
 cases k with
 | nil=>rfl
 | cons _ _ _ _ _=>exact h2.elim
theorem oB:∀ (F:Fo) (dl:List Bool),Wf dl F->Vk F
 | .nil,_,_=>trivial
 | .cons _ _ _ _ _,[],h=>h.elim
 | .cons p n ats k x,d::dr,h=>by
  obtain ⟨_,hok,hat,hk,hx⟩:=h;exact ⟨hok,xD hat hk,oB k _ hk,oB x _ hx⟩
theorem J0 {n:Nd} (hok:dG n=true) (h:n.op=1):0<=n.a/\n.a<=1048576/\n.b=0:=by
 simp only [dG,Bool.and_eq_true] at hok;have:=hok.1.1;rw [h] at this;simpa [bD] using this
theorem wB:∀ (F:Fo),(∀ m i,i % 2=0->Wf ((List.replicate m [true,false]).flatten) F->fI true i F)/\(∀ m i,i % 2=1->Wf (false::(List.replicate m [true,false]).flatten) F->fI true i F)/\(∀ m i,Wf (List.replicate m false) F->fI false i F)
 | .nil=>⟨fun _ _ _ _=>trivial,fun _ _ _ _=>trivial,fun _ _ _=>trivial⟩
 | .cons p n ats k x=>by
  have hk:=wB k;have hx:=wB x;have kid:Wf (ds n) k->fI (decide (n.op=12)) 0 k:=fun h=>by
   unfold ds at h;by_cases h12:n.op=12
   · rw [if_pos h12] at h;rw [decide_eq_true h12];exact hk.1 _ 0 rfl h
   rw [if_neg h12] at h;rw [decide_eq_false h12];exact hk.2.2 _ 0 h
  refine ⟨fun m i hi h => ?_,fun m i hi h => ?_,fun m i h => ?_⟩
  · cases m with
    | zero=>exact h.elim
    | succ m =>
     simp only [List.replicate_succ,List.flatten_cons,List.cons_append,List.nil_append] at h;obtain ⟨⟨f,hp,_⟩,_,_,hkk,hxx⟩:=h;exact ⟨by rw [hp];simp [hi],kid hkk,hx.2.1 m (i+1) aA hxx⟩
  · obtain ⟨hp,_,_,hkk,hxx⟩:=h;simp only at hp;exact ⟨by rw [hp];simp [hi],kid hkk,hx.1 m (i+1) aA hxx⟩
  · cases m with
    | zero=>exact h.elim
    | succ m =>
     rw [List.replicate_succ] at h;obtain ⟨hp,_,_,hkk,hxx⟩:=h;simp only at hp;exact ⟨by rw [hp];simp,kid hkk,hx.2.2 m (i+1) hxx⟩
theorem uI {n:Nd} {k:Fo} (h:Wf (ds n) k):fI (decide (n.op=12)) 0 k:=by
 have hk:=wB k;unfold ds at h;by_cases h12:n.op=12
 · rw [if_pos h12] at h;rw [decide_eq_true h12];exact hk.1 _ 0 rfl h
 rw [if_neg h12] at h;rw [decide_eq_false h12];exact hk.2.2 _ 0 h
theorem BR (m x y:Int):decide (m<=max x y)=(decide (m<=x)||decide (m<=y)):=by
 rw [<-Bool.decide_or];exact decide_eq_decide.2 aA
theorem DF {m a:Int} (hm:0<=m) {n:Nd} {k:Fo} (h1:n.op=1->k=.nil) (ih:decide (m<=E3 n.op n.b 0 a k)=lZ (fun v z=>decide (m<=v-z)) n.op n.b 0 a k):decide (m<=oQ n k a)=mB (fun v z=>decide (m<=v-z)) a n k:=by
 unfold oQ mB;by_cases h:n.op=1
 · rw [if_pos h,h1 h,decide_eq_true h];simp only [lZ,Bool.or_false,Bool.true_and];exact decide_eq_decide.2 aA
 rw [if_neg h,decide_eq_false h,ih];simp
theorem BJ {m:Int} (hm:0<=m) (pop pb:Int) : ∀ (j:Nat) (a:Int) (F:Fo),Vk F->decide (m<=E3 pop pb j a F)=lZ (fun v z=>decide (m<=v-z)) pop pb j a F
 | _,_,.nil,_=>decide_eq_false (by simp only [E3];omega)
 | j,a,.cons p n ats k x,h=>by
  rw [rF,eF,BR,BJ hm pop pb (j+1) a x h.2.2.2,DF hm (fun q=>(h.2.1 q).2) (BJ hm n.op n.b 0 _ k h.2.2.1)]
theorem zF {up fr a:Int} {n:Nd} {ats:List Nd} {k:Fo} (hok:dG n=true) (h1:n.op=1->ats=[]/\k=.nil) (ih:DX n.op n.b up 0 (fr+a) k=jA up fr n.op n.b 0 a k):jB up n (fr+a)=iK up fr n a/\pE n ats (fr+a)=ats/\pF up n k (fr+a)=jA up fr n.op n.b 0 a k:=by
 unfold jB iK pE pF;by_cases h:n.op=1/\fr+a<=n.a
 · rw [if_pos h,if_pos h,if_pos h,if_pos h];have:=J0 hok h.1;refine ⟨by rw [h.1,this.2.2],(h1 h.1).1.symm,by rw [(h1 h.1).2];rfl⟩
 rw [if_neg h,if_neg h,if_neg h,if_neg h];exact ⟨rfl,rfl,ih⟩
theorem CC (up fr:Int) (pop pb:Int) : ∀ (j:Nat) (a:Int) (F:Fo),Vk F->DX pop pb up j (fr+a) F=jA up fr pop pb j a F
 | _,_,.nil,_=>rfl
 | j,a,.cons p n ats k x,h=>by
  have h1:=zF (up:=up) (fr:=fr) (a:=a+aC pop pb j) h.1 h.2.1 (CC up fr n.op n.b 0 _ k h.2.2.1);rw [jU,Int.add_assoc,h1.1,h1.2.1,h1.2.2,CC up fr pop pb (j+1) a x h.2.2.2];rfl
end
section
open Go.RowKit
section
variable {l : List Nd} {n : Nd} {ats : List Nd} {k : Fo}
theorem pI (hs:aN l=0) (hpp:pp [false] l=Z (.cons [] n ats k .nil,[])):dG n=true/\(n.op=1->ats=[]/\k=.nil)/\Vk k/\cL k/\fI (decide (n.op=12)) 0 k/\l=n::(ats++row k)/\l.length<=4096/\aL k<=4096:=by
 obtain ⟨hl,n',ats',k',hpp',hrow,hfs⟩:=dQ hs;rw [hpp] at hpp';injection hpp' with e;injection e with e1 _;injection e1 with _ e2 e3 e4 _;subst e2 e3 e4;have hw:=fT hpp;have hal:=nU hpp;obtain ⟨_,hok,hat,hk,_⟩:=hw;exact ⟨hok,xD hat hk,oB _ _ hk,hal.2.1,uI hk,hrow,hl,hfs⟩
theorem AO (hs:aN l=0) (hpp:pp [false] l=Z (.cons [] n ats k .nil,[])) (v:Int):eT l v=(decide (oQ n k 0<0)||decide (oQ n k 0<v)):=by
 obtain ⟨hok,hv,hk,_⟩:=pI hs hpp;have h:=DF (m:=max v 0) (a:=0) aA (fun q=>(hv q).2) (BJ aA n.op n.b 0 0 k hk);unfold eT KT;rw [hpp,decide_eq_true hs];simp only;rw [<-h,Bool.true_and,<-Bool.decide_or,<-decide_not];exact decide_eq_decide.2 aA
end
end
section
open Go.RowKit
theorem rI {l:List Nd} {p:Nat} {d:Bool} {dr:List Bool} {pre:List Nd} {nd:Nd} {a:List Nd} {ks x:Fo} (hw:Wf (d::dr) (.cons pre nd a ks x)) (hl:l.drop p=row (.cons pre nd a ks x)) (hp:p<=l.length) :
 ∃ q,ends [false] l (p+pre.length)=Z q/\l.drop q=row x/\p+pre.length<=q/\q<=l.length/\(l.take q).drop (p+pre.length)=row (.cons [] nd a ks .nil):=by
 obtain ⟨_,hok,hat,hk,hx⟩:=hw;have hd:l.drop (p+pre.length)=row (.cons [] nd a ks .nil)++row x:=by
  rw [<-List.drop_drop,hl];simp [row]
 have hw1:Wf [false] (.cons [] nd a ks .nil):=⟨rfl,hok,hat,hk,trivial⟩;have hpp:=iA _ _ (row x) hw1;have hlen:=congrArg List.length hl;rw [List.length_drop] at hlen;have hlen2:(row (.cons pre nd a ks x)).length=pre.length+((row (.cons [] nd a ks .nil)).length+(row x).length):=by
  simp [row];omega
 rw [hlen2] at hlen;refine ⟨p+pre.length+(row (.cons [] nd a ks .nil)).length,?_,?_,by omega,by omega,?_⟩
 · unfold ends;rw [hd,hpp];simp only [Option.map_some]
   congr 1
   omega
 · rw [<-List.drop_drop,hd];simp
 rw [List.drop_take,hd];have:p+pre.length+(row (.cons [] nd a ks .nil)).length-(p+pre.length)=(row (.cons [] nd a ks .nil)).length:=aA;rw [this];simp
end
section
open Go.RowKit
def pZ (l:List Nd):Nd×Fo:=if aN l=0 then (match pp [false] l with | some (.cons _ n _ k _,_)=>(n,k) | _=>(⟨0,0,0⟩,.nil)) else (⟨0,0,0⟩,.nil)
def J2 (pop pb:Int):Nat->Fo->List Int
 | _,.nil=>[]
 | j,.cons _ _ _ _ x=>aC pop pb j::J2 pop pb (j+1) x
theorem C6 (pop pb:Int) : ∀ (j:Nat) (F G:Fo),J2 pop pb j (F.app G)=J2 pop pb j F++J2 pop pb (j+aT F) G
 | _,.nil,G=>by simp [Fo.app,J2,aT]
 | j,.cons p n a k x,G=>by
  simp only [Fo.app,J2,aT,List.cons_append];rw [C6 pop pb (j+1) x G,show j+1+aT x=j+(aT x+1) from by omega]
def gM:Fo->List (List Nd)
 | .nil=>[]
 | .cons _ n a k x=>row (.cons [] n a k .nil)::gM x
theorem uQ:∀ (F G:Fo),gM (F.app G)=gM F++gM G
 | .nil,G=>rfl
 | .cons p n a k x,G=>by simp only [Fo.app,gM,List.cons_append,uQ x G]
theorem pJ:∀ (F:Fo),(gM F).length=aT F
 | .nil=>rfl
 | .cons p n a k x=>by simp only [gM,aT,List.length_cons,pJ x]
end
section
open Go.RowKit
structure GP (g:Nat) (A:Option Addr) (n c p j:Nat) (A1:Option Addr) (k1:Nat) (A2:Option Addr) (k2:Nat) (xs1 xs2:List Value) (w:World):Prop where
 bt:aD w g 28 #[X A n c]
 bo:aD w (g+2) 65 #[X A1 j k1]
 br:aD w (g+3) 106 #[X A2 j k2]
 ba:aD w (g+4) 3 #[O S (p:Int)]
 own1:w.ownsRow (g+5) 28 1 (X A1 j k1) j xs1
 own2:w.ownsRow (g+5) 3 1 (X A2 j k2) j xs2
 off:∀ b,(Value.slice A1 j k1).ownBlock=Z b->(Value.slice A2 j k2).ownBlock ≠ Z b
theorem rM {g:Nat} {A:Option Addr} {n c p q j:Nat} {A1:Option Addr} {k1:Nat} {A2:Option Addr} {k2:Nat} {xs1 xs2:List Value} {w:World} {l:List Nd} (h:GP g A n c p j A1 k1 A2 k2 xs1 xs2 w) (ht:bA (· < g) w A n c l) (hq:ends [false] l p=Z q) (hpq:p<=q) (hqn:q<=n) (hj:j<=10000) (b:Int) :
 Calls Tryz.prog 113 #[O S b,.pointer (Z ⟨g,0,Y⟩),.pointer (Z ⟨g+4,0,Y⟩),.pointer (Z ⟨g+2,0,Y⟩),.pointer (Z ⟨g+3,0,Y⟩)] w fun e w'=>e=.returned (.tuple #[])/\Below g w w'/\w.heap.size<=w'.heap.size/\w'.heap[g+1]? = w.heap[g+1]? ∧
  ∃ A1' k1' A2' k2' A',GP g A n c q (j+1) A1' k1' A2' k2' (xs1++[X A' (q-p) (c-p)]) (xs2++[O S b]) w'/\∀ (R:Nat->Prop) (w:World),bA R w A n c l->bA R w A' (q-p) (c-p) ((l.take q).drop p):=by
 obtain ⟨i0,hi,hy0,hy1,hy2⟩:=info_parts yL;have HI0:=hid hi;have HY0:=hid hy0;have HY1:=hid hy1;have HY2:=hid hy2;obtain ⟨i1,hi',hz0,hz1,hz2⟩:=info_parts II;have HJ0:=hid hi';have HZ0:=hid hz0;have HZ1:=hid hz1;have HZ2:=hid hz2;clear hi hy0 hy1 hy2 hi' hz0 hz1 hz2;obtain ⟨A',hcut,hcutr⟩:=lG A n c p q hpq hqn ht.cap;have HCUTR:=hid hcutr;have hfew:=ht.few;have hcap:=ht.cap;have hs4:=h.ba.lt;have hend:∀ w2:World,aP w2 A n c l->Calls Tryz.prog 40 #[X A n c,O S (p:Int)] w2 (dD (q:Int) w2):=fun w2 ht2=>by
  have:=gG ht2 (p:Int)
  rwa [kN,hq] at this
 have HEND:=hid (hend w (ht.keep fun b hb=>⟨by omega,fun _=>rfl⟩));have z0:=h.bt.cell;have z2:=h.bo.cell;have z3:=h.br.cell;have z4:=h.ba.cell;have H:=hid h;clear hcutr hend ht hq h;go_in;go_wp2_with fail
 refine (HEND.o).mono ?_;rintro e w2 ⟨rfl,hb2⟩;have h2:GP g A n c p j A1 k1 A2 k2 xs1 xs2 w2:=⟨H.o.bt.below hb2 H.o.bt.lt,H.o.bo.below hb2 H.o.bo.lt,H.o.br.below hb2 H.o.br.lt,H.o.ba.below hb2 H.o.ba.lt,aY H.o.own1 hb2,aY H.o.own2 hb2,H.o.off⟩;have e0:=h2.bt.cell;have e2:=h2.bo.cell;have e4:=h2.ba.cell;have l0:=h2.bt.lt;have l2:=h2.bo.lt;have l3:=h2.br.lt;have l4:=h2.ba.lt;have d0:=e0 0;have d2:=e2 0;have d4:=e4 0;have H2:=hid h2;have HB2:=hid hb2;clear z0 z2 z3 z4 h2 hb2 e0 e2 e4;go_wp2_with fail
 refine wp_region_noPanic ?_;refine cF 7 (fun w'=>w'.cell? ⟨g,0,Y⟩=Z (X A n c)/\w'.cell? ⟨g+2,0,Y⟩=Z (X A1 j k1)/\w'.cell? ⟨g+4,0,Y⟩=Z (O S (p:Int))) (by rfl) ⟨d0,d2,d4⟩ (fun hS0 => ?_);refine a7 (i:=0) (v := ?_) rfl (by kernel_rfl) (by kernel_rfl) (by kernel_rfl) (by kernel_rfl) (by kernel_rfl) (fun _ _ _ h=>h) (Or.inl ⟨by rfl,?_⟩) (by assumption) ?_;rotate_left
 · (intro w hSw;(try dsimp only at hSw);go_simp);all_goals with_reducible rfl
 try simp only [Act.put,List.getElem_toArray,List.getElem_cons_zero,List.getElem_cons_succ,List.setIfInBounds_toArray,List.set_cons_zero,List.set_cons_succ]
 refine a7 (i:=1) (v := ?_) rfl (by kernel_rfl) (by kernel_rfl) (by kernel_rfl) (by kernel_rfl) (by kernel_rfl) (fun _ _ _ h=>h) (Or.inl ⟨by rfl,?_⟩) (by assumption) ?_;rotate_left
 · (intro w hSw;(try dsimp only at hSw);go_simp);all_goals with_reducible rfl
 try simp only [Act.put,List.getElem_toArray,List.getElem_cons_zero,List.getElem_cons_succ,List.setIfInBounds_toArray,List.set_cons_zero,List.set_cons_succ]
 refine a7 (i:=2) (v := ?_) rfl (by kernel_rfl) (by kernel_rfl) (by kernel_rfl) (by kernel_rfl) (by kernel_rfl) (fun _ _ _ h=>h) (Or.inl ⟨by rfl,?_⟩) (by assumption) ?_;rotate_left
 · (intro w hSw;(try dsimp only at hSw);go_simp);all_goals with_reducible rfl
 try simp only [Act.put,List.getElem_toArray,List.getElem_cons_zero,List.getElem_cons_succ,List.setIfInBounds_toArray,List.set_cons_zero,List.set_cons_succ]
 refine a7 (i:=3) (v := ?_) rfl (by kernel_rfl) (by kernel_rfl) (by kernel_rfl) (by kernel_rfl) (by kernel_rfl) (fun _ _ _ h=>h) (Or.inl ⟨by rfl,?_⟩) (by assumption) ?_;rotate_left
 · (intro w hSw;(try dsimp only at hSw);go_simp);all_goals with_reducible rfl
 try simp only [Act.put,List.getElem_toArray,List.getElem_cons_zero,List.getElem_cons_succ,List.setIfInBounds_toArray,List.set_cons_zero,List.set_cons_succ]
 refine a7 (i:=4) (v := ?_) rfl (by kernel_rfl) (by kernel_rfl) (by kernel_rfl) (by kernel_rfl) (by kernel_rfl) (fun _ _ _ h=>h) (Or.inl ⟨by rfl,?_⟩) (by assumption) ?_;rotate_left
 · (intro w hSw;(try dsimp only at hSw);go_simp);all_goals with_reducible rfl
 try simp only [Act.put,List.getElem_toArray,List.getElem_cons_zero,List.getElem_cons_succ,List.setIfInBounds_toArray,List.set_cons_zero,List.set_cons_succ]
 refine aO (i:=5) (by kernel_rfl) rfl rfl (fun K5 hK5 => ?_);go_simp;have hS5:(w2.drew.alloc (I #[X A' (q-p) (c-p)] 28)).cell? ⟨g,0,Y⟩=Z (X A n c)/\(w2.drew.alloc (I #[X A' (q-p) (c-p)] 28)).cell? ⟨g+2,0,Y⟩=Z (X A1 j k1)/\(w2.drew.alloc (I #[X A' (q-p) (c-p)] 28)).cell? ⟨g+4,0,Y⟩=Z (O S (p:Int)):=by
  have hc:∀ b o,b<w2.heap.size->(w2.drew.alloc (I #[X A' (q-p) (c-p)] 28)).cell? ⟨b,o,Y⟩=w2.cell? ⟨b,o,Y⟩:=fun b o hb=>(World.cell?_alloc_lt _ _ _ hb);rw [hc _ _ l0,hc _ _ l2,hc _ _ l4];exact ⟨d0,d2,d4⟩
 refine hK5.o _ _ (fun _=>hS5) ?_;try simp only [Act.put,List.getElem_toArray,List.getElem_cons_zero,List.getElem_cons_succ,List.setIfInBounds_toArray,List.set_cons_zero,List.set_cons_succ]
 refine aO (i:=6) (by kernel_rfl) rfl rfl (fun K6 hK6 => ?_);refine eR (.tmp 10) (.tmp 15) 65 28 rfl (g+5) i0 _ 24 Tryz.underlying65 HI0.o HY0.o HY1.o HY2.o rfl (by decide) (X A1 j k1) j xs1 (X A' (q-p) (c-p)) rfl w2.drew (by rfl) (by rfl) (aY H2.o.own1 (aI (Below.refl _ _) 1)) _ (by rfl) (by simp) aA (by simp;omega) ?_;intro A4 c4 w4 happ;have hgk:∀ b,b<w2.heap.size->(Value.slice A1 j k1).ownBlock ≠ Z b->w4.heap[b]? = w2.heap[b]?:=fun b hb hne=>happ.grown.block b hb (fun e=>hne e.symm);have hno:∀ b,b<g+5->(Value.slice A1 j k1).ownBlock ≠ Z b:=fun b hb e=>by have:=(aE H2.o.own1 e).1;omega
 have zb:=H2.o.bo.same (hgk _ l2 (hno _ aA));have zf:=zb.frozen;have zc:=zb.cell;have hS6:w4.cell? ⟨g,0,Y⟩=Z (X A n c)/\w4.cell? ⟨g+2,0,Y⟩=Z (X A1 j k1)/\w4.cell? ⟨g+4,0,Y⟩=Z (O S (p:Int)):=by
  rw [aH (hgk g l0 (hno _ aA)),aH (hgk (g+2) l2 (hno _ aA)),aH (hgk (g+4) l4 (hno _ aA))];exact ⟨d0,d2,d4⟩
 refine hK6.o _ _ (fun _=>hS6) ?_;try simp only [Act.put,List.getElem_toArray,List.getElem_cons_zero,List.getElem_cons_succ,List.setIfInBounds_toArray,List.set_cons_zero,List.set_cons_succ]
 refine aO (i:=7) (by kernel_rfl) rfl rfl (fun K7 hK7 => ?_);go_simp;refine hK7.o _ _ (fun h=>absurd rfl h) ?_;refine cN (by kernel_rfl) (NoPanic.normal ?_) _;have hh:=H2.o;have gr:w2.grownBy w4 (Value.slice A1 j k1).ownBlock:=⟨happ.grown.os,happ.grown.tape,happ.grown.output,happ.grown.size,fun b hb hne=>happ.grown.block b hb hne⟩;have own2a:w4.ownsRow (g+5) 3 1 (X A2 j k2) j xs2:=hh.own2.kept gr (by
  cases e2:(Value.slice A2 j k2).ownBlock with
  | none=>exact .inl rfl
  | some b2=>exact .inr fun e=>hh.off b2 e.symm e2)
 have hs5:w2.heap.size<=w4.heap.size:=happ.grown.size;have k0:aD (w4.setCell ⟨g+2,0,Y⟩ (X A4 (j+1) c4)) g 28 #[X A n c]:=(hh.bt.same (hgk g l0 (hno _ aA))).far (by simp) _;have k2':aD (w4.setCell ⟨g+2,0,Y⟩ (X A4 (j+1) c4)) (g+2) 65 #[X A4 (j+1) c4]:=zb.set_ 0 _;have k3:aD (w4.setCell ⟨g+2,0,Y⟩ (X A4 (j+1) c4)) (g+3) 106 #[X A2 j k2]:=(hh.br.same (hgk (g+3) l3 (hno _ aA))).far (by simp) _;have k4:aD (w4.setCell ⟨g+2,0,Y⟩ (X A4 (j+1) c4)) (g+4) 3 #[O S (p:Int)]:=(hh.ba.same (hgk (g+4) l4 (hno _ aA))).far (by simp) _;have k3c:=k3.cell;have own2b:=ownsRow_setCell_below (a:=⟨g+2,0,Y⟩) own2a (by simp) (X A4 (j+1) c4);have hsz5:(w4.setCell ⟨g+2,0,Y⟩ (X A4 (j+1) c4)).heap.size=w4.heap.size:=by simp [World.setCell]
 have HSZ5:=hid hsz5;have HB5:Hid (g+5<=(w4.setCell ⟨g+2,0,Y⟩ (X A4 (j+1) c4)).heap.size):=hid (by rw [hsz5];omega);have OWN2B:=hid own2b;have K0:=hid k0;have K2:=hid k2';have K3:=hid k3;have K4:=hid k4;have HAPP:=hid happ;have HGK:=hid hgk;have HNO:=hid hno;have hne3:Z (g+3) ≠ (Value.slice A2 j k2).ownBlock:=eE hh.own2 aA;have hne4:Z (g+4) ≠ (Value.slice A2 j k2).ownBlock:=eE hh.own2 aA;clear k0 k2' k3 k4 own2a own2b happ hgk hno gr hh zb zf zc hS6 hsz5;go_wp2_with (at_builtin;go_loud (refine a8 rfl (eR (.tmp 17) (.tmp 19) 106 3 rfl (g+5) i1 _ 8 Tryz.underlying106 HJ0.o HZ0.o HZ1.o HZ2.o rfl (by decide) (X A2 j k2) j xs2 (O S b) rfl (w4.setCell ⟨g+2,0,Y⟩ (X A4 (j+1) c4)) rfl rfl OWN2B.o _ rfl HSZ5.o.symm aA HB5.o ?_));intro A6 c6 w6 happ6;have y3:=K3.o.grown happ6.grown hne3;have y3f:=y3.frozen;have y4:=(K4.o.grown happ6.grown hne4).far (p:=⟨g+3,0,Y⟩) (by simp) (X A6 (j+1) c6);have y4f:=y4.frozen;have y3c:=y3.cell;have y4c:=y4.cell)
 have hoff4:∀ b,(Value.slice A4 (j+1) c4).ownBlock=Z b->(Value.slice A2 j k2).ownBlock ≠ Z b:=fun b hb e2=>by
  rcases HAPP.o.new b hb with h1 | h1
  · exact H2.o.off b h1 e2
  have:=(aE H2.o.own2 e2).2.1;have h1':w2.heap.size<=b:=h1;omega
 have own1b:=ownsRow_setCell_below (a:=⟨g+2,0,Y⟩) HAPP.o.own (by simp) (X A4 (j+1) c4);have own1c:=own1b.kept happ6.grown (by
  cases e4:(Value.slice A4 (j+1) c4).ownBlock with
  | none=>exact .inl rfl
  | some b4=>exact .inr fun e=>hoff4 b4 e4 e.symm)
 have own1d:=ownsRow_setCell_below (a:=⟨g+4,0,Y⟩) (ownsRow_setCell_below (a:=⟨g+3,0,Y⟩) own1c (by simp) (X A6 (j+1) c6)) (by simp) (O S (q:Int));have own2d:=ownsRow_setCell_below (a:=⟨g+4,0,Y⟩) (ownsRow_setCell_below (a:=⟨g+3,0,Y⟩) happ6.own (by simp) (X A6 (j+1) c6)) (by simp) (O S (q:Int));have hlow:∀ b,b<g+5->Z b ≠ (Value.slice A2 j k2).ownBlock:=fun b hb=>eE H2.o.own2 hb;have q0:=((K0.o.grown happ6.grown (hlow g aA)).far (p:=⟨g+3,0,Y⟩) (by simp) (X A6 (j+1) c6)).far (p:=⟨g+4,0,Y⟩) (by simp) (O S (q:Int));have q2:=((K2.o.grown happ6.grown (hlow (g+2) aA)).far (p:=⟨g+3,0,Y⟩) (by simp) (X A6 (j+1) c6)).far (p:=⟨g+4,0,Y⟩) (by simp) (O S (q:Int));have q3:=(y3.set_ 0 (X A6 (j+1) c6)).far (p:=⟨g+4,0,Y⟩) (by simp) (O S (q:Int));have q4:=y4.set_ 0 (O S (q:Int));have hs6:=happ6.grown.size;have hs64:w4.heap.size<=w6.heap.size:=by have:=HSZ5.o;omega
 have hs2w:=HB2.o.size;refine bodyPost_end (results_none rfl _ _ _) rfl ⟨rfl,?_,?_,?_,A4,c4,A6,c6,A',⟨q0,q2,q3,q4,own1d,own2d,fun b hb e6 => ?_⟩,fun R w h=>HCUTR.o R w l h⟩
 · refine Below.setCell (Below.setCell (Below.grown (Below.setCell (Below.grown (w:=w2.drew) (aI (HB2.o.mono aA) 1) HAPP.o.grown (by show g<=w2.heap.size;omega) (fun b hb => ?_)) (p:=⟨g+2,0,Y⟩) (by simp) _) happ6.grown (by rw [HSZ5.o];omega) (fun b hb => ?_)) (p:=⟨g+3,0,Y⟩) (by simp) _) (p:=⟨g+4,0,Y⟩) (by simp) _
   · have:=(aE H2.o.own1 hb).1;omega
   have:=(aE H2.o.own2 hb).1;omega
 · have e:((w6.setCell ⟨g+3,0,Y⟩ (X A6 (j+1) c6)).setCell ⟨g+4,0,Y⟩ (O S (q:Int))).heap.size=w6.heap.size:=by simp [World.setCell]
   rw [e];omega
 · rw [Below.heap_setCell _ _ _ _ (by simp),Below.heap_setCell _ _ _ _ (by simp),happ6.grown.block (g+1) (by rw [HSZ5.o];omega) (hlow (g+1) aA),Below.heap_setCell _ _ _ _ (by simp),HGK.o (g+1) aA (HNO.o (g+1) aA),HB2.o.block (g+1) aA]
 rcases happ6.new b e6 with h1 | h1
 · exact hoff4 b hb h1
 have:=(aE HAPP.o.own hb).2.1;have:=HSZ5.o;omega
end
section
open Go.RowKit
theorem oV {w w':World} {A:Option Addr} {n c:Nat} {l:List Nd} (h:bE w' w.heap.size (X A n c) l) (hl:l.length<=5864062014805):bA (jM w w') w' A n c l:=by
 obtain ⟨A',n',c',e,ht⟩:=bE.termS h hl;injection e with e1 e2 e3;subst e1 e2 e3;exact ht.keep fun b hb=>⟨⟨(aE h hb).1,(aE h hb).2.1⟩,fun _=>rfl⟩
theorem tQ {A:Option Addr} {n c:Nat} {l:List Nd} {w:World} (h:aP w A n c l) :
 Calls Tryz.prog 23 #[X A n c] w (j0 l w):=by
 have q22:∀ (w:World) (a:Option Addr) (n c n' c':Nat),(binOp .eql 28 (X a n c) (X Y n' c')).run Tryz.prog w=.ok (.bool a.isNone) w:=fun w a n c n' c'=>Lib.run_eql_slice_nil w _ _ a n c n' c' Tryz.underlying28;cases A with
 | none =>
  obtain rfl:=h.nul rfl;obtain rfl:n=0:=by have:=h.cap;omega
  have hl:l=[]:=List.eq_nil_of_length_eq_zero h.len;subst hl;go_in;go_wp2_with fail
  go_ret;exact ⟨Below.refl _ _,Y,0,0,rfl,rfl,Nat.le_refl _,by decide,fun _=>rfl,fun h=>absurd h (by decide)⟩
 | some a =>
  obtain ⟨i0,hi,hy0,hy1,hy2⟩:=info_parts mQ;have HI0:=hid hi;have HY0:=hid hy0;have HY1:=hid hy1;have HY2:=hid hy2;clear hi hy0 hy1 hy2;have hfew:=h.few;have hb0:=aB w (I #[] 40);have hm:aP (w.alloc (I #[] 40)) (Z a) n c l:=h.below hb0;have hown:bE (w.alloc (I #[] 40)) w.heap.size (X (Z ⟨w.heap.size,0,Y⟩) 0 0) []:=World.ownsRow_made w #[] 0 (Nat.le_refl _) (Nat.zero_le _) rfl;have HM:=hid hm;have HOWN:=hid hown;have HB:=hid hb0;clear hm hown hb0 h;go_in;go_wp2_with (at_builtin;go_loud (refine a8 rfl (cK (.tmp 5) (.tmp 6) 28 28 rfl w.heap.size i0 Tryz.underlying28 Tryz.underlying28 HI0.o HY0.o HY1.o HY2.o (X (Z ⟨w.heap.size,0,Y⟩) 0 0) [] l rfl HOWN.o rfl HM.o (by simpa using hfew) (by simp) ?_));intro A4 c4 w4 hown4 happ4)
  go_ret;refine ⟨HB.o.grown happ4.grown HB.o.size (fun g hg=>(aE HOWN.o hg).1),A4,_,c4,rfl,?_⟩;simp only [List.length_nil,Nat.zero_add,List.nil_append] at hown4;exact oV hown4 (by have:=HM.o.len;omega)
end
section
open Go.RowKit
def dY (n:Nd) (w:World) (e:Ending) (w':World):Prop:=(∃ k:Int,e=.returned (.tuple #[O S k,.bool (dG n)])/\(dG n=true->k=cG n.op n.b))/\Below w.heap.size w w'
theorem aX {n:Nd} {w w':World} {k:Int} {b:Bool} (hb:b=dG n) (hk:dG n=true->k=cG n.op n.b) (hw:Below w.heap.size w w'):dY n w (.returned (.tuple #[O S k,.bool b])) w' :=
 ⟨⟨k,by rw [hb],hk⟩,hw⟩
theorem cU (n lo hi:Int) (w:World) (m:Nat) :
 Calls Tryz.prog 63 #[O S n,O S lo,O S hi] (w.drewN m) fun e w'=>e=.returned (.bool (decide (lo<=n)&&decide (n<=hi)))/\∃ k,w'=w.drewN k :=
 (dK n lo hi (w.drewN m)).mono fun _ _ ⟨h1,h2⟩=>⟨h1,m,h2.symm⟩
theorem bL (n lo hi:Int) (w:World) (m:Nat) (h:lo<=n/\n<=hi) :
 Calls Tryz.prog 63 #[O S n,O S lo,O S hi] (w.drewN m) fun e w'=>e=.returned (.bool true)/\∃ k,w'=w.drewN k :=
 (cU n lo hi w m).mono fun _ _ ⟨h1,h2⟩=>⟨by rw [h1];simp [h],h2⟩
theorem bK (n lo hi:Int) (w:World) (m:Nat) (h:¬ (lo<=n/\n<=hi)) :
 Calls Tryz.prog 63 #[O S n,O S lo,O S hi] (w.drewN m) fun e w'=>e=.returned (.bool false)/\∃ k,w'=w.drewN k :=
 (cU n lo hi w m).mono fun _ _ ⟨h1,h2⟩=>⟨by rw [h1,<-Bool.decide_and,decide_eq_false h],h2⟩
theorem aM (w:World) (o:Obj) (m:Nat):Below w.heap.size w ((w.alloc o).drewN m):=aI (aB w o) m
theorem aR (n:Nd):dG n=true ↔ bD n.op n.a n.b=true/\n.op ≠ 3/\n.op ≠ 13:=by
 simp only [dG,Bool.and_eq_true,decide_eq_true_eq,and_assoc]
theorem mE (n:Nd):dG n=false ↔ ¬ (bD n.op n.a n.b=true/\n.op ≠ 3/\n.op ≠ 13):=by
 rw [<-aR];simp
theorem KC (a b:Int) (w:World) :
 Calls Tryz.prog 62 #[.agg #[O S 1,O S a,O S b]] w (dY ⟨1,a,b⟩ w):=by
 by_cases a0:a=0
 · have a0b:(a==0)=true:=by simp [a0]
   have A0:=hid a0;clear a0;by_cases ht:0<=a/\a<=1048576
   · obtain ⟨hl,hh⟩:=ht;go_in;go_wp2_with fail
     all_goals
      go_quiet ((go_at_call 63;first | exact bL _ _ _ _ _ aA | exact bK _ _ _ _ _ aA | exact cU _ _ _ _ _))
      go_wp2_with fail
     all_goals
      have a0:=A0.o;refine bodyPost_ret (results_tmp2 rfl _ _ _) rfl ?_;refine aX ?_ ?_ (by first | exact aB _ _ | exact aM _ _ _)
      · rw [Bool.eq_iff_iff,aR,aF];first | (simp;done) | (simp;omega) | (simp [IntKind.wrap_i64];omega)
      rw [aR,aF];first | (simp [cG];done) | (simp [cG];omega) | (simp [cG,wrap64];omega) | (simp [cG,IntKind.wrap_i64];omega)
   have htb:(decide ((0:Int)<=a)&&decide (a<=1048576))=false:=by rw [Bool.and_eq_false_iff,decide_eq_false_iff_not,decide_eq_false_iff_not];omega
   have HT:=hid ht;go_in;go_wp2_with fail
   all_goals
    go_quiet ((go_at_call 63;first | exact bL _ _ _ _ _ aA | exact bK _ _ _ _ _ aA | exact cU _ _ _ _ _))
    go_wp2_with fail
   all_goals
    have a0:=A0.o;refine bodyPost_ret (results_tmp2 rfl _ _ _) rfl ?_;refine aX ?_ ?_ (by first | exact aB _ _ | exact aM _ _ _)
    · rw [Bool.eq_iff_iff,aR,aF];first | (simp;done) | (simp;omega) | (simp [IntKind.wrap_i64];omega)
    rw [aR,aF];first | (simp [cG];done) | (simp [cG];omega) | (simp [cG,wrap64];omega) | (simp [cG,IntKind.wrap_i64];omega)
 have a0b:(a==0)=false:=by simp [a0]
 have A0:=hid a0;clear a0;by_cases ht:0<=a/\a<=1048576
 · obtain ⟨hl,hh⟩:=ht;go_in;go_wp2_with fail
   all_goals
    go_quiet ((go_at_call 63;first | exact bL _ _ _ _ _ aA | exact bK _ _ _ _ _ aA | exact cU _ _ _ _ _))
    go_wp2_with fail
   all_goals
    have a0:=A0.o;refine bodyPost_ret (results_tmp2 rfl _ _ _) rfl ?_;refine aX ?_ ?_ (by first | exact aB _ _ | exact aM _ _ _)
    · rw [Bool.eq_iff_iff,aR,aF];first | (simp;done) | (simp;omega) | (simp [IntKind.wrap_i64];omega)
    rw [aR,aF];first | (simp [cG];done) | (simp [cG];omega) | (simp [cG,wrap64];omega) | (simp [cG,IntKind.wrap_i64];omega)
 have htb:(decide ((0:Int)<=a)&&decide (a<=1048576))=false:=by rw [Bool.and_eq_false_iff,decide_eq_false_iff_not,decide_eq_false_iff_not];omega
 have HT:=hid ht;go_in;go_wp2_with fail
 all_goals
  go_quiet ((go_at_call 63;first | exact bL _ _ _ _ _ aA | exact bK _ _ _ _ _ aA | exact cU _ _ _ _ _))
  go_wp2_with fail
 all_goals
  have a0:=A0.o;refine bodyPost_ret (results_tmp2 rfl _ _ _) rfl ?_;refine aX ?_ ?_ (by first | exact aB _ _ | exact aM _ _ _)
  · rw [Bool.eq_iff_iff,aR,aF];first | (simp;done) | (simp;omega) | (simp [IntKind.wrap_i64];omega)
  rw [aR,aF];first | (simp [cG];done) | (simp [cG];omega) | (simp [cG,wrap64];omega) | (simp [cG,IntKind.wrap_i64];omega)
theorem KD (a b:Int) (w:World) :
 Calls Tryz.prog 62 #[.agg #[O S 2,O S a,O S b]] w (dY ⟨2,a,b⟩ w):=by
 by_cases a0:a=0
 · have a0b:(a==0)=true:=by simp [a0]
   have A0:=hid a0;clear a0;by_cases ht:0<=a/\a<=1
   · obtain ⟨hl,hh⟩:=ht;go_in;go_wp2_with (go_at_call 63;refine (dK _ _ _ _).mono ?_;rintro e w2 ⟨rfl,rfl⟩)
     all_goals
      have a0:=A0.o;refine bodyPost_ret (results_tmp2 rfl _ _ _) rfl ?_;refine aX ?_ ?_ (by first | exact aB _ _ | exact aM _ _ _)
      · rw [Bool.eq_iff_iff,aR,aF];first | (simp;done) | (simp;omega) | (simp [IntKind.wrap_i64];omega)
      rw [aR,aF];first | (simp [cG];done) | (simp [cG];omega) | (simp [cG,wrap64];omega) | (simp [cG,IntKind.wrap_i64];omega)
   have htb:(decide ((0:Int)<=a)&&decide (a<=1))=false:=by rw [Bool.and_eq_false_iff,decide_eq_false_iff_not,decide_eq_false_iff_not];omega
   have HT:=hid ht;clear ht;go_in;go_wp2_with (go_at_call 63;refine (dK _ _ _ _).mono ?_;rintro e w2 ⟨rfl,rfl⟩)
   all_goals
    have a0:=A0.o;have ht:=HT.o;refine bodyPost_ret (results_tmp2 rfl _ _ _) rfl ?_;refine aX ?_ ?_ (by first | exact aB _ _ | exact aM _ _ _)
    · rw [Bool.eq_iff_iff,aR,aF];first | (simp;done) | (simp;omega) | (simp [IntKind.wrap_i64];omega)
    rw [aR,aF];first | (simp [cG];done) | (simp [cG];omega) | (simp [cG,wrap64];omega) | (simp [cG,IntKind.wrap_i64];omega)
 have a0b:(a==0)=false:=by simp [a0]
 have A0:=hid a0;clear a0;by_cases ht:0<=a/\a<=1
 · obtain ⟨hl,hh⟩:=ht;go_in;go_wp2_with (go_at_call 63;refine (dK _ _ _ _).mono ?_;rintro e w2 ⟨rfl,rfl⟩)
   all_goals
    have a0:=A0.o;refine bodyPost_ret (results_tmp2 rfl _ _ _) rfl ?_;refine aX ?_ ?_ (by first | exact aB _ _ | exact aM _ _ _)
    · rw [Bool.eq_iff_iff,aR,aF];first | (simp;done) | (simp;omega) | (simp [IntKind.wrap_i64];omega)
    rw [aR,aF];first | (simp [cG];done) | (simp [cG];omega) | (simp [cG,wrap64];omega) | (simp [cG,IntKind.wrap_i64];omega)
 have htb:(decide ((0:Int)<=a)&&decide (a<=1))=false:=by rw [Bool.and_eq_false_iff,decide_eq_false_iff_not,decide_eq_false_iff_not];omega
 have HT:=hid ht;clear ht;go_in;go_wp2_with (go_at_call 63;refine (dK _ _ _ _).mono ?_;rintro e w2 ⟨rfl,rfl⟩)
 all_goals
  have a0:=A0.o;have ht:=HT.o;refine bodyPost_ret (results_tmp2 rfl _ _ _) rfl ?_;refine aX ?_ ?_ (by first | exact aB _ _ | exact aM _ _ _)
  · rw [Bool.eq_iff_iff,aR,aF];first | (simp;done) | (simp;omega) | (simp [IntKind.wrap_i64];omega)
  rw [aR,aF];first | (simp [cG];done) | (simp [cG];omega) | (simp [cG,wrap64];omega) | (simp [cG,IntKind.wrap_i64];omega)
theorem KE (a b:Int) (w:World) :
 Calls Tryz.prog 62 #[.agg #[O S 4,O S a,O S b]] w (dY ⟨4,a,b⟩ w):=by
 by_cases h1:a=0
 · have h2:(a==0)=true:=by simp [h1]
   have H1:=hid h1;clear h1;go_in;go_wp2
   all_goals
    have h1:=H1.o;refine bodyPost_ret (results_tmp2 rfl _ _ _) rfl ?_;refine aX ?_ ?_ (by first | exact aB _ _ | exact aM _ _ _)
    · rw [Bool.eq_iff_iff,aR,aF];first | (simp;done) | (simp;omega) | (simp [IntKind.wrap_i64];omega)
    rw [aR,aF];first | (simp [cG];done) | (simp [cG];omega) | (simp [cG,wrap64];omega) | (simp [cG,IntKind.wrap_i64];omega)
 have h2:(a==0)=false:=by simp [h1]
 have H1:=hid h1;clear h1;go_in;go_wp2
 all_goals
  have h1:=H1.o;refine bodyPost_ret (results_tmp2 rfl _ _ _) rfl ?_;refine aX ?_ ?_ (by first | exact aB _ _ | exact aM _ _ _)
  · rw [Bool.eq_iff_iff,aR,aF];first | (simp;done) | (simp;omega) | (simp [IntKind.wrap_i64];omega)
  rw [aR,aF];first | (simp [cG];done) | (simp [cG];omega) | (simp [cG,wrap64];omega) | (simp [cG,IntKind.wrap_i64];omega)
theorem KF (a b:Int) (w:World) :
 Calls Tryz.prog 62 #[.agg #[O S 5,O S a,O S b]] w (dY ⟨5,a,b⟩ w):=by
 by_cases h1:a=0
 · have h2:(a==0)=true:=by simp [h1]
   have H1:=hid h1;clear h1;go_in;go_wp2
   all_goals
    have h1:=H1.o;refine bodyPost_ret (results_tmp2 rfl _ _ _) rfl ?_;refine aX ?_ ?_ (by first | exact aB _ _ | exact aM _ _ _)
    · rw [Bool.eq_iff_iff,aR,aF];first | (simp;done) | (simp;omega) | (simp [IntKind.wrap_i64];omega)
    rw [aR,aF];first | (simp [cG];done) | (simp [cG];omega) | (simp [cG,wrap64];omega) | (simp [cG,IntKind.wrap_i64];omega)
 have h2:(a==0)=false:=by simp [h1]
 have H1:=hid h1;clear h1;go_in;go_wp2
 all_goals
  have h1:=H1.o;refine bodyPost_ret (results_tmp2 rfl _ _ _) rfl ?_;refine aX ?_ ?_ (by first | exact aB _ _ | exact aM _ _ _)
  · rw [Bool.eq_iff_iff,aR,aF];first | (simp;done) | (simp;omega) | (simp [IntKind.wrap_i64];omega)
  rw [aR,aF];first | (simp [cG];done) | (simp [cG];omega) | (simp [cG,wrap64];omega) | (simp [cG,IntKind.wrap_i64];omega)
theorem KG (a b:Int) (w:World) :
 Calls Tryz.prog 62 #[.agg #[O S 6,O S a,O S b]] w (dY ⟨6,a,b⟩ w):=by
 by_cases h1:a=0
 · have h2:(a==0)=true:=by simp [h1]
   have H1:=hid h1;clear h1;go_in;go_wp2
   all_goals
    have h1:=H1.o;refine bodyPost_ret (results_tmp2 rfl _ _ _) rfl ?_;refine aX ?_ ?_ (by first | exact aB _ _ | exact aM _ _ _)
    · rw [Bool.eq_iff_iff,aR,aF];first | (simp;done) | (simp;omega) | (simp [IntKind.wrap_i64];omega)
    rw [aR,aF];first | (simp [cG];done) | (simp [cG];omega) | (simp [cG,wrap64];omega) | (simp [cG,IntKind.wrap_i64];omega)
 have h2:(a==0)=false:=by simp [h1]
 have H1:=hid h1;clear h1;go_in;go_wp2
 all_goals
  have h1:=H1.o;refine bodyPost_ret (results_tmp2 rfl _ _ _) rfl ?_;refine aX ?_ ?_ (by first | exact aB _ _ | exact aM _ _ _)
  · rw [Bool.eq_iff_iff,aR,aF];first | (simp;done) | (simp;omega) | (simp [IntKind.wrap_i64];omega)
  rw [aR,aF];first | (simp [cG];done) | (simp [cG];omega) | (simp [cG,wrap64];omega) | (simp [cG,IntKind.wrap_i64];omega)
theorem KH (a b:Int) (w:World) :
 Calls Tryz.prog 62 #[.agg #[O S 7,O S a,O S b]] w (dY ⟨7,a,b⟩ w):=by
 by_cases h1:a=0
 · have h2:(a==0)=true:=by simp [h1]
   have H1:=hid h1;clear h1;go_in;go_wp2
   all_goals
    have h1:=H1.o;refine bodyPost_ret (results_tmp2 rfl _ _ _) rfl ?_;refine aX ?_ ?_ (by first | exact aB _ _ | exact aM _ _ _)
    · rw [Bool.eq_iff_iff,aR,aF];first | (simp;done) | (simp;omega) | (simp [IntKind.wrap_i64];omega)
    rw [aR,aF];first | (simp [cG];done) | (simp [cG];omega) | (simp [cG,wrap64];omega) | (simp [cG,IntKind.wrap_i64];omega)
 have h2:(a==0)=false:=by simp [h1]
 have H1:=hid h1;clear h1;go_in;go_wp2
 all_goals
  have h1:=H1.o;refine bodyPost_ret (results_tmp2 rfl _ _ _) rfl ?_;refine aX ?_ ?_ (by first | exact aB _ _ | exact aM _ _ _)
  · rw [Bool.eq_iff_iff,aR,aF];first | (simp;done) | (simp;omega) | (simp [IntKind.wrap_i64];omega)
  rw [aR,aF];first | (simp [cG];done) | (simp [cG];omega) | (simp [cG,wrap64];omega) | (simp [cG,IntKind.wrap_i64];omega)
theorem KI (a b:Int) (w:World) :
 Calls Tryz.prog 62 #[.agg #[O S 8,O S a,O S b]] w (dY ⟨8,a,b⟩ w):=by
 by_cases a0:a=0
 · have a0b:(a==0)=true:=by simp [a0]
   have A0:=hid a0;clear a0;by_cases ht:0<=a/\a<=63
   · obtain ⟨hl,hh⟩:=ht;go_in;go_wp2_with fail
     all_goals
      go_quiet ((go_at_call 63;first | exact bL _ _ _ _ _ aA | exact bK _ _ _ _ _ aA | exact cU _ _ _ _ _))
      go_wp2_with fail
     all_goals
      have a0:=A0.o;refine bodyPost_ret (results_tmp2 rfl _ _ _) rfl ?_;refine aX ?_ ?_ (by first | exact aB _ _ | exact aM _ _ _)
      · rw [Bool.eq_iff_iff,aR,aF];first | (simp;done) | (simp;omega) | (simp [IntKind.wrap_i64];omega)
      rw [aR,aF];first | (simp [cG];done) | (simp [cG];omega) | (simp [cG,wrap64];omega) | (simp [cG,IntKind.wrap_i64];omega)
   have htb:(decide ((0:Int)<=a)&&decide (a<=63))=false:=by rw [Bool.and_eq_false_iff,decide_eq_false_iff_not,decide_eq_false_iff_not];omega
   have HT:=hid ht;go_in;go_wp2_with fail
   all_goals
    go_quiet ((go_at_call 63;first | exact bL _ _ _ _ _ aA | exact bK _ _ _ _ _ aA | exact cU _ _ _ _ _))
    go_wp2_with fail
   all_goals
    have a0:=A0.o;refine bodyPost_ret (results_tmp2 rfl _ _ _) rfl ?_;refine aX ?_ ?_ (by first | exact aB _ _ | exact aM _ _ _)
    · rw [Bool.eq_iff_iff,aR,aF];first | (simp;done) | (simp;omega) | (simp [IntKind.wrap_i64];omega)
    rw [aR,aF];first | (simp [cG];done) | (simp [cG];omega) | (simp [cG,wrap64];omega) | (simp [cG,IntKind.wrap_i64];omega)
 have a0b:(a==0)=false:=by simp [a0]
 have A0:=hid a0;clear a0;by_cases ht:0<=a/\a<=63
 · obtain ⟨hl,hh⟩:=ht;go_in;go_wp2_with fail
   all_goals
    go_quiet ((go_at_call 63;first | exact bL _ _ _ _ _ aA | exact bK _ _ _ _ _ aA | exact cU _ _ _ _ _))
    go_wp2_with fail
   all_goals
    have a0:=A0.o;refine bodyPost_ret (results_tmp2 rfl _ _ _) rfl ?_;refine aX ?_ ?_ (by first | exact aB _ _ | exact aM _ _ _)
    · rw [Bool.eq_iff_iff,aR,aF];first | (simp;done) | (simp;omega) | (simp [IntKind.wrap_i64];omega)
    rw [aR,aF];first | (simp [cG];done) | (simp [cG];omega) | (simp [cG,wrap64];omega) | (simp [cG,IntKind.wrap_i64];omega)
 have htb:(decide ((0:Int)<=a)&&decide (a<=63))=false:=by rw [Bool.and_eq_false_iff,decide_eq_false_iff_not,decide_eq_false_iff_not];omega
 have HT:=hid ht;go_in;go_wp2_with fail
 all_goals
  go_quiet ((go_at_call 63;first | exact bL _ _ _ _ _ aA | exact bK _ _ _ _ _ aA | exact cU _ _ _ _ _))
  go_wp2_with fail
 all_goals
  have a0:=A0.o;refine bodyPost_ret (results_tmp2 rfl _ _ _) rfl ?_;refine aX ?_ ?_ (by first | exact aB _ _ | exact aM _ _ _)
  · rw [Bool.eq_iff_iff,aR,aF];first | (simp;done) | (simp;omega) | (simp [IntKind.wrap_i64];omega)
  rw [aR,aF];first | (simp [cG];done) | (simp [cG];omega) | (simp [cG,wrap64];omega) | (simp [cG,IntKind.wrap_i64];omega)
theorem KJ (a b:Int) (w:World) :
 Calls Tryz.prog 62 #[.agg #[O S 9,O S a,O S b]] w (dY ⟨9,a,b⟩ w):=by
 by_cases a0:a=0
 · have a0b:(a==0)=true:=by simp [a0]
   have A0:=hid a0;clear a0;by_cases ht:0<=a/\a<=63
   · obtain ⟨hl,hh⟩:=ht;go_in;go_wp2_with fail
     all_goals
      go_quiet ((go_at_call 63;first | exact bL _ _ _ _ _ aA | exact bK _ _ _ _ _ aA | exact cU _ _ _ _ _))
      go_wp2_with fail
     all_goals
      have a0:=A0.o;refine bodyPost_ret (results_tmp2 rfl _ _ _) rfl ?_;refine aX ?_ ?_ (by first | exact aB _ _ | exact aM _ _ _)
      · rw [Bool.eq_iff_iff,aR,aF];first | (simp;done) | (simp;omega) | (simp [IntKind.wrap_i64];omega)
      rw [aR,aF];first | (simp [cG];done) | (simp [cG];omega) | (simp [cG,wrap64];omega) | (simp [cG,IntKind.wrap_i64];omega)
   have htb:(decide ((0:Int)<=a)&&decide (a<=63))=false:=by rw [Bool.and_eq_false_iff,decide_eq_false_iff_not,decide_eq_false_iff_not];omega
   have HT:=hid ht;go_in;go_wp2_with fail
   all_goals
    go_quiet ((go_at_call 63;first | exact bL _ _ _ _ _ aA | exact bK _ _ _ _ _ aA | exact cU _ _ _ _ _))
    go_wp2_with fail
   all_goals
    have a0:=A0.o;refine bodyPost_ret (results_tmp2 rfl _ _ _) rfl ?_;refine aX ?_ ?_ (by first | exact aB _ _ | exact aM _ _ _)
    · rw [Bool.eq_iff_iff,aR,aF];first | (simp;done) | (simp;omega) | (simp [IntKind.wrap_i64];omega)
    rw [aR,aF];first | (simp [cG];done) | (simp [cG];omega) | (simp [cG,wrap64];omega) | (simp [cG,IntKind.wrap_i64];omega)
 have a0b:(a==0)=false:=by simp [a0]
 have A0:=hid a0;clear a0;by_cases ht:0<=a/\a<=63
 · obtain ⟨hl,hh⟩:=ht;go_in;go_wp2_with fail
   all_goals
    go_quiet ((go_at_call 63;first | exact bL _ _ _ _ _ aA | exact bK _ _ _ _ _ aA | exact cU _ _ _ _ _))
    go_wp2_with fail
   all_goals
    have a0:=A0.o;refine bodyPost_ret (results_tmp2 rfl _ _ _) rfl ?_;refine aX ?_ ?_ (by first | exact aB _ _ | exact aM _ _ _)
    · rw [Bool.eq_iff_iff,aR,aF];first | (simp;done) | (simp;omega) | (simp [IntKind.wrap_i64];omega)
    rw [aR,aF];first | (simp [cG];done) | (simp [cG];omega) | (simp [cG,wrap64];omega) | (simp [cG,IntKind.wrap_i64];omega)
 have htb:(decide ((0:Int)<=a)&&decide (a<=63))=false:=by rw [Bool.and_eq_false_iff,decide_eq_false_iff_not,decide_eq_false_iff_not];omega
 have HT:=hid ht;go_in;go_wp2_with fail
 all_goals
  go_quiet ((go_at_call 63;first | exact bL _ _ _ _ _ aA | exact bK _ _ _ _ _ aA | exact cU _ _ _ _ _))
  go_wp2_with fail
 all_goals
  have a0:=A0.o;refine bodyPost_ret (results_tmp2 rfl _ _ _) rfl ?_;refine aX ?_ ?_ (by first | exact aB _ _ | exact aM _ _ _)
  · rw [Bool.eq_iff_iff,aR,aF];first | (simp;done) | (simp;omega) | (simp [IntKind.wrap_i64];omega)
  rw [aR,aF];first | (simp [cG];done) | (simp [cG];omega) | (simp [cG,wrap64];omega) | (simp [cG,IntKind.wrap_i64];omega)
theorem GZ (a b:Int) (w:World) :
 Calls Tryz.prog 62 #[.agg #[O S 10,O S a,O S b]] w (dY ⟨10,a,b⟩ w):=by
 by_cases a0:a=0
 · have a0b:(a==0)=true:=by simp [a0]
   have A0:=hid a0;clear a0;by_cases ht:0<=a/\a<=63
   · obtain ⟨hl,hh⟩:=ht;go_in;go_wp2_with (go_at_call 63;refine (dK _ _ _ _).mono ?_;rintro e w2 ⟨rfl,rfl⟩)
     all_goals
      have a0:=A0.o;refine bodyPost_ret (results_tmp2 rfl _ _ _) rfl ?_;refine aX ?_ ?_ (by first | exact aB _ _ | exact aM _ _ _)
      · rw [Bool.eq_iff_iff,aR,aF];first | (simp;done) | (simp;omega) | (simp [IntKind.wrap_i64];omega)
      rw [aR,aF];first | (simp [cG];done) | (simp [cG];omega) | (simp [cG,wrap64];omega) | (simp [cG,IntKind.wrap_i64];omega)
   have htb:(decide ((0:Int)<=a)&&decide (a<=63))=false:=by rw [Bool.and_eq_false_iff,decide_eq_false_iff_not,decide_eq_false_iff_not];omega
   have HT:=hid ht;clear ht;go_in;go_wp2_with (go_at_call 63;refine (dK _ _ _ _).mono ?_;rintro e w2 ⟨rfl,rfl⟩)
   all_goals
    have a0:=A0.o;have ht:=HT.o;refine bodyPost_ret (results_tmp2 rfl _ _ _) rfl ?_;refine aX ?_ ?_ (by first | exact aB _ _ | exact aM _ _ _)
    · rw [Bool.eq_iff_iff,aR,aF];first | (simp;done) | (simp;omega) | (simp [IntKind.wrap_i64];omega)
    rw [aR,aF];first | (simp [cG];done) | (simp [cG];omega) | (simp [cG,wrap64];omega) | (simp [cG,IntKind.wrap_i64];omega)
 have a0b:(a==0)=false:=by simp [a0]
 have A0:=hid a0;clear a0;by_cases ht:0<=a/\a<=63
 · obtain ⟨hl,hh⟩:=ht;go_in;go_wp2_with (go_at_call 63;refine (dK _ _ _ _).mono ?_;rintro e w2 ⟨rfl,rfl⟩)
   all_goals
    have a0:=A0.o;refine bodyPost_ret (results_tmp2 rfl _ _ _) rfl ?_;refine aX ?_ ?_ (by first | exact aB _ _ | exact aM _ _ _)
    · rw [Bool.eq_iff_iff,aR,aF];first | (simp;done) | (simp;omega) | (simp [IntKind.wrap_i64];omega)
    rw [aR,aF];first | (simp [cG];done) | (simp [cG];omega) | (simp [cG,wrap64];omega) | (simp [cG,IntKind.wrap_i64];omega)
 have htb:(decide ((0:Int)<=a)&&decide (a<=63))=false:=by rw [Bool.and_eq_false_iff,decide_eq_false_iff_not,decide_eq_false_iff_not];omega
 have HT:=hid ht;clear ht;go_in;go_wp2_with (go_at_call 63;refine (dK _ _ _ _).mono ?_;rintro e w2 ⟨rfl,rfl⟩)
 all_goals
  have a0:=A0.o;have ht:=HT.o;refine bodyPost_ret (results_tmp2 rfl _ _ _) rfl ?_;refine aX ?_ ?_ (by first | exact aB _ _ | exact aM _ _ _)
  · rw [Bool.eq_iff_iff,aR,aF];first | (simp;done) | (simp;omega) | (simp [IntKind.wrap_i64];omega)
  rw [aR,aF];first | (simp [cG];done) | (simp [cG];omega) | (simp [cG,wrap64];omega) | (simp [cG,IntKind.wrap_i64];omega)
theorem G0 (a b:Int) (w:World) :
 Calls Tryz.prog 62 #[.agg #[O S 11,O S a,O S b]] w (dY ⟨11,a,b⟩ w):=by
 by_cases a0:a=0
 · have a0b:(a==0)=true:=by simp [a0]
   have A0:=hid a0;clear a0;by_cases ht:0<=a/\a<=63
   · obtain ⟨hl,hh⟩:=ht;go_in;go_wp2_with fail
     all_goals
      go_quiet ((go_at_call 63;first | exact bL _ _ _ _ _ aA | exact bK _ _ _ _ _ aA | exact cU _ _ _ _ _))
      go_wp2_with fail
     all_goals
      have a0:=A0.o;refine bodyPost_ret (results_tmp2 rfl _ _ _) rfl ?_;refine aX ?_ ?_ (by first | exact aB _ _ | exact aM _ _ _)
      · rw [Bool.eq_iff_iff,aR,aF];first | (simp;done) | (simp;omega) | (simp [IntKind.wrap_i64];omega)
      rw [aR,aF];first | (simp [cG];done) | (simp [cG];omega) | (simp [cG,wrap64];omega) | (simp [cG,IntKind.wrap_i64];omega)
   have htb:(decide ((0:Int)<=a)&&decide (a<=63))=false:=by rw [Bool.and_eq_false_iff,decide_eq_false_iff_not,decide_eq_false_iff_not];omega
   have HT:=hid ht;go_in;go_wp2_with fail
   all_goals
    go_quiet ((go_at_call 63;first | exact bL _ _ _ _ _ aA | exact bK _ _ _ _ _ aA | exact cU _ _ _ _ _))
    go_wp2_with fail
   all_goals
    have a0:=A0.o;refine bodyPost_ret (results_tmp2 rfl _ _ _) rfl ?_;refine aX ?_ ?_ (by first | exact aB _ _ | exact aM _ _ _)
    · rw [Bool.eq_iff_iff,aR,aF];first | (simp;done) | (simp;omega) | (simp [IntKind.wrap_i64];omega)
    rw [aR,aF];first | (simp [cG];done) | (simp [cG];omega) | (simp [cG,wrap64];omega) | (simp [cG,IntKind.wrap_i64];omega)
 have a0b:(a==0)=false:=by simp [a0]
 have A0:=hid a0;clear a0;by_cases ht:0<=a/\a<=63
 · obtain ⟨hl,hh⟩:=ht;go_in;go_wp2_with fail
   all_goals
    go_quiet ((go_at_call 63;first | exact bL _ _ _ _ _ aA | exact bK _ _ _ _ _ aA | exact cU _ _ _ _ _))
    go_wp2_with fail
   all_goals
    have a0:=A0.o;refine bodyPost_ret (results_tmp2 rfl _ _ _) rfl ?_;refine aX ?_ ?_ (by first | exact aB _ _ | exact aM _ _ _)
    · rw [Bool.eq_iff_iff,aR,aF];first | (simp;done) | (simp;omega) | (simp [IntKind.wrap_i64];omega)
    rw [aR,aF];first | (simp [cG];done) | (simp [cG];omega) | (simp [cG,wrap64];omega) | (simp [cG,IntKind.wrap_i64];omega)
 have htb:(decide ((0:Int)<=a)&&decide (a<=63))=false:=by rw [Bool.and_eq_false_iff,decide_eq_false_iff_not,decide_eq_false_iff_not];omega
 have HT:=hid ht;go_in;go_wp2_with fail
 all_goals
  go_quiet ((go_at_call 63;first | exact bL _ _ _ _ _ aA | exact bK _ _ _ _ _ aA | exact cU _ _ _ _ _))
  go_wp2_with fail
 all_goals
  have a0:=A0.o;refine bodyPost_ret (results_tmp2 rfl _ _ _) rfl ?_;refine aX ?_ ?_ (by first | exact aB _ _ | exact aM _ _ _)
  · rw [Bool.eq_iff_iff,aR,aF];first | (simp;done) | (simp;omega) | (simp [IntKind.wrap_i64];omega)
  rw [aR,aF];first | (simp [cG];done) | (simp [cG];omega) | (simp [cG,wrap64];omega) | (simp [cG,IntKind.wrap_i64];omega)
theorem G2 (a b:Int) (w:World) :
 Calls Tryz.prog 62 #[.agg #[O S 12,O S a,O S b]] w (dY ⟨12,a,b⟩ w):=by
 by_cases a0:a=0
 · have a0b:(a==0)=true:=by simp [a0]
   have A0:=hid a0;clear a0;by_cases ht:1<=b/\b<=4
   · obtain ⟨hl,hh⟩:=ht;go_in;go_wp2_with fail
     all_goals
      go_quiet ((go_at_call 63;first | exact bL _ _ _ _ _ aA | exact bK _ _ _ _ _ aA | exact cU _ _ _ _ _))
      go_wp2_with fail
     all_goals
      have a0:=A0.o;refine bodyPost_ret (results_tmp2 rfl _ _ _) rfl ?_;refine aX ?_ ?_ (by first | exact aB _ _ | exact aM _ _ _)
      · rw [Bool.eq_iff_iff,aR,aF];first | (simp;done) | (simp;omega) | (simp [IntKind.wrap_i64];omega)
      rw [aR,aF];first | (simp [cG];done) | (simp [cG];omega) | (simp [cG,wrap64];omega) | (simp [cG,IntKind.wrap_i64];omega)
   have htb:(decide ((1:Int)<=b)&&decide (b<=4))=false:=by rw [Bool.and_eq_false_iff,decide_eq_false_iff_not,decide_eq_false_iff_not];omega
   have HT:=hid ht;go_in;go_wp2_with fail
   all_goals
    go_quiet ((go_at_call 63;first | exact bL _ _ _ _ _ aA | exact bK _ _ _ _ _ aA | exact cU _ _ _ _ _))
    go_wp2_with fail
   all_goals
    have a0:=A0.o;refine bodyPost_ret (results_tmp2 rfl _ _ _) rfl ?_;refine aX ?_ ?_ (by first | exact aB _ _ | exact aM _ _ _)
    · rw [Bool.eq_iff_iff,aR,aF];first | (simp;done) | (simp;omega) | (simp [IntKind.wrap_i64];omega)
    rw [aR,aF];first | (simp [cG];done) | (simp [cG];omega) | (simp [cG,wrap64];omega) | (simp [cG,IntKind.wrap_i64];omega)
 have a0b:(a==0)=false:=by simp [a0]
 have A0:=hid a0;clear a0;by_cases ht:1<=b/\b<=4
 · obtain ⟨hl,hh⟩:=ht;go_in;go_wp2_with fail
   all_goals
    go_quiet ((go_at_call 63;first | exact bL _ _ _ _ _ aA | exact bK _ _ _ _ _ aA | exact cU _ _ _ _ _))
    go_wp2_with fail
   all_goals
    have a0:=A0.o;refine bodyPost_ret (results_tmp2 rfl _ _ _) rfl ?_;refine aX ?_ ?_ (by first | exact aB _ _ | exact aM _ _ _)
    · rw [Bool.eq_iff_iff,aR,aF];first | (simp;done) | (simp;omega) | (simp [IntKind.wrap_i64];omega)
    rw [aR,aF];first | (simp [cG];done) | (simp [cG];omega) | (simp [cG,wrap64];omega) | (simp [cG,IntKind.wrap_i64];omega)
 have htb:(decide ((1:Int)<=b)&&decide (b<=4))=false:=by rw [Bool.and_eq_false_iff,decide_eq_false_iff_not,decide_eq_false_iff_not];omega
 have HT:=hid ht;go_in;go_wp2_with fail
 all_goals
  go_quiet ((go_at_call 63;first | exact bL _ _ _ _ _ aA | exact bK _ _ _ _ _ aA | exact cU _ _ _ _ _))
  go_wp2_with fail
 all_goals
  have a0:=A0.o;refine bodyPost_ret (results_tmp2 rfl _ _ _) rfl ?_;refine aX ?_ ?_ (by first | exact aB _ _ | exact aM _ _ _)
  · rw [Bool.eq_iff_iff,aR,aF];first | (simp;done) | (simp;omega) | (simp [IntKind.wrap_i64];omega)
  rw [aR,aF];first | (simp [cG];done) | (simp [cG];omega) | (simp [cG,wrap64];omega) | (simp [cG,IntKind.wrap_i64];omega)
theorem ET (op a b:Int) (w:World) (hop:¬ (1<=op/\op<=12/\op ≠ 3)) :
 Calls Tryz.prog 62 #[.agg #[O S op,O S a,O S b]] w (dY ⟨op,a,b⟩ w):=by
 have b1:(op==1)=false:=beq_eq_false_iff_ne.2 aA;have b2:(op==2)=false:=beq_eq_false_iff_ne.2 aA;have b4:(op==4)=false:=beq_eq_false_iff_ne.2 aA;have b5:(op==5)=false:=beq_eq_false_iff_ne.2 aA;have b6:(op==6)=false:=beq_eq_false_iff_ne.2 aA;have b7:(op==7)=false:=beq_eq_false_iff_ne.2 aA;have b8:(op==8)=false:=beq_eq_false_iff_ne.2 aA;have b9:(op==9)=false:=beq_eq_false_iff_ne.2 aA;have b10:(op==10)=false:=beq_eq_false_iff_ne.2 aA;have b11:(op==11)=false:=beq_eq_false_iff_ne.2 aA;have b12:(op==12)=false:=beq_eq_false_iff_ne.2 aA;have HOP:=hid hop;clear hop;by_cases a0:a=0
 · have a0b:(a==0)=true:=by simp [a0]
   clear a0;go_in;go_wp2_with fail
   all_goals
    refine bodyPost_ret (results_tmp2 rfl _ _ _) rfl ?_;refine aX ?_ ?_ (aB _ _)
    · have hop:=HOP.o;symm;rw [mE,aF];dsimp only;omega
    have hop:=HOP.o;rw [aR,aF];dsimp only;omega
 have a0b:(a==0)=false:=by simp [a0]
 clear a0;go_in;go_wp2_with fail
 all_goals
  refine bodyPost_ret (results_tmp2 rfl _ _ _) rfl ?_;refine aX ?_ ?_ (aB _ _)
  · have hop:=HOP.o;symm;rw [mE,aF];dsimp only;omega
  have hop:=HOP.o;rw [aR,aF];dsimp only;omega
theorem tR (op a b:Int) (w:World) :
 Calls Tryz.prog 62 #[.agg #[O S op,O S a,O S b]] w (dY ⟨op,a,b⟩ w):=by
 by_cases hop:1<=op/\op<=12/\op ≠ 3
 · have:op=1\/op=2\/op=4\/op=5\/op=6\/op=7\/op=8\/op=9\/op=10\/op=11\/op=12:=aA;rcases this with rfl | rfl | rfl | rfl | rfl | rfl | rfl | rfl | rfl | rfl | rfl
   · exact KC a b w
   · exact KD a b w
   · exact KE a b w
   · exact KF a b w
   · exact KG a b w
   · exact KH a b w
   · exact KI a b w
   · exact KJ a b w
   · exact GZ a b w
   · exact G0 a b w
   exact G2 a b w
 exact ET op a b w hop
theorem tS (op a b:Int) (w:World) (h:dG ⟨op,a,b⟩=true) :
 Calls Tryz.prog 62 #[.agg #[O S op,O S a,O S b]] w fun e w'=>e=.returned (.tuple #[O S (cG op b),.bool true])/\Below w.heap.size w w' :=
 (tR op a b w).mono fun _ _ ⟨⟨k,h1,h2⟩,h3⟩=>⟨by rw [h1,h,h2 h],h3⟩
theorem G3 (op a b:Int) (w:World) (h:dG ⟨op,a,b⟩=false) :
 Calls Tryz.prog 62 #[.agg #[O S op,O S a,O S b]] w fun e w'=>(∃ k:Int,e=.returned (.tuple #[O S k,.bool false]))/\Below w.heap.size w w' :=
 (tR op a b w).mono fun _ _ ⟨⟨k,h1,_⟩,h3⟩=>⟨⟨k,by rw [h1,h]⟩,h3⟩
end
section
open Go.RowKit
theorem AK (n:Nd) (F1:Fo) (pre:List Nd) (nd:Nd) (a:List Nd) (ks:Fo):J2 n.op n.b 0 (F1.app (.cons pre nd a ks .nil))=J2 n.op n.b 0 F1++[aC n.op n.b (aT F1)]:=by
 rw [C6,Nat.zero_add];rfl
theorem lS (F1:Fo) (pre:List Nd) (nd:Nd) (a:List Nd) (ks:Fo):gM (F1.app (.cons pre nd a ks .nil))=gM F1++[row (.cons [] nd a ks .nil)]:=by
 rw [uQ];rfl
theorem qY {op b k:Int} (h:op ≠ 12):aC op b k=dP op k:=by
 simp [aC,dP,h]
theorem GP.setAt {g:Nat} {A:Option Addr} {n c p j:Nat} {A1:Option Addr} {k1:Nat} {A2:Option Addr} {k2:Nat} {xs1 xs2:List Value} {w:World} (h:GP g A n c p j A1 k1 A2 k2 xs1 xs2 w) (p':Nat) :
 GP g A n c p' j A1 k1 A2 k2 xs1 xs2 (w.setCell ⟨g+4,0,Y⟩ (O S (p':Int))) :=
 ⟨h.bt.far (by simp) _,h.bo.far (by simp) _,h.br.far (by simp) _,h.ba.set_ 0 _,ownsRow_setCell_below (a:=⟨g+4,0,Y⟩) h.own1 (by simp) _,ownsRow_setCell_below (a:=⟨g+4,0,Y⟩) h.own2 (by simp) _,h.off⟩
theorem GP.alloc {g:Nat} {A:Option Addr} {n c p j:Nat} {A1:Option Addr} {k1:Nat} {A2:Option Addr} {k2:Nat} {xs1 xs2:List Value} {w:World} (h:GP g A n c p j A1 k1 A2 k2 xs1 xs2 w) (o:Obj) :
 GP g A n c p j A1 k1 A2 k2 xs1 xs2 (w.alloc o) :=
 ⟨h.bt.alloc _,h.bo.alloc _,h.br.alloc _,h.ba.alloc _,h.own1.alloc _,h.own2.alloc _,h.off⟩
def tO (A:Nd) (k:Fo) (w:World) (e:Ending) (w':World):Prop:=Below w.heap.size w w'/\∃ A1 k1 A2 k2 xs1,e=.returned (.tuple #[X A1 (aT k) k1,X A2 (aT k) k2]) ∧
 w'.ownsRow (w.heap.size+5) 28 1 (X A1 (aT k) k1) (aT k) xs1/\w'.ownsRow (w.heap.size+5) 3 1 (X A2 (aT k) k2) (aT k) ((J2 A.op A.b 0 k).map (Value.int .i64))/\eJ (· < w.heap.size) w xs1 (gM k)
theorem FK {A:Option Addr} {nn c:Nat} {l:List Nd} {w:World} {n:Nd} {ats:List Nd} {k:Fo} (h:aP w A nn c l) (hs:aN l=0) (hpp:pp [false] l=Z (.cons [] n ats k .nil,[])) :
 Calls Tryz.prog 103 #[X A nn c] w (tO n k w):=by
 obtain ⟨hok,hv1,hvk,hall,hpre,hrow,hl4,hfs⟩:=pI hs hpp;have hmf:∀ (fn:Fn) (first cap:Array Value) (w:World),(Instr.makeFunc fn first cap).run Tryz.prog w=.ok (.func fn first cap) w:=fun _ _ _ _=>rfl;have hlen:=h.len;have hpos:0<nn:=by rw [<-hlen,hrow];simp
 have hn0:aQ l 0=n:=by rw [hrow];rfl
 obtain ⟨tb,toff,rfl,htb,g0,g1,g2⟩:=h.at_ hpos;simp only [Nat.zero_mul,Nat.add_zero] at g0 g1 g2;rw [hn0] at g0 g1 g2;have H:=hid h;clear h;go_in;go_wp2_with fail
 have hbk : -1000<=n.b/\n.b<=1000:=by
  have h1:=(aR n).1 hok;have h2:=aF.1 h1.1;omega
 refine (nR n.op n.a n.b _ hbk).mono ?_;rintro e w6 ⟨rfl,hw6⟩;have hb5:Below w.heap.size w (((((w.alloc (I #[X (Z ⟨tb,toff,Y⟩) nn c] 28)).alloc (I #[O S n.op,O S n.a,O S n.b] 40)).alloc (I #[X Y 0 0] 65)).alloc (I #[X Y 0 0] 106)).alloc (I #[O S 1] 3)) :=
  ((((aB w _).alloc (by simp) _).alloc (by simp<;>omega) _).alloc (by simp<;>omega) _).alloc (by simp<;>omega) _
 have hb6:=hb5.alloc hb5.size (I #[O S n.op,O S n.a,O S n.b] 40);rw [hw6] at hb6;have hst:GP w.heap.size (Z ⟨tb,toff,Y⟩) nn c 1 0 Y 0 Y 0 [] [] w6:=by
  subst hw6;refine ⟨?_,?_,?_,?_,World.ownsRow_nil _ _ _ _,World.ownsRow_nil _ _ _ _,fun b h=>by simp [Value.ownBlock] at h⟩
  · exact (((((aD.new _ _ _).alloc _).alloc _).alloc _).alloc _).alloc _
  · exact (((aD.new' (by simp)).alloc _).alloc _).alloc _
  · exact ((aD.new' (by simp)).alloc _).alloc _
  exact (aD.new' (by simp)).alloc _
 have hnd:aD w6 (w.heap.size+1) 40 #[O S n.op,O S n.a,O S n.b]:=by
  subst hw6;exact ((((aD.new' (by simp)).alloc _).alloc _).alloc _).alloc _
 clear hw6 hb5;go_wp2_with fail
 have hkw:Wf (ds n) k:=(fT hpp).2.2.2.1;have hats:n.op ≠ 2->ats=[]:=fun h2=>by
  have h3:=(fT hpp).2.2.1;unfold gW at h3;rw [if_neg h2] at h3;exact h3
 go_loopw [16] (fun i wr=>∃ (F1 F2:Fo) (j p:Nat) (A1:Option Addr) (k1:Nat) (A2:Option Addr) (k2:Nat) (xs1 xs2:List Value),Hid (k=F1.app F2)/\Hid (aT F1=if n.op=12 then 2*j else j)/\(j:Int)<=dA n.op n.b/\i=O S (j:Int) ∧
  Hid (F2=.nil\/l.drop p=row F2)/\p<=l.length/\Hid (Wf (fX n j) F2)/\Hid (GP w.heap.size (Z ⟨tb,toff,Y⟩) nn c p (aT F1) A1 k1 A2 k2 xs1 xs2 wr) ∧
  Hid (aD wr (w.heap.size+1) 40 #[O S n.op,O S n.a,O S n.b])/\Hid (Below w.heap.size w wr)/\Hid (eJ (· < w.heap.size) w xs1 (gM F1))/\Hid (xs2=(J2 n.op n.b 0 F1).map (Value.int .i64))) (fun i _=>(dA n.op n.b).toNat-(intOf i).toNat)
 case atStart =>
  refine ⟨.nil,k,0,1,Y,0,Y,0,[],[],hid rfl,hid (by simp [aT]),?_,by go_num,hid ?_,by omega,hid (by rw [pG];exact hkw),hid hst,hid hnd,hid hb6,hid trivial,hid rfl⟩
  · have h1:=(aR n).1 hok;have h2:=aF.1 h1.1;simp only [dA]
    repeat' split
    all_goals omega
  by_cases h2:n.op=2
  · left;have h3:ds n=[]:=by simp [ds,dA,h2]
    rw [h3] at hkw;cases k with
    | nil=>rfl
    | cons _ _ _ _ _=>exact hkw.elim
  right;rw [hrow,hats h2];rfl
 case round =>
  obtain ⟨F1,F2,j,p,A1,k1,A2,k2,xs1,xs2,hk,hfl,hjk,rfl,hF2,hp,hwf,hst,hnd,hbw,hrows,hints⟩:=hrel;have zn:=(hnd.o).cell;have z2:wr.cell? ⟨w.heap.size+1+1,0,Y⟩=Z (X A1 (aT F1) k1):=hst.o.bo.cell 0;have z3:wr.cell? ⟨w.heap.size+1+1+1,0,Y⟩=Z (X A2 (aT F1) k2):=hst.o.br.cell 0;have hjb:(j:Int)<=1002:=by
   have h1:dA n.op n.b<=1002:=by
    simp only [dA]
    repeat' split
    all_goals omega
   omega
  by_cases hlt:(j:Int)<dA n.op n.b;rotate_left
  · have hkf:Hid (k=F1):=by
     have hw2:=hwf.o;rw [rX n aA] at hw2
     match F2,hw2,hk with
     | .nil,_,hk=>exact hid (hk.o.trans (iH F1))
    go_wp2_with fail
    go_quiet (fail)
    go_wp2_with fail
    go_ret2;refine ⟨aI hbw.o _,A1,k1,A2,k2,xs1,by rw [hkf.o];rfl,?_,?_,?_⟩
    · rw [hkf.o];exact hst.o.own1
    · rw [hkf.o,<-hints.o];exact hst.o.own2
    rw [hkf.o];exact hrows.o
  by_cases h12:n.op=12
  · have c12:(n.op==12)=true:=beq_iff_eq.2 h12;have H12:=hid h12;have z4:wr.cell? ⟨w.heap.size+1+1+1+1,0,Y⟩=Z (O S (p:Int)):=hst.o.ba.cell 0;have zf4:wr.frozen? ⟨w.heap.size+1+1+1+1,0,Y⟩=false:=hst.o.ba.frozen 0;have zl4:w.heap.size+1+1+1+1<wr.heap.size:=hst.o.ba.lt;clear h12;have hkb:dA n.op n.b=n.b:=by simp [dA,H12.o]
    have hw2:=hwf.o;rw [rY H12.o aA] at hw2
    match F2,hw2,hk,hF2 with
    | .cons pre nd a ks F3,hw3,hk,hF2 =>
    obtain ⟨f,rfl,_⟩:=hw3.1
    match F3,hw3,hk,hF2 with
    | .cons pre2 nd2 a2 ks2 F4,hw3,hk,hF2 =>
    have hw4:=hw3.2.2.2.2;have hp2:pre2=[]:=hw4.1;subst hp2;have hl2:=hF2.o.resolve_left (by simp);obtain ⟨q1,he1,hd1,hpq1,hq1,ht1⟩:=rI hw3 hl2 hp;obtain ⟨q2,he2,hd2,hpq2,hq2,ht2⟩:=rI hw4 hd1 hq1;simp only [List.length_cons,List.length_nil,Nat.zero_add,Nat.add_zero] at he1 hpq1 ht1 he2 hpq2 ht2;have HE1:=hid he1;have HT1:=hid ht1;have HE2:=hid he2;have HT2:=hid ht2;have HD2:=hid hd2;have HW5:=hid hw4.2.2.2.2;have HKB:=hid hkb;have HTW:Hid (∀ w1,Below w.heap.size w w1->bA (· < w.heap.size) w1 (Z ⟨tb,toff,Y⟩) nn c l):=hid fun w1 hb=>H.o.keep fun b hb'=>⟨hb',fun o=>aH (hb.block b hb') o⟩;have hst1:=hst.o.setAt (p+1);have hb1:Below w.heap.size w (wr.setCell ⟨w.heap.size+4,0,Y⟩ (O S ((p+1:Nat):Int))):=hbw.o.setCell (by simp) _;have HFL:Hid (aT F1=2*j):=hid (by have:=hfl.o;rwa [if_pos H12.o] at this);have hf1:aT F1<=2004:=by have:=HFL.o;omega
    have hnd1:aD (wr.setCell ⟨w.heap.size+4,0,Y⟩ (O S ((p+1:Nat):Int))) (w.heap.size+1) 40 #[O S n.op,O S n.a,O S n.b]:=hnd.o.far (by simp) _;have hcall:=rM hst1 (HTW.o _ hb1) HE1.o hpq1 aA aA 0;have HCALL:=hid hcall;have HB1:=hid hb1;have HND1:=hid hnd1;clear hkb hw2 hw3 hw4 hl2 he1 hd1 ht1 he2 hd2 ht2 hst1 hb1 hcall hwf hfl hnd1;go_wp2_with fail
    have hcast:((p:Int)+1)=((p+1:Nat):Int):=aA;rw [hcast];refine (HCALL.o).mono ?_;rintro e w3 ⟨rfl,hb3,hs3,hg3,A1',k1',A2',k2',A',hst3,hpc3⟩;have hnd3:aD w3 (w.heap.size+1) 40 #[O S n.op,O S n.a,O S n.b]:=hg3.trans HND1.o;have hb4:=HB1.o.trans hb3;have hcall2:=rM hst3 (HTW.o _ hb4) HE2.o hpq2 aA aA n.b;have HCALL2:=hid hcall2;have zn3:=hnd3.cell;have HND3:=hid hnd3;have HB4:=hid hb4;have HST3:=hid hst3;have HPC3:=hid hpc3;clear hcall2 hst3 hg3 hb3 hb4 hnd3 z2 z3 z4 zf4 zl4 zn hs3 hcast hpc3;go_wp2_with fail
    refine (HCALL2.o).mono ?_;rintro e w5 ⟨rfl,hb5,hs5,hg5,A1'',k1'',A2'',k2'',A'',hst5,hpc5⟩;have hnd5:=hg5.trans HND3.o;have hb6':=HB4.o.trans hb5;have HND5:=hid hnd5;have HB6:=hid hb6';have HST5:=hid hst5;have HPC5:=hid hpc5;clear hnd5 hb6' hst5 hpc5 hg5 hb5 zn3;go_wp2_with fail
    go_roundw
    case rel =>
     refine ⟨(F1.app (.cons [f] nd a ks .nil)).app (.cons [] nd2 a2 ks2 .nil),F4,j+1,q2,A1'',k1'',A2'',k2'',(xs1++[X A' (q1-(p+1)) (c-(p+1))])++[X A'' (q2-q1) (c-q1)],(xs2++[O S 0])++[O S n.b],hid ?_,hid ?_,by omega,by go_num,hid (.inr HD2.o),hq2,HW5,?_,HND5,HB6,hid ?_,hid ?_⟩;rotate_left 2
     · have e:aT ((F1.app (.cons [f] nd a ks .nil)).app (.cons [] nd2 a2 ks2 .nil))=aT F1+1+1:=by simp [bB,aT]
       rw [e];exact HST5
     · rw [lS,lS];refine eJ.add ?_ (eJ.add ?_ hrows.o)
       · rw [<-HT2.o];exact HPC5.o _ _ H.o
       rw [<-HT1.o];exact HPC3.o _ _ H.o
     · rw [AK,AK,hints.o];have e:aT (F1.app (.cons [f] nd a ks .nil))=2*j+1:=by have:=HFL.o;simp [bB,aT,this]
       rw [e,HFL.o];simp [aC,H12.o]
     · rw [hk.o,cM,cM];rfl
     rw [if_pos H12.o];have:=HFL.o;simp [bB,aT];omega
    case measure =>
     have:=HKB.o;simp [intOf];omega
  have c12:(n.op==12)=false:=beq_eq_false_iff_ne.2 h12;have H12:=hid h12;clear h12;have hw2:=hwf.o;rw [rZ H12.o hlt] at hw2
  match F2,hw2,hk,hF2 with
  | .cons pre nd a ks F3,hw3,hk,hF2 =>
  have hp2:pre=[]:=hw3.1;subst hp2;have hl2:=hF2.o.resolve_left (by simp);obtain ⟨q1,he1,hd1,hpq1,hq1,ht1⟩:=rI hw3 hl2 hp;simp only [List.length_nil,Nat.add_zero] at he1 hpq1 ht1;have HE1:=hid he1;have HT1:=hid ht1;have HD1:=hid hd1;have HW5:=hid hw3.2.2.2.2;have HTW:Hid (∀ w1,Below w.heap.size w w1->bA (· < w.heap.size) w1 (Z ⟨tb,toff,Y⟩) nn c l):=hid fun w1 hb=>H.o.keep fun b hb'=>⟨hb',fun o=>aH (hb.block b hb') o⟩;have hst1:=hst.o.alloc (I #[O S n.op,O S n.a,O S n.b] 40);have hb1:Below w.heap.size w (wr.alloc (I #[O S n.op,O S n.a,O S n.b] 40)):=hbw.o.alloc hbw.o.size _;have HFL:Hid (aT F1=j):=hid (by have:=hfl.o;rwa [if_neg H12.o] at this);have hf1:aT F1<=2004:=by have:=HFL.o;omega
  have hnd1:aD (wr.alloc (I #[O S n.op,O S n.a,O S n.b] 40)) (w.heap.size+1) 40 #[O S n.op,O S n.a,O S n.b]:=hnd.o.alloc _;have hcall:=rM hst1 (HTW.o _ hb1) HE1.o hpq1 aA aA (dP n.op (j:Int));have HCALL:=hid hcall;have HB1:=hid hb1;have HND1:=hid hnd1;clear hw2 hw3 hl2 he1 hd1 ht1 hst1 hb1 hcall hwf hfl hnd1;go_wp2_with (go_at_call 101;refine (pP _ _ _ _ _).mono ?_;rintro e w3 ⟨rfl,rfl⟩)
  refine (HCALL.o).mono ?_;rintro e w3 ⟨rfl,hb3,hs3,hg3,A1',k1',A2',k2',A',hst3,hpc3⟩;have hnd3:aD w3 (w.heap.size+1) 40 #[O S n.op,O S n.a,O S n.b]:=hg3.trans HND1.o;have hb4:=HB1.o.trans hb3;have HND3:=hid hnd3;have HB4:=hid hb4;have HST3:=hid hst3;have HPC3:=hid hpc3;clear hst3 hg3 hb3 hb4 hnd3 z2 z3 zn hs3 hpc3;go_wp2_with fail
  go_roundw
  case rel =>
   refine ⟨F1.app (.cons [] nd a ks .nil),F3,j+1,q1,A1',k1',A2',k2',xs1++[X A' (q1-p) (c-p)],xs2++[O S (dP n.op (j:Int))],hid ?_,hid ?_,by omega,by go_num,hid (.inr HD1.o),hq1,HW5,?_,HND3,HB4,hid ?_,hid ?_⟩;rotate_left 2
   · have e:aT (F1.app (.cons [] nd a ks .nil))=aT F1+1:=by simp [bB,aT]
     rw [e];exact HST3
   · rw [lS];refine eJ.add ?_ hrows.o;rw [<-HT1.o];exact HPC3.o _ _ H.o
   · rw [AK,hints.o,HFL.o,qY H12.o];simp
   · rw [hk.o,cM];rfl
   rw [if_neg H12.o];have:=HFL.o;simp [bB,aT];omega
  case measure=>simp [intOf];omega
end
section
open Go.RowKit
theorem LE {w:World} {base g n c:Nat} {e:TypeId} {xs:List Value} (h:w.ownsRow base e 1 (X (Z ⟨g,0,Y⟩) n c) n xs) (i:Nat) (u:Value):(w.setCell ⟨g,i,Y⟩ u).ownsRow base e 1 (X (Z ⟨g,0,Y⟩) n c) n (xs.set i u):=by
 obtain ⟨hl,hc⟩:=h;refine ⟨by simpa using hl,.inr ?_⟩;rcases hc with ⟨h1,_⟩ | ⟨g',cap,cur,hv,hg,hh,h1,h2,h3,h4⟩
 · cases h1
 injection hv with e1 e2 e3;injection e1 with e1;injection e1 with e1;subst e1 e3;refine ⟨g,c,cur.setIfInBounds i u,rfl,hg,?_,h1,h2,by simpa using h3,?_⟩
 · have hb:aD w g e cur:=hh;exact hb.set_ i u
 rw [Array.toList_setIfInBounds,List.take_set,h4]
end
end Go.Proofs.YtjllmblbbgojbaaGreat
