/- Merged: SenseS, PutP, Fold2, RvP, RefGd. -/
import Derived.Test.YtjllmblbbgojbaaGreatWSized
import Derived.Test.YtjllmblbbgojbaaGreatWSame
import Derived.Test.YtjllmblbbgojbaaGreatWKidss
import Derived.Test.YtjllmblbbgojbaaGreatWBase
import Derived.Test.YtjllmblbbgojbaaGreatWSenseM
import Derived.Test.YtjllmblbbgojbaaGreatWGuarded
import Derived.Test.YtjllmblbbgojbaaGreatWFineW
namespace Go.Proofs.YtjllmblbbgojbaaGreat
open Go.Value renaming int → O, slice → X
open Go.IntKind renaming i64 → S
open Option renaming none → Y
section
open Go.Lib (hid)
open Go.RowKit
def vV (b:Bk) (n:Nat) (fuel:Int):Bool:=decide (4000<=uT 4000 b)||decide (3000<n)||decide (500<fuel)
set_option linter.unusedSimpArgs false in
set_option linter.unusedVariables false in
set_option maxRecDepth 100000 in
set_option maxHeartbeats 8000000 in
theorem E4 {w:World} {v:aZ} {b:Bk} (hb:bM w v b) {A:Option Addr} {n c:Nat} (fuel:Int) :
 Calls Tryz.prog 6 #[.agg #[O S b.vars,X v.Ao v.no v.co,X v.Ae v.ne v.ce,O S b.nat,X v.Ap v.np v.cp],X A n c,O S fuel] w (fH (vV b n fuel) w):=by
 have hb0:=aB w (.cells #[O S b.vars,X v.Ao v.no v.co,X v.Ae v.ne v.ce,O S b.nat,X v.Ap v.np v.cp] 26);have HSZ:=hid (JK (hb.below hb0) 4000 aA);have HB0:=hid hb0;have hs0:=hb0.size;have HR:Hid (vV b n fuel=(decide (4000<=uT 4000 b)||decide (3000<n)||decide (500<fuel))):=hid rfl;generalize vV b n fuel=res at *;generalize uT 4000 b=sz at *;clear hb hb0;by_cases h1:4000<=sz
 · have d1:decide (sz ≥ 4000)=true:=decide_eq_true h1;have HZ:Hid (res=true):=hid (by rw [HR.o,decide_eq_true h1];simp);go_in;go_wp2_with fail
   refine (HSZ.o).mono ?_;rintro e w2 ⟨rfl,hb2⟩;go_wp2_with fail
   go_ret;rw [HZ.o];exact ⟨rfl,HB0.o.trans (hb2.mono hs0)⟩
 have d1:decide (sz ≥ 4000)=false:=decide_eq_false h1;by_cases h2:3000<n
 · have d2:decide ((n:Int)>3000)=true:=decide_eq_true aA;have d3:decide (n>3000)=true:=decide_eq_true h2;have d4:decide (3000<n)=true:=decide_eq_true h2;have HZ:Hid (res=true):=hid (by rw [HR.o,d4];simp);go_in;go_wp2_with fail
   refine (HSZ.o).mono ?_;rintro e w2 ⟨rfl,hb2⟩;go_wp2_with fail
   go_ret;rw [HZ.o];exact ⟨rfl,HB0.o.trans (hb2.mono hs0)⟩
 have d2:decide ((n:Int)>3000)=false:=decide_eq_false aA;have d3:decide (n>3000)=false:=decide_eq_false h2;have d4:decide (3000<n)=false:=decide_eq_false h2;have d5:decide (4000<=sz)=false:=decide_eq_false h1;have HZ:Hid (res=decide (500<fuel)):=hid (by rw [HR.o,d4,d5];simp);obtain ⟨fb,hfb⟩ : ∃ q,q=decide (500<fuel):=⟨_,rfl⟩;have d6:decide (fuel>500)=fb:=hfb.symm;have d7:decide (500<fuel)=fb:=hfb.symm;rw [d7] at HZ;clear hfb;go_in;go_wp2_with fail
 refine (HSZ.o).mono ?_;rintro e w2 ⟨rfl,hb2⟩;go_wp2_with fail
 go_ret;rw [HZ.o];exact ⟨rfl,HB0.o.trans (hb2.mono hs0)⟩
end
section
open Go.RowKit
structure Tr where
 n:Nd
 a:List Nd
 k:Fo
def i9 (t:Tr) (n:Nd) (v d:Int):Nd:=if n.op=1 then (if n.a=v then jB d t.n 0 else if v<n.a then ⟨1,n.a-1,0⟩ else n) else n
def o6 (t:Tr) (n:Nd) (a:List Nd) (v _d:Int):List Nd:=if n.op=1 then (if n.a=v then pE t.n t.a 0 else if v<n.a then [] else a) else a
def nX (t:Tr) (pop pb:Int):Nat->Int->Int->Fo->Fo
 | _,_,_,.nil=>.nil
 | j,v,d,.cons p n a k x=>.cons p (i9 t n (v+aC pop pb j) (d+aC pop pb j)) (o6 t n a (v+aC pop pb j) (d+aC pop pb j))
  (if n.op=1 then (if n.a=v+aC pop pb j then pF (d+aC pop pb j) t.n t.k 0 else if v+aC pop pb j<n.a then .nil else k) else nX t n.op n.b 0 (v+aC pop pb j) (d+aC pop pb j) k) (nX t pop pb (j+1) v d x)
def qE (t:Tr) (n:Nd) (k:Fo) (v d:Int):Fo:=if n.op=1 then (if n.a=v then pF d t.n t.k 0 else if v<n.a then .nil else k) else nX t n.op n.b 0 v d k
theorem iO (t:Tr) (pop pb:Int) (j:Nat) (v d:Int) (p:List Nd) (n:Nd) (a:List Nd) (k x:Fo):nX t pop pb j v d (.cons p n a k x)=.cons p (i9 t n (v+aC pop pb j) (d+aC pop pb j)) (o6 t n a (v+aC pop pb j) (d+aC pop pb j)) (qE t n k (v+aC pop pb j) (d+aC pop pb j)) (nX t pop pb (j+1) v d x):=rfl
theorem tX (t:Tr) (pop pb:Int) : ∀ (j:Nat) (v d:Int) (F:Fo),aT (nX t pop pb j v d F)=aT F
 | _,_,_,.nil=>rfl
 | j,v,d,.cons p n a k x=>by rw [iO];simp only [aT,tX t pop pb (j+1) v d x]
theorem rR (t:Tr) (pop pb:Int) : ∀ (j:Nat) (v d:Int) (F:Fo),bO (nX t pop pb j v d F)=bO F
 | _,_,_,.nil=>rfl
 | j,v,d,.cons p n a k x=>by rw [iO];simp only [bO,rR t pop pb (j+1) v d x]
theorem zD (t:Tr) (pop pb:Int) : ∀ (j:Nat) (v d:Int) (F G:Fo),nX t pop pb j v d (F.app G)=(nX t pop pb j v d F).app (nX t pop pb (j+aT F) v d G)
 | _,_,_,.nil,G=>by simp [Fo.app,nX,aT]
 | j,v,d,.cons p n a k x,G=>by
  have:=zD t pop pb (j+1) v d x G;rw [show (Fo.cons p n a k x).app G=.cons p n a k (x.app G) from rfl,iO,iO,this];simp only [Fo.app,aT];rw [show j+1+aT x=j+(aT x+1) from by omega]
end
section
theorem wW (pop pb:Int) (ha:∀ k:Int,0<=aC pop pb k/\aC pop pb k<=4) : ∀ (j:Nat) (v:Int) (F:Fo),cL F->0<=(qS pop pb j v F).1/\(qS pop pb j v F).1<=aL F/\0<=(qS pop pb j v F).2/\(qS pop pb j v F).2<=4*aL F
 | _,_,.nil,_=>by simp [qS,aL]
 | j,v,.cons p n a k x,h=>by
  obtain ⟨h1,h2,h3⟩:=h;have hk:=wW n.op n.b (fun i=>cV h1 i) 0 (v+aC pop pb j) k h2;have hx:=wW pop pb ha (j+1) v x h3;obtain ⟨a1,a2⟩:=ha j;have hq:0<=(fS n k (v+aC pop pb j)).1/\(fS n k (v+aC pop pb j)).1<=aL k+1/\0<=(fS n k (v+aC pop pb j)).2/\(fS n k (v+aC pop pb j)).2<=4*aL k:=by
   simp only [fS];split
   · split<;>(simp only;omega)
   omega
  rw [jX];simp only [aL];refine ⟨by omega,by omega,?_,?_⟩<;>split<;>omega
theorem CW {n:Nd} (h:dG n=true) (j:Nat) (v:Int) (F:Fo) (hF:cL F):0<=(qS n.op n.b j v F).1/\(qS n.op n.b j v F).1<=aL F/\0<=(qS n.op n.b j v F).2/\(qS n.op n.b j v F).2<=4*aL F :=
 wW n.op n.b (fun i=>cV h i) j v F hF
theorem EA {n:Nd} (h:dG n=true) (v:Int) (F:Fo) (hF:cL F):0<=(fS n F v).1/\(fS n F v).1<=aL F+1/\0<=(fS n F v).2/\(fS n F v).2<=4*aL F:=by
 have:=CW h 0 v F hF;simp only [fS];split
 · split<;>(simp only;omega)
 omega
end
section
open Go.RowKit
theorem kJ.vk {x:TT} (h:kJ x):Vk x.2.2:=oB _ _ h.wf
theorem sR:∀ (F:Fo),Vk F->cL F
 | .nil,_=>trivial
 | .cons _ _ _ k x,h=>⟨h.1,sR k h.2.2.1,sR x h.2.2.2⟩
theorem kJ.all {x:TT} (h:kJ x):cL x.2.2:=sR _ h.vk
theorem kJ.leaf {x:TT} (h:kJ x) (h1:x.1.op=1):x.2.1=[]/\x.2.2=.nil:=xD h.at_ h.wf h1
theorem JZ {u:TT} (hu:kJ u) (d:Int):(jB d u.1 0,pE u.1 u.2.1 0,pF d u.1 u.2.2 0)=AC u d:=by
 have h:=zF (up:=d) (fr:=0) (a:=0) hu.ok hu.leaf (CC d 0 u.1.op u.1.b 0 0 u.2.2 hu.vk);simp only [Int.add_zero] at h;rw [h.1,h.2.1,h.2.2];rfl
theorem y9 {u:TT} (hu:kJ u) {a:Int} {n:Nd} {ats:List Nd} {k:Fo} (hok:dG n=true) (h1:n.op=1->ats=[]/\k=.nil) (ih:nX ⟨u.1,u.2.1,u.2.2⟩ n.op n.b 0 a a k=tJ (pX u) n.op n.b 0 a k) :
 (i9 ⟨u.1,u.2.1,u.2.2⟩ n a a,o6 ⟨u.1,u.2.1,u.2.2⟩ n ats a a,qE ⟨u.1,u.2.1,u.2.2⟩ n k a a)=xI (pX u) a (n,ats,k):=by
 by_cases h:n.op=1
 · have hb:=J0 hok h;obtain ⟨e1,e2⟩:=h1 h;subst e1 e2;rw [lW h];unfold i9 o6 qE pX;simp only [if_pos h];by_cases h2:n.a=a
   · simp only [if_pos h2];exact JZ hu a
   simp only [if_neg h2];by_cases h3:a<n.a
   · simp only [if_pos h3];rw [h,hb.2.2]
   simp only [if_neg h3]
 rw [iP h];unfold i9 o6 qE;simp only [if_neg h,ih]
theorem wE {u:TT} (hu:kJ u) (pop pb:Int) : ∀ (j:Nat) (a:Int) (F:Fo),Vk F->nX ⟨u.1,u.2.1,u.2.2⟩ pop pb j a a F=tJ (pX u) pop pb j a F
 | _,_,.nil,_=>rfl
 | j,a,.cons p n ats k x,h=>by
  have h1:=y9 hu (a:=a+aC pop pb j) h.1 h.2.1 (wE hu n.op n.b 0 _ k h.2.2.1);have h2:=wE hu pop pb (j+1) a x h.2.2.2;rw [iO,i5,h2,<-h1]
theorem MW {x u:TT} (hx:kJ x) (hu:kJ u):(i9 ⟨u.1,u.2.1,u.2.2⟩ x.1 0 0,o6 ⟨u.1,u.2.1,u.2.2⟩ x.1 x.2.1 0 0,qE ⟨u.1,u.2.1,u.2.2⟩ x.1 x.2.2 0 0)=xI (pX u) 0 x :=
 y9 hu hx.ok hx.leaf (wE hu _ _ 0 0 _ hx.vk)
theorem EB {v a:Int} {n:Nd} {k:Fo} (h1:n.op=1->k=.nil) (ih:(qS n.op n.b 0 (v+a) k).1=s8 v n.op n.b 0 a k):(fS n k (v+a)).1=(if n.op=1/\n.a-a=v then 1 else 0)+s8 v n.op n.b 0 a k:=by
 unfold fS;by_cases h:n.op=1
 · rw [if_pos h,h1 h];by_cases h2:n.a=v+a
   · rw [if_pos h2,if_pos ⟨h,by omega⟩];rfl
   rw [if_neg h2,if_neg aA];rfl
 rw [if_neg h,ih,if_neg (fun q=>h q.1),Int.zero_add]
theorem CX (v:Int) (pop pb:Int) : ∀ (j:Nat) (a:Int) (F:Fo),Vk F->(qS pop pb j (v+a) F).1=s8 v pop pb j a F
 | _,_,.nil,_=>rfl
 | j,a,.cons p n ats k x,h=>by
  have h1:=EB (v:=v) (a:=a+aC pop pb j) (n:=n) (k:=k) (fun q=>(h.2.1 q).2) (CX v n.op n.b 0 _ k h.2.2.1);have h2:=CX v pop pb (j+1) a x h.2.2.2;rw [jX];simp only;rw [Int.add_assoc,h1,h2];rfl
theorem JV {x:TT} (h:kJ x):(fS x.1 x.2.2 0).1=mN 0 x.1 x.2.2:=by
 have h1:=EB (v:=0) (a:=0) (n:=x.1) (k:=x.2.2) (fun q=>(h.leaf q).2) (CX 0 x.1.op x.1.b 0 0 x.2.2 h.vk);simp only [Int.add_zero,Int.sub_zero] at h1;rw [h1];rfl
theorem vW {up free M:Int} (hM : -1<=M) (pop pb:Int) (hpa:∀ k:Int,0<=aC pop pb k/\aC pop pb k<=4) : ∀ (j:Nat) (a:Int) (F:Fo),Vk F->lZ (fun v z=>decide (free<=v-z)) pop pb j a F=false->a+4*aL F+free+up<=M->IH pop pb up j a F<=M
 | _,_,.nil,_,_,_=>hM
 | j,a,.cons p n ats k x,h,h0,hb=>by
  rw [eF,Bool.or_eq_false_iff] at h0;obtain ⟨t1,t2⟩:=j6 h0.1;have hp:=hpa j;have hs:aL (Fo.cons p n ats k x)=aL k+aL x+1:=rfl;have i1:=vW (up:=up) hM n.op n.b (fun i=>cV h.1 i) 0 (a+aC pop pb j) k h.2.2.1 t2 aA;have i2:=vW (up:=up) hM pop pb hpa (j+1) a x h.2.2.2 h0.2 aA;rw [rH];refine Int.max_le.2 ⟨?_,i2⟩;unfold nQ;split
  · rename_i h1
    have:=t1 h1;rw [decide_eq_false_iff_not] at this;split<;>omega
  · exact i1
theorem yK {b:Bk} {free:Int} {x:TT} (h:bR b free x) {up:Int} (h1:free+up<=1000000):nQ up x.1 x.2.2 0<=1048576:=by
 obtain ⟨t1,t2⟩:=j6 h.low;have hs:aL x.2.2<=4096:=by
  have h2:=eG x.2.2;have h3:=h.few;have h4:=dJ x.1 x.2.1 x.2.2;have h5:bU x=bU (x.1,x.2.1,x.2.2):=rfl;omega
 unfold nQ;split
 · rename_i hv
   have:=t1 hv;rw [decide_eq_false_iff_not] at this;split<;>omega
 exact vW aA _ _ (fun i=>cV h.okt.ok i) 0 0 _ h.okt.vk t2 aA
end
section
section
open Go.RowKit
structure fZ where
 Ak:Option Addr
 nk:Nat
 ck:Nat
 Aa:Option Addr
 na:Nat
 ca:Nat
 Af:Option Addr
 nf:Nat
 cf:Nat
def AI (w:World) (t:fZ) (x:TT):Prop:=bP (· < w.heap.size) w [O S x.1.op,O S x.1.a,O S x.1.b,X t.Ak t.nk t.ck,X t.Aa t.na t.ca,X t.Af t.nf t.cf] x.1 x.2.1 x.2.2
theorem AI.below {w w':World} {t:fZ} {x:TT} (h:AI w t x) (hb:Below w.heap.size w w'):AI w' t x :=
 bP.keep h fun b hb2=>⟨Nat.lt_of_lt_of_le hb2 hb.size,fun o=>hb.cell (p:=⟨b,o,Y⟩) hb2⟩
theorem AI.kids {w:World} {t:fZ} {x:TT} (h:AI w t x):dR (· < w.heap.size) w t.Ak t.nk t.ck x.2.2:=by
 obtain ⟨sk,sa,sf,he,⟨A,n,c,rfl,hk⟩,_,_⟩:=h;simp only [List.cons.injEq,Value.slice.injEq,true_and,and_true] at he;obtain ⟨⟨rfl,rfl,rfl⟩,_,_⟩:=he;exact hk
theorem AI.atoms {w:World} {t:fZ} {x:TT} (h:AI w t x):bA (· < w.heap.size) w t.Aa t.na t.ca x.2.1:=by
 obtain ⟨sk,sa,sf,he,_,⟨A,n,c,rfl,hk⟩,_⟩:=h;simp only [List.cons.injEq,Value.slice.injEq,true_and,and_true] at he;obtain ⟨_,⟨rfl,rfl,rfl⟩,_⟩:=he;exact hk
theorem AI.funs {w:World} {t:fZ} {x:TT} (h:AI w t x):bA (· < w.heap.size) w t.Af t.nf t.cf (bO x.2.2):=by
 obtain ⟨sk,sa,sf,he,_,_,⟨A,n,c,rfl,hk⟩⟩:=h;simp only [List.cons.injEq,Value.slice.injEq,true_and,and_true] at he;obtain ⟨_,_,⟨rfl,rfl,rfl⟩⟩:=he;exact hk
abbrev NZ:TT:=(default,[],.nil)
def cT (F:Fo) (j:Nat):TT:=(cD F).getD j NZ
structure EH (w:World) (b o:Nat) (t:fZ) (n:Nd):Prop where
 c0:w.cell? ⟨b,o,Y⟩=some (O S n.op)
 c1:w.cell? ⟨b,o+1,Y⟩=some (O S n.a)
 c2:w.cell? ⟨b,o+2,Y⟩=some (O S n.b)
 c3:w.cell? ⟨b,o+3,Y⟩=some (X t.Ak t.nk t.ck)
 c4:w.cell? ⟨b,o+4,Y⟩=some (X t.Aa t.na t.ca)
 c5:w.cell? ⟨b,o+5,Y⟩=some (X t.Af t.nf t.cf)
theorem EH.below {w w':World} {B b o:Nat} {t:fZ} {n:Nd} (h:EH w b o t n) (hb:Below B w w') (hlt:b<B):EH w' b o t n :=
 ⟨(hb.cell (p:=⟨b,o,Y⟩) hlt).trans h.c0,(hb.cell (p:=⟨b,o+1,Y⟩) hlt).trans h.c1,(hb.cell (p:=⟨b,o+2,Y⟩) hlt).trans h.c2,(hb.cell (p:=⟨b,o+3,Y⟩) hlt).trans h.c3,(hb.cell (p:=⟨b,o+4,Y⟩) hlt).trans h.c4,(hb.cell (p:=⟨b,o+5,Y⟩) hlt).trans h.c5⟩
theorem oO:∀ (F:Fo),(cD F).length=aT F
 | .nil=>rfl
 | .cons _ n a k x=>by simp only [cD,List.length_cons,aT,oO x]
theorem qF.nth_ {R:Nat->Prop} {w:World} : ∀ (F:Fo) (b off j:Nat),qF R w F b off->j<aT F->∃ t:fZ,EH w b (off+j*6) t (cT F j).1/\bP R w [O S (cT F j).1.op,O S (cT F j).1.a,O S (cT F j).1.b,X t.Ak t.nk t.ck,X t.Aa t.na t.ca,X t.Af t.nf t.cf] (cT F j).1 (cT F j).2.1 (cT F j).2.2
 | .nil,_,_,_,_,h=>absurd h (Nat.not_lt_zero _)
 | .cons p n a k x,b,off,0,h,_=>by
  obtain ⟨⟨h0,h1,h2⟩,⟨A',c',h3,h3b,h3c⟩,⟨v,h4,⟨Av,nv,cv,rfl,h4b⟩⟩,⟨u,h5,⟨Au,nu,cu,rfl,h5b⟩⟩,_⟩:=h;refine ⟨⟨A',aT k,c',Av,nv,cv,Au,nu,cu⟩,⟨?_,?_,?_,?_,?_,?_⟩,⟨_,_,_,rfl,⟨A',_,c',rfl,⟨rfl,h3b,h3c⟩⟩,⟨_,_,_,rfl,h4b⟩,⟨_,_,_,rfl,h5b⟩⟩⟩;all_goals rw [Nat.zero_mul,Nat.add_zero]
  all_goals assumption
 | .cons p n a k x,b,off,j+1,h,hj=>by
  obtain ⟨_,_,_,_,h5⟩:=h;obtain ⟨t,h6,h7⟩:=qF.nth_ x b (off+6) j h5 (by simpa [aT] using hj);rw [show off+6+j*6=off+(j+1)*6 from by omega] at h6;exact ⟨t,h6,h7⟩
theorem dR.nth_ {w:World} {A:Option Addr} {n c:Nat} {F:Fo} (h:dR (· < w.heap.size) w A n c F) {j:Nat} (hj:j<n) : ∃ b o t,A=some ⟨b,o,Y⟩/\b<w.heap.size/\EH w b (o+j*6) t (cT F j).1/\AI w t (cT F j):=by
 obtain ⟨b,off,e,hr,hf⟩:=h.mem aA;obtain ⟨t,h1,h2⟩:=qF.nth_ F b off j hf (by rw [h.len];exact hj);exact ⟨b,off,t,e,hr,h1,h2⟩
theorem AI.kid {w:World} {t:fZ} {x:TT} (h:AI w t x) {j:Nat} (hj:j<t.nk) : ∃ b o t',t.Ak=some ⟨b,o,Y⟩/\b<w.heap.size/\EH w b (o+j*6) t' (cT x.2.2 j).1/\AI w t' (cT x.2.2 j):=h.kids.nth_ hj
theorem AI.nk {w:World} {t:fZ} {x:TT} (h:AI w t x):t.nk=(cD x.2.2).length:=by rw [oO,h.kids.len]
abbrev dE (t:fZ) (n:Nd):Array Value:=#[O S n.op,O S n.a,O S n.b,X t.Ak t.nk t.ck,X t.Aa t.na t.ca,X t.Af t.nf t.cf]
theorem aW {w:World} {g:Nat} {a0 a1 a2 a3 a4 a5:Value} (h:aD w g 49 #[a0,a1,a2,a3,a4,a5]) (x0 x1 x2 x3 x4 x5:Value):aD ((((((w.setCell ⟨g,0,Y⟩ x0).setCell ⟨g,1,Y⟩ x1).setCell ⟨g,2,Y⟩ x2).setCell ⟨g,3,Y⟩ x3).setCell ⟨g,4,Y⟩ x4).setCell ⟨g,5,Y⟩ x5) g 49 #[x0,x1,x2,x3,x4,x5]:=by
 have:=(((((h.set_ 0 x0).set_ 1 x1).set_ 2 x2).set_ 3 x3).set_ 4 x4).set_ 5 x5;simpa using this
theorem cW (w:World) (g:Nat) (x0 x1 x2 x3 x4 x5:Value):w.grownBy ((((((w.setCell ⟨g,0,Y⟩ x0).setCell ⟨g,1,Y⟩ x1).setCell ⟨g,2,Y⟩ x2).setCell ⟨g,3,Y⟩ x3).setCell ⟨g,4,Y⟩ x4).setCell ⟨g,5,Y⟩ x5) (some g) :=
 (((((bN _ g 0 x0).trans (bN _ g 1 x1)).trans (bN _ g 2 x2)).trans (bN _ g 3 x3)).trans (bN _ g 4 x4)).trans (bN _ g 5 x5)
end
section
open Go.RowKit
end
section
open Go.RowKit
theorem MY {n n1 n2:Nd} {a a1 a2:List Nd} {k1 k2:Fo}:bU (n1,a1,k1)<bU (n,a,.cons [] n1 a1 k1 (.cons [] n2 a2 k2 .nil))/\bU (n2,a2,k2)<bU (n,a,.cons [] n1 a1 k1 (.cons [] n2 a2 k2 .nil)):=by
 have h0:=dJ n a (Fo.cons [] n1 a1 k1 (Fo.cons [] n2 a2 k2 Fo.nil));rw [fC,fC] at h0;simp only [List.length_nil] at h0;omega
end
end
end Go.Proofs.YtjllmblbbgojbaaGreat
