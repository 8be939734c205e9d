/- Merged: SenseS, PutP, Fold2, RvP, RefGd. -/
import Derived.Test.YtjllmblbbgojbaaGreatXSized
import Derived.Test.YtjllmblbbgojbaaGreatXSame
namespace Go.Proofs.YtjllmblbbgojbaaGreat
set_option linter.unusedVariables false
set_option linter.unusedSimpArgs false
open Go.RowKit
open Go.Value renaming int → O, slice → X
open Go.IntKind renaming i64 → S
open Option renaming none → Y
section
open Go.Lib renaming hid->aB
def pO (b:Bk) (n:Nat) (fuel:Int):Bool:=decide (4000<=qU 4000 b)||decide (3000<n)||decide (500<fuel)
set_option maxRecDepth 100000 in
set_option maxHeartbeats 8000000 in
theorem GV {w:World} {v:bN} {b:Bk} (hb:bV w v b) {A:Option Addr} {n c:Nat} (fuel:Int) :
 Calls Tryz.prog 6 #[.agg #[O S b.vars,X v.Ao v.no v.co,X v.Ae v.ne v.ce,O S b.nat,X v.Ap v.np v.cp],X A n c,O S fuel] w (fP (pO b n fuel) w):=by
 have hb0:=aP w (.cells #[O S b.vars,X v.Ao v.no v.co,X v.Ae v.ne v.ce,O S b.nat,X v.Ap v.np v.cp] 26);have HSZ:=aB (LQ (hb.below hb0) 4000 aA);have HB0:=aB hb0;have hs0:=hb0.size;have HR:Hid (pO b n fuel=(decide (4000<=qU 4000 b)||decide (3000<n)||decide (500<fuel))):=aB rfl;generalize pO b n fuel=res at *;generalize qU 4000 b=sz at *;clear hb hb0;by_cases h1:4000<=sz
 · have d1:decide (sz ≥ 4000)=true:=decide_eq_true h1;have HZ:Hid (res=true):=aB (by rw[HR.o,decide_eq_true h1];simp);go_in;go_wp2_with fail;refine (HSZ.o).mono ?_;rintro e w2 ⟨rfl,hb2⟩;go_wp2_with fail;go_ret;rw[HZ.o];exact⟨rfl,HB0.o.trans (hb2.mono hs0)⟩
 have d1:decide (sz ≥ 4000)=false:=decide_eq_false h1;by_cases h2:3000<n
 · have d2:decide ((n:Int)>3000)=true:=decide_eq_true aA;have d4:decide (3000<n)=true:=decide_eq_true h2;have HZ:Hid (res=true):=aB (by rw[HR.o,d4];simp);go_in;go_wp2_with fail;refine (HSZ.o).mono ?_;rintro e w2 ⟨rfl,hb2⟩;go_wp2_with fail;go_ret;rw[HZ.o];exact⟨rfl,HB0.o.trans (hb2.mono hs0)⟩
 have d2:decide ((n:Int)>3000)=false:=decide_eq_false aA;have d4:decide (3000<n)=false:=decide_eq_false h2;have d5:decide (4000<=sz)=false:=decide_eq_false h1;have HZ:Hid (res=decide (500<fuel)):=aB (by rw[HR.o,d4,d5];simp);obtain⟨fb,hfb⟩ : ∃q,q=decide (500<fuel):=⟨_,rfl⟩;have d6:decide (fuel>500)=fb:=hfb.symm;have d7:decide (500<fuel)=fb:=hfb.symm;rw[d7] at HZ;clear hfb;go_in;go_wp2_with fail;refine (HSZ.o).mono ?_;rintro e w2 ⟨rfl,hb2⟩;go_wp2_with fail;go_ret;rw[HZ.o];exact⟨rfl,HB0.o.trans (hb2.mono hs0)⟩
end
structure Tr where
 n:Nd
 a:List Nd
 k:Fo
def jY (t:Tr) (n:Nd) (v d:Int):Nd:=if n.op=1 then (if n.a=v then jZ d t.n 0 else if v<n.a then ⟨1,n.a-1,0⟩ else n) else n
def pX (t:Tr) (n:Nd) (a:List Nd) (v _d:Int):List Nd:=if n.op=1 then (if n.a=v then pY t.n t.a 0 else if v<n.a then [] else a) else a
def oW (t:Tr) (pop pb:Int):Nat->Int->Int->Fo->Fo
 | _,_,_,.nil=>.nil
 | j,v,d,.cons p n a k x=>.cons p (jY t n (v+aQ pop pb j) (d+aQ pop pb j)) (pX t n a (v+aQ pop pb j) (d+aQ pop pb j))
  (if n.op=1 then (if n.a=v+aQ pop pb j then pZ (d+aQ pop pb j) t.n t.k 0 else if v+aQ pop pb j<n.a then .nil else k) else oW t n.op n.b 0 (v+aQ pop pb j) (d+aQ pop pb j) k) (oW t pop pb (j+1) v d x)
def q9 (t:Tr) (n:Nd) (k:Fo) (v d:Int):Fo:=if n.op=1 then (if n.a=v then pZ d t.n t.k 0 else if v<n.a then .nil else k) else oW t n.op n.b 0 v d k
theorem jF (t:Tr) (pop pb:Int) (j:Nat) (v d:Int) (p:List Nd) (n:Nd) (a:List Nd) (k x:Fo):oW t pop pb j v d (.cons p n a k x)=.cons p (jY t n (v+aQ pop pb j) (d+aQ pop pb j)) (pX t n a (v+aQ pop pb j) (d+aQ pop pb j)) (q9 t n k (v+aQ pop pb j) (d+aQ pop pb j)) (oW t pop pb (j+1) v d x):=rfl
theorem vH (t:Tr) (pop pb:Int) : ∀(j:Nat) (v d:Int) (F:Fo),bH (oW t pop pb j v d F)=bH F
 | _,_,_,.nil=>rfl
 | j,v,d,.cons p n a k x=>by rw[jF];simp only[bH,vH t pop pb (j+1) v d x]
theorem sR (t:Tr) (pop pb:Int) : ∀(j:Nat) (v d:Int) (F:Fo),cH (oW t pop pb j v d F)=cH F
 | _,_,_,.nil=>rfl
 | j,v,d,.cons p n a k x=>by rw[jF];simp only[cH,sR t pop pb (j+1) v d x]
theorem AL (t:Tr) (pop pb:Int) : ∀(j:Nat) (v d:Int) (F G:Fo),oW t pop pb j v d (F.app G)=(oW t pop pb j v d F).app (oW t pop pb (j+bH F) v d G)
 | _,_,_,.nil,G=>by simp[Fo.app,oW,bH]
 | j,v,d,.cons p n a k x,G=>by
  have:=AL t pop pb (j+1) v d x G;rw[show (Fo.cons p n a k x).app G=.cons p n a k (x.app G) from rfl,jF,jF,this];simp only[Fo.app,bH];rw[show j+1+bH x=j+(bH x+1) from by omega]
theorem yI (pop pb:Int) (ha:∀k:Int,0<=aQ pop pb k/\aQ pop pb k<=4) : ∀(j:Nat) (v:Int) (F:Fo),dD F->0<=(rN pop pb j v F).1/\(rN pop pb j v F).1<=a7 F/\0<=(rN pop pb j v F).2/\(rN pop pb j v F).2<=4*a7 F
 | _,_,.nil,_=>by simp[rN,a7]
 | j,v,.cons p n a k x,h=>by
  obtain⟨h1,h2,h3⟩:=h;have hk:=yI n.op n.b (fun i=>dW h1 i) 0 (v+aQ pop pb j) k h2;have hx:=yI pop pb ha (j+1) v x h3;obtain⟨a1,a2⟩:=ha j;have hq:0<=(gS n k (v+aQ pop pb j)).1/\(gS n k (v+aQ pop pb j)).1<=a7 k+1/\0<=(gS n k (v+aQ pop pb j)).2/\(gS n k (v+aQ pop pb j)).2<=4*a7 k:=by
   simp only[gS];split
   · split<;>(simp only;omega)
   omega
  rw[kO];simp only[a7];refine⟨by omega,by omega,?_,?_⟩<;>split<;>omega
theorem EA {n:Nd} (h:eE n=true) (j:Nat) (v:Int) (F:Fo) (hF:dD F):0<=(rN n.op n.b j v F).1/\(rN n.op n.b j v F).1<=a7 F/\0<=(rN n.op n.b j v F).2/\(rN n.op n.b j v F).2<=4*a7 F :=
 yI n.op n.b (fun i=>dW h i) j v F hF
theorem FV {n:Nd} (h:eE n=true) (v:Int) (F:Fo) (hF:dD F):0<=(gS n F v).1/\(gS n F v).1<=a7 F+1/\0<=(gS n F v).2/\(gS n F v).2<=4*a7 F:=by
 have:=EA h 0 v F hF;simp only[gS];split
 · split<;>(simp only;omega)
 omega
theorem mW.vk {x:TT} (h:mW x):Vk x.2.2:=o4 _ _ h.wf
theorem tO:∀(F:Fo),Vk F->dD F
 | .nil,_=>trivial
 | .cons _ _ _ k x,h=>⟨h.1,tO k h.2.2.1,tO x h.2.2.2⟩
theorem mW.all {x:TT} (h:mW x):dD x.2.2:=tO _ h.vk
theorem mW.leaf {x:TT} (h:mW x) (h1:x.1.op=1):x.2.1=[]/\x.2.2=.nil:=yL h.at_ h.wf h1
theorem L4 {u:TT} (hu:mW u) (d:Int):(jZ d u.1 0,pY u.1 u.2.1 0,pZ d u.1 u.2.2 0)=BN u d:=by
 have h:=AO (up:=d) (fr:=0) (a:=0) hu.ok hu.leaf (DM d 0 u.1.op u.1.b 0 0 u.2.2 hu.vk);simp only[Int.add_zero] at h;rw[h.1,h.2.1,h.2.2];rfl
theorem AK {u:TT} (hu:mW u) {a:Int} {n:Nd} {ats:List Nd} {k:Fo} (hok:eE n=true) (h1:n.op=1->ats=[]/\k=.nil) (ih:oW ⟨u.1,u.2.1,u.2.2⟩ n.op n.b 0 a a k=uP (qW u) n.op n.b 0 a k) :
 (jY ⟨u.1,u.2.1,u.2.2⟩ n a a,pX ⟨u.1,u.2.1,u.2.2⟩ n ats a a,q9 ⟨u.1,u.2.1,u.2.2⟩ n k a a)=yP (qW u) a (n,ats,k):=by
 by_cases h:n.op=1
 · have hb:=L5 hok h;obtain⟨e1,e2⟩:=h1 h;subst e1 e2;rw[mU h];unfold jY pX q9 qW;simp only[if_pos h];by_cases h2:n.a=a
   · simp only[if_pos h2];exact L4 hu a
   simp only[if_neg h2];by_cases h3:a<n.a
   · simp only[if_pos h3];rw[h,hb.2.2]
   simp only[if_neg h3]
 rw[jG h];unfold jY pX q9;simp only[if_neg h,ih]
theorem xU {u:TT} (hu:mW u) (pop pb:Int) : ∀(j:Nat) (a:Int) (F:Fo),Vk F->oW ⟨u.1,u.2.1,u.2.2⟩ pop pb j a a F=uP (qW u) pop pb j a F
 | _,_,.nil,_=>rfl
 | j,a,.cons p n ats k x,h=>by
  have h1:=AK hu (a:=a+aQ pop pb j) h.1 h.2.1 (xU hu n.op n.b 0 _ k h.2.2.1);have h2:=xU hu pop pb (j+1) a x h.2.2.2;rw[jF,jU,h2,<-h1]
theorem OW {x u:TT} (hx:mW x) (hu:mW u):(jY ⟨u.1,u.2.1,u.2.2⟩ x.1 0 0,pX ⟨u.1,u.2.1,u.2.2⟩ x.1 x.2.1 0 0,q9 ⟨u.1,u.2.1,u.2.2⟩ x.1 x.2.2 0 0)=yP (qW u) 0 x :=
 AK hu hx.ok hx.leaf (xU hu _ _ 0 0 _ hx.vk)
theorem FW {v a:Int} {n:Nd} {k:Fo} (h1:n.op=1->k=.nil) (ih:(rN n.op n.b 0 (v+a) k).1=wZ v n.op n.b 0 a k):(gS n k (v+a)).1=(if n.op=1/\n.a-a=v then 1 else 0)+wZ v n.op n.b 0 a k:=by
 unfold gS;by_cases h:n.op=1
 · rw[if_pos h,h1 h];by_cases h2:n.a=v+a
   · rw[if_pos h2,if_pos ⟨h,by omega⟩];rfl
   rw[if_neg h2,if_neg aA];rfl
 rw[if_neg h,ih,if_neg (fun q=>h q.1),Int.zero_add]
theorem EB (v:Int) (pop pb:Int) : ∀(j:Nat) (a:Int) (F:Fo),Vk F->(rN pop pb j (v+a) F).1=wZ v pop pb j a F
 | _,_,.nil,_=>rfl
 | j,a,.cons p n ats k x,h=>by
  have h1:=FW (v:=v) (a:=a+aQ pop pb j) (n:=n) (k:=k) (fun q=>(h.2.1 q).2) (EB v n.op n.b 0 _ k h.2.2.1);have h2:=EB v pop pb (j+1) a x h.2.2.2;rw[kO];simp only;rw[Int.add_assoc,h1,h2];rfl
theorem L1 {x:TT} (h:mW x):(gS x.1 x.2.2 0).1=oD 0 x.1 x.2.2:=by
 have h1:=FW (v:=0) (a:=0) (n:=x.1) (k:=x.2.2) (fun q=>(h.leaf q).2) (EB 0 x.1.op x.1.b 0 0 x.2.2 h.vk);simp only[Int.add_zero,Int.sub_zero] at h1;rw[h1];rfl
theorem xL {up free M:Int} (hM : -1<=M) (pop pb:Int) (hpa:∀k:Int,0<=aQ pop pb k/\aQ pop pb k<=4) : ∀(j:Nat) (a:Int) (F:Fo),Vk F->oF (fun v z=>decide (free<=v-z)) pop pb j a F=false->a+4*a7 F+free+up<=M->KC pop pb up j a F<=M
 | _,_,.nil,_,_,_=>hM
 | j,a,.cons p n ats k x,h,h0,hb=>by
  rw[fB,Bool.or_eq_false_iff] at h0;obtain⟨t1,t2⟩:=kV h0.1;have hp:=hpa j;have hs:a7 (Fo.cons p n ats k x)=a7 k+a7 x+1:=rfl;have i1:=xL (up:=up) hM n.op n.b (fun i=>dW h.1 i) 0 (a+aQ pop pb j) k h.2.2.1 t2 aA;have i2:=xL (up:=up) hM pop pb hpa (j+1) a x h.2.2.2 h0.2 aA;rw[sH];refine Int.max_le.2 ⟨?_,i2⟩;unfold oP;split
  · rename_i h1
    have:=t1 h1;rw[decide_eq_false_iff_not] at this;split<;>omega
  · exact i1
theorem zU {b:Bk} {free:Int} {x:TT} (h:cM b free x) {up:Int} (h1:free+up<=1000000):oP up x.1 x.2.2 0<=1048576:=by
 obtain⟨t1,t2⟩:=kV h.low;have hs:a7 x.2.2<=4096:=by
  have h2:=fD x.2.2;have h3:=h.few;have h4:=eI x.1 x.2.1 x.2.2;have h5:cL x=cL (x.1,x.2.1,x.2.2):=rfl;omega
 unfold oP;split
 · rename_i hv
   have:=t1 hv;rw[decide_eq_false_iff_not] at this;split<;>omega
 exact xL aA _ _ (fun i=>dW h.okt.ok i) 0 0 _ h.okt.vk t2 aA
section
structure iL where
 Ak:Option Addr
 nk:Nat
 ck:Nat
 Aa:Option Addr
 na:Nat
 ca:Nat
 Af:Option Addr
 nf:Nat
 cf:Nat
abbrev P6:TT:=(default,[],.nil)
def dY (F:Fo) (j:Nat):TT:=(cW F).getD j P6
structure I9 (w:World) (b o:Nat) (t:iL) (n:Nd):Prop where
 c0:w.cell? ⟨b,o,Y⟩=some (O S n.op)
 c1:w.cell? ⟨b,o+1,Y⟩=some (O S n.a)
 c2:w.cell? ⟨b,o+2,Y⟩=some (O S n.b)
 c3:w.cell? ⟨b,o+3,Y⟩=some (X t.Ak t.nk t.ck)
 c4:w.cell? ⟨b,o+4,Y⟩=some (X t.Aa t.na t.ca)
 c5:w.cell? ⟨b,o+5,Y⟩=some (X t.Af t.nf t.cf)
theorem I9.below {w w':World} {B b o:Nat} {t:iL} {n:Nd} (h:I9 w b o t n) (hb:Below B w w') (hlt:b<B):I9 w' b o t n :=
 ⟨(hb.cell (p:=⟨b,o,Y⟩) hlt).trans h.c0,(hb.cell (p:=⟨b,o+1,Y⟩) hlt).trans h.c1,(hb.cell (p:=⟨b,o+2,Y⟩) hlt).trans h.c2,(hb.cell (p:=⟨b,o+3,Y⟩) hlt).trans h.c3,(hb.cell (p:=⟨b,o+4,Y⟩) hlt).trans h.c4,(hb.cell (p:=⟨b,o+5,Y⟩) hlt).trans h.c5⟩
theorem vG:∀(F:Fo),(cW F).length=bH F
 | .nil=>rfl
 | .cons _ n a k x=>by simp only[cW,List.length_cons,bH,vG x]
theorem rQ.nth_ {R:Nat->Prop} {w:World} : ∀(F:Fo) (b off j:Nat),rQ R w F b off->j<bH F->∃t:iL,I9 w b (off+j*6) t (dY F j).1/\cJ R w [O S (dY F j).1.op,O S (dY F j).1.a,O S (dY F j).1.b,X t.Ak t.nk t.ck,X t.Aa t.na t.ca,X t.Af t.nf t.cf] (dY F j).1 (dY F j).2.1 (dY F j).2.2
 | .nil,_,_,_,_,h=>absurd h (Nat.not_lt_zero _)
 | .cons p n a k x,b,off,0,h,_=>by
  obtain⟨⟨h0,h1,h2⟩,⟨A',c',h3,h3b,h3c⟩,⟨v,h4,⟨Av,nv,cv,rfl,h4b⟩⟩,⟨u,h5,⟨Au,nu,cu,rfl,h5b⟩⟩,_⟩:=h;refine⟨⟨A',bH k,c',Av,nv,cv,Au,nu,cu⟩,⟨?_,?_,?_,?_,?_,?_⟩,⟨_,_,_,rfl,⟨A',_,c',rfl,⟨rfl,h3b,h3c⟩⟩,⟨_,_,_,rfl,h4b⟩,⟨_,_,_,rfl,h5b⟩⟩⟩;all_goals rw[Nat.zero_mul,Nat.add_zero]
  all_goals assumption
 | .cons p n a k x,b,off,j+1,h,hj=>by
  obtain⟨_,_,_,_,h5⟩:=h;obtain⟨t,h6,h7⟩:=rQ.nth_ x b (off+6) j h5 (by simpa[bH] using hj);rw[show off+6+j*6=off+(j+1)*6 from by omega] at h6;exact⟨t,h6,h7⟩
abbrev eD (t:iL) (n:Nd):Array Value:=#[O S n.op,O S n.a,O S n.b,X t.Ak t.nk t.ck,X t.Aa t.na t.ca,X t.Af t.nf t.cf]
theorem bK {w:World} {g:Nat} {a0 a1 a2 a3 a4 a5:Value} (h:aS w g 49 #[a0,a1,a2,a3,a4,a5]) (x0 x1 x2 x3 x4 x5:Value):aS ((((((w.setCell ⟨g,0,Y⟩ x0).setCell ⟨g,1,Y⟩ x1).setCell ⟨g,2,Y⟩ x2).setCell ⟨g,3,Y⟩ x3).setCell ⟨g,4,Y⟩ x4).setCell ⟨g,5,Y⟩ x5) g 49 #[x0,x1,x2,x3,x4,x5]:=by
 have:=(((((h.set_ 0 x0).set_ 1 x1).set_ 2 x2).set_ 3 x3).set_ 4 x4).set_ 5 x5;simpa using this
theorem dQ (w:World) (g:Nat) (x0 x1 x2 x3 x4 x5:Value):w.grownBy ((((((w.setCell ⟨g,0,Y⟩ x0).setCell ⟨g,1,Y⟩ x1).setCell ⟨g,2,Y⟩ x2).setCell ⟨g,3,Y⟩ x3).setCell ⟨g,4,Y⟩ x4).setCell ⟨g,5,Y⟩ x5) (some g) :=
 (((((bG _ g 0 x0).trans (bG _ g 1 x1)).trans (bG _ g 2 x2)).trans (bG _ g 3 x3)).trans (bG _ g 4 x4)).trans (bG _ g 5 x5)

theorem OY {n n1 n2:Nd} {a a1 a2:List Nd} {k1 k2:Fo}:cL (n1,a1,k1)<cL (n,a,.cons [] n1 a1 k1 (.cons [] n2 a2 k2 .nil))/\cL (n2,a2,k2)<cL (n,a,.cons [] n1 a1 k1 (.cons [] n2 a2 k2 .nil)):=by
 have h0:=eI n a (Fo.cons [] n1 a1 k1 (Fo.cons [] n2 a2 k2 Fo.nil));rw[gI,gI] at h0;simp only[List.length_nil] at h0;omega
end
end Go.Proofs.YtjllmblbbgojbaaGreat
