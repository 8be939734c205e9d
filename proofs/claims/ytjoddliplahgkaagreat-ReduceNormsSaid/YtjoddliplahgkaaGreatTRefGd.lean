/- Merged: RvPut, FineW, RefGd. -/
import Derived.Test.YtjoddliplahgkaaGreatTPutP
import Derived.Test.YtjoddliplahgkaaGreatTRaise
namespace Go.Proofs.YtjoddliplahgkaaGreat
set_option linter.unusedVariables false
set_option linter.unusedSimpArgs false
open Go.RowKit
open Go.Value renaming int → O, slice → X
open Go.IntKind renaming i64 → S
open Option renaming none → Y, some → Z
variable {g:Nat}{R:Nat->Prop}{n:Nd}{w:aAB}
section
open Go.Lib renaming hid->aB
theorem lK{c0 c1 c2 c3 c4 c5:Value}{D:Array Value}(h:aT w g 85 #[c0,c1,c2,c3,c4,c5])(ht:D.getD 8 undef=.pointer (Z ⟨g,0,Y⟩)):
 (results Tryz.f124 D).run Tryz.prog w=.ok (.agg #[c0,c1,c2,c3,c4,c5]) w:=by
 have G:=h.cell;have F:D[8]?.getD undef=.pointer (Z ⟨g,0,Y⟩):=by rw[<-ht];simp
 simp[results,Tryz.results124,go_sem,F,G]
theorem rV{V W:aAB}{D:List Nd}{U:Fo}{c0 c1 c2 c3 c4 c5:Value}(hR:∀b,R b->b<w.heap.size)(G:w.heap.size<=g)(z:g<V.heap.size)(s:ZY w W)(ht:cJ (bM R V W) W [c0,c1,c2,c3,c4,c5] n D U):
 fF R w n D U (.returned (.agg #[c0,c1,c2,c3,c4,c5])) ((((((W.setCell ⟨g,0,Y⟩ c0).setCell ⟨g,1,Y⟩ c1).setCell ⟨g,2,Y⟩ c2).setCell ⟨g,3,Y⟩ c3).setCell ⟨g,4,Y⟩ c4).setCell ⟨g,5,Y⟩ c5):=by
 refine⟨eV s G c0 c1 c2 c3 c4 c5,_,rfl,cJ.keep ht fun b F=>?_⟩;have I:b≠g:=by
  rcases F with h|h
  . have:=hR b h;omega
  have:=h.1;omega
 refine⟨?_,fun o=>qQ W I _ _ _ _ _ _ o⟩;rcases F with h|h
 . exact .inl h
 exact .inr ⟨by have:=h.1;omega,by rw[jX];exact h.2⟩
theorem BG{W:aAB}{D:List Nd}{I:Fo}{c0 c1 c2 c3 c4 c5:Value}(hR:∀b,R b->b<w.heap.size)(G:ZY w W)(ht:cJ R w [c0,c1,c2,c3,c4,c5] n D I):
 fF R w n D I (.returned (.agg #[c0,c1,c2,c3,c4,c5])) W :=
 ⟨G,_,rfl,cJ.keep ht fun b F=>⟨.inl F,fun o=>G.cell (p:=⟨b,o,Y⟩) (hR b F)⟩⟩
theorem TE{wr:aAB}{n:Nd}{s:List Nd}{G:Fo}{F:ZZ}{j k1 B:Nat}{x y:Value}{xs:List Value}(hR:∀b,R b->b<w.heap.size)(a3:w.heap.size<=g)(a4:g<B)(a1:ZY w wr)
 (D:wr.ownsRow B 85 6 (X F j k1) j xs) (hj:bE G=j) (a2:lO (oN R B wr (X F j k1)) wr G xs) (hx:gE R w x s) (hy:gE R w y (cG G)) :
 fF R w n s G (.returned (.agg #[O S n.op,O S n.a,O S n.b,X F j k1,x,y])) ((((((wr.setCell ⟨g,0,Y⟩ (O S n.op)).setCell ⟨g,1,Y⟩ (O S n.a)).setCell ⟨g,2,Y⟩ (O S n.b)).setCell ⟨g,3,Y⟩ (X F j k1)).setCell ⟨g,4,Y⟩ x).setCell ⟨g,5,Y⟩ y):=by
 have a0:=jX wr g (O S n.op) (O S n.a) (O S n.b) (X F j k1) x y;have U:=eV a1 a3 (O S n.op) (O S n.a) (O S n.b) (X F j k1) x y;have hO:=uT D a4 (O S n.op) (O S n.a) (O S n.b) (X F j k1) x y;refine⟨U,_,rfl,_,_,_,rfl,?_,?_,?_⟩
 . refine iQ (by rw[hj];exact hO) (lO.keep ?_ _ _ a2) ?_
   . rintro b ⟨z,_⟩;have a5:b≠g:=by
      rcases z with h|h
      . have:=hR b h;omega
      omega
     refine⟨?_,fun o=>qQ wr a5 _ _ _ _ _ _ o⟩;rcases z with h|h
     . exact .inl h
     exact .inr ⟨by omega,by rw[a0];exact h.2⟩
   intro b I;have h3:=aS D I;exact .inr ⟨by omega,by rw[a0];exact h3.2.1⟩
 . exact hx.keep fun b I=>⟨.inl I,fun o=>U.cell (p:=⟨b,o,Y⟩) (hR b I)⟩
 exact hy.keep fun b I=>⟨.inl I,fun o=>U.cell (p:=⟨b,o,Y⟩) (hR b I)⟩
set_option maxRecDepth 100000 in
set_option maxHeartbeats 8000000 in
theorem QE(t:Tr)(f3:eW t.n=true)(e1:dI t.k)(l2:4*aY t.k<=1000000000000)(m:Nat) (ih:∀(w:aAB)(R:Nat->Prop)(xs us:List Value)(n:Nd)(atoms:List Nd)(kids:Fo)(v d:Int),(∀b,R b->b<w.heap.size)->cJ R w xs n atoms kids->cJ R w us t.n t.a t.k->eW n=true->dI kids->0<=v->0<=d->v+4*aY kids<=1000000000000->d+4*aY kids<=1000000000000->aY kids<m →
      Calls Tryz.prog 124 #[.agg xs.toArray,.agg us.toArray,O S v,O S d] w (fF R w (lD t n v d) (s8 t n atoms v d) (uL t n kids v d)))
 (w:aAB) (R:Nat->Prop) (xs us:List Value) (n:Nd) (atoms:List Nd) (kids:Fo) (v d:Int) (hR:∀b,R b->b<w.heap.size) (ht:cJ R w xs n atoms kids) (hu:cJ R w us t.n t.a t.k) (c1:eW n=true) (c8:dI kids) (j4:0<=v) (d8:0<=d) (e2:v+4*aY kids<=1000000000000) (d9:d+4*aY kids<=1000000000000) (c2:aY kids<=m) :
 Calls Tryz.prog 124 #[.agg xs.toArray,.agg us.toArray,O S v,O S d] w (fF R w (lD t n v d) (s8 t n atoms v d) (uL t n kids v d)):=by
 have HI:=aB ih;clear ih;have HU:=aB hu;have HT:=aB ht;have HR:=aB hR;obtain⟨uk,ua,uf,rfl,⟨Bk,mk,dk,rfl,_⟩,⟨Ba,ma,da,rfl,_⟩,⟨Bf,mf,df,rfl,_⟩⟩:=hu;obtain⟨sk,sa,sf,rfl,⟨Ak,nk,ck,rfl,c0⟩,⟨Aa,na,ca,rfl,e7⟩,⟨Af,nf,cf,rfl,f0⟩⟩:=ht;have f2:=(fZ ((by simp only[eW,YC]at c1;exact c1.1.1):cD n.op n.a n.b=true));have a5:=aB (bS w (.cells #[O S n.op,O S n.a,O S n.b,X Ak nk ck,X Aa na ca,X Af nf cf] 85) (.cells #[O S t.n.op,O S t.n.a,O S t.n.b,X Bk mk dk,X Ba ma da,X Bf mf df] 85));have a7:=aB (a5.o.alloc a5.o.size (.cells #[O S 0,O S 0,O S 0,X Y 0 0,X Y 0 0,X Y 0 0] 85));by_cases h1:n.op=1
 . have i7:(n.op==1)=true:=by simp[h1]
   have H1:=aB h1;have b1:d<=1000000000000:=aA;obtain⟨k3,k4⟩:=f2;obtain⟨e3,d3⟩:=aAC (And.intro d8 b1) ((aT.new' aD:aT (((w.alloc (.cells #[O S n.op,O S n.a,O S n.b,X Ak nk ck,X Aa na ca,X Af nf cf] 85)).alloc (.cells #[O S t.n.op,O S t.n.a,O S t.n.b,X Bk mk dk,X Ba ma da,X Bf mf df] 85)).alloc (.cells #[O S 0,O S 0,O S 0,X Y 0 0,X Y 0 0,X Y 0 0] 85)) (w.heap.size+1+1) 85 #[O S 0,O S 0,O S 0,X Y 0 0,X Y 0 0,X Y 0 0]));clear h1 e2 d9 hR c0 e7 f0;by_cases h2:n.a=v
   . have i8:(n.a==v)=true:=by simp[h2]
     have H2:=aB h2;clear h2 d8 b1;go_in;go_wp2_with fail;refine (xP (R:=R) (fun b hb=>XT (HR.o b hb) a7.o.size) (cJ.keep HU.o fun b hb=>⟨hb,fun o=>a7.o.cell (p:=⟨b,o,Y⟩) (HR.o b hb)⟩) f3 e1 e3.o.1 e3.o.2 (YI 0) aA).mono ?_;rintro e w3 ⟨b0,ys,rfl,b4⟩;have d5:=aB b4;obtain⟨j8,j6,j7,rfl,⟨A3,n3,c3,rfl,e0⟩,⟨A4,n4,c4,rfl,d6⟩,⟨A5,n5,c5,rfl,d7⟩⟩:=b4;have d4:=aB (d3.o.below b0 aD);have j9:=aT.cell d4.o;have k0:=aT.frozen d4.o;have f9:=bY a7 b0;clear e0 d6 d7 b0;go_wp2_with fail;refine XW (v:=.agg #[O S (lE d t.n 0).op,O S (lE d t.n 0).a,O S (lE d t.n 0).b,X A3 n3 c3,X A4 n4 c4,X A5 n5 c5]) ?_ rfl ?_
     . exact lK (g:=w.heap.size+1+1) ((((((d4.o.set_ 0 _).set_ 1 _).set_ 2 _).set_ 3 _).set_ 4 _).set_ 5 _) aD
     rw[lD,s8,uL,XP H1.o,XP H1.o,XP H1.o,XP H2.o,XP H2.o,XP H2.o];exact rV HR.o aA aH f9.o d5.o
   have i8:(n.a==v)=false:=by simp[h2]
   have j9:=aT.cell d3.o;have k0:=aT.frozen d3.o;by_cases h3:v<n.a
   . have i9:decide (n.a>v)=true:=XR h3;have l4:IntKind.i64.wrap (n.a-1)=n.a-1:=by rw[XV];omega
     obtain⟨H2,H3⟩:=aAC h2 h3;clear h2 h3;go_in;go_wp2_with fail;refine XW (v:=.agg #[O S 1,O S (n.a-1),O S 0,X Y 0 0,X Y 0 0,X Y 0 0]) ?_ rfl ?_
     . exact lK (g:=w.heap.size+1+1) (aT.new' aD) aD
     rw[lD,s8,uL,XP H1.o,XP H1.o,XP H1.o,XN H2.o,XN H2.o,XN H2.o,XP H3.o,XP H3.o,XP H3.o];exact BG (n:=⟨1,n.a-1,0⟩) HR.o (a5.o.alloc a5.o.size _) (BF _)
   have i9:decide (n.a>v)=false:=XQ h3;obtain⟨H2,H3⟩:=aAC h2 (Int.not_lt.1 h3);clear h2 h3;go_in;go_wp2_with fail;refine XW (v:=.agg #[O S n.op,O S n.a,O S n.b,X Ak nk ck,X Aa na ca,X Af nf cf]) ?_ rfl ?_
   . exact lK (g:=w.heap.size+1+1) (aT.new' aD) aD
   rw[lD,s8,uL,XP H1.o,XP H1.o,XP H1.o,XN H2.o,XN H2.o,XN H2.o,XN (Int.not_lt.2 H3.o),XN (Int.not_lt.2 H3.o),XN (Int.not_lt.2 H3.o)];exact BG HR.o (a5.o.alloc a5.o.size _) HT.o
 have i7:(n.op==1)=false:=by simp[h1]
 obtain⟨H1,h8,h5,e4,h0,f8⟩:=aAH h1 (And.intro j4 (And.intro e2 (And.intro d8 d9))) c2 c0.len c1 c8;have l3:v<=1000000000000:=aA;have k8:d<=1000000000000:=aA;have l1:nk<=1000000000000:=by
  have h1:=eP kids;have h2:=c0.len;omega
 obtain⟨i0,hi,f5,f6,f7⟩:=info_parts Tryz.infoT;have g8:=aB hi;have h9:=aB f5;have i1:=aB f6;have i2:=aB f7;clear h1 e2 d9 c2 c1 f2 c8 hi f5 f6 f7;go_in;go_wp2_with fail;go_loopw [10] (fun i wr=>∃(F1 F2:Fo)(j:Nat)(A1:ZZ)(k1:Nat)(c7:List Value),i=O S (j:Int)/\Hid (kids=F1.app F2)/\Hid (bE F1=j)/\j<=nk/\Hid (ZY w wr) ∧
  Hid (aT wr w.heap.size 85 #[O S n.op,O S n.a,O S n.b,X Ak nk ck,X Aa na ca,X Af nf cf]) ∧
  Hid (aT wr (w.heap.size+1) 85 #[O S t.n.op,O S t.n.a,O S t.n.b,X Bk mk dk,X Ba ma da,X Bf mf df]) ∧
  Hid (aT wr (w.heap.size+1+1) 85 #[O S 0,O S 0,O S 0,X Y 0 0,X Y 0 0,X Y 0 0]) ∧
  Hid (aT wr (w.heap.size+1+1+1) 85 #[O S n.op,O S n.a,O S n.b,X A1 j k1,X Aa na ca,X Af nf cf]) ∧
  Hid (wr.ownsRow (w.heap.size+4) 85 6 (X A1 j k1) j c7)/\Hid (lO (oN R (w.heap.size+4) wr (X A1 j k1)) wr (rL t n.op n.b 0 v d F1) c7)) (fun i _=>nk-(intOf i).toNat)
 case atStart =>
  refine⟨.nil,kids,0,Y,0,[],rfl,aB rfl,aB rfl,ZA _,aB (a7.o.alloc a7.o.size _),aB ((((aT.new _ _ _).alloc _).alloc _).alloc _),aB (((aT.new' aD).alloc _).alloc _),aB ((aT.new' aD).alloc _),aB (aT.new' aD),aB (ZE _ _ _ _),aB rfl⟩
 case round =>
  clear a5 a7;obtain⟨F1,F2,j,A1,k1,c7,rfl,hk,hj,k9,z,a3,F,s,U,a1,e9⟩:=hrel;have d0:=c0.keep (R':=R) (w':=wr) (fun b hb=>⟨hb,fun o=>z.o.cell (p:=⟨b,o,Y⟩) (HR.o b hb)⟩);have k5:w.heap.size+1+1+1<wr.heap.size:=aT.lt U.o;cases F2 with
  | nil =>
   have f1:j=nk:=by rw[<-e4.o,hk.o,bN,hj.o];rfl
   have b1:decide (j<nk)=false:=XQ aA;have zc:=aT.cell a3.o;have l7:=aT.cell s.o;have l9:=aT.frozen s.o;have l8:=aT.cell U.o;clear f1;go_wp2_with fail;have d2:kids=F1:=by rw[hk.o,iK]
   refine XW (v:=.agg #[O S n.op,O S n.a,O S n.b,X A1 j k1,X Aa na ca,X Af nf cf]) ?_ rfl ?_
   . exact lK (g:=w.heap.size+1+1) ((((((s.o.set_ 0 _).set_ 1 _).set_ 2 _).set_ 3 _).set_ 4 _).set_ 5 _) aD
   rw[lD,s8,uL,XN H1.o,XN H1.o,XN H1.o,d2];exact TE HR.o aA aA z.o a1.o (by rw[zU];exact hj.o) e9.o ⟨Aa,na,ca,rfl,e7⟩ ⟨Af,nf,cf,rfl,by rw[wS,<-d2];exact f0⟩
  | cons pre nd b9 ks F2 =>
   have l0:j<nk:=by rw[<-e4.o,hk.o,bN,hj.o];simp[bE]
   obtain⟨k6,k7⟩:=dY h0.o (j:Int);have c9:eX R wr Ak nk ck (F1.app (.cons pre nd b9 ks F2)):=by rw[<-hk.o];exact d0
   obtain⟨b,off,b8,b6,b7,rfl,j3,b5,g0,g1,g2,g3,g4,g5⟩:=c9.at_;rw[hj.o]at g0 g1 g2 g3 g4 g5;obtain⟨_,d1,b3,_⟩:=(dI.app F1 _).1 (hk.o ▸ f8.o);have j0:b<w.heap.size:=hR b j3;have e5:=aB (And.intro d1 b3);have j2:aY F1+(aY ks+aY F2+1)=aY kids:=by rw[hk.o,dQ];simp only[aY]
   obtain⟨j5,f4,j1,e8⟩:=h8.o;have c2:=h5.o;have b2:Hid (aY ks<m/\0<=v+aR n.op n.b (j:Int)/\0<=d+aR n.op n.b (j:Int)/\v+aR n.op n.b (j:Int)+4*aY ks<=1000000000000/\d+aR n.op n.b (j:Int)+4*aY ks<=1000000000000):=aB aA;have l6:IntKind.i64.wrap (v+aR n.op n.b (j:Int))=v+aR n.op n.b (j:Int):=IntWalk.i64_in _ aA;have l5:IntKind.i64.wrap (d+aR n.op n.b (j:Int))=d+aR n.op n.b (j:Int):=IntWalk.i64_in _ aA;have h6:=aB (fun (W:aAB) (hW:ZY wr W)=>(b5.keep fun b' a2=>⟨a2,fun o=>hW.cell (p:=⟨b',o,Y⟩) (XT (hR b' a2) z.o.size)⟩:cJ R W [O S nd.op,O S nd.a,O S nd.b,b8,b6,b7] nd b9 ks));have h7:=aB (fun (W:aAB) (hW:ZY wr W)=>(cJ.keep HU.o fun b' a2=>⟨a2,fun o=>(hW.cell (p:=⟨b',o,Y⟩) (XT (hR b' a2) z.o.size)).trans (z.o.cell (p:=⟨b',o,Y⟩) (hR b' a2))⟩:cJ R W [O S t.n.op,O S t.n.a,O S t.n.b,X Bk mk dk,X Ba ma da,X Bf mf df] t.n t.a t.k));have h4:=aB (fun (W:aAB) (hW:ZY wr W) (b':Nat) (a2:R b')=>(XT (hR b' a2) (YE z.o.size hW.size):b'<W.heap.size));have a9:=aB (fun (W:aAB) (hW:ZY wr W)=>(by
    have hB:∀q,q<wr.heap.size->∀o,W.cell? ⟨q,o,Y⟩=wr.cell? ⟨q,o,Y⟩:=fun q hq o=>hW.cell (p:=⟨q,o,Y⟩) hq;have a0:b<wr.heap.size:=XT j0 z.o.size;exact⟨(hB _ aA _).trans (a3.o.cell 3),(hB _ aA _).trans (F.o.cell 0),(hB _ aA _).trans (F.o.cell 1),(hB _ aA _).trans (F.o.cell 2),(hB _ aA _).trans (F.o.cell 3),(hB _ aA _).trans (F.o.cell 4),(hB _ aA _).trans (F.o.cell 5),(hB _ aA _).trans (U.o.cell 3),(hB _ a0 _).trans g0,(hB _ a0 _).trans g1,(hB _ a0 _).trans g2,(hB _ a0 _).trans g3,(hB _ a0 _).trans g4,(hB _ a0 _).trans g5⟩:W.cell? ⟨w.heap.size,3,Y⟩=Z (X (Z ⟨b,off,Y⟩) nk ck)/\W.cell? ⟨w.heap.size+1,0,Y⟩=Z (O S t.n.op)/\W.cell? ⟨w.heap.size+1,1,Y⟩=Z (O S t.n.a)/\W.cell? ⟨w.heap.size+1,2,Y⟩=Z (O S t.n.b)/\W.cell? ⟨w.heap.size+1,3,Y⟩=Z (X Bk mk dk)/\W.cell? ⟨w.heap.size+1,4,Y⟩=Z (X Ba ma da)/\W.cell? ⟨w.heap.size+1,5,Y⟩=Z (X Bf mf df)/\W.cell? ⟨w.heap.size+1+1+1,3,Y⟩=Z (X A1 j k1)/\W.cell? ⟨b,off+j*6,Y⟩=Z (O S nd.op)/\W.cell? ⟨b,off+j*6+1,Y⟩=Z (O S nd.a)/\W.cell? ⟨b,off+j*6+2,Y⟩=Z (O S nd.b)/\W.cell? ⟨b,off+j*6+3,Y⟩=Z b8/\W.cell? ⟨b,off+j*6+4,Y⟩=Z b6/\W.cell? ⟨b,off+j*6+5,Y⟩=Z b7))
   have zc:=aT.cell a3.o;clear c9 d0 c2 j5 f4 j1 e8 j2 d1 b3 g0 g1 g2 g3 g4 g5 b5;go_wp2_with fail;refine (kK _ _ _ _ _ aA).mono ?_;rintro e w2 ⟨he,c6⟩;subst he;have b1:ZY wr w2:=by first|(rw[c6];exact aQ _ _)|(rw[<-c6];exact aQ _ _)|(subst c6;exact aQ _ _)
   have a8:=aB (aU b1 1);clear c6 b1 zc;go_wp2_with fail;refine gF 18 (fun w'=>w'.cell? ⟨w.heap.size,3,Y⟩=Z (X (Z ⟨b,off,Y⟩) nk ck)/\w'.cell? ⟨w.heap.size+1,0,Y⟩=Z (O S t.n.op)/\w'.cell? ⟨w.heap.size+1,1,Y⟩=Z (O S t.n.a)/\w'.cell? ⟨w.heap.size+1,2,Y⟩=Z (O S t.n.b)/\w'.cell? ⟨w.heap.size+1,3,Y⟩=Z (X Bk mk dk)/\w'.cell? ⟨w.heap.size+1,4,Y⟩=Z (X Ba ma da)/\w'.cell? ⟨w.heap.size+1,5,Y⟩=Z (X Bf mf df)/\w'.cell? ⟨w.heap.size+1+1+1,3,Y⟩=Z (X A1 j k1)/\w'.cell? ⟨b,off+j*6,Y⟩=Z (O S nd.op)/\w'.cell? ⟨b,off+j*6+1,Y⟩=Z (O S nd.a)/\w'.cell? ⟨b,off+j*6+2,Y⟩=Z (O S nd.b)/\w'.cell? ⟨b,off+j*6+3,Y⟩=Z b8/\w'.cell? ⟨b,off+j*6+4,Y⟩=Z b6/\w'.cell? ⟨b,off+j*6+5,Y⟩=Z b7) aC ?_ (fun hZ=>?_)
   . (try dsimp only);exact a9.o _ a8.o
   refine aN 0 hZ ?_;refine aN 1 hZ ?_;refine aN 2 hZ ?_;refine aN 3 hZ ?_;refine aN 4 hZ ?_;refine aN 5 hZ ?_;refine aN 6 hZ ?_;refine aN 7 hZ ?_;refine aN 8 hZ ?_;refine aN 9 hZ ?_;refine aN 10 hZ ?_;refine aN 11 hZ ?_;refine aN 12 hZ ?_;refine aN 13 hZ ?_;refine bV (i:=14) aC rfl rfl (fun K hK=>?_);go_simp;go_at_call 124
   refine (HI.o _ R [O S nd.op,O S nd.a,O S nd.b,b8,b6,b7] [O S t.n.op,O S t.n.a,O S t.n.b,X Bk mk dk,X Ba ma da,X Bf mf df] nd b9 ks _ _ (h4.o _ a8.o) (h6.o _ a8.o) (h7.o _ a8.o) e5.o.1 e5.o.2 b2.o.2.1 b2.o.2.2.1 b2.o.2.2.2.1 b2.o.2.2.2.2 b2.o.1).mono ?_;rintro e w3 ⟨b0,ys,rfl,b4⟩;have d5:=aB b4;obtain⟨j8,j6,j7,rfl,⟨A3,n3,c3,rfl,e0⟩,⟨A4,n4,c4,rfl,d6⟩,⟨A5,n5,c5,rfl,d7⟩⟩:=b4;have D:=bY a8 b0;have k2:=D.o.size;clear e0 d6 d7 b0;go_wp2_with fail;refine hK.o _ _ (fun _=>?_) ?_
   . (try dsimp only);exact a9.o _ D.o
   clear hK K;try simp only[p7]
   replace hZ:=a9.o _ D.o
   refine bV (i:=15) aC rfl rfl (fun K hK=>?_);go_simp;refine hK.o _ _ (fun _=>?_) ?_
   . (try dsimp only);exact a9.o _ (D.o.alloc D.o.size (.cells #[O S (lD t nd (v+aR n.op n.b (j:Int)) (d+aR n.op n.b (j:Int))).op,O S (lD t nd (v+aR n.op n.b (j:Int)) (d+aR n.op n.b (j:Int))).a,O S (lD t nd (v+aR n.op n.b (j:Int)) (d+aR n.op n.b (j:Int))).b,X A3 n3 c3,X A4 n4 c4,X A5 n5 c5] 85))
   clear hK K;try simp only[p7]
   replace hZ:=a9.o _ (D.o.alloc D.o.size (.cells #[O S (lD t nd (v+aR n.op n.b (j:Int)) (d+aR n.op n.b (j:Int))).op,O S (lD t nd (v+aR n.op n.b (j:Int)) (d+aR n.op n.b (j:Int))).a,O S (lD t nd (v+aR n.op n.b (j:Int)) (d+aR n.op n.b (j:Int))).b,X A3 n3 c3,X A4 n4 c4,X A5 n5 c5] 85))
   refine bV (i:=16) aC rfl rfl (fun K hK=>?_);refine fY (.tmp 55) (.tmp 69) 83 rfl (w.heap.size+4) i0 _ Tryz.underlying83 g8.o h9.o i1.o i2.o rfl (X A1 j k1) j c7 [O S (lD t nd (v+aR n.op n.b (j:Int)) (d+aR n.op n.b (j:Int))).op,O S (lD t nd (v+aR n.op n.b (j:Int)) (d+aR n.op n.b (j:Int))).a,O S (lD t nd (v+aR n.op n.b (j:Int)) (d+aR n.op n.b (j:Int))).b,X A3 n3 c3,X A4 n4 c4,X A5 n5 c5] aF (F8 _ _ _ (A3,n3,c3) (A4,n4,c4) (A5,n5,c5)) w3 aF aF (bI a1.o D.o) _ aF aF aA aA ?_;intro A' c' w' G;have I:∀g,g<w.heap.size+4->∀o,w'.cell? ⟨g,o,Y⟩=w3.cell? ⟨g,o,Y⟩:=fun g hg o=>World.cell?_of_block (G.grown.block g aA (eF (bI a1.o D.o) hg));have hq:=a9.o _ D.o;have e6:w'.cell? ⟨w.heap.size,3,Y⟩=Z (X (Z ⟨b,off,Y⟩) nk ck)/\w'.cell? ⟨w.heap.size+1,0,Y⟩=Z (O S t.n.op)/\w'.cell? ⟨w.heap.size+1,1,Y⟩=Z (O S t.n.a)/\w'.cell? ⟨w.heap.size+1,2,Y⟩=Z (O S t.n.b)/\w'.cell? ⟨w.heap.size+1,3,Y⟩=Z (X Bk mk dk)/\w'.cell? ⟨w.heap.size+1,4,Y⟩=Z (X Ba ma da)/\w'.cell? ⟨w.heap.size+1,5,Y⟩=Z (X Bf mf df)/\w'.cell? ⟨w.heap.size+1+1+1,3,Y⟩=Z (X A1 j k1)/\w'.cell? ⟨b,off+j*6,Y⟩=Z (O S nd.op)/\w'.cell? ⟨b,off+j*6+1,Y⟩=Z (O S nd.a)/\w'.cell? ⟨b,off+j*6+2,Y⟩=Z (O S nd.b)/\w'.cell? ⟨b,off+j*6+3,Y⟩=Z b8/\w'.cell? ⟨b,off+j*6+4,Y⟩=Z b6/\w'.cell? ⟨b,off+j*6+5,Y⟩=Z b7:=⟨(I _ aA _).trans hq.1,(I _ aA _).trans hq.2.1,(I _ aA _).trans hq.2.2.1,(I _ aA _).trans hq.2.2.2.1,(I _ aA _).trans hq.2.2.2.2.1,(I _ aA _).trans hq.2.2.2.2.2.1,(I _ aA _).trans hq.2.2.2.2.2.2.1,(I _ aA _).trans hq.2.2.2.2.2.2.2.1,(I _ aA _).trans hq.2.2.2.2.2.2.2.2.1,(I _ aA _).trans hq.2.2.2.2.2.2.2.2.2.1,(I _ aA _).trans hq.2.2.2.2.2.2.2.2.2.2.1,(I _ aA _).trans hq.2.2.2.2.2.2.2.2.2.2.2.1,(I _ aA _).trans hq.2.2.2.2.2.2.2.2.2.2.2.2.1,(I _ aA _).trans hq.2.2.2.2.2.2.2.2.2.2.2.2.2⟩;have m0:w'.frozen? ⟨w.heap.size+1+1+1,3,Y⟩=false:=aT.frozen ((U.o.below D.o U.o.lt).grown G.grown (eF (bI a1.o D.o) aA)) 3;clear hq I;refine hK.o _ _ (fun _=>?_) ?_
   . (try dsimp only);exact e6
   clear hK K;try simp only[p7]
   replace hZ:=e6
   refine aN 17 hZ ?_;refine bV (i:=18) aC rfl rfl (fun K hK=>?_);go_simp;refine hK.o _ _ (fun h=>absurd rfl h) ?_;clear hK K;try simp only[p7]
   refine gW aC ?_ _;have a6:=bI a1.o D.o;have a4:∀g,g<w.heap.size+4->Z g≠(Value.slice A1 j k1).ownBlock:=fun g hg e=>by have:=(aS a6 e.symm).1;omega
   have g6:=aB (((z.o.trans (D.o.mono z.o.size)).grown G.grown (by have:=z.o.size;omega) (fun g hg=>by have:=(aS a6 hg).1;omega)).setCell (p:=⟨w.heap.size+1+1+1,3,Y⟩) (show w.heap.size<=w.heap.size+1+1+1 by omega) (X A' (j+1) c'));have i3:=aB (((a3.o.below D.o a3.o.lt).grown G.grown (a4 _ aA)).far (p:=⟨w.heap.size+1+1+1,3,Y⟩) (show w.heap.size≠w.heap.size+1+1+1 by omega) (X A' (j+1) c'));have i6:=aB (((F.o.below D.o F.o.lt).grown G.grown (a4 _ aA)).far (p:=⟨w.heap.size+1+1+1,3,Y⟩) (show w.heap.size+1≠w.heap.size+1+1+1 by omega) (X A' (j+1) c'));have i4:=aB (((s.o.below D.o s.o.lt).grown G.grown (a4 _ aA)).far (p:=⟨w.heap.size+1+1+1,3,Y⟩) (show w.heap.size+1+1≠w.heap.size+1+1+1 by omega) (X A' (j+1) c'));have i5:=aB (((U.o.below D.o U.o.lt).grown G.grown (a4 _ aA)).set_ 3 (X A' (j+1) c'));have g9:=aB (ownsRow_setCell_below G.own (a:=⟨w.heap.size+1+1+1,3,Y⟩) (show w.heap.size+1+1+1<w.heap.size+4 by omega) (X A' (j+1) c'));have g7:=aB (zV (B0:=w.heap.size) (B:=w.heap.size+4) e9.o d5.o a8.o.size D.o aA hR aA a1.o (XS _ _) G (wf:=w'.setCell ⟨w.heap.size+1+1+1,3,Y⟩ (X A' (j+1) c')) (pre:=pre) (fun g hg o=>World.cell?_setCell_other _ _ _ _ (fun hh=>by injection hh with hh;omega)) (by simp[World.setCell]));clear G a4 a6;go_wp2_with fail;go_roundw
   case rel =>
    refine⟨F1.app (.cons pre nd b9 ks .nil),F2,j+1,A',c',_,by go_num,aB (by rw[hk.o,cV];rfl),aB (by rw[bN];simp[bE,hj.o]),by omega,g6,i3,i6,i4,i5,g9,aB ?_⟩;rw[FC,hj.o,YH,kF];exact g7.o
   case measure=>simp[intOf];omega
theorem KZ(t:Tr)(F:eW t.n=true)(D:dI t.k)(G:4*aY t.k<=1000000000000):∀(m:Nat)(w:aAB)(R:Nat->Prop)(U I:List Value)(n:Nd)(atoms:List Nd)(kids:Fo)(v d:Int),(∀b,R b->b<w.heap.size)->cJ R w U n atoms kids->cJ R w I t.n t.a t.k->eW n=true->dI kids->0<=v->0<=d->v+4*aY kids<=1000000000000->d+4*aY kids<=1000000000000->aY kids<m →
      Calls Tryz.prog 124 #[.agg U.toArray,.agg I.toArray,O S v,O S d] w (fF R w (lD t n v d) (s8 t n atoms v d) (uL t n kids v d))
 | 0,_,_,_,_,_,_,_,_,_,_,_,_,_,_,_,_,_,_,h=>absurd h (Nat.not_lt_zero _)
 | m+1,w,R,U,I,n,atoms,kids,v,d,o,z,h3,h4,h5,h6,h7,h8,h9,s=>QE t F D G m (KZ t F D G m) w R U I n atoms kids v d o z h3 h4 h5 h6 h7 h8 h9 aA
end
abbrev bL(x:TT):Nat:=(aW x).length
theorem cS(n:Nd)(a:List Nd)(k:Fo):bL (n,a,k)=1+a.length+(row k).length:=by
 simp only[bL,aW,YA,XX];omega
theorem eG(p:List Nd)(n:Nd)(a:List Nd)(k x:Fo):(row (.cons p n a k x)).length=p.length+bL (n,a,k)+(row x).length:=by
 simp only[row,XX,YA,bL,aW];omega
theorem oH:∀{k:Fo} {y:TT},y∈bH k->bL y<=(row k).length
 | .nil,y,h=>by cases h
 | .cons p n a k x,y,h=>by
  rw[eG];rw[show bH (.cons p n a k x)=(n,a,k)::bH x from rfl]at h;rcases YV.1 h with rfl|h
  . omega
  . have:=oH h;omega
def bX(x:TT):TT×List TT:=hd (bL x) x
theorem KN:∀(m D:Nat)(x:TT),bL x<=m->bL x<=D->hd m x=hd D x
 | 0,_,(n,a,k),h,_=>by rw[cS]at h;omega
 | _+1,0,(n,a,k),_,h=>by rw[cS]at h;omega
 | m+1,D+1,(n,a,.nil),_,_=>rfl
 | m+1,D+1,(n,a,.cons p n1 a1 k1 .nil),_,_=>rfl
 | m+1,D+1,(n,a,.cons p n1 a1 k1 (.cons q n2 a2 k2 r)),h,h'=>by
  simp only[hd];rw[cS,eG]at h h';split
  . rw[KN m D (n1,a1,k1) aA aA]
  . rfl
theorem ES{m:Nat}{x:TT}(h:bL x<=m):hd m x=bX x:=KN _ _ _ h (XU _)
theorem qZ{x:TT}(h:x.1.op≠6):bX x=(x,[]):=SU h
theorem KM{n1 n2:Nd}{a a1 a2 p q:List Nd}{k1 k2 r:Fo}(h:n.op=6):bX (n,a,.cons p n1 a1 k1 (.cons q n2 a2 k2 r))=((bX (n1,a1,k1)).1,(bX (n1,a1,k1)).2++[(n2,a2,k2)]):=by
 have D:bL (n,a,.cons p n1 a1 k1 (.cons q n2 a2 k2 r))=1+a.length+(p.length+bL (n1,a1,k1)+(row (.cons q n2 a2 k2 r)).length):=by rw[cS,eG]
 rw[<-ES (m:=bL (n,a,.cons p n1 a1 k1 (.cons q n2 a2 k2 r))-1+1) (x:=(n,a,.cons p n1 a1 k1 (.cons q n2 a2 k2 r))) aA];simp only[hd];rw[XP h,ES aA]
section
structure iA where
 Ak:Option Addr
 nk:Nat
 ck:Nat
 Aa:Option Addr
 na:Nat
 ca:Nat
 Af:Option Addr
 nf:Nat
 cf:Nat
abbrev XH:TT:=(default,[],.nil)
def cX(F:Fo)(j:Nat):TT:=(bH F).getD j XH
structure T0 (w:aAB) (b o:Nat) (t:iA) (n:Nd):Prop where
 c0:w.cell? ⟨b,o,Y⟩=Z (O S n.op)
 c1:w.cell? ⟨b,o+1,Y⟩=Z (O S n.a)
 c2:w.cell? ⟨b,o+2,Y⟩=Z (O S n.b)
 c3:w.cell? ⟨b,o+3,Y⟩=Z (X t.Ak t.nk t.ck)
 c4:w.cell? ⟨b,o+4,Y⟩=Z (X t.Aa t.na t.ca)
 c5:w.cell? ⟨b,o+5,Y⟩=Z (X t.Af t.nf t.cf)
theorem T0.below{w':aAB}{B b o:Nat}{t:iA}(h:T0 w b o t n)(F:Below B w w')(D:b<B):T0 w' b o t n :=
 ⟨(F.cell (p:=⟨b,o,Y⟩) D).trans h.c0,(F.cell (p:=⟨b,o+1,Y⟩) D).trans h.c1,(F.cell (p:=⟨b,o+2,Y⟩) D).trans h.c2,(F.cell (p:=⟨b,o+3,Y⟩) D).trans h.c3,(F.cell (p:=⟨b,o+4,Y⟩) D).trans h.c4,(F.cell (p:=⟨b,o+5,Y⟩) D).trans h.c5⟩
theorem oR:∀(F:Fo),(bH F).length=bE F
 | .nil=>rfl
 | .cons _ n a k x=>by simp only[bH,YA,bE,oR x]
theorem uD.nth_{R:Nat->Prop}{w:aAB}:∀(F:Fo)(b off j:Nat),uD R w F b off->j<bE F->∃t:iA,T0 w b (off+j*6) t (cX F j).1/\cJ R w [O S (cX F j).1.op,O S (cX F j).1.a,O S (cX F j).1.b,X t.Ak t.nk t.ck,X t.Aa t.na t.ca,X t.Af t.nf t.cf] (cX F j).1 (cX F j).2.1 (cX F j).2.2
 | .nil,_,_,_,_,h=>absurd h (Nat.not_lt_zero _)
 | .cons p n a k x,b,off,0,h,_=>by
  obtain⟨⟨h0,h1,h2⟩,⟨o,s,h3,D,G⟩,⟨v,h4,⟨Av,nv,cv,rfl,I⟩⟩,⟨u,z,⟨Au,nu,cu,rfl,U⟩⟩,_⟩:=h;refine⟨⟨o,bE k,s,Av,nv,cv,Au,nu,cu⟩,⟨?_,?_,?_,?_,?_,?_⟩,⟨_,_,_,rfl,⟨o,_,s,rfl,⟨rfl,D,G⟩⟩,⟨_,_,_,rfl,I⟩,⟨_,_,_,rfl,U⟩⟩⟩;all_goals rw[YU,YF]
  all_goals assumption
 | .cons p n a k x,b,off,j+1,h,hj=>by
  obtain⟨_,_,_,_,z⟩:=h;obtain⟨t,h6,h7⟩:=uD.nth_ x b (off+6) j z (by simpa[bE] using hj);rw[show off+6+j*6=off+(j+1)*6 from by omega]at h6;exact⟨t,h6,h7⟩
abbrev fE(t:iA)(n:Nd):Array Value:=#[O S n.op,O S n.a,O S n.b,X t.Ak t.nk t.ck,X t.Aa t.na t.ca,X t.Af t.nf t.cf]
theorem cK{s a1 a2 z a4 a5:Value}(h:aT w g 85 #[s,a1,a2,z,a4,a5])(D F G I U o:Value):aT ((((((w.setCell ⟨g,0,Y⟩ D).setCell ⟨g,1,Y⟩ F).setCell ⟨g,2,Y⟩ G).setCell ⟨g,3,Y⟩ I).setCell ⟨g,4,Y⟩ U).setCell ⟨g,5,Y⟩ o) g 85 #[D,F,G,I,U,o]:=by
 have:=(((((h.set_ 0 D).set_ 1 F).set_ 2 G).set_ 3 I).set_ 4 U).set_ 5 o;simpa using this
theorem e7(w:aAB)(g:Nat)(D F G I U h:Value):w.grownBy ((((((w.setCell ⟨g,0,Y⟩ D).setCell ⟨g,1,Y⟩ F).setCell ⟨g,2,Y⟩ G).setCell ⟨g,3,Y⟩ I).setCell ⟨g,4,Y⟩ U).setCell ⟨g,5,Y⟩ h) (Z g) :=
 (((((eJ _ g 0 D).trans (eJ _ g 1 F)).trans (eJ _ g 2 G)).trans (eJ _ g 3 I)).trans (eJ _ g 4 U)).trans (eJ _ g 5 h)

theorem U7{n1 n2:Nd}{a a1 a2:List Nd}{k1 k2:Fo}:bL (n1,a1,k1)<bL (n,a,.cons [] n1 a1 k1 (.cons [] n2 a2 k2 .nil))/\bL (n2,a2,k2)<bL (n,a,.cons [] n1 a1 k1 (.cons [] n2 a2 k2 .nil)):=by
 have D:=cS n a (Fo.cons [] n1 a1 k1 (Fo.cons [] n2 a2 k2 Fo.nil));rw[eG,eG]at D;simp only[ZD]at D;omega
end
end Go.Proofs.YtjoddliplahgkaaGreat
