/- Merged: RvPut, FineW, RefGd. -/
import Derived.Test.YtjoddliplahgkaaGreatPPutP
import Derived.Test.YtjoddliplahgkaaGreatPRaise
namespace Go.Proofs.YtjoddliplahgkaaGreat
set_option linter.unusedVariables false
set_option linter.unusedSimpArgs false
open Go.RowKit
open Go.Value renaming int → O, slice → X
open Go.IntKind renaming i64 → S
open Option renaming none → Y, some → Z
section
open Go.Lib renaming hid->aB
theorem kN {w:World} {g:Nat} {c0 c1 c2 c3 c4 c5:Value} {tmps:Array Value} (h:aS w g 85 #[c0,c1,c2,c3,c4,c5]) (ht:tmps.getD 8 undef=.pointer (Z ⟨g,0,Y⟩)) :
 (results Tryz.f124 tmps).run Tryz.prog w=.ok (.agg #[c0,c1,c2,c3,c4,c5]) w:=by
 have hc:=h.cell;have a0:tmps[8]?.getD undef=.pointer (Z ⟨g,0,Y⟩):=by rw[<-ht];simp
 simp[results,Tryz.results124,go_sem,a0,hc]
theorem qG {R:Nat->Prop} {w V W:World} {g:Nat} {n:Nd} {ats:List Nd} {ks:Fo} {c0 c1 c2 c3 c4 c5:Value} (hR:∀b,R b->b<w.heap.size) (hg0:w.heap.size<=g) (hg1:g<V.heap.size) (hb:Below w.heap.size w W) (ht:cR (bB R V W) W [c0,c1,c2,c3,c4,c5] n ats ks) :
 eZ R w n ats ks (.returned (.agg #[c0,c1,c2,c3,c4,c5])) ((((((W.setCell ⟨g,0,Y⟩ c0).setCell ⟨g,1,Y⟩ c1).setCell ⟨g,2,Y⟩ c2).setCell ⟨g,3,Y⟩ c3).setCell ⟨g,4,Y⟩ c4).setCell ⟨g,5,Y⟩ c5):=by
 refine⟨eM hb hg0 c0 c1 c2 c3 c4 c5,_,rfl,cR.keep ht fun b a0 => ?_⟩;have a1:b ≠ g:=by
  rcases a0 with h | h
  · have:=hR b h;omega
  have:=h.1;omega
 refine⟨?_,fun o=>pI W a1 _ _ _ _ _ _ o⟩;rcases a0 with h | h
 · exact .inl h
 exact .inr ⟨by have:=h.1;omega,by rw[jE];exact h.2⟩
theorem yF {R:Nat->Prop} {w W:World} {n:Nd} {ats:List Nd} {ks:Fo} {c0 c1 c2 c3 c4 c5:Value} (hR:∀b,R b->b<w.heap.size) (hb:Below w.heap.size w W) (ht:cR R w [c0,c1,c2,c3,c4,c5] n ats ks) :
 eZ R w n ats ks (.returned (.agg #[c0,c1,c2,c3,c4,c5])) W :=
 ⟨hb,_,rfl,cR.keep ht fun b hb2=>⟨.inl hb2,fun o=>hb.cell (p:=⟨b,o,Y⟩) (hR b hb2)⟩⟩
theorem PK {R:Nat->Prop} {w wr:World} {n:Nd} {ats:List Nd} {G:Fo} {A1:Option Addr} {j k1 g B:Nat} {x y:Value} {xs:List Value} (hR:∀b,R b->b<w.heap.size) (hg0:w.heap.size<=g) (hg1:g<B) (hbw:Below w.heap.size w wr)
 (hown:wr.ownsRow B 85 6 (X A1 j k1) j xs) (hj:bF G=j) (hfc:kP (nD R B wr (X A1 j k1)) wr G xs) (hx:gE R w x ats) (hy:gE R w y (cO G)) :
 eZ R w n ats G (.returned (.agg #[O S n.op,O S n.a,O S n.b,X A1 j k1,x,y])) ((((((wr.setCell ⟨g,0,Y⟩ (O S n.op)).setCell ⟨g,1,Y⟩ (O S n.a)).setCell ⟨g,2,Y⟩ (O S n.b)).setCell ⟨g,3,Y⟩ (X A1 j k1)).setCell ⟨g,4,Y⟩ x).setCell ⟨g,5,Y⟩ y):=by
 have a1:=jE wr g (O S n.op) (O S n.a) (O S n.b) (X A1 j k1) x y;have a0:=eM hbw hg0 (O S n.op) (O S n.a) (O S n.b) (X A1 j k1) x y;have hO:=sN hown hg1 (O S n.op) (O S n.a) (O S n.b) (X A1 j k1) x y;refine⟨a0,_,rfl,_,_,_,rfl,?_,?_,?_⟩
 · refine hP (by rw[hj];exact hO) (kP.keep ?_ _ _ hfc) ?_
   · rintro b ⟨a2,_⟩;have a3:b ≠ g:=by
      rcases a2 with h | h
      · have:=hR b h;omega
      omega
     refine⟨?_,fun o=>pI wr a3 _ _ _ _ _ _ o⟩;rcases a2 with h | h
     · exact .inl h
     exact .inr ⟨by omega,by rw[a1];exact h.2⟩
   intro b hb;have h3:=aU hown hb;exact .inr ⟨by omega,by rw[a1];exact h3.2.1⟩
 · exact hx.keep fun b hb=>⟨.inl hb,fun o=>a0.cell (p:=⟨b,o,Y⟩) (hR b hb)⟩
 exact hy.keep fun b hb=>⟨.inl hb,fun o=>a0.cell (p:=⟨b,o,Y⟩) (hR b hb)⟩
set_option maxRecDepth 100000 in
set_option maxHeartbeats 8000000 in
theorem M0 (t:Tr) (htok:eN t.n=true) (htall:dC t.k) (hts:4*aX t.k<=1000000000000) (m:Nat) (ih:∀(w:World) (R:Nat->Prop) (xs us:List Value) (n:Nd) (atoms:List Nd) (kids:Fo) (v d:Int),(∀b,R b->b<w.heap.size)->cR R w xs n atoms kids->cR R w us t.n t.a t.k->eN n=true->dC kids->0<=v->0<=d->v+4*aX kids<=1000000000000->d+4*aX kids<=1000000000000->aX kids<m →
      Calls Tryz.prog 124 #[.agg xs.toArray,.agg us.toArray,O S v,O S d] w (eZ R w (kJ t n v d) (rF t n atoms v d) (sI t n kids v d)))
 (w:World) (R:Nat->Prop) (xs us:List Value) (n:Nd) (atoms:List Nd) (kids:Fo) (v d:Int) (hR:∀b,R b->b<w.heap.size) (ht:cR R w xs n atoms kids) (hu:cR R w us t.n t.a t.k) (hok:eN n=true) (hall:dC kids) (hv0:0<=v) (hd0:0<=d) (hv1:v+4*aX kids<=1000000000000) (hd1:d+4*aX kids<=1000000000000) (hsz:aX kids<=m) :
 Calls Tryz.prog 124 #[.agg xs.toArray,.agg us.toArray,O S v,O S d] w (eZ R w (kJ t n v d) (rF t n atoms v d) (sI t n kids v d)):=by
 have HI:=aB ih;clear ih;have HU:=aB hu;have HT:=aB ht;have HR:=aB hR;obtain⟨uk,ua,uf,rfl,⟨Bk,mk,dk,rfl,_⟩,⟨Ba,ma,da,rfl,_⟩,⟨Bf,mf,df,rfl,_⟩⟩:=hu;obtain⟨sk,sa,sf,rfl,⟨Ak,nk,ck,rfl,d1⟩,⟨Aa,na,ca,rfl,e7⟩,⟨Af,nf,cf,rfl,e5⟩⟩:=ht;have e4:=(fM ((by simp only[eN,Bool.and_eq_true] at hok;exact hok.1.1):cD n.op n.a n.b=true));have b5:=aB (a7 w (.cells #[O S n.op,O S n.a,O S n.b,X Ak nk ck,X Aa na ca,X Af nf cf] 85) (.cells #[O S t.n.op,O S t.n.a,O S t.n.b,X Bk mk dk,X Ba ma da,X Bf mf df] 85));have c0:=aB (b5.o.alloc b5.o.size (.cells #[O S 0,O S 0,O S 0,X Y 0 0,X Y 0 0,X Y 0 0] 85));by_cases h1:n.op=1
 · have h5:(n.op==1)=true:=by simp[h1]
   have H1:=aB h1;have b6:d<=1000000000000:=aA;obtain⟨f9,f8⟩:=e4;have f2:=aB (And.intro hd0 b6);have e0:=aB ((aS.new' aD:aS (((w.alloc (.cells #[O S n.op,O S n.a,O S n.b,X Ak nk ck,X Aa na ca,X Af nf cf] 85)).alloc (.cells #[O S t.n.op,O S t.n.a,O S t.n.b,X Bk mk dk,X Ba ma da,X Bf mf df] 85)).alloc (.cells #[O S 0,O S 0,O S 0,X Y 0 0,X Y 0 0,X Y 0 0] 85)) (w.heap.size+1+1) 85 #[O S 0,O S 0,O S 0,X Y 0 0,X Y 0 0,X Y 0 0]));clear h1 hv1 hd1 hR d1 e7 e5;by_cases h2:n.a=v
   · have h4:(n.a==v)=true:=by simp[h2]
     have H2:=aB h2;clear h2 hd0 b6;go_in;go_wp2_with fail;refine (uR (R:=R) (fun b hb=>Nat.lt_of_lt_of_le (HR.o b hb) c0.o.size) (cR.keep HU.o fun b hb=>⟨hb,fun o=>c0.o.cell (p:=⟨b,o,Y⟩) (HR.o b hb)⟩) htok htall f2.o.1 f2.o.2 (Int.le_refl 0) aA).mono ?_;rintro e w3 ⟨b7,ys,rfl,c1⟩;have d8:=aB c1;obtain⟨sk3,sa3,sf3,rfl,⟨A3,n3,c3,rfl,d3⟩,⟨A4,n4,c4,rfl,d7⟩,⟨A5,n5,c5,rfl,d6⟩⟩:=c1;have d9:=aB (e0.o.below b7 aD);have f4:=aS.cell d9.o;have f3:=aS.frozen d9.o;have j4:=bZ c0 b7;clear d3 d7 d6 b7;go_wp2_with fail;refine bodyPost_ret (v:=.agg #[O S (kK d t.n 0).op,O S (kK d t.n 0).a,O S (kK d t.n 0).b,X A3 n3 c3,X A4 n4 c4,X A5 n5 c5]) ?_ rfl ?_
     · exact kN (g:=w.heap.size+1+1) ((((((d9.o.set_ 0 _).set_ 1 _).set_ 2 _).set_ 3 _).set_ 4 _).set_ 5 _) aD
     rw[kJ,rF,sI,if_pos H1.o,if_pos H1.o,if_pos H1.o,if_pos H2.o,if_pos H2.o,if_pos H2.o];exact qG HR.o aA aH j4.o d8.o
   have h4:(n.a==v)=false:=by simp[h2]
   have f4:=aS.cell e0.o;have f3:=aS.frozen e0.o;by_cases h3:v<n.a
   · have h0:decide (n.a>v)=true:=decide_eq_true h3;have k3:IntKind.i64.wrap (n.a-1)=n.a-1:=by rw[IntKind.wrap_i64];omega
     have H2:=aB h2;have H3:=aB h3;clear h2 h3;go_in;go_wp2_with fail;refine bodyPost_ret (v:=.agg #[O S 1,O S (n.a-1),O S 0,X Y 0 0,X Y 0 0,X Y 0 0]) ?_ rfl ?_
     · exact kN (g:=w.heap.size+1+1) (aS.new' aD) aD
     rw[kJ,rF,sI,if_pos H1.o,if_pos H1.o,if_pos H1.o,if_neg H2.o,if_neg H2.o,if_neg H2.o,if_pos H3.o,if_pos H3.o,if_pos H3.o];exact yF (n:=⟨1,n.a-1,0⟩) HR.o (b5.o.alloc b5.o.size _) (yE _)
   have h0:decide (n.a>v)=false:=decide_eq_false h3;have H2:=aB h2;have H3:=aB (Int.not_lt.1 h3);clear h2 h3;go_in;go_wp2_with fail;refine bodyPost_ret (v:=.agg #[O S n.op,O S n.a,O S n.b,X Ak nk ck,X Aa na ca,X Af nf cf]) ?_ rfl ?_
   · exact kN (g:=w.heap.size+1+1) (aS.new' aD) aD
   rw[kJ,rF,sI,if_pos H1.o,if_pos H1.o,if_pos H1.o,if_neg H2.o,if_neg H2.o,if_neg H2.o,if_neg (Int.not_lt.2 H3.o),if_neg (Int.not_lt.2 H3.o),if_neg (Int.not_lt.2 H3.o)];exact yF HR.o (b5.o.alloc b5.o.size _) HT.o
 have h5:(n.op==1)=false:=by simp[h1]
 have H1:=aB h1;have i4:=aB (And.intro hv0 (And.intro hv1 (And.intro hd0 hd1)));have i7:=aB hsz;have f1:=aB d1.len;have i9:=aB hok;have j5:=aB hall;have k4:v<=1000000000000:=aA;have k8:d<=1000000000000:=aA;have k5:nk<=1000000000000:=by
  have h1:=e8 kids;have h2:=d1.len;omega
 obtain⟨i0,hi,e3,e2,e1⟩:=info_parts Tryz.infoT;have j1:=aB hi;have i3:=aB e3;have i2:=aB e2;have i1:=aB e1;clear h1 hv1 hd1 hsz hok e4 hall hi e3 e2 e1;go_in;go_wp2_with fail;go_loopw [10] (fun i wr=>∃(F1 F2:Fo) (j:Nat) (A1:Option Addr) (k1:Nat) (xs1:List Value),i=O S (j:Int)/\Hid (kids=F1.app F2)/\Hid (bF F1=j)/\j<=nk/\Hid (Below w.heap.size w wr) ∧
  Hid (aS wr w.heap.size 85 #[O S n.op,O S n.a,O S n.b,X Ak nk ck,X Aa na ca,X Af nf cf]) ∧
  Hid (aS wr (w.heap.size+1) 85 #[O S t.n.op,O S t.n.a,O S t.n.b,X Bk mk dk,X Ba ma da,X Bf mf df]) ∧
  Hid (aS wr (w.heap.size+1+1) 85 #[O S 0,O S 0,O S 0,X Y 0 0,X Y 0 0,X Y 0 0]) ∧
  Hid (aS wr (w.heap.size+1+1+1) 85 #[O S n.op,O S n.a,O S n.b,X A1 j k1,X Aa na ca,X Af nf cf]) ∧
  Hid (wr.ownsRow (w.heap.size+4) 85 6 (X A1 j k1) j xs1)/\Hid (kP (nD R (w.heap.size+4) wr (X A1 j k1)) wr (qA t n.op n.b 0 v d F1) xs1)) (fun i _=>nk-(intOf i).toNat)
 case atStart =>
  refine⟨.nil,kids,0,Y,0,[],rfl,aB rfl,aB rfl,Nat.zero_le _,aB (c0.o.alloc c0.o.size _),aB ((((aS.new _ _ _).alloc _).alloc _).alloc _),aB (((aS.new' aD).alloc _).alloc _),aB ((aS.new' aD).alloc _),aB (aS.new' aD),aB (World.ownsRow_nil _ _ _ _),aB rfl⟩
 case round =>
  clear b5 c0;obtain⟨F1,F2,j,A1,k1,xs1,rfl,hk,hj,k7,b2,b1,a0,a4,a1,a6,e6⟩:=hrel;have c7:=d1.keep (R':=R) (w':=wr) (fun b hb=>⟨hb,fun o=>b2.o.cell (p:=⟨b,o,Y⟩) (HR.o b hb)⟩);have f6:w.heap.size+1+1+1<wr.heap.size:=aS.lt a1.o;cases F2 with
  | nil =>
   have d4:j=nk:=by rw[<-f1.o,hk.o,bV,hj.o];rfl
   have b6:decide (j<nk)=false:=decide_eq_false aA;have zc:=aS.cell b1.o;have j9:=aS.cell a4.o;have j7:=aS.frozen a4.o;have j8:=aS.cell a1.o;clear d4;go_wp2_with fail;have c2:kids=F1:=by rw[hk.o,jJ]
   refine bodyPost_ret (v:=.agg #[O S n.op,O S n.a,O S n.b,X A1 j k1,X Aa na ca,X Af nf cf]) ?_ rfl ?_
   · exact kN (g:=w.heap.size+1+1) ((((((a4.o.set_ 0 _).set_ 1 _).set_ 2 _).set_ 3 _).set_ 4 _).set_ 5 _) aD
   rw[kJ,rF,sI,if_neg H1.o,if_neg H1.o,if_neg H1.o,c2];exact PK HR.o aA aA b2.o a6.o (by rw[wP];exact hj.o) e6.o ⟨Aa,na,ca,rfl,e7⟩ ⟨Af,nf,cf,rfl,by rw[uB,<-c2];exact e5⟩
  | cons pre nd ats ks F2 =>
   have k6:j<nk:=by rw[<-f1.o,hk.o,bV,hj.o];simp[bF]
   obtain⟨l0,k9⟩:=eA i9.o (j:Int);have c8:dM R wr Ak nk ck (F1.app (.cons pre nd ats ks F2)):=by rw[<-hk.o];exact c7
   obtain⟨b,off,sk',sa',sf',rfl,f7,b3,g0,g1,g2,g3,g4,g5⟩:=c8.at_;rw[hj.o] at g0 g1 g2 g3 g4 g5;obtain⟨_,c6,b4,_⟩:=(dC.app F1 _).1 (hk.o ▸ j5.o);have g8:b<w.heap.size:=hR b f7;have f0:=aB (And.intro c6 b4);have g6:aX F1+(aX ks+aX F2+1)=aX kids:=by rw[hk.o,dO];simp only[aX]
   obtain⟨f5,d2,g7,d5⟩:=i4.o;have hsz:=i7.o;have c9:Hid (aX ks<m/\0<=v+aR n.op n.b (j:Int)/\0<=d+aR n.op n.b (j:Int)/\v+aR n.op n.b (j:Int)+4*aX ks<=1000000000000/\d+aR n.op n.b (j:Int)+4*aX ks<=1000000000000):=aB aA;have k0:IntKind.i64.wrap (v+aR n.op n.b (j:Int))=v+aR n.op n.b (j:Int):=IntWalk.i64_in _ aA;have k2:IntKind.i64.wrap (d+aR n.op n.b (j:Int))=d+aR n.op n.b (j:Int):=IntWalk.i64_in _ aA;have i6:=aB (fun (W:World) (hW:Below wr.heap.size wr W)=>(b3.keep fun b' hb'=>⟨hb',fun o=>hW.cell (p:=⟨b',o,Y⟩) (Nat.lt_of_lt_of_le (hR b' hb') b2.o.size)⟩:cR R W [O S nd.op,O S nd.a,O S nd.b,sk',sa',sf'] nd ats ks));have i5:=aB (fun (W:World) (hW:Below wr.heap.size wr W)=>(cR.keep HU.o fun b' hb'=>⟨hb',fun o=>(hW.cell (p:=⟨b',o,Y⟩) (Nat.lt_of_lt_of_le (hR b' hb') b2.o.size)).trans (b2.o.cell (p:=⟨b',o,Y⟩) (hR b' hb'))⟩:cR R W [O S t.n.op,O S t.n.a,O S t.n.b,X Bk mk dk,X Ba ma da,X Bf mf df] t.n t.a t.k));have i8:=aB (fun (W:World) (hW:Below wr.heap.size wr W) (b':Nat) (hb':R b')=>(Nat.lt_of_lt_of_le (hR b' hb') (Nat.le_trans b2.o.size hW.size):b'<W.heap.size));have b8:=aB (fun (W:World) (hW:Below wr.heap.size wr W)=>(by
    have hB:∀q,q<wr.heap.size->∀o,W.cell? ⟨q,o,Y⟩=wr.cell? ⟨q,o,Y⟩:=fun q hq o=>hW.cell (p:=⟨q,o,Y⟩) hq;have a8:b<wr.heap.size:=Nat.lt_of_lt_of_le g8 b2.o.size;exact⟨(hB _ aA _).trans (b1.o.cell 3),(hB _ aA _).trans (a0.o.cell 0),(hB _ aA _).trans (a0.o.cell 1),(hB _ aA _).trans (a0.o.cell 2),(hB _ aA _).trans (a0.o.cell 3),(hB _ aA _).trans (a0.o.cell 4),(hB _ aA _).trans (a0.o.cell 5),(hB _ aA _).trans (a1.o.cell 3),(hB _ a8 _).trans g0,(hB _ a8 _).trans g1,(hB _ a8 _).trans g2,(hB _ a8 _).trans g3,(hB _ a8 _).trans g4,(hB _ a8 _).trans g5⟩:W.cell? ⟨w.heap.size,3,Y⟩=Z (X (Z ⟨b,off,Y⟩) nk ck)/\W.cell? ⟨w.heap.size+1,0,Y⟩=Z (O S t.n.op)/\W.cell? ⟨w.heap.size+1,1,Y⟩=Z (O S t.n.a)/\W.cell? ⟨w.heap.size+1,2,Y⟩=Z (O S t.n.b)/\W.cell? ⟨w.heap.size+1,3,Y⟩=Z (X Bk mk dk)/\W.cell? ⟨w.heap.size+1,4,Y⟩=Z (X Ba ma da)/\W.cell? ⟨w.heap.size+1,5,Y⟩=Z (X Bf mf df)/\W.cell? ⟨w.heap.size+1+1+1,3,Y⟩=Z (X A1 j k1)/\W.cell? ⟨b,off+j*6,Y⟩=Z (O S nd.op)/\W.cell? ⟨b,off+j*6+1,Y⟩=Z (O S nd.a)/\W.cell? ⟨b,off+j*6+2,Y⟩=Z (O S nd.b)/\W.cell? ⟨b,off+j*6+3,Y⟩=Z sk'/\W.cell? ⟨b,off+j*6+4,Y⟩=Z sa'/\W.cell? ⟨b,off+j*6+5,Y⟩=Z sf'))
   have zc:=aS.cell b1.o;clear c8 c7 hsz f5 d2 g7 d5 g6 c6 b4 g0 g1 g2 g3 g4 g5 b3;go_wp2_with fail;refine (jV _ _ _ _ _ aA).mono ?_;rintro e w2 ⟨he,d0⟩;subst he;have b6:Below wr.heap.size wr w2:=by first | (rw[d0];exact aP _ _) | (rw[<-d0];exact aP _ _) | (subst d0;exact aP _ _)
   have b9:=aB (aT b6 1);clear d0 b6 zc;go_wp2_with fail;refine fQ 18 (fun w'=>w'.cell? ⟨w.heap.size,3,Y⟩=Z (X (Z ⟨b,off,Y⟩) nk ck)/\w'.cell? ⟨w.heap.size+1,0,Y⟩=Z (O S t.n.op)/\w'.cell? ⟨w.heap.size+1,1,Y⟩=Z (O S t.n.a)/\w'.cell? ⟨w.heap.size+1,2,Y⟩=Z (O S t.n.b)/\w'.cell? ⟨w.heap.size+1,3,Y⟩=Z (X Bk mk dk)/\w'.cell? ⟨w.heap.size+1,4,Y⟩=Z (X Ba ma da)/\w'.cell? ⟨w.heap.size+1,5,Y⟩=Z (X Bf mf df)/\w'.cell? ⟨w.heap.size+1+1+1,3,Y⟩=Z (X A1 j k1)/\w'.cell? ⟨b,off+j*6,Y⟩=Z (O S nd.op)/\w'.cell? ⟨b,off+j*6+1,Y⟩=Z (O S nd.a)/\w'.cell? ⟨b,off+j*6+2,Y⟩=Z (O S nd.b)/\w'.cell? ⟨b,off+j*6+3,Y⟩=Z sk'/\w'.cell? ⟨b,off+j*6+4,Y⟩=Z sa'/\w'.cell? ⟨b,off+j*6+5,Y⟩=Z sf') aC ?_ (fun hZ => ?_)
   · (try dsimp only);exact b8.o _ b9.o
   refine aN 0 hZ ?_;refine aN 1 hZ ?_;refine aN 2 hZ ?_;refine aN 3 hZ ?_;refine aN 4 hZ ?_;refine aN 5 hZ ?_;refine aN 6 hZ ?_;refine aN 7 hZ ?_;refine aN 8 hZ ?_;refine aN 9 hZ ?_;refine aN 10 hZ ?_;refine aN 11 hZ ?_;refine aN 12 hZ ?_;refine aN 13 hZ ?_;refine bQ (i:=14) aC rfl rfl (fun K hK => ?_);go_simp;go_at_call 124
   refine (HI.o _ R [O S nd.op,O S nd.a,O S nd.b,sk',sa',sf'] [O S t.n.op,O S t.n.a,O S t.n.b,X Bk mk dk,X Ba ma da,X Bf mf df] nd ats ks _ _ (i8.o _ b9.o) (i6.o _ b9.o) (i5.o _ b9.o) f0.o.1 f0.o.2 c9.o.2.1 c9.o.2.2.1 c9.o.2.2.2.1 c9.o.2.2.2.2 c9.o.1).mono ?_;rintro e w3 ⟨b7,ys,rfl,c1⟩;have d8:=aB c1;obtain⟨sk3,sa3,sf3,rfl,⟨A3,n3,c3,rfl,d3⟩,⟨A4,n4,c4,rfl,d7⟩,⟨A5,n5,c5,rfl,d6⟩⟩:=c1;have a3:=bZ b9 b7;have g9:=a3.o.size;clear d3 d7 d6 b7;go_wp2_with fail;refine hK.o _ _ (fun _ => ?_) ?_
   · (try dsimp only);exact b8.o _ a3.o
   clear hK K;try simp only[p7]
   replace hZ:=b8.o _ a3.o
   refine bQ (i:=15) aC rfl rfl (fun K hK => ?_);go_simp;refine hK.o _ _ (fun _ => ?_) ?_
   · (try dsimp only);exact b8.o _ (a3.o.alloc a3.o.size (.cells #[O S (kJ t nd (v+aR n.op n.b (j:Int)) (d+aR n.op n.b (j:Int))).op,O S (kJ t nd (v+aR n.op n.b (j:Int)) (d+aR n.op n.b (j:Int))).a,O S (kJ t nd (v+aR n.op n.b (j:Int)) (d+aR n.op n.b (j:Int))).b,X A3 n3 c3,X A4 n4 c4,X A5 n5 c5] 85))
   clear hK K;try simp only[p7]
   replace hZ:=b8.o _ (a3.o.alloc a3.o.size (.cells #[O S (kJ t nd (v+aR n.op n.b (j:Int)) (d+aR n.op n.b (j:Int))).op,O S (kJ t nd (v+aR n.op n.b (j:Int)) (d+aR n.op n.b (j:Int))).a,O S (kJ t nd (v+aR n.op n.b (j:Int)) (d+aR n.op n.b (j:Int))).b,X A3 n3 c3,X A4 n4 c4,X A5 n5 c5] 85))
   refine bQ (i:=16) aC rfl rfl (fun K hK => ?_);refine fL (.tmp 55) (.tmp 69) 83 rfl (w.heap.size+4) i0 _ Tryz.underlying83 j1.o i3.o i2.o i1.o rfl (X A1 j k1) j xs1 [O S (kJ t nd (v+aR n.op n.b (j:Int)) (d+aR n.op n.b (j:Int))).op,O S (kJ t nd (v+aR n.op n.b (j:Int)) (d+aR n.op n.b (j:Int))).a,O S (kJ t nd (v+aR n.op n.b (j:Int)) (d+aR n.op n.b (j:Int))).b,X A3 n3 c3,X A4 n4 c4,X A5 n5 c5] aF (DI _ _ _ (A3,n3,c3) (A4,n4,c4) (A5,n5,c5)) w3 aF aF (cB a6.o a3.o) _ aF aF aA aA ?_;intro A' c' w' a2;have a5:∀g,g<w.heap.size+4->∀o,w'.cell? ⟨g,o,Y⟩=w3.cell? ⟨g,o,Y⟩:=fun g hg o=>World.cell?_of_block (a2.grown.block g aA (eY (cB a6.o a3.o) hg));have hq:=b8.o _ a3.o;have e9:w'.cell? ⟨w.heap.size,3,Y⟩=Z (X (Z ⟨b,off,Y⟩) nk ck)/\w'.cell? ⟨w.heap.size+1,0,Y⟩=Z (O S t.n.op)/\w'.cell? ⟨w.heap.size+1,1,Y⟩=Z (O S t.n.a)/\w'.cell? ⟨w.heap.size+1,2,Y⟩=Z (O S t.n.b)/\w'.cell? ⟨w.heap.size+1,3,Y⟩=Z (X Bk mk dk)/\w'.cell? ⟨w.heap.size+1,4,Y⟩=Z (X Ba ma da)/\w'.cell? ⟨w.heap.size+1,5,Y⟩=Z (X Bf mf df)/\w'.cell? ⟨w.heap.size+1+1+1,3,Y⟩=Z (X A1 j k1)/\w'.cell? ⟨b,off+j*6,Y⟩=Z (O S nd.op)/\w'.cell? ⟨b,off+j*6+1,Y⟩=Z (O S nd.a)/\w'.cell? ⟨b,off+j*6+2,Y⟩=Z (O S nd.b)/\w'.cell? ⟨b,off+j*6+3,Y⟩=Z sk'/\w'.cell? ⟨b,off+j*6+4,Y⟩=Z sa'/\w'.cell? ⟨b,off+j*6+5,Y⟩=Z sf':=⟨(a5 _ aA _).trans hq.1,(a5 _ aA _).trans hq.2.1,(a5 _ aA _).trans hq.2.2.1,(a5 _ aA _).trans hq.2.2.2.1,(a5 _ aA _).trans hq.2.2.2.2.1,(a5 _ aA _).trans hq.2.2.2.2.2.1,(a5 _ aA _).trans hq.2.2.2.2.2.2.1,(a5 _ aA _).trans hq.2.2.2.2.2.2.2.1,(a5 _ aA _).trans hq.2.2.2.2.2.2.2.2.1,(a5 _ aA _).trans hq.2.2.2.2.2.2.2.2.2.1,(a5 _ aA _).trans hq.2.2.2.2.2.2.2.2.2.2.1,(a5 _ aA _).trans hq.2.2.2.2.2.2.2.2.2.2.2.1,(a5 _ aA _).trans hq.2.2.2.2.2.2.2.2.2.2.2.2.1,(a5 _ aA _).trans hq.2.2.2.2.2.2.2.2.2.2.2.2.2⟩;have j6:w'.frozen? ⟨w.heap.size+1+1+1,3,Y⟩=false:=aS.frozen ((a1.o.below a3.o a1.o.lt).grown a2.grown (eY (cB a6.o a3.o) aA)) 3;clear hq a5;refine hK.o _ _ (fun _ => ?_) ?_
   · (try dsimp only);exact e9
   clear hK K;try simp only[p7]
   replace hZ:=e9
   refine aN 17 hZ ?_;refine bQ (i:=18) aC rfl rfl (fun K hK => ?_);go_simp;refine hK.o _ _ (fun h=>absurd rfl h) ?_;clear hK K;try simp only[p7]
   refine gK aC ?_ _;have a9:=cB a6.o a3.o;have b0:∀g,g<w.heap.size+4->Z g ≠ (Value.slice A1 j k1).ownBlock:=fun g hg e=>by have:=(aU a9 e.symm).1;omega
   have j3:=aB (((b2.o.trans (a3.o.mono b2.o.size)).grown a2.grown (by have:=b2.o.size;omega) (fun g hg=>by have:=(aU a9 hg).1;omega)).setCell (p:=⟨w.heap.size+1+1+1,3,Y⟩) (show w.heap.size<=w.heap.size+1+1+1 by omega) (X A' (j+1) c'));have h9:=aB (((b1.o.below a3.o b1.o.lt).grown a2.grown (b0 _ aA)).far (p:=⟨w.heap.size+1+1+1,3,Y⟩) (show w.heap.size ≠ w.heap.size+1+1+1 by omega) (X A' (j+1) c'));have h6:=aB (((a0.o.below a3.o a0.o.lt).grown a2.grown (b0 _ aA)).far (p:=⟨w.heap.size+1+1+1,3,Y⟩) (show w.heap.size+1 ≠ w.heap.size+1+1+1 by omega) (X A' (j+1) c'));have h8:=aB (((a4.o.below a3.o a4.o.lt).grown a2.grown (b0 _ aA)).far (p:=⟨w.heap.size+1+1+1,3,Y⟩) (show w.heap.size+1+1 ≠ w.heap.size+1+1+1 by omega) (X A' (j+1) c'));have h7:=aB (((a1.o.below a3.o a1.o.lt).grown a2.grown (b0 _ aA)).set_ 3 (X A' (j+1) c'));have j0:=aB (ownsRow_setCell_below a2.own (a:=⟨w.heap.size+1+1+1,3,Y⟩) (show w.heap.size+1+1+1<w.heap.size+4 by omega) (X A' (j+1) c'));have j2:=aB (wQ (B0:=w.heap.size) (B:=w.heap.size+4) e6.o d8.o b9.o.size a3.o aA hR aA a6.o (Below.refl _ _) a2 (wf:=w'.setCell ⟨w.heap.size+1+1+1,3,Y⟩ (X A' (j+1) c')) (pre:=pre) (fun g hg o=>World.cell?_setCell_other _ _ _ _ (fun hh=>by injection hh with hh;omega)) (by simp[World.setCell]));clear a2 b0 a9;go_wp2_with fail;go_roundw
   case rel =>
    refine⟨F1.app (.cons pre nd ats ks .nil),F2,j+1,A',c',_,by go_num,aB (by rw[hk.o,dG];rfl),aB (by rw[bV];simp[bF,hj.o]),by omega,j3,h9,h6,h8,h7,j0,aB ?_⟩;rw[CR,hj.o,Nat.zero_add,jS];exact j2.o
   case measure=>simp[intOf];omega
theorem G6 (t:Tr) (htok:eN t.n=true) (htall:dC t.k) (hts:4*aX t.k<=1000000000000) : ∀(m:Nat) (w:World) (R:Nat->Prop) (xs us:List Value) (n:Nd) (atoms:List Nd) (kids:Fo) (v d:Int),(∀b,R b->b<w.heap.size)->cR R w xs n atoms kids->cR R w us t.n t.a t.k->eN n=true->dC kids->0<=v->0<=d->v+4*aX kids<=1000000000000->d+4*aX kids<=1000000000000->aX kids<m →
      Calls Tryz.prog 124 #[.agg xs.toArray,.agg us.toArray,O S v,O S d] w (eZ R w (kJ t n v d) (rF t n atoms v d) (sI t n kids v d))
 | 0,_,_,_,_,_,_,_,_,_,_,_,_,_,_,_,_,_,_,h=>absurd h (Nat.not_lt_zero _)
 | m+1,w,R,xs,us,n,atoms,kids,v,d,h1,h2,h3,h4,h5,h6,h7,h8,h9,h10=>M0 t htok htall hts m (G6 t htok htall hts m) w R xs us n atoms kids v d h1 h2 h3 h4 h5 h6 h7 h8 h9 aA
end
abbrev bI (x:TT):Nat:=(aW x).length
theorem dL (n:Nd) (a:List Nd) (k:Fo):bI (n,a,k)=1+a.length+(row k).length:=by
 simp only[bI,aW,List.length_cons,List.length_append];omega
theorem e7 (p:List Nd) (n:Nd) (a:List Nd) (k x:Fo):(row (.cons p n a k x)).length=p.length+bI (n,a,k)+(row x).length:=by
 simp only[row,List.length_append,List.length_cons,bI,aW];omega
theorem rN:∀{k:Fo} {y:TT},y ∈ cI k->bI y<=(row k).length
 | .nil,y,h=>by cases h
 | .cons p n a k x,y,h=>by
  rw[e7];rw[show cI (.cons p n a k x)=(n,a,k)::cI x from rfl] at h;rcases List.mem_cons.1 h with rfl | h
  · omega
  · have:=rN h;omega
def bU (x:TT):TT×List TT:=hd (bI x) x
theorem GS:∀(m m':Nat) (x:TT),bI x<=m->bI x<=m'->hd m x=hd m' x
 | 0,_,(n,a,k),h,_=>by rw[dL] at h;omega
 | _+1,0,(n,a,k),_,h=>by rw[dL] at h;omega
 | m+1,m'+1,(n,a,.nil),_,_=>rfl
 | m+1,m'+1,(n,a,.cons p n1 a1 k1 .nil),_,_=>rfl
 | m+1,m'+1,(n,a,.cons p n1 a1 k1 (.cons q n2 a2 k2 r)),h,h'=>by
  simp only[hd];rw[dL,e7] at h h';split
  · rw[GS m m' (n1,a1,k1) aA aA]
  · rfl
theorem BU {m:Nat} {x:TT} (h:bI x<=m):hd m x=bU x:=GS _ _ _ h (Nat.le_refl _)
theorem pS {x:TT} (h:x.1.op ≠ 6):bU x=(x,[]):=O3 h
theorem GR {n n1 n2:Nd} {a a1 a2 p q:List Nd} {k1 k2 r:Fo} (h:n.op=6):bU (n,a,.cons p n1 a1 k1 (.cons q n2 a2 k2 r))=((bU (n1,a1,k1)).1,(bU (n1,a1,k1)).2++[(n2,a2,k2)]):=by
 have h0:bI (n,a,.cons p n1 a1 k1 (.cons q n2 a2 k2 r))=1+a.length+(p.length+bI (n1,a1,k1)+(row (.cons q n2 a2 k2 r)).length):=by rw[dL,e7]
 rw[<-BU (m:=bI (n,a,.cons p n1 a1 k1 (.cons q n2 a2 k2 r))-1+1) (x:=(n,a,.cons p n1 a1 k1 (.cons q n2 a2 k2 r))) aA];simp only[hd];rw[if_pos h,BU aA]
section
structure iE where
 Ak:Option Addr
 nk:Nat
 ck:Nat
 Aa:Option Addr
 na:Nat
 ca:Nat
 Af:Option Addr
 nf:Nat
 cf:Nat
abbrev TA:TT:=(default,[],.nil)
def cU (F:Fo) (j:Nat):TT:=(cI F).getD j TA
structure P6 (w:World) (b o:Nat) (t:iE) (n:Nd):Prop where
 c0:w.cell? ⟨b,o,Y⟩=Z (O S n.op)
 c1:w.cell? ⟨b,o+1,Y⟩=Z (O S n.a)
 c2:w.cell? ⟨b,o+2,Y⟩=Z (O S n.b)
 c3:w.cell? ⟨b,o+3,Y⟩=Z (X t.Ak t.nk t.ck)
 c4:w.cell? ⟨b,o+4,Y⟩=Z (X t.Aa t.na t.ca)
 c5:w.cell? ⟨b,o+5,Y⟩=Z (X t.Af t.nf t.cf)
theorem P6.below {w w':World} {B b o:Nat} {t:iE} {n:Nd} (h:P6 w b o t n) (hb:Below B w w') (hlt:b<B):P6 w' b o t n :=
 ⟨(hb.cell (p:=⟨b,o,Y⟩) hlt).trans h.c0,(hb.cell (p:=⟨b,o+1,Y⟩) hlt).trans h.c1,(hb.cell (p:=⟨b,o+2,Y⟩) hlt).trans h.c2,(hb.cell (p:=⟨b,o+3,Y⟩) hlt).trans h.c3,(hb.cell (p:=⟨b,o+4,Y⟩) hlt).trans h.c4,(hb.cell (p:=⟨b,o+5,Y⟩) hlt).trans h.c5⟩
theorem wO:∀(F:Fo),(cI F).length=bF F
 | .nil=>rfl
 | .cons _ n a k x=>by simp only[cI,List.length_cons,bF,wO x]
theorem sD.nth_ {R:Nat->Prop} {w:World} : ∀(F:Fo) (b off j:Nat),sD R w F b off->j<bF F->∃t:iE,P6 w b (off+j*6) t (cU F j).1/\cR R w [O S (cU F j).1.op,O S (cU F j).1.a,O S (cU F j).1.b,X t.Ak t.nk t.ck,X t.Aa t.na t.ca,X t.Af t.nf t.cf] (cU F j).1 (cU F j).2.1 (cU F j).2.2
 | .nil,_,_,_,_,h=>absurd h (Nat.not_lt_zero _)
 | .cons p n a k x,b,off,0,h,_=>by
  obtain⟨⟨h0,h1,h2⟩,⟨A',c',h3,a3,a2⟩,⟨v,h4,⟨Av,nv,cv,rfl,a1⟩⟩,⟨u,h5,⟨Au,nu,cu,rfl,a0⟩⟩,_⟩:=h;refine⟨⟨A',bF k,c',Av,nv,cv,Au,nu,cu⟩,⟨?_,?_,?_,?_,?_,?_⟩,⟨_,_,_,rfl,⟨A',_,c',rfl,⟨rfl,a3,a2⟩⟩,⟨_,_,_,rfl,a1⟩,⟨_,_,_,rfl,a0⟩⟩⟩;all_goals rw[Nat.zero_mul,Nat.add_zero]
  all_goals assumption
 | .cons p n a k x,b,off,j+1,h,hj=>by
  obtain⟨_,_,_,_,h5⟩:=h;obtain⟨t,h6,h7⟩:=sD.nth_ x b (off+6) j h5 (by simpa[bF] using hj);rw[show off+6+j*6=off+(j+1)*6 from by omega] at h6;exact⟨t,h6,h7⟩
abbrev bH (t:iE) (n:Nd):Array Value:=#[O S n.op,O S n.a,O S n.b,X t.Ak t.nk t.ck,X t.Aa t.na t.ca,X t.Af t.nf t.cf]
theorem cJ {w:World} {g:Nat} {a0 a1 a2 a3 a4 a5:Value} (h:aS w g 85 #[a0,a1,a2,a3,a4,a5]) (x0 x1 x2 x3 x4 x5:Value):aS ((((((w.setCell ⟨g,0,Y⟩ x0).setCell ⟨g,1,Y⟩ x1).setCell ⟨g,2,Y⟩ x2).setCell ⟨g,3,Y⟩ x3).setCell ⟨g,4,Y⟩ x4).setCell ⟨g,5,Y⟩ x5) g 85 #[x0,x1,x2,x3,x4,x5]:=by
 have:=(((((h.set_ 0 x0).set_ 1 x1).set_ 2 x2).set_ 3 x3).set_ 4 x4).set_ 5 x5;simpa using this
theorem eR (w:World) (g:Nat) (x0 x1 x2 x3 x4 x5:Value):w.grownBy ((((((w.setCell ⟨g,0,Y⟩ x0).setCell ⟨g,1,Y⟩ x1).setCell ⟨g,2,Y⟩ x2).setCell ⟨g,3,Y⟩ x3).setCell ⟨g,4,Y⟩ x4).setCell ⟨g,5,Y⟩ x5) (Z g) :=
 (((((fV _ g 0 x0).trans (fV _ g 1 x1)).trans (fV _ g 2 x2)).trans (fV _ g 3 x3)).trans (fV _ g 4 x4)).trans (fV _ g 5 x5)

theorem RD {n n1 n2:Nd} {a a1 a2:List Nd} {k1 k2:Fo}:bI (n1,a1,k1)<bI (n,a,.cons [] n1 a1 k1 (.cons [] n2 a2 k2 .nil))/\bI (n2,a2,k2)<bI (n,a,.cons [] n1 a1 k1 (.cons [] n2 a2 k2 .nil)):=by
 have h0:=dL n a (Fo.cons [] n1 a1 k1 (Fo.cons [] n2 a2 k2 Fo.nil));rw[e7,e7] at h0;simp only[List.length_nil] at h0;omega
end
end Go.Proofs.YtjoddliplahgkaaGreat
