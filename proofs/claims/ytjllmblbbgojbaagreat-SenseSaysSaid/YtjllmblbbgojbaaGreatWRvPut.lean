/- Put of the reference: a tree in the place of a variable. -/
import Derived.Test.YtjllmblbbgojbaaGreatWShort3
import Derived.Test.YtjllmblbbgojbaaGreatWRefGd
import Derived.Test.YtjllmblbbgojbaaGreatWRaise
import Derived.Test.YtjllmblbbgojbaaGreatWBase
namespace Go.Proofs.YtjllmblbbgojbaaGreat
open Go.Value renaming int → O, slice → X
open Go.IntKind renaming i64 → S
open Option renaming none → Y, some → Z
open Go.Lib (hid)
open Go.RowKit
theorem jE {w:World} {g:Nat} {c0 c1 c2 c3 c4 c5:Value} {tmps:Array Value} (h:aD w g 49 #[c0,c1,c2,c3,c4,c5]) (ht:tmps.getD 8 undef=.pointer (Z ⟨g,0,Y⟩)) :
 (results Tryz.f109 tmps).run Tryz.prog w=.ok (.agg #[c0,c1,c2,c3,c4,c5]) w:=by
 have hc:=h.cell;have ht':tmps[8]?.getD undef=.pointer (Z ⟨g,0,Y⟩):=by rw [<-ht];simp
 simp [results,Tryz.results109,go_sem,ht',hc]
theorem AB {R:Nat->Prop} {w V W:World} {g:Nat} {n:Nd} {ats:List Nd} {ks:Fo} {c0 c1 c2 c3 c4 c5:Value} (hR:∀ b,R b->b<w.heap.size) (hg0:w.heap.size<=g) (hg1:g<V.heap.size) (hb:Below w.heap.size w W) (ht:bP (aK R V W) W [c0,c1,c2,c3,c4,c5] n ats ks) :
 eK R w n ats ks (.returned (.agg #[c0,c1,c2,c3,c4,c5])) ((((((W.setCell ⟨g,0,Y⟩ c0).setCell ⟨g,1,Y⟩ c1).setCell ⟨g,2,Y⟩ c2).setCell ⟨g,3,Y⟩ c3).setCell ⟨g,4,Y⟩ c4).setCell ⟨g,5,Y⟩ c5):=by
 refine ⟨dL hb hg0 c0 c1 c2 c3 c4 c5,_,rfl,bP.keep ht fun b hb2 => ?_⟩;have hne:b ≠ g:=by
  rcases hb2 with h | h
  · have:=hR b h;omega
  have:=h.1;omega
 refine ⟨?_,fun o=>nG W hne _ _ _ _ _ _ o⟩;rcases hb2 with h | h
 · exact .inl h
 exact .inr ⟨by have:=h.1;omega,by rw [iE];exact h.2⟩
theorem vD {R:Nat->Prop} {w W:World} {n:Nd} {ats:List Nd} {ks:Fo} {c0 c1 c2 c3 c4 c5:Value} (hR:∀ b,R b->b<w.heap.size) (hb:Below w.heap.size w W) (ht:bP R w [c0,c1,c2,c3,c4,c5] n ats ks) :
 eK R w n ats ks (.returned (.agg #[c0,c1,c2,c3,c4,c5])) W :=
 ⟨hb,_,rfl,bP.keep ht fun b hb2=>⟨.inl hb2,fun o=>hb.cell (p:=⟨b,o,Y⟩) (hR b hb2)⟩⟩
theorem LL {R:Nat->Prop} {w wr:World} {n:Nd} {ats:List Nd} {G:Fo} {A1:Option Addr} {j k1 g B:Nat} {x y:Value} {xs:List Value} (hR:∀ b,R b->b<w.heap.size) (hg0:w.heap.size<=g) (hg1:g<B) (hbw:Below w.heap.size w wr)
 (hown:wr.ownsRow B 49 6 (X A1 j k1) j xs) (hj:aT G=j) (hfc:iG (lE R B wr (X A1 j k1)) wr G xs) (hx:fK R w x ats) (hy:fK R w y (bO G)) :
 eK R w n ats G (.returned (.agg #[O S n.op,O S n.a,O S n.b,X A1 j k1,x,y])) ((((((wr.setCell ⟨g,0,Y⟩ (O S n.op)).setCell ⟨g,1,Y⟩ (O S n.a)).setCell ⟨g,2,Y⟩ (O S n.b)).setCell ⟨g,3,Y⟩ (X A1 j k1)).setCell ⟨g,4,Y⟩ x).setCell ⟨g,5,Y⟩ y):=by
 have hw6:=iE wr g (O S n.op) (O S n.a) (O S n.b) (X A1 j k1) x y;have hb6:=dL hbw hg0 (O S n.op) (O S n.a) (O S n.b) (X A1 j k1) x y;have hO:=qL hown hg1 (O S n.op) (O S n.a) (O S n.b) (X A1 j k1) x y;refine ⟨hb6,_,rfl,_,_,_,rfl,?_,?_,?_⟩
 · refine eZ (by rw [hj];exact hO) (iG.keep ?_ _ _ hfc) ?_
   · rintro b ⟨hb1,_⟩;have hne:b ≠ g:=by
      rcases hb1 with h | h
      · have:=hR b h;omega
      omega
     refine ⟨?_,fun o=>nG wr hne _ _ _ _ _ _ o⟩;rcases hb1 with h | h
     · exact .inl h
     exact .inr ⟨by omega,by rw [hw6];exact h.2⟩
   intro b hb;have h3:=aE hown hb;exact .inr ⟨by omega,by rw [hw6];exact h3.2.1⟩
 · exact hx.keep fun b hb=>⟨.inl hb,fun o=>hb6.cell (p:=⟨b,o,Y⟩) (hR b hb)⟩
 exact hy.keep fun b hb=>⟨.inl hb,fun o=>hb6.cell (p:=⟨b,o,Y⟩) (hR b hb)⟩
set_option linter.unusedSimpArgs false in
set_option linter.unusedVariables false in
set_option maxRecDepth 100000 in
set_option maxHeartbeats 8000000 in
theorem I4 (t:Tr) (htok:dG t.n=true) (htall:cL t.k) (hts:4*aL t.k<=1000000000000) (m:Nat) (ih:∀ (w:World) (R:Nat->Prop) (xs us:List Value) (n:Nd) (atoms:List Nd) (kids:Fo) (v d:Int),(∀ b,R b->b<w.heap.size)->bP R w xs n atoms kids->bP R w us t.n t.a t.k->dG n=true->cL kids->0<=v->0<=d->v+4*aL kids<=1000000000000->d+4*aL kids<=1000000000000->aL kids<m →
      Calls Tryz.prog 109 #[.agg xs.toArray,.agg us.toArray,O S v,O S d] w (eK R w (i9 t n v d) (o6 t n atoms v d) (qE t n kids v d)))
 (w:World) (R:Nat->Prop) (xs us:List Value) (n:Nd) (atoms:List Nd) (kids:Fo) (v d:Int) (hR:∀ b,R b->b<w.heap.size) (ht:bP R w xs n atoms kids) (hu:bP R w us t.n t.a t.k) (hok:dG n=true) (hall:cL kids) (hv0:0<=v) (hd0:0<=d) (hv1:v+4*aL kids<=1000000000000) (hd1:d+4*aL kids<=1000000000000) (hsz:aL kids<=m) :
 Calls Tryz.prog 109 #[.agg xs.toArray,.agg us.toArray,O S v,O S d] w (eK R w (i9 t n v d) (o6 t n atoms v d) (qE t n kids v d)):=by
 have HI:=hid ih;clear ih;have HU:=hid hu;have HT:=hid ht;have HR:=hid hR;obtain ⟨uk,ua,uf,rfl,⟨Bk,mk,dk,rfl,_⟩,⟨Ba,ma,da,rfl,_⟩,⟨Bf,mf,df,rfl,_⟩⟩:=hu;obtain ⟨sk,sa,sf,rfl,⟨Ak,nk,ck,rfl,hkk⟩,⟨Aa,na,ca,rfl,haa⟩,⟨Af,nf,cf,rfl,hff⟩⟩:=ht;have hna:=(eN ((by simp only [dG,Bool.and_eq_true] at hok;exact hok.1.1):bD n.op n.a n.b=true));have HB0:=hid (aS w (.cells #[O S n.op,O S n.a,O S n.b,X Ak nk ck,X Aa na ca,X Af nf cf] 49) (.cells #[O S t.n.op,O S t.n.a,O S t.n.b,X Bk mk dk,X Ba ma da,X Bf mf df] 49));have HB1:=hid (HB0.o.alloc HB0.o.size (.cells #[O S 0,O S 0,O S 0,X Y 0 0,X Y 0 0,X Y 0 0] 49));by_cases h1:n.op=1
 · have h1b:(n.op==1)=true:=by simp [h1]
   have H1:=hid h1;have hd2:d<=1000000000000:=aA;obtain ⟨hna1,hna2⟩:=hna;have HD0:=hid (And.intro hd0 hd2);have HB2:=hid ((aD.new' (by simp):aD (((w.alloc (.cells #[O S n.op,O S n.a,O S n.b,X Ak nk ck,X Aa na ca,X Af nf cf] 49)).alloc (.cells #[O S t.n.op,O S t.n.a,O S t.n.b,X Bk mk dk,X Ba ma da,X Bf mf df] 49)).alloc (.cells #[O S 0,O S 0,O S 0,X Y 0 0,X Y 0 0,X Y 0 0] 49)) (w.heap.size+1+1) 49 #[O S 0,O S 0,O S 0,X Y 0 0,X Y 0 0,X Y 0 0]));clear h1 hv1 hd1 hR hkk haa hff;by_cases h2:n.a=v
   · have h2b:(n.a==v)=true:=by simp [h2]
     have H2:=hid h2;clear h2 hd0 hd2;go_in;go_wp2_with fail
     refine (sJ (R:=R) (fun b hb=>Nat.lt_of_lt_of_le (HR.o b hb) HB1.o.size) (bP.keep HU.o fun b hb=>⟨hb,fun o=>HB1.o.cell (p:=⟨b,o,Y⟩) (HR.o b hb)⟩) htok htall HD0.o.1 HD0.o.2 (Int.le_refl 0) aA).mono ?_;rintro e w3 ⟨hb3,ys,rfl,ht3⟩;have HT3:=hid ht3;obtain ⟨sk3,sa3,sf3,rfl,⟨A3,n3,c3,rfl,hk3⟩,⟨A4,n4,c4,rfl,h43⟩,⟨A5,n5,c5,rfl,h53⟩⟩:=ht3;have HK3:=hid (HB2.o.below hb3 (by simp));have zc3:=aD.cell HK3.o;have zf3:=aD.frozen HK3.o;have HB3:=cO HB1 hb3;have hs3:=hb3.size;have HS3:=hid hs3;clear hk3 h43 h53 hb3 hs3;go_wp2_with fail
     refine bodyPost_ret (v:=.agg #[O S (jB d t.n 0).op,O S (jB d t.n 0).a,O S (jB d t.n 0).b,X A3 n3 c3,X A4 n4 c4,X A5 n5 c5]) ?_ rfl ?_
     · exact jE (g:=w.heap.size+1+1) ((((((HK3.o.set_ 0 _).set_ 1 _).set_ 2 _).set_ 3 _).set_ 4 _).set_ 5 _) (by simp)
     rw [i9,o6,qE,if_pos H1.o,if_pos H1.o,if_pos H1.o,if_pos H2.o,if_pos H2.o,if_pos H2.o];exact AB HR.o aA (by simp<;>omega) HB3.o HT3.o
   have h2b:(n.a==v)=false:=by simp [h2]
   have zc3:=aD.cell HB2.o;have zf3:=aD.frozen HB2.o;by_cases h3:v<n.a
   · have h3b:decide (n.a>v)=true:=decide_eq_true h3;have h3c:decide (v<n.a)=true:=decide_eq_true h3;have hw3:IntKind.i64.wrap (n.a-1)=n.a-1:=by rw [IntKind.wrap_i64];omega
     have H2:=hid h2;have H3:=hid h3;clear h2 h3;go_in;go_wp2_with fail
     refine bodyPost_ret (v:=.agg #[O S 1,O S (n.a-1),O S 0,X Y 0 0,X Y 0 0,X Y 0 0]) ?_ rfl ?_
     · exact jE (g:=w.heap.size+1+1) (aD.new' (by simp)) (by simp)
     rw [i9,o6,qE,if_pos H1.o,if_pos H1.o,if_pos H1.o,if_neg H2.o,if_neg H2.o,if_neg H2.o,if_pos H3.o,if_pos H3.o,if_pos H3.o];exact vD (n:=⟨1,n.a-1,0⟩) HR.o (HB0.o.alloc HB0.o.size _) (vC _)
   have h3b:decide (n.a>v)=false:=decide_eq_false h3;have h3c:decide (v<n.a)=false:=decide_eq_false h3;have H2:=hid h2;have H3:=hid (Int.not_lt.1 h3);clear h2 h3;go_in;go_wp2_with fail
   refine bodyPost_ret (v:=.agg #[O S n.op,O S n.a,O S n.b,X Ak nk ck,X Aa na ca,X Af nf cf]) ?_ rfl ?_
   · exact jE (g:=w.heap.size+1+1) (aD.new' (by simp)) (by simp)
   rw [i9,o6,qE,if_pos H1.o,if_pos H1.o,if_pos H1.o,if_neg H2.o,if_neg H2.o,if_neg H2.o,if_neg (Int.not_lt.2 H3.o),if_neg (Int.not_lt.2 H3.o),if_neg (Int.not_lt.2 H3.o)];exact vD HR.o (HB0.o.alloc HB0.o.size _) HT.o
 have h1b:(n.op==1)=false:=by simp [h1]
 have H1:=hid h1;have HVD:=hid (And.intro hv0 (And.intro hv1 (And.intro hd0 hd1)));have HSZ:=hid hsz;have HKL:=hid hkk.len;have HOK:=hid hok;have HAL:=hid hall;have hvb:v<=1000000000000:=aA;have hdb:d<=1000000000000:=aA;have hnk:nk<=1000000000000:=by
  have h1:=eH kids;have h2:=hkk.len;omega
 obtain ⟨i0,hi,hy0,hy1,hy2⟩:=info_parts Tryz.infoT;have HI0:=hid hi;have HY0:=hid hy0;have HY1:=hid hy1;have HY2:=hid hy2;clear h1 hv1 hd1 hsz hok hna hall hi hy0 hy1 hy2;go_in;go_wp2_with fail
 go_loopw [10] (fun i wr=>∃ (F1 F2:Fo) (j:Nat) (A1:Option Addr) (k1:Nat) (xs1:List Value),i=O S (j:Int)/\Hid (kids=F1.app F2)/\Hid (aT F1=j)/\j<=nk/\Hid (Below w.heap.size w wr) ∧
  Hid (aD wr w.heap.size 49 #[O S n.op,O S n.a,O S n.b,X Ak nk ck,X Aa na ca,X Af nf cf]) ∧
  Hid (aD wr (w.heap.size+1) 49 #[O S t.n.op,O S t.n.a,O S t.n.b,X Bk mk dk,X Ba ma da,X Bf mf df]) ∧
  Hid (aD wr (w.heap.size+1+1) 49 #[O S 0,O S 0,O S 0,X Y 0 0,X Y 0 0,X Y 0 0]) ∧
  Hid (aD wr (w.heap.size+1+1+1) 49 #[O S n.op,O S n.a,O S n.b,X A1 j k1,X Aa na ca,X Af nf cf]) ∧
  Hid (wr.ownsRow (w.heap.size+4) 49 6 (X A1 j k1) j xs1)/\Hid (iG (lE R (w.heap.size+4) wr (X A1 j k1)) wr (nX t n.op n.b 0 v d F1) xs1)) (fun i _=>nk-(intOf i).toNat)
 case atStart =>
  refine ⟨.nil,kids,0,Y,0,[],rfl,hid rfl,hid rfl,Nat.zero_le _,hid (HB1.o.alloc HB1.o.size _),hid ((((aD.new _ _ _).alloc _).alloc _).alloc _),hid (((aD.new' (by simp)).alloc _).alloc _),hid ((aD.new' (by simp)).alloc _),hid (aD.new' (by simp)),hid (World.ownsRow_nil _ _ _ _),hid rfl⟩
 case round =>
  clear HB0 HB1;obtain ⟨F1,F2,j,A1,k1,xs1,rfl,hk,hj,hjn,hbw,hblk,hblku,hblk1,hblk2,hown,hfc⟩:=hrel;have hkkr:=hkk.keep (R':=R) (w':=wr) (fun b hb=>⟨hb,fun o=>hbw.o.cell (p:=⟨b,o,Y⟩) (HR.o b hb)⟩);have hszb:w.heap.size+1+1+1<wr.heap.size:=aD.lt hblk2.o;cases F2 with
  | nil =>
   have hjn':j=nk:=by rw [<-HKL.o,hk.o,bB,hj.o];rfl
   have hd:decide ((j:Int)<(nk:Int))=false:=decide_eq_false aA;have hd2:decide (j<nk)=false:=decide_eq_false aA;have zc:=aD.cell hblk.o;have zc1:=aD.cell hblk1.o;have zf1:=aD.frozen hblk1.o;have zc2:=aD.cell hblk2.o;clear hjn';go_wp2_with fail
   have hsrc:kids=F1:=by rw [hk.o,iH]
   refine bodyPost_ret (v:=.agg #[O S n.op,O S n.a,O S n.b,X A1 j k1,X Aa na ca,X Af nf cf]) ?_ rfl ?_
   · exact jE (g:=w.heap.size+1+1) ((((((hblk1.o.set_ 0 _).set_ 1 _).set_ 2 _).set_ 3 _).set_ 4 _).set_ 5 _) (by simp)
   rw [i9,o6,qE,if_neg H1.o,if_neg H1.o,if_neg H1.o,hsrc];exact LL HR.o aA aA hbw.o hown.o (by rw [tX];exact hj.o) hfc.o ⟨Aa,na,ca,rfl,haa⟩ ⟨Af,nf,cf,rfl,by rw [rR,<-hsrc];exact hff⟩
  | cons pre nd ats ks F2 =>
   have hlt:j<nk:=by rw [<-HKL.o,hk.o,bB,hj.o];simp [aT]
   have hd:decide ((j:Int)<(nk:Int))=true:=decide_eq_true aA;obtain ⟨ha1,ha2⟩:=cV HOK.o (j:Int);have hkk2:dR R wr Ak nk ck (F1.app (.cons pre nd ats ks F2)):=by rw [<-hk.o];exact hkkr
   obtain ⟨b,off,sk',sa',sf',rfl,hrb,htree,g0,g1,g2,g3,g4,g5⟩:=hkk2.at_;rw [hj.o] at g0 g1 g2 g3 g4 g5;obtain ⟨_,hok2,hall2,_⟩:=(cL.app F1 _).1 (hk.o ▸ HAL.o);have hbb:b<w.heap.size:=hR b hrb;have HOA:=hid (And.intro hok2 hall2);have hfq:aL F1+(aL ks+aL F2+1)=aL kids:=by rw [hk.o,cR];simp only [aL]
   obtain ⟨hva,hvb1,hda,hdb1⟩:=HVD.o;have hsz:=HSZ.o;have HFQ:Hid (aL ks<m/\0<=v+aC n.op n.b (j:Int)/\0<=d+aC n.op n.b (j:Int)/\v+aC n.op n.b (j:Int)+4*aL ks<=1000000000000/\d+aC n.op n.b (j:Int)+4*aL ks<=1000000000000):=hid aA;have hwv:IntKind.i64.wrap (v+aC n.op n.b (j:Int))=v+aC n.op n.b (j:Int):=IntWalk.i64_in _ aA;have hwd:IntKind.i64.wrap (d+aC n.op n.b (j:Int))=d+aC n.op n.b (j:Int):=IntWalk.i64_in _ aA;have HTR:=hid (fun (W:World) (hW:Below wr.heap.size wr W)=>(htree.keep fun b' hb'=>⟨hb',fun o=>hW.cell (p:=⟨b',o,Y⟩) (Nat.lt_of_lt_of_le (hR b' hb') hbw.o.size)⟩:bP R W [O S nd.op,O S nd.a,O S nd.b,sk',sa',sf'] nd ats ks));have HTU:=hid (fun (W:World) (hW:Below wr.heap.size wr W)=>(bP.keep HU.o fun b' hb'=>⟨hb',fun o=>(hW.cell (p:=⟨b',o,Y⟩) (Nat.lt_of_lt_of_le (hR b' hb') hbw.o.size)).trans (hbw.o.cell (p:=⟨b',o,Y⟩) (hR b' hb'))⟩:bP R W [O S t.n.op,O S t.n.a,O S t.n.b,X Bk mk dk,X Ba ma da,X Bf mf df] t.n t.a t.k));have HRL:=hid (fun (W:World) (hW:Below wr.heap.size wr W) (b':Nat) (hb':R b')=>(Nat.lt_of_lt_of_le (hR b' hb') (Nat.le_trans hbw.o.size hW.size):b'<W.heap.size));have HKP:=hid (fun (W:World) (hW:Below wr.heap.size wr W)=>(by
    have hB:∀ q,q<wr.heap.size->∀ o,W.cell? ⟨q,o,Y⟩=wr.cell? ⟨q,o,Y⟩:=fun q hq o=>hW.cell (p:=⟨q,o,Y⟩) hq;have hbb2:b<wr.heap.size:=Nat.lt_of_lt_of_le hbb hbw.o.size;exact ⟨(hB _ aA _).trans (hblk.o.cell 3),(hB _ aA _).trans (hblku.o.cell 0),(hB _ aA _).trans (hblku.o.cell 1),(hB _ aA _).trans (hblku.o.cell 2),(hB _ aA _).trans (hblku.o.cell 3),(hB _ aA _).trans (hblku.o.cell 4),(hB _ aA _).trans (hblku.o.cell 5),(hB _ aA _).trans (hblk2.o.cell 3),(hB _ hbb2 _).trans g0,(hB _ hbb2 _).trans g1,(hB _ hbb2 _).trans g2,(hB _ hbb2 _).trans g3,(hB _ hbb2 _).trans g4,(hB _ hbb2 _).trans g5⟩:W.cell? ⟨w.heap.size,3,Y⟩=Z (X (Z ⟨b,off,Y⟩) nk ck)/\W.cell? ⟨w.heap.size+1,0,Y⟩=Z (O S t.n.op)/\W.cell? ⟨w.heap.size+1,1,Y⟩=Z (O S t.n.a)/\W.cell? ⟨w.heap.size+1,2,Y⟩=Z (O S t.n.b)/\W.cell? ⟨w.heap.size+1,3,Y⟩=Z (X Bk mk dk)/\W.cell? ⟨w.heap.size+1,4,Y⟩=Z (X Ba ma da)/\W.cell? ⟨w.heap.size+1,5,Y⟩=Z (X Bf mf df)/\W.cell? ⟨w.heap.size+1+1+1,3,Y⟩=Z (X A1 j k1)/\W.cell? ⟨b,off+j*6,Y⟩=Z (O S nd.op)/\W.cell? ⟨b,off+j*6+1,Y⟩=Z (O S nd.a)/\W.cell? ⟨b,off+j*6+2,Y⟩=Z (O S nd.b)/\W.cell? ⟨b,off+j*6+3,Y⟩=Z sk'/\W.cell? ⟨b,off+j*6+4,Y⟩=Z sa'/\W.cell? ⟨b,off+j*6+5,Y⟩=Z sf'))
   have zc:=aD.cell hblk.o;have z3:=zc 3;clear hkk2 hkkr hsz hva hvb1 hda hdb1 hfq hok2 hall2 g0 g1 g2 g3 g4 g5 htree;go_wp2_with fail
   refine (iR _ _ _ _ _ aA).mono ?_;rintro e w2 ⟨he,hw2⟩;subst he;have hd2:Below wr.heap.size wr w2:=by first | (rw [hw2];exact aB _ _) | (rw [<-hw2];exact aB _ _) | (subst hw2;exact aB _ _)
   have HD2:=hid (aI hd2 1);clear hw2 hd2 zc z3;go_wp2_with fail
   refine cF 18 (fun w'=>w'.cell? ⟨w.heap.size,3,Y⟩=Z (X (Z ⟨b,off,Y⟩) nk ck)/\w'.cell? ⟨w.heap.size+1,0,Y⟩=Z (O S t.n.op)/\w'.cell? ⟨w.heap.size+1,1,Y⟩=Z (O S t.n.a)/\w'.cell? ⟨w.heap.size+1,2,Y⟩=Z (O S t.n.b)/\w'.cell? ⟨w.heap.size+1,3,Y⟩=Z (X Bk mk dk)/\w'.cell? ⟨w.heap.size+1,4,Y⟩=Z (X Ba ma da)/\w'.cell? ⟨w.heap.size+1,5,Y⟩=Z (X Bf mf df)/\w'.cell? ⟨w.heap.size+1+1+1,3,Y⟩=Z (X A1 j k1)/\w'.cell? ⟨b,off+j*6,Y⟩=Z (O S nd.op)/\w'.cell? ⟨b,off+j*6+1,Y⟩=Z (O S nd.a)/\w'.cell? ⟨b,off+j*6+2,Y⟩=Z (O S nd.b)/\w'.cell? ⟨b,off+j*6+3,Y⟩=Z sk'/\w'.cell? ⟨b,off+j*6+4,Y⟩=Z sa'/\w'.cell? ⟨b,off+j*6+5,Y⟩=Z sf') (by kernel_rfl) ?_ (fun hHeld => ?_)
   · (try dsimp only);exact HKP.o _ HD2.o
   refine te 0 hHeld ?_;try simp only [p7]
   refine te 1 hHeld ?_;try simp only [p7]
   refine te 2 hHeld ?_;try simp only [p7]
   refine te 3 hHeld ?_;try simp only [p7]
   refine te 4 hHeld ?_;try simp only [p7]
   refine te 5 hHeld ?_;try simp only [p7]
   refine te 6 hHeld ?_;try simp only [p7]
   refine te 7 hHeld ?_;try simp only [p7]
   refine te 8 hHeld ?_;try simp only [p7]
   refine te 9 hHeld ?_;try simp only [p7]
   refine te 10 hHeld ?_;try simp only [p7]
   refine te 11 hHeld ?_;try simp only [p7]
   refine te 12 hHeld ?_;try simp only [p7]
   refine te 13 hHeld ?_;try simp only [p7]
   refine aO (i:=14) (by kernel_rfl) rfl rfl (fun K hK => ?_);go_simp;go_at_call 109
   refine (HI.o _ R [O S nd.op,O S nd.a,O S nd.b,sk',sa',sf'] [O S t.n.op,O S t.n.a,O S t.n.b,X Bk mk dk,X Ba ma da,X Bf mf df] nd ats ks _ _ (HRL.o _ HD2.o) (HTR.o _ HD2.o) (HTU.o _ HD2.o) HOA.o.1 HOA.o.2 HFQ.o.2.1 HFQ.o.2.2.1 HFQ.o.2.2.2.1 HFQ.o.2.2.2.2 HFQ.o.1).mono ?_;rintro e w3 ⟨hb3,ys,rfl,ht3⟩;have HT3:=hid ht3;obtain ⟨sk3,sa3,sf3,rfl,⟨A3,n3,c3,rfl,hk3⟩,⟨A4,n4,c4,rfl,h43⟩,⟨A5,n5,c5,rfl,h53⟩⟩:=ht3;have HB4:=cO HD2 hb3;have hb4s:=HB4.o.size;clear hk3 h43 h53 hb3;go_wp2_with fail
   refine hK.o _ _ (fun _ => ?_) ?_
   · (try dsimp only);exact HKP.o _ HB4.o
   clear hK K;try simp only [p7]
   replace hHeld:=HKP.o _ HB4.o
   refine aO (i:=15) (by kernel_rfl) rfl rfl (fun K hK => ?_);go_simp;refine hK.o _ _ (fun _ => ?_) ?_
   · (try dsimp only);exact HKP.o _ (HB4.o.alloc HB4.o.size (.cells #[O S (i9 t nd (v+aC n.op n.b (j:Int)) (d+aC n.op n.b (j:Int))).op,O S (i9 t nd (v+aC n.op n.b (j:Int)) (d+aC n.op n.b (j:Int))).a,O S (i9 t nd (v+aC n.op n.b (j:Int)) (d+aC n.op n.b (j:Int))).b,X A3 n3 c3,X A4 n4 c4,X A5 n5 c5] 49))
   clear hK K;try simp only [p7]
   replace hHeld:=HKP.o _ (HB4.o.alloc HB4.o.size (.cells #[O S (i9 t nd (v+aC n.op n.b (j:Int)) (d+aC n.op n.b (j:Int))).op,O S (i9 t nd (v+aC n.op n.b (j:Int)) (d+aC n.op n.b (j:Int))).a,O S (i9 t nd (v+aC n.op n.b (j:Int)) (d+aC n.op n.b (j:Int))).b,X A3 n3 c3,X A4 n4 c4,X A5 n5 c5] 49))
   refine aO (i:=16) (by kernel_rfl) rfl rfl (fun K hK => ?_);refine eY (.tmp 55) (.tmp 69) 47 rfl (w.heap.size+4) i0 _ Tryz.underlying47 HI0.o HY0.o HY1.o HY2.o rfl (X A1 j k1) j xs1 [O S (i9 t nd (v+aC n.op n.b (j:Int)) (d+aC n.op n.b (j:Int))).op,O S (i9 t nd (v+aC n.op n.b (j:Int)) (d+aC n.op n.b (j:Int))).a,O S (i9 t nd (v+aC n.op n.b (j:Int)) (d+aC n.op n.b (j:Int))).b,X A3 n3 c3,X A4 n4 c4,X A5 n5 c5] (by rfl) (z9 _ _ _ (A3,n3,c3) (A4,n4,c4) (A5,n5,c5)) w3 (by rfl) (by rfl) (aY hown.o HB4.o) _ (by rfl) (by rfl) aA aA ?_;intro A' c' w' happ;have hb5:∀ g,g<w.heap.size+4->∀ o,w'.cell? ⟨g,o,Y⟩=w3.cell? ⟨g,o,Y⟩:=fun g hg o=>World.cell?_of_block (happ.grown.block g aA (eE (aY hown.o HB4.o) hg));have hq:=HKP.o _ HB4.o;have hS4:w'.cell? ⟨w.heap.size,3,Y⟩=Z (X (Z ⟨b,off,Y⟩) nk ck)/\w'.cell? ⟨w.heap.size+1,0,Y⟩=Z (O S t.n.op)/\w'.cell? ⟨w.heap.size+1,1,Y⟩=Z (O S t.n.a)/\w'.cell? ⟨w.heap.size+1,2,Y⟩=Z (O S t.n.b)/\w'.cell? ⟨w.heap.size+1,3,Y⟩=Z (X Bk mk dk)/\w'.cell? ⟨w.heap.size+1,4,Y⟩=Z (X Ba ma da)/\w'.cell? ⟨w.heap.size+1,5,Y⟩=Z (X Bf mf df)/\w'.cell? ⟨w.heap.size+1+1+1,3,Y⟩=Z (X A1 j k1)/\w'.cell? ⟨b,off+j*6,Y⟩=Z (O S nd.op)/\w'.cell? ⟨b,off+j*6+1,Y⟩=Z (O S nd.a)/\w'.cell? ⟨b,off+j*6+2,Y⟩=Z (O S nd.b)/\w'.cell? ⟨b,off+j*6+3,Y⟩=Z sk'/\w'.cell? ⟨b,off+j*6+4,Y⟩=Z sa'/\w'.cell? ⟨b,off+j*6+5,Y⟩=Z sf':=⟨(hb5 _ aA _).trans hq.1,(hb5 _ aA _).trans hq.2.1,(hb5 _ aA _).trans hq.2.2.1,(hb5 _ aA _).trans hq.2.2.2.1,(hb5 _ aA _).trans hq.2.2.2.2.1,(hb5 _ aA _).trans hq.2.2.2.2.2.1,(hb5 _ aA _).trans hq.2.2.2.2.2.2.1,(hb5 _ aA _).trans hq.2.2.2.2.2.2.2.1,(hb5 _ aA _).trans hq.2.2.2.2.2.2.2.2.1,(hb5 _ aA _).trans hq.2.2.2.2.2.2.2.2.2.1,(hb5 _ aA _).trans hq.2.2.2.2.2.2.2.2.2.2.1,(hb5 _ aA _).trans hq.2.2.2.2.2.2.2.2.2.2.2.1,(hb5 _ aA _).trans hq.2.2.2.2.2.2.2.2.2.2.2.2.1,(hb5 _ aA _).trans hq.2.2.2.2.2.2.2.2.2.2.2.2.2⟩;have zf4:w'.frozen? ⟨w.heap.size+1+1+1,3,Y⟩=false:=aD.frozen ((hblk2.o.below HB4.o hblk2.o.lt).grown happ.grown (eE (aY hown.o HB4.o) aA)) 3;clear hq hb5;refine hK.o _ _ (fun _ => ?_) ?_
   · (try dsimp only);exact hS4
   clear hK K;try simp only [p7]
   replace hHeld:=hS4
   refine te 17 hHeld ?_;try simp only [p7]
   refine aO (i:=18) (by kernel_rfl) rfl rfl (fun K hK => ?_);go_simp;refine hK.o _ _ (fun h=>absurd rfl h) ?_;clear hK K;try simp only [p7]
   refine cN (by kernel_rfl) ?_ _;have hw5:wr.heap.size<=w3.heap.size:=HB4.o.size;have hown3:=aY hown.o HB4.o;have HG4:=hid happ.grown;have hne4:∀ g,g<w.heap.size+4->Z g ≠ (Value.slice A1 j k1).ownBlock:=fun g hg e=>by have:=(aE hown3 e.symm).1;omega
   have HBF:=hid (((hbw.o.trans (HB4.o.mono hbw.o.size)).grown happ.grown (by have:=hbw.o.size;omega) (fun g hg=>by have:=(aE hown3 hg).1;omega)).setCell (p:=⟨w.heap.size+1+1+1,3,Y⟩) (show w.heap.size<=w.heap.size+1+1+1 by omega) (X A' (j+1) c'));have HZ0:=hid (((hblk.o.below HB4.o hblk.o.lt).grown happ.grown (hne4 _ aA)).far (p:=⟨w.heap.size+1+1+1,3,Y⟩) (show w.heap.size ≠ w.heap.size+1+1+1 by omega) (X A' (j+1) c'));have HZU:=hid (((hblku.o.below HB4.o hblku.o.lt).grown happ.grown (hne4 _ aA)).far (p:=⟨w.heap.size+1+1+1,3,Y⟩) (show w.heap.size+1 ≠ w.heap.size+1+1+1 by omega) (X A' (j+1) c'));have HZ1:=hid (((hblk1.o.below HB4.o hblk1.o.lt).grown happ.grown (hne4 _ aA)).far (p:=⟨w.heap.size+1+1+1,3,Y⟩) (show w.heap.size+1+1 ≠ w.heap.size+1+1+1 by omega) (X A' (j+1) c'));have HZ2:=hid (((hblk2.o.below HB4.o hblk2.o.lt).grown happ.grown (hne4 _ aA)).set_ 3 (X A' (j+1) c'));have HOF:=hid (ownsRow_setCell_below happ.own (a:=⟨w.heap.size+1+1+1,3,Y⟩) (show w.heap.size+1+1+1<w.heap.size+4 by omega) (X A' (j+1) c'));have HFF:=hid (tY (B0:=w.heap.size) (B:=w.heap.size+4) hfc.o HT3.o HD2.o.size HB4.o aA hR aA hown.o (Below.refl _ _) happ (wf:=w'.setCell ⟨w.heap.size+1+1+1,3,Y⟩ (X A' (j+1) c')) (pre:=pre) (fun g hg o=>World.cell?_setCell_other _ _ _ _ (fun hh=>by injection hh with hh;omega)) (by simp [World.setCell]));clear happ hne4 hown3;go_wp2_with fail
   go_roundw
   case rel =>
    refine ⟨F1.app (.cons pre nd ats ks .nil),F2,j+1,A',c',_,by go_num,hid (by rw [hk.o,cM];rfl),hid (by rw [bB];simp [aT,hj.o]),by omega,HBF,HZ0,HZU,HZ1,HZ2,HOF,hid ?_⟩;rw [zD,hj.o,Nat.zero_add,iO];exact HFF.o
   case measure=>simp [intOf];omega
theorem DU (t:Tr) (htok:dG t.n=true) (htall:cL t.k) (hts:4*aL t.k<=1000000000000) : ∀ (m:Nat) (w:World) (R:Nat->Prop) (xs us:List Value) (n:Nd) (atoms:List Nd) (kids:Fo) (v d:Int),(∀ b,R b->b<w.heap.size)->bP R w xs n atoms kids->bP R w us t.n t.a t.k->dG n=true->cL kids->0<=v->0<=d->v+4*aL kids<=1000000000000->d+4*aL kids<=1000000000000->aL kids<m →
      Calls Tryz.prog 109 #[.agg xs.toArray,.agg us.toArray,O S v,O S d] w (eK R w (i9 t n v d) (o6 t n atoms v d) (qE t n kids v d))
 | 0,_,_,_,_,_,_,_,_,_,_,_,_,_,_,_,_,_,_,h=>absurd h (Nat.not_lt_zero _)
 | m+1,w,R,xs,us,n,atoms,kids,v,d,h1,h2,h3,h4,h5,h6,h7,h8,h9,h10=>I4 t htok htall hts m (DU t htok htall hts m) w R xs us n atoms kids v d h1 h2 h3 h4 h5 h6 h7 h8 h9 aA
end Go.Proofs.YtjllmblbbgojbaaGreat
