/- Put of the reference: a tree in the place of a variable. -/
import Derived.Test.YtjllmblbbgojbaaGreatXRaise
namespace Go.Proofs.YtjllmblbbgojbaaGreat
set_option linter.unusedVariables false
set_option linter.unusedSimpArgs false
open Go.RowKit
open Go.Value renaming int → O, slice → X
open Go.IntKind renaming i64 → S
open Option renaming none → Y, some → Z
open Go.Lib renaming hid->aB
theorem j6 {w:World} {g:Nat} {c0 c1 c2 c3 c4 c5:Value} {tmps:Array Value} (h:aS w g 49 #[c0,c1,c2,c3,c4,c5]) (ht:tmps.getD 8 undef=.pointer (Z ⟨g,0,Y⟩)) :
 (results Tryz.f109 tmps).run Tryz.prog w=.ok (.agg #[c0,c1,c2,c3,c4,c5]) w:=by
 have hc:=h.cell;have ht':tmps[8]?.getD undef=.pointer (Z ⟨g,0,Y⟩):=by rw[<-ht];simp
 simp[results,Tryz.results109,go_sem,ht',hc]
theorem BL {R:Nat->Prop} {w V W:World} {g:Nat} {n:Nd} {ats:List Nd} {ks:Fo} {c0 c1 c2 c3 c4 c5:Value} (hR:∀b,R b->b<w.heap.size) (hg0:w.heap.size<=g) (hg1:g<V.heap.size) (hb:Below w.heap.size w W) (ht:cJ (aZ R V W) W [c0,c1,c2,c3,c4,c5] n ats ks) :
 fG R w n ats ks (.returned (.agg #[c0,c1,c2,c3,c4,c5])) ((((((W.setCell ⟨g,0,Y⟩ c0).setCell ⟨g,1,Y⟩ c1).setCell ⟨g,2,Y⟩ c2).setCell ⟨g,3,Y⟩ c3).setCell ⟨g,4,Y⟩ c4).setCell ⟨g,5,Y⟩ c5):=by
 refine⟨eK hb hg0 c0 c1 c2 c3 c4 c5,_,rfl,cJ.keep ht fun b hb2 => ?_⟩;have hne:b ≠ g:=by
  rcases hb2 with h | h
  · have:=hR b h;omega
  have:=h.1;omega
 refine⟨?_,fun o=>oC W hne _ _ _ _ _ _ o⟩;rcases hb2 with h | h
 · exact .inl h
 exact .inr ⟨by have:=h.1;omega,by rw[i7];exact h.2⟩
theorem wM {R:Nat->Prop} {w W:World} {n:Nd} {ats:List Nd} {ks:Fo} {c0 c1 c2 c3 c4 c5:Value} (hR:∀b,R b->b<w.heap.size) (hb:Below w.heap.size w W) (ht:cJ R w [c0,c1,c2,c3,c4,c5] n ats ks) :
 fG R w n ats ks (.returned (.agg #[c0,c1,c2,c3,c4,c5])) W :=
 ⟨hb,_,rfl,cJ.keep ht fun b hb2=>⟨.inl hb2,fun o=>hb.cell (p:=⟨b,o,Y⟩) (hR b hb2)⟩⟩
theorem NI {R:Nat->Prop} {w wr:World} {n:Nd} {ats:List Nd} {G:Fo} {A1:Option Addr} {j k1 g B:Nat} {x y:Value} {xs:List Value} (hR:∀b,R b->b<w.heap.size) (hg0:w.heap.size<=g) (hg1:g<B) (hbw:Below w.heap.size w wr)
 (hown:wr.ownsRow B 49 6 (X A1 j k1) j xs) (hj:bH G=j) (hfc:jW (mA R B wr (X A1 j k1)) wr G xs) (hx:gJ R w x ats) (hy:gJ R w y (cH G)) :
 fG R w n ats G (.returned (.agg #[O S n.op,O S n.a,O S n.b,X A1 j k1,x,y])) ((((((wr.setCell ⟨g,0,Y⟩ (O S n.op)).setCell ⟨g,1,Y⟩ (O S n.a)).setCell ⟨g,2,Y⟩ (O S n.b)).setCell ⟨g,3,Y⟩ (X A1 j k1)).setCell ⟨g,4,Y⟩ x).setCell ⟨g,5,Y⟩ y):=by
 have hw6:=i7 wr g (O S n.op) (O S n.a) (O S n.b) (X A1 j k1) x y;have hb6:=eK hbw hg0 (O S n.op) (O S n.a) (O S n.b) (X A1 j k1) x y;have hO:=rF hown hg1 (O S n.op) (O S n.a) (O S n.b) (X A1 j k1) x y;refine⟨hb6,_,rfl,_,_,_,rfl,?_,?_,?_⟩
 · refine fY (by rw[hj];exact hO) (jW.keep ?_ _ _ hfc) ?_
   · rintro b ⟨hb1,_⟩;have hne:b ≠ g:=by
      rcases hb1 with h | h
      · have:=hR b h;omega
      omega
     refine⟨?_,fun o=>oC wr hne _ _ _ _ _ _ o⟩;rcases hb1 with h | h
     · exact .inl h
     exact .inr ⟨by omega,by rw[hw6];exact h.2⟩
   intro b hb;have h3:=aR hown hb;exact .inr ⟨by omega,by rw[hw6];exact h3.2.1⟩
 · exact hx.keep fun b hb=>⟨.inl hb,fun o=>hb6.cell (p:=⟨b,o,Y⟩) (hR b hb)⟩
 exact hy.keep fun b hb=>⟨.inl hb,fun o=>hb6.cell (p:=⟨b,o,Y⟩) (hR b hb)⟩
set_option maxRecDepth 100000 in
set_option maxHeartbeats 8000000 in
theorem LC (t:Tr) (htok:eE t.n=true) (htall:dD t.k) (hts:4*a7 t.k<=1000000000000) (m:Nat) (ih:∀(w:World) (R:Nat->Prop) (xs us:List Value) (n:Nd) (atoms:List Nd) (kids:Fo) (v d:Int),(∀b,R b->b<w.heap.size)->cJ R w xs n atoms kids->cJ R w us t.n t.a t.k->eE n=true->dD kids->0<=v->0<=d->v+4*a7 kids<=1000000000000->d+4*a7 kids<=1000000000000->a7 kids<m →
      Calls Tryz.prog 109 #[.agg xs.toArray,.agg us.toArray,O S v,O S d] w (fG R w (jY t n v d) (pX t n atoms v d) (q9 t n kids v d)))
 (w:World) (R:Nat->Prop) (xs us:List Value) (n:Nd) (atoms:List Nd) (kids:Fo) (v d:Int) (hR:∀b,R b->b<w.heap.size) (ht:cJ R w xs n atoms kids) (hu:cJ R w us t.n t.a t.k) (hok:eE n=true) (hall:dD kids) (hv0:0<=v) (hd0:0<=d) (hv1:v+4*a7 kids<=1000000000000) (hd1:d+4*a7 kids<=1000000000000) (hsz:a7 kids<=m) :
 Calls Tryz.prog 109 #[.agg xs.toArray,.agg us.toArray,O S v,O S d] w (fG R w (jY t n v d) (pX t n atoms v d) (q9 t n kids v d)):=by
 have HI:=aB ih;clear ih;have HU:=aB hu;have HT:=aB ht;have HR:=aB hR;obtain⟨uk,ua,uf,rfl,⟨Bk,mk,dk,rfl,_⟩,⟨Ba,ma,da,rfl,_⟩,⟨Bf,mf,df,rfl,_⟩⟩:=hu;obtain⟨sk,sa,sf,rfl,⟨Ak,nk,ck,rfl,hkk⟩,⟨Aa,na,ca,rfl,haa⟩,⟨Af,nf,cf,rfl,hff⟩⟩:=ht;have hna:=(fK ((by simp only[eE,Bool.and_eq_true] at hok;exact hok.1.1):bW n.op n.a n.b=true));have HB0:=aB (bF w (.cells #[O S n.op,O S n.a,O S n.b,X Ak nk ck,X Aa na ca,X Af nf cf] 49) (.cells #[O S t.n.op,O S t.n.a,O S t.n.b,X Bk mk dk,X Ba ma da,X Bf mf df] 49));have HB1:=aB (HB0.o.alloc HB0.o.size (.cells #[O S 0,O S 0,O S 0,X Y 0 0,X Y 0 0,X Y 0 0] 49));by_cases h1:n.op=1
 · have h1b:(n.op==1)=true:=by simp[h1]
   have H1:=aB h1;have hd2:d<=1000000000000:=aA;obtain⟨hna1,hna2⟩:=hna;have HD0:=aB (And.intro hd0 hd2);have HB2:=aB ((aS.new' aD:aS (((w.alloc (.cells #[O S n.op,O S n.a,O S n.b,X Ak nk ck,X Aa na ca,X Af nf cf] 49)).alloc (.cells #[O S t.n.op,O S t.n.a,O S t.n.b,X Bk mk dk,X Ba ma da,X Bf mf df] 49)).alloc (.cells #[O S 0,O S 0,O S 0,X Y 0 0,X Y 0 0,X Y 0 0] 49)) (w.heap.size+1+1) 49 #[O S 0,O S 0,O S 0,X Y 0 0,X Y 0 0,X Y 0 0]));clear h1 hv1 hd1 hR hkk haa hff;by_cases h2:n.a=v
   · have h2b:(n.a==v)=true:=by simp[h2]
     have H2:=aB h2;clear h2 hd0 hd2;go_in;go_wp2_with fail;refine (tF (R:=R) (fun b hb=>Nat.lt_of_lt_of_le (HR.o b hb) HB1.o.size) (cJ.keep HU.o fun b hb=>⟨hb,fun o=>HB1.o.cell (p:=⟨b,o,Y⟩) (HR.o b hb)⟩) htok htall HD0.o.1 HD0.o.2 (Int.le_refl 0) aA).mono ?_;rintro e w3 ⟨hb3,ys,rfl,ht3⟩;have HT3:=aB ht3;obtain⟨sk3,sa3,sf3,rfl,⟨A3,n3,c3,rfl,hk3⟩,⟨A4,n4,c4,rfl,h43⟩,⟨A5,n5,c5,rfl,h53⟩⟩:=ht3;have HK3:=aB (HB2.o.below hb3 aD);have zc3:=aS.cell HK3.o;have zf3:=aS.frozen HK3.o;have HB3:=dA HB1 hb3;clear hk3 h43 h53 hb3;go_wp2_with fail;refine bodyPost_ret (v:=.agg #[O S (jZ d t.n 0).op,O S (jZ d t.n 0).a,O S (jZ d t.n 0).b,X A3 n3 c3,X A4 n4 c4,X A5 n5 c5]) ?_ rfl ?_
     · exact j6 (g:=w.heap.size+1+1) ((((((HK3.o.set_ 0 _).set_ 1 _).set_ 2 _).set_ 3 _).set_ 4 _).set_ 5 _) aD
     rw[jY,pX,q9,if_pos H1.o,if_pos H1.o,if_pos H1.o,if_pos H2.o,if_pos H2.o,if_pos H2.o];exact BL HR.o aA aH HB3.o HT3.o
   have h2b:(n.a==v)=false:=by simp[h2]
   have zc3:=aS.cell HB2.o;have zf3:=aS.frozen HB2.o;by_cases h3:v<n.a
   · have h3b:decide (n.a>v)=true:=decide_eq_true h3;have hw3:IntKind.i64.wrap (n.a-1)=n.a-1:=by rw[IntKind.wrap_i64];omega
     have H2:=aB h2;have H3:=aB h3;clear h2 h3;go_in;go_wp2_with fail;refine bodyPost_ret (v:=.agg #[O S 1,O S (n.a-1),O S 0,X Y 0 0,X Y 0 0,X Y 0 0]) ?_ rfl ?_
     · exact j6 (g:=w.heap.size+1+1) (aS.new' aD) aD
     rw[jY,pX,q9,if_pos H1.o,if_pos H1.o,if_pos H1.o,if_neg H2.o,if_neg H2.o,if_neg H2.o,if_pos H3.o,if_pos H3.o,if_pos H3.o];exact wM (n:=⟨1,n.a-1,0⟩) HR.o (HB0.o.alloc HB0.o.size _) (wL _)
   have h3b:decide (n.a>v)=false:=decide_eq_false h3;have H2:=aB h2;have H3:=aB (Int.not_lt.1 h3);clear h2 h3;go_in;go_wp2_with fail;refine bodyPost_ret (v:=.agg #[O S n.op,O S n.a,O S n.b,X Ak nk ck,X Aa na ca,X Af nf cf]) ?_ rfl ?_
   · exact j6 (g:=w.heap.size+1+1) (aS.new' aD) aD
   rw[jY,pX,q9,if_pos H1.o,if_pos H1.o,if_pos H1.o,if_neg H2.o,if_neg H2.o,if_neg H2.o,if_neg (Int.not_lt.2 H3.o),if_neg (Int.not_lt.2 H3.o),if_neg (Int.not_lt.2 H3.o)];exact wM HR.o (HB0.o.alloc HB0.o.size _) HT.o
 have h1b:(n.op==1)=false:=by simp[h1]
 have H1:=aB h1;have HVD:=aB (And.intro hv0 (And.intro hv1 (And.intro hd0 hd1)));have HSZ:=aB hsz;have HKL:=aB hkk.len;have HOK:=aB hok;have HAL:=aB hall;have hvb:v<=1000000000000:=aA;have hdb:d<=1000000000000:=aA;have hnk:nk<=1000000000000:=by
  have h1:=fF kids;have h2:=hkk.len;omega
 obtain⟨i0,hi,hy0,hy1,hy2⟩:=info_parts Tryz.infoT;have HI0:=aB hi;have HY0:=aB hy0;have HY1:=aB hy1;have HY2:=aB hy2;clear h1 hv1 hd1 hsz hok hna hall hi hy0 hy1 hy2;go_in;go_wp2_with fail;go_loopw [10] (fun i wr=>∃(F1 F2:Fo) (j:Nat) (A1:Option Addr) (k1:Nat) (xs1:List Value),i=O S (j:Int)/\Hid (kids=F1.app F2)/\Hid (bH F1=j)/\j<=nk/\Hid (Below w.heap.size w wr) ∧
  Hid (aS wr w.heap.size 49 #[O S n.op,O S n.a,O S n.b,X Ak nk ck,X Aa na ca,X Af nf cf]) ∧
  Hid (aS wr (w.heap.size+1) 49 #[O S t.n.op,O S t.n.a,O S t.n.b,X Bk mk dk,X Ba ma da,X Bf mf df]) ∧
  Hid (aS wr (w.heap.size+1+1) 49 #[O S 0,O S 0,O S 0,X Y 0 0,X Y 0 0,X Y 0 0]) ∧
  Hid (aS wr (w.heap.size+1+1+1) 49 #[O S n.op,O S n.a,O S n.b,X A1 j k1,X Aa na ca,X Af nf cf]) ∧
  Hid (wr.ownsRow (w.heap.size+4) 49 6 (X A1 j k1) j xs1)/\Hid (jW (mA R (w.heap.size+4) wr (X A1 j k1)) wr (oW t n.op n.b 0 v d F1) xs1)) (fun i _=>nk-(intOf i).toNat)
 case atStart =>
  refine⟨.nil,kids,0,Y,0,[],rfl,aB rfl,aB rfl,Nat.zero_le _,aB (HB1.o.alloc HB1.o.size _),aB ((((aS.new _ _ _).alloc _).alloc _).alloc _),aB (((aS.new' aD).alloc _).alloc _),aB ((aS.new' aD).alloc _),aB (aS.new' aD),aB (World.ownsRow_nil _ _ _ _),aB rfl⟩
 case round =>
  clear HB0 HB1;obtain⟨F1,F2,j,A1,k1,xs1,rfl,hk,hj,hjn,hbw,hblk,hblku,hblk1,hblk2,hown,hfc⟩:=hrel;have hkkr:=hkk.keep (R':=R) (w':=wr) (fun b hb=>⟨hb,fun o=>hbw.o.cell (p:=⟨b,o,Y⟩) (HR.o b hb)⟩);have hszb:w.heap.size+1+1+1<wr.heap.size:=aS.lt hblk2.o;cases F2 with
  | nil =>
   have hjn':j=nk:=by rw[<-HKL.o,hk.o,bS,hj.o];rfl
   have hd2:decide (j<nk)=false:=decide_eq_false aA;have zc:=aS.cell hblk.o;have zc1:=aS.cell hblk1.o;have zf1:=aS.frozen hblk1.o;have zc2:=aS.cell hblk2.o;clear hjn';go_wp2_with fail;have hsrc:kids=F1:=by rw[hk.o,i9]
   refine bodyPost_ret (v:=.agg #[O S n.op,O S n.a,O S n.b,X A1 j k1,X Aa na ca,X Af nf cf]) ?_ rfl ?_
   · exact j6 (g:=w.heap.size+1+1) ((((((hblk1.o.set_ 0 _).set_ 1 _).set_ 2 _).set_ 3 _).set_ 4 _).set_ 5 _) aD
   rw[jY,pX,q9,if_neg H1.o,if_neg H1.o,if_neg H1.o,hsrc];exact NI HR.o aA aA hbw.o hown.o (by rw[vH];exact hj.o) hfc.o ⟨Aa,na,ca,rfl,haa⟩ ⟨Af,nf,cf,rfl,by rw[sR,<-hsrc];exact hff⟩
  | cons pre nd ats ks F2 =>
   have hlt:j<nk:=by rw[<-HKL.o,hk.o,bS,hj.o];simp[bH]
   obtain⟨ha1,ha2⟩:=dW HOK.o (j:Int);have hkk2:fN R wr Ak nk ck (F1.app (.cons pre nd ats ks F2)):=by rw[<-hk.o];exact hkkr
   obtain⟨b,off,sk',sa',sf',rfl,hrb,htree,g0,g1,g2,g3,g4,g5⟩:=hkk2.at_;rw[hj.o] at g0 g1 g2 g3 g4 g5;obtain⟨_,hok2,hall2,_⟩:=(dD.app F1 _).1 (hk.o ▸ HAL.o);have hbb:b<w.heap.size:=hR b hrb;have HOA:=aB (And.intro hok2 hall2);have hfq:a7 F1+(a7 ks+a7 F2+1)=a7 kids:=by rw[hk.o,dK];simp only[a7]
   obtain⟨hva,hvb1,hda,hdb1⟩:=HVD.o;have hsz:=HSZ.o;have HFQ:Hid (a7 ks<m/\0<=v+aQ n.op n.b (j:Int)/\0<=d+aQ n.op n.b (j:Int)/\v+aQ n.op n.b (j:Int)+4*a7 ks<=1000000000000/\d+aQ n.op n.b (j:Int)+4*a7 ks<=1000000000000):=aB aA;have hwv:IntKind.i64.wrap (v+aQ n.op n.b (j:Int))=v+aQ n.op n.b (j:Int):=IntWalk.i64_in _ aA;have hwd:IntKind.i64.wrap (d+aQ n.op n.b (j:Int))=d+aQ n.op n.b (j:Int):=IntWalk.i64_in _ aA;have HTR:=aB (fun (W:World) (hW:Below wr.heap.size wr W)=>(htree.keep fun b' hb'=>⟨hb',fun o=>hW.cell (p:=⟨b',o,Y⟩) (Nat.lt_of_lt_of_le (hR b' hb') hbw.o.size)⟩:cJ R W [O S nd.op,O S nd.a,O S nd.b,sk',sa',sf'] nd ats ks));have HTU:=aB (fun (W:World) (hW:Below wr.heap.size wr W)=>(cJ.keep HU.o fun b' hb'=>⟨hb',fun o=>(hW.cell (p:=⟨b',o,Y⟩) (Nat.lt_of_lt_of_le (hR b' hb') hbw.o.size)).trans (hbw.o.cell (p:=⟨b',o,Y⟩) (hR b' hb'))⟩:cJ R W [O S t.n.op,O S t.n.a,O S t.n.b,X Bk mk dk,X Ba ma da,X Bf mf df] t.n t.a t.k));have HRL:=aB (fun (W:World) (hW:Below wr.heap.size wr W) (b':Nat) (hb':R b')=>(Nat.lt_of_lt_of_le (hR b' hb') (Nat.le_trans hbw.o.size hW.size):b'<W.heap.size));have HKP:=aB (fun (W:World) (hW:Below wr.heap.size wr W)=>(by
    have hB:∀q,q<wr.heap.size->∀o,W.cell? ⟨q,o,Y⟩=wr.cell? ⟨q,o,Y⟩:=fun q hq o=>hW.cell (p:=⟨q,o,Y⟩) hq;have hbb2:b<wr.heap.size:=Nat.lt_of_lt_of_le hbb hbw.o.size;exact⟨(hB _ aA _).trans (hblk.o.cell 3),(hB _ aA _).trans (hblku.o.cell 0),(hB _ aA _).trans (hblku.o.cell 1),(hB _ aA _).trans (hblku.o.cell 2),(hB _ aA _).trans (hblku.o.cell 3),(hB _ aA _).trans (hblku.o.cell 4),(hB _ aA _).trans (hblku.o.cell 5),(hB _ aA _).trans (hblk2.o.cell 3),(hB _ hbb2 _).trans g0,(hB _ hbb2 _).trans g1,(hB _ hbb2 _).trans g2,(hB _ hbb2 _).trans g3,(hB _ hbb2 _).trans g4,(hB _ hbb2 _).trans g5⟩:W.cell? ⟨w.heap.size,3,Y⟩=Z (X (Z ⟨b,off,Y⟩) nk ck)/\W.cell? ⟨w.heap.size+1,0,Y⟩=Z (O S t.n.op)/\W.cell? ⟨w.heap.size+1,1,Y⟩=Z (O S t.n.a)/\W.cell? ⟨w.heap.size+1,2,Y⟩=Z (O S t.n.b)/\W.cell? ⟨w.heap.size+1,3,Y⟩=Z (X Bk mk dk)/\W.cell? ⟨w.heap.size+1,4,Y⟩=Z (X Ba ma da)/\W.cell? ⟨w.heap.size+1,5,Y⟩=Z (X Bf mf df)/\W.cell? ⟨w.heap.size+1+1+1,3,Y⟩=Z (X A1 j k1)/\W.cell? ⟨b,off+j*6,Y⟩=Z (O S nd.op)/\W.cell? ⟨b,off+j*6+1,Y⟩=Z (O S nd.a)/\W.cell? ⟨b,off+j*6+2,Y⟩=Z (O S nd.b)/\W.cell? ⟨b,off+j*6+3,Y⟩=Z sk'/\W.cell? ⟨b,off+j*6+4,Y⟩=Z sa'/\W.cell? ⟨b,off+j*6+5,Y⟩=Z sf'))
   have zc:=aS.cell hblk.o;clear hkk2 hkkr hsz hva hvb1 hda hdb1 hfq hok2 hall2 g0 g1 g2 g3 g4 g5 htree;go_wp2_with fail;refine (jI _ _ _ _ _ aA).mono ?_;rintro e w2 ⟨he,hw2⟩;subst he;have hd2:Below wr.heap.size wr w2:=by first | (rw[hw2];exact aP _ _) | (rw[<-hw2];exact aP _ _) | (subst hw2;exact aP _ _)
   have HD2:=aB (aV hd2 1);clear hw2 hd2 zc;go_wp2_with fail;refine cP 18 (fun w'=>w'.cell? ⟨w.heap.size,3,Y⟩=Z (X (Z ⟨b,off,Y⟩) nk ck)/\w'.cell? ⟨w.heap.size+1,0,Y⟩=Z (O S t.n.op)/\w'.cell? ⟨w.heap.size+1,1,Y⟩=Z (O S t.n.a)/\w'.cell? ⟨w.heap.size+1,2,Y⟩=Z (O S t.n.b)/\w'.cell? ⟨w.heap.size+1,3,Y⟩=Z (X Bk mk dk)/\w'.cell? ⟨w.heap.size+1,4,Y⟩=Z (X Ba ma da)/\w'.cell? ⟨w.heap.size+1,5,Y⟩=Z (X Bf mf df)/\w'.cell? ⟨w.heap.size+1+1+1,3,Y⟩=Z (X A1 j k1)/\w'.cell? ⟨b,off+j*6,Y⟩=Z (O S nd.op)/\w'.cell? ⟨b,off+j*6+1,Y⟩=Z (O S nd.a)/\w'.cell? ⟨b,off+j*6+2,Y⟩=Z (O S nd.b)/\w'.cell? ⟨b,off+j*6+3,Y⟩=Z sk'/\w'.cell? ⟨b,off+j*6+4,Y⟩=Z sa'/\w'.cell? ⟨b,off+j*6+5,Y⟩=Z sf') aC ?_ (fun hZ => ?_)
   · (try dsimp only);exact HKP.o _ HD2.o
   refine aN 0 hZ ?_;refine aN 1 hZ ?_;refine aN 2 hZ ?_;refine aN 3 hZ ?_;refine aN 4 hZ ?_;refine aN 5 hZ ?_;refine aN 6 hZ ?_;refine aN 7 hZ ?_;refine aN 8 hZ ?_;refine aN 9 hZ ?_;refine aN 10 hZ ?_;refine aN 11 hZ ?_;refine aN 12 hZ ?_;refine aN 13 hZ ?_;refine bA (i:=14) aC rfl rfl (fun K hK => ?_);go_simp;go_at_call 109
   refine (HI.o _ R [O S nd.op,O S nd.a,O S nd.b,sk',sa',sf'] [O S t.n.op,O S t.n.a,O S t.n.b,X Bk mk dk,X Ba ma da,X Bf mf df] nd ats ks _ _ (HRL.o _ HD2.o) (HTR.o _ HD2.o) (HTU.o _ HD2.o) HOA.o.1 HOA.o.2 HFQ.o.2.1 HFQ.o.2.2.1 HFQ.o.2.2.2.1 HFQ.o.2.2.2.2 HFQ.o.1).mono ?_;rintro e w3 ⟨hb3,ys,rfl,ht3⟩;have HT3:=aB ht3;obtain⟨sk3,sa3,sf3,rfl,⟨A3,n3,c3,rfl,hk3⟩,⟨A4,n4,c4,rfl,h43⟩,⟨A5,n5,c5,rfl,h53⟩⟩:=ht3;have HB4:=dA HD2 hb3;have hb4s:=HB4.o.size;clear hk3 h43 h53 hb3;go_wp2_with fail;refine hK.o _ _ (fun _ => ?_) ?_
   · (try dsimp only);exact HKP.o _ HB4.o
   clear hK K;try simp only[p7]
   replace hZ:=HKP.o _ HB4.o
   refine bA (i:=15) aC rfl rfl (fun K hK => ?_);go_simp;refine hK.o _ _ (fun _ => ?_) ?_
   · (try dsimp only);exact HKP.o _ (HB4.o.alloc HB4.o.size (.cells #[O S (jY t nd (v+aQ n.op n.b (j:Int)) (d+aQ n.op n.b (j:Int))).op,O S (jY t nd (v+aQ n.op n.b (j:Int)) (d+aQ n.op n.b (j:Int))).a,O S (jY t nd (v+aQ n.op n.b (j:Int)) (d+aQ n.op n.b (j:Int))).b,X A3 n3 c3,X A4 n4 c4,X A5 n5 c5] 49))
   clear hK K;try simp only[p7]
   replace hZ:=HKP.o _ (HB4.o.alloc HB4.o.size (.cells #[O S (jY t nd (v+aQ n.op n.b (j:Int)) (d+aQ n.op n.b (j:Int))).op,O S (jY t nd (v+aQ n.op n.b (j:Int)) (d+aQ n.op n.b (j:Int))).a,O S (jY t nd (v+aQ n.op n.b (j:Int)) (d+aQ n.op n.b (j:Int))).b,X A3 n3 c3,X A4 n4 c4,X A5 n5 c5] 49))
   refine bA (i:=16) aC rfl rfl (fun K hK => ?_);refine fX (.tmp 55) (.tmp 69) 47 rfl (w.heap.size+4) i0 _ Tryz.underlying47 HI0.o HY0.o HY1.o HY2.o rfl (X A1 j k1) j xs1 [O S (jY t nd (v+aQ n.op n.b (j:Int)) (d+aQ n.op n.b (j:Int))).op,O S (jY t nd (v+aQ n.op n.b (j:Int)) (d+aQ n.op n.b (j:Int))).a,O S (jY t nd (v+aQ n.op n.b (j:Int)) (d+aQ n.op n.b (j:Int))).b,X A3 n3 c3,X A4 n4 c4,X A5 n5 c5] aF (BK _ _ _ (A3,n3,c3) (A4,n4,c4) (A5,n5,c5)) w3 aF aF (bL hown.o HB4.o) _ aF aF aA aA ?_;intro A' c' w' happ;have hb5:∀g,g<w.heap.size+4->∀o,w'.cell? ⟨g,o,Y⟩=w3.cell? ⟨g,o,Y⟩:=fun g hg o=>World.cell?_of_block (happ.grown.block g aA (fE (bL hown.o HB4.o) hg));have hq:=HKP.o _ HB4.o;have hS4:w'.cell? ⟨w.heap.size,3,Y⟩=Z (X (Z ⟨b,off,Y⟩) nk ck)/\w'.cell? ⟨w.heap.size+1,0,Y⟩=Z (O S t.n.op)/\w'.cell? ⟨w.heap.size+1,1,Y⟩=Z (O S t.n.a)/\w'.cell? ⟨w.heap.size+1,2,Y⟩=Z (O S t.n.b)/\w'.cell? ⟨w.heap.size+1,3,Y⟩=Z (X Bk mk dk)/\w'.cell? ⟨w.heap.size+1,4,Y⟩=Z (X Ba ma da)/\w'.cell? ⟨w.heap.size+1,5,Y⟩=Z (X Bf mf df)/\w'.cell? ⟨w.heap.size+1+1+1,3,Y⟩=Z (X A1 j k1)/\w'.cell? ⟨b,off+j*6,Y⟩=Z (O S nd.op)/\w'.cell? ⟨b,off+j*6+1,Y⟩=Z (O S nd.a)/\w'.cell? ⟨b,off+j*6+2,Y⟩=Z (O S nd.b)/\w'.cell? ⟨b,off+j*6+3,Y⟩=Z sk'/\w'.cell? ⟨b,off+j*6+4,Y⟩=Z sa'/\w'.cell? ⟨b,off+j*6+5,Y⟩=Z sf':=⟨(hb5 _ aA _).trans hq.1,(hb5 _ aA _).trans hq.2.1,(hb5 _ aA _).trans hq.2.2.1,(hb5 _ aA _).trans hq.2.2.2.1,(hb5 _ aA _).trans hq.2.2.2.2.1,(hb5 _ aA _).trans hq.2.2.2.2.2.1,(hb5 _ aA _).trans hq.2.2.2.2.2.2.1,(hb5 _ aA _).trans hq.2.2.2.2.2.2.2.1,(hb5 _ aA _).trans hq.2.2.2.2.2.2.2.2.1,(hb5 _ aA _).trans hq.2.2.2.2.2.2.2.2.2.1,(hb5 _ aA _).trans hq.2.2.2.2.2.2.2.2.2.2.1,(hb5 _ aA _).trans hq.2.2.2.2.2.2.2.2.2.2.2.1,(hb5 _ aA _).trans hq.2.2.2.2.2.2.2.2.2.2.2.2.1,(hb5 _ aA _).trans hq.2.2.2.2.2.2.2.2.2.2.2.2.2⟩;have zf4:w'.frozen? ⟨w.heap.size+1+1+1,3,Y⟩=false:=aS.frozen ((hblk2.o.below HB4.o hblk2.o.lt).grown happ.grown (fE (bL hown.o HB4.o) aA)) 3;clear hq hb5;refine hK.o _ _ (fun _ => ?_) ?_
   · (try dsimp only);exact hS4
   clear hK K;try simp only[p7]
   replace hZ:=hS4
   refine aN 17 hZ ?_;refine bA (i:=18) aC rfl rfl (fun K hK => ?_);go_simp;refine hK.o _ _ (fun h=>absurd rfl h) ?_;clear hK K;try simp only[p7]
   refine dE aC ?_ _;have hown3:=bL hown.o HB4.o;have hne4:∀g,g<w.heap.size+4->Z g ≠ (Value.slice A1 j k1).ownBlock:=fun g hg e=>by have:=(aR hown3 e.symm).1;omega
   have HBF:=aB (((hbw.o.trans (HB4.o.mono hbw.o.size)).grown happ.grown (by have:=hbw.o.size;omega) (fun g hg=>by have:=(aR hown3 hg).1;omega)).setCell (p:=⟨w.heap.size+1+1+1,3,Y⟩) (show w.heap.size<=w.heap.size+1+1+1 by omega) (X A' (j+1) c'));have HZ0:=aB (((hblk.o.below HB4.o hblk.o.lt).grown happ.grown (hne4 _ aA)).far (p:=⟨w.heap.size+1+1+1,3,Y⟩) (show w.heap.size ≠ w.heap.size+1+1+1 by omega) (X A' (j+1) c'));have HZU:=aB (((hblku.o.below HB4.o hblku.o.lt).grown happ.grown (hne4 _ aA)).far (p:=⟨w.heap.size+1+1+1,3,Y⟩) (show w.heap.size+1 ≠ w.heap.size+1+1+1 by omega) (X A' (j+1) c'));have HZ1:=aB (((hblk1.o.below HB4.o hblk1.o.lt).grown happ.grown (hne4 _ aA)).far (p:=⟨w.heap.size+1+1+1,3,Y⟩) (show w.heap.size+1+1 ≠ w.heap.size+1+1+1 by omega) (X A' (j+1) c'));have HZ2:=aB (((hblk2.o.below HB4.o hblk2.o.lt).grown happ.grown (hne4 _ aA)).set_ 3 (X A' (j+1) c'));have HOF:=aB (ownsRow_setCell_below happ.own (a:=⟨w.heap.size+1+1+1,3,Y⟩) (show w.heap.size+1+1+1<w.heap.size+4 by omega) (X A' (j+1) c'));have HFF:=aB (vI (B0:=w.heap.size) (B:=w.heap.size+4) hfc.o HT3.o HD2.o.size HB4.o aA hR aA hown.o (Below.refl _ _) happ (wf:=w'.setCell ⟨w.heap.size+1+1+1,3,Y⟩ (X A' (j+1) c')) (pre:=pre) (fun g hg o=>World.cell?_setCell_other _ _ _ _ (fun hh=>by injection hh with hh;omega)) (by simp[World.setCell]));clear happ hne4 hown3;go_wp2_with fail;go_roundw
   case rel =>
    refine⟨F1.app (.cons pre nd ats ks .nil),F2,j+1,A',c',_,by go_num,aB (by rw[hk.o,dI];rfl),aB (by rw[bS];simp[bH,hj.o]),by omega,HBF,HZ0,HZU,HZ1,HZ2,HOF,aB ?_⟩;rw[AL,hj.o,Nat.zero_add,jF];exact HFF.o
   case measure=>simp[intOf];omega
theorem FI (t:Tr) (htok:eE t.n=true) (htall:dD t.k) (hts:4*a7 t.k<=1000000000000) : ∀(m:Nat) (w:World) (R:Nat->Prop) (xs us:List Value) (n:Nd) (atoms:List Nd) (kids:Fo) (v d:Int),(∀b,R b->b<w.heap.size)->cJ R w xs n atoms kids->cJ R w us t.n t.a t.k->eE n=true->dD kids->0<=v->0<=d->v+4*a7 kids<=1000000000000->d+4*a7 kids<=1000000000000->a7 kids<m →
      Calls Tryz.prog 109 #[.agg xs.toArray,.agg us.toArray,O S v,O S d] w (fG R w (jY t n v d) (pX t n atoms v d) (q9 t n kids v d))
 | 0,_,_,_,_,_,_,_,_,_,_,_,_,_,_,_,_,_,_,h=>absurd h (Nat.not_lt_zero _)
 | m+1,w,R,xs,us,n,atoms,kids,v,d,h1,h2,h3,h4,h5,h6,h7,h8,h9,h10=>LC t htok htall hts m (FI t htok htall hts m) w R xs us n atoms kids v d h1 h2 h3 h4 h5 h6 h7 h8 h9 aA
end Go.Proofs.YtjllmblbbgojbaaGreat
