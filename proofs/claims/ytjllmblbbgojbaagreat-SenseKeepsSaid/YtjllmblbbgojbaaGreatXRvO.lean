/- Merged: Times, Highest, RvO. -/
import Derived.Test.YtjllmblbbgojbaaGreatXRvPut
namespace Go.Proofs.YtjllmblbbgojbaaGreat
set_option linter.unusedVariables false
set_option linter.unusedSimpArgs false
open Go.RowKit
open Go.Value renaming int → O, slice → Z
open Go.IntKind renaming i64 → Y
open Option renaming none → I, some → J
open Go.Obj renaming cells → E
section
open Go.Lib renaming hid->aB
set_option maxHeartbeats 2000000
set_option maxRecDepth 100000
def nZ (a b:Int) (w:World) (e:Ending) (w':World):Prop:=e=.returned (.tuple #[O Y a,O Y b])/\Below w.heap.size w w'
theorem s8 {k k':IntKind} {a b c d:Int} (h:a=c) (h':b=d):Ending.returned (.tuple #[.int k a,.int k' b])=.returned (.tuple #[.int k c,.int k' d]):=by rw[h,h']
theorem EC (m:Nat) (ih:∀(w:World) (R:Nat->Prop) (xs:List Value) (n:Nd) (atoms:List Nd) (kids:Fo) (u:Int),(∀b,R b->b<w.heap.size)->cJ R w xs n atoms kids->eE n=true->dD kids->0<=u->u+4*a7 kids<=1000000000000->a7 kids<m →
      Calls Tryz.prog 106 #[.agg xs.toArray,O Y u] w (nZ (gS n kids u).1 (gS n kids u).2 w))
 (w:World) (R:Nat->Prop) (xs:List Value) (n:Nd) (atoms:List Nd) (kids:Fo) (u:Int) (hR:∀b,R b->b<w.heap.size) (ht:cJ R w xs n atoms kids) (hok:eE n=true) (hall:dD kids) (hu0:0<=u) (hu1:u+4*a7 kids<=1000000000000) (hsz:a7 kids<=m) :
 Calls Tryz.prog 106 #[.agg xs.toArray,O Y u] w (nZ (gS n kids u).1 (gS n kids u).2 w):=by
 have HI:=aB ih;clear ih;obtain⟨sk,sa,sf,rfl,⟨Ak,nk,ck,rfl,hkk⟩,⟨Aa,na,ca,rfl,haa⟩,⟨Af,nf,cf,rfl,hff⟩⟩:=ht;have hna:=(fK ((by simp only[eE,Bool.and_eq_true] at hok;exact hok.1.1):bW n.op n.a n.b=true));by_cases h1:n.op=1
 · have h1b:(n.op==1)=true:=by simp[h1]
   have H1:=aB h1;clear h1 hu1;obtain⟨hna1,hna2⟩:=hna;go_in;by_cases hc:n.a=u
   · have hcb:(n.a==u)=true:=by simp[hc]
     have HC:=aB hc;clear hc;go_wp2_with fail;go_ret2;refine⟨s8 ?_ ?_,aP _ _⟩<;>simp only[gS,if_pos H1.o,if_pos HC.o]
   have hcb:(n.a==u)=false:=by simp[hc]
   go_wp2_with fail;go_ret2;refine⟨s8 ?_ ?_,aP _ _⟩<;>simp only[gS,if_pos H1.o,if_neg hc]
 have h1b:(n.op==1)=false:=by simp[h1]
 have H1:=aB h1;have HU:=aB hu1;have HSZ:=aB hsz;have HKL:=aB hkk.len;have HOK:=aB hok;have hnk:nk<=1000000000000000:=by
  have h1:=fF kids;have h2:=hkk.len;omega
 clear h1 hu1 hsz hok;go_in;go_wp2_with fail;go_loopw [6,7,8] (fun c v i wr=>∃(F1 F2:Fo) (j:Nat) (s t:Int),kids=F1.app F2/\bH F1=j/\c=O Y s/\v=O Y t/\i=O Y (j:Int)/\0<=t/\t<=4*a7 kids/\0<=s/\s<=a7 F1/\s+(rN n.op n.b j u F2).1=(rN n.op n.b 0 u kids).1/\max t (rN n.op n.b j u F2).2=(rN n.op n.b 0 u kids).2/\Below w.heap.size w wr ∧
  aS wr w.heap.size 49 #[O Y n.op,O Y n.a,O Y n.b,Z Ak nk ck,Z Aa na ca,Z Af nf cf]) (fun _ _ i _=>nk-(intOf i).toNat)
 case atStart =>
  have hb:=EA HOK.o 0 u kids hall;exact⟨.nil,kids,0,0,0,rfl,rfl,rfl,rfl,rfl,Int.le_refl _,by omega,Int.le_refl _,Int.le_refl _,by omega,by omega,aP _ _,aS.new _ _ _⟩
 case round =>
  obtain⟨F1,F2,j,s,t,hk,hj,rfl,rfl,rfl,ht0,ht1,hs0,hs1,he,he2,hbw,hblk⟩:=hrel;have HK:=aB hk;have HJ:=aB hj;have HE:=aB he;have HE2:=aB he2;have HS1:=aB hs1;have HT1:=aB ht1;have hkkr:=hkk.keep (R':=R) (w':=wr) (fun b hb=>⟨hb,fun o=>hbw.cell (p:=⟨b,o,I⟩) (hR b hb)⟩);have zc:=aS.cell hblk;have hszb:w.heap.size+1<=wr.heap.size:=aS.lt hblk;clear he he2 hs1 ht1;cases F2 with
  | nil =>
   have hjn:j=nk:=by rw[<-HKL.o,hk,bS,hj];rfl
   have hjn2:¬ j<nk:=aA;clear hk hj hjn;go_wp2_with fail;go_ret2;refine⟨s8 ?_ ?_,hbw⟩
   · have h1:=HE.o;simp only[gS,if_neg H1.o,<-h1,rN];omega
   · have h1:=HE2.o;simp only[gS,if_neg H1.o,<-h1,rN];omega
  | cons pre nd ats ks F2 =>
   have hjn:j<nk:=by rw[<-HKL.o,hk,bS,hj];simp[bH]
   have hkk2:fN R wr Ak nk ck (F1.app (.cons pre nd ats ks F2)):=by rw[<-hk];exact hkkr
   obtain⟨b,off,sk',sa',sf',rfl,hrb,htree,g0,g1,g2,g3,g4,g5⟩:=hkk2.at_;rw[hj] at g0 g1 g2 g3 g4 g5;obtain⟨_,hok2,hall2,hall3⟩:=(dD.app F1 _).1 (hk ▸ hall);have hbb:b<w.heap.size:=hR b hrb;clear hk hj hkk2 hkkr;have hB:w.heap.size<wr.heap.size:=aS.lt hblk;obtain⟨ha1,ha2⟩:=dW HOK.o (j:Int);have hszk:a7 kids=a7 F1+(a7 ks+a7 F2+1):=by rw[HK.o,dK];rfl
   have hfs:u+4*(a7 F1+(a7 ks+a7 F2+1))<=1000000000000:=by
    have:=HU.o;omega
   have hfs2:a7 ks<m:=by
    have:=HSZ.o;omega
   have hq:=FV hok2 (u+aQ n.op n.b (j:Int)) ks hall2;have hr:=EA HOK.o (j+1) u F2 hall3;obtain⟨q1,q2,q3,q4⟩:=hq;obtain⟨r1,r2,r3,r4⟩:=hr;have hb1:0<=u+aQ n.op n.b (j:Int):=aA;have hb2:u+aQ n.op n.b (j:Int)+4*a7 ks<=1000000000000:=aA;have HB1:=aB hb1;have HB2:=aB hb2;have HB3:=aB hfs2;have HSK:=aB hszk;have hub:u<=1000000000000:=aA;have hs1':s<=1000000000000:=by have:=HS1.o;omega
   have ht1':t<=1000000000000:=by have:=HT1.o;omega
   have hq2':(gS nd ks (u+aQ n.op n.b (j:Int))).1<=1000000000000:=aA;have hq4':(gS nd ks (u+aQ n.op n.b (j:Int))).2<=1000000000000:=aA;have Q2:=aB q2;have Q4:=aB q4;clear hb1 hb2 hfs hfs2 hszk q2 q4 r1 r2 r3 r4;have hbsz:b<wr.heap.size:=aA;have g0a:=fun o=>(World.cell?_alloc_lt wr o ⟨b,off+j*6,I⟩ hbsz).trans g0;have g1a:=fun o=>(World.cell?_alloc_lt wr o ⟨b,off+j*6+1,I⟩ hbsz).trans g1;have g2a:=fun o=>(World.cell?_alloc_lt wr o ⟨b,off+j*6+2,I⟩ hbsz).trans g2;have g3a:=fun o=>(World.cell?_alloc_lt wr o ⟨b,off+j*6+3,I⟩ hbsz).trans g3;have g4a:=fun o=>(World.cell?_alloc_lt wr o ⟨b,off+j*6+4,I⟩ hbsz).trans g4;have g5a:=fun o=>(World.cell?_alloc_lt wr o ⟨b,off+j*6+5,I⟩ hbsz).trans g5;have zca:=fun o=>aS.cell (hblk.alloc o);have htr:∀W:World,Below wr.heap.size wr W->cJ R W [O Y nd.op,O Y nd.a,O Y nd.b,sk',sa',sf'] nd ats ks:=fun W hW =>
    htree.keep fun b' hb'=>⟨hb',fun o=>hW.cell (p:=⟨b',o,I⟩) (Nat.lt_of_lt_of_le (hR b' hb') hbw.size)⟩
   have hrl:∀W:World,Below wr.heap.size wr W->∀b',R b'->b'<W.heap.size:=fun W hW b' hb'=>Nat.lt_of_lt_of_le (hR b' hb') (Nat.le_trans hbw.size hW.size);have HTR:=aB htr;have HRL:=aB hrl;clear htr hrl;go_wp2_with (go_at_call 112;refine (jI _ _ _ _ _ aA).mono ?_;rintro e w2 ⟨rfl,rfl⟩)
   refine (HI.o _ R [O Y nd.op,O Y nd.a,O Y nd.b,sk',sa',sf'] nd ats ks _ (HRL.o _ ((Below.refl _ _).alloc (Nat.le_refl _) _)) (HTR.o _ ((Below.refl _ _).alloc (Nat.le_refl _) _)) hok2 hall2 HB1.o HB2.o HB3.o).mono ?_;rintro e w3 ⟨rfl,hb3⟩;have hb4:Below wr.heap.size wr w3:=kT ((Below.refl _ _).alloc (Nat.le_refl _) _) hb3 (Nat.le_refl _);have hblk3:=hblk.below hb4 hB;by_cases hm:0<(gS nd ks (u+aQ n.op n.b (j:Int))).1
   · go_wp2_with fail;all_goals
      go_roundw
      case rel =>
       refine⟨F1.app (.cons pre nd ats ks .nil),F2,j+1,_,_,by rw[HK.o,dI];rfl,by rw[bS];simp[bH,HJ.o],rfl,rfl,by go_num,?_,?_,?_,?_,?_,?_,hbw.trans (hb4.mono hbw.size),hblk3⟩
       · omega
       · have h1:=HT1.o;have h2:=HSK.o;have h3:=Q4.o;omega
       · omega
       · have h1:=HS1.o;have h3:=Q2.o;rw[dK];simp only[a7];omega
       · have h1:=HE.o;rw[kO] at h1;simp only at h1;omega
       have h1:=HE2.o;rw[kO] at h1;simp only[if_pos hm] at h1;omega
      case measure=>simp[intOf];omega
   · go_wp2_with fail;go_roundw
     case rel =>
      refine⟨F1.app (.cons pre nd ats ks .nil),F2,j+1,_,_,by rw[HK.o,dI];rfl,by rw[bS];simp[bH,HJ.o],rfl,rfl,by go_num,ht0,HT1.o,?_,?_,?_,?_,hbw.trans (hb4.mono hbw.size),hblk3⟩
      · omega
      · have h1:=HS1.o;have h3:=Q2.o;rw[dK];simp only[a7];omega
      · have h1:=HE.o;rw[kO] at h1;simp only at h1;omega
      have h1:=HE2.o;rw[kO] at h1;rw[if_neg aA] at h1;exact h1
     case measure=>simp[intOf];omega
theorem wK:∀(m:Nat) (w:World) (R:Nat->Prop) (xs:List Value) (n:Nd) (atoms:List Nd) (kids:Fo) (u:Int),(∀b,R b->b<w.heap.size)->cJ R w xs n atoms kids->eE n=true->dD kids->0<=u->u+4*a7 kids<=1000000000000->a7 kids<m →
      Calls Tryz.prog 106 #[.agg xs.toArray,O Y u] w (nZ (gS n kids u).1 (gS n kids u).2 w)
 | 0,_,_,_,_,_,_,_,_,_,_,_,_,_,h=>absurd h aA
 | m+1,w,R,xs,n,atoms,kids,u,h1,h2,h3,h4,h5,h6,h7=>EC m (wK m) w R xs n atoms kids u h1 h2 h3 h4 h5 h6 aA
theorem IZ {w:World} {R:Nat->Prop} {xs:List Value} {n:Nd} {atoms:List Nd} {kids:Fo} {u:Int} (hR:∀b,R b->b<w.heap.size) (ht:cJ R w xs n atoms kids) (hok:eE n=true) (hall:dD kids) (h0:0<=u) (h1:u+4*a7 kids<=1000000000000) :
 Calls Tryz.prog 106 #[.agg xs.toArray,O Y u] w (nZ (gS n kids u).1 (gS n kids u).2 w) :=
 wK (a7 kids+1) w R xs n atoms kids u hR ht hok hall h0 h1 (Nat.lt_succ_self _)
end
section
open Go.Lib renaming hid->aB
set_option maxRecDepth 100000 in
set_option maxHeartbeats 2000000 in
theorem xM (m:Nat) (ih:∀(w:World) (R:Nat->Prop) (xs:List Value) (n:Nd) (atoms:List Nd) (kids:Fo) (up u:Int),(∀b,R b->b<w.heap.size)->cJ R w xs n atoms kids->eE n=true->dD kids->0<=up->up<=1000000000000->0<=u->u+4*a7 kids<=1000000000000->a7 kids<m →
      Calls Tryz.prog 107 #[.agg xs.toArray,O Y up,O Y u] w (dZ (oP up n kids u) w))
 (w:World) (R:Nat->Prop) (xs:List Value) (n:Nd) (atoms:List Nd) (kids:Fo) (up u:Int) (hR:∀b,R b->b<w.heap.size) (ht:cJ R w xs n atoms kids) (hok:eE n=true) (hall:dD kids) (hup0:0<=up) (hup1:up<=1000000000000) (hu0:0<=u) (hu1:u+4*a7 kids<=1000000000000) (hsz:a7 kids<=m) :
 Calls Tryz.prog 107 #[.agg xs.toArray,O Y up,O Y u] w (dZ (oP up n kids u) w):=by
 have HI:=aB ih;clear ih;obtain⟨sk,sa,sf,rfl,⟨Ak,nk,ck,rfl,hkk⟩,⟨Aa,na,ca,rfl,haa⟩,⟨Af,nf,cf,rfl,hff⟩⟩:=ht;have hna:=(fK ((by simp only[eE,Bool.and_eq_true] at hok;exact hok.1.1):bW n.op n.a n.b=true));by_cases h1:n.op=1
 · have h1b:(n.op==1)=true:=by simp[h1]
   have H1:=aB h1;clear h1 hu1;obtain⟨hna1,hna2⟩:=hna;go_in;by_cases hge:u<=n.a
   · go_wp2_with fail;go_ret;refine⟨cN ?_,aP _ _⟩;simp only[oP,if_pos H1.o,if_pos hge]
   go_wp2_with fail;go_ret;refine⟨cN ?_,aP _ _⟩;simp only[oP,if_pos H1.o,if_neg (by omega:¬ u<=n.a)]
 have h1b:(n.op==1)=false:=by simp[h1]
 have H1:=aB h1;have HU:=aB hu1;have HSZ:=aB hsz;have HKL:=aB hkk.len;have HOK:=aB hok;have hnk:nk<=1000000000000000:=by
  have h1:=fF kids;have h2:=hkk.len;omega
 clear h1 hu1 hsz hok;go_in;go_wp2_with fail;go_loopw [7,8] (fun v i wr=>∃(F1 F2:Fo) (j:Nat) (t:Int),kids=F1.app F2/\bH F1=j/\v=O Y t/\i=O Y (j:Int)/\-1<=t/\max t (KC n.op n.b up j u F2)=KC n.op n.b up 0 u kids/\Below w.heap.size w wr ∧
  aS wr w.heap.size 49 #[O Y n.op,O Y n.a,O Y n.b,Z Ak nk ck,Z Aa na ca,Z Af nf cf]) (fun _ i _=>nk-(intOf i).toNat)
 case atStart=>exact⟨.nil,kids,0,-1,rfl,rfl,rfl,rfl,Int.le_refl _,EW _ _ _ _ _ _,aP _ _,aS.new _ _ _⟩
 case round =>
  obtain⟨F1,F2,j,t,hk,hj,rfl,rfl,ht,he,hbw,hblk⟩:=hrel;have HK:=aB hk;have HJ:=aB hj;have HE:=aB he;have HT:=aB ht;have hkkr:=hkk.keep (R':=R) (w':=wr) (fun b hb=>⟨hb,fun o=>hbw.cell (p:=⟨b,o,I⟩) (hR b hb)⟩);have zc:=aS.cell hblk;clear he ht;cases F2 with
  | nil =>
   have hjn:j=nk:=by rw[<-HKL.o,hk,bS,hj];rfl
   have hjn2:¬ j<nk:=aA;clear hk hj hjn;go_wp2_with fail;go_ret;refine⟨cN ?_,hbw⟩;have h1:=HE.o;have h2:=HT.o;simp only[oP,if_neg H1.o,<-h1,KC];omega
  | cons pre nd ats ks F2 =>
   have hjn:j<nk:=by rw[<-HKL.o,hk,bS,hj];simp[bH]
   have hkk2:fN R wr Ak nk ck (F1.app (.cons pre nd ats ks F2)):=by rw[<-hk];exact hkkr
   obtain⟨b,off,sk',sa',sf',rfl,hrb,htree,g0,g1,g2,g3,g4,g5⟩:=hkk2.at_;rw[hj] at g0 g1 g2 g3 g4 g5;obtain⟨_,hok2,hall2,_⟩:=(dD.app F1 _).1 (hk ▸ hall);have hbb:b<w.heap.size:=hR b hrb;clear hk hj hkk2 hkkr;have hB:w.heap.size<wr.heap.size:=aS.lt hblk;obtain⟨ha1,ha2⟩:=dW HOK.o (j:Int);have hfs:u+4*(a7 F1+(a7 ks+a7 F2+1))<=1000000000000:=by
    have:=HU.o;rw[HK.o,dK] at this;simp only[a7] at this;omega
   have hfs2:a7 ks<m:=by
    have:=HSZ.o;rw[HK.o,dK] at this;simp only[a7] at this;omega
   have hw:IntKind.i64.wrap (u+aQ n.op n.b (j:Int))=u+aQ n.op n.b (j:Int):=IntWalk.i64_in _ aA;have hb1:0<=u+aQ n.op n.b (j:Int):=aA;have hb2:u+aQ n.op n.b (j:Int)+4*a7 ks<=1000000000000:=aA;have HB1:=aB hb1;have HB2:=aB hb2;have HB3:=aB hfs2;have htr:∀W:World,Below wr.heap.size wr W->cJ R W [O Y nd.op,O Y nd.a,O Y nd.b,sk',sa',sf'] nd ats ks:=fun W hW =>
    htree.keep fun b' hb'=>⟨hb',fun o=>hW.cell (p:=⟨b',o,I⟩) (Nat.lt_of_lt_of_le (hR b' hb') hbw.size)⟩
   have hrl:∀W:World,Below wr.heap.size wr W->∀b',R b'->b'<W.heap.size:=fun W hW b' hb'=>Nat.lt_of_lt_of_le (hR b' hb') (Nat.le_trans hbw.size hW.size);have hkeep:∀W:World,Below wr.heap.size wr W->(W.cell? ⟨w.heap.size,0,I⟩=J (O Y n.op)/\W.cell? ⟨w.heap.size,1,I⟩=J (O Y n.a)/\W.cell? ⟨w.heap.size,2,I⟩=J (O Y n.b)/\W.cell? ⟨w.heap.size,3,I⟩=J (Z (J ⟨b,off,I⟩) nk ck) ∧
    W.cell? ⟨b,off+j*6,I⟩=J (O Y nd.op)/\W.cell? ⟨b,off+j*6+1,I⟩=J (O Y nd.a)/\W.cell? ⟨b,off+j*6+2,I⟩=J (O Y nd.b)/\W.cell? ⟨b,off+j*6+3,I⟩=J sk'/\W.cell? ⟨b,off+j*6+4,I⟩=J sa'/\W.cell? ⟨b,off+j*6+5,I⟩=J sf'):=fun W hW=>by
    have hB:∀o,W.cell? ⟨w.heap.size,o,I⟩=wr.cell? ⟨w.heap.size,o,I⟩:=fun o=>hW.cell (p:=⟨w.heap.size,o,I⟩) hB;have hC:∀o,W.cell? ⟨b,o,I⟩=wr.cell? ⟨b,o,I⟩:=fun o=>hW.cell (p:=⟨b,o,I⟩) (Nat.lt_of_lt_of_le hbb hbw.size);rw[hB,hB,hB,hB,hC,hC,hC,hC,hC,hC];exact⟨hblk.cell 0,hblk.cell 1,hblk.cell 2,hblk.cell 3,g0,g1,g2,g3,g4,g5⟩
   have hfirst:=hkeep wr (Below.refl _ _);have HTR:=aB htr;have HRL:=aB hrl;have HKEEP:=aB hkeep;clear hb1 hb2 hfs hfs2 htr hrl hkeep zc g0 g1 g2 g3 g4 g5;by_cases hm:t<oP up nd ks (u+aQ n.op n.b (j:Int));all_goals
    obtain⟨g0,g1,g2,g3,g4,g5,g6,g7,g8,g9⟩:=hfirst;go_wp2_with fail;go_region_held3 (fun w'=>w'.cell? ⟨w.heap.size,0,I⟩=J (O Y n.op)/\w'.cell? ⟨w.heap.size,1,I⟩=J (O Y n.a)/\w'.cell? ⟨w.heap.size,2,I⟩=J (O Y n.b)/\w'.cell? ⟨w.heap.size,3,I⟩=J (Z (J ⟨b,off,I⟩) nk ck) ∧
     w'.cell? ⟨b,off+j*6,I⟩=J (O Y nd.op)/\w'.cell? ⟨b,off+j*6+1,I⟩=J (O Y nd.a)/\w'.cell? ⟨b,off+j*6+2,I⟩=J (O Y nd.b)/\w'.cell? ⟨b,off+j*6+3,I⟩=J sk'/\w'.cell? ⟨b,off+j*6+4,I⟩=J sa'/\w'.cell? ⟨b,off+j*6+5,I⟩=J sf') (first | go_keep | exact HKEEP.o _ hb4)
     (first
      | (go_at_call 112;refine (jI _ _ _ _ _ aA).mono ?_;rintro e w2 ⟨rfl,rfl⟩)
      | (go_at_call 107;refine (HI.o _ R [O Y nd.op,O Y nd.a,O Y nd.b,sk',sa',sf'] nd ats ks up _ (HRL.o _ (((Below.refl _ _).alloc (Nat.le_refl _) _).drew)) (HTR.o _ (((Below.refl _ _).alloc (Nat.le_refl _) _).drew)) hok2 hall2 hup0 hup1 HB1.o HB2.o HB3.o).mono ?_;rintro e w3 ⟨rfl,hb3⟩;have hb4:Below wr.heap.size wr w3:=kT (((Below.refl _ _).alloc (Nat.le_refl _) _).drew) hb3 (Nat.le_refl _)))
    go_wp2_with fail;go_roundw
    case rel =>
     refine⟨F1.app (.cons pre nd ats ks .nil),F2,j+1,_,by rw[HK.o,dI];rfl,by rw[bS];simp[bH,HJ.o],rfl,by go_num,?_,?_,hbw.trans (hb4.mono hbw.size),hblk.below hb4 hB⟩
     · have:=HT.o;omega
     have h1:=HE.o;rw[sH] at h1;rw[<-h1];omega
    case measure=>simp[intOf];omega
theorem qP:∀(m:Nat) (w:World) (R:Nat->Prop) (xs:List Value) (n:Nd) (atoms:List Nd) (kids:Fo) (up u:Int),(∀b,R b->b<w.heap.size)->cJ R w xs n atoms kids->eE n=true->dD kids->0<=up->up<=1000000000000->0<=u->u+4*a7 kids<=1000000000000->a7 kids<m →
      Calls Tryz.prog 107 #[.agg xs.toArray,O Y up,O Y u] w (dZ (oP up n kids u) w)
 | 0,_,_,_,_,_,_,_,_,_,_,_,_,_,_,_,_,h=>absurd h aA
 | m+1,w,R,xs,n,atoms,kids,up,u,h1,h2,h3,h4,h5,h6,h7,h8,h9=>xM m (qP m) w R xs n atoms kids up u h1 h2 h3 h4 h5 h6 h7 h8 aA
theorem qQ {w:World} {R:Nat->Prop} {xs:List Value} {n:Nd} {atoms:List Nd} {kids:Fo} {up u:Int} (hR:∀b,R b->b<w.heap.size) (ht:cJ R w xs n atoms kids) (hok:eE n=true) (hall:dD kids) (hup0:0<=up) (hup1:up<=1000000000000) (h0:0<=u) (h1:u+4*a7 kids<=1000000000000) :
 Calls Tryz.prog 107 #[.agg xs.toArray,O Y up,O Y u] w (dZ (oP up n kids u) w) :=
 qP (a7 kids+1) w R xs n atoms kids up u hR ht hok hall hup0 hup1 h0 h1 (Nat.lt_succ_self _)
end
section
open Go.Lib renaming hid->aB
theorem LI {w:World} {R:Nat->Prop} {tx tu:iL} {x u:TT} (hR:∀b,R b->b<w.heap.size) (htx:dJ R w tx x) (htu:dJ R w tu u) (hx:mW x) (hu:mW u) (sx:cL x<=4096) (su:cL u<=4096) :
 Calls Tryz.prog 109 #[.agg (eD tx x.1),.agg (eD tu u.1),O Y 0,O Y 0] w (N8 R w (yP (qW u) 0 x)):=by
 have fz:∀y:TT,cL y<=4096->a7 y.2.2<=4096:=fun y hy=>by
  obtain⟨n,a,k⟩:=y;have h2:=fD k;have h4:=eI n a k;simp only;omega
 have h1:=fz x sx;have h2:=fz u su;refine (FI ⟨u.1,u.2.1,u.2.2⟩ hu.ok hu.all (by simp only;omega) (a7 x.2.2+1) w R _ _ x.1 x.2.1 x.2.2 0 0 hR htx htu hx.ok hx.all (Int.le_refl 0) (Int.le_refl 0) aA aA (Nat.lt_succ_self _)).mono ?_;intro e w' hp;rw[<-OW hx hu];exact fG.tt (x:=(_,_,_)) hp
def PV (R:Nat->Prop) (w:World) (q:TT×Int) (e:Ending) (w':World):Prop:=Below w.heap.size w w'/\∃t:iL,e=.returned (.tuple #[.agg (eD t q.1.1),O Y q.2])/\dJ (aZ R w w') w' t q.1
theorem mK {R:Nat->Prop} {w V W:World} {g:Nat} {t:iL} {y:TT} {z:Int} (hR:∀b,R b->b<w.heap.size) (hg0:w.heap.size<=g) (hg1:g<V.heap.size) (hb:Below w.heap.size w W) (ht:dJ (aZ R V W) W t y) :
 PV R w (y,z) (.returned (.tuple #[.agg (eD t y.1),O Y z])) ((((((W.setCell ⟨g,0,I⟩ (O Y y.1.op)).setCell ⟨g,1,I⟩ (O Y y.1.a)).setCell ⟨g,2,I⟩ (O Y y.1.b)).setCell ⟨g,3,I⟩ (Z t.Ak t.nk t.ck)).setCell ⟨g,4,I⟩ (Z t.Aa t.na t.ca)).setCell ⟨g,5,I⟩ (Z t.Af t.nf t.cf)):=by
 obtain⟨h1,ys,h2,h3⟩:=BL hR hg0 hg1 hb ht;injection h2 with h2;injection h2 with h2;refine⟨h1,t,rfl,?_⟩;have:ys=[O Y y.1.op,O Y y.1.a,O Y y.1.b,Z t.Ak t.nk t.ck,Z t.Aa t.na t.ca,Z t.Af t.nf t.cf]:=by
  have:=congrArg Array.toList h2;simpa using this.symm
 rw[this] at h3;exact h3
theorem iD {w:World} {g:Nat} {c0 c1 c2 c3 c4 c5:Value} {tmps:Array Value} (h:aS w g 49 #[c0,c1,c2,c3,c4,c5]) (ht:tmps.getD 4 undef=.pointer (J ⟨g,0,I⟩)) :
 (results Tryz.f78 tmps).run Tryz.prog w=.ok (.tuple #[.agg #[c0,c1,c2,c3,c4,c5],tmps.getD 5 undef]) w:=by
 have hc:=h.cell;have ht':tmps[4]?.getD undef=.pointer (J ⟨g,0,I⟩):=by rw[<-ht];simp
 simp[results,Tryz.results78,go_sem,ht',hc]
set_option maxRecDepth 100000 in
set_option maxHeartbeats 8000000 in
theorem sO {b:Bk} {free:Int} {w:World} {R:Nat->Prop} {tx tu:iL} {x u:TT} (hR:∀b,R b->b<w.heap.size) (htx:dJ R w tx x) (htu:dJ R w tu u) (hx:cM b (free+1) x) (hu:cM b free u) (h0:0<=free) (h1:free<=1000) :
 Calls Tryz.prog 78 #[.agg (eD tx x.1),.agg (eD tu u.1)] w (PV R w (cI x u)):=by
 have fz:∀y:TT,cL y<=4096->a7 y.2.2<=4096/\1<=cL y:=fun y hy=>by
  obtain⟨n,a,k⟩:=y;have h2:=fD k;have h4:=eI n a k;simp only;omega
 obtain⟨fx,px⟩:=fz x hx.few;obtain⟨fu,pu⟩:=fz u hu.few;have sx4:=hx.few;have su4:=hu.few;obtain⟨t1,t2,t3,t4⟩:=FV hx.okt.ok 0 x.2.2 hx.okt.all;have hcn:=L1 hx.okt;obtain⟨N,D,hND⟩ : ∃N D,gS x.1 x.2.2 0=(N,D):=⟨_,_,rfl⟩;rw[hND] at t1 t2 t3 t4 hcn;simp only at t1 t2 t3 t4 hcn;have HSUB:Hid (cI x u=if 4096<(cL x:Int)+N*((cL u:Int)-1) then (x,9) else (yP (qW u) 0 x,0)):=aB (by unfold cI;rw[<-hcn]);have hhi:=zU hu (up:=D) aA;have HHI:=aB (fun (W:World) (h:Below w.heap.size w W)=>qQ (R:=R) (up:=D) (u:=0) (fun b hb=>Nat.lt_of_lt_of_le (hR b hb) h.size) (htu.below hR h) hu.okt.ok hu.okt.all t3 aA (Int.le_refl 0) aA);have HTI:=aB (fun (W:World) (h:Below w.heap.size w W)=>IZ (R:=R) (u:=0) (fun b hb=>Nat.lt_of_lt_of_le (hR b hb) h.size) (htx.below hR h) hx.okt.ok hx.okt.all (Int.le_refl 0) aA);rw[hND] at HTI;have HSX:=aB (fun (W:World) (h:Below w.heap.size w W)=>qF (R:=R) (fun b hb=>Nat.lt_of_lt_of_le (hR b hb) h.size) (htx.below hR h) aA);have HSU:=aB (fun (W:World) (h:Below w.heap.size w W)=>qF (R:=R) (fun b hb=>Nat.lt_of_lt_of_le (hR b hb) h.size) (htu.below hR h) aA);have HPU:=aB (fun (W:World) (h:Below w.heap.size w W)=>LI (R:=R) (fun b hb=>Nat.lt_of_lt_of_le (hR b hb) h.size) (htx.below hR h) (htu.below hR h) hx.okt hu.okt sx4 su4);have HTX:=aB (fun (W:World) (h:Below w.heap.size w W)=>htx.below hR h);have HR:=aB hR;obtain⟨H,hH⟩ : ∃H,H=oP D u.1 u.2.2 0:=⟨_,rfl⟩;rw[<-hH] at hhi HHI;obtain⟨X,hX⟩ : ∃X,X=cL x:=⟨_,rfl⟩;obtain⟨U,hU⟩ : ∃U,U=cL u:=⟨_,rfl⟩;rw[<-hX] at HSX HSUB px sx4;rw[<-hU] at HSU HSUB pu su4;have dH:decide (H>1048576)=false:=decide_eq_false aA;have hN4:N<=4097:=aA;have hpm:N*((U:Int)-1)<=4097*4095:=Int.mul_le_mul hN4 aA aA aA;have hpm0:0<=N*((U:Int)-1):=Int.mul_nonneg t1 aA;have hw1:IntKind.i64.wrap ((U:Int)-1)=(U:Int)-1:=by rw[IntKind.wrap_i64];omega
 have hw2:IntKind.i64.wrap (N*((U:Int)-1))=N*((U:Int)-1):=by rw[IntKind.wrap_i64];omega
 have hw3:IntKind.i64.wrap ((X:Int)+N*((U:Int)-1))=(X:Int)+N*((U:Int)-1):=by rw[IntKind.wrap_i64];omega
 obtain⟨⟨xo,xa,xb⟩,xat,xk⟩:=x;obtain⟨⟨uo,ua,ub⟩,uat,uk⟩:=u;obtain⟨Ak,nk,ck,Aa,na,ca,Af,nf,cf⟩:=tx;obtain⟨Bk,mk,dk,Ba,ma,da,Bf,mf,df⟩:=tu;simp only at HHI HTI HSX HSU HPU HTX HSUB ⊢;clear hND hcn hhi fz htx htu hx hu fx fu px pu hX hU hH hpm hpm0 t2 t3 t4 hR;have HB1:=aB (bF w (E #[O Y xo,O Y xa,O Y xb,Z Ak nk ck,Z Aa na ca,Z Af nf cf] 49) (E #[O Y uo,O Y ua,O Y ub,Z Bk mk dk,Z Ba ma da,Z Bf mf df] 49));have HB2:=aB (HB1.o.alloc HB1.o.size (E #[O Y 0,O Y 0,O Y 0,Z I 0 0,Z I 0 0,Z I 0 0] 49));have HX2:Hid (aS (((w.alloc (E #[O Y xo,O Y xa,O Y xb,Z Ak nk ck,Z Aa na ca,Z Af nf cf] 49)).alloc (E #[O Y uo,O Y ua,O Y ub,Z Bk mk dk,Z Ba ma da,Z Bf mf df] 49)).alloc (E #[O Y 0,O Y 0,O Y 0,Z I 0 0,Z I 0 0,Z I 0 0] 49)) w.heap.size 49 #[O Y xo,O Y xa,O Y xb,Z Ak nk ck,Z Aa na ca,Z Af nf cf]):=aB (((aS.new _ _ _).alloc _).alloc _);have HU2:Hid (aS (((w.alloc (E #[O Y xo,O Y xa,O Y xb,Z Ak nk ck,Z Aa na ca,Z Af nf cf] 49)).alloc (E #[O Y uo,O Y ua,O Y ub,Z Bk mk dk,Z Ba ma da,Z Bf mf df] 49)).alloc (E #[O Y 0,O Y 0,O Y 0,Z I 0 0,Z I 0 0,Z I 0 0] 49)) (w.heap.size+1) 49 #[O Y uo,O Y ua,O Y ub,Z Bk mk dk,Z Ba ma da,Z Bf mf df]):=aB ((aS.new' aD).alloc _);have HZ2:Hid (aS (((w.alloc (E #[O Y xo,O Y xa,O Y xb,Z Ak nk ck,Z Aa na ca,Z Af nf cf] 49)).alloc (E #[O Y uo,O Y ua,O Y ub,Z Bk mk dk,Z Ba ma da,Z Bf mf df] 49)).alloc (E #[O Y 0,O Y 0,O Y 0,Z I 0 0,Z I 0 0,Z I 0 0] 49)) (w.heap.size+1+1) 49 #[O Y 0,O Y 0,O Y 0,Z I 0 0,Z I 0 0,Z I 0 0]):=aB (aS.new' aD);go_in;go_wp2_with fail;refine (HTI.o _ HB2.o).mono ?_;rintro e w3 ⟨rfl,hb3⟩;have HB3:=dA HB2 hb3;have HX3:=aB (HX2.o.below hb3 HX2.o.lt);have HU3:=aB (HU2.o.below hb3 HU2.o.lt);have HZ3:=aB (HZ2.o.below hb3 HZ2.o.lt);clear hb3 HB1 HB2 HX2 HU2 HZ2;have zu3:=aS.cell HU3.o;have hcut:N>0\/¬ N>0:=Decidable.em _;rcases hcut with hn | hn;rotate_left
 · have dN:decide (N>0)=false:=decide_eq_false hn;clear hn;go_wp2_with fail;have HKP:=aB (fun (W:World) (h:Below w3.heap.size w3 W)=>(by
    have a:=(HX3.o.below h HX3.o.lt).cell;have c:=(HU3.o.below h HU3.o.lt).cell;exact⟨a 0,a 1,a 2,a 3,a 4,a 5,c 0,c 1,c 2,c 3,c 4,c 5⟩:W.cell? ⟨w.heap.size,0,I⟩=J (O Y xo)/\W.cell? ⟨w.heap.size,1,I⟩=J (O Y xa)/\W.cell? ⟨w.heap.size,2,I⟩=J (O Y xb)/\W.cell? ⟨w.heap.size,3,I⟩=J (Z Ak nk ck)/\W.cell? ⟨w.heap.size,4,I⟩=J (Z Aa na ca)/\W.cell? ⟨w.heap.size,5,I⟩=J (Z Af nf cf)/\W.cell? ⟨w.heap.size+1,0,I⟩=J (O Y uo)/\W.cell? ⟨w.heap.size+1,1,I⟩=J (O Y ua)/\W.cell? ⟨w.heap.size+1,2,I⟩=J (O Y ub)/\W.cell? ⟨w.heap.size+1,3,I⟩=J (Z Bk mk dk)/\W.cell? ⟨w.heap.size+1,4,I⟩=J (Z Ba ma da)/\W.cell? ⟨w.heap.size+1,5,I⟩=J (Z Bf mf df)))
   try clear zu3
   refine wp_region_held_drew (S:=(fun w'=>w'.cell? ⟨w.heap.size,0,I⟩=J (O Y xo)/\w'.cell? ⟨w.heap.size,1,I⟩=J (O Y xa)/\w'.cell? ⟨w.heap.size,2,I⟩=J (O Y xb)/\w'.cell? ⟨w.heap.size,3,I⟩=J (Z Ak nk ck)/\w'.cell? ⟨w.heap.size,4,I⟩=J (Z Aa na ca)/\w'.cell? ⟨w.heap.size,5,I⟩=J (Z Af nf cf)/\w'.cell? ⟨w.heap.size+1,0,I⟩=J (O Y uo)/\w'.cell? ⟨w.heap.size+1,1,I⟩=J (O Y ua)/\w'.cell? ⟨w.heap.size+1,2,I⟩=J (O Y ub)/\w'.cell? ⟨w.heap.size+1,3,I⟩=J (Z Bk mk dk)/\w'.cell? ⟨w.heap.size+1,4,I⟩=J (Z Ba ma da)/\w'.cell? ⟨w.heap.size+1,5,I⟩=J (Z Bf mf df))) aC ?_ (fun hZ => ?_)
   · (try dsimp only);exact HKP.o _ (aV (Below.refl w3.heap.size w3) 1)
   refine aL 0 hZ ?_;refine aL 2 hZ ?_;refine aL 3 hZ ?_;refine r1 1 fun K hK => ?_;go_simp;go_at_call 108
   refine (HSX.o _ (HB3.o.trans ((aV (Below.refl w3.heap.size w3) 1).mono HB3.o.size))).mono ?_;rintro e w5 ⟨rfl,hb5⟩;have HB5:=aB ((aV (Below.refl w3.heap.size w3) 1).trans (hb5.mono (aV (Below.refl w3.heap.size w3) 1).size));clear hb5;go_wp2_with fail;refine hK.o _ _ (by exact HKP.o _ HB5.o) fun hZ => ?_;clear hK K;try simp only[p7]
   refine r1 4 fun K hK => ?_;go_simp;go_at_call 108
   refine (HSU.o _ (HB3.o.trans (HB5.o.mono HB3.o.size))).mono ?_;rintro e w6 ⟨rfl,hb6⟩;have HB6:=dA HB5 hb6;clear hb6;go_wp2_with fail;refine hK.o _ _ (by exact HKP.o _ HB6.o) fun hZ => ?_;clear hK K;try simp only[p7]
   refine aL 5 hZ ?_;refine aL 6 hZ ?_;refine aL 7 hZ ?_;refine aL 8 hZ ?_;refine wpAnyH_done aC ?_ _;have HBL:=HB6;clear HKP;have HB7:=aB (HB3.o.trans (HBL.o.mono HB3.o.size));have HZ7:=aB (HZ3.o.below HBL.o HZ3.o.lt);have zz7:=aS.cell HZ7.o;have zf7:=aS.frozen HZ7.o;clear hw2 hw3;generalize (X:Int)+N*((U:Int)-1)=Q at *;by_cases hbig:4096<Q
   · have dB:decide (Q>4096)=true:=decide_eq_true hbig;have HRS:=aB (HSUB.o.trans (if_pos hbig));go_wp2_with fail;refine bodyPost_ret (v:=.tuple #[.agg #[O Y xo,O Y xa,O Y xb,Z Ak nk ck,Z Aa na ca,Z Af nf cf],O Y 9]) ?_ rfl ?_
     · exact iD (g:=w.heap.size+1+1) (bK HZ7.o _ _ _ _ _ _) aD
     rw[HRS.o];exact mK (V:=w6) (t:=⟨Ak,nk,ck,Aa,na,ca,Af,nf,cf⟩) HR.o aA HZ7.o.lt HB7.o ((HTX.o _ HB7.o).keep fun b hb=>⟨Or.inl hb,fun o=>rfl⟩)
   have dB:decide (Q>4096)=false:=decide_eq_false hbig;have HRS:=aB (HSUB.o.trans (if_neg hbig));go_wp2_with fail;refine (HPU.o _ HB7.o).mono ?_;rintro e w8 ⟨hb8,⟨Ck,pk,ek,Ca,pa,ea,Cf,pf,ef⟩,rfl,ht8⟩;generalize yP (qW ((⟨uo,ua,ub⟩:Nd),uat,uk)) 0 ((⟨xo,xa,xb⟩:Nd),xat,xk)=y at *;obtain⟨⟨yo,ya,yb⟩,yat,yk⟩:=y;have HB8:=dA HB7 hb8;have HZ8:=aB (HZ7.o.below hb8 HZ7.o.lt);have zz8:=aS.cell HZ8.o;have zf8:=aS.frozen HZ8.o;have HT8:=aB ht8;clear hb8 ht8 zz7 zf7;go_wp2_with fail;refine bodyPost_ret (v:=.tuple #[.agg #[O Y yo,O Y ya,O Y yb,Z Ck pk ek,Z Ca pa ea,Z Cf pf ef],O Y 0]) ?_ rfl ?_
   · exact iD (g:=w.heap.size+1+1) (bK HZ8.o _ _ _ _ _ _) aD
   rw[HRS.o];exact mK (V:=w6) (t:=⟨Ck,pk,ek,Ca,pa,ea,Cf,pf,ef⟩) HR.o aA HZ7.o.lt HB8.o HT8.o
 have dN:decide (N>0)=true:=decide_eq_true hn;clear hn;go_wp2_with fail;refine (HHI.o _ HB3.o).mono ?_;rintro e w4 ⟨rfl,hb4⟩
 replace HX3:=aB (HX3.o.below hb4 HX3.o.lt)
 replace HU3:=aB (HU3.o.below hb4 HU3.o.lt)
 replace HZ3:=aB (HZ3.o.below hb4 HZ3.o.lt)
 replace HB3:=dA HB3 hb4
 clear hb4 zu3;clear w3;have⟨w3,hw34⟩ : ∃v,v=w4:=⟨_,rfl⟩;subst hw34;go_wp2_with fail;have HKP:=aB (fun (W:World) (h:Below w3.heap.size w3 W)=>(by
  have a:=(HX3.o.below h HX3.o.lt).cell;have c:=(HU3.o.below h HU3.o.lt).cell;exact⟨a 0,a 1,a 2,a 3,a 4,a 5,c 0,c 1,c 2,c 3,c 4,c 5⟩:W.cell? ⟨w.heap.size,0,I⟩=J (O Y xo)/\W.cell? ⟨w.heap.size,1,I⟩=J (O Y xa)/\W.cell? ⟨w.heap.size,2,I⟩=J (O Y xb)/\W.cell? ⟨w.heap.size,3,I⟩=J (Z Ak nk ck)/\W.cell? ⟨w.heap.size,4,I⟩=J (Z Aa na ca)/\W.cell? ⟨w.heap.size,5,I⟩=J (Z Af nf cf)/\W.cell? ⟨w.heap.size+1,0,I⟩=J (O Y uo)/\W.cell? ⟨w.heap.size+1,1,I⟩=J (O Y ua)/\W.cell? ⟨w.heap.size+1,2,I⟩=J (O Y ub)/\W.cell? ⟨w.heap.size+1,3,I⟩=J (Z Bk mk dk)/\W.cell? ⟨w.heap.size+1,4,I⟩=J (Z Ba ma da)/\W.cell? ⟨w.heap.size+1,5,I⟩=J (Z Bf mf df)))
 try clear zu3
 refine wp_region_held_drew (S:=(fun w'=>w'.cell? ⟨w.heap.size,0,I⟩=J (O Y xo)/\w'.cell? ⟨w.heap.size,1,I⟩=J (O Y xa)/\w'.cell? ⟨w.heap.size,2,I⟩=J (O Y xb)/\w'.cell? ⟨w.heap.size,3,I⟩=J (Z Ak nk ck)/\w'.cell? ⟨w.heap.size,4,I⟩=J (Z Aa na ca)/\w'.cell? ⟨w.heap.size,5,I⟩=J (Z Af nf cf)/\w'.cell? ⟨w.heap.size+1,0,I⟩=J (O Y uo)/\w'.cell? ⟨w.heap.size+1,1,I⟩=J (O Y ua)/\w'.cell? ⟨w.heap.size+1,2,I⟩=J (O Y ub)/\w'.cell? ⟨w.heap.size+1,3,I⟩=J (Z Bk mk dk)/\w'.cell? ⟨w.heap.size+1,4,I⟩=J (Z Ba ma da)/\w'.cell? ⟨w.heap.size+1,5,I⟩=J (Z Bf mf df))) aC ?_ (fun hZ => ?_)
 · (try dsimp only);exact HKP.o _ (aV (Below.refl w3.heap.size w3) 1)
 refine aL 0 hZ ?_;refine aL 2 hZ ?_;refine aL 3 hZ ?_;refine r1 1 fun K hK => ?_;go_simp;go_at_call 108
 refine (HSX.o _ (HB3.o.trans ((aV (Below.refl w3.heap.size w3) 1).mono HB3.o.size))).mono ?_;rintro e w5 ⟨rfl,hb5⟩;have HB5:=aB ((aV (Below.refl w3.heap.size w3) 1).trans (hb5.mono (aV (Below.refl w3.heap.size w3) 1).size));clear hb5;go_wp2_with fail;refine hK.o _ _ (by exact HKP.o _ HB5.o) fun hZ => ?_;clear hK K;try simp only[p7]
 refine r1 4 fun K hK => ?_;go_simp;go_at_call 108
 refine (HSU.o _ (HB3.o.trans (HB5.o.mono HB3.o.size))).mono ?_;rintro e w6 ⟨rfl,hb6⟩;have HB6:=dA HB5 hb6;clear hb6;go_wp2_with fail;refine hK.o _ _ (by exact HKP.o _ HB6.o) fun hZ => ?_;clear hK K;try simp only[p7]
 refine aL 5 hZ ?_;refine aL 6 hZ ?_;refine aL 7 hZ ?_;refine aL 8 hZ ?_;refine wpAnyH_done aC ?_ _;have HBL:=HB6;clear HKP;have HB7:=aB (HB3.o.trans (HBL.o.mono HB3.o.size));have HZ7:=aB (HZ3.o.below HBL.o HZ3.o.lt);have zz7:=aS.cell HZ7.o;have zf7:=aS.frozen HZ7.o;clear hw2 hw3;generalize (X:Int)+N*((U:Int)-1)=Q at *;by_cases hbig:4096<Q
 · have dB:decide (Q>4096)=true:=decide_eq_true hbig;have HRS:=aB (HSUB.o.trans (if_pos hbig));go_wp2_with fail;refine bodyPost_ret (v:=.tuple #[.agg #[O Y xo,O Y xa,O Y xb,Z Ak nk ck,Z Aa na ca,Z Af nf cf],O Y 9]) ?_ rfl ?_
   · exact iD (g:=w.heap.size+1+1) (bK HZ7.o _ _ _ _ _ _) aD
   rw[HRS.o];exact mK (V:=w6) (t:=⟨Ak,nk,ck,Aa,na,ca,Af,nf,cf⟩) HR.o aA HZ7.o.lt HB7.o ((HTX.o _ HB7.o).keep fun b hb=>⟨Or.inl hb,fun o=>rfl⟩)
 have dB:decide (Q>4096)=false:=decide_eq_false hbig;have HRS:=aB (HSUB.o.trans (if_neg hbig));go_wp2_with fail;refine (HPU.o _ HB7.o).mono ?_;rintro e w8 ⟨hb8,⟨Ck,pk,ek,Ca,pa,ea,Cf,pf,ef⟩,rfl,ht8⟩;generalize yP (qW ((⟨uo,ua,ub⟩:Nd),uat,uk)) 0 ((⟨xo,xa,xb⟩:Nd),xat,xk)=y at *;obtain⟨⟨yo,ya,yb⟩,yat,yk⟩:=y;have HB8:=dA HB7 hb8;have HZ8:=aB (HZ7.o.below hb8 HZ7.o.lt);have zz8:=aS.cell HZ8.o;have zf8:=aS.frozen HZ8.o;have HT8:=aB ht8;clear hb8 ht8 zz7 zf7;go_wp2_with fail;refine bodyPost_ret (v:=.tuple #[.agg #[O Y yo,O Y ya,O Y yb,Z Ck pk ek,Z Ca pa ea,Z Cf pf ef],O Y 0]) ?_ rfl ?_
 · exact iD (g:=w.heap.size+1+1) (bK HZ8.o _ _ _ _ _ _) aD
 rw[HRS.o];exact mK (V:=w6) (t:=⟨Ck,pk,ek,Ca,pa,ea,Cf,pf,ef⟩) HR.o aA HZ7.o.lt HB8.o HT8.o
end
end Go.Proofs.YtjllmblbbgojbaaGreat
