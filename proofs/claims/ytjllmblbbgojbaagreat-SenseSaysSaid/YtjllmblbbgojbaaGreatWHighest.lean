/- Merged: Times, Highest. -/
import Derived.Test.YtjllmblbbgojbaaGreatProg
import Derived.Test.YtjllmblbbgojbaaGreatWBase
import Derived.Test.YtjllmblbbgojbaaGreatWRefGd
import Derived.Test.YtjllmblbbgojbaaGreatWLeafs
import Derived.WalkKit
import Derived.WalkLawsBesides
import Derived.WalkSpells
import Derived.Lib.Hide
import Derived.Deep.RegionHeld3
namespace Go.Proofs.YtjllmblbbgojbaaGreat
open Go.Value renaming int → O
open Go.IntKind renaming i64 → S
open Option renaming none → X, some → Y
section
open Go.Lib (hid)
set_option maxHeartbeats 2000000
set_option maxRecDepth 100000
open Go.RowKit
def nE (a b:Int) (w:World) (e:Ending) (w':World):Prop:=e=.returned (.tuple #[O S a,O S b])/\Below w.heap.size w w'
theorem r9 {k k':IntKind} {a b c d:Int} (h:a=c) (h':b=d):Ending.returned (.tuple #[.int k a,.int k' b])=.returned (.tuple #[.int k c,.int k' d]):=by rw [h,h']
theorem CY (m:Nat) (ih:∀ (w:World) (R:Nat->Prop) (xs:List Value) (n:Nd) (atoms:List Nd) (kids:Fo) (u:Int),(∀ b,R b->b<w.heap.size)->bP R w xs n atoms kids->dG n=true->cL kids->0<=u->u+4*aL kids<=1000000000000->aL kids<m →
      Calls Tryz.prog 106 #[.agg xs.toArray,O S u] w (nE (fS n kids u).1 (fS n kids u).2 w))
 (w:World) (R:Nat->Prop) (xs:List Value) (n:Nd) (atoms:List Nd) (kids:Fo) (u:Int) (hR:∀ b,R b->b<w.heap.size) (ht:bP R w xs n atoms kids) (hok:dG n=true) (hall:cL kids) (hu0:0<=u) (hu1:u+4*aL kids<=1000000000000) (hsz:aL kids<=m) :
 Calls Tryz.prog 106 #[.agg xs.toArray,O S u] w (nE (fS n kids u).1 (fS n kids u).2 w):=by
 have HI:=hid ih;clear ih;obtain ⟨sk,sa,sf,rfl,⟨Ak,nk,ck,rfl,hkk⟩,⟨Aa,na,ca,rfl,haa⟩,⟨Af,nf,cf,rfl,hff⟩⟩:=ht;have hna:=(eN ((by simp only [dG,Bool.and_eq_true] at hok;exact hok.1.1):bD n.op n.a n.b=true));by_cases h1:n.op=1
 · have h1b:(n.op==1)=true:=by simp [h1]
   have H1:=hid h1;have hu2:u<=1000000000000:=aA;clear h1 hu1;obtain ⟨hna1,hna2⟩:=hna;go_in;by_cases hc:n.a=u
   · have hcb:(n.a==u)=true:=by simp [hc]
     have HC:=hid hc;clear hc;go_wp2_with fail
     go_ret2;refine ⟨r9 ?_ ?_,aB _ _⟩<;>simp only [fS,if_pos H1.o,if_pos HC.o]
   have hcb:(n.a==u)=false:=by simp [hc]
   go_wp2_with fail
   go_ret2;refine ⟨r9 ?_ ?_,aB _ _⟩<;>simp only [fS,if_pos H1.o,if_neg hc]
 have h1b:(n.op==1)=false:=by simp [h1]
 have H1:=hid h1;have HU:=hid hu1;have HSZ:=hid hsz;have HKL:=hid hkk.len;have HOK:=hid hok;have hnk:nk<=1000000000000000:=by
  have h1:=eH kids;have h2:=hkk.len;omega
 clear h1 hu1 hsz hok;go_in;go_wp2_with fail
 go_loopw [6,7,8] (fun c v i wr=>∃ (F1 F2:Fo) (j:Nat) (s t:Int),kids=F1.app F2/\aT F1=j/\c=O S s/\v=O S t/\i=O S (j:Int)/\0<=t/\t<=4*aL kids/\0<=s/\s<=aL F1/\s+(qS n.op n.b j u F2).1=(qS n.op n.b 0 u kids).1/\max t (qS n.op n.b j u F2).2=(qS n.op n.b 0 u kids).2/\Below w.heap.size w wr ∧
  aD wr w.heap.size 49 #[O S n.op,O S n.a,O S n.b,.slice Ak nk ck,.slice Aa na ca,.slice Af nf cf]) (fun _ _ i _=>nk-(intOf i).toNat)
 case atStart =>
  have hb:=CW HOK.o 0 u kids hall;exact ⟨.nil,kids,0,0,0,rfl,rfl,rfl,rfl,rfl,Int.le_refl _,by omega,Int.le_refl _,Int.le_refl _,by omega,by omega,aB _ _,aD.new _ _ _⟩
 case round =>
  obtain ⟨F1,F2,j,s,t,hk,hj,rfl,rfl,rfl,ht0,ht1,hs0,hs1,he,he2,hbw,hblk⟩:=hrel;have HK:=hid hk;have HJ:=hid hj;have HE:=hid he;have HE2:=hid he2;have HS1:=hid hs1;have HT1:=hid ht1;have hkkr:=hkk.keep (R':=R) (w':=wr) (fun b hb=>⟨hb,fun o=>hbw.cell (p:=⟨b,o,X⟩) (hR b hb)⟩);have zc:=aD.cell hblk;have hszb:w.heap.size+1<=wr.heap.size:=aD.lt hblk;clear he he2 hs1 ht1;cases F2 with
  | nil =>
   have hjn:j=nk:=by rw [<-HKL.o,hk,bB,hj];rfl
   have hjn2:¬ j<nk:=aA;clear hk hj hjn;go_wp2_with fail
   go_ret2;refine ⟨r9 ?_ ?_,hbw⟩
   · have h1:=HE.o;simp only [fS,if_neg H1.o,<-h1,qS];omega
   · have h1:=HE2.o;simp only [fS,if_neg H1.o,<-h1,qS];omega
  | cons pre nd ats ks F2 =>
   have hjn:j<nk:=by rw [<-HKL.o,hk,bB,hj];simp [aT]
   have hkk2:dR R wr Ak nk ck (F1.app (.cons pre nd ats ks F2)):=by rw [<-hk];exact hkkr
   obtain ⟨b,off,sk',sa',sf',rfl,hrb,htree,g0,g1,g2,g3,g4,g5⟩:=hkk2.at_;rw [hj] at g0 g1 g2 g3 g4 g5;obtain ⟨_,hok2,hall2,hall3⟩:=(cL.app F1 _).1 (hk ▸ hall);have hbb:b<w.heap.size:=hR b hrb;clear hk hj hkk2 hkkr;have hB:w.heap.size<wr.heap.size:=aD.lt hblk;obtain ⟨ha1,ha2⟩:=cV HOK.o (j:Int);have hszk:aL kids=aL F1+(aL ks+aL F2+1):=by rw [HK.o,cR];rfl
   have hfs:u+4*(aL F1+(aL ks+aL F2+1))<=1000000000000:=by
    have:=HU.o;omega
   have hfs2:aL ks<m:=by
    have:=HSZ.o;omega
   have hq:=EA hok2 (u+aC n.op n.b (j:Int)) ks hall2;have hr:=CW HOK.o (j+1) u F2 hall3;obtain ⟨q1,q2,q3,q4⟩:=hq;obtain ⟨r1,r2,r3,r4⟩:=hr;have hb1:0<=u+aC n.op n.b (j:Int):=aA;have hb2:u+aC n.op n.b (j:Int)+4*aL ks<=1000000000000:=aA;have HB1:=hid hb1;have HB2:=hid hb2;have HB3:=hid hfs2;have HSK:=hid hszk;have hub:u<=1000000000000:=aA;have hs1':s<=1000000000000:=by have:=HS1.o;omega
   have ht1':t<=1000000000000:=by have:=HT1.o;omega
   have hq2':(fS nd ks (u+aC n.op n.b (j:Int))).1<=1000000000000:=aA;have hq4':(fS nd ks (u+aC n.op n.b (j:Int))).2<=1000000000000:=aA;have Q2:=hid q2;have Q4:=hid q4;have RR:=hid r3;clear hb1 hb2 hfs hfs2 hszk q2 q4 r1 r2 r3 r4;have hbsz:b<wr.heap.size:=aA;have g0a:=fun o=>(World.cell?_alloc_lt wr o ⟨b,off+j*6,X⟩ hbsz).trans g0;have g1a:=fun o=>(World.cell?_alloc_lt wr o ⟨b,off+j*6+1,X⟩ hbsz).trans g1;have g2a:=fun o=>(World.cell?_alloc_lt wr o ⟨b,off+j*6+2,X⟩ hbsz).trans g2;have g3a:=fun o=>(World.cell?_alloc_lt wr o ⟨b,off+j*6+3,X⟩ hbsz).trans g3;have g4a:=fun o=>(World.cell?_alloc_lt wr o ⟨b,off+j*6+4,X⟩ hbsz).trans g4;have g5a:=fun o=>(World.cell?_alloc_lt wr o ⟨b,off+j*6+5,X⟩ hbsz).trans g5;have zca:=fun o=>aD.cell (hblk.alloc o);have htr:∀ W:World,Below wr.heap.size wr W->bP R W [O S nd.op,O S nd.a,O S nd.b,sk',sa',sf'] nd ats ks:=fun W hW =>
    htree.keep fun b' hb'=>⟨hb',fun o=>hW.cell (p:=⟨b',o,X⟩) (Nat.lt_of_lt_of_le (hR b' hb') hbw.size)⟩
   have hrl:∀ W:World,Below wr.heap.size wr W->∀ b',R b'->b'<W.heap.size:=fun W hW b' hb'=>Nat.lt_of_lt_of_le (hR b' hb') (Nat.le_trans hbw.size hW.size);have HTR:=hid htr;have HRL:=hid hrl;clear htr hrl;go_wp2_with (go_at_call 112;refine (iR _ _ _ _ _ aA).mono ?_;rintro e w2 ⟨rfl,rfl⟩)
   refine (HI.o _ R [O S nd.op,O S nd.a,O S nd.b,sk',sa',sf'] nd ats ks _ (HRL.o _ ((Below.refl _ _).alloc (Nat.le_refl _) _)) (HTR.o _ ((Below.refl _ _).alloc (Nat.le_refl _) _)) hok2 hall2 HB1.o HB2.o HB3.o).mono ?_;rintro e w3 ⟨rfl,hb3⟩;have hb4:Below wr.heap.size wr w3:=j4 ((Below.refl _ _).alloc (Nat.le_refl _) _) hb3 (Nat.le_refl _);have hblk3:=hblk.below hb4 hB;have zc3:=aD.cell hblk3;by_cases hm:0<(fS nd ks (u+aC n.op n.b (j:Int))).1
   · go_wp2_with fail
     all_goals
      go_roundw
      case rel =>
       refine ⟨F1.app (.cons pre nd ats ks .nil),F2,j+1,_,_,by rw [HK.o,cM];rfl,by rw [bB];simp [aT,HJ.o],rfl,rfl,by go_num,?_,?_,?_,?_,?_,?_,hbw.trans (hb4.mono hbw.size),hblk3⟩
       · omega
       · have h1:=HT1.o;have h2:=HSK.o;have h3:=Q4.o;omega
       · omega
       · have h1:=HS1.o;have h3:=Q2.o;rw [cR];simp only [aL];omega
       · have h1:=HE.o;rw [jX] at h1;simp only at h1;omega
       have h1:=HE2.o;rw [jX] at h1;simp only [if_pos hm] at h1;omega
      case measure=>simp [intOf];omega
   · go_wp2_with fail
     go_roundw
     case rel =>
      refine ⟨F1.app (.cons pre nd ats ks .nil),F2,j+1,_,_,by rw [HK.o,cM];rfl,by rw [bB];simp [aT,HJ.o],rfl,rfl,by go_num,ht0,HT1.o,?_,?_,?_,?_,hbw.trans (hb4.mono hbw.size),hblk3⟩
      · omega
      · have h1:=HS1.o;have h3:=Q2.o;rw [cR];simp only [aL];omega
      · have h1:=HE.o;rw [jX] at h1;simp only at h1;omega
      have h1:=HE2.o;rw [jX] at h1;rw [if_neg aA] at h1;exact h1
     case measure=>simp [intOf];omega
theorem vB:∀ (m:Nat) (w:World) (R:Nat->Prop) (xs:List Value) (n:Nd) (atoms:List Nd) (kids:Fo) (u:Int),(∀ b,R b->b<w.heap.size)->bP R w xs n atoms kids->dG n=true->cL kids->0<=u->u+4*aL kids<=1000000000000->aL kids<m →
      Calls Tryz.prog 106 #[.agg xs.toArray,O S u] w (nE (fS n kids u).1 (fS n kids u).2 w)
 | 0,_,_,_,_,_,_,_,_,_,_,_,_,_,h=>absurd h aA
 | m+1,w,R,xs,n,atoms,kids,u,h1,h2,h3,h4,h5,h6,h7=>CY m (vB m) w R xs n atoms kids u h1 h2 h3 h4 h5 h6 aA
theorem GH {w:World} {R:Nat->Prop} {xs:List Value} {n:Nd} {atoms:List Nd} {kids:Fo} {u:Int} (hR:∀ b,R b->b<w.heap.size) (ht:bP R w xs n atoms kids) (hok:dG n=true) (hall:cL kids) (h0:0<=u) (h1:u+4*aL kids<=1000000000000) :
 Calls Tryz.prog 106 #[.agg xs.toArray,O S u] w (nE (fS n kids u).1 (fS n kids u).2 w) :=
 vB (aL kids+1) w R xs n atoms kids u hR ht hok hall h0 h1 (Nat.lt_succ_self _)
end
section
open Go.Lib (hid)
open Go.RowKit
set_option maxRecDepth 100000 in
set_option maxHeartbeats 2000000 in
theorem vX (m:Nat) (ih:∀ (w:World) (R:Nat->Prop) (xs:List Value) (n:Nd) (atoms:List Nd) (kids:Fo) (up u:Int),(∀ b,R b->b<w.heap.size)->bP R w xs n atoms kids->dG n=true->cL kids->0<=up->up<=1000000000000->0<=u->u+4*aL kids<=1000000000000->aL kids<m →
      Calls Tryz.prog 107 #[.agg xs.toArray,O S up,O S u] w (dD (nQ up n kids u) w))
 (w:World) (R:Nat->Prop) (xs:List Value) (n:Nd) (atoms:List Nd) (kids:Fo) (up u:Int) (hR:∀ b,R b->b<w.heap.size) (ht:bP R w xs n atoms kids) (hok:dG n=true) (hall:cL kids) (hup0:0<=up) (hup1:up<=1000000000000) (hu0:0<=u) (hu1:u+4*aL kids<=1000000000000) (hsz:aL kids<=m) :
 Calls Tryz.prog 107 #[.agg xs.toArray,O S up,O S u] w (dD (nQ up n kids u) w):=by
 have HI:=hid ih;clear ih;obtain ⟨sk,sa,sf,rfl,⟨Ak,nk,ck,rfl,hkk⟩,⟨Aa,na,ca,rfl,haa⟩,⟨Af,nf,cf,rfl,hff⟩⟩:=ht;have hna:=(eN ((by simp only [dG,Bool.and_eq_true] at hok;exact hok.1.1):bD n.op n.a n.b=true));by_cases h1:n.op=1
 · have h1b:(n.op==1)=true:=by simp [h1]
   have H1:=hid h1;have hu2:u<=1000000000000:=aA;clear h1 hu1;obtain ⟨hna1,hna2⟩:=hna;go_in;by_cases hge:u<=n.a
   · go_wp2_with fail
     go_ret;refine ⟨bW ?_,aB _ _⟩;simp only [nQ,if_pos H1.o,if_pos hge]
   go_wp2_with fail
   go_ret;refine ⟨bW ?_,aB _ _⟩;simp only [nQ,if_pos H1.o,if_neg (by omega:¬ u<=n.a)]
 have h1b:(n.op==1)=false:=by simp [h1]
 have H1:=hid h1;have HU:=hid hu1;have HSZ:=hid hsz;have HKL:=hid hkk.len;have HOK:=hid hok;have hnk:nk<=1000000000000000:=by
  have h1:=eH kids;have h2:=hkk.len;omega
 clear h1 hu1 hsz hok;go_in;go_wp2_with fail
 go_loopw [7,8] (fun v i wr=>∃ (F1 F2:Fo) (j:Nat) (t:Int),kids=F1.app F2/\aT F1=j/\v=O S t/\i=O S (j:Int)/\-1<=t/\max t (IH n.op n.b up j u F2)=IH n.op n.b up 0 u kids/\Below w.heap.size w wr ∧
  aD wr w.heap.size 49 #[O S n.op,O S n.a,O S n.b,.slice Ak nk ck,.slice Aa na ca,.slice Af nf cf]) (fun _ i _=>nk-(intOf i).toNat)
 case atStart=>exact ⟨.nil,kids,0,-1,rfl,rfl,rfl,rfl,Int.le_refl _,DJ _ _ _ _ _ _,aB _ _,aD.new _ _ _⟩
 case round =>
  obtain ⟨F1,F2,j,t,hk,hj,rfl,rfl,ht,he,hbw,hblk⟩:=hrel;have HK:=hid hk;have HJ:=hid hj;have HE:=hid he;have HT:=hid ht;have hkkr:=hkk.keep (R':=R) (w':=wr) (fun b hb=>⟨hb,fun o=>hbw.cell (p:=⟨b,o,X⟩) (hR b hb)⟩);have zc:=aD.cell hblk;have hszb:w.heap.size+1<=wr.heap.size:=aD.lt hblk;clear he ht;cases F2 with
  | nil =>
   have hjn:j=nk:=by rw [<-HKL.o,hk,bB,hj];rfl
   have hjn2:¬ j<nk:=aA;clear hk hj hjn;go_wp2_with fail
   go_ret;refine ⟨bW ?_,hbw⟩;have h1:=HE.o;have h2:=HT.o;simp only [nQ,if_neg H1.o,<-h1,IH];omega
  | cons pre nd ats ks F2 =>
   have hjn:j<nk:=by rw [<-HKL.o,hk,bB,hj];simp [aT]
   have hkk2:dR R wr Ak nk ck (F1.app (.cons pre nd ats ks F2)):=by rw [<-hk];exact hkkr
   obtain ⟨b,off,sk',sa',sf',rfl,hrb,htree,g0,g1,g2,g3,g4,g5⟩:=hkk2.at_;rw [hj] at g0 g1 g2 g3 g4 g5;obtain ⟨_,hok2,hall2,_⟩:=(cL.app F1 _).1 (hk ▸ hall);have hbb:b<w.heap.size:=hR b hrb;clear hk hj hkk2 hkkr;have hB:w.heap.size<wr.heap.size:=aD.lt hblk;obtain ⟨ha1,ha2⟩:=cV HOK.o (j:Int);have hfs:u+4*(aL F1+(aL ks+aL F2+1))<=1000000000000:=by
    have:=HU.o;rw [HK.o,cR] at this;simp only [aL] at this;omega
   have hfs2:aL ks<m:=by
    have:=HSZ.o;rw [HK.o,cR] at this;simp only [aL] at this;omega
   have hw:IntKind.i64.wrap (u+aC n.op n.b (j:Int))=u+aC n.op n.b (j:Int):=IntWalk.i64_in _ aA;have hb1:0<=u+aC n.op n.b (j:Int):=aA;have hb2:u+aC n.op n.b (j:Int)+4*aL ks<=1000000000000:=aA;have HB1:=hid hb1;have HB2:=hid hb2;have HB3:=hid hfs2;have htr:∀ W:World,Below wr.heap.size wr W->bP R W [O S nd.op,O S nd.a,O S nd.b,sk',sa',sf'] nd ats ks:=fun W hW =>
    htree.keep fun b' hb'=>⟨hb',fun o=>hW.cell (p:=⟨b',o,X⟩) (Nat.lt_of_lt_of_le (hR b' hb') hbw.size)⟩
   have hrl:∀ W:World,Below wr.heap.size wr W->∀ b',R b'->b'<W.heap.size:=fun W hW b' hb'=>Nat.lt_of_lt_of_le (hR b' hb') (Nat.le_trans hbw.size hW.size);have hkeep:∀ W:World,Below wr.heap.size wr W->(W.cell? ⟨w.heap.size,0,X⟩=Y (O S n.op)/\W.cell? ⟨w.heap.size,1,X⟩=Y (O S n.a)/\W.cell? ⟨w.heap.size,2,X⟩=Y (O S n.b)/\W.cell? ⟨w.heap.size,3,X⟩=Y (.slice (Y ⟨b,off,X⟩) nk ck) ∧
    W.cell? ⟨b,off+j*6,X⟩=Y (O S nd.op)/\W.cell? ⟨b,off+j*6+1,X⟩=Y (O S nd.a)/\W.cell? ⟨b,off+j*6+2,X⟩=Y (O S nd.b)/\W.cell? ⟨b,off+j*6+3,X⟩=Y sk'/\W.cell? ⟨b,off+j*6+4,X⟩=Y sa'/\W.cell? ⟨b,off+j*6+5,X⟩=Y sf'):=fun W hW=>by
    have hB:∀ o,W.cell? ⟨w.heap.size,o,X⟩=wr.cell? ⟨w.heap.size,o,X⟩:=fun o=>hW.cell (p:=⟨w.heap.size,o,X⟩) hB;have hC:∀ o,W.cell? ⟨b,o,X⟩=wr.cell? ⟨b,o,X⟩:=fun o=>hW.cell (p:=⟨b,o,X⟩) (Nat.lt_of_lt_of_le hbb hbw.size);rw [hB,hB,hB,hB,hC,hC,hC,hC,hC,hC];exact ⟨hblk.cell 0,hblk.cell 1,hblk.cell 2,hblk.cell 3,g0,g1,g2,g3,g4,g5⟩
   have hfirst:=hkeep wr (Below.refl _ _);have HTR:=hid htr;have HRL:=hid hrl;have HKEEP:=hid hkeep;clear hb1 hb2 hfs hfs2 htr hrl hkeep zc g0 g1 g2 g3 g4 g5;by_cases hm:t<nQ up nd ks (u+aC n.op n.b (j:Int));all_goals
    obtain ⟨g0,g1,g2,g3,g4,g5,g6,g7,g8,g9⟩:=hfirst;go_wp2_with fail
    go_region_held3 (fun w'=>w'.cell? ⟨w.heap.size,0,X⟩=Y (O S n.op)/\w'.cell? ⟨w.heap.size,1,X⟩=Y (O S n.a)/\w'.cell? ⟨w.heap.size,2,X⟩=Y (O S n.b)/\w'.cell? ⟨w.heap.size,3,X⟩=Y (.slice (Y ⟨b,off,X⟩) nk ck) ∧
     w'.cell? ⟨b,off+j*6,X⟩=Y (O S nd.op)/\w'.cell? ⟨b,off+j*6+1,X⟩=Y (O S nd.a)/\w'.cell? ⟨b,off+j*6+2,X⟩=Y (O S nd.b)/\w'.cell? ⟨b,off+j*6+3,X⟩=Y sk'/\w'.cell? ⟨b,off+j*6+4,X⟩=Y sa'/\w'.cell? ⟨b,off+j*6+5,X⟩=Y sf') (first | go_keep | exact HKEEP.o _ hb4)
     (first
      | (go_at_call 112;refine (iR _ _ _ _ _ aA).mono ?_;rintro e w2 ⟨rfl,rfl⟩)
      | (go_at_call 107;refine (HI.o _ R [O S nd.op,O S nd.a,O S nd.b,sk',sa',sf'] nd ats ks up _ (HRL.o _ (((Below.refl _ _).alloc (Nat.le_refl _) _).drew)) (HTR.o _ (((Below.refl _ _).alloc (Nat.le_refl _) _).drew)) hok2 hall2 hup0 hup1 HB1.o HB2.o HB3.o).mono ?_;rintro e w3 ⟨rfl,hb3⟩;have hb4:Below wr.heap.size wr w3:=j4 (((Below.refl _ _).alloc (Nat.le_refl _) _).drew) hb3 (Nat.le_refl _)))
    go_wp2_with fail
    go_roundw
    case rel =>
     refine ⟨F1.app (.cons pre nd ats ks .nil),F2,j+1,_,by rw [HK.o,cM];rfl,by rw [bB];simp [aT,HJ.o],rfl,by go_num,?_,?_,hbw.trans (hb4.mono hbw.size),hblk.below hb4 hB⟩
     · have:=HT.o;omega
     have h1:=HE.o;rw [rH] at h1;rw [<-h1];omega
    case measure=>simp [intOf];omega
theorem pR:∀ (m:Nat) (w:World) (R:Nat->Prop) (xs:List Value) (n:Nd) (atoms:List Nd) (kids:Fo) (up u:Int),(∀ b,R b->b<w.heap.size)->bP R w xs n atoms kids->dG n=true->cL kids->0<=up->up<=1000000000000->0<=u->u+4*aL kids<=1000000000000->aL kids<m →
      Calls Tryz.prog 107 #[.agg xs.toArray,O S up,O S u] w (dD (nQ up n kids u) w)
 | 0,_,_,_,_,_,_,_,_,_,_,_,_,_,_,_,_,h=>absurd h aA
 | m+1,w,R,xs,n,atoms,kids,up,u,h1,h2,h3,h4,h5,h6,h7,h8,h9=>vX m (pR m) w R xs n atoms kids up u h1 h2 h3 h4 h5 h6 h7 h8 aA
theorem pS {w:World} {R:Nat->Prop} {xs:List Value} {n:Nd} {atoms:List Nd} {kids:Fo} {up u:Int} (hR:∀ b,R b->b<w.heap.size) (ht:bP R w xs n atoms kids) (hok:dG n=true) (hall:cL kids) (hup0:0<=up) (hup1:up<=1000000000000) (h0:0<=u) (h1:u+4*aL kids<=1000000000000) :
 Calls Tryz.prog 107 #[.agg xs.toArray,O S up,O S u] w (dD (nQ up n kids u) w) :=
 pR (aL kids+1) w R xs n atoms kids up u hR ht hok hall hup0 hup1 h0 h1 (Nat.lt_succ_self _)
end
end Go.Proofs.YtjllmblbbgojbaaGreat
