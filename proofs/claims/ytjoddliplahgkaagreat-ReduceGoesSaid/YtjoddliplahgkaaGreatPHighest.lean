/- Merged: Times, Highest. -/
import Derived.Test.YtjoddliplahgkaaGreatPRvS
namespace Go.Proofs.YtjoddliplahgkaaGreat
set_option linter.unusedVariables false
set_option linter.unusedSimpArgs false
open Go.RowKit
open Go.Value renaming int → O
open Go.IntKind renaming i64 → S
open Option renaming none → X, some → Y
section
open Go.Lib renaming hid->aB
set_option maxHeartbeats 2000000
set_option maxRecDepth 100000
def pG (a b:Int) (w:World) (e:Ending) (w':World):Prop:=e=.returned (.tuple #[O S a,O S b])/\Below w.heap.size w w'
theorem uL {k k':IntKind} {a b c d:Int} (h:a=c) (h':b=d):Ending.returned (.tuple #[.int k a,.int k' b])=.returned (.tuple #[.int k c,.int k' d]):=by rw[h,h']
theorem F5 (m:Nat) (ih:∀(w:World) (R:Nat->Prop) (xs:List Value) (n:Nd) (atoms:List Nd) (kids:Fo) (u:Int),(∀b,R b->b<w.heap.size)->cR R w xs n atoms kids->eN n=true->dC kids->0<=u->u+4*aX kids<=1000000000000->aX kids<m →
      Calls Tryz.prog 123 #[.agg xs.toArray,O S u] w (pG (gV n kids u).1 (gV n kids u).2 w))
 (w:World) (R:Nat->Prop) (xs:List Value) (n:Nd) (atoms:List Nd) (kids:Fo) (u:Int) (hR:∀b,R b->b<w.heap.size) (ht:cR R w xs n atoms kids) (hok:eN n=true) (hall:dC kids) (hu0:0<=u) (hu1:u+4*aX kids<=1000000000000) (hsz:aX kids<=m) :
 Calls Tryz.prog 123 #[.agg xs.toArray,O S u] w (pG (gV n kids u).1 (gV n kids u).2 w):=by
 have HI:=aB ih;clear ih;obtain⟨sk,sa,sf,rfl,⟨Ak,nk,ck,rfl,b2⟩,⟨Aa,na,ca,rfl,f6⟩,⟨Af,nf,cf,rfl,f4⟩⟩:=ht;have d6:=(fM ((by simp only[eN,Bool.and_eq_true] at hok;exact hok.1.1):cD n.op n.a n.b=true));by_cases h1:n.op=1
 · have e1:(n.op==1)=true:=by simp[h1]
   have H1:=aB h1;clear h1 hu1;obtain⟨d5,d4⟩:=d6;go_in;by_cases hc:n.a=u
   · have d9:(n.a==u)=true:=by simp[hc]
     have HC:=aB hc;clear hc;go_wp2_with fail;go_ret2;refine⟨uL ?_ ?_,aP _ _⟩<;>simp only[gV,if_pos H1.o,if_pos HC.o]
   have d9:(n.a==u)=false:=by simp[hc]
   go_wp2_with fail;go_ret2;refine⟨uL ?_ ?_,aP _ _⟩<;>simp only[gV,if_pos H1.o,if_neg hc]
 have e1:(n.op==1)=false:=by simp[h1]
 have H1:=aB h1;have HU:=aB hu1;have e3:=aB hsz;have c6:=aB b2.len;have b6:=aB hok;have f3:nk<=1000000000000000:=by
  have h1:=e8 kids;have h2:=b2.len;omega
 clear h1 hu1 hsz hok;go_in;go_wp2_with fail;go_loopw [6,7,8] (fun c v i wr=>∃(F1 F2:Fo) (j:Nat) (s t:Int),kids=F1.app F2/\bF F1=j/\c=O S s/\v=O S t/\i=O S (j:Int)/\0<=t/\t<=4*aX kids/\0<=s/\s<=aX F1/\s+(sY n.op n.b j u F2).1=(sY n.op n.b 0 u kids).1/\max t (sY n.op n.b j u F2).2=(sY n.op n.b 0 u kids).2/\Below w.heap.size w wr ∧
  aS wr w.heap.size 85 #[O S n.op,O S n.a,O S n.b,.slice Ak nk ck,.slice Aa na ca,.slice Af nf cf]) (fun _ _ i _=>nk-(intOf i).toNat)
 case atStart =>
  have hb:=FZ b6.o 0 u kids hall;exact⟨.nil,kids,0,0,0,rfl,rfl,rfl,rfl,rfl,Int.le_refl _,by omega,Int.le_refl _,Int.le_refl _,by omega,by omega,aP _ _,aS.new _ _ _⟩
 case round =>
  obtain⟨F1,F2,j,s,t,hk,hj,rfl,rfl,rfl,c8,b9,f2,c0,he,c3,a2,a1⟩:=hrel;have HK:=aB hk;have HJ:=aB hj;have HE:=aB he;have b7:=aB c3;have b5:=aB c0;have b4:=aB b9;have a8:=b2.keep (R':=R) (w':=wr) (fun b hb=>⟨hb,fun o=>a2.cell (p:=⟨b,o,X⟩) (hR b hb)⟩);have zc:=aS.cell a1;have c9:w.heap.size+1<=wr.heap.size:=aS.lt a1;clear he c3 c0 b9;cases F2 with
  | nil =>
   have c2:j=nk:=by rw[<-c6.o,hk,bV,hj];rfl
   have d7:¬ j<nk:=aA;clear hk hj c2;go_wp2_with fail;go_ret2;refine⟨uL ?_ ?_,a2⟩
   · have h1:=HE.o;simp only[gV,if_neg H1.o,<-h1,sY];omega
   · have h1:=b7.o;simp only[gV,if_neg H1.o,<-h1,sY];omega
  | cons pre nd ats ks F2 =>
   have c2:j<nk:=by rw[<-c6.o,hk,bV,hj];simp[bF]
   have a9:dM R wr Ak nk ck (F1.app (.cons pre nd ats ks F2)):=by rw[<-hk];exact a8
   obtain⟨b,off,sk',sa',sf',rfl,d1,a5,g0,g1,g2,g3,g4,g5⟩:=a9.at_;rw[hj] at g0 g1 g2 g3 g4 g5;obtain⟨_,a7,a4,b1⟩:=(dC.app F1 _).1 (hk ▸ hall);have f5:b<w.heap.size:=hR b d1;clear hk hj a9 a8;have hB:w.heap.size<wr.heap.size:=aS.lt a1;obtain⟨f8,f7⟩:=eA b6.o (j:Int);have a6:aX kids=aX F1+(aX ks+aX F2+1):=by rw[HK.o,dO];rfl
   have d8:u+4*(aX F1+(aX ks+aX F2+1))<=1000000000000:=by
    have:=HU.o;omega
   have b0:aX ks<m:=by
    have:=e3.o;omega
   have hq:=IB a7 (u+aR n.op n.b (j:Int)) ks a4;have hr:=FZ b6.o (j+1) u F2 b1;obtain⟨q1,q2,q3,q4⟩:=hq;obtain⟨r1,r2,r3,r4⟩:=hr;have c5:0<=u+aR n.op n.b (j:Int):=aA;have c4:u+aR n.op n.b (j:Int)+4*aX ks<=1000000000000:=aA;have e9:=aB c5;have e7:=aB c4;have e6:=aB b0;have e4:=aB a6;have f1:u<=1000000000000:=aA;have d0:s<=1000000000000:=by have:=b5.o;omega
   have c7:t<=1000000000000:=by have:=b4.o;omega
   have d3:(gV nd ks (u+aR n.op n.b (j:Int))).1<=1000000000000:=aA;have d2:(gV nd ks (u+aR n.op n.b (j:Int))).2<=1000000000000:=aA;have Q2:=aB q2;have Q4:=aB q4;clear c5 c4 d8 b0 a6 q2 q4 r1 r2 r3 r4;have a0:b<wr.heap.size:=aA;have g0a:=fun o=>(World.cell?_alloc_lt wr o ⟨b,off+j*6,X⟩ a0).trans g0;have g1a:=fun o=>(World.cell?_alloc_lt wr o ⟨b,off+j*6+1,X⟩ a0).trans g1;have g2a:=fun o=>(World.cell?_alloc_lt wr o ⟨b,off+j*6+2,X⟩ a0).trans g2;have g3a:=fun o=>(World.cell?_alloc_lt wr o ⟨b,off+j*6+3,X⟩ a0).trans g3;have g4a:=fun o=>(World.cell?_alloc_lt wr o ⟨b,off+j*6+4,X⟩ a0).trans g4;have g5a:=fun o=>(World.cell?_alloc_lt wr o ⟨b,off+j*6+5,X⟩ a0).trans g5;have f0:=fun o=>aS.cell (a1.alloc o);have b8:∀W:World,Below wr.heap.size wr W->cR R W [O S nd.op,O S nd.a,O S nd.b,sk',sa',sf'] nd ats ks:=fun W hW =>
    a5.keep fun b' hb'=>⟨hb',fun o=>hW.cell (p:=⟨b',o,X⟩) (Nat.lt_of_lt_of_le (hR b' hb') a2.size)⟩
   have c1:∀W:World,Below wr.heap.size wr W->∀b',R b'->b'<W.heap.size:=fun W hW b' hb'=>Nat.lt_of_lt_of_le (hR b' hb') (Nat.le_trans a2.size hW.size);have e2:=aB b8;have e5:=aB c1;clear b8 c1;go_wp2_with (go_at_call 125;refine (jV _ _ _ _ _ aA).mono ?_;rintro e w2 ⟨rfl,rfl⟩)
   refine (HI.o _ R [O S nd.op,O S nd.a,O S nd.b,sk',sa',sf'] nd ats ks _ (e5.o _ ((Below.refl _ _).alloc (Nat.le_refl _) _)) (e2.o _ ((Below.refl _ _).alloc (Nat.le_refl _) _)) a7 a4 e9.o e7.o e6.o).mono ?_;rintro e w3 ⟨rfl,e0⟩;have b3:Below wr.heap.size wr w3:=lN ((Below.refl _ _).alloc (Nat.le_refl _) _) e0 (Nat.le_refl _);have a3:=a1.below b3 hB;by_cases hm:0<(gV nd ks (u+aR n.op n.b (j:Int))).1
   · go_wp2_with fail;all_goals
      go_roundw
      case rel =>
       refine⟨F1.app (.cons pre nd ats ks .nil),F2,j+1,_,_,by rw[HK.o,dG];rfl,by rw[bV];simp[bF,HJ.o],rfl,rfl,by go_num,?_,?_,?_,?_,?_,?_,a2.trans (b3.mono a2.size),a3⟩
       · omega
       · have h1:=b4.o;have h2:=e4.o;have h3:=Q4.o;omega
       · omega
       · have h1:=b5.o;have h3:=Q2.o;rw[dO];simp only[aX];omega
       · have h1:=HE.o;rw[lJ] at h1;simp only at h1;omega
       have h1:=b7.o;rw[lJ] at h1;simp only[if_pos hm] at h1;omega
      case measure=>simp[intOf];omega
   · go_wp2_with fail;go_roundw
     case rel =>
      refine⟨F1.app (.cons pre nd ats ks .nil),F2,j+1,_,_,by rw[HK.o,dG];rfl,by rw[bV];simp[bF,HJ.o],rfl,rfl,by go_num,c8,b4.o,?_,?_,?_,?_,a2.trans (b3.mono a2.size),a3⟩
      · omega
      · have h1:=b5.o;have h3:=Q2.o;rw[dO];simp only[aX];omega
      · have h1:=HE.o;rw[lJ] at h1;simp only at h1;omega
      have h1:=b7.o;rw[lJ] at h1;rw[if_neg aA] at h1;exact h1
     case measure=>simp[intOf];omega
theorem x9:∀(m:Nat) (w:World) (R:Nat->Prop) (xs:List Value) (n:Nd) (atoms:List Nd) (kids:Fo) (u:Int),(∀b,R b->b<w.heap.size)->cR R w xs n atoms kids->eN n=true->dC kids->0<=u->u+4*aX kids<=1000000000000->aX kids<m →
      Calls Tryz.prog 123 #[.agg xs.toArray,O S u] w (pG (gV n kids u).1 (gV n kids u).2 w)
 | 0,_,_,_,_,_,_,_,_,_,_,_,_,_,h=>absurd h aA
 | m+1,w,R,xs,n,atoms,kids,u,h1,h2,h3,h4,h5,h6,h7=>F5 m (x9 m) w R xs n atoms kids u h1 h2 h3 h4 h5 h6 aA
theorem KM {w:World} {R:Nat->Prop} {xs:List Value} {n:Nd} {atoms:List Nd} {kids:Fo} {u:Int} (hR:∀b,R b->b<w.heap.size) (ht:cR R w xs n atoms kids) (hok:eN n=true) (hall:dC kids) (h0:0<=u) (h1:u+4*aX kids<=1000000000000) :
 Calls Tryz.prog 123 #[.agg xs.toArray,O S u] w (pG (gV n kids u).1 (gV n kids u).2 w) :=
 x9 (aX kids+1) w R xs n atoms kids u hR ht hok hall h0 h1 (Nat.lt_succ_self _)
end
section
open Go.Lib renaming hid->aB
set_option maxRecDepth 100000 in
set_option maxHeartbeats 2000000 in
theorem zH (m:Nat) (ih:∀(w:World) (R:Nat->Prop) (xs:List Value) (n:Nd) (atoms:List Nd) (kids:Fo) (up u:Int),(∀b,R b->b<w.heap.size)->cR R w xs n atoms kids->eN n=true->dC kids->0<=up->up<=1000000000000->0<=u->u+4*aX kids<=1000000000000->aX kids<m →
      Calls Tryz.prog 82 #[.agg xs.toArray,O S up,O S u] w (eF (oT up n kids u) w))
 (w:World) (R:Nat->Prop) (xs:List Value) (n:Nd) (atoms:List Nd) (kids:Fo) (up u:Int) (hR:∀b,R b->b<w.heap.size) (ht:cR R w xs n atoms kids) (hok:eN n=true) (hall:dC kids) (hup0:0<=up) (hup1:up<=1000000000000) (hu0:0<=u) (hu1:u+4*aX kids<=1000000000000) (hsz:aX kids<=m) :
 Calls Tryz.prog 82 #[.agg xs.toArray,O S up,O S u] w (eF (oT up n kids u) w):=by
 have HI:=aB ih;clear ih;obtain⟨sk,sa,sf,rfl,⟨Ak,nk,ck,rfl,b1⟩,⟨Aa,na,ca,rfl,d7⟩,⟨Af,nf,cf,rfl,d6⟩⟩:=ht;have c2:=(fM ((by simp only[eN,Bool.and_eq_true] at hok;exact hok.1.1):cD n.op n.a n.b=true));by_cases h1:n.op=1
 · have c7:(n.op==1)=true:=by simp[h1]
   have H1:=aB h1;clear h1 hu1;obtain⟨c1,c0⟩:=c2;go_in;by_cases hge:u<=n.a
   · go_wp2_with fail;go_ret;refine⟨cT ?_,aP _ _⟩;simp only[oT,if_pos H1.o,if_pos hge]
   go_wp2_with fail;go_ret;refine⟨cT ?_,aP _ _⟩;simp only[oT,if_pos H1.o,if_neg (by omega:¬ u<=n.a)]
 have c7:(n.op==1)=false:=by simp[h1]
 have H1:=aB h1;have HU:=aB hu1;have c9:=aB hsz;have b8:=aB b1.len;have d1:=aB hok;have d5:nk<=1000000000000000:=by
  have h1:=e8 kids;have h2:=b1.len;omega
 clear h1 hu1 hsz hok;go_in;go_wp2_with fail;go_loopw [7,8] (fun v i wr=>∃(F1 F2:Fo) (j:Nat) (t:Int),kids=F1.app F2/\bF F1=j/\v=O S t/\i=O S (j:Int)/\-1<=t/\max t (MC n.op n.b up j u F2)=MC n.op n.b up 0 u kids/\Below w.heap.size w wr ∧
  aS wr w.heap.size 85 #[O S n.op,O S n.a,O S n.b,.slice Ak nk ck,.slice Aa na ca,.slice Af nf cf]) (fun _ i _=>nk-(intOf i).toNat)
 case atStart=>exact⟨.nil,kids,0,-1,rfl,rfl,rfl,rfl,Int.le_refl _,GW _ _ _ _ _ _,aP _ _,aS.new _ _ _⟩
 case round =>
  obtain⟨F1,F2,j,t,hk,hj,rfl,rfl,ht,he,a3,a0⟩:=hrel;have HK:=aB hk;have HJ:=aB hj;have HE:=aB he;have HT:=aB ht;have a5:=b1.keep (R':=R) (w':=wr) (fun b hb=>⟨hb,fun o=>a3.cell (p:=⟨b,o,X⟩) (hR b hb)⟩);have zc:=aS.cell a0;clear he ht;cases F2 with
  | nil =>
   have b5:j=nk:=by rw[<-b8.o,hk,bV,hj];rfl
   have c3:¬ j<nk:=aA;clear hk hj b5;go_wp2_with fail;go_ret;refine⟨cT ?_,a3⟩;have h1:=HE.o;have h2:=HT.o;simp only[oT,if_neg H1.o,<-h1,MC];omega
  | cons pre nd ats ks F2 =>
   have b5:j<nk:=by rw[<-b8.o,hk,bV,hj];simp[bF]
   have a6:dM R wr Ak nk ck (F1.app (.cons pre nd ats ks F2)):=by rw[<-hk];exact a5
   obtain⟨b,off,sk',sa',sf',rfl,b9,a4,g0,g1,g2,g3,g4,g5⟩:=a6.at_;rw[hj] at g0 g1 g2 g3 g4 g5;obtain⟨_,b0,a8,_⟩:=(dC.app F1 _).1 (hk ▸ hall);have c5:b<w.heap.size:=hR b b9;clear hk hj a6 a5;have hB:w.heap.size<wr.heap.size:=aS.lt a0;obtain⟨d9,d8⟩:=eA d1.o (j:Int);have c4:u+4*(aX F1+(aX ks+aX F2+1))<=1000000000000:=by
    have:=HU.o;rw[HK.o,dO] at this;simp only[aX] at this;omega
   have a7:aX ks<m:=by
    have:=c9.o;rw[HK.o,dO] at this;simp only[aX] at this;omega
   have hw:IntKind.i64.wrap (u+aR n.op n.b (j:Int))=u+aR n.op n.b (j:Int):=IntWalk.i64_in _ aA;have b7:0<=u+aR n.op n.b (j:Int):=aA;have b6:u+aR n.op n.b (j:Int)+4*aX ks<=1000000000000:=aA;have d4:=aB b7;have d3:=aB b6;have d2:=aB a7;have b3:∀W:World,Below wr.heap.size wr W->cR R W [O S nd.op,O S nd.a,O S nd.b,sk',sa',sf'] nd ats ks:=fun W hW =>
    a4.keep fun b' hb'=>⟨hb',fun o=>hW.cell (p:=⟨b',o,X⟩) (Nat.lt_of_lt_of_le (hR b' hb') a3.size)⟩
   have b4:∀W:World,Below wr.heap.size wr W->∀b',R b'->b'<W.heap.size:=fun W hW b' hb'=>Nat.lt_of_lt_of_le (hR b' hb') (Nat.le_trans a3.size hW.size);have a1:∀W:World,Below wr.heap.size wr W->(W.cell? ⟨w.heap.size,0,X⟩=Y (O S n.op)/\W.cell? ⟨w.heap.size,1,X⟩=Y (O S n.a)/\W.cell? ⟨w.heap.size,2,X⟩=Y (O S n.b)/\W.cell? ⟨w.heap.size,3,X⟩=Y (.slice (Y ⟨b,off,X⟩) nk ck) ∧
    W.cell? ⟨b,off+j*6,X⟩=Y (O S nd.op)/\W.cell? ⟨b,off+j*6+1,X⟩=Y (O S nd.a)/\W.cell? ⟨b,off+j*6+2,X⟩=Y (O S nd.b)/\W.cell? ⟨b,off+j*6+3,X⟩=Y sk'/\W.cell? ⟨b,off+j*6+4,X⟩=Y sa'/\W.cell? ⟨b,off+j*6+5,X⟩=Y sf'):=fun W hW=>by
    have hB:∀o,W.cell? ⟨w.heap.size,o,X⟩=wr.cell? ⟨w.heap.size,o,X⟩:=fun o=>hW.cell (p:=⟨w.heap.size,o,X⟩) hB;have hC:∀o,W.cell? ⟨b,o,X⟩=wr.cell? ⟨b,o,X⟩:=fun o=>hW.cell (p:=⟨b,o,X⟩) (Nat.lt_of_lt_of_le c5 a3.size);rw[hB,hB,hB,hB,hC,hC,hC,hC,hC,hC];exact⟨a0.cell 0,a0.cell 1,a0.cell 2,a0.cell 3,g0,g1,g2,g3,g4,g5⟩
   have a2:=a1 wr (Below.refl _ _);have c8:=aB b3;have d0:=aB b4;have a9:=aB a1;clear b7 b6 c4 a7 b3 b4 a1 zc g0 g1 g2 g3 g4 g5;by_cases hm:t<oT up nd ks (u+aR n.op n.b (j:Int));all_goals
    obtain⟨g0,g1,g2,g3,g4,g5,g6,g7,g8,g9⟩:=a2;go_wp2_with fail;go_region_held3 (fun w'=>w'.cell? ⟨w.heap.size,0,X⟩=Y (O S n.op)/\w'.cell? ⟨w.heap.size,1,X⟩=Y (O S n.a)/\w'.cell? ⟨w.heap.size,2,X⟩=Y (O S n.b)/\w'.cell? ⟨w.heap.size,3,X⟩=Y (.slice (Y ⟨b,off,X⟩) nk ck) ∧
     w'.cell? ⟨b,off+j*6,X⟩=Y (O S nd.op)/\w'.cell? ⟨b,off+j*6+1,X⟩=Y (O S nd.a)/\w'.cell? ⟨b,off+j*6+2,X⟩=Y (O S nd.b)/\w'.cell? ⟨b,off+j*6+3,X⟩=Y sk'/\w'.cell? ⟨b,off+j*6+4,X⟩=Y sa'/\w'.cell? ⟨b,off+j*6+5,X⟩=Y sf') (first | go_keep | exact a9.o _ b2)
     (first
      | (go_at_call 125;refine (jV _ _ _ _ _ aA).mono ?_;rintro e w2 ⟨rfl,rfl⟩)
      | (go_at_call 82;refine (HI.o _ R [O S nd.op,O S nd.a,O S nd.b,sk',sa',sf'] nd ats ks up _ (d0.o _ (((Below.refl _ _).alloc (Nat.le_refl _) _).drew)) (c8.o _ (((Below.refl _ _).alloc (Nat.le_refl _) _).drew)) b0 a8 hup0 hup1 d4.o d3.o d2.o).mono ?_;rintro e w3 ⟨rfl,c6⟩;have b2:Below wr.heap.size wr w3:=lN (((Below.refl _ _).alloc (Nat.le_refl _) _).drew) c6 (Nat.le_refl _)))
    go_wp2_with fail;go_roundw
    case rel =>
     refine⟨F1.app (.cons pre nd ats ks .nil),F2,j+1,_,by rw[HK.o,dG];rfl,by rw[bV];simp[bF,HJ.o],rfl,by go_num,?_,?_,a3.trans (b2.mono a3.size),a0.below b2 hB⟩
     · have:=HT.o;omega
     have h1:=HE.o;rw[tN] at h1;rw[<-h1];omega
    case measure=>simp[intOf];omega
theorem rX:∀(m:Nat) (w:World) (R:Nat->Prop) (xs:List Value) (n:Nd) (atoms:List Nd) (kids:Fo) (up u:Int),(∀b,R b->b<w.heap.size)->cR R w xs n atoms kids->eN n=true->dC kids->0<=up->up<=1000000000000->0<=u->u+4*aX kids<=1000000000000->aX kids<m →
      Calls Tryz.prog 82 #[.agg xs.toArray,O S up,O S u] w (eF (oT up n kids u) w)
 | 0,_,_,_,_,_,_,_,_,_,_,_,_,_,_,_,_,h=>absurd h aA
 | m+1,w,R,xs,n,atoms,kids,up,u,h1,h2,h3,h4,h5,h6,h7,h8,h9=>zH m (rX m) w R xs n atoms kids up u h1 h2 h3 h4 h5 h6 h7 h8 aA
theorem mM {w:World} {R:Nat->Prop} {xs:List Value} {n:Nd} {atoms:List Nd} {kids:Fo} {up u:Int} (hR:∀b,R b->b<w.heap.size) (ht:cR R w xs n atoms kids) (hok:eN n=true) (hall:dC kids) (hup0:0<=up) (hup1:up<=1000000000000) (h0:0<=u) (h1:u+4*aX kids<=1000000000000) :
 Calls Tryz.prog 82 #[.agg xs.toArray,O S up,O S u] w (eF (oT up n kids u) w) :=
 rX (aX kids+1) w R xs n atoms kids up u hR ht hok hall hup0 hup1 h0 h1 (Nat.lt_succ_self _)
end
end Go.Proofs.YtjoddliplahgkaaGreat
