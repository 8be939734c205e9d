/- Raise of the reference: the free variables of a tree from one on are made higher. -/
import Derived.Test.YtjoddliplahgkaaGreatPReads
namespace Go.Proofs.YtjoddliplahgkaaGreat
set_option linter.unusedVariables false
set_option linter.unusedSimpArgs false
open Go.RowKit
open Go.Value renaming int → O, slice → Y
open Go.IntKind renaming i64 → S
open Option renaming none → X, some → Z
open Go.Lib renaming hid->aB
theorem oN {w:World} {g:Nat} {c0 c1 c2 c3 c4 c5:Value} {tmps:Array Value} (h:aS w g 85 #[c0,c1,c2,c3,c4,c5]) (ht:tmps.getD 6 undef=.pointer (Z ⟨g,0,X⟩)) :
 (results Tryz.f83 tmps).run Tryz.prog w=.ok (.agg #[c0,c1,c2,c3,c4,c5]) w:=by
 have hc:=h.cell;have a0:tmps[6]?.getD undef=.pointer (Z ⟨g,0,X⟩):=by rw[<-ht];simp
 simp[results,Tryz.results83,go_sem,a0,hc]
theorem aS.cast {w:World} {g g':Nat} {t:TypeId} {cs:Array Value} (e:g=g') (h:aS w g t cs):aS w g' t cs:=e ▸ h
theorem jE (w:World) (g:Nat) (a b c d x y:Value):((((((w.setCell ⟨g,0,X⟩ a).setCell ⟨g,1,X⟩ b).setCell ⟨g,2,X⟩ c).setCell ⟨g,3,X⟩ d).setCell ⟨g,4,X⟩ x).setCell ⟨g,5,X⟩ y).heap.size=w.heap.size:=by
 simp[World.setCell]
theorem MG {R:Nat->Prop} {w wr:World} {n:Nd} {ats:List Nd} {G:Fo} {A1:Option Addr} {j k1:Nat} {x y:Value} {xs:List Value} (hR:∀b,R b->b<w.heap.size) (hbw:Below w.heap.size w wr)
 (hown:wr.ownsRow (w.heap.size+3) 85 6 (Y A1 j k1) j xs) (hj:bF G=j) (hfc:kP (nD R (w.heap.size+3) wr (Y A1 j k1)) wr G xs) (hx:gE R w x ats) (hy:gE R w y (cO G)) :
 eZ R w n ats G (.returned (.agg #[O S n.op,O S n.a,O S n.b,Y A1 j k1,x,y])) ((((((wr.setCell ⟨w.heap.size+1,0,X⟩ (O S n.op)).setCell ⟨w.heap.size+1,1,X⟩ (O S n.a)).setCell ⟨w.heap.size+1,2,X⟩ (O S n.b)).setCell ⟨w.heap.size+1,3,X⟩ (Y A1 j k1)).setCell ⟨w.heap.size+1,4,X⟩ x).setCell ⟨w.heap.size+1,5,X⟩ y):=by
 have a1:=jE wr (w.heap.size+1) (O S n.op) (O S n.a) (O S n.b) (Y A1 j k1) x y;have a0:=eM hbw (Nat.le_succ w.heap.size) (O S n.op) (O S n.a) (O S n.b) (Y A1 j k1) x y;have hO:=sN hown (show w.heap.size+1<w.heap.size+3 by omega) (O S n.op) (O S n.a) (O S n.b) (Y A1 j k1) x y;refine⟨a0,_,rfl,_,_,_,rfl,?_,?_,?_⟩
 · refine hP (by rw[hj];exact hO) (kP.keep ?_ _ _ hfc) ?_
   · rintro b ⟨a2,_⟩;have a3:b ≠ w.heap.size+1:=by
      rcases a2 with h | h
      · have:=hR b h;omega
      omega
     refine⟨?_,fun o=>pI wr a3 _ _ _ _ _ _ o⟩;rcases a2 with h | h
     · exact .inl h
     exact .inr ⟨by omega,by rw[a1];exact h.2⟩
   intro b hb;have h3:=aU hown hb;exact .inr ⟨by omega,by rw[a1];exact h3.2.1⟩
 · exact hx.keep fun b hb=>⟨.inl hb,fun o=>a0.cell (p:=⟨b,o,X⟩) (hR b hb)⟩
 exact hy.keep fun b hb=>⟨.inl hb,fun o=>a0.cell (p:=⟨b,o,X⟩) (hR b hb)⟩
theorem DI (a b c:Int) (x y z:Option Addr×Nat×Nat) : ∀u ∈ [Value.int .i64 a,O S b,O S c,Y x.1 x.2.1 x.2.2,Y y.1 y.2.1 y.2.2,Y z.1 z.2.1 z.2.2],u.oneCell'=true:=by
 intro u hu;simp at hu;rcases hu with rfl | rfl | rfl | rfl | rfl | rfl<;>rfl
theorem yE {R:Nat->Prop} {w:World} (a:Int):cR R w [O S 1,O S a,O S 0,Y X 0 0,Y X 0 0,Y X 0 0] ⟨1,a,0⟩ [] .nil :=
 ⟨_,_,_,rfl,⟨X,0,0,rfl,rfl,Nat.le_refl _,fun h=>absurd h aA⟩,gE.nil R w,gE.nil R w⟩
set_option maxRecDepth 100000 in
set_option maxHeartbeats 8000000 in
theorem C3 (m:Nat) (ih:∀(w:World) (R:Nat->Prop) (xs:List Value) (n:Nd) (atoms:List Nd) (kids:Fo) (up u:Int),(∀b,R b->b<w.heap.size)->cR R w xs n atoms kids->eN n=true->dC kids->0<=up->up<=1000000000000->0<=u->u+4*aX kids<=1000000000000->aX kids<m →
      Calls Tryz.prog 83 #[.agg xs.toArray,O S up,O S u] w (eZ R w (kK up n u) (rG n atoms u) (rH up n kids u)))
 (w:World) (R:Nat->Prop) (xs:List Value) (n:Nd) (atoms:List Nd) (kids:Fo) (up u:Int) (hR:∀b,R b->b<w.heap.size) (ht:cR R w xs n atoms kids) (hok:eN n=true) (hall:dC kids) (hup0:0<=up) (hup1:up<=1000000000000) (hu0:0<=u) (hu1:u+4*aX kids<=1000000000000) (hsz:aX kids<=m) :
 Calls Tryz.prog 83 #[.agg xs.toArray,O S up,O S u] w (eZ R w (kK up n u) (rG n atoms u) (rH up n kids u)):=by
 have HI:=aB ih;clear ih;obtain⟨sk,sa,sf,rfl,⟨Ak,nk,ck,rfl,c8⟩,⟨Aa,na,ca,rfl,h5⟩,⟨Af,nf,cf,rfl,c1⟩⟩:=ht;have e0:=(fM ((by simp only[eN,Bool.and_eq_true] at hok;exact hok.1.1):cD n.op n.a n.b=true));by_cases h1:n.op=1/\u<=n.a
 · have H1:=aB h1;obtain⟨h1,h2⟩:=h1;have e7:(n.op==1)=true:=by simp[h1]
   clear h1 hu1;obtain⟨f6,f5⟩:=e0;go_in;go_wp2_with fail;refine bodyPost_ret (v:=.agg #[O S 1,O S (n.a+up),O S 0,Y X 0 0,Y X 0 0,Y X 0 0]) (oN (aS.new _ _ _) aD) rfl ?_;refine⟨a7 w _ _,_,rfl,?_⟩;rw[kK,rG,rH,if_pos H1.o,if_pos H1.o,if_pos H1.o];exact yE _
 have H1:Hid (¬ (n.op=1/\u<=n.a)):=h1;have f4:((n.op==1)=false)\/((n.op==1)=true/\decide (u<=n.a)=false):=by
  by_cases h:n.op=1
  · exact .inr ⟨by simp[h],by simp;have:=fun h2=>h1 ⟨h,h2⟩;omega⟩
  exact .inl (by simp[h])
 have HU:=aB hu1;have j1:=aB hsz;have e9:=aB c8.len;have j3:=aB hok;have l1:nk<=1000000000000:=by
  have h1:=e8 kids;have h2:=c8.len;omega
 clear h1 hu1 hsz hok e0;rcases f4 with e7 | ⟨e7,h2b⟩;all_goals
  go_in;go_wp2_with fail;go_loopw [8] (fun i wr=>∃(F1 F2:Fo) (j:Nat) (A1:Option Addr) (k1:Nat) (xs1:List Value),kids=F1.app F2/\bF F1=j/\i=O S (j:Int)/\Below w.heap.size w wr ∧
   aS wr w.heap.size 85 #[O S n.op,O S n.a,O S n.b,Y Ak nk ck,Y Aa na ca,Y Af nf cf] ∧
   aS wr (w.heap.size+1) 85 #[O S 0,O S 0,O S 0,Y X 0 0,Y X 0 0,Y X 0 0] ∧
   aS wr (w.heap.size+1+1) 85 #[O S n.op,O S n.a,O S n.b,Y A1 j k1,Y Aa na ca,Y Af nf cf] ∧
   wr.ownsRow (w.heap.size+3) 85 6 (Y A1 j k1) j xs1/\kP (nD R (w.heap.size+3) wr (Y A1 j k1)) wr (G7 n.op n.b up 0 u F1) xs1) (fun i _=>nk-(intOf i).toNat)
  case atStart =>
   refine⟨.nil,kids,0,X,0,[],rfl,rfl,rfl,(a7 w _ _).alloc aH _,((aS.new _ _ _).alloc _).alloc _,?_,?_,World.ownsRow_nil _ _ _ _,rfl⟩
   · exact aS.cast aD ((aS.new _ _ _).alloc _)
   exact aS.cast aD (aS.new _ _ _)
  case round =>
   obtain⟨F1,F2,j,A1,k1,xs1,hk,hj,rfl,b2,a5,a3,a2,c6,h0⟩:=hrel;have HK:=aB hk;have HJ:=aB hj;have a6:=aB c6;have f0:=aB h0;have b6:=c8.keep (R':=R) (w':=wr) (fun b hb=>⟨hb,fun o=>b2.cell (p:=⟨b,o,X⟩) (hR b hb)⟩);have zc:=aS.cell a5;have f2:=aS.cell a3;have f1:=aS.frozen a3;have c9:=aS.cell a2;have b4:w.heap.size+1+1<wr.heap.size:=aS.lt a2;cases F2 with
   | nil =>
    have e2:j=nk:=by rw[<-e9.o,hk,bV,hj];rfl
    have f8:¬ j<nk:=aA;clear hk hj e2;go_wp2_with fail;have b5:kids=F1:=by rw[HK.o,jJ]
    refine bodyPost_ret (v:=.agg #[O S n.op,O S n.a,O S n.b,Y A1 j k1,Y Aa na ca,Y Af nf cf]) (oN ((((((a3.set_ 0 _).set_ 1 _).set_ 2 _).set_ 3 _).set_ 4 _).set_ 5 _) aD) rfl ?_;rw[kK,rG,rH,if_neg H1.o,if_neg H1.o,if_neg H1.o,b5];exact MG hR b2 a6.o (by rw[BQ,HJ.o]) f0.o ⟨_,_,_,rfl,h5⟩ (by rw[xG,<-b5];exact⟨_,_,_,rfl,c1⟩)
   | cons pre nd ats ks F2 =>
    have e2:j<nk:=by rw[<-e9.o,hk,bV,hj];simp[bF]
    have b7:dM R wr Ak nk ck (F1.app (.cons pre nd ats ks F2)):=by rw[<-hk];exact b6
    obtain⟨b,off,sk',sa',sf',rfl,c2,b3,g0,g1,g2,g3,g4,g5⟩:=b7.at_;rw[hj] at g0 g1 g2 g3 g4 g5;obtain⟨_,c7,b9,_⟩:=(dC.app F1 _).1 (hk ▸ hall);have h3:b<w.heap.size:=hR b c2;clear hk hj b7 b6;obtain⟨l3,l2⟩:=eA j3.o (j:Int);have f9:u+4*(aX F1+(aX ks+aX F2+1))<=1000000000000:=by
     have:=HU.o;rw[HK.o,dO] at this;simp only[aX] at this;omega
    have b8:aX ks<m:=by
     have:=j1.o;rw[HK.o,dO] at this;simp only[aX] at this;omega
    have hw:IntKind.i64.wrap (u+aR n.op n.b (j:Int))=u+aR n.op n.b (j:Int):=IntWalk.i64_in _ aA;have e6:0<=u+aR n.op n.b (j:Int):=aA;have e5:u+aR n.op n.b (j:Int)+4*aX ks<=1000000000000:=aA;have l0:=aB e6;have j9:=aB e5;have j8:=aB b8;have d6:∀W:World,Below wr.heap.size wr W->cR R W [O S nd.op,O S nd.a,O S nd.b,sk',sa',sf'] nd ats ks:=fun W hW =>
     b3.keep fun b' hb'=>⟨hb',fun o=>hW.cell (p:=⟨b',o,X⟩) (Nat.lt_of_lt_of_le (hR b' hb') b2.size)⟩
    have d8:∀W:World,Below wr.heap.size wr W->∀b',R b'->b'<W.heap.size:=fun W hW b' hb'=>Nat.lt_of_lt_of_le (hR b' hb') (Nat.le_trans b2.size hW.size);have b0:∀W:World,Below wr.heap.size wr W->(W.cell? ⟨w.heap.size,0,X⟩=Z (O S n.op)/\W.cell? ⟨w.heap.size,1,X⟩=Z (O S n.a)/\W.cell? ⟨w.heap.size,2,X⟩=Z (O S n.b)/\W.cell? ⟨w.heap.size,3,X⟩=Z (Y (Z ⟨b,off,X⟩) nk ck) ∧
     W.cell? ⟨b,off+j*6,X⟩=Z (O S nd.op)/\W.cell? ⟨b,off+j*6+1,X⟩=Z (O S nd.a)/\W.cell? ⟨b,off+j*6+2,X⟩=Z (O S nd.b)/\W.cell? ⟨b,off+j*6+3,X⟩=Z sk'/\W.cell? ⟨b,off+j*6+4,X⟩=Z sa'/\W.cell? ⟨b,off+j*6+5,X⟩=Z sf'):=fun W hW=>by
     have hB:∀o,W.cell? ⟨w.heap.size,o,X⟩=wr.cell? ⟨w.heap.size,o,X⟩:=fun o=>hW.cell (p:=⟨w.heap.size,o,X⟩) (show w.heap.size<wr.heap.size by omega);have hC:∀o,W.cell? ⟨b,o,X⟩=wr.cell? ⟨b,o,X⟩:=fun o=>hW.cell (p:=⟨b,o,X⟩) (Nat.lt_of_lt_of_le h3 b2.size);rw[hB,hB,hB,hB,hC,hC,hC,hC,hC,hC];exact⟨a5.cell 0,a5.cell 1,a5.cell 2,a5.cell 3,g0,g1,g2,g3,g4,g5⟩
    have b1:=b0 wr (Below.refl _ _);have i9:=aB d6;have j2:=aB d8;have c0:=aB b0;obtain⟨i0,hi,d5,d4,d3⟩:=info_parts Tryz.infoT;have j5:=aB hi;have i8:=aB d5;have i7:=aB d4;have i6:=aB d3;clear hi d5 d4 d3;clear e6 e5 f9 b8 d6 d8 b0 zc f2 f1 g0 g1 g2 g3 g4 g5;obtain⟨g0,g1,g2,g3,g4,g5,g6,g7,g8,g9⟩:=b1;go_wp2_with fail;refine wp_region_noPanic ?_;refine fQ 18 (fun w'=>w'.cell? ⟨w.heap.size,0,X⟩=Z (O S n.op)/\w'.cell? ⟨w.heap.size,1,X⟩=Z (O S n.a)/\w'.cell? ⟨w.heap.size,2,X⟩=Z (O S n.b)/\w'.cell? ⟨w.heap.size,3,X⟩=Z (Y (Z ⟨b,off,X⟩) nk ck) ∧
     w'.cell? ⟨w.heap.size+1+1,3,X⟩=Z (Y A1 j k1) ∧
     w'.cell? ⟨b,off+j*6,X⟩=Z (O S nd.op)/\w'.cell? ⟨b,off+j*6+1,X⟩=Z (O S nd.a)/\w'.cell? ⟨b,off+j*6+2,X⟩=Z (O S nd.b)/\w'.cell? ⟨b,off+j*6+3,X⟩=Z sk'/\w'.cell? ⟨b,off+j*6+4,X⟩=Z sa'/\w'.cell? ⟨b,off+j*6+5,X⟩=Z sf') aF ⟨g0,g1,g2,g3,c9 3,g4,g5,g6,g7,g8,g9⟩ (fun hS0 => ?_)
    have e1:∀W:World,Below wr.heap.size wr W->W.cell? ⟨w.heap.size,0,X⟩=Z (O S n.op)/\W.cell? ⟨w.heap.size,1,X⟩=Z (O S n.a)/\W.cell? ⟨w.heap.size,2,X⟩=Z (O S n.b)/\W.cell? ⟨w.heap.size,3,X⟩=Z (Y (Z ⟨b,off,X⟩) nk ck) ∧
     W.cell? ⟨w.heap.size+1+1,3,X⟩=Z (Y A1 j k1) ∧
     W.cell? ⟨b,off+j*6,X⟩=Z (O S nd.op)/\W.cell? ⟨b,off+j*6+1,X⟩=Z (O S nd.a)/\W.cell? ⟨b,off+j*6+2,X⟩=Z (O S nd.b)/\W.cell? ⟨b,off+j*6+3,X⟩=Z sk'/\W.cell? ⟨b,off+j*6+4,X⟩=Z sa'/\W.cell? ⟨b,off+j*6+5,X⟩=Z sf':=fun W hW=>by
     obtain⟨k0,k1',k2,k3,k4,k5,k6,k7,k8,k9⟩:=c0.o W hW;exact⟨k0,k1',k2,k3,(aS.cell (aS.below a2 hW b4)) 3,k4,k5,k6,k7,k8,k9⟩
    have a4:=aB e1;clear e1 c9;refine dW (i:=0) (v := ?_) rfl rfl aC aC aC aC (fun _ _ _ h=>h) (Or.inl ⟨by rfl,?_⟩) aI ?_;rotate_left
    · (intro w hSw;(try dsimp only at hSw);go_simp);all_goals with_reducible rfl
    try simp only[Act.put,List.setIfInBounds_toArray,List.set_cons_zero,List.set_cons_succ]
    refine dW (i:=1) (v := ?_) rfl rfl aC aC aC aC (fun _ _ _ h=>h) (Or.inl ⟨by rfl,?_⟩) aI ?_;rotate_left
    · (intro w hSw;(try dsimp only at hSw);go_simp);all_goals with_reducible rfl
    try simp only[Act.put,List.setIfInBounds_toArray,List.set_cons_zero,List.set_cons_succ]
    refine dW (i:=2) (v := ?_) rfl rfl aC aC aC aC (fun _ _ _ h=>h) (Or.inl ⟨by rfl,?_⟩) aI ?_;rotate_left
    · (intro w hSw;(try dsimp only at hSw);go_simp);all_goals with_reducible rfl
    try simp only[Act.put,List.setIfInBounds_toArray,List.set_cons_zero,List.set_cons_succ]
    refine dW (i:=3) (v := ?_) rfl rfl aC aC aC aC (fun _ _ _ h=>h) (Or.inl ⟨by rfl,?_⟩) aI ?_;rotate_left
    · (intro w hSw;(try dsimp only at hSw);go_simp);all_goals with_reducible rfl
    try simp only[Act.put,List.setIfInBounds_toArray,List.set_cons_zero,List.set_cons_succ]
    refine dW (i:=4) (v := ?_) rfl rfl aC aC aC aC (fun _ _ _ h=>h) (Or.inl ⟨by rfl,?_⟩) aI ?_;rotate_left
    · (intro w hSw;(try dsimp only at hSw);go_simp);all_goals with_reducible rfl
    try simp only[Act.put,List.setIfInBounds_toArray,List.set_cons_zero,List.set_cons_succ]
    refine dW (i:=5) (v := ?_) rfl rfl aC aC aC aC (fun _ _ _ h=>h) (Or.inl ⟨by rfl,?_⟩) aI ?_;rotate_left
    · (intro w hSw;(try dsimp only at hSw);go_simp);all_goals with_reducible rfl
    try simp only[Act.put,List.setIfInBounds_toArray,List.set_cons_zero,List.set_cons_succ]
    refine dW (i:=6) (v := ?_) rfl rfl aC aC aC aC (fun _ _ _ h=>h) (Or.inl ⟨by rfl,?_⟩) aI ?_;rotate_left
    · (intro w hSw;(try dsimp only at hSw);go_simp);all_goals with_reducible rfl
    try simp only[Act.put,List.setIfInBounds_toArray,List.set_cons_zero,List.set_cons_succ]
    refine dW (i:=7) (v := ?_) rfl rfl aC aC aC aC (fun _ _ _ h=>h) (Or.inl ⟨by rfl,?_⟩) aI ?_;rotate_left
    · (intro w hSw;(try dsimp only at hSw);go_simp);all_goals with_reducible rfl
    try simp only[Act.put,List.setIfInBounds_toArray,List.set_cons_zero,List.set_cons_succ]
    refine dW (i:=8) (v := ?_) rfl rfl aC aC aC aC (fun _ _ _ h=>h) (Or.inl ⟨by rfl,?_⟩) aI ?_;rotate_left
    · (intro w hSw;(try dsimp only at hSw);go_simp);all_goals with_reducible rfl
    try simp only[Act.put,List.setIfInBounds_toArray,List.set_cons_zero,List.set_cons_succ]
    refine dW (i:=9) (v := ?_) rfl rfl aC aC aC aC (fun _ _ _ h=>h) (Or.inl ⟨by rfl,?_⟩) aI ?_;rotate_left
    · (intro w hSw;(try dsimp only at hSw);go_simp);all_goals with_reducible rfl
    try simp only[Act.put,List.setIfInBounds_toArray,List.set_cons_zero,List.set_cons_succ]
    refine dW (i:=10) (v := ?_) rfl rfl aC aC aC aC (fun _ _ _ h=>h) (Or.inl ⟨by rfl,?_⟩) aI ?_;rotate_left
    · (intro w hSw;(try dsimp only at hSw);go_simp);all_goals with_reducible rfl
    try simp only[Act.put,List.setIfInBounds_toArray,List.set_cons_zero,List.set_cons_succ]
    refine dW (i:=11) (v := ?_) rfl rfl aC aC aC aC (fun _ _ _ h=>h) (Or.inl ⟨by rfl,?_⟩) aI ?_;rotate_left
    · (intro w hSw;(try dsimp only at hSw);go_simp);all_goals with_reducible rfl
    try simp only[Act.put,List.setIfInBounds_toArray,List.set_cons_zero,List.set_cons_succ]
    refine bQ (i:=12) aC rfl rfl (fun K12 hK12 => ?_);go_simp;go_at_call 125
    refine (jV _ _ _ _ _ aA).mono ?_;rintro e w2 ⟨rfl,rfl⟩;go_wp2_with fail;have h9:=a4.o (wr.alloc (.cells #[O S n.op,O S n.a,O S n.b] 46)).drew (((Below.refl _ _).alloc (Nat.le_refl _) _).drew);refine hK12.o _ _ (fun _=>h9) ?_;refine dW (i:=13) (v := ?_) rfl rfl aC aC aC aC (fun _ _ _ h=>h) (Or.inl ⟨by rfl,?_⟩) aI ?_;rotate_left
    · (intro w hSw;(try dsimp only at hSw);go_simp);all_goals with_reducible rfl
    try simp only[Act.put,List.setIfInBounds_toArray,List.set_cons_zero,List.set_cons_succ]
    refine bQ (i:=14) aC rfl rfl (fun K14 hK14 => ?_);go_simp;go_at_call 83
    refine (HI.o _ R [O S nd.op,O S nd.a,O S nd.b,sk',sa',sf'] nd ats ks up _ (j2.o _ (((Below.refl _ _).alloc (Nat.le_refl _) _).drew)) (i9.o _ (((Below.refl _ _).alloc (Nat.le_refl _) _).drew)) c7 b9 hup0 hup1 l0.o j9.o j8.o).mono ?_;rintro e w3 ⟨h4,ys,rfl,d7⟩;have j0:=aB d7;obtain⟨sk3,sa3,sf3,rfl,⟨A3,n3,c3,rfl,f7⟩,⟨A4,n4,c4,rfl,i2⟩,⟨A5,n5,c5,rfl,i1⟩⟩:=d7;clear f7 i2 i1;have a0:Below wr.heap.size wr w3:=lN (((Below.refl _ _).alloc (Nat.le_refl _) _).drew) h4 (Nat.le_refl _);go_wp2_with fail;have h8:=a4.o _ a0;refine hK14.o _ _ (fun _=>h8) ?_;refine bQ (i:=15) aC rfl rfl (fun K15 hK15 => ?_);go_simp;have h7:=a4.o _ (a0.alloc a0.size (.cells #[O S (kK up nd (u+aR n.op n.b (j:Int))).op,O S (kK up nd (u+aR n.op n.b (j:Int))).a,O S (kK up nd (u+aR n.op n.b (j:Int))).b,Y A3 n3 c3,Y A4 n4 c4,Y A5 n5 c5] 85));refine hK15.o _ _ (fun _=>h7) ?_;refine bQ (i:=16) aC rfl rfl (fun K16 hK16 => ?_);refine fL (.tmp 42) (.tmp 56) 83 rfl (w.heap.size+3) i0 _ Tryz.underlying83 j5.o i8.o i7.o i6.o rfl (Y A1 j k1) j xs1 [O S (kK up nd (u+aR n.op n.b (j:Int))).op,O S (kK up nd (u+aR n.op n.b (j:Int))).a,O S (kK up nd (u+aR n.op n.b (j:Int))).b,Y A3 n3 c3,Y A4 n4 c4,Y A5 n5 c5] rfl (DI _ _ _ (A3,n3,c3) (A4,n4,c4) (A5,n5,c5)) w3 rfl rfl (cB a6.o a0) _ rfl rfl aA (by have:=a0.size;omega) ?_;intro A' c' w' a1;have zb:=aS.grown (aS.below a2 a0 b4) a1.grown (eY (cB a6.o a0) (Nat.lt_succ_self _));have zc:=zb.cell;have zf:=zb.frozen;have a8:∀g,g<w.heap.size+3->∀o,w'.cell? ⟨g,o,X⟩=w3.cell? ⟨g,o,X⟩:=fun g hg o=>World.cell?_of_block (a1.grown.block g (by have:=a0.size;omega) (eY (cB a6.o a0) hg));have e4:∀g o,g ≠ w.heap.size+1+1->(w'.setCell ⟨w.heap.size+1+1,3,X⟩ (Y A' (j+1) c')).cell? ⟨g,o,X⟩=w'.cell? ⟨g,o,X⟩:=fun g o hg=>World.cell?_setCell_other _ _ _ _ (fun hh=>by injection hh with hh;exact hg hh.symm);have h6:w'.cell? ⟨w.heap.size,0,X⟩=Z (O S n.op)/\w'.cell? ⟨w.heap.size,1,X⟩=Z (O S n.a)/\w'.cell? ⟨w.heap.size,2,X⟩=Z (O S n.b)/\w'.cell? ⟨w.heap.size,3,X⟩=Z (Y (Z ⟨b,off,X⟩) nk ck) ∧
     w'.cell? ⟨w.heap.size+1+1,3,X⟩=Z (Y A1 j k1) ∧
     w'.cell? ⟨b,off+j*6,X⟩=Z (O S nd.op)/\w'.cell? ⟨b,off+j*6+1,X⟩=Z (O S nd.a)/\w'.cell? ⟨b,off+j*6+2,X⟩=Z (O S nd.b)/\w'.cell? ⟨b,off+j*6+3,X⟩=Z sk'/\w'.cell? ⟨b,off+j*6+4,X⟩=Z sa'/\w'.cell? ⟨b,off+j*6+5,X⟩=Z sf':=⟨(a8 _ aA _).trans (a4.o _ a0).1,(a8 _ aA _).trans (a4.o _ a0).2.1,(a8 _ aA _).trans (a4.o _ a0).2.2.1,(a8 _ aA _).trans (a4.o _ a0).2.2.2.1,(a8 _ aA _).trans (a4.o _ a0).2.2.2.2.1,(a8 _ aA _).trans (a4.o _ a0).2.2.2.2.2.1,(a8 _ aA _).trans (a4.o _ a0).2.2.2.2.2.2.1,(a8 _ aA _).trans (a4.o _ a0).2.2.2.2.2.2.2.1,(a8 _ aA _).trans (a4.o _ a0).2.2.2.2.2.2.2.2.1,(a8 _ aA _).trans (a4.o _ a0).2.2.2.2.2.2.2.2.2.1,(a8 _ aA _).trans (a4.o _ a0).2.2.2.2.2.2.2.2.2.2⟩
    refine hK16.o _ _ (fun _=>h6) ?_;try simp only[Act.put,List.setIfInBounds_toArray,List.set_cons_zero,List.set_cons_succ]
    refine dW (i:=17) (v := ?_) rfl rfl aC aC aC aC (fun _ _ _ h=>h) (Or.inl ⟨by rfl,?_⟩) aI ?_;rotate_left
    · (intro w hSw;(try dsimp only at hSw);go_simp);all_goals with_reducible rfl
    try simp only[Act.put,List.setIfInBounds_toArray,List.set_cons_zero,List.set_cons_succ]
    refine bQ (i:=18) aC rfl rfl (fun K18 hK18 => ?_);go_simp;refine hK18.o _ _ (fun h=>absurd rfl h) ?_;refine gK aC (NoPanic.normal ?_) _;all_goals
     have f3:w.heap.size<=w3.heap.size:=by have:=a0.size;omega
     have a9:=cB a6.o a0;have c2:∀g,g<w.heap.size+3->w.heap.size<=g->True:=fun _ _ _=>trivial;have e3:Below w.heap.size w (w'.setCell ⟨w.heap.size+1+1,3,X⟩ (Y A' (j+1) c')):=((b2.trans (a0.mono b2.size)).grown a1.grown f3 (fun g hg=>by have:=(aU a9 hg).1;omega)).setCell (p:=⟨w.heap.size+1+1,3,X⟩) (show w.heap.size<=w.heap.size+1+1 by omega) _;have d2:=aS.far (aS.grown (aS.below a5 a0 aA) a1.grown (eY a9 (show w.heap.size<w.heap.size+3 by omega))) (p:=⟨w.heap.size+1+1,3,X⟩) (show w.heap.size ≠ w.heap.size+1+1 by omega) (Y A' (j+1) c');have d1:=aS.far (aS.grown (aS.below a3 a0 aA) a1.grown (eY a9 (show w.heap.size+1<w.heap.size+3 by omega))) (p:=⟨w.heap.size+1+1,3,X⟩) (show w.heap.size+1 ≠ w.heap.size+1+1 by omega) (Y A' (j+1) c');have d0:=zb.set_ 3 (Y A' (j+1) c');have d9:=ownsRow_setCell_below a1.own (a:=⟨w.heap.size+1+1,3,X⟩) (show w.heap.size+1+1<w.heap.size+3 by omega) (Y A' (j+1) c');have c1:=wQ (B0:=w.heap.size) (B:=w.heap.size+3) f0.o j0.o (((Below.refl _ _).alloc (Nat.le_refl _) _).drew).size a0 aA hR aA a6.o (Below.refl _ _) a1 (wf:=w'.setCell ⟨w.heap.size+1+1,3,X⟩ (Y A' (j+1) c')) (pre:=pre) (fun g hg o=>e4 g o aA) (by simp[World.setCell]);have j7:=aB e3;have i5:=aB d2;have i4:=aB d1;have i3:=aB d0;have j4:=aB d9;have j6:=aB c1;clear e3 d2 d1 d0 d9 c1 c2 a8 e4 zc zf;go_wp2_with fail;go_roundw
     case rel =>
      refine⟨F1.app (.cons pre nd ats ks .nil),F2,j+1,A',c',_,by rw[HK.o,dG];rfl,by rw[bV];simp[bF,HJ.o],by go_num,j7.o,i5.o,i4.o,i3.o,j4.o,?_⟩;rw[G8,HJ.o,Nat.zero_add,lF];exact j6.o
     case measure=>simp[intOf];omega
theorem uQ:∀(m:Nat) (w:World) (R:Nat->Prop) (xs:List Value) (n:Nd) (atoms:List Nd) (kids:Fo) (up u:Int),(∀b,R b->b<w.heap.size)->cR R w xs n atoms kids->eN n=true->dC kids->0<=up->up<=1000000000000->0<=u->u+4*aX kids<=1000000000000->aX kids<m →
      Calls Tryz.prog 83 #[.agg xs.toArray,O S up,O S u] w (eZ R w (kK up n u) (rG n atoms u) (rH up n kids u))
 | 0,_,_,_,_,_,_,_,_,_,_,_,_,_,_,_,_,h=>absurd h aA
 | m+1,w,R,xs,n,atoms,kids,up,u,h1,h2,h3,h4,h5,h6,h7,h8,h9=>C3 m (uQ m) w R xs n atoms kids up u h1 h2 h3 h4 h5 h6 h7 h8 aA
theorem uR {w:World} {R:Nat->Prop} {xs:List Value} {n:Nd} {atoms:List Nd} {kids:Fo} {up u:Int} (hR:∀b,R b->b<w.heap.size) (ht:cR R w xs n atoms kids) (hok:eN n=true) (hall:dC kids) (hup0:0<=up) (hup1:up<=1000000000000) (h0:0<=u) (h1:u+4*aX kids<=1000000000000) :
 Calls Tryz.prog 83 #[.agg xs.toArray,O S up,O S u] w (eZ R w (kK up n u) (rG n atoms u) (rH up n kids u)) :=
 uQ (aX kids+1) w R xs n atoms kids up u hR ht hok hall hup0 hup1 h0 h1 (Nat.lt_succ_self _)
end Go.Proofs.YtjoddliplahgkaaGreat
