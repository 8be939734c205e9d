/- Raise of the reference: the free variables of a tree from one on are made higher. -/
import Derived.Test.YtjoddliplahgkaaGreatTReads
namespace Go.Proofs.YtjoddliplahgkaaGreat
set_option linter.unusedVariables false
set_option linter.unusedSimpArgs false
open Go.RowKit
open Go.Value renaming int → O, slice → Y
open Go.IntKind renaming i64 → S
open Option renaming none → X, some → Z
open Go.Lib renaming hid->aB
variable {w:aAB}
theorem pU{g:Nat}{c0 c1 c2 c3 c4 c5:Value}{D:Array Value}(h:aT w g 85 #[c0,c1,c2,c3,c4,c5])(ht:D.getD 6 undef=.pointer (Z ⟨g,0,X⟩)):
 (results Tryz.f83 D).run Tryz.prog w=.ok (.agg #[c0,c1,c2,c3,c4,c5]) w:=by
 have G:=h.cell;have F:D[6]?.getD undef=.pointer (Z ⟨g,0,X⟩):=by rw[<-ht];simp
 simp[results,Tryz.results83,go_sem,F,G]
theorem aT.cast{g D:Nat}{t:TypeId}{cs:Array Value}(e:g=D)(h:aT w g t cs):aT w D t cs:=e ▸ h
theorem jX(w:aAB)(g:Nat)(a b c d x y:Value):((((((w.setCell ⟨g,0,X⟩ a).setCell ⟨g,1,X⟩ b).setCell ⟨g,2,X⟩ c).setCell ⟨g,3,X⟩ d).setCell ⟨g,4,X⟩ x).setCell ⟨g,5,X⟩ y).heap.size=w.heap.size:=by
 simp[World.setCell]
theorem PT{R:Nat->Prop}{wr:aAB}{n:Nd}{s:List Nd}{G:Fo}{F:ZZ}{j k1:Nat}{x y:Value}{xs:List Value}(hR:∀b,R b->b<w.heap.size)(a1:ZY w wr)
 (D:wr.ownsRow (w.heap.size+3) 85 6 (Y F j k1) j xs) (hj:bE G=j) (a2:lO (oN R (w.heap.size+3) wr (Y F j k1)) wr G xs) (hx:gE R w x s) (hy:gE R w y (cG G)) :
 fF R w n s G (.returned (.agg #[O S n.op,O S n.a,O S n.b,Y F j k1,x,y])) ((((((wr.setCell ⟨w.heap.size+1,0,X⟩ (O S n.op)).setCell ⟨w.heap.size+1,1,X⟩ (O S n.a)).setCell ⟨w.heap.size+1,2,X⟩ (O S n.b)).setCell ⟨w.heap.size+1,3,X⟩ (Y F j k1)).setCell ⟨w.heap.size+1,4,X⟩ x).setCell ⟨w.heap.size+1,5,X⟩ y):=by
 have a0:=jX wr (w.heap.size+1) (O S n.op) (O S n.a) (O S n.b) (Y F j k1) x y;have U:=eV a1 (Nat.le_succ w.heap.size) (O S n.op) (O S n.a) (O S n.b) (Y F j k1) x y;have hO:=uT D (show w.heap.size+1<w.heap.size+3 by omega) (O S n.op) (O S n.a) (O S n.b) (Y F j k1) x y;refine⟨U,_,rfl,_,_,_,rfl,?_,?_,?_⟩
 . refine iQ (by rw[hj];exact hO) (lO.keep ?_ _ _ a2) ?_
   . rintro b ⟨z,_⟩;have a3:b≠w.heap.size+1:=by
      rcases z with h|h
      . have:=hR b h;omega
      omega
     refine⟨?_,fun o=>qQ wr a3 _ _ _ _ _ _ o⟩;rcases z with h|h
     . exact .inl h
     exact .inr ⟨by omega,by rw[a0];exact h.2⟩
   intro b I;have h3:=aS D I;exact .inr ⟨by omega,by rw[a0];exact h3.2.1⟩
 . exact hx.keep fun b I=>⟨.inl I,fun o=>U.cell (p:=⟨b,o,X⟩) (hR b I)⟩
 exact hy.keep fun b I=>⟨.inl I,fun o=>U.cell (p:=⟨b,o,X⟩) (hR b I)⟩
theorem F8(a b c:Int)(x y z:Option Addr×Nat×Nat):∀u∈[Value.int .i64 a,O S b,O S c,Y x.1 x.2.1 x.2.2,Y y.1 y.2.1 y.2.2,Y z.1 z.2.1 z.2.2],u.oneCell'=true:=by
 intro u D;simp at D;rcases D with rfl|rfl|rfl|rfl|rfl|rfl<;>rfl
theorem BF{R:Nat->Prop}(a:Int):cJ R w [O S 1,O S a,O S 0,Y X 0 0,Y X 0 0,Y X 0 0] ⟨1,a,0⟩ [] .nil :=
 ⟨_,_,_,rfl,⟨X,0,0,rfl,rfl,XU _,fun h=>absurd h aA⟩,gE.nil R w,gE.nil R w⟩
set_option maxRecDepth 100000 in
set_option maxHeartbeats 8000000 in
theorem FO(m:Nat) (ih:∀(w:aAB)(R:Nat->Prop)(xs:List Value)(n:Nd)(atoms:List Nd)(kids:Fo)(up u:Int),(∀b,R b->b<w.heap.size)->cJ R w xs n atoms kids->eW n=true->dI kids->0<=up->up<=1000000000000->0<=u->u+4*aY kids<=1000000000000->aY kids<m →
      Calls Tryz.prog 83 #[.agg xs.toArray,O S up,O S u] w (fF R w (lE up n u) (s9 n atoms u) (tA up n kids u)))
 (w:aAB) (R:Nat->Prop) (xs:List Value) (n:Nd) (atoms:List Nd) (kids:Fo) (up u:Int) (hR:∀b,R b->b<w.heap.size) (ht:cJ R w xs n atoms kids) (b1:eW n=true) (d5:dI kids) (f0:0<=up) (f1:up<=1000000000000) (m9:0<=u) (c6:u+4*aY kids<=1000000000000) (e7:aY kids<=m) :
 Calls Tryz.prog 83 #[.agg xs.toArray,O S up,O S u] w (fF R w (lE up n u) (s9 n atoms u) (tA up n kids u)):=by
 have HI:=aB ih;clear ih;obtain⟨sk,sa,sf,rfl,⟨Ak,nk,ck,rfl,c0⟩,⟨Aa,na,ca,rfl,j6⟩,⟨Af,nf,cf,rfl,a9⟩⟩:=ht;have e2:=(fZ ((by simp only[eW,YC]at b1;exact b1.1.1):cD n.op n.a n.b=true));by_cases h1:n.op=1/\u<=n.a
 . have H1:=aB h1;obtain⟨h1,h2⟩:=h1;have c9:(n.op==1)=true:=by simp[h1]
   clear h1 c6;obtain⟨l8,l9⟩:=e2;go_in;go_wp2_with fail;refine XW (v:=.agg #[O S 1,O S (n.a+up),O S 0,Y X 0 0,Y X 0 0,Y X 0 0]) (pU (aT.new _ _ _) aD) rfl ?_;refine⟨bS w _ _,_,rfl,?_⟩;rw[lE,s9,tA,XP H1.o,XP H1.o,XP H1.o];exact BF _
 have H1:Hid (¬ (n.op=1/\u<=n.a)):=h1;have l2:((n.op==1)=false)\/((n.op==1)=true/\decide (u<=n.a)=false):=by
  by_cases h:n.op=1
  . exact .inr ⟨by simp[h],by simp;have:=fun h2=>h1 ⟨h,h2⟩;omega⟩
  exact .inl (by simp[h])
 obtain⟨HU,i1,c8,h8⟩:=aAE c6 e7 c0.len b1;have m8:nk<=1000000000000:=by
  have h1:=eP kids;have h2:=c0.len;omega
 clear h1 c6 e7 b1 e2;rcases l2 with c9|⟨c9,h2b⟩;all_goals
  go_in;go_wp2_with fail;go_loopw [8] (fun i wr=>∃(F1 F2:Fo)(j:Nat)(A1:ZZ)(k1:Nat)(b2:List Value),kids=F1.app F2/\bE F1=j/\i=O S (j:Int)/\ZY w wr ∧
   aT wr w.heap.size 85 #[O S n.op,O S n.a,O S n.b,Y Ak nk ck,Y Aa na ca,Y Af nf cf] ∧
   aT wr (w.heap.size+1) 85 #[O S 0,O S 0,O S 0,Y X 0 0,Y X 0 0,Y X 0 0] ∧
   aT wr (w.heap.size+1+1) 85 #[O S n.op,O S n.a,O S n.b,Y A1 j k1,Y Aa na ca,Y Af nf cf] ∧
   wr.ownsRow (w.heap.size+3) 85 6 (Y A1 j k1) j b2/\lO (oN R (w.heap.size+3) wr (Y A1 j k1)) wr (LA n.op n.b up 0 u F1) b2) (fun i _=>nk-(intOf i).toNat)
  case atStart =>
   refine⟨.nil,kids,0,X,0,[],rfl,rfl,rfl,(bS w _ _).alloc aH _,((aT.new _ _ _).alloc _).alloc _,?_,?_,ZE _ _ _ _,rfl⟩
   . exact aT.cast aD ((aT.new _ _ _).alloc _)
   exact aT.cast aD (aT.new _ _ _)
  case round =>
   obtain⟨F1,F2,j,A1,k1,b2,hk,hj,rfl,a1,s,z,a0,e5,j9⟩:=hrel;obtain⟨HK,HJ,U,c7⟩:=aAE hk hj e5 j9;have b5:=c0.keep (R':=R) (w':=wr) (fun b hb=>⟨hb,fun o=>a1.cell (p:=⟨b,o,X⟩) (hR b hb)⟩);have zc:=aT.cell s;have l5:=aT.cell z;have l6:=aT.frozen z;have f8:=aT.cell a0;have b7:w.heap.size+1+1<wr.heap.size:=aT.lt a0;cases F2 with
   | nil =>
    have e0:j=nk:=by rw[<-c8.o,hk,bN,hj];rfl
    have l7:¬ j<nk:=aA;clear hk hj e0;go_wp2_with fail;have b6:kids=F1:=by rw[HK.o,iK]
    refine XW (v:=.agg #[O S n.op,O S n.a,O S n.b,Y A1 j k1,Y Aa na ca,Y Af nf cf]) (pU ((((((z.set_ 0 _).set_ 1 _).set_ 2 _).set_ 3 _).set_ 4 _).set_ 5 _) aD) rfl ?_;rw[lE,s9,tA,XN H1.o,XN H1.o,XN H1.o,b6];exact PT hR a1 U.o (by rw[EO,HJ.o]) c7.o ⟨_,_,_,rfl,j6⟩ (by rw[AI,<-b6];exact⟨_,_,_,rfl,a9⟩)
   | cons pre nd a7 ks F2 =>
    have e0:j<nk:=by rw[<-c8.o,hk,bN,hj];simp[bE]
    have b4:eX R wr Ak nk ck (F1.app (.cons pre nd a7 ks F2)):=by rw[<-hk];exact b5
    obtain⟨b,off,a6,a4,a5,rfl,c1,c2,g0,g1,g2,g3,g4,g5⟩:=b4.at_;rw[hj]at g0 g1 g2 g3 g4 g5;obtain⟨_,e4,b9,_⟩:=(dI.app F1 _).1 (hk ▸ d5);have j8:b<w.heap.size:=hR b c1;clear hk hj b4 b5;obtain⟨m6,m7⟩:=dY h8.o (j:Int);have l0:u+4*(aY F1+(aY ks+aY F2+1))<=1000000000000:=by
     have:=HU.o;rw[HK.o,dQ]at this;simp only[aY]at this;omega
    have b3:aY ks<m:=by
     have:=i1.o;rw[HK.o,dQ]at this;simp only[aY]at this;omega
    have hw:IntKind.i64.wrap (u+aR n.op n.b (j:Int))=u+aR n.op n.b (j:Int):=IntWalk.i64_in _ aA;have d6:0<=u+aR n.op n.b (j:Int):=aA;have d7:u+aR n.op n.b (j:Int)+4*aY ks<=1000000000000:=aA;obtain⟨f9,h0,h3⟩:=aAF d6 d7 b3;have e9:∀W:World,ZY wr W->cJ R W [O S nd.op,O S nd.a,O S nd.b,a6,a4,a5] nd a7 ks:=fun W hW =>
     c2.keep fun b' a8=>⟨a8,fun o=>hW.cell (p:=⟨b',o,X⟩) (XT (hR b' a8) a1.size)⟩
    have e6:∀W:World,ZY wr W->∀b',R b'->b'<W.heap.size:=fun W hW b' a8=>XT (hR b' a8) (YE a1.size hW.size);have a2:∀W:World,ZY wr W->(W.cell? ⟨w.heap.size,0,X⟩=Z (O S n.op)/\W.cell? ⟨w.heap.size,1,X⟩=Z (O S n.a)/\W.cell? ⟨w.heap.size,2,X⟩=Z (O S n.b)/\W.cell? ⟨w.heap.size,3,X⟩=Z (Y (Z ⟨b,off,X⟩) nk ck) ∧
     W.cell? ⟨b,off+j*6,X⟩=Z (O S nd.op)/\W.cell? ⟨b,off+j*6+1,X⟩=Z (O S nd.a)/\W.cell? ⟨b,off+j*6+2,X⟩=Z (O S nd.b)/\W.cell? ⟨b,off+j*6+3,X⟩=Z a6/\W.cell? ⟨b,off+j*6+4,X⟩=Z a4/\W.cell? ⟨b,off+j*6+5,X⟩=Z a5):=fun W hW=>by
     have hB:∀o,W.cell? ⟨w.heap.size,o,X⟩=wr.cell? ⟨w.heap.size,o,X⟩:=fun o=>hW.cell (p:=⟨w.heap.size,o,X⟩) (show w.heap.size<wr.heap.size by omega);have hC:∀o,W.cell? ⟨b,o,X⟩=wr.cell? ⟨b,o,X⟩:=fun o=>hW.cell (p:=⟨b,o,X⟩) (XT j8 a1.size);rw[hB,hB,hB,hB,hC,hC,hC,hC,hC,hC];exact⟨s.cell 0,s.cell 1,s.cell 2,s.cell 3,g0,g1,g2,g3,g4,g5⟩
    have b0:=a2 wr (XS _ _);have i3:=aB e9;have h9:=aB e6;have b8:=aB a2;obtain⟨i0,hi,f2,f3,f4⟩:=info_parts Tryz.infoT;have h6:=aB hi;have i4:=aB f2;have i5:=aB f3;have i6:=aB f4;clear hi f2 f3 f4;clear d6 d7 l0 b3 e9 e6 a2 zc l5 l6 g0 g1 g2 g3 g4 g5;obtain⟨g0,g1,g2,g3,g4,g5,g6,g7,g8,g9⟩:=b0;go_wp2_with fail;refine wp_region_noPanic ?_;refine gF 18 (fun w'=>w'.cell? ⟨w.heap.size,0,X⟩=Z (O S n.op)/\w'.cell? ⟨w.heap.size,1,X⟩=Z (O S n.a)/\w'.cell? ⟨w.heap.size,2,X⟩=Z (O S n.b)/\w'.cell? ⟨w.heap.size,3,X⟩=Z (Y (Z ⟨b,off,X⟩) nk ck) ∧
     w'.cell? ⟨w.heap.size+1+1,3,X⟩=Z (Y A1 j k1) ∧
     w'.cell? ⟨b,off+j*6,X⟩=Z (O S nd.op)/\w'.cell? ⟨b,off+j*6+1,X⟩=Z (O S nd.a)/\w'.cell? ⟨b,off+j*6+2,X⟩=Z (O S nd.b)/\w'.cell? ⟨b,off+j*6+3,X⟩=Z a6/\w'.cell? ⟨b,off+j*6+4,X⟩=Z a4/\w'.cell? ⟨b,off+j*6+5,X⟩=Z a5) aF ⟨g0,g1,g2,g3,f8 3,g4,g5,g6,g7,g8,g9⟩ (fun m5=>?_)
    have e1:∀W:World,ZY wr W->W.cell? ⟨w.heap.size,0,X⟩=Z (O S n.op)/\W.cell? ⟨w.heap.size,1,X⟩=Z (O S n.a)/\W.cell? ⟨w.heap.size,2,X⟩=Z (O S n.b)/\W.cell? ⟨w.heap.size,3,X⟩=Z (Y (Z ⟨b,off,X⟩) nk ck) ∧
     W.cell? ⟨w.heap.size+1+1,3,X⟩=Z (Y A1 j k1) ∧
     W.cell? ⟨b,off+j*6,X⟩=Z (O S nd.op)/\W.cell? ⟨b,off+j*6+1,X⟩=Z (O S nd.a)/\W.cell? ⟨b,off+j*6+2,X⟩=Z (O S nd.b)/\W.cell? ⟨b,off+j*6+3,X⟩=Z a6/\W.cell? ⟨b,off+j*6+4,X⟩=Z a4/\W.cell? ⟨b,off+j*6+5,X⟩=Z a5:=fun W hW=>by
     obtain⟨k0,l4,k2,k3,k4,k5,k6,k7,k8,k9⟩:=b8.o W hW;exact⟨k0,l4,k2,k3,(aT.cell (aT.below a0 hW b7)) 3,k4,k5,k6,k7,k8,k9⟩
    have F:=aB e1;clear e1 f8;refine eD (i:=0) (v:=?_) rfl rfl aC aC aC aC (fun _ _ _ h=>h) (Or.inl ⟨by rfl,?_⟩) aI ?_;rotate_left
    . (intro w hSw;(try dsimp only at hSw);go_simp);all_goals with_reducible rfl
    try simp only[Act.put,List.setIfInBounds_toArray,List.set_cons_zero,List.set_cons_succ]
    refine eD (i:=1) (v:=?_) rfl rfl aC aC aC aC (fun _ _ _ h=>h) (Or.inl ⟨by rfl,?_⟩) aI ?_;rotate_left
    . (intro w hSw;(try dsimp only at hSw);go_simp);all_goals with_reducible rfl
    try simp only[Act.put,List.setIfInBounds_toArray,List.set_cons_zero,List.set_cons_succ]
    refine eD (i:=2) (v:=?_) rfl rfl aC aC aC aC (fun _ _ _ h=>h) (Or.inl ⟨by rfl,?_⟩) aI ?_;rotate_left
    . (intro w hSw;(try dsimp only at hSw);go_simp);all_goals with_reducible rfl
    try simp only[Act.put,List.setIfInBounds_toArray,List.set_cons_zero,List.set_cons_succ]
    refine eD (i:=3) (v:=?_) rfl rfl aC aC aC aC (fun _ _ _ h=>h) (Or.inl ⟨by rfl,?_⟩) aI ?_;rotate_left
    . (intro w hSw;(try dsimp only at hSw);go_simp);all_goals with_reducible rfl
    try simp only[Act.put,List.setIfInBounds_toArray,List.set_cons_zero,List.set_cons_succ]
    refine eD (i:=4) (v:=?_) rfl rfl aC aC aC aC (fun _ _ _ h=>h) (Or.inl ⟨by rfl,?_⟩) aI ?_;rotate_left
    . (intro w hSw;(try dsimp only at hSw);go_simp);all_goals with_reducible rfl
    try simp only[Act.put,List.setIfInBounds_toArray,List.set_cons_zero,List.set_cons_succ]
    refine eD (i:=5) (v:=?_) rfl rfl aC aC aC aC (fun _ _ _ h=>h) (Or.inl ⟨by rfl,?_⟩) aI ?_;rotate_left
    . (intro w hSw;(try dsimp only at hSw);go_simp);all_goals with_reducible rfl
    try simp only[Act.put,List.setIfInBounds_toArray,List.set_cons_zero,List.set_cons_succ]
    refine eD (i:=6) (v:=?_) rfl rfl aC aC aC aC (fun _ _ _ h=>h) (Or.inl ⟨by rfl,?_⟩) aI ?_;rotate_left
    . (intro w hSw;(try dsimp only at hSw);go_simp);all_goals with_reducible rfl
    try simp only[Act.put,List.setIfInBounds_toArray,List.set_cons_zero,List.set_cons_succ]
    refine eD (i:=7) (v:=?_) rfl rfl aC aC aC aC (fun _ _ _ h=>h) (Or.inl ⟨by rfl,?_⟩) aI ?_;rotate_left
    . (intro w hSw;(try dsimp only at hSw);go_simp);all_goals with_reducible rfl
    try simp only[Act.put,List.setIfInBounds_toArray,List.set_cons_zero,List.set_cons_succ]
    refine eD (i:=8) (v:=?_) rfl rfl aC aC aC aC (fun _ _ _ h=>h) (Or.inl ⟨by rfl,?_⟩) aI ?_;rotate_left
    . (intro w hSw;(try dsimp only at hSw);go_simp);all_goals with_reducible rfl
    try simp only[Act.put,List.setIfInBounds_toArray,List.set_cons_zero,List.set_cons_succ]
    refine eD (i:=9) (v:=?_) rfl rfl aC aC aC aC (fun _ _ _ h=>h) (Or.inl ⟨by rfl,?_⟩) aI ?_;rotate_left
    . (intro w hSw;(try dsimp only at hSw);go_simp);all_goals with_reducible rfl
    try simp only[Act.put,List.setIfInBounds_toArray,List.set_cons_zero,List.set_cons_succ]
    refine eD (i:=10) (v:=?_) rfl rfl aC aC aC aC (fun _ _ _ h=>h) (Or.inl ⟨by rfl,?_⟩) aI ?_;rotate_left
    . (intro w hSw;(try dsimp only at hSw);go_simp);all_goals with_reducible rfl
    try simp only[Act.put,List.setIfInBounds_toArray,List.set_cons_zero,List.set_cons_succ]
    refine eD (i:=11) (v:=?_) rfl rfl aC aC aC aC (fun _ _ _ h=>h) (Or.inl ⟨by rfl,?_⟩) aI ?_;rotate_left
    . (intro w hSw;(try dsimp only at hSw);go_simp);all_goals with_reducible rfl
    try simp only[Act.put,List.setIfInBounds_toArray,List.set_cons_zero,List.set_cons_succ]
    refine bV (i:=12) aC rfl rfl (fun m0 d0=>?_);go_simp;go_at_call 125
    refine (kK _ _ _ _ _ aA).mono ?_;rintro e w2 ⟨rfl,rfl⟩;go_wp2_with fail;have j2:=F.o (wr.alloc (.cells #[O S n.op,O S n.a,O S n.b] 46)).drew (((XS _ _).alloc (XU _) _).drew);refine d0.o _ _ (fun _=>j2) ?_;refine eD (i:=13) (v:=?_) rfl rfl aC aC aC aC (fun _ _ _ h=>h) (Or.inl ⟨by rfl,?_⟩) aI ?_;rotate_left
    . (intro w hSw;(try dsimp only at hSw);go_simp);all_goals with_reducible rfl
    try simp only[Act.put,List.setIfInBounds_toArray,List.set_cons_zero,List.set_cons_succ]
    refine bV (i:=14) aC rfl rfl (fun m1 d1=>?_);go_simp;go_at_call 83
    refine (HI.o _ R [O S nd.op,O S nd.a,O S nd.b,a6,a4,a5] nd a7 ks up _ (h9.o _ (((XS _ _).alloc (XU _) _).drew)) (i3.o _ (((XS _ _).alloc (XU _) _).drew)) e4 b9 f0 f1 f9.o h0.o h3.o).mono ?_;rintro e w3 ⟨j7,ys,rfl,e8⟩;have i2:=aB e8;obtain⟨n2,n0,n1,rfl,⟨A3,n3,c3,rfl,l1⟩,⟨A4,n4,c4,rfl,j0⟩,⟨A5,n5,c5,rfl,j1⟩⟩:=e8;clear l1 j0 j1;have D:ZY wr w3:=mO (((XS _ _).alloc (XU _) _).drew) j7 (XU _);go_wp2_with fail;have j3:=F.o _ D;refine d1.o _ _ (fun _=>j3) ?_;refine bV (i:=15) aC rfl rfl (fun m2 d2=>?_);go_simp;have j4:=F.o _ (D.alloc D.size (.cells #[O S (lE up nd (u+aR n.op n.b (j:Int))).op,O S (lE up nd (u+aR n.op n.b (j:Int))).a,O S (lE up nd (u+aR n.op n.b (j:Int))).b,Y A3 n3 c3,Y A4 n4 c4,Y A5 n5 c5] 85));refine d2.o _ _ (fun _=>j4) ?_;refine bV (i:=16) aC rfl rfl (fun m3 d3=>?_);refine fY (.tmp 42) (.tmp 56) 83 rfl (w.heap.size+3) i0 _ Tryz.underlying83 h6.o i4.o i5.o i6.o rfl (Y A1 j k1) j b2 [O S (lE up nd (u+aR n.op n.b (j:Int))).op,O S (lE up nd (u+aR n.op n.b (j:Int))).a,O S (lE up nd (u+aR n.op n.b (j:Int))).b,Y A3 n3 c3,Y A4 n4 c4,Y A5 n5 c5] rfl (F8 _ _ _ (A3,n3,c3) (A4,n4,c4) (A5,n5,c5)) w3 rfl rfl (bI U.o D) _ rfl rfl aA (by have:=D.size;omega) ?_;intro A' c' w' I;have zb:=aT.grown (aT.below a0 D b7) I.grown (eF (bI U.o D) (YL _));have zc:=zb.cell;have zf:=zb.frozen;have G:∀g,g<w.heap.size+3->∀o,w'.cell? ⟨g,o,X⟩=w3.cell? ⟨g,o,X⟩:=fun g hg o=>World.cell?_of_block (I.grown.block g (by have:=D.size;omega) (eF (bI U.o D) hg));have d8:∀g o,g≠w.heap.size+1+1->(w'.setCell ⟨w.heap.size+1+1,3,X⟩ (Y A' (j+1) c')).cell? ⟨g,o,X⟩=w'.cell? ⟨g,o,X⟩:=fun g o hg=>World.cell?_setCell_other _ _ _ _ (fun hh=>by injection hh with hh;exact hg hh.symm);have j5:w'.cell? ⟨w.heap.size,0,X⟩=Z (O S n.op)/\w'.cell? ⟨w.heap.size,1,X⟩=Z (O S n.a)/\w'.cell? ⟨w.heap.size,2,X⟩=Z (O S n.b)/\w'.cell? ⟨w.heap.size,3,X⟩=Z (Y (Z ⟨b,off,X⟩) nk ck) ∧
     w'.cell? ⟨w.heap.size+1+1,3,X⟩=Z (Y A1 j k1) ∧
     w'.cell? ⟨b,off+j*6,X⟩=Z (O S nd.op)/\w'.cell? ⟨b,off+j*6+1,X⟩=Z (O S nd.a)/\w'.cell? ⟨b,off+j*6+2,X⟩=Z (O S nd.b)/\w'.cell? ⟨b,off+j*6+3,X⟩=Z a6/\w'.cell? ⟨b,off+j*6+4,X⟩=Z a4/\w'.cell? ⟨b,off+j*6+5,X⟩=Z a5:=⟨(G _ aA _).trans (F.o _ D).1,(G _ aA _).trans (F.o _ D).2.1,(G _ aA _).trans (F.o _ D).2.2.1,(G _ aA _).trans (F.o _ D).2.2.2.1,(G _ aA _).trans (F.o _ D).2.2.2.2.1,(G _ aA _).trans (F.o _ D).2.2.2.2.2.1,(G _ aA _).trans (F.o _ D).2.2.2.2.2.2.1,(G _ aA _).trans (F.o _ D).2.2.2.2.2.2.2.1,(G _ aA _).trans (F.o _ D).2.2.2.2.2.2.2.2.1,(G _ aA _).trans (F.o _ D).2.2.2.2.2.2.2.2.2.1,(G _ aA _).trans (F.o _ D).2.2.2.2.2.2.2.2.2.2⟩
    refine d3.o _ _ (fun _=>j5) ?_;try simp only[Act.put,List.setIfInBounds_toArray,List.set_cons_zero,List.set_cons_succ]
    refine eD (i:=17) (v:=?_) rfl rfl aC aC aC aC (fun _ _ _ h=>h) (Or.inl ⟨by rfl,?_⟩) aI ?_;rotate_left
    . (intro w hSw;(try dsimp only at hSw);go_simp);all_goals with_reducible rfl
    try simp only[Act.put,List.setIfInBounds_toArray,List.set_cons_zero,List.set_cons_succ]
    refine bV (i:=18) aC rfl rfl (fun m4 d4=>?_);go_simp;refine d4.o _ _ (fun h=>absurd rfl h) ?_;refine gW aC (NoPanic.normal ?_) _;all_goals
     have l3:w.heap.size<=w3.heap.size:=by have:=D.size;omega
     have a3:=bI U.o D;have c1:∀g,g<w.heap.size+3->w.heap.size<=g->True:=fun _ _ _=>trivial;have d9:ZY w (w'.setCell ⟨w.heap.size+1+1,3,X⟩ (Y A' (j+1) c')):=((a1.trans (D.mono a1.size)).grown I.grown l3 (fun g hg=>by have:=(aS a3 hg).1;omega)).setCell (p:=⟨w.heap.size+1+1,3,X⟩) (show w.heap.size<=w.heap.size+1+1 by omega) _;have f5:=aT.far (aT.grown (aT.below s D aA) I.grown (eF a3 (show w.heap.size<w.heap.size+3 by omega))) (p:=⟨w.heap.size+1+1,3,X⟩) (show w.heap.size≠w.heap.size+1+1 by omega) (Y A' (j+1) c');have f6:=aT.far (aT.grown (aT.below z D aA) I.grown (eF a3 (show w.heap.size+1<w.heap.size+3 by omega))) (p:=⟨w.heap.size+1+1,3,X⟩) (show w.heap.size+1≠w.heap.size+1+1 by omega) (Y A' (j+1) c');have f7:=zb.set_ 3 (Y A' (j+1) c');have e3:=ownsRow_setCell_below I.own (a:=⟨w.heap.size+1+1,3,X⟩) (show w.heap.size+1+1<w.heap.size+3 by omega) (Y A' (j+1) c');have a9:=zV (B0:=w.heap.size) (B:=w.heap.size+3) c7.o i2.o (((XS _ _).alloc (XU _) _).drew).size D aA hR aA U.o (XS _ _) I (wf:=w'.setCell ⟨w.heap.size+1+1,3,X⟩ (Y A' (j+1) c')) (pre:=pre) (fun g hg o=>d8 g o aA) (by simp[World.setCell]);have h4:=aB d9;have i7:=aB f5;have i8:=aB f6;have i9:=aB f7;have h7:=aB e3;have h5:=aB a9;clear d9 f5 f6 f7 e3 a9 c1 G d8 zc zf;go_wp2_with fail;go_roundw
     case rel =>
      refine⟨F1.app (.cons pre nd a7 ks .nil),F2,j+1,A',c',_,by rw[HK.o,cV];rfl,by rw[bN];simp[bE,HJ.o],by go_num,h4.o,i7.o,i8.o,i9.o,h7.o,?_⟩;rw[LB,HJ.o,YH,mG];exact h5.o
     case measure=>simp[intOf];omega
theorem xO:∀(m:Nat)(w:aAB)(R:Nat->Prop)(D:List Value)(n:Nd)(atoms:List Nd)(kids:Fo)(up u:Int),(∀b,R b->b<w.heap.size)->cJ R w D n atoms kids->eW n=true->dI kids->0<=up->up<=1000000000000->0<=u->u+4*aY kids<=1000000000000->aY kids<m →
      Calls Tryz.prog 83 #[.agg D.toArray,O S up,O S u] w (fF R w (lE up n u) (s9 n atoms u) (tA up n kids u))
 | 0,_,_,_,_,_,_,_,_,_,_,_,_,_,_,_,_,h=>absurd h aA
 | m+1,w,R,D,n,atoms,kids,up,u,F,G,I,U,o,s,z,h8,h9=>FO m (xO m) w R D n atoms kids up u F G I U o s z h8 aA
theorem xP{R:Nat->Prop}{U:List Value}{n:Nd}{atoms:List Nd}{kids:Fo}{up u:Int}(hR:∀b,R b->b<w.heap.size)(ht:cJ R w U n atoms kids)(I:eW n=true)(D:dI kids)(F:0<=up)(G:up<=1000000000000)(h:0<=u)(o:u+4*aY kids<=1000000000000):
 Calls Tryz.prog 83 #[.agg U.toArray,O S up,O S u] w (fF R w (lE up n u) (s9 n atoms u) (tA up n kids u)) :=
 xO (aY kids+1) w R U n atoms kids up u hR ht I D F G h o (YL _)
end Go.Proofs.YtjoddliplahgkaaGreat
