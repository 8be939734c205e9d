/- Raise of the reference: the free variables of a tree from one on are made higher. -/
import Derived.Test.YtjllmblbbgojbaaGreatProg
import Derived.Test.YtjllmblbbgojbaaGreatWBase
import Derived.Test.YtjllmblbbgojbaaGreatWKidss
import Derived.Test.YtjllmblbbgojbaaGreatWLeafs
import Derived.Test.YtjllmblbbgojbaaGreatWReads
import Derived.WalkKit
import Derived.WalkLawsBesides
import Derived.WalkSpells
import Derived.Lib.Hide
import Derived.Deep.RegionHeld3
namespace Go.Proofs.YtjllmblbbgojbaaGreat
open Go.Value renaming int → O, slice → Y
open Go.IntKind renaming i64 → S
open Option renaming none → X, some → Z
open Go.Lib (hid)
open Go.RowKit
theorem mH {w:World} {g:Nat} {c0 c1 c2 c3 c4 c5:Value} {tmps:Array Value} (h:aD w g 49 #[c0,c1,c2,c3,c4,c5]) (ht:tmps.getD 6 undef=.pointer (Z ⟨g,0,X⟩)) :
 (results Tryz.f110 tmps).run Tryz.prog w=.ok (.agg #[c0,c1,c2,c3,c4,c5]) w:=by
 have hc:=h.cell;have ht':tmps[6]?.getD undef=.pointer (Z ⟨g,0,X⟩):=by rw [<-ht];simp
 simp [results,Tryz.results110,go_sem,ht',hc]
theorem aD.cast {w:World} {g g':Nat} {t:TypeId} {cs:Array Value} (e:g=g') (h:aD w g t cs):aD w g' t cs:=e ▸ h
theorem iE (w:World) (g:Nat) (a b c d x y:Value):((((((w.setCell ⟨g,0,X⟩ a).setCell ⟨g,1,X⟩ b).setCell ⟨g,2,X⟩ c).setCell ⟨g,3,X⟩ d).setCell ⟨g,4,X⟩ x).setCell ⟨g,5,X⟩ y).heap.size=w.heap.size:=by
 simp [World.setCell]
theorem IL {R:Nat->Prop} {w wr:World} {n:Nd} {ats:List Nd} {G:Fo} {A1:Option Addr} {j k1:Nat} {x y:Value} {xs:List Value} (hR:∀ b,R b->b<w.heap.size) (hbw:Below w.heap.size w wr)
 (hown:wr.ownsRow (w.heap.size+3) 49 6 (Y A1 j k1) j xs) (hj:aT G=j) (hfc:iG (lE R (w.heap.size+3) wr (Y A1 j k1)) wr G xs) (hx:fK R w x ats) (hy:fK R w y (bO G)) :
 eK R w n ats G (.returned (.agg #[O S n.op,O S n.a,O S n.b,Y A1 j k1,x,y])) ((((((wr.setCell ⟨w.heap.size+1,0,X⟩ (O S n.op)).setCell ⟨w.heap.size+1,1,X⟩ (O S n.a)).setCell ⟨w.heap.size+1,2,X⟩ (O S n.b)).setCell ⟨w.heap.size+1,3,X⟩ (Y A1 j k1)).setCell ⟨w.heap.size+1,4,X⟩ x).setCell ⟨w.heap.size+1,5,X⟩ y):=by
 have hw6:=iE wr (w.heap.size+1) (O S n.op) (O S n.a) (O S n.b) (Y A1 j k1) x y;have hb6:=dL hbw (Nat.le_succ w.heap.size) (O S n.op) (O S n.a) (O S n.b) (Y A1 j k1) x y;have hO:=qL hown (show w.heap.size+1<w.heap.size+3 by omega) (O S n.op) (O S n.a) (O S n.b) (Y A1 j k1) x y;refine ⟨hb6,_,rfl,_,_,_,rfl,?_,?_,?_⟩
 · refine eZ (by rw [hj];exact hO) (iG.keep ?_ _ _ hfc) ?_
   · rintro b ⟨hb1,_⟩;have hne:b ≠ w.heap.size+1:=by
      rcases hb1 with h | h
      · have:=hR b h;omega
      omega
     refine ⟨?_,fun o=>nG wr hne _ _ _ _ _ _ o⟩;rcases hb1 with h | h
     · exact .inl h
     exact .inr ⟨by omega,by rw [hw6];exact h.2⟩
   intro b hb;have h3:=aE hown hb;exact .inr ⟨by omega,by rw [hw6];exact h3.2.1⟩
 · exact hx.keep fun b hb=>⟨.inl hb,fun o=>hb6.cell (p:=⟨b,o,X⟩) (hR b hb)⟩
 exact hy.keep fun b hb=>⟨.inl hb,fun o=>hb6.cell (p:=⟨b,o,X⟩) (hR b hb)⟩
theorem z9 (a b c:Int) (x y z:Option Addr×Nat×Nat) : ∀ u ∈ [Value.int .i64 a,O S b,O S c,Y x.1 x.2.1 x.2.2,Y y.1 y.2.1 y.2.2,Y z.1 z.2.1 z.2.2],u.oneCell'=true:=by
 intro u hu;simp at hu;rcases hu with rfl | rfl | rfl | rfl | rfl | rfl<;>rfl
theorem vC {R:Nat->Prop} {w:World} (a:Int):bP R w [O S 1,O S a,O S 0,Y X 0 0,Y X 0 0,Y X 0 0] ⟨1,a,0⟩ [] .nil :=
 ⟨_,_,_,rfl,⟨X,0,0,rfl,rfl,Nat.le_refl _,fun h=>absurd h aA⟩,fK.nil R w,fK.nil R w⟩
set_option linter.unusedSimpArgs false in
set_option maxRecDepth 100000 in
set_option maxHeartbeats 8000000 in
theorem zN (m:Nat) (ih:∀ (w:World) (R:Nat->Prop) (xs:List Value) (n:Nd) (atoms:List Nd) (kids:Fo) (up u:Int),(∀ b,R b->b<w.heap.size)->bP R w xs n atoms kids->dG n=true->cL kids->0<=up->up<=1000000000000->0<=u->u+4*aL kids<=1000000000000->aL kids<m →
      Calls Tryz.prog 110 #[.agg xs.toArray,O S up,O S u] w (eK R w (jB up n u) (pE n atoms u) (pF up n kids u)))
 (w:World) (R:Nat->Prop) (xs:List Value) (n:Nd) (atoms:List Nd) (kids:Fo) (up u:Int) (hR:∀ b,R b->b<w.heap.size) (ht:bP R w xs n atoms kids) (hok:dG n=true) (hall:cL kids) (hup0:0<=up) (hup1:up<=1000000000000) (hu0:0<=u) (hu1:u+4*aL kids<=1000000000000) (hsz:aL kids<=m) :
 Calls Tryz.prog 110 #[.agg xs.toArray,O S up,O S u] w (eK R w (jB up n u) (pE n atoms u) (pF up n kids u)):=by
 have HI:=hid ih;clear ih;obtain ⟨sk,sa,sf,rfl,⟨Ak,nk,ck,rfl,hkk⟩,⟨Aa,na,ca,rfl,haa⟩,⟨Af,nf,cf,rfl,hff⟩⟩:=ht;have hna:=(eN ((by simp only [dG,Bool.and_eq_true] at hok;exact hok.1.1):bD n.op n.a n.b=true));by_cases h1:n.op=1/\u<=n.a
 · have H1:=hid h1;obtain ⟨h1,h2⟩:=h1;have h1b:(n.op==1)=true:=by simp [h1]
   have hu2:u<=1000000000000:=aA;clear h1 hu1;obtain ⟨hna1,hna2⟩:=hna;go_in;go_wp2_with fail
   refine bodyPost_ret (v:=.agg #[O S 1,O S (n.a+up),O S 0,Y X 0 0,Y X 0 0,Y X 0 0]) (mH (aD.new _ _ _) (by simp)) rfl ?_;refine ⟨aS w _ _,_,rfl,?_⟩;rw [jB,pE,pF,if_pos H1.o,if_pos H1.o,if_pos H1.o];exact vC _
 have H1:Hid (¬ (n.op=1/\u<=n.a)):=h1;have hor:((n.op==1)=false)\/((n.op==1)=true/\decide (u<=n.a)=false):=by
  by_cases h:n.op=1
  · exact .inr ⟨by simp [h],by simp;have:=fun h2=>h1 ⟨h,h2⟩;omega⟩
  exact .inl (by simp [h])
 have HU:=hid hu1;have HSZ:=hid hsz;have HKL:=hid hkk.len;have HOK:=hid hok;have hnk:nk<=1000000000000:=by
  have h1:=eH kids;have h2:=hkk.len;omega
 clear h1 hu1 hsz hok hna;rcases hor with h1b | ⟨h1b,h2b⟩;all_goals
  go_in;go_wp2_with fail
  go_loopw [8] (fun i wr=>∃ (F1 F2:Fo) (j:Nat) (A1:Option Addr) (k1:Nat) (xs1:List Value),kids=F1.app F2/\aT F1=j/\i=O S (j:Int)/\Below w.heap.size w wr ∧
   aD wr w.heap.size 49 #[O S n.op,O S n.a,O S n.b,Y Ak nk ck,Y Aa na ca,Y Af nf cf] ∧
   aD wr (w.heap.size+1) 49 #[O S 0,O S 0,O S 0,Y X 0 0,Y X 0 0,Y X 0 0] ∧
   aD wr (w.heap.size+1+1) 49 #[O S n.op,O S n.a,O S n.b,Y A1 j k1,Y Aa na ca,Y Af nf cf] ∧
   wr.ownsRow (w.heap.size+3) 49 6 (Y A1 j k1) j xs1/\iG (lE R (w.heap.size+3) wr (Y A1 j k1)) wr (DX n.op n.b up 0 u F1) xs1) (fun i _=>nk-(intOf i).toNat)
  case atStart =>
   refine ⟨.nil,kids,0,X,0,[],rfl,rfl,rfl,(aS w _ _).alloc (by simp<;>omega) _,((aD.new _ _ _).alloc _).alloc _,?_,?_,World.ownsRow_nil _ _ _ _,rfl⟩
   · exact aD.cast (by simp) ((aD.new _ _ _).alloc _)
   exact aD.cast (by simp) (aD.new _ _ _)
  case round =>
   obtain ⟨F1,F2,j,A1,k1,xs1,hk,hj,rfl,hbw,hblk,hblk1,hblk2,hown,hfc⟩:=hrel;have HK:=hid hk;have HJ:=hid hj;have HOWN:=hid hown;have HFC:=hid hfc;have hkkr:=hkk.keep (R':=R) (w':=wr) (fun b hb=>⟨hb,fun o=>hbw.cell (p:=⟨b,o,X⟩) (hR b hb)⟩);have zc:=aD.cell hblk;have zc1:=aD.cell hblk1;have zf1:=aD.frozen hblk1;have zc2:=aD.cell hblk2;have zf2:=aD.frozen hblk2;have hszb:w.heap.size+1+1<wr.heap.size:=aD.lt hblk2;cases F2 with
   | nil =>
    have hjn:j=nk:=by rw [<-HKL.o,hk,bB,hj];rfl
    have hjn2:¬ j<nk:=aA;clear hk hj hjn;go_wp2_with fail
    have hsrc:kids=F1:=by rw [HK.o,iH]
    refine bodyPost_ret (v:=.agg #[O S n.op,O S n.a,O S n.b,Y A1 j k1,Y Aa na ca,Y Af nf cf]) (mH ((((((hblk1.set_ 0 _).set_ 1 _).set_ 2 _).set_ 3 _).set_ 4 _).set_ 5 _) (by simp)) rfl ?_;rw [jB,pE,pF,if_neg H1.o,if_neg H1.o,if_neg H1.o,hsrc];exact IL hR hbw HOWN.o (by rw [yF,HJ.o]) HFC.o ⟨_,_,_,rfl,haa⟩ (by rw [uK,<-hsrc];exact ⟨_,_,_,rfl,hff⟩)
   | cons pre nd ats ks F2 =>
    have hjn:j<nk:=by rw [<-HKL.o,hk,bB,hj];simp [aT]
    have hkk2:dR R wr Ak nk ck (F1.app (.cons pre nd ats ks F2)):=by rw [<-hk];exact hkkr
    obtain ⟨b,off,sk',sa',sf',rfl,hrb,htree,g0,g1,g2,g3,g4,g5⟩:=hkk2.at_;rw [hj] at g0 g1 g2 g3 g4 g5;obtain ⟨_,hok2,hall2,_⟩:=(cL.app F1 _).1 (hk ▸ hall);have hbb:b<w.heap.size:=hR b hrb;clear hk hj hkk2 hkkr;obtain ⟨ha1,ha2⟩:=cV HOK.o (j:Int);have hfs:u+4*(aL F1+(aL ks+aL F2+1))<=1000000000000:=by
     have:=HU.o;rw [HK.o,cR] at this;simp only [aL] at this;omega
    have hfs2:aL ks<m:=by
     have:=HSZ.o;rw [HK.o,cR] at this;simp only [aL] at this;omega
    have hw:IntKind.i64.wrap (u+aC n.op n.b (j:Int))=u+aC n.op n.b (j:Int):=IntWalk.i64_in _ aA;have hb1:0<=u+aC n.op n.b (j:Int):=aA;have hb2:u+aC n.op n.b (j:Int)+4*aL ks<=1000000000000:=aA;have HB1:=hid hb1;have HB2:=hid hb2;have HB3:=hid hfs2;have htr:∀ W:World,Below wr.heap.size wr W->bP R W [O S nd.op,O S nd.a,O S nd.b,sk',sa',sf'] nd ats ks:=fun W hW =>
     htree.keep fun b' hb'=>⟨hb',fun o=>hW.cell (p:=⟨b',o,X⟩) (Nat.lt_of_lt_of_le (hR b' hb') hbw.size)⟩
    have hrl:∀ W:World,Below wr.heap.size wr W->∀ b',R b'->b'<W.heap.size:=fun W hW b' hb'=>Nat.lt_of_lt_of_le (hR b' hb') (Nat.le_trans hbw.size hW.size);have hkeep:∀ W:World,Below wr.heap.size wr W->(W.cell? ⟨w.heap.size,0,X⟩=Z (O S n.op)/\W.cell? ⟨w.heap.size,1,X⟩=Z (O S n.a)/\W.cell? ⟨w.heap.size,2,X⟩=Z (O S n.b)/\W.cell? ⟨w.heap.size,3,X⟩=Z (Y (Z ⟨b,off,X⟩) nk ck) ∧
     W.cell? ⟨b,off+j*6,X⟩=Z (O S nd.op)/\W.cell? ⟨b,off+j*6+1,X⟩=Z (O S nd.a)/\W.cell? ⟨b,off+j*6+2,X⟩=Z (O S nd.b)/\W.cell? ⟨b,off+j*6+3,X⟩=Z sk'/\W.cell? ⟨b,off+j*6+4,X⟩=Z sa'/\W.cell? ⟨b,off+j*6+5,X⟩=Z sf'):=fun W hW=>by
     have hB:∀ o,W.cell? ⟨w.heap.size,o,X⟩=wr.cell? ⟨w.heap.size,o,X⟩:=fun o=>hW.cell (p:=⟨w.heap.size,o,X⟩) (show w.heap.size<wr.heap.size by omega);have hC:∀ o,W.cell? ⟨b,o,X⟩=wr.cell? ⟨b,o,X⟩:=fun o=>hW.cell (p:=⟨b,o,X⟩) (Nat.lt_of_lt_of_le hbb hbw.size);rw [hB,hB,hB,hB,hC,hC,hC,hC,hC,hC];exact ⟨hblk.cell 0,hblk.cell 1,hblk.cell 2,hblk.cell 3,g0,g1,g2,g3,g4,g5⟩
    have hfirst:=hkeep wr (Below.refl _ _);have HTR:=hid htr;have HRL:=hid hrl;have HKEEP:=hid hkeep;obtain ⟨i0,hi,hy0,hy1,hy2⟩:=info_parts Tryz.infoT;have HI0:=hid hi;have HY0:=hid hy0;have HY1:=hid hy1;have HY2:=hid hy2;clear hi hy0 hy1 hy2;clear hb1 hb2 hfs hfs2 htr hrl hkeep zc zc1 zf1 zf2 g0 g1 g2 g3 g4 g5;obtain ⟨g0,g1,g2,g3,g4,g5,g6,g7,g8,g9⟩:=hfirst;have zc2a:=fun o=>aD.cell (hblk2.alloc o);go_wp2_with fail
    refine wp_region_noPanic ?_;refine cF 18 (fun w'=>w'.cell? ⟨w.heap.size,0,X⟩=Z (O S n.op)/\w'.cell? ⟨w.heap.size,1,X⟩=Z (O S n.a)/\w'.cell? ⟨w.heap.size,2,X⟩=Z (O S n.b)/\w'.cell? ⟨w.heap.size,3,X⟩=Z (Y (Z ⟨b,off,X⟩) nk ck) ∧
     w'.cell? ⟨w.heap.size+1+1,3,X⟩=Z (Y A1 j k1) ∧
     w'.cell? ⟨b,off+j*6,X⟩=Z (O S nd.op)/\w'.cell? ⟨b,off+j*6+1,X⟩=Z (O S nd.a)/\w'.cell? ⟨b,off+j*6+2,X⟩=Z (O S nd.b)/\w'.cell? ⟨b,off+j*6+3,X⟩=Z sk'/\w'.cell? ⟨b,off+j*6+4,X⟩=Z sa'/\w'.cell? ⟨b,off+j*6+5,X⟩=Z sf') (by rfl) ⟨g0,g1,g2,g3,zc2 3,g4,g5,g6,g7,g8,g9⟩ (fun hS0 => ?_)
    have hkp:∀ W:World,Below wr.heap.size wr W->W.cell? ⟨w.heap.size,0,X⟩=Z (O S n.op)/\W.cell? ⟨w.heap.size,1,X⟩=Z (O S n.a)/\W.cell? ⟨w.heap.size,2,X⟩=Z (O S n.b)/\W.cell? ⟨w.heap.size,3,X⟩=Z (Y (Z ⟨b,off,X⟩) nk ck) ∧
     W.cell? ⟨w.heap.size+1+1,3,X⟩=Z (Y A1 j k1) ∧
     W.cell? ⟨b,off+j*6,X⟩=Z (O S nd.op)/\W.cell? ⟨b,off+j*6+1,X⟩=Z (O S nd.a)/\W.cell? ⟨b,off+j*6+2,X⟩=Z (O S nd.b)/\W.cell? ⟨b,off+j*6+3,X⟩=Z sk'/\W.cell? ⟨b,off+j*6+4,X⟩=Z sa'/\W.cell? ⟨b,off+j*6+5,X⟩=Z sf':=fun W hW=>by
     obtain ⟨k0,k1',k2,k3,k4,k5,k6,k7,k8,k9⟩:=HKEEP.o W hW;exact ⟨k0,k1',k2,k3,(aD.cell (aD.below hblk2 hW hszb)) 3,k4,k5,k6,k7,k8,k9⟩
    have HKP:=hid hkp;clear hkp zc2 zc2a;refine cY (i:=0) (v := ?_) rfl rfl (by kernel_rfl) (by kernel_rfl) (by kernel_rfl) (by kernel_rfl) (fun _ _ _ h=>h) (Or.inl ⟨by rfl,?_⟩) (by assumption) ?_;rotate_left
    · (intro w hSw;(try dsimp only at hSw);go_simp);all_goals with_reducible rfl
    try simp only [Act.put,List.setIfInBounds_toArray,List.set_cons_zero,List.set_cons_succ]
    refine cY (i:=1) (v := ?_) rfl rfl (by kernel_rfl) (by kernel_rfl) (by kernel_rfl) (by kernel_rfl) (fun _ _ _ h=>h) (Or.inl ⟨by rfl,?_⟩) (by assumption) ?_;rotate_left
    · (intro w hSw;(try dsimp only at hSw);go_simp);all_goals with_reducible rfl
    try simp only [Act.put,List.setIfInBounds_toArray,List.set_cons_zero,List.set_cons_succ]
    refine cY (i:=2) (v := ?_) rfl rfl (by kernel_rfl) (by kernel_rfl) (by kernel_rfl) (by kernel_rfl) (fun _ _ _ h=>h) (Or.inl ⟨by rfl,?_⟩) (by assumption) ?_;rotate_left
    · (intro w hSw;(try dsimp only at hSw);go_simp);all_goals with_reducible rfl
    try simp only [Act.put,List.setIfInBounds_toArray,List.set_cons_zero,List.set_cons_succ]
    refine cY (i:=3) (v := ?_) rfl rfl (by kernel_rfl) (by kernel_rfl) (by kernel_rfl) (by kernel_rfl) (fun _ _ _ h=>h) (Or.inl ⟨by rfl,?_⟩) (by assumption) ?_;rotate_left
    · (intro w hSw;(try dsimp only at hSw);go_simp);all_goals with_reducible rfl
    try simp only [Act.put,List.setIfInBounds_toArray,List.set_cons_zero,List.set_cons_succ]
    refine cY (i:=4) (v := ?_) rfl rfl (by kernel_rfl) (by kernel_rfl) (by kernel_rfl) (by kernel_rfl) (fun _ _ _ h=>h) (Or.inl ⟨by rfl,?_⟩) (by assumption) ?_;rotate_left
    · (intro w hSw;(try dsimp only at hSw);go_simp);all_goals with_reducible rfl
    try simp only [Act.put,List.setIfInBounds_toArray,List.set_cons_zero,List.set_cons_succ]
    refine cY (i:=5) (v := ?_) rfl rfl (by kernel_rfl) (by kernel_rfl) (by kernel_rfl) (by kernel_rfl) (fun _ _ _ h=>h) (Or.inl ⟨by rfl,?_⟩) (by assumption) ?_;rotate_left
    · (intro w hSw;(try dsimp only at hSw);go_simp);all_goals with_reducible rfl
    try simp only [Act.put,List.setIfInBounds_toArray,List.set_cons_zero,List.set_cons_succ]
    refine cY (i:=6) (v := ?_) rfl rfl (by kernel_rfl) (by kernel_rfl) (by kernel_rfl) (by kernel_rfl) (fun _ _ _ h=>h) (Or.inl ⟨by rfl,?_⟩) (by assumption) ?_;rotate_left
    · (intro w hSw;(try dsimp only at hSw);go_simp);all_goals with_reducible rfl
    try simp only [Act.put,List.setIfInBounds_toArray,List.set_cons_zero,List.set_cons_succ]
    refine cY (i:=7) (v := ?_) rfl rfl (by kernel_rfl) (by kernel_rfl) (by kernel_rfl) (by kernel_rfl) (fun _ _ _ h=>h) (Or.inl ⟨by rfl,?_⟩) (by assumption) ?_;rotate_left
    · (intro w hSw;(try dsimp only at hSw);go_simp);all_goals with_reducible rfl
    try simp only [Act.put,List.setIfInBounds_toArray,List.set_cons_zero,List.set_cons_succ]
    refine cY (i:=8) (v := ?_) rfl rfl (by kernel_rfl) (by kernel_rfl) (by kernel_rfl) (by kernel_rfl) (fun _ _ _ h=>h) (Or.inl ⟨by rfl,?_⟩) (by assumption) ?_;rotate_left
    · (intro w hSw;(try dsimp only at hSw);go_simp);all_goals with_reducible rfl
    try simp only [Act.put,List.setIfInBounds_toArray,List.set_cons_zero,List.set_cons_succ]
    refine cY (i:=9) (v := ?_) rfl rfl (by kernel_rfl) (by kernel_rfl) (by kernel_rfl) (by kernel_rfl) (fun _ _ _ h=>h) (Or.inl ⟨by rfl,?_⟩) (by assumption) ?_;rotate_left
    · (intro w hSw;(try dsimp only at hSw);go_simp);all_goals with_reducible rfl
    try simp only [Act.put,List.setIfInBounds_toArray,List.set_cons_zero,List.set_cons_succ]
    refine cY (i:=10) (v := ?_) rfl rfl (by kernel_rfl) (by kernel_rfl) (by kernel_rfl) (by kernel_rfl) (fun _ _ _ h=>h) (Or.inl ⟨by rfl,?_⟩) (by assumption) ?_;rotate_left
    · (intro w hSw;(try dsimp only at hSw);go_simp);all_goals with_reducible rfl
    try simp only [Act.put,List.setIfInBounds_toArray,List.set_cons_zero,List.set_cons_succ]
    refine cY (i:=11) (v := ?_) rfl rfl (by kernel_rfl) (by kernel_rfl) (by kernel_rfl) (by kernel_rfl) (fun _ _ _ h=>h) (Or.inl ⟨by rfl,?_⟩) (by assumption) ?_;rotate_left
    · (intro w hSw;(try dsimp only at hSw);go_simp);all_goals with_reducible rfl
    try simp only [Act.put,List.setIfInBounds_toArray,List.set_cons_zero,List.set_cons_succ]
    refine aO (i:=12) (by kernel_rfl) rfl rfl (fun K12 hK12 => ?_);go_simp;go_at_call 112
    refine (iR _ _ _ _ _ aA).mono ?_;rintro e w2 ⟨rfl,rfl⟩;go_wp2_with fail
    have hS1:=HKP.o (wr.alloc (.cells #[O S n.op,O S n.a,O S n.b] 40)).drew (((Below.refl _ _).alloc (Nat.le_refl _) _).drew);refine hK12.o _ _ (fun _=>hS1) ?_;refine cY (i:=13) (v := ?_) rfl rfl (by kernel_rfl) (by kernel_rfl) (by kernel_rfl) (by kernel_rfl) (fun _ _ _ h=>h) (Or.inl ⟨by rfl,?_⟩) (by assumption) ?_;rotate_left
    · (intro w hSw;(try dsimp only at hSw);go_simp);all_goals with_reducible rfl
    try simp only [Act.put,List.setIfInBounds_toArray,List.set_cons_zero,List.set_cons_succ]
    refine aO (i:=14) (by kernel_rfl) rfl rfl (fun K14 hK14 => ?_);go_simp;go_at_call 110
    refine (HI.o _ R [O S nd.op,O S nd.a,O S nd.b,sk',sa',sf'] nd ats ks up _ (HRL.o _ (((Below.refl _ _).alloc (Nat.le_refl _) _).drew)) (HTR.o _ (((Below.refl _ _).alloc (Nat.le_refl _) _).drew)) hok2 hall2 hup0 hup1 HB1.o HB2.o HB3.o).mono ?_;rintro e w3 ⟨hb3,ys,rfl,ht3⟩;have HT3:=hid ht3;obtain ⟨sk3,sa3,sf3,rfl,⟨A3,n3,c3,rfl,hk3⟩,⟨A4,n4,c4,rfl,h43⟩,⟨A5,n5,c5,rfl,h53⟩⟩:=ht3;clear hk3 h43 h53;have hb4:Below wr.heap.size wr w3:=j4 (((Below.refl _ _).alloc (Nat.le_refl _) _).drew) hb3 (Nat.le_refl _);go_wp2_with fail
    have hS2:=HKP.o _ hb4;refine hK14.o _ _ (fun _=>hS2) ?_;refine aO (i:=15) (by kernel_rfl) rfl rfl (fun K15 hK15 => ?_);go_simp;have hS3:=HKP.o _ (hb4.alloc hb4.size (.cells #[O S (jB up nd (u+aC n.op n.b (j:Int))).op,O S (jB up nd (u+aC n.op n.b (j:Int))).a,O S (jB up nd (u+aC n.op n.b (j:Int))).b,Y A3 n3 c3,Y A4 n4 c4,Y A5 n5 c5] 49));refine hK15.o _ _ (fun _=>hS3) ?_;refine aO (i:=16) (by kernel_rfl) rfl rfl (fun K16 hK16 => ?_);refine eY (.tmp 42) (.tmp 56) 47 rfl (w.heap.size+3) i0 _ Tryz.underlying47 HI0.o HY0.o HY1.o HY2.o rfl (Y A1 j k1) j xs1 [O S (jB up nd (u+aC n.op n.b (j:Int))).op,O S (jB up nd (u+aC n.op n.b (j:Int))).a,O S (jB up nd (u+aC n.op n.b (j:Int))).b,Y A3 n3 c3,Y A4 n4 c4,Y A5 n5 c5] rfl (z9 _ _ _ (A3,n3,c3) (A4,n4,c4) (A5,n5,c5)) w3 rfl rfl (aY HOWN.o hb4) _ rfl rfl aA (by have:=hb4.size;omega) ?_;intro A' c' w' happ;have zb:=aD.grown (aD.below hblk2 hb4 hszb) happ.grown (eE (aY HOWN.o hb4) (Nat.lt_succ_self _));have zc:=zb.cell;have zf:=zb.frozen;have zc0:=aD.cell (aD.grown (aD.below hblk hb4 aA) happ.grown (eE (aY HOWN.o hb4) (show w.heap.size<w.heap.size+3 by omega)));have hb5:∀ g,g<w.heap.size+3->∀ o,w'.cell? ⟨g,o,X⟩=w3.cell? ⟨g,o,X⟩:=fun g hg o=>World.cell?_of_block (happ.grown.block g (by have:=hb4.size;omega) (eE (aY HOWN.o hb4) hg));have hb6:∀ g o,g ≠ w.heap.size+1+1->(w'.setCell ⟨w.heap.size+1+1,3,X⟩ (Y A' (j+1) c')).cell? ⟨g,o,X⟩=w'.cell? ⟨g,o,X⟩:=fun g o hg=>World.cell?_setCell_other _ _ _ _ (fun hh=>by injection hh with hh;exact hg hh.symm);have hS4:w'.cell? ⟨w.heap.size,0,X⟩=Z (O S n.op)/\w'.cell? ⟨w.heap.size,1,X⟩=Z (O S n.a)/\w'.cell? ⟨w.heap.size,2,X⟩=Z (O S n.b)/\w'.cell? ⟨w.heap.size,3,X⟩=Z (Y (Z ⟨b,off,X⟩) nk ck) ∧
     w'.cell? ⟨w.heap.size+1+1,3,X⟩=Z (Y A1 j k1) ∧
     w'.cell? ⟨b,off+j*6,X⟩=Z (O S nd.op)/\w'.cell? ⟨b,off+j*6+1,X⟩=Z (O S nd.a)/\w'.cell? ⟨b,off+j*6+2,X⟩=Z (O S nd.b)/\w'.cell? ⟨b,off+j*6+3,X⟩=Z sk'/\w'.cell? ⟨b,off+j*6+4,X⟩=Z sa'/\w'.cell? ⟨b,off+j*6+5,X⟩=Z sf':=⟨(hb5 _ aA _).trans (HKP.o _ hb4).1,(hb5 _ aA _).trans (HKP.o _ hb4).2.1,(hb5 _ aA _).trans (HKP.o _ hb4).2.2.1,(hb5 _ aA _).trans (HKP.o _ hb4).2.2.2.1,(hb5 _ aA _).trans (HKP.o _ hb4).2.2.2.2.1,(hb5 _ aA _).trans (HKP.o _ hb4).2.2.2.2.2.1,(hb5 _ aA _).trans (HKP.o _ hb4).2.2.2.2.2.2.1,(hb5 _ aA _).trans (HKP.o _ hb4).2.2.2.2.2.2.2.1,(hb5 _ aA _).trans (HKP.o _ hb4).2.2.2.2.2.2.2.2.1,(hb5 _ aA _).trans (HKP.o _ hb4).2.2.2.2.2.2.2.2.2.1,(hb5 _ aA _).trans (HKP.o _ hb4).2.2.2.2.2.2.2.2.2.2⟩
    refine hK16.o _ _ (fun _=>hS4) ?_;try simp only [Act.put,List.setIfInBounds_toArray,List.set_cons_zero,List.set_cons_succ]
    refine cY (i:=17) (v := ?_) rfl rfl (by kernel_rfl) (by kernel_rfl) (by kernel_rfl) (by kernel_rfl) (fun _ _ _ h=>h) (Or.inl ⟨by rfl,?_⟩) (by assumption) ?_;rotate_left
    · (intro w hSw;(try dsimp only at hSw);go_simp);all_goals with_reducible rfl
    try simp only [Act.put,List.setIfInBounds_toArray,List.set_cons_zero,List.set_cons_succ]
    refine aO (i:=18) (by kernel_rfl) rfl rfl (fun K18 hK18 => ?_);go_simp;refine hK18.o _ _ (fun h=>absurd rfl h) ?_;refine cN (by kernel_rfl) (NoPanic.normal ?_) _;all_goals
     have hw5:w.heap.size<=w3.heap.size:=by have:=hb4.size;omega
     have hown3:=aY HOWN.o hb4;have hrb:∀ g,g<w.heap.size+3->w.heap.size<=g->True:=fun _ _ _=>trivial;have hbf:Below w.heap.size w (w'.setCell ⟨w.heap.size+1+1,3,X⟩ (Y A' (j+1) c')):=((hbw.trans (hb4.mono hbw.size)).grown happ.grown hw5 (fun g hg=>by have:=(aE hown3 hg).1;omega)).setCell (p:=⟨w.heap.size+1+1,3,X⟩) (show w.heap.size<=w.heap.size+1+1 by omega) _;have hz0:=aD.far (aD.grown (aD.below hblk hb4 aA) happ.grown (eE hown3 (show w.heap.size<w.heap.size+3 by omega))) (p:=⟨w.heap.size+1+1,3,X⟩) (show w.heap.size ≠ w.heap.size+1+1 by omega) (Y A' (j+1) c');have hz1:=aD.far (aD.grown (aD.below hblk1 hb4 aA) happ.grown (eE hown3 (show w.heap.size+1<w.heap.size+3 by omega))) (p:=⟨w.heap.size+1+1,3,X⟩) (show w.heap.size+1 ≠ w.heap.size+1+1 by omega) (Y A' (j+1) c');have hz2:=zb.set_ 3 (Y A' (j+1) c');have hof:=ownsRow_setCell_below happ.own (a:=⟨w.heap.size+1+1,3,X⟩) (show w.heap.size+1+1<w.heap.size+3 by omega) (Y A' (j+1) c');have hff:=tY (B0:=w.heap.size) (B:=w.heap.size+3) HFC.o HT3.o (((Below.refl _ _).alloc (Nat.le_refl _) _).drew).size hb4 aA hR aA HOWN.o (Below.refl _ _) happ (wf:=w'.setCell ⟨w.heap.size+1+1,3,X⟩ (Y A' (j+1) c')) (pre:=pre) (fun g hg o=>hb6 g o aA) (by simp [World.setCell]);have HBF:=hid hbf;have HZ0:=hid hz0;have HZ1:=hid hz1;have HZ2:=hid hz2;have HOF:=hid hof;have HFF:=hid hff;clear hbf hz0 hz1 hz2 hof hff hrb hb5 hb6 zc0 zc zf;go_wp2_with fail
     go_roundw
     case rel =>
      refine ⟨F1.app (.cons pre nd ats ks .nil),F2,j+1,A',c',_,by rw [HK.o,cM];rfl,by rw [bB];simp [aT,HJ.o],by go_num,HBF.o,HZ0.o,HZ1.o,HZ2.o,HOF.o,?_⟩;rw [DY,HJ.o,Nat.zero_add,jU];exact HFF.o
     case measure=>simp [intOf];omega
theorem sI:∀ (m:Nat) (w:World) (R:Nat->Prop) (xs:List Value) (n:Nd) (atoms:List Nd) (kids:Fo) (up u:Int),(∀ b,R b->b<w.heap.size)->bP R w xs n atoms kids->dG n=true->cL kids->0<=up->up<=1000000000000->0<=u->u+4*aL kids<=1000000000000->aL kids<m →
      Calls Tryz.prog 110 #[.agg xs.toArray,O S up,O S u] w (eK R w (jB up n u) (pE n atoms u) (pF up n kids u))
 | 0,_,_,_,_,_,_,_,_,_,_,_,_,_,_,_,_,h=>absurd h aA
 | m+1,w,R,xs,n,atoms,kids,up,u,h1,h2,h3,h4,h5,h6,h7,h8,h9=>zN m (sI m) w R xs n atoms kids up u h1 h2 h3 h4 h5 h6 h7 h8 aA
theorem sJ {w:World} {R:Nat->Prop} {xs:List Value} {n:Nd} {atoms:List Nd} {kids:Fo} {up u:Int} (hR:∀ b,R b->b<w.heap.size) (ht:bP R w xs n atoms kids) (hok:dG n=true) (hall:cL kids) (hup0:0<=up) (hup1:up<=1000000000000) (h0:0<=u) (h1:u+4*aL kids<=1000000000000) :
 Calls Tryz.prog 110 #[.agg xs.toArray,O S up,O S u] w (eK R w (jB up n u) (pE n atoms u) (pF up n kids u)) :=
 sI (aL kids+1) w R xs n atoms kids up u hR ht hok hall hup0 hup1 h0 h1 (Nat.lt_succ_self _)
end Go.Proofs.YtjllmblbbgojbaaGreat
