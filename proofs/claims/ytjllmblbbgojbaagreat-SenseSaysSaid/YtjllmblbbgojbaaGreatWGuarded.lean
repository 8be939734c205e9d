/- Merged: SenseA, Match, FineS, FineL, FineT, FineX, Fines, Tr, FixF, TermL, Guarded. -/
import Derived.Test.YtjllmblbbgojbaaGreatWShort3
import Derived.Test.YtjllmblbbgojbaaGreatWFineW
import Derived.Test.YtjllmblbbgojbaaGreatWWalks
import Derived.Test.YtjllmblbbgojbaaGreatWLeafs
import Derived.Test.YtjllmblbbgojbaaGreatWEnds
import Derived.Test.YtjllmblbbgojbaaGreatWBase
namespace Go.Proofs.YtjllmblbbgojbaaGreat
open Go.Value renaming slice → O
open Option renaming none → S, some → X
section
open Go.Lib (hid)
set_option maxHeartbeats 4000000
set_option maxRecDepth 100000
set_option linter.unusedVariables false
set_option linter.unusedSimpArgs false
open Go.RowKit
def C3 (z:Int):List PanicEntry:=[{ v:=.iface 54 (.agg #[.int .i64 z]),recovered:=false }]
theorem j8 {A:Option Addr} {n c:Nat} {w:World}:Calls Tryz.prog 41 #[O A n c,.int .i64 0] w (fun e w'=>e=.returned (O A n c)/\w'=w):=by
 go_in;go_wp2_with fail
 go_ret;exact ⟨rfl,rfl⟩
theorem lL {A:Option Addr} {n c:Nat} {w:World} {z:Int} (hz:z ≠ 0):Calls Tryz.prog 41 #[O A n c,.int .i64 z] w (fun e w'=>e=.panicked (C3 z)/\w'=w):=by
 have d1:(z != 0)=true:=by simpa using hz
 clear hz;go_in;go_wp2_with fail
 exact ⟨rfl,rfl,rfl⟩
def gC (A:Option Addr) (n c:Nat) (l:List Nd):List Value->List TT->Prop
 | [],[]=>True
 | v::vs,x::xs=>(∃ A' n' c',v=O A' n' c'/\∀ (R:Nat->Prop) (w:World),bA R w A n c l->bA R w A' n' c' (aJ x))/\gC A n c l vs xs
 | _,_=>False
section
variable {A : Option Addr} {n c : Nat} {l : List Nd}
theorem gC.len:∀ {vs:List Value} {xs:List TT},gC A n c l vs xs->vs.length=xs.length
 | [],[],_=>rfl
 | [],_::_,h=>h.elim
 | _::_,[],h=>h.elim
 | v::vs,x::xs,h=>by simp [gC.len h.2]
theorem gC.add {A':Option Addr} {n' c':Nat} {y:TT} (ht:∀ (R:Nat->Prop) (w:World),bA R w A n c l->bA R w A' n' c' (aJ y)) : ∀ {vs:List Value} {xs:List TT},gC A n c l vs xs->gC A n c l (vs++[O A' n' c']) (xs++[y])
 | [],[],_=>⟨⟨A',n',c',rfl,ht⟩,trivial⟩
 | [],_::_,h=>h.elim
 | _::_,[],h=>h.elim
 | _::_,_::_,h=>⟨h.1,h.2.add ht⟩
theorem gC.rev:∀ {vs:List Value} {xs:List TT},gC A n c l vs xs->gC A n c l vs.reverse xs.reverse
 | [],[],_=>trivial
 | [],_::_,h=>h.elim
 | _::_,[],h=>h.elim
 | v::vs,x::xs,h=>by
  obtain ⟨⟨A',n',c',rfl,ht⟩,h2⟩:=h;rw [List.reverse_cons,List.reverse_cons];exact gC.add ht h2.rev
theorem gC.slices:∀ {vs:List Value} {xs:List TT},gC A n c l vs xs->∀ v ∈ vs,∃ A n c,v=O A n c
 | [],[],_=>fun v hv=>by cases hv
 | [],_::_,h=>h.elim
 | _::_,[],h=>h.elim
 | v::vs,x::xs,h=>fun y hy=>by
  obtain ⟨⟨A',n',c',e,_⟩,h2⟩:=h;rcases List.mem_cons.1 hy with rfl | hy
  · exact ⟨A',n',c',e⟩
  · exact gC.slices h2 y hy
theorem gC.at_:∀ {vs:List Value} {xs:List TT} (k:Nat),gC A n c l vs xs->(hk:k<xs.length)->∃ A' n' c',vs[k]? = X (O A' n' c')/\∀ (R:Nat->Prop) (w:World),bA R w A n c l->bA R w A' n' c' (aJ xs[k])
 | [],[],_,_,hk=>absurd hk (by simp)
 | [],_::_,_,h,_=>h.elim
 | _::_,[],_,h,_=>h.elim
 | v::vs,x::xs,0,h,_=>by
  obtain ⟨⟨A',n',c',e,ht⟩,_⟩:=h;exact ⟨A',n',c',by simp [e],ht⟩
 | v::vs,x::xs,k+1,h,hk=>by
  obtain ⟨A',n',c',e,ht⟩:=gC.at_ k h.2 (by simpa using hk);exact ⟨A',n',c',by simpa using e,by simpa using ht⟩
end
def oF (A:Option Addr) (n c:Nat) (x:TT) (q:TT×List TT) (w:World) (e:Ending) (w':World):Prop:=Below w.heap.size w w'/\∃ A1 n1 c1 B d vs,e=.returned (.agg #[O A1 n1 c1,O B q.2.length d])/\(∀ (R:Nat->Prop) (w2:World),bA R w2 A n c (aJ x)->bA R w2 A1 n1 c1 (aJ q.1))/\w'.ownsRow w.heap.size 28 1 (O B q.2.length d) q.2.length vs/\gC A n c (aJ x) vs q.2
theorem EI {w w3:World} {B:Option Addr} {j d:Nat} {vs:List Value} (hb:Below w.heap.size w w3) (hk:aD w3 w.heap.size 83 #[O S 0 0,O S 0 0]) (hs:aD w3 (w.heap.size+1) 83 #[O S 0 0,O B j d]) (ho:w3.ownsRow (w.heap.size+2) 28 1 (O B j d) j vs) (u:Value) :
 Below w.heap.size w (((w3.setCell ⟨w.heap.size+1,0,S⟩ u).setCell ⟨w.heap.size,0,S⟩ u).setCell ⟨w.heap.size,1,S⟩ (O B j d))/\(((w3.setCell ⟨w.heap.size+1,0,S⟩ u).setCell ⟨w.heap.size,0,S⟩ u).setCell ⟨w.heap.size,1,S⟩ (O B j d)).ownsRow w.heap.size 28 1 (O B j d) j vs ∧
 aD (((w3.setCell ⟨w.heap.size+1,0,S⟩ u).setCell ⟨w.heap.size,0,S⟩ u).setCell ⟨w.heap.size,1,S⟩ (O B j d)) w.heap.size 83 #[u,O B j d]:=by
 have hl:=hs.lt;have g1:=bN w3 (w.heap.size+1) 0 u;have g2:=bN (w3.setCell ⟨w.heap.size+1,0,S⟩ u) w.heap.size 0 u;have g3:=bN ((w3.setCell ⟨w.heap.size+1,0,S⟩ u).setCell ⟨w.heap.size,0,S⟩ u) w.heap.size 1 (O B j d);have hbs:=hb.size;have hs1:=g1.size;have hs2:=g2.size;have no:∀ g,g<w.heap.size+2->(Value.slice B j d).ownBlock ≠ X g:=fun g hg e=>by have:=(aE ho e).1;omega
 have o1:=World.ownsRow.kept ho g1 (.inr (no _ aA));have o2:=World.ownsRow.kept o1 g2 (.inr (no _ aA));have o3:=World.ownsRow.kept o2 g3 (.inr (no _ aA));refine ⟨((hb.grown g1 aA (fun g e=>by injection e with e;omega)).grown g2 aA (fun g e=>by injection e with e;omega)).grown g3 aA (fun g e=>by injection e with e;omega),⟨o3.1,?_⟩,by simpa using ((hk.grown g1 (by intro e;injection e with e;omega)).set_ 0 u).set_ 1 (O B j d)⟩;rcases o3.2 with h | ⟨g,cap,cur,h1,h2,h3⟩
 · exact .inl h
 exact .inr ⟨g,cap,cur,h1,by omega,h3⟩
theorem lF {A:Option Addr} {n c:Nat} {x:TT} {w:World} (h:aP w A n c (aJ x)) (hrt:jK x) :
 Calls Tryz.prog 33 #[O A n c] w (oF A n c x (cP x) w):=by
 obtain ⟨i1,hi',hy0',hy1',hy2'⟩:=info_parts yL;have HI1:=hid hi';have HZ0:=hid hy0';have HZ1:=hid hy1';have HZ2:=hid hy2';obtain ⟨m,hm⟩ : ∃ m,m=bU x:=⟨_,rfl⟩;have hmf:m<=4096:=by rw [hm];exact hrt.few
 have HM:=hid hm;have HT:=hid h;have HRT:=hid hrt;have hln:=h.len;have hn4:n<=4096:=by have:(aJ x).length=bU x:=rfl;omega
 obtain ⟨F,L,hFL⟩ : ∃ F L,cP x=(F,L):=⟨_,_,rfl⟩;rw [hFL];have hFL2:hd m x=(F,L):=by rw [hm];exact hFL
 have HFL:=hid hFL2;obtain ⟨tx,htx⟩ : ∃ t,t=aJ x:=⟨_,rfl⟩;have HTX:=hid htx;have hb0:=(aB w (.cells #[O S 0 0,O S 0 0] 83)).alloc (by simp) (.cells #[O S 0 0,O S 0 0] 83);have HB0:=hid hb0;have HK0:Hid (aD ((w.alloc (.cells #[O S 0 0,O S 0 0] 83)).alloc (.cells #[O S 0 0,O S 0 0] 83)) w.heap.size 83 #[O S 0 0,O S 0 0]):=hid ((aD.new w _ _).alloc _);have HS0:Hid (aD ((w.alloc (.cells #[O S 0 0,O S 0 0] 83)).alloc (.cells #[O S 0 0,O S 0 0] 83)) (w.heap.size+1) 83 #[O S 0 0,O S 0 0]):=hid (aD.new' (by simp));clear hi' hy0' hy1' hy2' hm h hrt hFL hFL2 hb0 hln;unfold oF;rw [<-htx];clear htx;go_in;go_wp2_with fail
 go_loopw [0] (fun tv wr=>∃ (m' n' c' j d:Nat) (A' B:Option Addr) (y:TT) (vs:List Value) (ys:List TT),tv=O A' n' c'/\j+n'<=4096/\Hid (jK y)/\Hid (bU y<=m')/\Hid ((hd m' y).1=F/\(hd m' y).2++ys.reverse=L)/\Hid (∀ (R:Nat->Prop) (w':World),bA R w' A n c tx->bA R w' A' n' c' (aJ y))/\Hid (wr.ownsRow (w.heap.size+2) 28 1 (O B j d) j vs)/\Hid (gC A n c tx vs ys)/\Hid (Below w.heap.size w wr)/\Hid (aD wr w.heap.size 83 #[O S 0 0,O S 0 0])/\Hid (aD wr (w.heap.size+1) 83 #[O S 0 0,O B j d])) (fun tv _=>DH tv)
 case atStart=>exact ⟨m,n,c,0,0,A,S,x,[],[],rfl,by omega,HRT,hid (by rw [HM.o];exact Nat.le_refl _),hid (by rw [HFL.o];exact ⟨rfl,by simp⟩),hid (fun R w' hb=>by rw [HTX.o] at hb;exact hb),hid (World.ownsRow_nil _ _ _ _),hid trivial,HB0,HK0,HS0⟩
 case round =>
  obtain ⟨m',n',c',j,d,A',B,y,vs,ys,rfl,hjn,hrt,hm',hsp,htc,hown,hpcs,hbw,hkr,hks⟩:=hrel;obtain ⟨n1,a1,k1⟩:=y;have hxb:aP wr A n c tx:=by rw [HTX.o];exact HT.o.below hbw.o
  have HXB:=hid hxb;have HT1:Hid (aP wr A' n' c' (aJ (n1,a1,k1))):=hid (htc.o _ _ hxb);clear hxb;have hlen:=HT1.o.len;have hn0:0<n':=by rw [<-hlen];simp [aJ]
  have hcap:=HT1.o.cap;obtain ⟨b,off,rfl,hb,hc0,_,_⟩:=HT1.o.at_ hn0;rw [Nat.zero_mul,Nat.add_zero,show aQ (aJ (n1,a1,k1)) 0=n1 from rfl] at hc0;have hbs:=hbw.o.size;have hsl:=hks.o.lt;by_cases h6:n1.op=6;rotate_left
  · have h6b:(n1.op==6)=false:=by simpa using h6
    have HE:Hid ((F,L)=((n1,a1,k1),ys.reverse)):=hid (by
     have h1:=hsp.o;rw [qK (x:=(n1,a1,k1)) h6] at h1;rw [<-h1.1,<-h1.2];simp)
    have hjl:j=ys.length:=by have:=hpcs.o.len;have:=hown.o.1;omega
    have HJL:=hid hjl;have HREV:=hid (zK hown.o aA (gC.slices hpcs.o));have zs:=aD.cell hks.o;generalize n1.op=op at *;clear h6 hlen hjl;go_wp2_with fail
    refine (HREV.o).mono ?_;rintro e w3 ⟨rfl,ho3,hg3⟩;have hblk:∀ g,(Value.slice B j d).ownBlock=X g->w.heap.size+2<=g:=fun g hg=>(aE hown.o hg).1;have HB3:=hid (hbw.o.grown hg3 hbs (fun g hg=>by have:=hblk g hg;omega));have HK3:=hid (hkr.o.grown hg3 (fun e=>by have:=hblk _ e.symm;omega));have HS3:=hid (hks.o.grown hg3 (fun e=>by have:=hblk _ e.symm;omega));have HO3:=hid ho3;have HBL:=hid hblk;have zr3:=aD.cell HK3.o;have fr3:=aD.frozen HK3.o;have zs3:=aD.cell HS3.o;have fs3:=aD.frozen HS3.o;have hl3:=HS3.o.lt;obtain ⟨f1,f2,f3⟩:=EI HB3.o HK3.o HS3.o HO3.o (O (X ⟨b,off,S⟩) n' c');have HF1:=hid f1;have HF2:=hid f2;have zz:=aD.cell f3;clear f1 f2 f3;clear ho3 hg3 hblk zs;go_wp2_with fail
    refine bodyPost_ret (v:=.agg #[O (X ⟨b,off,S⟩) n' c',O B j d]) (by simp [results,Tryz.results33,go_sem,zz]) rfl ?_;have f2:=HF2.o;obtain ⟨rfl,rfl⟩:=Prod.mk.inj HE.o;refine ⟨HF1.o,X ⟨b,off,S⟩,n',c',B,d,vs.reverse,?_,htc.o,?_,gC.rev hpcs.o⟩
    · rw [HJL.o];simp
    rw [List.length_reverse,<-HJL.o];exact f2
  obtain ⟨nx,ax,kx,ny,ay,ky,rfl,hsplit⟩:=oG hrt.o h6;obtain ⟨r1,hr1⟩ : ∃ r1,r1=aJ (nx,ax,kx):=⟨_,rfl⟩;obtain ⟨r2,hr2⟩ : ∃ r2,r2=aJ (ny,ay,ky):=⟨_,rfl⟩;obtain ⟨hf1,hf2,hq,hend⟩:=hsplit;cases m' with
  | zero=>have:=hm'.o;unfold bU at this;rw [show aJ _=_ from hq] at this;simp at this
  | succ m' =>
  have hsp2:=hsp.o;rw [BK h6] at hsp2
  change aJ _=_ at hq
  have hq2:aJ (n1,a1,Fo.cons [] nx ax kx (.cons [] ny ay ky .nil))=⟨6,0,0⟩::(r1++r2):=by rw [hq,hr1,hr2];rfl
  obtain ⟨p,hp⟩ : ∃ p,p=1+r1.length:=⟨_,rfl⟩;have hend2:i7 (aJ (n1,a1,Fo.cons [] nx ax kx (.cons [] ny ay ky .nil))) 1=(p:Int):=by rw [hp,hr1];exact hend
  have hm2:=hm'.o;unfold bU at hm2;generalize aJ (n1,a1,Fo.cons [] nx ax kx (.cons [] ny ay ky .nil))=tc at *;have hql:n'=p+r2.length:=by rw [<-hlen,hq2,hp];simp;omega
  have hr2l:0<r2.length:=by rw [hr2];simp [aJ]
  have hd2:tc.drop p=r2:=by rw [hq2,hp,Nat.add_comm,List.drop_succ_cons,List.drop_left]
  have hd1:(tc.take p).drop 1=r1:=by rw [hq2,hp,Nat.add_comm,List.take_succ_cons,List.drop_succ_cons,List.drop_zero,List.take_left]
  obtain ⟨A2,hcut2,hcutr2⟩:=iS (X ⟨b,off,S⟩) n' c' p aA;obtain ⟨A3,hcut3,hcutr3⟩:=lG (X ⟨b,off,S⟩) n' c' 1 p aA aA hcap;rw [show ((1:Nat):Int)=1 from rfl] at hcut3;have HT2:Hid (∀ (R:Nat->Prop) (w':World),bA R w' A n c tx->bA R w' A2 (n'-p) (c'-p) (aJ (ny,ay,ky))):=hid fun R w' h=>by
   have:=hcutr2 _ _ _ (htc.o R w' h)
   rwa [hd2,hr2] at this
  have HT3:Hid (∀ (R:Nat->Prop) (w':World),bA R w' A n c tx->bA R w' A3 (p-1) (c'-1) (aJ (nx,ax,kx))):=hid fun R w' h=>by
   have:=hcutr3 _ _ _ (htc.o R w' h)
   rwa [hd1,hr1] at this
  have HEND:=hid (gG HT1.o 1);rw [hend2] at HEND;have HF1:Hid (jK (nx,ax,kx)):=hid hf1;have HSP2:=hid hsp2;have HML:Hid (bU (nx,ax,kx)<=m'):=hid (by have:=hm2;rw [hq2] at this;show (aJ (nx,ax,kx)).length<=m';rw [<-hr1];simp at this;omega);have hp1:1<=p:=aA;have hpn:p<n':=aA;clear hf1 hf2 hq hq2 hend hend2 hsp2 hr1 hr2 hp hql hr2l hd1 hd2 hcutr2 hcutr3 hlen hm2;rw [h6] at hc0;clear h6;go_wp2_with fail
  refine (HEND.o).mono ?_;rintro e w3 ⟨rfl,hb3⟩;have HB3:=hid (hbw.o.trans (hb3.mono hbs));have HO3:=hid (aY hown.o hb3);have HK3:=hid (hkr.o.below hb3 hkr.o.lt);have HS3:=hid (hks.o.below hb3 hks.o.lt);have hbs3:=HB3.o.size;have hs3:=hb3.size;have hz3:w.heap.size+2<=w3.drew.heap.size:=by show w.heap.size+2<=w3.heap.size;omega
  have zs0:w3.drew.cell? ⟨w.heap.size+1,1,S⟩=X (O B j d):=HS3.o.cell 1;have hp0:(0:Int)<=(p:Int):=aA;have hpn2:(p:Int)<=(n':Int):=aA;have hnc2:(n':Int)<=(c':Int):=aA;clear hb3;go_wp2_with fail
  refine cF 8 (fun w'=>w'.cell? ⟨w.heap.size+1,1,S⟩=X (O B j d)) (by kernel_rfl) ?_ (fun hHeld => ?_)
  · (try dsimp only);exact zs0
  refine te 0 hHeld ?_;try simp only [p7]
  refine te 1 hHeld ?_;try simp only [p7]
  refine te 2 hHeld ?_;try simp only [p7]
  refine te 3 hHeld ?_;try simp only [p7]
  refine te 4 hHeld ?_;try simp only [p7]
  have HO4:=hid (aY HO3.o (aI (Below.refl w3.heap.size w3) 1));have hs4:(w3.drew.alloc (.cells #[O A2 (n'-p) (c'-p)] 28)).cell? ⟨w.heap.size+1,1,S⟩=X (O B j d):=((HS3.o.drewN 1).alloc _).cell 1;refine aO (i:=5) (by kernel_rfl) rfl rfl (fun K hK => ?_);go_simp;refine hK.o _ _ (fun _ => ?_) ?_
  · (try dsimp only);exact hs4
  clear hK K;try simp only [p7]
  replace hHeld:=hs4
  refine aO (i:=6) (by kernel_rfl) rfl rfl (fun K hK => ?_);refine eR (.tmp 13) (.tmp 17) 65 28 rfl (w.heap.size+2) i1 _ 24 Tryz.underlying65 HI1.o HZ0.o HZ1.o HZ2.o rfl (by decide) (O B j d) j vs (O A2 (n'-p) (c'-p)) rfl w3.drew (by rfl) (by rfl) HO4.o _ (by rfl) (by rfl) aA hz3 ?_;intro A5 c5 w5 happ5;have hne5:∀ g,g<w.heap.size+2->X g ≠ (Value.slice B j d).ownBlock:=fun g hg e=>by have:=(aE HO4.o e.symm).1;omega
  have HB5:=hid ((aI HB3.o 1).grown happ5.grown hbs3 (fun g hg=>by have:=(aE HO4.o hg).1;omega));have HK5:=hid ((HK3.o.drewN 1).grown happ5.grown (hne5 _ aA));have HS5:=hid ((HS3.o.drewN 1).grown happ5.grown (hne5 _ aA));have hs5:w5.cell? ⟨w.heap.size+1,1,S⟩=X (O B j d):=HS5.o.cell 1;have hf5:w5.frozen? ⟨w.heap.size+1,1,S⟩=false:=HS5.o.frozen 1;have hz5:w.heap.size+1<w5.heap.size:=HS5.o.lt;have hob:∀ g,(Value.slice A5 (j+1) c5).ownBlock=X g->w.heap.size+2<=g:=fun g hg=>(happ5.new g hg).elim (fun h1=>(aE HO4.o h1).1) (fun h1=>by omega);have hg6:=bN w5 (w.heap.size+1) 1 (O A5 (j+1) c5);have HO6:=hid (World.ownsRow.kept happ5.own hg6 (.inr fun e=>by have:=hob _ e;omega));have HB6:=hid (HB5.o.grown hg6 (by have:=HB5.o.size;omega) (fun g e=>by injection e with e;omega));have HK6:=hid (HK5.o.grown hg6 (by intro e;injection e with e;omega));have HS6:Hid (aD (w5.setCell ⟨w.heap.size+1,1,S⟩ (O A5 (j+1) c5)) (w.heap.size+1) 83 #[O S 0 0,O A5 (j+1) c5]):=hid (HS5.o.set_ 1 _);clear happ5 hne5 hob hg6;refine hK.o _ _ (fun _ => ?_) ?_
  · (try dsimp only);exact hs5
  clear hK K;try simp only [p7]
  replace hHeld:=hs5
  refine te 7 hHeld ?_;try simp only [p7]
  refine aO (i:=8) (by kernel_rfl) rfl rfl (fun K hK => ?_);go_simp;refine hK.o _ _ (fun h=>absurd rfl h) ?_;clear hK K;try simp only [p7]
  refine cN (by kernel_rfl) ?_ _;go_wp2_with fail
  go_roundw
  case rel=>exact ⟨m',p-1,c'-1,j+1,c5,A3,A5,(nx,ax,kx),vs++[O A2 (n'-p) (c'-p)],ys++[(ny,ay,ky)],rfl,by omega,HF1,HML,hid ⟨HSP2.o.1,by rw [<-HSP2.o.2];simp⟩,HT3,HO6,hid (gC.add HT2.o hpcs.o),HB6,HK6,HS6⟩
  case measure=>simp only [DH];omega
end
section
open Go.RowKit
end
section
open Go.RowKit
theorem jG:∀ (m:Nat) (x:TT),jK x->(hd m x).2.length<(aJ x).length
 | 0,x,_=>by
  obtain ⟨n,a,k⟩:=x;simp [hd,aJ]
 | m+1,(n,a,k),h=>by
  by_cases h6:n.op=6
  · obtain ⟨n1,a1,k1,n2,a2,k2,rfl,hs⟩:=oG h h6;rw [BK h6];have e1:=jG m (n1,a1,k1) hs.fst;have hr:=congrArg List.length hs.eq;simp only [aJ,List.length_cons,List.length_append] at hr e1 ⊢;simp only [List.length_nil];omega
  · rw [qK (x:=(n,a,k)) h6];simp [aJ]
def GM (nq:Nat) (zs:List Int):Prop:=∀ z ∈ zs,(0<=z/\z<=2)\/(100<=z/\z<100+(nq:Int))
theorem GM.add {nq:Nat} {zs:List Int} {z:Int} (h0:0<=z) (h2:z<=2) (h:GM nq zs):GM nq (zs++[z]):=fun u hu=>by
 rcases List.mem_append.1 hu with hu | hu
 · exact h u hu
 rw [List.mem_singleton] at hu;subst hu;exact .inl ⟨h0,h2⟩
theorem GM.many {nq:Nat} {zs:List Int} {m:Nat} (h:GM nq zs):GM nq (zs++List.replicate m 0):=fun u hu=>by
 rcases List.mem_append.1 hu with hu | hu
 · exact h u hu
 rw [List.eq_of_mem_replicate hu];exact .inl ⟨by omega,by omega⟩
theorem GM.of {nq:Nat} {zs:List Int} {v:Int} (h:GM nq zs) (h0:0<=v):(0<=M8 zs v/\M8 zs v<=2)\/(100<=M8 zs v/\M8 zs v<100+(nq:Int)):=by
 unfold M8;split
 · exact .inl ⟨by omega,by omega⟩
 have hlt:zs.length-1-v.toNat<zs.length:=aA;rw [List.getD_eq_getElem?_getD,List.getElem?_eq_getElem hlt];exact h _ (List.getElem_mem hlt)
end
section
open Go.RowKit
end
section
open Go.RowKit
end
section
open Go.RowKit
def MH:Nat->List Bool
 | 0=>[]
 | r+1=>true::false::MH r
theorem xU:∀ r:Nat,(List.replicate r [true,false]).flatten=MH r
 | 0=>rfl
 | r+1=>by rw [List.replicate_succ,List.flatten_cons,xU r];rfl
theorem MI {n:Nd} {nb:Nat} (h:n.op=12) (hb:n.b=(nb:Int)):ds n=MH nb:=by
 unfold ds;rw [if_pos h,hb,Int.toNat_natCast,xU]
theorem vI:∀ (r:Nat) {t:List Nd} {p:Nat} {F:Fo},At t p (MH r) F->p+3*r<=t.length
 | 0,t,p,F,h=>by have:=h.le;omega
 | r+1,t,p,F,h=>by
  obtain ⟨pre1,n1,a1,k1,nx1,rfl,s1⟩:=h.step;obtain ⟨pre2,n2,a2,k2,nx2,rfl,s2⟩:=s1.next.step;have h1:=vI r s2.next;have e1:pre1.length=1:=s1.plen;have e2:pre2.length=0:=s2.plen;have l1:0<(aJ (n1,a1,k1)).length:=by simp [aJ]
  have l2:0<(aJ (n2,a2,k2)).length:=by simp [aJ]
  omega
end
section
section
open Go.RowKit
end
section
open Go.RowKit
def kH:List TT->List TT
 | _::b::r=>b::kH r
 | _=>[]
def iJ (k:Fo):List Int:=(bO k).map (·.a)
def gN (e:Int) (w:World) (en:Ending) (w':World):Prop:=en=.returned (.int .i64 e)/\Below w.heap.size w w'
def JE (ne:Nat) (x:TT):Prop:=∀ m ∈ aJ x,m.op=11->m.a<(ne:Int)
theorem wQ:∀ {k:Fo} {y:TT},y ∈ cD k->∀ m ∈ aJ y,m ∈ row k
 | .nil,y,h,_,_=>by cases h
 | .cons p n a k x,y,h,m,hm=>by
  rw [show cD (.cons p n a k x)=(n,a,k)::cD x from rfl] at h;simp only [row];rcases List.mem_cons.1 h with rfl | h
  · simp only [aJ,List.mem_cons,List.mem_append] at hm ⊢;rcases hm with rfl | hm | hm
    · exact .inr (.inl rfl)
    · exact .inr (.inr (.inl hm))
    exact .inr (.inr (.inr (.inl hm)))
  · have:=wQ h m hm;simp only [List.mem_cons,List.mem_append];exact .inr (.inr (.inr (.inr this)))
theorem JE.kid {ne:Nat} {n:Nd} {a:List Nd} {k:Fo} (h:JE ne (n,a,k)) : ∀ y ∈ cD k,JE ne y:=fun y hy m hm=>h m (by
 simp only [aJ,List.mem_cons,List.mem_append];exact .inr (.inr (wQ hy m hm)))
theorem JE.node {ne:Nat} {n:Nd} {a:List Nd} {k:Fo} (h:JE ne (n,a,k)):n.op=11->n.a<(ne:Int):=h n (by simp [aJ])
abbrev p9 (w:World) (base:Nat) (A:Option Addr) (n c:Nat) (zs:List Int):Prop:=w.ownsRow base 3 1 (O A n c) n (zs.map (Value.int .i64))
theorem II:(Tryz.prog.info? 3).map (fun i=>(i.zero,i.size,i.bytes))=X (X (.int .i64 0),1,8):=by kernel_rfl
def GQ (v u:Value):Prop:=∀ g,v.ownBlock=X g->u.ownBlock ≠ X g
theorem GQ.symm {v u:Value} (h:GQ v u):GQ u v:=fun g hu hv=>h g hv hu
theorem DO {w w':World} {base:Nat} {e:TypeId} {size n:Nat} {v u:Value} {xs:List Value} (h:w.ownsRow base e size v n xs) (hg:w.grownBy w' u.ownBlock) (hs:GQ v u):w'.ownsRow base e size v n xs:=by
 refine h.kept hg ?_;cases hv:v.ownBlock with
 | none=>exact .inl rfl
 | some g=>exact .inr fun e=>hs g hv e.symm
theorem GQ.app {w w':World} {base base':Nat} {e e':TypeId} {size size' n n':Nat} {v u:Value} {xs ys:List Value} {A:Option Addr} {c:Nat} (h:w.ownsRow base e size v n xs) (hs:GQ v u) (ha:eI w w' base' e' size' u A n' c ys):GQ v (O A n' c):=fun g hv hu=>by
 rcases ha.new g hu with h1 | h1
 · exact hs g hv h1
 have:=(aE h hv).2.1;omega
theorem BS (n:Nat):madeCells #[Value.int .i64 0] n=(List.replicate n (Value.int .i64 0)).toArray:=by
 apply Array.ext
 · simp [madeCells]
 intro i h1 h2;simp [madeCells,Nat.mod_one]
theorem EE.below {K:LK} {ca:Int->Nat->Nat} {w w':World} (h:EE K ca w) (hb:Below w.heap.size w w'):EE K ca w':=⟨fun e he=>by
 obtain ⟨b,off,Ac,nc,cc,e1,hlt,hc,h100,hm,h0⟩:=h.ent e he;refine ⟨b,off,Ac,nc,cc,e1,Nat.lt_of_lt_of_le hlt hb.size,(hb.cell (p:=⟨b,off+e*7+4,S⟩) hlt).trans hc,h100,fun k hk => ?_,h0⟩;obtain ⟨b2,o2,A,c,e2,hlt2,hc2,h2⟩:=hm k hk;exact ⟨b2,o2,A,c,e2,Nat.lt_of_lt_of_le hlt2 hb.size,(hb.cell (p:=⟨b2,o2+k*2,S⟩) hlt2).trans hc2,h2⟩⟩
theorem EE.places {vars nat:Int} {Ao Ae Ap Aq Ar:Option Addr} {no co ne ce np cp nq cq nr cr:Nat} {ca:Int->Nat->Nat} {w:World} (h:EE ⟨vars,nat,Ao,no,co,Ae,ne,ce,Ap,np,cp,Aq,nq,cq⟩ ca w):EE ⟨vars,nat,Ao,no,co,Ae,ne,ce,Ap,np,cp,Ar,nr,cr⟩ ca w:=⟨h.ent⟩
end
end
section
open Go.RowKit
def tJ (σ:Int->Nd->TT) (pop pb:Int):Nat->Int->Fo->Fo
 | _,_,.nil=>.nil
 | j,a,.cons p n ats k x =>
  if n.op=1 then .cons p (σ (a+aC pop pb j) n).1 (σ (a+aC pop pb j) n).2.1 (σ (a+aC pop pb j) n).2.2 (tJ σ pop pb (j+1) a x)
  else .cons p n ats (tJ σ n.op n.b 0 (a+aC pop pb j) k) (tJ σ pop pb (j+1) a x)
def xI (σ:Int->Nd->TT) (a:Int) (x:TT):TT:=if x.1.op=1 then σ a x.1 else (x.1,x.2.1,tJ σ x.1.op x.1.b 0 a x.2.2)
section
variable {σ : Int->Nd->TT}
theorem lW {a:Int} {x:TT} (h:x.1.op=1):xI σ a x=σ a x.1:=by unfold xI;rw [if_pos h]
theorem iP {a:Int} {x:TT} (h:x.1.op ≠ 1):xI σ a x=(x.1,x.2.1,tJ σ x.1.op x.1.b 0 a x.2.2):=by unfold xI;rw [if_neg h]
theorem i5 (pop pb:Int) (j:Nat) (a:Int) (p:List Nd) (n:Nd) (ats:List Nd) (k x:Fo):tJ σ pop pb j a (.cons p n ats k x)=.cons p (xI σ (a+aC pop pb j) (n,ats,k)).1 (xI σ (a+aC pop pb j) (n,ats,k)).2.1 (xI σ (a+aC pop pb j) (n,ats,k)).2.2 (tJ σ pop pb (j+1) a x):=by
 simp only [tJ,xI];split<;>rfl
theorem lK (p:List Nd) (n:Nd) (a:List Nd) (k x:Fo):cD (.cons p n a k x)=(n,a,k)::cD x:=rfl
theorem dS {op b:Int} (h4:op ≠ 4) (h5:op ≠ 5) (h7:op ≠ 7) (h12:op ≠ 12) (k:Int):aC op b k=0:=by
 unfold aC;rw [if_neg aA,if_neg aA]
def NL:Fo->Prop
 | .nil=>True
 | .cons _ n _ k x=>(n.op=12->0<=n.b)/\NL k/\NL x
variable {places : List Int} {ca : Int->Nat->Nat}
end
end
section
open Go.RowKit
section
variable {σ : Int->Nd->TT} {places : List Int} {ca : Int->Nat->Nat}
def M6:Fo->Prop
 | .nil=>True
 | .cons _ n ats k x=>(n.op=1->ats=[]/\k=.nil)/\M6 k/\M6 x
theorem EK {op b:Int} (h:op=12->0<=b) (k:Int):0<=aC op b k:=by
 unfold aC;split
 · omega
 split
 · rename_i h2;exact h h2.1
 omega
end
end
section
open Go.RowKit
def iK (up fr:Int) (n:Nd) (a:Int):Nd:=if n.op=1/\fr+a<=n.a then ⟨n.op,n.a+up,n.b⟩ else n
def jA (up fr:Int) (pop pb:Int):Nat->Int->Fo->Fo
 | _,_,.nil=>.nil
 | j,a,.cons p n ats k x=>.cons p (iK up fr n (a+aC pop pb j)) ats (jA up fr n.op n.b 0 (a+aC pop pb j) k) (jA up fr pop pb (j+1) a x)
theorem fL (up fr:Int) (n:Nd) (a:Int):(iK up fr n a).op=n.op/\(iK up fr n a).b=n.b:=by unfold iK;split<;>exact ⟨rfl,rfl⟩
theorem I6 (up fr:Int) (n:Nd) (a:Int):(fJ up fr).em () n a=[iK up fr n a]:=by
 simp only [fJ,iK];split<;>rfl
theorem qP (up fr:Int) (pop pb:Int) : ∀ (j:Nat) (a:Int) (F:Fo),(fJ up fr).E pop pb j a () F=row (jA up fr pop pb j a F)
 | _,_,.nil=>rfl
 | j,a,.cons p n ats k x=>by
  have e:∀ s:Unit,s=():=fun _=>rfl;rw [bV.E_cons,bV.E1,I6,e ((fJ up fr).nx () n (a+aC pop pb j)),e ((fJ up fr).S1 (a+aC pop pb j) () n k),qP up fr _ _ _ _ k,qP up fr pop pb (j+1) a x];simp [jA,row]
theorem jT (up fr:Int) (a:Int) (n:Nd) (ats:List Nd) (k:Fo):(fJ up fr).E1 a () n ats k=iK up fr n a::(ats++row (jA up fr n.op n.b 0 a k)):=by
 have e:∀ s:Unit,s=():=fun _=>rfl;rw [bV.E1,I6,e ((fJ up fr).nx () n a),qP];rfl
theorem CB {up fr:Int} {n:Nd} {a:Int} (hok:dG n=true) (h0:0<=up) (hg:(fJ up fr).ok () n a=true):dG (iK up fr n a)=true:=by
 unfold iK;split
 · rename_i h
   simp only [fJ,if_pos h,decide_eq_true_eq] at hg;simp only [dG,Bool.and_eq_true,decide_eq_true_eq] at hok ⊢;obtain ⟨⟨h1,h2⟩,h3⟩:=hok;refine ⟨⟨?_,h2⟩,h3⟩;rw [h.1] at h1 ⊢;simp only [bD,if_true,decide_eq_true_eq] at h1 ⊢;omega
 exact hok
theorem wG {up fr:Int} (h0:0<=up) (pop pb:Int) : ∀ (F:Fo) (dl:List Bool) (j:Nat) (a:Int),Wf dl F->(fJ up fr).G pop pb j a () F=true->Wf dl (jA up fr pop pb j a F)
 | .nil,[],_,_,_,_=>trivial
 | .nil,_::_,_,_,h,_=>h.elim
 | .cons _ _ _ _ _,[],_,_,h,_=>h.elim
 | .cons p n ats k x,d::dr,j,a,h,hg=>by
  obtain ⟨hp,hok,hat,hk,hx⟩:=h;rw [bV.G_cons,bV.G1,Bool.and_eq_true,Bool.and_eq_true] at hg;obtain ⟨⟨hg1,hg2⟩,hg3⟩:=hg;have hs:=fL up fr n (a+aC pop pb j);have hds:ds (iK up fr n (a+aC pop pb j))=ds n:=by simp only [ds,hs.1,hs.2]
  refine ⟨hp,CB hok h0 hg1,?_,?_,wG h0 pop pb x dr (j+1) a hx hg3⟩
  · unfold gW at hat ⊢;rw [hs.1,hs.2];exact hat
  · rw [hds];exact wG h0 n.op n.b k (ds n) 0 (a+aC pop pb j) hk hg2
theorem mU {t:List Nd} {n:Nd} {ats:List Nd} {k:Fo} {up fr:Int} (hpp:pp [false] t=X (.cons [] n ats k .nil,[])) (hl:t.length<=4096) (h0:0<=up) (hg:(fJ up fr).G1 0 () n k=true) :
 pp [false] ((fJ up fr).E1 0 () n ats k)=X (.cons [] (iK up fr n 0) ats (jA up fr n.op n.b 0 0 k) .nil,[])/\aN ((fJ up fr).E1 0 () n ats k)=0/\((fJ up fr).E1 0 () n ats k).length=t.length:=by
 have hw:=fT hpp;obtain ⟨_,hok,hat,hk,_⟩:=hw;rw [bV.G1,Bool.and_eq_true] at hg;have hs:=fL up fr n 0;have hds:ds (iK up fr n 0)=ds n:=by simp only [ds,hs.1,hs.2]
 have hw2:Wf [false] (.cons [] (iK up fr n 0) ats (jA up fr n.op n.b 0 0 k) .nil):=by
  refine ⟨rfl,CB hok h0 hg.1,?_,?_,trivial⟩
  · unfold gW at hat ⊢;rw [hs.1,hs.2];exact hat
  rw [hds];exact wG h0 n.op n.b k (ds n) 0 0 hk hg.2
 have h1:=iA _ _ [] hw2;have h2:(fJ up fr).E1 0 () n ats k=row (.cons [] (iK up fr n 0) ats (jA up fr n.op n.b 0 0 k) .nil)++[]:=by rw [jT];simp [row]
 have hrow:=kW hpp;have hlen:((fJ up fr).E1 0 () n ats k).length=t.length:=by
  rw [rT,hrow];simp [row]
 rw [<-h2] at h1;exact ⟨h1,lA h1 aA,hlen⟩
end
section
open Go.RowKit
theorem rQ (p:List Nd) (n:Nd) (a:List Nd) (k x:Fo):bO (.cons p n a k x)=p++bO x:=rfl
end
end Go.Proofs.YtjllmblbbgojbaaGreat
