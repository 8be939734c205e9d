/- Merged: SenseA, Match, FineS, FineL, FineT, FineX, Fines, Tr, FixF, TermL, Guarded. -/
import Derived.Test.YtjllmblbbgojbaaGreatXShort3
import Derived.Test.YtjllmblbbgojbaaGreatXFineW
namespace Go.Proofs.YtjllmblbbgojbaaGreat
set_option linter.unusedVariables false
set_option linter.unusedSimpArgs false
open Go.RowKit
open Go.Value renaming slice → O
open Option renaming none → S
section
open Go.Lib renaming hid->aB
set_option maxHeartbeats 4000000
set_option maxRecDepth 100000
def EG (z:Int):List PanicEntry:=[{ v:=.iface 54 (.agg #[.int .i64 z]),recovered:=false }]
theorem kX {A:Option Addr} {n c:Nat} {w:World}:Calls Tryz.prog 41 #[O A n c,.int .i64 0] w (fun e w'=>e=.returned (O A n c)/\w'=w):=by
 go_in;go_wp2_with fail;go_ret;exact⟨rfl,rfl⟩
theorem mH {A:Option Addr} {n c:Nat} {w:World} {z:Int} (hz:z ≠ 0):Calls Tryz.prog 41 #[O A n c,.int .i64 z] w (fun e w'=>e=.panicked (EG z)/\w'=w):=by
 have d1:(z != 0)=true:=by simpa using hz
 clear hz;go_in;go_wp2_with fail;exact⟨rfl,rfl,rfl⟩
def gY (A:Option Addr) (n c:Nat) (l:List Nd):List Value->List TT->Prop
 | [],[]=>True
 | v::vs,x::xs=>(∃A' n' c',v=O A' n' c'/\∀(R:Nat->Prop) (w:World),bP R w A n c l->bP R w A' n' c' (aY x))/\gY A n c l vs xs
 | _,_=>False
section
variable {A : Option Addr} {n c : Nat} {l : List Nd}
theorem gY.len:∀{vs:List Value} {xs:List TT},gY A n c l vs xs->vs.length=xs.length
 | [],[],_=>rfl
 | [],_::_,h=>h.elim
 | _::_,[],h=>h.elim
 | v::vs,x::xs,h=>by simp[gY.len h.2]
theorem gY.add {A':Option Addr} {n' c':Nat} {y:TT} (ht:∀(R:Nat->Prop) (w:World),bP R w A n c l->bP R w A' n' c' (aY y)) : ∀{vs:List Value} {xs:List TT},gY A n c l vs xs->gY A n c l (vs++[O A' n' c']) (xs++[y])
 | [],[],_=>⟨⟨A',n',c',rfl,ht⟩,trivial⟩
 | [],_::_,h=>h.elim
 | _::_,[],h=>h.elim
 | _::_,_::_,h=>⟨h.1,h.2.add ht⟩
theorem gY.rev:∀{vs:List Value} {xs:List TT},gY A n c l vs xs->gY A n c l vs.reverse xs.reverse
 | [],[],_=>trivial
 | [],_::_,h=>h.elim
 | _::_,[],h=>h.elim
 | v::vs,x::xs,h=>by
  obtain⟨⟨A',n',c',rfl,ht⟩,h2⟩:=h;rw[List.reverse_cons,List.reverse_cons];exact gY.add ht h2.rev
theorem gY.slices:∀{vs:List Value} {xs:List TT},gY A n c l vs xs->∀v ∈ vs,∃A n c,v=O A n c
 | [],[],_=>fun v hv=>by cases hv
 | [],_::_,h=>h.elim
 | _::_,[],h=>h.elim
 | v::vs,x::xs,h=>fun y hy=>by
  obtain⟨⟨A',n',c',e,_⟩,h2⟩:=h;rcases List.mem_cons.1 hy with rfl | hy
  · exact⟨A',n',c',e⟩
  · exact gY.slices h2 y hy
theorem gY.at_:∀{vs:List Value} {xs:List TT} (k:Nat),gY A n c l vs xs->(hk:k<xs.length)->∃A' n' c',vs[k]? = some (O A' n' c')/\∀(R:Nat->Prop) (w:World),bP R w A n c l->bP R w A' n' c' (aY xs[k])
 | [],[],_,_,hk=>absurd hk aD
 | [],_::_,_,h,_=>h.elim
 | _::_,[],_,h,_=>h.elim
 | v::vs,x::xs,0,h,_=>by
  obtain⟨⟨A',n',c',e,ht⟩,_⟩:=h;exact⟨A',n',c',by simp[e],ht⟩
 | v::vs,x::xs,k+1,h,hk=>by
  obtain⟨A',n',c',e,ht⟩:=gY.at_ k h.2 (by simpa using hk);exact⟨A',n',c',by simpa using e,by simpa using ht⟩
end
def pE (A:Option Addr) (n c:Nat) (x:TT) (q:TT×List TT) (w:World) (e:Ending) (w':World):Prop:=Below w.heap.size w w'/\∃A1 n1 c1 B d vs,e=.returned (.agg #[O A1 n1 c1,O B q.2.length d])/\(∀(R:Nat->Prop) (w2:World),bP R w2 A n c (aY x)->bP R w2 A1 n1 c1 (aY q.1))/\w'.ownsRow w.heap.size 28 1 (O B q.2.length d) q.2.length vs/\gY A n c (aY x) vs q.2
theorem F7 {w w3:World} {B:Option Addr} {j d:Nat} {vs:List Value} (hb:Below w.heap.size w w3) (hk:aS w3 w.heap.size 83 #[O S 0 0,O S 0 0]) (hs:aS w3 (w.heap.size+1) 83 #[O S 0 0,O B j d]) (ho:w3.ownsRow (w.heap.size+2) 28 1 (O B j d) j vs) (u:Value) :
 Below w.heap.size w (((w3.setCell ⟨w.heap.size+1,0,S⟩ u).setCell ⟨w.heap.size,0,S⟩ u).setCell ⟨w.heap.size,1,S⟩ (O B j d))/\(((w3.setCell ⟨w.heap.size+1,0,S⟩ u).setCell ⟨w.heap.size,0,S⟩ u).setCell ⟨w.heap.size,1,S⟩ (O B j d)).ownsRow w.heap.size 28 1 (O B j d) j vs ∧
 aS (((w3.setCell ⟨w.heap.size+1,0,S⟩ u).setCell ⟨w.heap.size,0,S⟩ u).setCell ⟨w.heap.size,1,S⟩ (O B j d)) w.heap.size 83 #[u,O B j d]:=by
 have hl:=hs.lt;have g1:=bG w3 (w.heap.size+1) 0 u;have g2:=bG (w3.setCell ⟨w.heap.size+1,0,S⟩ u) w.heap.size 0 u;have g3:=bG ((w3.setCell ⟨w.heap.size+1,0,S⟩ u).setCell ⟨w.heap.size,0,S⟩ u) w.heap.size 1 (O B j d);have hbs:=hb.size;have hs1:=g1.size;have hs2:=g2.size;have no:∀g,g<w.heap.size+2->(Value.slice B j d).ownBlock ≠ some g:=fun g hg e=>by have:=(aR ho e).1;omega
 have o1:=World.ownsRow.kept ho g1 (.inr (no _ aA));have o2:=World.ownsRow.kept o1 g2 (.inr (no _ aA));have o3:=World.ownsRow.kept o2 g3 (.inr (no _ aA));refine⟨((hb.grown g1 aA (fun g e=>by injection e with e;omega)).grown g2 aA (fun g e=>by injection e with e;omega)).grown g3 aA (fun g e=>by injection e with e;omega),⟨o3.1,?_⟩,by simpa using ((hk.grown g1 aK).set_ 0 u).set_ 1 (O B j d)⟩;rcases o3.2 with h | ⟨g,cap,cur,h1,h2,h3⟩
 · exact .inl h
 exact .inr ⟨g,cap,cur,h1,by omega,h3⟩
theorem mC {A:Option Addr} {n c:Nat} {x:TT} {w:World} (h:bB w A n c (aY x)) (hrt:mB x) :
 Calls Tryz.prog 33 #[O A n c] w (pE A n c x (dL x) w):=by
 obtain⟨i1,hi',hy0',hy1',hy2'⟩:=info_parts vK;have HI1:=aB hi';have HZ0:=aB hy0';have HZ1:=aB hy1';have HZ2:=aB hy2';obtain⟨m,hm⟩ : ∃m,m=cL x:=⟨_,rfl⟩;have hmf:m<=4096:=by rw[hm];exact hrt.few
 have HM:=aB hm;have HT:=aB h;have HRT:=aB hrt;have hln:=h.len;have hn4:n<=4096:=by have:(aY x).length=cL x:=rfl;omega
 obtain⟨F,L,hFL⟩ : ∃F L,dL x=(F,L):=⟨_,_,rfl⟩;rw[hFL];have hFL2:hd m x=(F,L):=by rw[hm];exact hFL
 have HFL:=aB hFL2;obtain⟨tx,htx⟩ : ∃t,t=aY x:=⟨_,rfl⟩;have HTX:=aB htx;have hb0:=(aP w (.cells #[O S 0 0,O S 0 0] 83)).alloc aD (.cells #[O S 0 0,O S 0 0] 83);have HB0:=aB hb0;have HK0:Hid (aS ((w.alloc (.cells #[O S 0 0,O S 0 0] 83)).alloc (.cells #[O S 0 0,O S 0 0] 83)) w.heap.size 83 #[O S 0 0,O S 0 0]):=aB ((aS.new w _ _).alloc _);have HS0:Hid (aS ((w.alloc (.cells #[O S 0 0,O S 0 0] 83)).alloc (.cells #[O S 0 0,O S 0 0] 83)) (w.heap.size+1) 83 #[O S 0 0,O S 0 0]):=aB (aS.new' aD);clear hi' hy0' hy1' hy2' hm h hrt hFL hFL2 hb0 hln;unfold pE;rw[<-htx];clear htx;go_in;go_wp2_with fail;go_loopw [0] (fun tv wr=>∃(m' n' c' j d:Nat) (A' B:Option Addr) (y:TT) (vs:List Value) (ys:List TT),tv=O A' n' c'/\j+n'<=4096/\Hid (mB y)/\Hid (cL y<=m')/\Hid ((hd m' y).1=F/\(hd m' y).2++ys.reverse=L)/\Hid (∀(R:Nat->Prop) (w':World),bP R w' A n c tx->bP R w' A' n' c' (aY y))/\Hid (wr.ownsRow (w.heap.size+2) 28 1 (O B j d) j vs)/\Hid (gY A n c tx vs ys)/\Hid (Below w.heap.size w wr)/\Hid (aS wr w.heap.size 83 #[O S 0 0,O S 0 0])/\Hid (aS wr (w.heap.size+1) 83 #[O S 0 0,O B j d])) (fun tv _=>EU tv)
 case atStart=>exact⟨m,n,c,0,0,A,S,x,[],[],rfl,by omega,HRT,aB (by rw[HM.o];exact Nat.le_refl _),aB (by rw[HFL.o];exact⟨rfl,by simp⟩),aB (fun R w' hb=>by rw[HTX.o] at hb;exact hb),aB (World.ownsRow_nil _ _ _ _),aB trivial,HB0,HK0,HS0⟩
 case round =>
  obtain⟨m',n',c',j,d,A',B,y,vs,ys,rfl,hjn,hrt,hm',hsp,htc,hown,hpcs,hbw,hkr,hks⟩:=hrel;obtain⟨n1,a1,k1⟩:=y;have hxb:bB wr A n c tx:=by rw[HTX.o];exact HT.o.below hbw.o
  have HT1:Hid (bB wr A' n' c' (aY (n1,a1,k1))):=aB (htc.o _ _ hxb);clear hxb;have hlen:=HT1.o.len;have hn0:0<n':=by rw[<-hlen];simp[aY]
  have hcap:=HT1.o.cap;obtain⟨b,off,rfl,hb,hc0,_,_⟩:=HT1.o.at_ hn0;rw[Nat.zero_mul,Nat.add_zero,show bD (aY (n1,a1,k1)) 0=n1 from rfl] at hc0;have hbs:=hbw.o.size;have hsl:=hks.o.lt;by_cases h6:n1.op=6;rotate_left
  · have h6b:(n1.op==6)=false:=by simpa using h6
    have HE:Hid ((F,L)=((n1,a1,k1),ys.reverse)):=aB (by
     have h1:=hsp.o;rw[rE (x:=(n1,a1,k1)) h6] at h1;rw[<-h1.1,<-h1.2];simp)
    have hjl:j=ys.length:=by have:=hpcs.o.len;have:=hown.o.1;omega
    have HJL:=aB hjl;have HREV:=aB (AT hown.o aA (gY.slices hpcs.o));have zs:=aS.cell hks.o;generalize n1.op=op at *;clear h6 hlen hjl;go_wp2_with fail;refine (HREV.o).mono ?_;rintro e w3 ⟨rfl,ho3,hg3⟩;have hblk:∀g,(Value.slice B j d).ownBlock=some g->w.heap.size+2<=g:=fun g hg=>(aR hown.o hg).1;have HB3:=aB (hbw.o.grown hg3 hbs (fun g hg=>by have:=hblk g hg;omega));have HK3:=aB (hkr.o.grown hg3 (fun e=>by have:=hblk _ e.symm;omega));have HS3:=aB (hks.o.grown hg3 (fun e=>by have:=hblk _ e.symm;omega));have HO3:=aB ho3;have zr3:=aS.cell HK3.o;have fr3:=aS.frozen HK3.o;have zs3:=aS.cell HS3.o;have fs3:=aS.frozen HS3.o;obtain⟨f1,f2,f3⟩:=F7 HB3.o HK3.o HS3.o HO3.o (O (some ⟨b,off,S⟩) n' c');have HF1:=aB f1;have HF2:=aB f2;have zz:=aS.cell f3;clear f1 f2 f3;clear ho3 hg3 hblk zs;go_wp2_with fail;refine bodyPost_ret (v:=.agg #[O (some ⟨b,off,S⟩) n' c',O B j d]) (by simp[results,Tryz.results33,go_sem,zz]) rfl ?_;have f2:=HF2.o;obtain⟨rfl,rfl⟩:=Prod.mk.inj HE.o;refine⟨HF1.o,some ⟨b,off,S⟩,n',c',B,d,vs.reverse,?_,htc.o,?_,gY.rev hpcs.o⟩
    · rw[HJL.o];simp
    rw[List.length_reverse,<-HJL.o];exact f2
  obtain⟨nx,ax,kx,ny,ay,ky,rfl,hsplit⟩:=pF hrt.o h6;obtain⟨r1,hr1⟩ : ∃r1,r1=aY (nx,ax,kx):=⟨_,rfl⟩;obtain⟨r2,hr2⟩ : ∃r2,r2=aY (ny,ay,ky):=⟨_,rfl⟩;obtain⟨hf1,hf2,hq,hend⟩:=hsplit;cases m' with
  | zero=>have:=hm'.o;unfold cL at this;rw[show aY _=_ from hq] at this;simp at this
  | succ m' =>
  have hsp2:=hsp.o;rw[CU h6] at hsp2
  change aY _=_ at hq
  have hq2:aY (n1,a1,Fo.cons [] nx ax kx (.cons [] ny ay ky .nil))=⟨6,0,0⟩::(r1++r2):=by rw[hq,hr1,hr2];rfl
  obtain⟨p,hp⟩ : ∃p,p=1+r1.length:=⟨_,rfl⟩;have hend2:jX (aY (n1,a1,Fo.cons [] nx ax kx (.cons [] ny ay ky .nil))) 1=(p:Int):=by rw[hp,hr1];exact hend
  have hm2:=hm'.o;unfold cL at hm2;generalize aY (n1,a1,Fo.cons [] nx ax kx (.cons [] ny ay ky .nil))=tc at *;have hql:n'=p+r2.length:=by rw[<-hlen,hq2,hp];simp;omega
  have hr2l:0<r2.length:=by rw[hr2];simp[aY]
  have hd2:tc.drop p=r2:=by rw[hq2,hp,Nat.add_comm,List.drop_succ_cons,List.drop_left]
  have hd1:(tc.take p).drop 1=r1:=by rw[hq2,hp,Nat.add_comm,List.take_succ_cons,List.drop_succ_cons,List.drop_zero,List.take_left]
  obtain⟨A2,hcut2,hcutr2⟩:=jJ (some ⟨b,off,S⟩) n' c' p aA;obtain⟨A3,hcut3,hcutr3⟩:=mD (some ⟨b,off,S⟩) n' c' 1 p aA aA hcap;rw[show ((1:Nat):Int)=1 from rfl] at hcut3;have HT2:Hid (∀(R:Nat->Prop) (w':World),bP R w' A n c tx->bP R w' A2 (n'-p) (c'-p) (aY (ny,ay,ky))):=aB fun R w' h=>by
   have:=hcutr2 _ _ _ (htc.o R w' h)
   rwa [hd2,hr2] at this
  have HT3:Hid (∀(R:Nat->Prop) (w':World),bP R w' A n c tx->bP R w' A3 (p-1) (c'-1) (aY (nx,ax,kx))):=aB fun R w' h=>by
   have:=hcutr3 _ _ _ (htc.o R w' h)
   rwa [hd1,hr1] at this
  have HEND:=aB (iA HT1.o 1);rw[hend2] at HEND;have HF1:Hid (mB (nx,ax,kx)):=aB hf1;have HSP2:=aB hsp2;have HML:Hid (cL (nx,ax,kx)<=m'):=aB (by have:=hm2;rw[hq2] at this;show (aY (nx,ax,kx)).length<=m';rw[<-hr1];simp at this;omega);have hp1:1<=p:=aA;have hpn:p<n':=aA;clear hf1 hf2 hq hq2 hend hend2 hsp2 hr1 hr2 hp hql hr2l hd1 hd2 hcutr2 hcutr3 hlen hm2;rw[h6] at hc0;clear h6;go_wp2_with fail;refine (HEND.o).mono ?_;rintro e w3 ⟨rfl,hb3⟩;have HB3:=aB (hbw.o.trans (hb3.mono hbs));have HO3:=aB (bL hown.o hb3);have HK3:=aB (hkr.o.below hb3 hkr.o.lt);have HS3:=aB (hks.o.below hb3 hks.o.lt);have hbs3:=HB3.o.size;have hs3:=hb3.size;have hz3:w.heap.size+2<=w3.drew.heap.size:=by show w.heap.size+2<=w3.heap.size;omega
  have zs0:w3.drew.cell? ⟨w.heap.size+1,1,S⟩=some (O B j d):=HS3.o.cell 1;clear hb3;go_wp2_with fail;refine cP 8 (fun w'=>w'.cell? ⟨w.heap.size+1,1,S⟩=some (O B j d)) aC ?_ (fun hZ => ?_)
  · (try dsimp only);exact zs0
  refine aN 0 hZ ?_;refine aN 1 hZ ?_;refine aN 2 hZ ?_;refine aN 3 hZ ?_;refine aN 4 hZ ?_;have HO4:=aB (bL HO3.o (aV (Below.refl w3.heap.size w3) 1));have hs4:(w3.drew.alloc (.cells #[O A2 (n'-p) (c'-p)] 28)).cell? ⟨w.heap.size+1,1,S⟩=some (O B j d):=((HS3.o.drewN 1).alloc _).cell 1;refine bA (i:=5) aC rfl rfl (fun K hK => ?_);go_simp;refine hK.o _ _ (fun _ => ?_) ?_
  · (try dsimp only);exact hs4
  clear hK K;try simp only[p7]
  replace hZ:=hs4
  refine bA (i:=6) aC rfl rfl (fun K hK => ?_);refine eX (.tmp 13) (.tmp 17) 65 28 rfl (w.heap.size+2) i1 _ 24 Tryz.underlying65 HI1.o HZ0.o HZ1.o HZ2.o rfl aE (O B j d) j vs (O A2 (n'-p) (c'-p)) rfl w3.drew aF aF HO4.o _ aF aF aA hz3 ?_;intro A5 c5 w5 happ5;have hne5:∀g,g<w.heap.size+2->some g ≠ (Value.slice B j d).ownBlock:=fun g hg e=>by have:=(aR HO4.o e.symm).1;omega
  have HB5:=aB ((aV HB3.o 1).grown happ5.grown hbs3 (fun g hg=>by have:=(aR HO4.o hg).1;omega));have HK5:=aB ((HK3.o.drewN 1).grown happ5.grown (hne5 _ aA));have HS5:=aB ((HS3.o.drewN 1).grown happ5.grown (hne5 _ aA));have hs5:w5.cell? ⟨w.heap.size+1,1,S⟩=some (O B j d):=HS5.o.cell 1;have hf5:w5.frozen? ⟨w.heap.size+1,1,S⟩=false:=HS5.o.frozen 1;have hob:∀g,(Value.slice A5 (j+1) c5).ownBlock=some g->w.heap.size+2<=g:=fun g hg=>(happ5.new g hg).elim (fun h1=>(aR HO4.o h1).1) (fun h1=>by omega);have hg6:=bG w5 (w.heap.size+1) 1 (O A5 (j+1) c5);have HO6:=aB (World.ownsRow.kept happ5.own hg6 (.inr fun e=>by have:=hob _ e;omega));have HB6:=aB (HB5.o.grown hg6 (by have:=HB5.o.size;omega) (fun g e=>by injection e with e;omega));have HK6:=aB (HK5.o.grown hg6 aK);have HS6:Hid (aS (w5.setCell ⟨w.heap.size+1,1,S⟩ (O A5 (j+1) c5)) (w.heap.size+1) 83 #[O S 0 0,O A5 (j+1) c5]):=aB (HS5.o.set_ 1 _);clear happ5 hne5 hob hg6;refine hK.o _ _ (fun _ => ?_) ?_
  · (try dsimp only);exact hs5
  clear hK K;try simp only[p7]
  replace hZ:=hs5
  refine aN 7 hZ ?_;refine bA (i:=8) aC rfl rfl (fun K hK => ?_);go_simp;refine hK.o _ _ (fun h=>absurd rfl h) ?_;clear hK K;try simp only[p7]
  refine dE aC ?_ _;go_wp2_with fail;go_roundw
  case rel=>exact⟨m',p-1,c'-1,j+1,c5,A3,A5,(nx,ax,kx),vs++[O A2 (n'-p) (c'-p)],ys++[(ny,ay,ky)],rfl,by omega,HF1,HML,aB ⟨HSP2.o.1,by rw[<-HSP2.o.2];simp⟩,HT3,HO6,aB (gY.add HT2.o hpcs.o),HB6,HK6,HS6⟩
  case measure=>simp only[EU];omega
end

theorem j8:∀(m:Nat) (x:TT),mB x->(hd m x).2.length<(aY x).length
 | 0,x,_=>by
  obtain⟨n,a,k⟩:=x;simp[hd,aY]
 | m+1,(n,a,k),h=>by
  by_cases h6:n.op=6
  · obtain⟨n1,a1,k1,n2,a2,k2,rfl,hs⟩:=pF h h6;rw[CU h6];have e1:=j8 m (n1,a1,k1) hs.fst;have hr:=congrArg List.length hs.eq;simp only[aY,List.length_cons,List.length_append] at hr e1 ⊢;simp only[List.length_nil];omega
  · rw[rE (x:=(n,a,k)) h6];simp[aY]


def OD:Nat->List Bool
 | 0=>[]
 | r+1=>true::false::OD r
theorem zD:∀r:Nat,(List.replicate r [true,false]).flatten=OD r
 | 0=>rfl
 | r+1=>by rw[List.replicate_succ,List.flatten_cons,zD r];rfl
theorem OE {n:Nd} {nb:Nat} (h:n.op=12) (hb:n.b=(nb:Int)):ds n=OD nb:=by
 unfold ds;rw[if_pos h,hb,Int.toNat_natCast,zD]
theorem wR:∀(r:Nat) {t:List Nd} {p:Nat} {F:Fo},At t p (OD r) F->p+3*r<=t.length
 | 0,t,p,F,h=>by have:=h.le;omega
 | r+1,t,p,F,h=>by
  obtain⟨pre1,n1,a1,k1,nx1,rfl,s1⟩:=h.step;obtain⟨pre2,n2,a2,k2,nx2,rfl,s2⟩:=s1.next.step;have h1:=wR r s2.next;have e1:pre1.length=1:=s1.plen;have e2:pre2.length=0:=s2.plen;have l1:0<(aY (n1,a1,k1)).length:=by simp[aY]
  have l2:0<(aY (n2,a2,k2)).length:=by simp[aY]
  omega
section

def PP:List TT->List TT
 | a::_::r=>a::PP r
 | _=>[]
def kS:List TT->List TT
 | _::b::r=>b::kS r
 | _=>[]
def J8 (rec_:List Int->TT->Bool) (zs:List Int):List Int->List TT->List TT->Bool
 | p::pl,t::ts,b::bs=>(LX p.toNat t&&NX rec_ (p.toNat+1) zs b)&&J8 rec_ zs pl ts bs
 | _,_,_=>true
def iC (k:Fo):List Int:=(cH k).map (·.a)
def OQ (n:Nat):List Int:=(List.range n).map fun j:Nat=>(100:Int)+(j:Int)
def OL (ca:Int->Nat->Nat) (m:Nat) (x:TT):Bool :=
 J8 (lM (iC x.2.2) ca m) (OQ x.1.b.toNat) (iC x.2.2) (PP (cW x.2.2)) (kS (cW x.2.2))
def iK (e:Int) (w:World) (en:Ending) (w':World):Prop:=en=.returned (.int .i64 e)/\Below w.heap.size w w'
theorem FN:∀{k:Fo} {y:TT},y ∈ cW k->∀m ∈ aY y,m ∈ row k
 | .nil,y,h,_,_=>by cases h
 | .cons p n a k x,y,h,m,hm=>by
  rw[show cW (.cons p n a k x)=(n,a,k)::cW x from rfl] at h;simp only[row];rcases List.mem_cons.1 h with rfl | h
  · simp only[aY,List.mem_cons,List.mem_append] at hm ⊢;rcases hm with rfl | hm | hm
    · exact .inr (.inl rfl)
    · exact .inr (.inr (.inl hm))
    exact .inr (.inr (.inr (.inl hm)))
  · have:=FN h m hm;simp only[List.mem_cons,List.mem_append];exact .inr (.inr (.inr (.inr this)))
abbrev q7 (w:World) (base:Nat) (A:Option Addr) (n c:Nat) (zs:List Int):Prop:=w.ownsRow base 3 1 (O A n c) n (zs.map (Value.int .i64))
theorem KD:(Tryz.prog.info? 3).map (fun i=>(i.zero,i.size,i.bytes))=some (some (.int .i64 0),1,8):=by kernel_rfl
def uV (v u:Value):Prop:=∀g,v.ownBlock=some g->u.ownBlock ≠ some g
theorem uV.symm {v u:Value} (h:uV v u):uV u v:=fun g hu hv=>h g hv hu
theorem j5 {w w':World} {base:Nat} {e:TypeId} {size n:Nat} {v u:Value} {xs:List Value} (h:w.ownsRow base e size v n xs) (hg:w.grownBy w' u.ownBlock) (hs:uV v u):w'.ownsRow base e size v n xs:=by
 refine h.kept hg ?_;cases hv:v.ownBlock with
 | none=>exact .inl rfl
 | some g=>exact .inr fun e=>hs g hv e.symm
theorem uV.app {w w':World} {base base':Nat} {e e':TypeId} {size size' n n':Nat} {v u:Value} {xs ys:List Value} {A:Option Addr} {c:Nat} (h:w.ownsRow base e size v n xs) (hs:uV v u) (ha:eH w w' base' e' size' u A n' c ys):uV v (O A n' c):=fun g hv hu=>by
 rcases ha.new g hu with h1 | h1
 · exact hs g hv h1
 have:=(aR h hv).2.1;omega
theorem C7 (n:Nat):madeCells #[Value.int .i64 0] n=(List.replicate n (Value.int .i64 0)).toArray:=by
 apply Array.ext
 · simp[madeCells]
 intro i h1 h2;simp[madeCells,Nat.mod_one]
end
section
def uP (σ:Int->Nd->TT) (pop pb:Int):Nat->Int->Fo->Fo
 | _,_,.nil=>.nil
 | j,a,.cons p n ats k x =>
  if n.op=1 then .cons p (σ (a+aQ pop pb j) n).1 (σ (a+aQ pop pb j) n).2.1 (σ (a+aQ pop pb j) n).2.2 (uP σ pop pb (j+1) a x)
  else .cons p n ats (uP σ n.op n.b 0 (a+aQ pop pb j) k) (uP σ pop pb (j+1) a x)
def yP (σ:Int->Nd->TT) (a:Int) (x:TT):TT:=if x.1.op=1 then σ a x.1 else (x.1,x.2.1,uP σ x.1.op x.1.b 0 a x.2.2)
section
variable {σ : Int->Nd->TT}
theorem mU {a:Int} {x:TT} (h:x.1.op=1):yP σ a x=σ a x.1:=by unfold yP;rw[if_pos h]
theorem jG {a:Int} {x:TT} (h:x.1.op ≠ 1):yP σ a x=(x.1,x.2.1,uP σ x.1.op x.1.b 0 a x.2.2):=by unfold yP;rw[if_neg h]
theorem jU (pop pb:Int) (j:Nat) (a:Int) (p:List Nd) (n:Nd) (ats:List Nd) (k x:Fo):uP σ pop pb j a (.cons p n ats k x)=.cons p (yP σ (a+aQ pop pb j) (n,ats,k)).1 (yP σ (a+aQ pop pb j) (n,ats,k)).2.1 (yP σ (a+aQ pop pb j) (n,ats,k)).2.2 (uP σ pop pb (j+1) a x):=by
 simp only[uP,yP];split<;>rfl
theorem mG (p:List Nd) (n:Nd) (a:List Nd) (k x:Fo):cW (.cons p n a k x)=(n,a,k)::cW x:=rfl
theorem eO {op b:Int} (h4:op ≠ 4) (h5:op ≠ 5) (h7:op ≠ 7) (h12:op ≠ 12) (k:Int):aQ op b k=0:=by
 unfold aQ;rw[if_neg aA,if_neg aA]
def PQ:Fo->Prop
 | .nil=>True
 | .cons _ n _ k x=>(n.op=12->0<=n.b)/\PQ k/\PQ x
variable {places : List Int} {ca : Int->Nat->Nat}
end
end
section
def OK (ca:Int->Nat->Nat) (x:TT):Bool:=OL ca (cL x) x
section
variable {σ : Int->Nd->TT} {places : List Int} {ca : Int->Nat->Nat}
def PF (ca:Int->Nat->Nat):Fo->Bool
 | .nil=>true
 | .cons _ n a k x=>((if n.op=12 then OK ca (n,a,k) else true)&&PF ca k)&&PF ca x
def O4:Fo->Prop
 | .nil=>True
 | .cons _ n ats k x=>(n.op=1->ats=[]/\k=.nil)/\O4 k/\O4 x
theorem GA {op b:Int} (h:op=12->0<=b) (k:Int):0<=aQ op b k:=by
 unfold aQ;split
 · omega
 split
 · rename_i h2;exact h h2.1
 omega
end
end
def rH (up fr:Int) (n:Nd) (a:Int):Nd:=if n.op=1/\fr+a<=n.a then ⟨n.op,n.a+up,n.b⟩ else n
def sS (up fr:Int) (pop pb:Int):Nat->Int->Fo->Fo
 | _,_,.nil=>.nil
 | j,a,.cons p n ats k x=>.cons p (rH up fr n (a+aQ pop pb j)) ats (sS up fr n.op n.b 0 (a+aQ pop pb j) k) (sS up fr pop pb (j+1) a x)
theorem sT (up fr:Int) (n:Nd) (a:Int):(rH up fr n a).op=n.op/\(rH up fr n a).b=n.b:=by unfold rH;split<;>exact⟨rfl,rfl⟩
theorem LF (up fr:Int) (n:Nd) (a:Int):(jB up fr).em () n a=[rH up fr n a]:=by
 simp only[jB,rH];split<;>rfl
theorem rK (up fr:Int) (pop pb:Int) : ∀(j:Nat) (a:Int) (F:Fo),(jB up fr).E pop pb j a () F=row (sS up fr pop pb j a F)
 | _,_,.nil=>rfl
 | j,a,.cons p n ats k x=>by
  have e:∀s:Unit,s=():=fun _=>rfl;rw[cV.E_cons,cV.E1,LF,e ((jB up fr).nx () n (a+aQ pop pb j)),e ((jB up fr).S1 (a+aQ pop pb j) () n k),rK up fr _ _ _ _ k,rK up fr pop pb (j+1) a x];simp[sS,row]
theorem AN (up fr:Int) (a:Int) (n:Nd) (ats:List Nd) (k:Fo):(jB up fr).E1 a () n ats k=rH up fr n a::(ats++row (sS up fr n.op n.b 0 a k)):=by
 have e:∀s:Unit,s=():=fun _=>rfl;rw[cV.E1,LF,e ((jB up fr).nx () n a),rK];rfl
theorem LD {up fr:Int} {n:Nd} {a:Int} (hok:eE n=true) (h0:0<=up) (hg:(jB up fr).ok () n a=true):eE (rH up fr n a)=true:=by
 unfold rH;split
 · rename_i h
   simp only[jB,if_pos h,decide_eq_true_eq] at hg;simp only[eE,Bool.and_eq_true,decide_eq_true_eq] at hok ⊢;obtain⟨⟨h1,h2⟩,h3⟩:=hok;refine⟨⟨?_,h2⟩,h3⟩;rw[h.1] at h1 ⊢;simp only[bW,if_true,decide_eq_true_eq] at h1 ⊢;omega
 exact hok
theorem DL {up fr:Int} (h0:0<=up) (pop pb:Int) : ∀(F:Fo) (dl:List Bool) (j:Nat) (a:Int),Wf dl F->(jB up fr).G pop pb j a () F=true->Wf dl (sS up fr pop pb j a F)
 | .nil,[],_,_,_,_=>trivial
 | .nil,_::_,_,_,h,_=>h.elim
 | .cons _ _ _ _ _,[],_,_,h,_=>h.elim
 | .cons p n ats k x,d::dr,j,a,h,hg=>by
  obtain⟨hp,hok,hat,hk,hx⟩:=h;rw[cV.G_cons,cV.G1,Bool.and_eq_true,Bool.and_eq_true] at hg;obtain⟨⟨hg1,hg2⟩,hg3⟩:=hg;have hs:=sT up fr n (a+aQ pop pb j);have hds:ds (rH up fr n (a+aQ pop pb j))=ds n:=by simp only[ds,hs.1,hs.2]
  refine⟨hp,LD hok h0 hg1,?_,?_,DL h0 pop pb x dr (j+1) a hx hg3⟩
  · unfold iY at hat ⊢;rw[hs.1,hs.2];exact hat
  · rw[hds];exact DL h0 n.op n.b k (ds n) 0 (a+aQ pop pb j) hk hg2
theorem sQ (p:List Nd) (n:Nd) (a:List Nd) (k x:Fo):cH (.cons p n a k x)=p++cH x:=rfl
end Go.Proofs.YtjllmblbbgojbaaGreat
