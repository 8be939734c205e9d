/- Merged: FuB, GoH. -/
import Derived.Test.YtjoddliplahgkaaGreatTGoG
import Derived.Test.YtjoddliplahgkaaGreatTNmD
namespace Go.Proofs.YtjoddliplahgkaaGreat
set_option linter.unusedVariables false
set_option linter.unusedSimpArgs false
open Go.RowKit
open Go.Value renaming int → O, slice → Z
open Go.IntKind renaming i64 → Y
open Option renaming none → I, some → E
open Go.Obj renaming cells → J
section
open Go.Lib renaming hid->aB
set_option maxHeartbeats 4000000
set_option maxRecDepth 100000
theorem JZ(R:Nat->Prop)(w:aAB):cJ R w [O Y 0,O Y 0,O Y 0,Z I 0 0,Z I 0 0,Z I 0 0] ⟨0,0,0⟩ [] .nil :=
 ⟨_,_,_,rfl,⟨I,0,0,rfl,rfl,XU _,fun h=>absurd h aA⟩,gE.nil R w,gE.nil R w⟩
theorem JC{A:ZZ}{nn c:Nat}{l:List Nd}{w:aAB}(h:aX w A nn c l):
 Calls Tryz.prog 44 #[Z A nn c] w fun e w'=>ZY w w'/\∃o D b,e=.returned (.tuple #[.agg o.toArray,.bool b])/\cJ (eC w w') w' o (gC l).1 D (gC l).2/\bE (gC l).2<=4096/\fU (decide ((gC l).1.op=12)) 0 (gC l).2:=by
 refine (kG h).mono ?_;rintro e w' ⟨s,⟨U,rfl⟩|⟨o,n,D,k,rfl,ht,F,U⟩⟩
 . have e:gC l=(⟨0,0,0⟩,.nil):=XN U;rw[e];exact⟨s,_,[],false,rfl,JZ _ _,by simp[bE],trivial⟩
 have e:gC l=(n,k):=by
  unfold gC;rw[XP U,F]
 rw[e];obtain⟨_,_,_,_,G,_,_,z⟩:=pD U F;have:=eP k;exact⟨s,o,D,true,rfl,ht,by simp only;omega,G⟩
theorem rO{A:ZZ}{nn c:Nat}{l:List Nd}{w:aAB}(h:aX w A nn c l):
 Calls Tryz.prog 64 #[Z A nn c] w (J3 (i7 (gC l).2) w):=by
 obtain⟨i0,hi,d2,d3,d4⟩:=info_parts v5;obtain⟨d6,d9,e0,e1⟩:=aAE hi d2 d3 d4;clear hi d2 d3 d4;go_in;go_wp2_with fail;refine (JC h).mono ?_;rintro e w2 ⟨a9,xs,e8,b,rfl,ht,b9,z⟩;have b0:=N8 l;rcases htop:gC l with⟨n,kids⟩;rw[htop]at ht b9 z b0;simp only at ht b9 z b0;have c7:=aB htop;clear htop;obtain⟨sk,sa,sf,rfl,⟨Ak,nk,ck,rfl,F⟩,⟨Aa,na,ca,rfl,e2⟩,⟨Af,nf,cf,rfl,e3⟩⟩:=ht;have c2:=aB F.len;have e9:nk<=4096:=by have:=F.len;omega
 have b6:=aB a9;have d5:=aB (a9.alloc a9.size (J #[O Y n.op,O Y n.a,O Y n.b,Z Ak nk ck,Z Aa na ca,Z Af nf cf] 85));have c5:=aB z;have d8:=aB b0;have d7:=aB F;have b4:=aQ w2 (J #[O Y n.op,O Y n.a,O Y n.b,Z Ak nk ck,Z Aa na ca,Z Af nf cf] 85);have c1:=aB b4;clear a9 e2 e3 F z b9 b0 b4;go_wp2_with fail;go_loopw [5,6] (fun v i wr=>∃(F1 F2:Fo)(j:Nat)(A1:ZZ)(k1:Nat)(a6:List Value),kids=F1.app F2/\bE F1=j/\v=Z A1 j k1/\i=O Y (j:Int)/\ZY w wr/\ZY w2 wr ∧
  aT wr w2.heap.size 85 #[O Y n.op,O Y n.a,O Y n.b,Z Ak nk ck,Z Aa na ca,Z Af nf cf] ∧
  wr.ownsRow (w2.heap.size+1) 29 1 (Z A1 j k1) j a6/\bD (dT (w2.heap.size+1) wr (Z A1 j k1)) wr a6 (i7 F1)) (fun _ i _=>nk-(intOf i).toNat)
 case atStart=>exact⟨.nil,kids,0,I,0,[],rfl,rfl,rfl,rfl,d5.o,c1.o,aT.new _ _ _,ZE _ _ _ _,trivial⟩
 case round =>
  obtain⟨F1,F2,j,A1,k1,a6,hk,hj,rfl,rfl,b8,a2,U,a4,G⟩:=hrel;obtain⟨HK,HJ⟩:=aAC hk hj;have zc:=aT.cell U;have e7:w2.heap.size<wr.heap.size:=aT.lt U;cases F2 with
  | nil =>
   have c9:j=nk:=by rw[<-c2.o,hk,bN,hj];rfl
   have e6:¬ j<nk:=aA;clear hk hj c9;go_wp2_with fail;go_ret;have d1:kids=F1:=by rw[HK.o,iK]
   rw[c7.o];simp only;rw[d1];exact⟨b8,A1,j,k1,a6,rfl,l8 a4 (by have:=b6.o.size;omega),G.keep fun q hq=>⟨⟨by have:=b6.o.size;have:=hq.1;omega,hq.2.1,hq.2.2⟩,fun _=>rfl⟩⟩
  | cons pre nd b3 ks F2 =>
   have c9:j<nk:=by rw[<-c2.o,hk,bN,hj];simp[bE]
   have F:=d7.o.keep (R':=eC w w2) (w':=wr) (fun b hb=>⟨hb,fun o=>aP (a2.block b hb.2) o⟩);rw[hk]at F;obtain⟨b1,off,f5,f3,f4,rfl,e4,a5,g0,g1,g2,g3,g4,g5⟩:=F.at_;rw[hj]at g0 g1 g2 g3 g4 g5;have hp:=c5.o;rw[hk,fU.app]at hp;have d0:=hp.2.2.1;have b5:(row (.cons [] nd b3 ks .nil)).length<=5864062014805:=by
    have:=d8.o;rw[hk,fW]at this;simp only[row,XX,YA,YO,YP]at this ⊢;omega
   have c8:∀b,eC w w2 b->b<wr.heap.size:=fun b hb=>by have:=hb.2;omega
   have c6:=aB (rS c8 a5 d0 b5);have b7:=aB G;have b2:=aB a4;clear hk hj a4 F a5 hp d0 b5 G c8 e4;go_wp2_with fail;refine (c6.o).mono ?_;rintro e w3 ⟨a0,A3,n3,c3,rfl,e5⟩;have c0:=bI b2.o a0;have a7:=aB c0;have f1:=a0.size;go_wp2_with (at_builtin;go_loud (refine a8 rfl (iL (.tmp 19) (.tmp 26) 47 29 rfl (w2.heap.size+1) i0 _ 24 Tryz.underlying47 d6.o d9.o e0.o e1.o rfl aE (Z A1 j k1) j _ (Z A3 n3 c3) rfl w3 rfl rfl a7.o _ rfl rfl aA aA ?_));intro A4 c4 w4 D)
   have f0:=b6.o.size;have f2:=D.grown.size;have a3:∀b,b<w3.heap.size->(Value.slice A1 j k1).ownBlock≠E b->(Value.slice A4 (j+1) c4).ownBlock≠E b:=fun b hb a1 e=>by
    rcases D.new b e with h1|h1
    . exact a1 h1
    omega
   have s:∀b,b<w3.heap.size->(Value.slice A1 j k1).ownBlock≠E b->∀o,w4.cell? ⟨b,o,I⟩=w3.cell? ⟨b,o,I⟩:=fun b hb a1 o=>aP (D.grown.block b hb (fun e=>a1 e.symm)) o;go_roundw
   case rel =>
    refine⟨F1.app (.cons pre nd b3 ks .nil),F2,j+1,A4,c4,a6++[Z A3 n3 c3],by rw[HK.o,cV];rfl,by rw[bN];simp[bE,HJ.o],rfl,by go_num,?_,?_,?_,D.own,?_⟩
    . exact (b8.trans (a0.mono b8.size)).grown D.grown aA (fun g hg=>by have:=(aS a7.o hg).1;omega)
    . exact (a2.trans (a0.mono a2.size)).grown D.grown aA (fun g hg=>by have:=(aS a7.o hg).1;omega)
    . exact aT.grown (U.below a0 (aT.lt U)) D.grown (eF a7.o (YL _))
    rw[tD];refine bD.add (e5.keep fun b hb=>?_) (b7.o.keep fun b hb=>?_)
    . obtain⟨q1,q2⟩:=hb;have a1:(Value.slice A1 j k1).ownBlock≠E b:=fun e=>by
       have:=(aS b2.o e).2.1;omega
      exact⟨⟨by omega,by omega,a3 b q2 a1⟩,s b q2 a1⟩
    obtain⟨q1,q2,q3⟩:=hb;refine⟨⟨q1,by omega,a3 b aA q3⟩,fun o=>?_⟩;rw[s b aA q3 o];exact aP (a0.block b q2) o
   case measure=>simp[intOf];omega
theorem ND{w:aAB}{base j d:Nat}{B:ZZ}{e:TypeId}{U:List Value}(h:w.ownsRow base e 1 (Z B j d) j U):∀F,B=E F->∀i u,U[i]? = E u->w.cell? (F.add i)=E u:=by
 intro F he i u G;have hl:=h.1;have hi:=(ZH.1 G).1;have z:=h;rcases h.2 with⟨hv,_⟩|⟨g,cap,o,hv,_⟩
 . injection hv with D;rw[he]at D;cases D
 injection hv with D;rw[he]at D;injection D with D;subst D;subst he;have s:(⟨g,0,I⟩:Addr).add i=⟨g,i,I⟩:=by unfold Addr.add;split<;>simp_all
 rw[s,z.cellAt i aA];exact G
theorem P9{w:aAB}{base j d:Nat}{B:ZZ}{e:TypeId}{o:List Value}(h:w.ownsRow base e 1 (Z B j d) j o):B=I->j=0:=by
 intro U;rcases h.2 with⟨_,G⟩|⟨g,cap,F,hv,_⟩
 . exact G
 injection hv with D;rw[U]at D;cases D
theorem R6{w:aAB}{g:Nat}{z a1 a2 a3 a4 a5:Value}(h:aT w g 85 #[z,a1,a2,a3,a4,a5])(D F G U o s:Value):aT ((((((w.setCell ⟨g,0,I⟩ D).setCell ⟨g,1,I⟩ F).setCell ⟨g,2,I⟩ G).setCell ⟨g,3,I⟩ U).setCell ⟨g,4,I⟩ o).setCell ⟨g,5,I⟩ s) g 85 #[D,F,G,U,o,s]:=by
 have:=(((((h.set_ 0 D).set_ 1 F).set_ 2 G).set_ 3 U).set_ 4 o).set_ 5 s;simpa using this
theorem MV(w:aAB)(g:Nat)(D F G U h o:Value):w.grownBy ((((((w.setCell ⟨g,0,I⟩ D).setCell ⟨g,1,I⟩ F).setCell ⟨g,2,I⟩ G).setCell ⟨g,3,I⟩ U).setCell ⟨g,4,I⟩ h).setCell ⟨g,5,I⟩ o) (E g) :=
 (((((eJ _ g 0 D).trans (eJ _ g 1 F)).trans (eJ _ g 2 G)).trans (eJ _ g 3 U)).trans (eJ _ g 4 h)).trans (eJ _ g 5 o)
theorem yV{A:ZZ}{n c:Nat}{t:List Nd}{w:aAB}(h:aX w A n c t):
 Calls Tryz.prog 63 #[Z A n c] w (OJ (i8 t) w):=by
 obtain⟨i1,g7,d6,d7,d8⟩:=info_parts v5;obtain⟨j0,k4,k5,k6,j3⟩:=aAD g7 d6 d7 d8 (kG h);have m6:=h.len;clear g7 d6 d7 d8 h;go_in;go_wp2_with fail;refine (j3.o).mono ?_;rintro e s ⟨b5,⟨hs,rfl⟩|⟨p7,n0,a0,k0,rfl,i0,h3,hs⟩⟩
 . have HQ:Hid (i8 t=([],[])):=aB (by unfold i8;rw[XN hs]);have a5:=aB b5;clear b5 hs;unfold dR;go_wp2_with fail;go_ret2;rw[HQ.o];exact⟨a5.o.alloc a5.o.size _,I,0,0,I,0,0,[],rfl,⟨rfl,XU _,ZA _,fun _=>rfl,fun h=>absurd h aA⟩,ZE _ _ _ _,trivial⟩
 obtain⟨h4,_⟩:=eN hs;have a4:Rt t n0 a0 k0:=⟨h3,h4⟩;have a9:i8 t=yZ t.length t n0 k0:=by unfold i8;rw[XP hs,xQ a4]
 obtain⟨m,hm⟩:=aAJ t.length;rw[<-hm]at a9;obtain⟨F,L,e9⟩:∃F L,yZ m t n0 k0=(F,L):=⟨_,_,rfl⟩;rw[e9]at a9;obtain⟨j7,j6,i9,HM,a5,j8⟩:=aAH a9 a4 e9 hm b5 i0;obtain⟨sk,sa,sf,rfl,⟨Ak,nk,ck,rfl,_⟩,⟨Aa,na,ca,rfl,_⟩,⟨Af,nf,cf,rfl,_⟩⟩:=i0;have m7:=b5.size;obtain⟨i6,f7⟩:=aAC (aT.new s 85 #[O Y n0.op,O Y n0.a,O Y n0.b,Z Ak nk ck,Z Aa na ca,Z Af nf cf]) (aQ s (J #[O Y n0.op,O Y n0.a,O Y n0.b,Z Ak nk ck,Z Aa na ca,Z Af nf cf] 85));clear hs a4 a9 e9 hm h3 b5;go_wp2_with fail;go_loopw [6] (fun av wr=>∃(m' j d:Nat)(B:ZZ)(tc:List Nd)(n1:Nd)(a1:List Nd)(k1:Fo)(Ak:ZZ)(nk ck:Nat)(Aa:ZZ)(na ca:Nat)(Af:ZZ)(nf cf:Nat)(xs:List Value)(ls:aAA),av=Z B j d/\j+tc.length<=4096/\Hid (Rt tc n1 a1 k1)/\Hid (tc.length<=m')/\Hid ((yZ m' tc n1 k1).1=F/\(yZ m' tc n1 k1).2++ls=L)/\Hid (aT wr s.heap.size 85 #[O Y n1.op,O Y n1.a,O Y n1.b,Z Ak nk ck,Z Aa na ca,Z Af nf cf])/\Hid (cJ (eC w s) s [O Y n1.op,O Y n1.a,O Y n1.b,Z Ak nk ck,Z Aa na ca,Z Af nf cf] n1 a1 k1)/\Hid (wr.ownsRow (s.heap.size+1) 29 1 (Z B j d) j xs)/\Hid (bD (dT (s.heap.size+1) wr (Z B j d)) wr xs ls)/\Hid (ZY s wr)) (fun av _=>5000-zZ av)
 case atStart=>exact⟨m,0,0,I,t,n0,a0,k0,Ak,nk,ck,Aa,na,ca,Af,nf,cf,[],[],rfl,by omega,j6,aB (by rw[HM.o];exact XU _),aB (by rw[i9.o];exact⟨rfl,by simp⟩),i6,j8,aB (ZE _ _ _ _),aB trivial,f7⟩
 case round =>
  obtain⟨m',j,d,B,tc,n1,a1,k1,Ak,nk,ck,Aa,na,ca,Af,nf,cf,xs,ls,rfl,m5,a4,h0,a9,b6,f3,b8,c0,a7⟩:=hrel;have zc:=aT.cell b6.o;have l3:=aT.lt b6.o;have g1:Hid (cJ (eC w s) wr [O Y n1.op,O Y n1.a,O Y n1.b,Z Ak nk ck,Z Aa na ca,Z Af nf cf] n1 a1 k1):=aB (f3.o.keep fun b hb=>⟨hb,fun o=>a7.o.cell (p:=⟨b,o,I⟩) hb.2⟩);have g2:∀b,eC w s b->b<wr.heap.size:=fun b hb=>by have:=hb.2;omega
  have f9:=aB g2;clear g2;by_cases h6:n1.op=6;rotate_left
  . have l2:(n1.op==6)=false:=by simp[h6]
    have HE:Hid (i8 t=(tc,ls)):=aB (by
     have h1:=a9.o;rw[xV h6]at h1;rw[j7.o,<-h1.1,<-h1.2];simp)
    have a2:=aB (rS f9.o g1.o (mF a4.o.wf.2.2) (by have:=a4.o.few;rw[a4.o.eq]at this;simp only[row,XX,YA,ZD,YO,YP]at this ⊢;omega));rw[show row (.cons [] n1 a1 k1 .nil)=tc from by rw[a4.o.eq];simp[row]]at a2;clear h6;go_wp2_with fail;refine (a2.o).mono ?_;rintro e w3 ⟨U,A3,n3,c3,rfl,c1⟩;have b0:=aB (bI b8.o U);have b3:=aB (a5.o.trans ((a7.o.trans (U.mono a7.o.size)).mono a5.o.size));have c2:=aB (bD.keep (S':=dT (s.heap.size+1) w3 (Z B j d)) (w':=w3) (fun q D=>⟨⟨D.1,XT D.2.1 U.size,D.2.2⟩,fun o=>U.cell (p:=⟨q,o,I⟩) D.2.1⟩) c0.o);have e5:Hid (bF (dT w.heap.size w3 (Z B j d)) w3 A3 n3 c3 tc):=aB (c1.keep fun q D=>⟨⟨by have:=D.1;have:=a7.o.size;have:=a5.o.size;omega,D.2,fun e=>by have:=(aS b8.o e).2.1;have:=D.1;omega⟩,fun _=>rfl⟩);clear U c1;go_wp2_with fail;go_ret2;rw[HE.o];exact⟨b3.o,A3,n3,c3,B,j,d,xs,rfl,e5.o,l8 b0.o (by have:=a5.o.size;omega),c2.o.keep fun q D=>⟨⟨by have:=a5.o.size;have:=D.1;omega,D.2.1,D.2.2⟩,fun _=>rfl⟩⟩
  obtain⟨nx,ax,kx,ny,ay,ky,rfl,c6⟩:=zE a4.o h6;obtain⟨o8,o0,o5,he,⟨m2,n2,m3,rfl,c4⟩,_,_⟩:=g1.o;simp only[ZI,Value.slice.injEq,true_and,and_true]at he;obtain⟨⟨rfl,rfl,rfl⟩,_,_⟩:=he;obtain⟨b1,o1,o9,o3,o6,rfl,b9,⟨_,_,_,g3,⟨e1,f6,e8,rfl,d3⟩,⟨d9,f4,e6,rfl,c8⟩,⟨e0,f5,e7,rfl,d1⟩⟩,p0,p1,p2,p3,p4,p5⟩:=eX.at_ (F1:=.nil) (F2:=.cons [] ny ay ky .nil) c4;obtain⟨b2,o2,p6,o4,o7,e2,h8,⟨_,_,_,g4,⟨i5,m0,k9,rfl,d4⟩,⟨i3,l7,k7,rfl,c9⟩,⟨i4,l9,k8,rfl,d2⟩⟩,q0,q1,q2,q3,q4,q5⟩:=eX.at_ (F1:=.cons [] nx ax kx .nil) (F2:=.nil) c4;injection e2 with e2;injection e2 with l0 l1;subst l0 l1;simp only[ZI,true_and,and_true]at g3 g4;obtain⟨rfl,rfl,rfl⟩:=g3;obtain⟨rfl,rfl,rfl⟩:=g4;have i2:cJ (eC w s) wr [O Y ny.op,O Y ny.a,O Y ny.b,Z i5 m0 k9,Z i3 l7 k7,Z i4 l9 k8] ny ay ky:=⟨_,_,_,rfl,⟨_,_,_,rfl,d4⟩,⟨_,_,_,rfl,c9⟩,⟨_,_,_,rfl,d2⟩⟩;have j9:Hid (cJ (eC w s) wr [O Y nx.op,O Y nx.a,O Y nx.b,Z e1 f6 e8,Z d9 f4 e6,Z e0 f5 e7] nx ax kx):=aB ⟨_,_,_,rfl,⟨_,_,_,rfl,d3⟩,⟨_,_,_,rfl,c8⟩,⟨_,_,_,rfl,d1⟩⟩;have l5:nk=2:=by rw[<-c4.len];rfl
  subst l5;rw[show bE Fo.nil=0 from rfl,YU,YF]at p0 p1 p2 p3 p4 p5;rw[show bE (Fo.cons [] nx ax kx .nil)=1 from rfl,Nat.one_mul]at q0 q1 q2 q3 q4 q5;obtain⟨f0,f1,D,g5⟩:=c6;cases m' with
  | zero=>have:=h0.o;rw[D]at this;simp at this
  | succ m' =>
  have a6:=a9.o;rw[DF h6]at a6;have a2:=aB (rS f9.o i2 (mF f1.wf.2.2) (by have:=f1.few;simp only[row,XX,YA,ZD,YO,YP]at this ⊢;omega));rw[show row (.cons [] ny ay ky .nil)=ny::(ay++row ky) from by simp[row]]at a2;obtain⟨r1,h5⟩:=aAJ (nx::(ax++row kx));obtain⟨r2,f2⟩:=aAJ (ny::(ay++row ky));rw[<-h5]at f0 D a6;rw[<-f2]at D a6 a2;have g8:=congrArg List.length D;simp only[YA,XX]at g8;have h7:0<r2.length:=by rw[f2];simp
  have j1:Hid (r1.length<=m'):=aB (by have:=h0.o;omega);have l4:1+j+r1.length<=4096:=aA;have i7:=aB f0;have c7:=aB a6;have g0:=aB (j9.o.keep (R':=eC w s) (w':=s) fun b hb=>⟨hb,fun o=>(a7.o.cell (p:=⟨b,o,I⟩) hb.2).symm⟩);have l2:(n1.op==6)=true:=by simp[h6]
  have HP:Hid (∀(w':aAB),ZY s w'->∀o v,wr.cell? ⟨b1,o,I⟩=E v->w'.cell? ⟨b1,o,I⟩=E v):=aB fun w' hb o v hv=>((hb.cell (p:=⟨b1,o,I⟩) b9.2).trans (a7.o.cell (p:=⟨b1,o,I⟩) b9.2).symm).trans hv;have j4:=aB (And.intro p0 (And.intro p1 (And.intro p2 (And.intro p3 (And.intro p4 p5)))));have m4:j<=4096:=aA;clear f0 f1 D g5 a6 h5 f2 g8 h7 h6 i2 c4 d3 c8 d1 d4 c9 d2 b9 h8 p0 p1 p2 p3 p4 p5;go_wp2_with fail;refine (a2.o).mono ?_;rintro e w3 ⟨U,A3,n3,c3,rfl,c1⟩;have e3:=aB (b6.o.below U l3);have b0:=aB (bI b8.o U);have b3:=bY a7 U;have c2:=aB (bD.keep (S':=dT (s.heap.size+1) w3 (Z B j d)) (w':=w3) (fun q D=>⟨⟨D.1,XT D.2.1 U.size,D.2.2⟩,fun o=>U.cell (p:=⟨q,o,I⟩) D.2.1⟩) c0.o);have m8:=U.size;have e5:Hid (bF (fun q=>s.heap.size+1<=q/\q<w3.heap.size) w3 A3 n3 c3 r2):=aB (c1.keep fun q D=>⟨⟨by have:=D.1;omega,D.2⟩,fun _=>rfl⟩);have b4:Hid ((w3.alloc (J #[Z A3 n3 c3] 29)).ownsRow (s.heap.size+1) 29 1 (Z (E ⟨w3.heap.size,0,I⟩) 1 1) 1 [Z A3 n3 c3]):=aB ⟨by simp,.inr ⟨w3.heap.size,1,#[Z A3 n3 c3],rfl,by omega,heap_alloc_new w3 _,by omega,by unfold maxLen;omega,rfl,rfl⟩⟩;have m9:=b0.o.1;have k3:=aB (ND (World.ownsRow.alloc b0.o (J #[Z A3 n3 c3] 29)));have k2:Hid (∀u∈xs,u.oneCell'=true):=aB fun u hu=>by
   obtain⟨_,_,_,rfl⟩:=oE c2.o u hu;rfl
  have j2:Hid (B=I->j=0/\d=0):=aB fun e=>⟨P9 b0.o e,CV b0.o e⟩;have hbase:s.heap.size+1<=w3.heap.size:=aA;clear U c1;go_wp2_with (at_builtin;go_loud (refine a8 rfl (bW (.tmp 23) (.tmp 24) 47 rfl (s.heap.size+1) 29 i1 _ 1 24 Tryz.underlying47 j0.o k4.o k5.o k6.o rfl aE (Z (E ⟨w3.heap.size,0,I⟩) 1 1) 1 [Z A3 n3 c3] rfl b4.o B j d xs rfl aA j2.o k3.o k2.o aJ aA (YE hbase aD) ?_));intro A5 c5 w5 G;go_loud (have d0:=b3.o.alloc (show s.heap.size<=w3.heap.size by omega) (J #[Z A3 n3 c3] 29));go_loud (have h9:(w3.alloc (J #[Z A3 n3 c3] 29)).heap.size=w3.heap.size+1:=by simp);go_loud (have z:=aB (d0.grown G.grown aA (fun g hg=>by have:=(aS b4.o hg).1;omega)));go_loud (have a3:aT w5 s.heap.size 85 #[O Y n1.op,O Y n1.a,O Y n1.b,Z (E ⟨b1,o1,I⟩) 2 ck,Z Aa na ca,Z Af nf cf]:=aT.grown (e3.o.alloc _) G.grown (eF b4.o (YL _)));go_loud (have p8:=aT.cell a3);go_loud (have p9:=aT.frozen a3);have e4:=aB a3;obtain⟨p0,p1,p2,p3,p4,p5⟩:=j4.o;have n4:=HP.o _ z.o _ _ p0;have n5:=HP.o _ z.o _ _ p1;have n6:=HP.o _ z.o _ _ p2;have n7:=HP.o _ z.o _ _ p3;have n8:=HP.o _ z.o _ _ p4;have n9:=HP.o _ z.o _ _ p5;clear p0 p1 p2 p3 p4 p5 a3 d0)
  have f8:=aB G.own;have m1:=G.grown.size;have j5:Hid (bD (dT (s.heap.size+1) w5 (Z A5 (1+j) c5)) w5 ([Z A3 n3 c3]++xs) (r2::ls)):=aB (by
   have d5:∀q,q<w3.heap.size->(Value.slice A5 (1+j) c5).ownBlock≠E q:=fun q D e=>by
    rcases G.new q e with h1|h1
    . have h2:E w3.heap.size=E q:=h1;injection h2 with h2;omega
    rw[h9]at h1;omega
   have b7:∀q,q<w3.heap.size->∀o,w5.cell? ⟨q,o,I⟩=w3.cell? ⟨q,o,I⟩:=fun q D o=>(aP (G.grown.block q (by rw[h9];omega) (fun e=>by
    have h2:E q=E w3.heap.size:=e;injection h2 with h2;omega)) o).trans (aP (Below.heap_alloc _ _ _ D) o)
   exact⟨⟨A3,n3,c3,rfl,e5.o.keep fun q D=>⟨⟨D.1,by omega,d5 q D.2⟩,b7 q D.2⟩⟩,c2.o.keep fun q D=>⟨⟨D.1,by have:=D.2.1;omega,d5 q D.2.1⟩,b7 q D.2.1⟩⟩)
  clear G;go_roundw
  case rel =>
   have g6:=MV w5 s.heap.size (O Y nx.op) (O Y nx.a) (O Y nx.b) (Z e1 f6 e8) (Z d9 f4 e6) (Z e0 f5 e7);refine⟨m',1+j,c5,A5,r1,nx,ax,kx,e1,f6,e8,d9,f4,e6,e0,f5,e7,[Z A3 n3 c3]++xs,r2::ls,rfl,l4,i7,j1,aB ⟨c7.o.1,by rw[<-c7.o.2];simp⟩,aB (R6 e4.o _ _ _ _ _ _),g0,aB (World.ownsRow.kept f8.o g6 (.inr (eF f8.o (YL _)).symm)),aB (j5.o.keep fun q D=>?_),aB (z.o.grown g6 aA (fun q D=>by injection D with D;omega))⟩;have l6:q≠s.heap.size:=by have:=D.1;omega
   exact⟨⟨D.1,by rw[FW];exact D.2.1,D.2.2⟩,fun o=>aP (LL l6 _ _ _ _ _ _) o⟩
  case measure=>simp only[zZ];omega
end
section
open Go.Lib renaming hid->aB
structure DR (w V0:aAB) (R:Nat->Prop) (BK X:Array Value) (g9 g11:Nat) (t:iA) (x:TT) (th:iA) (f:TT) (B:ZZ) (m d:Nat) (L:List TT) (W:aAB):Prop where
 s:UF w V0 BK X W
 h:aT W g9 85 (fE th f.1)
 n:aT W g11 46 #[O Y f.1.op,O Y f.1.a,O Y f.1.b]
 tx:fI (bM R V0 W) W t x
 th:fI (bM R V0 W) W th f
 kd:eX (bM R V0 W) W B m d (iP L)
section
variable {w V0 W W' : aAB}{R : Nat->Prop}{BK X : Array Value}{g9 g11 : Nat}{t th : iA}{x f : TT}{B : ZZ}{m d : Nat}{L : List TT}
theorem PW(hR:∀q,R q->q<w.heap.size)(F:w.heap.size<=W.heap.size):∀q,bM R V0 W q->q<W.heap.size:=fun q D=>by
 rcases D with D|D
 . have:=hR _ D;omega
 exact D.2
theorem DR.lt(h:DR w V0 R BK X g9 g11 t x th f B m d L W)(hR:∀q,R q->q<w.heap.size):∀q,bM R V0 W q->q<W.heap.size:=PW hR h.s.bel.size
theorem kR(hR:∀q,R q->q<w.heap.size)(G:w.heap.size<=W.heap.size)(D:ZY W W'):∀q,bM R V0 W q->bM R V0 W' q/\∀o,W'.cell? ⟨q,o,I⟩=W.cell? ⟨q,o,I⟩:=fun q F=>⟨F.to (XU _) D.size,fun o=>D.cell (p:=⟨q,o,I⟩) (PW hR G q F)⟩
theorem DR.below(h:DR w V0 R BK X g9 g11 t x th f B m d L W)(hR:∀q,R q->q<w.heap.size)(D:ZY W W'):DR w V0 R BK X g9 g11 t x th f B m d L W' :=
 ⟨h.s.below D,h.h.below D h.h.lt,h.n.below D h.n.lt,h.tx.keep (kR hR h.s.bel.size D),h.th.keep (kR hR h.s.bel.size D),h.kd.keep (kR hR h.s.bel.size D)⟩
theorem gK{Q:Nat->Prop}{F D:aAB}(o:∀q,Q q->bM R V0 W q)(G:V0.heap.size<=F.heap.size)(U:W.heap.size<=D.heap.size){q:Nat}(h:bM Q F D q):bM R V0 D q:=by
 rcases h with h|h
 . exact (o q h).to (XU _) U
 exact Or.inr ⟨YE G h.1,h.2⟩
structure GD (w V0:aAB) (R:Nat->Prop) (BK X:Array Value) (g9 g11:Nat) (t:iA) (x:TT) (th:iA) (f:TT) (B:ZZ) (m d:Nat) (L:List TT) (W U:aAB) (g:Nat) (ty:iA) (y:TT):Prop where
 nn:DR w V0 R BK X g9 g11 t x th f B m d L U
 be:ZY W U
 ge:W.heap.size<=g
 bk:aT U g 85 (fE ty y.1)
 tr:fI (bM R V0 U) U ty y
theorem KA{v:aAB}{g:Nat}{ty:iA}{y:TT}{Q:Nat->Prop}(hR:∀q,R q->q<w.heap.size)(h:DR w V0 R BK X g9 g11 t x th f B m d L W)(U:ZY W v)(z:W.heap.size<=g)(hk:aT v g 85 #[O Y 0,O Y 0,O Y 0,Z I 0 0,Z I 0 0,Z I 0 0])(s:∀q,Q q->bM R V0 v q/\q<v.heap.size/\q≠g)(ht:fI Q v ty y):
 GD w V0 R BK X g9 g11 t x th f B m d L W ((((((v.setCell ⟨g,0,I⟩ (O Y y.1.op)).setCell ⟨g,1,I⟩ (O Y y.1.a)).setCell ⟨g,2,I⟩ (O Y y.1.b)).setCell ⟨g,3,I⟩ (Z ty.Ak ty.nk ty.ck)).setCell ⟨g,4,I⟩ (Z ty.Aa ty.na ty.ca)).setCell ⟨g,5,I⟩ (Z ty.Af ty.nf ty.cf)) g ty y:=by
 have D:=e7 v g (O Y y.1.op) (O Y y.1.a) (O Y y.1.b) (Z ty.Ak ty.nk ty.ck) (Z ty.Aa ty.na ty.ca) (Z ty.Af ty.nf ty.cf);have F:=U.grown D U.size (fun q G=>by injection G with G;omega);refine⟨h.below hR F,F,z,cK hk _ _ _ _ _ _,ht.keep fun q G=>?_⟩;obtain⟨q1,q2,q3⟩:=s q G;exact⟨q1.to (XU _) D.size,fun o=>aP (D.block q q2 (by intro e;injection e with e;exact q3 e)) o⟩
theorem J8{D G v:aAB}{ty:iA}{y:TT}(hR:∀q,R q->q<w.heap.size)(h:DR w V0 R BK X g9 g11 t x th f B m d L W)(o:ZY W D)(hs:D.heap.size=W.heap.size)(ha:ZY D G)(a0:G.heap.size=D.heap.size+1)(z:aT G D.heap.size 85 #[O Y 0,O Y 0,O Y 0,Z I 0 0,Z I 0 0,Z I 0 0])(U:ZY G v)(ht:fI (bM (bM R V0 W) G v) v ty y):
 GD w V0 R BK X g9 g11 t x th f B m d L W ((((((v.setCell ⟨D.heap.size,0,I⟩ (O Y y.1.op)).setCell ⟨D.heap.size,1,I⟩ (O Y y.1.a)).setCell ⟨D.heap.size,2,I⟩ (O Y y.1.b)).setCell ⟨D.heap.size,3,I⟩ (Z ty.Ak ty.nk ty.ck)).setCell ⟨D.heap.size,4,I⟩ (Z ty.Aa ty.na ty.ca)).setCell ⟨D.heap.size,5,I⟩ (Z ty.Af ty.nf ty.cf)) D.heap.size ty y:=by
 have hv:=U.size;have hw:=h.s.sz;refine KA hR h (o.trans ((ha.trans (U.mono ha.size)).mono o.size)) aA (z.below U z.lt) (fun q F=>?_) ht;refine⟨gK (fun q h=>h) aA aA F,?_⟩;rcases F with F|F
 . have:=h.lt hR q F;omega
 have:=F.1;have:=F.2;omega
theorem J9{F U v:aAB}{ty:iA}{y:TT}(hR:∀q,R q->q<w.heap.size)(h:DR w V0 R BK X g9 g11 t x th f B m d L W)(h1:ZY W F)(hs:F.heap.size=W.heap.size)(z:ZY F v)(ha:ZY v U)(a1:U.heap.size=v.heap.size+1)(hk:aT U v.heap.size 85 #[O Y 0,O Y 0,O Y 0,Z I 0 0,Z I 0 0,Z I 0 0])(ht:fI (bM (bM R V0 W) F v) v ty y):
 GD w V0 R BK X g9 g11 t x th f B m d L W ((((((U.setCell ⟨v.heap.size,0,I⟩ (O Y y.1.op)).setCell ⟨v.heap.size,1,I⟩ (O Y y.1.a)).setCell ⟨v.heap.size,2,I⟩ (O Y y.1.b)).setCell ⟨v.heap.size,3,I⟩ (Z ty.Ak ty.nk ty.ck)).setCell ⟨v.heap.size,4,I⟩ (Z ty.Aa ty.na ty.ca)).setCell ⟨v.heap.size,5,I⟩ (Z ty.Af ty.nf ty.cf)) v.heap.size ty y:=by
 have hv:=z.size;have hw:=h.s.sz;have G:∀q,bM (bM R V0 W) F v q->q<v.heap.size:=fun q D=>by
  rcases D with D|D
  . have:=h.lt hR q D;omega
  exact D.2
 have a0:fI (bM (bM R V0 W) F v) U ty y:=ht.keep fun q D=>⟨D,fun o=>ha.cell (p:=⟨q,o,I⟩) (G q D)⟩;refine KA hR h (h1.trans ((z.trans (ha.mono z.size)).mono h1.size)) aA hk (fun q D=>?_) a0;have:=G q D;exact⟨(gK (fun q h=>h) aA aA D:bM R V0 v q).to (XU _) aA,by omega,by omega⟩
theorem kN{v:aAB}{Q:Nat->Prop}{ty:iA}{y:TT}{G:Bool}{D:Int}{r:vK}(hR:∀q,R q->q<w.heap.size)(z:V0.heap.size=w.heap.size+3)(h:DR w V0 R BK X g9 g11 t x th f B m d L W)(o:ZY W v)(U:∀q,Q q->bM R V0 v q)(ht:fI Q v ty y)(F:VC r y G D):
 VB R w r (.returned (.tuple #[.agg (fE ty y.1),.bool G,O Y D])) ((((((v.setCell ⟨w.heap.size+1+1,0,I⟩ (O Y y.1.op)).setCell ⟨w.heap.size+1+1,1,I⟩ (O Y y.1.a)).setCell ⟨w.heap.size+1+1,2,I⟩ (O Y y.1.b)).setCell ⟨w.heap.size+1+1,3,I⟩ (Z ty.Ak ty.nk ty.ck)).setCell ⟨w.heap.size+1+1,4,I⟩ (Z ty.Aa ty.na ty.ca)).setCell ⟨w.heap.size+1+1,5,I⟩ (Z ty.Af ty.nf ty.cf)) :=
 sL (V:=V0) hR aA aA (h.s.below o).bel (ht.keep fun q F=>⟨U q F,fun _=>rfl⟩) F
end
theorem KE{B:ZZ}{n c k:Nat}{L:List TT}(hl:L.length=n)(hk:k<=n)(hc:n<=c)(U:B=I->c=0):∃F,(∀w:World,(Instr.slice 83 (Z B n c) (E (O Y (k:Int))) I I).run Tryz.prog w=.ok (Z F (n-k) (c-k)) w)/\∀(R:Nat->Prop)(W:aAB),eX R W B n c (iP L)->eX R W F (n-k) (c-k) (iP (L.drop k)):=by
 have D:∀(R:Nat->Prop)(W:aAB)(b:Nat)(k:Nat)(L:List TT)(off:Nat),uD R W (iP L) b off->uD R W (iP (L.drop k)) b (off+k*6):=by
  intro R W b k
  induction k with
  | zero=>intro L off h;simpa using h
  | succ k ih =>
   intro L off h;cases L with
   | nil=>trivial
   | cons y r =>
    have G:=ih r (off+6) h.2.2.2.2;rw[show off+6+k*6=off+(k+1)*6 from by omega]at G;simpa using G
 refine⟨if c=k then B else B.map (·.add (k*6)),fun w=>?_,fun R W h=>?_⟩
 . rw[run_slice_l w 83 B n c aC .i64 (k:Int) aA aA];have e:Tryz.prog.elem 83=85:=by kernel_rfl
   have o:(sizeOf 85).run Tryz.prog w=.ok 6 w:=by kernel_rfl
   rw[e,o];rfl
 refine⟨by rw[iC,YS];omega,by omega,fun hn=>?_⟩;obtain⟨b,off,rfl,z,hm⟩:=h.mem aA;rw[XN aA];refine⟨b,off+k*6,?_,z,D R W b k L off hm⟩;simp only[Option.map_some,Addr.add];split
 . rename_i s;rw[s,YF]
 rfl
theorem xY(x u:TT):(cI x u).2=0\/(cI x u).2=9:=by unfold cI;split<;>simp
theorem PJ{D:vK}{y:TT}{e:Int}(h:D=if e=0 then vK.yes y else vK.bad)(he:e=0\/e=9):VC D y true e:=by
 rcases he with F|F
 . rw[XP F]at h;exact .inr (.inr ⟨h,rfl,F⟩)
 rw[XN aA]at h;exact .inr (.inl ⟨h,rfl,F⟩)
theorem jG{w w':aAB}{A:ZZ}{n c:Nat}{cv:aAA}(h:jU (· < w.heap.size) w A n c cv)(D:ZY w w'):jU (· < w'.heap.size) w' A n c cv:=h.keep fun q F=>⟨XT F D.size,fun o=>D.cell (p:=⟨q,o,I⟩) F⟩
set_option maxRecDepth 100000 in
set_option maxHeartbeats 4000000 in
theorem TH{v:bR}{b:Bk}{w0:aAB}{cA:ZZ}{cn cc:Nat}{cv:aAA}{h7:Nat}{w:aAB}{R:Nat->Prop}{t:iA}{x:TT}(H:uE v b w0 cA cn cc cv h7 w R t x)(U:(bX x).1.1.op=5/\0<(bX x).2.length):yL v b cA cn cc cv h7 w R t x:=by
 obtain⟨⟨xo,xa,xb⟩,l1,xk⟩:=x;obtain⟨Ak,nk,ck,Aa,na,ca,Af,nf,cf⟩:=t;obtain⟨m1,ho,ha,hb,i3,hk,L,kl,V0,e2,i7,i1,n7,c9,h3,g3,m6,n4,e6,h6,HR,m9,m5,HX,n0,l4,n1,HT,n2,e3⟩:=kO H;rw[i7]at U;simp only at U e6 i1 e3;unfold yL;rw[e2];clear e2 i7 H;show Calls Tryz.prog 45 #[.agg #[O Y b.vars,Z v.Ao v.no v.co,Z v.Ae v.ne v.ce,O Y b.nat,Z v.Ap v.np v.cp],Z cA cn cc,.agg #[O Y xo,O Y xa,O Y xb,Z Ak nk ck,Z Aa na ca,Z Af nf cf]] w _;go_in;go_upto_region 1 with fail
 clear i1;have m4:=aT.cell e6.o.x;go_wp2_with fail;refine (e3.o).mono ?_;rintro e w4 ⟨Ck,pk,ek,Ca,pa,ea,Cf,pf,ef,KB,kd,rfl,h4,f0,f1,e0,d9,d7,g6,g0,n3⟩;clear e3 e6 m4;have d8:Hid (DR w V0 R #[O Y b.vars,Z v.Ao v.no v.co,Z v.Ae v.ne v.ce,O Y b.nat,Z v.Ap v.np v.cp] #[O Y xo,O Y xa,O Y xb,Z Ak nk ck,Z Aa na ca,Z Af nf cf] w4.heap.size (w4.heap.size+1) ⟨Ak,nk,ck,Aa,na,ca,Af,nf,cf⟩ ((⟨xo,xa,xb⟩:Nd),l1,xk) ⟨Ck,pk,ek,Ca,pa,ea,Cf,pf,ef⟩ ((⟨ho,ha,hb⟩:Nd),i3,hk) KB kl kd L ((w4.alloc (J #[O Y ho,O Y ha,O Y hb,Z Ck pk ek,Z Ca pa ea,Z Cf pf ef] 85)).alloc (J #[O Y ho,O Y ha,O Y hb] 46))):=aB ⟨h4.o,f0.o,f1.o,e0.o,d9.o.keep fun q hq=>⟨Or.inl hq,fun _=>rfl⟩,d7.o⟩;have zh:=aT.cell f0.o;have zn:=aT.cell f1.o;clear h4 f0 f1 e0 d9 d7 g0;obtain⟨U,d3⟩:=U;have hF:=g3.o;obtain⟨p,q,c6⟩:=kQ hF.head.okt (.inr (.inl U));have hq:=hF.head.kid (i:=1) (by rw[c6];rfl);have i2:aR ho hb ((1:Nat):Int)=1:=jF (n:=⟨ho,ha,hb⟩) (.inl ⟨U,rfl⟩);rw[i2]at hq;have hA:=hF.args _ (iD d3 (default,[],.nil));obtain⟨a,d1⟩:=aAJ (L.getD 0 (default,[],.nil));rw[<-d1]at hA;have f5:cX (iP L) 0=a:=by
  rw[d1,sQ]
 obtain⟨⟨y,ye⟩,hy⟩:∃y,y=cI q a:=⟨_,rfl⟩;have i9:ye=0\/ye=9:=by have:=xY q a;rw[<-hy]at this;exact this
 have e4:Hid (m1=if ye=0 then vK.yes (dP y (L.drop 1)) else vK.bad):=aB (by
  rw[h3.o,i5 (by unfold bT;simp only;rw[XP U];exact XR d3)];unfold lA;simp only;rw[XP U,dO (i:=1) (y:=q) (by simp only;rw[c6];rfl),<-d1,<-hy];by_cases h:ye=0
  . simp only;rw[XP h,XP h]
  simp only;rw[XN h,XN h])
 have l8:=aB i9;have m0:=c9.o;have a7:=d8.o;have c7:=a7.th.nk;simp only at c7;rw[c6]at c7;simp only[YA,ZD]at c7;obtain⟨bq,oq,⟨o7,p4,p0,o8,p3,p1,o9,p5,p2⟩,f2,i0,d2,d4⟩:=a7.th.kid (j:=1) (by simp only;omega);obtain⟨ba,oa,⟨n8,o5,o1,n9,o4,o2,o0,o6,o3⟩,h8,h9,f4,f7⟩:=a7.kd.nthR (j:=0) aA;have f6:cX hk 1=q:=by unfold cX;rw[c6];rfl
 simp only at f2 d2 d4;rw[f6,Nat.one_mul]at d2;rw[f6]at d4;rw[f5,YU,YF]at f4;rw[f5]at f7;have c5:=aB (fun (V:aAB) (hV:Below (((w4.alloc (J #[O Y ho,O Y ha,O Y hb,Z Ck pk ek,Z Ca pa ea,Z Cf pf ef] 85)).alloc (J #[O Y ho,O Y ha,O Y hb] 46))).heap.size (((w4.alloc (J #[O Y ho,O Y ha,O Y hb,Z Ck pk ek,Z Ca pa ea,Z Cf pf ef] 85)).alloc (J #[O Y ho,O Y ha,O Y hb] 46))) V)=>qB (b:=b) (free:=(cv.length:Int)) (fun q hq=>XT (a7.lt HR.o q hq) hV.size) (d4.below (a7.lt HR.o) hV) (f7.below (a7.lt HR.o) hV) hq hA aA (by have:=l4.o.few;omega));rw[<-hy]at c5;have f9:=aB f2;have f8:=aB h8;have g2:=aB d2;have g1:=aB f4;have l3:=aB (a7.lt HR.o _ i0);have l2:=aB (a7.lt HR.o _ h9);have h0:=aB c7;have g5:=aB d3;clear hF c6 hq i2 hA d1 f5 hy i9 m0 a7 c7 f2 i0 d2 d4 h8 h9 f4 f7 f6;have d5:(ho==5)=true:=by simp[U]
 have dk:((kl:Int)==0)=false:=by rw[XY];have:=c9.o;have:=g5.o;omega
 have n6:0<kl:=by have:=c9.o;have:=g5.o;omega
 obtain rfl:Ck=E ⟨bq,oq,I⟩:=f9.o;obtain rfl:KB=E ⟨ba,oa,I⟩:=f8.o;obtain rfl:pk=2:=h0.o;clear f9 f8 h0 U d3;obtain⟨⟨qo,qa,qb⟩,p6,qk⟩:=q;obtain⟨⟨ao,aa,ab⟩,n5,ak⟩:=a;obtain⟨⟨yo,ya,yb⟩,d6,yk⟩:=y;obtain⟨q0,q1,q2,q3,q4,q5⟩:=g2.o;obtain⟨a0,a1,a2,a3,a4,a5⟩:=g1.o;simp only at q0 q1 q2 q3 q4 q5 a0 a1 a2 a3 a4 a5 c5 e4;go_upto_region 7 with fail
 generalize ((w4.alloc (J #[O Y ho,O Y ha,O Y hb,Z (E ⟨bq,oq,I⟩) 2 ek,Z Ca pa ea,Z Cf pf ef] 85)).alloc (J #[O Y ho,O Y ha,O Y hb] 46))=W5 at *;have c4:=d8;have b9:=l3.o;have b8:=l2.o;have l9:=c4.o.h.lt;go_cut [12,13] (fun pv ev wx=>∃(g7:Nat)(a8 a9 b0:ZZ)(b5 b1 b4 b2 b6 b3:Nat),pv=.pointer (E ⟨g7,0,I⟩)/\ev=O Y ye/\Hid (GD w V0 R #[O Y b.vars,Z v.Ao v.no v.co,Z v.Ae v.ne v.ce,O Y b.nat,Z v.Ap v.np v.cp] #[O Y xo,O Y xa,O Y xb,Z Ak nk ck,Z Aa na ca,Z Af nf cf] w4.heap.size (w4.heap.size+1) ⟨Ak,nk,ck,Aa,na,ca,Af,nf,cf⟩ ((⟨xo,xa,xb⟩:Nd),l1,xk) ⟨(E ⟨bq,oq,I⟩),2,ek,Ca,pa,ea,Cf,pf,ef⟩ ((⟨ho,ha,hb⟩:Nd),i3,hk) (E ⟨ba,oa,I⟩) kl kd L W5 wx g7 ⟨a8,b5,b1,a9,b4,b2,b0,b6,b3⟩ ((⟨yo,ya,yb⟩:Nd),d6,yk)))
 case first =>
  go_wp2_with fail;have i8:W5.drew.heap.size=W5.heap.size:=rfl;refine wp_region_held_drew (S:=(fun w'=>ZY W5 w')) aC ?_ (fun D=>?_)
  . (try dsimp only);exact aU (XS _ _) 1
  have F:Hid (ZY W5 W5.drew):=aB (aU (XS _ _) 1);generalize W5.drew=W1 at *;have h5:=aB i8;clear i8;refine aL 0 D ?_;refine tk 1 ?_ (fun wq hSw=>?_) D ?_;rotate_left
  . have f3:=(hSw.cell (p:=⟨w4.heap.size,3,I⟩) l9).trans (zh 3);go_simp;try with_reducible rfl
  try simp only[p7]
  refine aL 2 D ?_;refine tk 3 ?_ (fun wq hSw=>?_) D ?_;rotate_left
  . have k0:=(hSw.cell (p:=⟨bq,oq+6,I⟩) b9).trans q0;have k1:=(hSw.cell (p:=⟨bq,oq+6+1,I⟩) b9).trans q1;have k2:=(hSw.cell (p:=⟨bq,oq+6+2,I⟩) b9).trans q2;have k3:=(hSw.cell (p:=⟨bq,oq+6+3,I⟩) b9).trans q3;have k4:=(hSw.cell (p:=⟨bq,oq+6+4,I⟩) b9).trans q4;have k5:=(hSw.cell (p:=⟨bq,oq+6+5,I⟩) b9).trans q5;go_simp;try with_reducible rfl
  try simp only[p7]
  refine aL 4 D ?_;refine aL 5 D ?_;refine tk 6 ?_ (fun wq hSw=>?_) D ?_;rotate_left
  . have j0:=(hSw.cell (p:=⟨ba,oa,I⟩) b8).trans a0;have j1:=(hSw.cell (p:=⟨ba,oa+1,I⟩) b8).trans a1;have j2:=(hSw.cell (p:=⟨ba,oa+2,I⟩) b8).trans a2;have j3:=(hSw.cell (p:=⟨ba,oa+3,I⟩) b8).trans a3;have j4:=(hSw.cell (p:=⟨ba,oa+4,I⟩) b8).trans a4;have j5:=(hSw.cell (p:=⟨ba,oa+5,I⟩) b8).trans a5;go_simp;try with_reducible rfl
  try simp only[p7]
  refine wpAnyH_ready (rs:=[7,11]) aC aD ?_;refine AllReadyH.cons rfl (fun K hK=>?_) (AllReadyH.cons rfl (fun K hK=>?_) (AllReadyH.nil))
  . go_simp;go_at_call 80
    refine (c5.o _ F.o).mono ?_;rintro e v1 ⟨G,⟨a8,b5,b1,a9,b4,b2,b0,b6,b3⟩,rfl,b7⟩;obtain⟨c8,e9⟩:=aAC G b7;have c3:=bY F G;clear G b7;go_wp2_with fail;refine hK.o _ _ (by exact c3.o) fun D=>?_;clear hK K;try simp only[p7]
    refine aL 8 D ?_;refine aL 9 D ?_;refine aL 10 D ?_;have c1:=aB (aQ v1 (J #[O Y 0,O Y 0,O Y 0,Z I 0 0,Z I 0 0,Z I 0 0] 85));obtain⟨c2,HK⟩:=aAC (c3.o.trans (c1.o.mono c3.o.size)) (aT.new v1 85 #[O Y 0,O Y 0,O Y 0,Z I 0 0,Z I 0 0,Z I 0 0]);have e8:Hid ((v1.alloc (J #[O Y 0,O Y 0,O Y 0,Z I 0 0,Z I 0 0,Z I 0 0] 85)).heap.size=v1.heap.size+1):=aB aD;refine r1 11 fun K hK=>?_;go_simp;refine hK.o _ _ (by exact c2.o) fun D=>?_;clear hK K;try simp only[p7]
    generalize (v1.alloc (J #[O Y 0,O Y 0,O Y 0,Z I 0 0,Z I 0 0,Z I 0 0] 85))=va at *;have zg:=aT.cell HK.o;have m3:=aT.frozen HK.o;have HX:=aB (J9 (ty:=⟨a8,b5,b1,a9,b4,b2,b0,b6,b3⟩) (y:=((⟨yo,ya,yb⟩:Nd),d6,yk)) HR.o c4.o F.o h5.o c8.o c1.o e8.o HK.o e9.o);refine r1 12 fun K hK=>?_;go_simp;refine hK.o _ _ (by exact HX.o.be) fun D=>?_;clear hK K;try simp only[p7]
    refine aL 13 D ?_;refine wpAnyH_done aC ?_ _;go_wp2_with fail;go_meet;exact⟨v1.heap.size,a8,a9,b0,b5,b1,b4,b2,b6,b3,rfl,rfl,HX⟩
  have c1:=aB (aQ W1 (J #[O Y 0,O Y 0,O Y 0,Z I 0 0,Z I 0 0,Z I 0 0] 85));obtain⟨c2,HK⟩:=aAC (F.o.trans (c1.o.mono F.o.size)) (aT.new W1 85 #[O Y 0,O Y 0,O Y 0,Z I 0 0,Z I 0 0,Z I 0 0]);have e8:Hid ((W1.alloc (J #[O Y 0,O Y 0,O Y 0,Z I 0 0,Z I 0 0,Z I 0 0] 85)).heap.size=W1.heap.size+1):=aB aD;go_simp;refine hK.o _ _ (by exact c2.o) fun D=>?_;clear hK K;try simp only[p7]
  generalize (W1.alloc (J #[O Y 0,O Y 0,O Y 0,Z I 0 0,Z I 0 0,Z I 0 0] 85))=va at *;refine r1 7 fun K hK=>?_;go_simp;go_at_call 80
  refine (c5.o _ c2.o).mono ?_;rintro e v1 ⟨G,⟨a8,b5,b1,a9,b4,b2,b0,b6,b3⟩,rfl,b7⟩;obtain⟨c8,e9⟩:=aAC G b7;have c3:=bY c2 G;clear G b7;go_wp2_with fail;refine hK.o _ _ (by exact c3.o) fun D=>?_;clear hK K;try simp only[p7]
  refine aL 8 D ?_;refine aL 9 D ?_;refine aL 10 D ?_;have g4:=aB (HK.o.below c8.o HK.o.lt);have zg:=aT.cell g4.o;have m3:=aT.frozen g4.o;have HX:=aB (J8 (ty:=⟨a8,b5,b1,a9,b4,b2,b0,b6,b3⟩) (y:=((⟨yo,ya,yb⟩:Nd),d6,yk)) HR.o c4.o F.o h5.o c1.o e8.o HK.o c8.o e9.o);refine r1 12 fun K hK=>?_;go_simp;refine hK.o _ _ (by exact HX.o.be) fun D=>?_;clear hK K;try simp only[p7]
  refine aL 13 D ?_;refine wpAnyH_done aC ?_ _;go_wp2_with fail;go_meet;exact⟨W1.heap.size,a8,a9,b0,b5,b1,b4,b2,b6,b3,rfl,rfl,HX⟩
 case rest =>
 obtain⟨g7,a8,a9,b0,b5,b1,b4,b2,b6,b3,rfl,rfl,HX⟩:=hcut;clear q0 q1 q2 q3 q4 q5 a0 a1 a2 a3 a4 a5 c5 g2 g1 zh zn;have e1:=g6.o;obtain⟨B1,i4,i6⟩:=KE (B:=E ⟨ba,oa,I⟩) (L:=L) (n:=kl) (c:=kd) (k:=1) c9.o.symm aA c4.o.kd.cap e1;have m7:∀w:World,(Instr.slice 83 (Z (E ⟨ba,oa,I⟩) kl kd) (E (O Y 1)) I I).run Tryz.prog w=.ok (Z B1 (kl-1) (kd-1)) w:=i4;have g8:=aB (fun (V:aAB) (hV:ZY wc V)=>gZ (fun q hq=>XT (HX.o.nn.lt HR.o q hq) hV.size) (HX.o.tr.below (HX.o.nn.lt HR.o) hV) ((i6 _ _ HX.o.nn.kd).below (HX.o.nn.lt HR.o) hV) aA);obtain⟨⟨⟨zo,za,zb⟩,m2,zk⟩,D⟩:∃z,z=dP ((⟨yo,ya,yb⟩:Nd),d6,yk) (L.drop 1):=⟨_,rfl⟩;rw[<-D]at g8 e4;have d0:=aB HX.o.nn;have c0:=HX.o.bk.lt;have l5:Hid (W5.heap.size<=g7):=aB HX.o.ge;have m8:g7≠w.heap.size+1+1:=by have:=l5.o;have:=c4.o.s.sz;have:=h6.o;omega
 have z7:=aT.cell HX.o.bk;clear i4 i6 D e1;go_upto_region 8 with fail
 refine wp_region_held_drew (S:=(fun w'=>∀q,q<wc.heap.size->q≠w.heap.size+1+1->w'.heap[q]? = wc.heap[q]?)) aC ?_ (fun D=>?_)
 . (try dsimp only);exact fun q _ _=>rfl
 have F:Hid (ZY wc wc.drew):=aB (aU (XS _ _) 1);generalize wc.drew=W1 at *;refine tk 0 ?_ (fun wq hSw=>?_) D ?_;rotate_left
 . have k0:=(aP (hSw (g7) (c0) aA) (0)).trans (z7 0);have k1:=(aP (hSw (g7) (c0) aA) (1)).trans (z7 1);have k2:=(aP (hSw (g7) (c0) aA) (2)).trans (z7 2);have k3:=(aP (hSw (g7) (c0) aA) (3)).trans (z7 3);have k4:=(aP (hSw (g7) (c0) aA) (4)).trans (z7 4);have k5:=(aP (hSw (g7) (c0) aA) (5)).trans (z7 5);go_simp;try with_reducible rfl
 try simp only[p7]
 refine aL 1 D ?_;refine aL 2 D ?_;refine aL 4 D ?_;refine r1 3 fun K hK=>?_;go_simp;go_at_call 81
 refine (g8.o _ F.o).mono ?_;rintro e v9 ⟨G,⟨j6,k9,j9,j7,k8,k6,j8,l0,k7⟩,rfl,b7⟩;have a6:=bY F G;obtain⟨l7,l6⟩:=aAC b7 F.o.size;clear b7;clear G;go_wp2_with fail;refine hK.o _ _ (by exact fun q h1 _=>a6.o.block q h1) fun D=>?_;clear hK K;try simp only[p7]
 have e5:=aB (d0.o.s.r.below a6.o d0.o.s.r.lt);have zr:=aT.cell e5.o;have p8:=aT.frozen e5.o;refine r1 5 fun K hK=>?_;go_simp;refine hK.o _ _ (by exact fun q h1 h2=>((e7 _ (w.heap.size+1+1) _ _ _ _ _ _).block q (XT h1 a6.o.size) (by intro e;injection e with e;exact h2 e)).trans (a6.o.block q h1)) fun D=>?_;clear hK K;try simp only[p7]
 refine aL 6 D ?_;refine aL 7 D ?_;refine wpAnyH_done aC ?_ _;go_wp2_with fail;refine XW (v:=.tuple #[.agg #[O Y zo,O Y za,O Y zb,Z j6 k9 j9,Z j7 k8 k6,Z j8 l0 k7],.bool true,O Y ye]) ?_ rfl ?_
 . exact dZ (g:=w.heap.size+1+1) (cK e5.o _ _ _ _ _ _) aD
 exact kN (V0:=V0) (ty:=⟨j6,k9,j9,j7,k8,k6,j8,l0,k7⟩) (y:=((⟨zo,za,zb⟩:Nd),m2,zk)) HR.o h6.o d0.o a6.o (fun q hq=>gK (fun q h=>h) (by have:=d0.o.s.sz;have:=l6.o;omega) a6.o.size hq) l7.o (PJ e4.o l8.o)
end
end Go.Proofs.YtjoddliplahgkaaGreat
