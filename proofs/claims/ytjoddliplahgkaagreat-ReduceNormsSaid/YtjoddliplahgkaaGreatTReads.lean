/- Merged: Read, Read2, Read3. -/
import Derived.Test.YtjoddliplahgkaaGreatTKidss
namespace Go.Proofs.YtjoddliplahgkaaGreat
set_option linter.unusedVariables false
set_option linter.unusedSimpArgs false
open Go.RowKit
open Go.Value renaming int → O, slice → X, bool → I
open Go.IntKind renaming i64 → S
open Option renaming none → Y, some → Z
open Go.Lib renaming hid->aB
set_option maxHeartbeats 4000000
set_option maxRecDepth 100000
variable {l:List Nd}{c g n:Nat}{A:ZZ}{w w':aAB}
def dR:Value:=.agg #[O S 0,O S 0,O S 0,X Y 0 0,X Y 0 0,X Y 0 0]
def iX(l:List Nd)(w:aAB)(e:Ending)(w':aAB):Prop :=
 ZY w w'/\match pp [false] l with
  | some (.cons _ n atoms kids _,r)=>∃D,e=.returned (.tuple #[.agg D.toArray,O S ((l.length-r.length:Nat):Int),I true])/\cJ (eC w w') w' D n atoms kids
  | _=>e=.returned (.tuple #[dR,O S 0,I false])
theorem Tryz.infoN:(Tryz.prog.info? 46).map (fun i=>(i.zero,i.size,i.bytes))=Z (Z (.agg #[O S 0,O S 0,O S 0]),3,24):=by kernel_rfl
theorem Tryz.infoT:(Tryz.prog.info? 85).map (fun i=>(i.zero,i.size,i.bytes))=Z (Z dR,6,96):=by kernel_rfl
theorem cY(h:pp [false] l=Y)(D:ZY w w'):iX l w (.returned (.tuple #[dR,O S 0,I false])) w':=by
 refine⟨D,?_⟩;rw[h]
theorem eV{B:Nat}(h:Below B w w')(D:B<=g)(a b c d e f:Value):Below B w ((((((w'.setCell ⟨g,0,Y⟩ a).setCell ⟨g,1,Y⟩ b).setCell ⟨g,2,Y⟩ c).setCell ⟨g,3,Y⟩ d).setCell ⟨g,4,Y⟩ e).setCell ⟨g,5,Y⟩ f) :=
 (((((h.setCell (p:=⟨g,0,Y⟩) D a).setCell (p:=⟨g,1,Y⟩) D b).setCell (p:=⟨g,2,Y⟩) D c).setCell (p:=⟨g,3,Y⟩) D d).setCell (p:=⟨g,4,Y⟩) D e).setCell (p:=⟨g,5,Y⟩) D f
theorem dD{c0 c1 c2 c3 c4 c5:Value}{D:Array Value}(h:aT w g 85 #[c0,c1,c2,c3,c4,c5])(ht:D.getD 2 undef=.pointer (Z ⟨g,0,Y⟩)):
 (results Tryz.f78 D).run Tryz.prog w=.ok (.tuple #[.agg #[c0,c1,c2,c3,c4,c5],D.getD 3 undef,D.getD 4 undef]) w:=by
 have G:=h.cell;have F:D[2]?.getD undef=.pointer (Z ⟨g,0,Y⟩):=by rw[<-ht];simp
 simp[results,Tryz.results78,go_sem,F,G]
theorem NM(h:aX w A 0 c l):
 Calls Tryz.prog 78 #[X A 0 c] w (iX l w):=by
 have F:pp [false] l=Y:=QC _ (fun G=>by rw[h.len]at G;omega);have D:=aB F;clear F;go_in;go_wp2_with fail;refine XW (v:=.tuple #[dR,O S 0,I false]) (by simp[results,Tryz.results78,go_sem,dR]) rfl (cY D.o (aQ _ _))
theorem NN(h:aX w A n c l)(hn:0<n)(b4:((bC l 0).op==2)=true)(c6:eW (bC l 0)=true)(K:Nat)(hK:(bC l 0).b=K):
 Calls Tryz.prog 78 #[X A n c] w (iX l w):=by
 have f8:=h.few;have g1:K<=4:=by
  simp at b4;rw[bB,aV]at c6;omega
 obtain⟨b,off,rfl,hb,c0,c1,c2⟩:=h.at_ hn;have d7:pp [false] l=(bJ K (-1) (l.drop 1)).map fun q=>(.cons [] (bC l 0) q.1 .nil .nil,q.2):=by
  rw[KX (by rw[h.len];exact hn) c6 (by simpa using b4),hK,YG]
 have a4:=aB d7;clear d7;have d5:eW ⟨(bC l 0).op,(bC l 0).a,K⟩=true:=by rw[<-hK];exact c6
 have HK:=aB hK;simp only[YU,YF,hK]at c0 c1 c2;clear hK;have g5:dC (bC l 0).op (K:Int)=0:=by simp at b4;simp[dC,b4]
 have g4:(((n:Nat):Int)==0)=false:=by simp;omega
 go_in;go_wp2_with (go_at_call 121;refine (zL _ _ _ _ d5).mono ?_;rintro e w1 ⟨rfl,a1⟩;obtain⟨e7,e8⟩:=nB a1;have g3:b<w1.heap.size:=by (have:=a1.size;simp at this;omega))
 have f6:aT w1 w.heap.size 85 #[O S 0,O S 0,O S 0,X Y 0 0,X Y 0 0,X Y 0 0]:=(aT.new _ _ _).below a1 aD;have h1:aX w1 (Z ⟨b,off,Y⟩) n c l:=(h.alloc _).below a1;have f5:w.heap.size<w1.heap.size:=by have:=a1.size;simp at this;omega
 clear e7 e8;go_loopw [8,9] (fun a i wr=>∃(p j:Nat)(a0:List Nd)(A0:ZZ)(m0 k0:Nat),j<=K/\p<=n/\a=O S (p:Int)/\i=O S (j:Int)/\p=j+1 ∧
  bJ K (-1) (l.drop 1)=(bJ (K-j) (if j=0 then -1 else (bC l j).a) (l.drop p)).map (fun p=>(a0++p.1,p.2))/\a0.length=j ∧
  aT wr w1.heap.size 85 #[O S (bC l 0).op,O S (bC l 0).a,O S K,X Y 0 0,X A0 m0 k0,X Y 0 0] ∧
  bK wr (w1.heap.size+1) (X A0 m0 k0) a0/\ZY w1 wr) (fun _ i _=>K-(intOf i).toNat)
 case atStart =>
  refine⟨1,0,[],Y,0,0,ZA _,hn,rfl,rfl,rfl,?_,rfl,aT.new _ _ _,bK.nil _ _,aQ _ _⟩;simp only[Nat.sub_zero,if_true,YO];cases bJ K (-1) (l.drop 1)<;>rfl
 case round =>
  obtain⟨p,j,a0,A0,m0,k0,hj,g0,rfl,rfl,b5,he,b8,U,z,s⟩:=hrel;obtain⟨HP,HE,HL⟩:=aAF b5 he b8;have D:=aT.below f6 s f5;have c9:∀(m:Nat)(x:Value),ZY w ((((((wr.drewN m).setCell ⟨w.heap.size,0,Y⟩ (O S 0)).setCell ⟨w.heap.size,1,Y⟩ (O S 0)).setCell ⟨w.heap.size,2,Y⟩ (O S 0)).setCell ⟨w.heap.size,3,Y⟩ (X Y 0 0)).setCell ⟨w.heap.size,4,Y⟩ (X Y 0 0) |>.setCell ⟨w.heap.size,5,Y⟩ (X Y 0 0)):=fun m _ =>
   eV (aU ((aQ w _).trans ((a1.trans (s.mono a1.size)).mono aD)) m) (XU _) _ _ _ _ _ _
  have a7:=aB c9;clear c9;have b7:w1.heap.size+1<=wr.heap.size:=aT.lt U;have d9:=h1.below s;have e0:=(h1.below s).cells (p:=0) hn;simp only[YU,YF,HK.o]at e0;obtain⟨g2,e0,e1,e2⟩:=e0;have G:((p:Int)-1).toNat=j:=by rw[b5];omega
  have e3:(0:Int)<=(p:Int)-1:=by rw[b5];omega
  have c8:=aB G;clear he b8 c0 c1 c2 b5 G;by_cases d4:j<K;rotate_left
  . go_wp2_with fail;refine wp_loop_once ?_;have g6:=aT.cell U;have b2:=aT.cell D;have b3:=aT.frozen D;go_wp2_with fail;have d8:pp [false] l=Z (.cons [] (bC l 0) a0 .nil .nil,l.drop p):=by
     rw[a4.o,HE.o,show K-j=0 from by omega];simp[bJ]
    have hX:=((((((D.set_ 0 (O S (bC l 0).op)).set_ 1 (O S (bC l 0).a)).set_ 2 (O S K)).set_ 3 (X Y 0 0)).set_ 4 (X A0 m0 k0)).set_ 5 (X Y 0 0));have a6:w.heap.size<w1.heap.size+1:=aA;have hO:=(((((z.setCell (a:=⟨w.heap.size,0,Y⟩) a6 (O S (bC l 0).op)).setCell (a:=⟨w.heap.size,1,Y⟩) a6 (O S (bC l 0).a)).setCell (a:=⟨w.heap.size,2,Y⟩) a6 (O S K)).setCell (a:=⟨w.heap.size,3,Y⟩) a6 (X Y 0 0)).setCell (a:=⟨w.heap.size,4,Y⟩) a6 (X A0 m0 k0)).setCell (a:=⟨w.heap.size,5,Y⟩) a6 (X Y 0 0);have e5:ZY w wr:=(aQ w _).trans ((a1.trans (s.mono a1.size)).mono aD);refine XW (v:=.tuple #[.agg #[O S (bC l 0).op,O S (bC l 0).a,O S K,X Y 0 0,X A0 m0 k0,X Y 0 0],O S p,I true]) (dD hX rfl) rfl ⟨eV e5 (XU _) _ _ _ _ _ _,?_⟩;rw[d8];refine⟨[O S (bC l 0).op,O S (bC l 0).a,O S K,X Y 0 0,X A0 m0 k0,X Y 0 0],?_,_,_,_,by rw[HK.o],tM.nil _ _,(hO.termS (by have:=HL.o;omega)).keep fun b hb=>⟨⟨?_,?_⟩,fun _=>rfl⟩,gE.nil _ _⟩
    . rw[YS,h.len,show n-(n-p)=p from by omega]
    . have:=(aS hO hb).1;omega
    exact (aS hO hb).2.1
  by_cases a5:p<n
  . obtain⟨_,d0,d1,d2⟩:=d9.cells a5;have e9:decide (n<=p)=false:=by simp;omega
    by_cases h3:(bC l p).op=3;rotate_left
    . have e4:((bC l p).op != 3)=true:=by simp[h3]
      have H3:=aB h3;clear h3;go_wp2_with fail;go_quiet ((go_at_call 122;first|exact cO _ _ _ _ _ aA|exact cN _ _ _ _ _ aA))
      have b2:=aT.cell D;have b3:=aT.frozen D;go_wp2_with fail;refine XW (v:=.tuple #[dR,O S 0,I false]) (dD ((((((((D.drewN _).set_ 0 _).set_ 1 _).set_ 2 _).set_ 3 _).set_ 4 _).set_ 5 _)) rfl) rfl (cY ?_ (a7.o _ (O S 0)));rw[a4.o,HE.o,show K-j=(K-(j+1))+1 from by omega,gV (fun _ hh _ _=>H3.o hh)];rfl
    have e4:((bC l p).op != 3)=false:=by simp[h3]
    have d6:(0<=(bC l p).a/\(bC l p).a<=16)/\(0<=(bC l p).b/\(bC l p).b<=1000)->cD (bC l p).op (bC l p).a (bC l p).b=true:=fun hh=>by rw[aV];omega
    have b9:cD (bC l p).op (bC l p).a (bC l p).b=true->(0<=(bC l p).a/\(bC l p).a<=16)/\(0<=(bC l p).b/\(bC l p).b<=1000):=fun hh=>by rw[aV]at hh;omega
    obtain⟨c7,b6,H3⟩:=aAF d6 b9 h3;clear h3 d6 b9;by_cases ha:0<=(bC l p).a/\(bC l p).a<=16;rotate_left
    . go_wp2_with fail;go_quiet ((go_at_call 122;first|exact cO _ _ _ _ _ aA|exact cN _ _ _ _ _ aA))
      have b2:=aT.cell D;have b3:=aT.frozen D;go_wp2_with fail;refine XW (v:=.tuple #[dR,O S 0,I false]) (dD ((((((((D.drewN _).set_ 0 _).set_ 1 _).set_ 2 _).set_ 3 _).set_ 4 _).set_ 5 _)) rfl) rfl (cY ?_ (a7.o _ (O S 0)));rw[a4.o,HE.o,show K-j=(K-(j+1))+1 from by omega,gV (fun _ _ hh _=>ha (b6.o hh).1)];rfl
    by_cases e6:0<=(bC l p).b/\(bC l p).b<=1000
    . by_cases f3:0<j
      . obtain⟨_,f0,f1,f2⟩:=d9.cells (p:=j) (by have:=HP.o;omega);have a3:IntKind.i64.wrap ((p:Int)-1)=(p:Int)-1:=IntWalk.i64_in _ aA;by_cases f4:(bC l p).a<=(bC l j).a
        . have d3:decide ((bC l p).a<=(bC l j).a)=true:=by simp[f4]
          have G:=c8.o;go_wp2_with fail;go_quiet ((go_at_call 122;first|exact cO _ _ _ _ _ aA|exact cN _ _ _ _ _ aA))
          clear G a3;have b2:=aT.cell D;have b3:=aT.frozen D;go_wp2_with fail;refine XW (v:=.tuple #[dR,O S 0,I false]) (dD ((((((((D.drewN _).set_ 0 _).set_ 1 _).set_ 2 _).set_ 3 _).set_ 4 _).set_ 5 _)) rfl) rfl (cY ?_ (a7.o _ (O S 0)));rw[a4.o,HE.o,show K-j=(K-(j+1))+1 from by omega,gV (fun _ _ _ hh=>by rw[XN aA]at hh;omega)];rfl
        have d3:decide ((bC l p).a<=(bC l j).a)=false:=by simp;omega
        have G:=c8.o;go_wp2_with fail;go_quiet ((go_at_call 122;first|exact cO _ _ _ _ _ aA|exact cN _ _ _ _ _ aA))
        clear G a3;go_wp2_with fail;have f7:∀(m:Nat)(o:Obj),((wr.drewN m).alloc o).cell? ⟨w1.heap.size,4,Y⟩=Z (X A0 m0 k0):=fun m o=>(aT.alloc (U.drewN m) o).cell 4;have z0:wr.cell? ⟨w1.heap.size,4,Y⟩=Z (X A0 m0 k0):=U.cell 4;obtain⟨i0,hi,a9,b0,b1⟩:=info_parts Tryz.infoN;have HI:=aB hi;have c3:=aB a9;have c4:=aB b0;have c5:=aB b1;clear hi a9 b0 b1;go_region_law (refine jO rfl (cM (.tmp 95) (.tmp 100) 28 rfl (w1.heap.size+1) i0 Tryz.underlying28 HI.o c3.o c4.o c5.o (X A0 m0 k0) a0 (bC l p) _ rfl rfl z _ rfl aD (by have:=HL.o;omega) b7 ?_);intro A' c' w' a2 a8;have F:=a8.grown;have zb:=aT.grown (U.drewN _) F (eF z (YL _));have zc:w'.cell? ⟨w1.heap.size,4,Y⟩=Z (X A0 m0 k0):=zb.cell 4;have zf:=zb.frozen 4)
        all_goals
         go_wp2_with fail;go_roundw
         case rel =>
          refine⟨p+1,j+1,a0++[bC l p],_,_,_,d4,a5,by go_num,by go_num,by have:=HP.o;omega,?_,by simp[HL.o],zb.set_ 4 _,a2.setCell (YL _) _,((aU s _).grown F aG (fun g hg=>by have:=(aS z hg).1;omega)).setCell (XU _) _⟩;rw[HE.o,show K-j=(K-(j+1))+1 from by omega,oK (by rw[h.len];exact a5) H3.o (c7.o ⟨by omega,by omega⟩) (by rw[XN aA];omega),XN aA,<-HP.o];rw[Option.map_map];congr 1;funext q;simp
         case measure=>simp[intOf];omega
      have f9:decide (0<j)=false:=by simp[f3]
      go_wp2_with fail;go_quiet ((go_at_call 122;first|exact cO _ _ _ _ _ aA|exact cN _ _ _ _ _ aA))
      go_wp2_with fail;have f7:∀(m:Nat)(o:Obj),((wr.drewN m).alloc o).cell? ⟨w1.heap.size,4,Y⟩=Z (X A0 m0 k0):=fun m o=>(aT.alloc (U.drewN m) o).cell 4;have z0:wr.cell? ⟨w1.heap.size,4,Y⟩=Z (X A0 m0 k0):=U.cell 4;obtain⟨i0,hi,a9,b0,b1⟩:=info_parts Tryz.infoN;have HI:=aB hi;have c3:=aB a9;have c4:=aB b0;have c5:=aB b1;clear hi a9 b0 b1;go_region_law (refine jO rfl (cM (.tmp 95) (.tmp 100) 28 rfl (w1.heap.size+1) i0 Tryz.underlying28 HI.o c3.o c4.o c5.o (X A0 m0 k0) a0 (bC l p) _ rfl rfl z _ rfl aD (by have:=HL.o;omega) b7 ?_);intro A' c' w' a2 a8;have F:=a8.grown;have zb:=aT.grown (U.drewN _) F (eF z (YL _));have zc:w'.cell? ⟨w1.heap.size,4,Y⟩=Z (X A0 m0 k0):=zb.cell 4;have zf:=zb.frozen 4)
      all_goals
       go_wp2_with fail;go_roundw
       case rel =>
        refine⟨p+1,j+1,a0++[bC l p],_,_,_,d4,a5,by go_num,by go_num,by have:=HP.o;omega,?_,by simp[HL.o],zb.set_ 4 _,a2.setCell (YL _) _,((aU s _).grown F aG (fun g hg=>by have:=(aS z hg).1;omega)).setCell (XU _) _⟩;rw[HE.o,show K-j=(K-(j+1))+1 from by omega,oK (by rw[h.len];exact a5) H3.o (c7.o ⟨by omega,by omega⟩) (by rw[XP aA];omega),XN aA,<-HP.o];rw[Option.map_map];congr 1;funext q;simp
       case measure=>simp[intOf];omega
    go_wp2_with fail;go_quiet ((go_at_call 122;first|exact cO _ _ _ _ _ aA|exact cN _ _ _ _ _ aA))
    have b2:=aT.cell D;have b3:=aT.frozen D;go_wp2_with fail;refine XW (v:=.tuple #[dR,O S 0,I false]) (dD ((((((((D.drewN _).set_ 0 _).set_ 1 _).set_ 2 _).set_ 3 _).set_ 4 _).set_ 5 _)) rfl) rfl (cY ?_ (a7.o _ (O S 0)));rw[a4.o,HE.o,show K-j=(K-(j+1))+1 from by omega,gV (fun _ _ hh _=>e6 (b6.o hh).2)];rfl
  have e9:decide (n<=p)=true:=by simp;omega
  go_wp2_with fail;go_quiet ((go_at_call 122;first|exact cO _ _ _ _ _ aA|exact cN _ _ _ _ _ aA))
  have b2:=aT.cell D;have b3:=aT.frozen D;go_wp2_with fail;refine XW (v:=.tuple #[dR,O S 0,I false]) (dD ((((((((D.drewN _).set_ 0 _).set_ 1 _).set_ 2 _).set_ 3 _).set_ 4 _).set_ 5 _)) rfl) rfl (cY ?_ (a7.o _ (O S 0)));rw[a4.o,HE.o,show K-j=(K-(j+1))+1 from by omega,gV (fun hh _ _ _=>a5 (by rw[h.len]at hh;exact hh))];rfl
def vI(B:Nat)(w:aAB)(u v:Value)(b:Nat):Prop:=B<=b/\b<w.heap.size/\u.ownBlock≠Z b/\v.ownBlock≠Z b
theorem vV{B:Nat}{wr w2 W w' wf:aAB}{e1 e2:TypeId}{s1 s2 n1 n2:Nat}{u v:Value}{x1 x2:List Value}{F:Fo}{xs ys:List Value}{nd:Nd}{a0:List Nd}{ks:Fo}{pre:List Nd}{A':ZZ}{m c':Nat}{zs:List Value}
 (a2:lO (vI B wr u v) wr F xs) (ht:cJ (eC wr w2) w2 ys nd a0 ks) (hb:ZY wr w2) (hB:B<=wr.heap.size)
 (h1:wr.ownsRow B e1 s1 u n1 x1) (h2:wr.ownsRow B e2 s2 v n2 x2) (hW:ZY w2 W) (z:fO W w' B e1 s1 u A' m c' zs)
 (a3:∀b,B<=b->∀o,wf.cell? ⟨b,o,Y⟩=w'.cell? ⟨b,o,Y⟩) (a7:wf.heap.size=w'.heap.size) :
 lO (vI B wf (X A' m c') v) wf (F.app (.cons pre nd a0 ks .nil)) (xs++ys):=by
 have a4:=hW.size;have a5:=hb.size;have a6:=z.grown.size;have U:∀b,b<w2.heap.size->B<=b->u.ownBlock≠Z b->∀o,wf.cell? ⟨b,o,Y⟩=w2.cell? ⟨b,o,Y⟩:=fun b G D h o=>by
  rw[a3 b D o,World.cell?_of_block (w:=W) (z.grown.block b aA (fun e=>h e.symm)),hW.cell (p:=⟨b,o,Y⟩) G]
 have s:∀b,b<w2.heap.size->u.ownBlock≠Z b->(Value.slice A' m c').ownBlock≠Z b:=fun b G D e=>by
  rcases z.new b e with e|e
  . exact D e
  omega
 refine lO.app F _ xs ys (lO.keep ?_ F xs a2) ?_
 . rintro b ⟨G,D,h,a1⟩;refine⟨⟨G,by omega,s b aA h,a1⟩,fun o=>?_⟩;rw[U b aA G h,hb.cell (p:=⟨b,o,Y⟩) D]
 refine⟨ys,[],by simp,ht.keep ?_,rfl⟩;rintro b ⟨G,D⟩;have hu:u.ownBlock≠Z b:=fun e=>by have:=(aS h1 e).2.1;omega
 have hv:v.ownBlock≠Z b:=fun e=>by have:=(aS h2 e).2.1;omega
 exact⟨⟨by omega,by omega,s b D hu,hv⟩,U b D aA hu⟩
theorem PH{B:Nat}{wr:aAB}{u v:Value}{F:Fo}{xs:List Value}{A':ZZ}{m c' base:Nat}{e:TypeId}{sz:Nat}{zs:List Value}(a0:lO (vI B wr u v) wr F xs)(G:fO wr.drew w' base e sz v A' m c' zs)
 (g i:Nat) (x:Value) (hg:g<B):lO (vI B (w'.setCell ⟨g,i,Y⟩ x) u (X A' m c')) (w'.setCell ⟨g,i,Y⟩ x) F xs:=by
 refine lO.keep ?_ F xs a0;rintro b ⟨h,s,z,U⟩;have hs:=G.grown.size;have a1:wr.heap.size<=w'.heap.size:=hs;refine⟨⟨h,by simp[World.setCell];omega,z,fun D=>?_⟩,fun o=>?_⟩
 . rcases G.new b D with D|D
   . exact U D
   have:wr.heap.size<=b:=D;omega
 rw[World.cell?_setCell_other _ _ _ _ (fun D=>by injection D with D;omega),World.cell?_of_block (w:=wr.drew) (G.grown.block b s (fun D=>U D.symm))];rfl
theorem uT{base:Nat}{e:TypeId}{size:Nat}{v:Value}{F:List Value}(h:w.ownsRow base e size v n F)(D:g<base)(a b c d x y:Value):
 ((((((w.setCell ⟨g,0,Y⟩ a).setCell ⟨g,1,Y⟩ b).setCell ⟨g,2,Y⟩ c).setCell ⟨g,3,Y⟩ d).setCell ⟨g,4,Y⟩ x).setCell ⟨g,5,Y⟩ y).ownsRow base e size v n F :=
 ownsRow_setCell_below (ownsRow_setCell_below (ownsRow_setCell_below (ownsRow_setCell_below (ownsRow_setCell_below (ownsRow_setCell_below h (a:=⟨g,0,Y⟩) D a) (a:=⟨g,1,Y⟩) D b) (a:=⟨g,2,Y⟩) D c) (a:=⟨g,3,Y⟩) D d) (a:=⟨g,4,Y⟩) D x) (a:=⟨g,5,Y⟩) D y
theorem qQ(w:aAB){F:Nat}(U:F≠g)(a b c d x y:Value)(o:Nat):
 ((((((w.setCell ⟨g,0,Y⟩ a).setCell ⟨g,1,Y⟩ b).setCell ⟨g,2,Y⟩ c).setCell ⟨g,3,Y⟩ d).setCell ⟨g,4,Y⟩ x).setCell ⟨g,5,Y⟩ y).cell? ⟨F,o,Y⟩=w.cell? ⟨F,o,Y⟩:=by
 have D:∀i,(⟨g,i,Y⟩:Addr)≠⟨F,o,Y⟩:=fun i G=>by injection G with G;exact U G.symm
 rw[World.cell?_setCell_other _ _ _ _ (D 5),World.cell?_setCell_other _ _ _ _ (D 4),World.cell?_setCell_other _ _ _ _ (D 3),World.cell?_setCell_other _ _ _ _ (D 2),World.cell?_setCell_other _ _ _ _ (D 1),World.cell?_setCell_other _ _ _ _ (D 0)]
theorem NL(h:aX w A n c l)(hn:0<n)(k6:((bC l 0).op==2)=false)(g0:eW (bC l 0)=true)
 (ih:∀(w:aAB)(A:ZZ)(m c:Nat)(l':List Nd),aX w A m c l'->m<n->Calls Tryz.prog 78 #[X A m c] w (iX l' w)) :
 Calls Tryz.prog 78 #[X A n c] w (iX l w):=by
 have l1:=h.few;have HI:=aB ih;have j6:pp [false] l=(pp (ds (bC l 0)) (l.drop 1)).map fun q=>(.cons [] (bC l 0) [] q.1 .nil,q.2):=KW (by rw[h.len];exact hn) g0 (by simpa using k6);have c4:=aB j6;clear j6 ih;obtain⟨j0,j1⟩:=UW g0;obtain⟨K,hK⟩:=Int.eq_ofNat_of_zero_le j0;have k9:K<=18:=aA;have i6:(ds (bC l 0)).length=K:=by rw[sF g0,hK];rfl
 have h7:=aB i6;clear j0 j1 i6;obtain⟨b,off,rfl,hb,c0,c1,c2⟩:=h.at_ hn;simp only[YU,YF]at c0 c1 c2;have j3:eW ⟨(bC l 0).op,(bC l 0).a,(bC l 0).b⟩=true:=g0;have l7:(((n:Nat):Int)==0)=false:=by simp;omega
 go_in;go_wp2_with (go_at_call 121;refine (zL _ _ _ _ j3).mono ?_;rintro e w1 ⟨rfl,b9⟩;obtain⟨k4,k5⟩:=nB b9;have l6:b<w1.heap.size:=by (have:=b9.size;simp at this;omega))
 have k7:aT w1 w.heap.size 85 #[O S 0,O S 0,O S 0,X Y 0 0,X Y 0 0,X Y 0 0]:=(aT.new _ _ _).below b9 aD;have h1:aX w1 (Z ⟨b,off,Y⟩) n c l:=(h.alloc _).below b9;have j8:w.heap.size<w1.heap.size:=by have:=b9.size;simp at this;omega
 clear k4 k5;go_loopw [8,10] (fun a i wr=>∃(p j:Nat)(F:Fo)(A1:ZZ)(k1:Nat)(A2:ZZ)(m2 k2:Nat)(xs:List Value),j<=K/\p<=n/\1<=p/\a=O S (p:Int)/\i=O S (j:Int) ∧
  pp (ds (bC l 0)) (l.drop 1)=(pp ((ds (bC l 0)).drop j) (l.drop p)).map (fun y=>(F.app y.1,y.2))/\bE F=j/\(cG F).length<=j ∧
  aT wr w1.heap.size 85 #[O S (bC l 0).op,O S (bC l 0).a,O S (bC l 0).b,X A1 j k1,X Y 0 0,X A2 m2 k2] ∧
  wr.ownsRow (w1.heap.size+1) 85 6 (X A1 j k1) j xs/\lO (vI (w1.heap.size+1) wr (X A1 j k1) (X A2 m2 k2)) wr F xs ∧
  bK wr (w1.heap.size+1) (X A2 m2 k2) (cG F)/\ZY w1 wr) (fun _ i _=>K-(intOf i).toNat)
 case atStart =>
  refine⟨1,0,.nil,Y,0,Y,0,0,[],ZA _,hn,XU _,rfl,rfl,?_,rfl,ZA _,aT.new _ _ _,ZE _ _ _ _,rfl,bK.nil _ _,aQ _ _⟩;simp only[List.drop_zero,Fo.app];cases pp (ds (bC l 0)) (l.drop 1)<;>rfl
 case round =>
  obtain⟨p,j,F,A1,k1,A2,m2,k2,xs,hj,e6,l8,rfl,rfl,he,g5,j5,a4,a3,f7,a1,a6⟩:=hrel;obtain⟨HE,HL,e9⟩:=aAF he g5 j5;have G:=aT.below k7 a6 j8;have h5:=h1.below a6;have e0:=(h1.below a6).cells (p:=0) hn;simp only[YU,YF]at e0;obtain⟨l5,e0,e1,e2⟩:=e0;have i2:ZY w wr:=(aQ w _).trans ((b9.trans (a6.mono b9.size)).mono aD);have b8:=aB i2;clear he g5 c0 c1 c2 j5 i2;by_cases f9:j<K;rotate_left
  . obtain rfl:j=K:=aA;have h6:=aT.cell a4;have d9:=aT.cell G;have e3:=aT.frozen G;go_wp2_with fail;have j9:pp [false] l=Z (.cons [] (bC l 0) [] F .nil,l.drop p):=by
     rw[c4.o,HE.o,YY (by rw[h7.o];omega),kU];simp[iK]
    have j7:w.heap.size<w1.heap.size+1:=aA;have hO:=uT a3 j7 (O S (bC l 0).op) (O S (bC l 0).a) (O S (bC l 0).b) (X A1 j k1) (X Y 0 0) (X A2 m2 k2);have h2:bK _ _ _ _:=uT a1 j7 (O S (bC l 0).op) (O S (bC l 0).a) (O S (bC l 0).b) (X A1 j k1) (X Y 0 0) (X A2 m2 k2);refine XW (v:=.tuple #[.agg #[O S (bC l 0).op,O S (bC l 0).a,O S (bC l 0).b,X A1 j k1,X Y 0 0,X A2 m2 k2],O S p,I true]) (dD ((((((G.set_ 0 _).set_ 1 _).set_ 2 _).set_ 3 _).set_ 4 _).set_ 5 _) rfl) rfl ⟨eV b8.o (XU _) _ _ _ _ _ _,?_⟩;rw[j9];refine⟨[O S (bC l 0).op,O S (bC l 0).a,O S (bC l 0).b,X A1 j k1,X Y 0 0,X A2 m2 k2],?_,_,_,_,rfl,iQ (by rw[HL.o];exact hO) (f7.keep ?_) ?_,gE.nil _ _,(h2.termS (by have:=e9.o;omega)).keep fun b hb=>⟨⟨?_,?_⟩,fun _=>rfl⟩⟩
    . rw[YS,h.len,show n-(n-p)=p from by omega]
    . rintro b' ⟨l0,i4,_,_⟩;refine⟨⟨by omega,by simp[World.setCell];exact i4⟩,fun o=>?_⟩;exact qQ wr (Nat.ne_of_gt (by omega:w.heap.size<b')) _ _ _ _ _ _ o
    . intro b' f3;exact⟨by have:=(aS hO f3).1;omega,(aS hO f3).2.1⟩
    . have:=(aS h2 hb).1;omega
    exact (aS h2 hb).2.1
  have i5:(ds (bC l 0)).drop j=decide ((bC l 0).op=12/\j % 2=0)::(ds (bC l 0)).drop (j+1):=SI (by rw[h7.o];exact f9);have h0:=aB i5;clear i5;by_cases e7:(bC l 0).op=12;rotate_left
  . have h8:((bC l 0).op==12)=false:=by simp[e7]
    have g9:=aB e7;clear e7;have z:(ds (bC l 0)).drop j=false::(ds (bC l 0)).drop (j+1):=by rw[h0.o,XQ (fun hh=>g9.o hh.1)]
    have c9:pp ((ds (bC l 0)).drop j) (l.drop p)=(pp [false] (l.drop p)).bind fun x=>(pp ((ds (bC l 0)).drop (j+1)) x.2).map fun y=>(x.1.app y.1,y.2):=by rw[z,rJ]
    have c5:=aB c9;clear z c9;obtain⟨A',hcut,hT⟩:=lY (Z ⟨b,off,Y⟩) n c p e6;have f2:=hT _ _ _ h5;go_wp2_with fail;refine (HI.o wr A' (n-p) (c-p) (l.drop p) f2 aA).mono ?_;rintro e w2 ⟨U,s⟩;clear hcut hT;have a0:=aT.below a4 U (aT.lt a4);have a5:=aT.below G U (aT.lt G);cases hq:pp [false] (l.drop p) with
    | none =>
     rw[hq]at s;obtain rfl:=s;have a2:pp [false] l=Y:=by rw[c4.o,HE.o,c5.o,hq];rfl
     have a9:=aB a2;clear a2 hq;have d9:=fun o=>aT.cell (a5.alloc o);have e3:=fun o=>aT.frozen (a5.alloc o);simp only[dR];go_wp2_with fail;refine XW (v:=.tuple #[dR,O S 0,I false]) (dD (((((((a5.alloc _).set_ 0 _).set_ 1 _).set_ 2 _).set_ 3 _).set_ 4 _).set_ 5 _) rfl) rfl (cY a9.o (eV (b8.o.trans ((U.trans ((aQ w2 _).mono U.size)).mono b8.o.size)) (XU _) _ _ _ _ _ _))
    | some x =>
     obtain⟨nd,c7,ks,hx⟩:=s6 hq;obtain⟨x1,r⟩:=x;simp only at hx;subst hx;rw[hq]at s;obtain⟨ys,rfl,d3⟩:=s;obtain⟨sk,sa,sf,rfl,⟨Ak,nk,ck,rfl,j2⟩,⟨Aa,na,ca,rfl,i1⟩,⟨Af,nf,cf,rfl,i8⟩⟩:=id d3;have b2:pp (ds (bC l 0)) (l.drop 1)=(pp ((ds (bC l 0)).drop (j+1)) r).map fun y=>((F.app (.cons [] nd c7 ks .nil)).app y.1,y.2):=by
      rw[HE.o,c5.o,hq,ZW,Option.map_map];simp only[Function.comp_def,cV]
     have a7:=pC hq (by rw[h.len];exact e6);rw[h.len]at a7;have g7:=a7.2.1;have c6:=aB b2;have f0:=aB a7;have c8:(l.drop p).length-r.length=(n-r.length)-p:=by rw[YS,h.len];omega
     have b0:=AF hq aD;rw[YS,h.len]at b0;simp only at b0;clear b2 hq a7;rw[c8];clear c8;obtain⟨i0,hi,b4,b5,b6⟩:=info_parts Tryz.infoT;obtain⟨d4,d5,d6,d7⟩:=aAE hi b4 b5 b6;clear hi b4 b5 b6;have h6:=fun o=>aT.cell (a0.alloc o);have b1:∀u∈[Value.int .i64 nd.op,O S nd.a,O S nd.b,X Ak nk ck,X Aa na ca,X Af nf cf],u.oneCell'=true:=by
      intro u hu;simp at hu;rcases hu with rfl|rfl|rfl|rfl|rfl|rfl<;>rfl
     have e8:=aB b1;clear b1;have g4:w1.heap.size+1<=w2.heap.size:=a0.lt;go_wp2_with (at_builtin;refine a8 rfl (fY (.tmp 173) (.tmp 175) 83 rfl (w1.heap.size+1) i0 _ Tryz.underlying83 d4.o d5.o d6.o d7.o rfl (X A1 j k1) j xs [O S nd.op,O S nd.a,O S nd.b,X Ak nk ck,X Aa na ca,X Af nf cf] rfl e8.o _ rfl rfl ((bI a3 U).alloc _) _ rfl aD aA aG ?_);intro A' c' w' D;have zb:=aT.grown (a0.alloc _) D.grown (eF a3 (YL _));have zc:=zb.cell;have zf:=zb.frozen)
     refine⟨⟨n-r.length,j+1,F.app (.cons [] nd c7 ks .nil),A',c',A2,m2,k2,_,f9,by omega,by omega,congrArg (Value.int .i64) aA,by go_num,?_,by rw[bN];simp[bE,HL.o],?_,zb.set_ 3 _,ownsRow_setCell_below D.own (YL _) _,vV f7 d3 U (aT.lt a4) a3 a1 (aQ _ _) D ?_ (by simp[World.setCell]),?_,?_⟩,by simp[intOf];omega⟩
     . rw[c6.o,<-f0.o.1]
     . have:=e9.o;rw[iR];simp[cG];omega
     . intro b' f3 o;exact World.cell?_setCell_other _ _ _ _ (fun e=>by injection e with e;omega)
     . rw[iR];have hk:=rF (World.ownsRow.alloc (bI a1 U) _) ((bI a3 U).alloc _) aE D.grown;have f5:=ownsRow_setCell_below hk (a:=⟨w1.heap.size,3,Y⟩) (YL _) (X A' (j+1) c');simpa[cG,bK] using f5
     . exact ((((a6.trans (U.mono a6.size)).alloc aA _).grown D.grown aG (fun g hg=>by have:=(aS a3 hg).1;omega)).setCell (XU _) _)
  have h8:((bC l 0).op==12)=true:=by simp[e7]
  have g9:=aB e7;clear e7;by_cases j4:j % 2=0;rotate_left
  . have h4:((j:Int) % 2==0)=false:=by simp;omega
    have z:(ds (bC l 0)).drop j=false::(ds (bC l 0)).drop (j+1):=by rw[h0.o,XQ (fun hh=>j4 hh.2)]
    have c9:pp ((ds (bC l 0)).drop j) (l.drop p)=(pp [false] (l.drop p)).bind fun x=>(pp ((ds (bC l 0)).drop (j+1)) x.2).map fun y=>(x.1.app y.1,y.2):=by rw[z,rJ]
    have c5:=aB c9;clear z c9;obtain⟨A',hcut,hT⟩:=lY (Z ⟨b,off,Y⟩) n c p e6;have f2:=hT _ _ _ h5;go_wp2_with fail;refine (HI.o wr A' (n-p) (c-p) (l.drop p) f2 aA).mono ?_;rintro e w2 ⟨U,s⟩;clear hcut hT;have a0:=aT.below a4 U (aT.lt a4);have a5:=aT.below G U (aT.lt G);cases hq:pp [false] (l.drop p) with
    | none =>
     rw[hq]at s;obtain rfl:=s;have a2:pp [false] l=Y:=by rw[c4.o,HE.o,c5.o,hq];rfl
     have a9:=aB a2;clear a2 hq;have d9:=fun o=>aT.cell (a5.alloc o);have e3:=fun o=>aT.frozen (a5.alloc o);simp only[dR];go_wp2_with fail;refine XW (v:=.tuple #[dR,O S 0,I false]) (dD (((((((a5.alloc _).set_ 0 _).set_ 1 _).set_ 2 _).set_ 3 _).set_ 4 _).set_ 5 _) rfl) rfl (cY a9.o (eV (b8.o.trans ((U.trans ((aQ w2 _).mono U.size)).mono b8.o.size)) (XU _) _ _ _ _ _ _))
    | some x =>
     obtain⟨nd,c7,ks,hx⟩:=s6 hq;obtain⟨x1,r⟩:=x;simp only at hx;subst hx;rw[hq]at s;obtain⟨ys,rfl,d3⟩:=s;obtain⟨sk,sa,sf,rfl,⟨Ak,nk,ck,rfl,j2⟩,⟨Aa,na,ca,rfl,i1⟩,⟨Af,nf,cf,rfl,i8⟩⟩:=id d3;have b2:pp (ds (bC l 0)) (l.drop 1)=(pp ((ds (bC l 0)).drop (j+1)) r).map fun y=>((F.app (.cons [] nd c7 ks .nil)).app y.1,y.2):=by
      rw[HE.o,c5.o,hq,ZW,Option.map_map];simp only[Function.comp_def,cV]
     have a7:=pC hq (by rw[h.len];exact e6);rw[h.len]at a7;have g7:=a7.2.1;have c6:=aB b2;have f0:=aB a7;have c8:(l.drop p).length-r.length=(n-r.length)-p:=by rw[YS,h.len];omega
     have b0:=AF hq aD;rw[YS,h.len]at b0;simp only at b0;clear b2 hq a7;rw[c8];clear c8;obtain⟨i0,hi,b4,b5,b6⟩:=info_parts Tryz.infoT;obtain⟨d4,d5,d6,d7⟩:=aAE hi b4 b5 b6;clear hi b4 b5 b6;have h6:=fun o=>aT.cell (a0.alloc o);have b1:∀u∈[Value.int .i64 nd.op,O S nd.a,O S nd.b,X Ak nk ck,X Aa na ca,X Af nf cf],u.oneCell'=true:=by
      intro u hu;simp at hu;rcases hu with rfl|rfl|rfl|rfl|rfl|rfl<;>rfl
     have e8:=aB b1;clear b1;have g4:w1.heap.size+1<=w2.heap.size:=a0.lt;go_wp2_with (at_builtin;refine a8 rfl (fY (.tmp 173) (.tmp 175) 83 rfl (w1.heap.size+1) i0 _ Tryz.underlying83 d4.o d5.o d6.o d7.o rfl (X A1 j k1) j xs [O S nd.op,O S nd.a,O S nd.b,X Ak nk ck,X Aa na ca,X Af nf cf] rfl e8.o _ rfl rfl ((bI a3 U).alloc _) _ rfl aD aA aG ?_);intro A' c' w' D;have zb:=aT.grown (a0.alloc _) D.grown (eF a3 (YL _));have zc:=zb.cell;have zf:=zb.frozen)
     refine⟨⟨n-r.length,j+1,F.app (.cons [] nd c7 ks .nil),A',c',A2,m2,k2,_,f9,by omega,by omega,congrArg (Value.int .i64) aA,by go_num,?_,by rw[bN];simp[bE,HL.o],?_,zb.set_ 3 _,ownsRow_setCell_below D.own (YL _) _,vV f7 d3 U (aT.lt a4) a3 a1 (aQ _ _) D ?_ (by simp[World.setCell]),?_,?_⟩,by simp[intOf];omega⟩
     . rw[c6.o,<-f0.o.1]
     . have:=e9.o;rw[iR];simp[cG];omega
     . intro b' f3 o;exact World.cell?_setCell_other _ _ _ _ (fun e=>by injection e with e;omega)
     . rw[iR];have hk:=rF (World.ownsRow.alloc (bI a1 U) _) ((bI a3 U).alloc _) aE D.grown;have f5:=ownsRow_setCell_below hk (a:=⟨w1.heap.size,3,Y⟩) (YL _) (X A' (j+1) c');simpa[cG,bK] using f5
     . exact ((((a6.trans (U.mono a6.size)).alloc aA _).grown D.grown aG (fun g hg=>by have:=(aS a3 hg).1;omega)).setCell (XU _) _)
  have h4:((j:Int) % 2==0)=true:=by simp;omega
  have z:(ds (bC l 0)).drop j=true::(ds (bC l 0)).drop (j+1):=by rw[h0.o,XR ⟨g9.o,by omega⟩]
  by_cases g2:p<n;rotate_left
  . have a2:pp [false] l=Y:=by rw[c4.o,HE.o,z,show pp (true::(ds (bC l 0)).drop (j+1)) (l.drop p)=Y from by rw[show l.drop p=[] from List.drop_eq_nil_of_le (by rw[h.len];omega),fD];rfl];rfl
    have a9:=aB a2;clear a2 z;have d9:=aT.cell G;have e3:=aT.frozen G;go_wp2_with (go_at_call 122;refine (eU _ _ _ _).mono ?_;rintro e w2 ⟨rfl,rfl⟩)
    refine XW (v:=.tuple #[dR,O S 0,I false]) (dD ((((((G.set_ 0 _).set_ 1 _).set_ 2 _).set_ 3 _).set_ 4 _).set_ 5 _) rfl) rfl (cY a9.o (eV b8.o (XU _) _ _ _ _ _ _))
  obtain⟨_,d0,d1,d2⟩:=h5.cells g2;have i9:pp (true::(ds (bC l 0)).drop (j+1)) (l.drop p)=if yM (bC l p) then (pp [false] (l.drop (p+1))).bind fun x=>(pp ((ds (bC l 0)).drop (j+1)) x.2).map fun y=>((x.1.setPre [bC l p]).app y.1,y.2) else Y:=by
   rw[kL (by rw[h.len];exact g2),KY]
  have f6:=aB i9;clear i9;by_cases f1:(bC l p).op=13;rotate_left
  . have h9:((bC l p).op != 13)=true:=by simp[f1]
    have a2:pp [false] l=Y:=by rw[c4.o,HE.o,z,f6.o,XN (by simp[yM,f1])];rfl
    have a9:=aB a2;clear a2 z;have d9:=aT.cell G;have e3:=aT.frozen G;go_wp2_with (go_at_call 122;refine (eU _ _ _ _).mono ?_;rintro e w2 ⟨rfl,rfl⟩)
    refine XW (v:=.tuple #[dR,O S 0,I false]) (dD ((((((G.set_ 0 _).set_ 1 _).set_ 2 _).set_ 3 _).set_ 4 _).set_ 5 _) rfl) rfl (cY a9.o (eV b8.o (XU _) _ _ _ _ _ _))
  have h9:((bC l p).op != 13)=false:=by simp[f1]
  have k3:=aB f1;clear f1;by_cases ha:0<=(bC l p).a/\(bC l p).a<=15;rotate_left
  . have l4:(decide (0<=(bC l p).a)&&decide ((bC l p).a<=15))=false:=by rw[ZF,YM,YM];omega
    have a2:pp [false] l=Y:=by rw[c4.o,HE.o,z,f6.o,XN (by simp[yM,aV];omega)];rfl
    have a9:=aB a2;clear a2 z;have d9:=aT.cell G;have e3:=aT.frozen G;go_wp2_with (go_at_call 122;refine (eU _ _ _ _).mono ?_;rintro e w2 ⟨rfl,rfl⟩)
    refine XW (v:=.tuple #[dR,O S 0,I false]) (dD ((((((G.set_ 0 _).set_ 1 _).set_ 2 _).set_ 3 _).set_ 4 _).set_ 5 _) rfl) rfl (cY a9.o (eV b8.o (XU _) _ _ _ _ _ _))
  obtain⟨l2,l3⟩:=ha;by_cases h3:(bC l p).b=0;rotate_left
  . have i3:((bC l p).b != 0)=true:=by simp[h3]
    have a2:pp [false] l=Y:=by rw[c4.o,HE.o,z,f6.o,XN (by simp[yM,aV];omega)];rfl
    have a9:=aB a2;clear a2 z;have d9:=aT.cell G;have e3:=aT.frozen G;go_wp2_with (go_at_call 122;refine (eU _ _ _ _).mono ?_;rintro e w2 ⟨rfl,rfl⟩)
    refine XW (v:=.tuple #[dR,O S 0,I false]) (dD ((((((G.set_ 0 _).set_ 1 _).set_ 2 _).set_ 3 _).set_ 4 _).set_ 5 _) rfl) rfl (cY a9.o (eV b8.o (XU _) _ _ _ _ _ _))
  have i3:((bC l p).b != 0)=false:=by simp[h3]
  have g6:yM (bC l p)=true:=by
   have:=k3.o;simp only[yM,YC,YJ];refine⟨?_,this⟩;rw[aV];omega
  have c9:pp ((ds (bC l 0)).drop j) (l.drop p)=(pp [false] (l.drop (p+1))).bind fun x=>(pp ((ds (bC l 0)).drop (j+1)) x.2).map fun y=>((x.1.setPre [bC l p]).app y.1,y.2):=by rw[z,f6.o,XP g6]
  have c5:=aB c9;clear c9 z g6 h3;go_wp2_with (go_at_call 122;refine (eU _ _ _ _).mono ?_;rintro e w2 ⟨rfl,rfl⟩)
  have k8:∀(o:Obj),(wr.alloc o).cell? ⟨w1.heap.size,5,Y⟩=Z (X A2 m2 k2):=fun o=>(aT.alloc a4 o).cell 5;have z0:wr.cell? ⟨w1.heap.size,5,Y⟩=Z (X A2 m2 k2):=a4.cell 5;obtain⟨i0,hi,b4,b5,b6⟩:=info_parts Tryz.infoN;have d4:=aB hi;have d5:=aB b4;have d6:=aB b5;have d7:=aB b6;clear hi b4 b5 b6;have f4:w1.heap.size+1<=wr.heap.size:=a4.lt;go_region_law (refine jO rfl (cM (.tmp 151) (.tmp 156) 28 rfl (w1.heap.size+1) i0 Tryz.underlying28 d4.o d5.o d6.o d7.o (X A2 m2 k2) (cG F) (bC l p) wr.drew rfl rfl a1 _ rfl aD (by have:=e9.o;omega) f4 ?_);intro b7 c3 wf g1 D;have f8:=D.grown;have zb:=aT.grown (show aT wr.drew _ _ _ from a4) f8 (eF a1 (YL _));have zc:wf.cell? ⟨w1.heap.size,5,Y⟩=Z (X A2 m2 k2):=zb.cell 5;have zf:=zb.frozen 5)
  all_goals
   have e4:ZY w1 (wf.setCell ⟨w1.heap.size,5,Y⟩ (X b7 ((cG F).length+1) c3)):=((a6.drew).grown D.grown (Nat.le_of_lt f4) (fun g hg=>by have:=(aS a1 hg).1;omega)).setCell (XU _) _;have k0:=h1.below e4;have d8:=zb.set_ 5 (X b7 ((cG F).length+1) c3);have b3:=ownsRow_setCell_below (rF (show wr.drew.ownsRow _ _ _ _ _ _ from a3) a1 aE D.grown) (a:=⟨w1.heap.size,5,Y⟩) (YL _) (X b7 ((cG F).length+1) c3);have e5:=g1.setCell (a:=⟨w1.heap.size,5,Y⟩) (YL _) (X b7 ((cG F).length+1) c3);have i7:=PH f7 D w1.heap.size 5 (X b7 ((cG F).length+1) c3) (YL _);have g8:=aT.far (aT.grown (show aT wr.drew _ _ _ from G) D.grown (eF a1 aA)) (p:=⟨w1.heap.size,5,Y⟩) (Nat.ne_of_lt j8) (X b7 ((cG F).length+1) c3);have g3:ZY w (wf.setCell ⟨w1.heap.size,5,Y⟩ (X b7 ((cG F).length+1) c3)):=(aQ w _).trans ((b9.trans (e4.mono b9.size)).mono aD);clear k8 z0 zc zf;obtain⟨A',hcut,hT⟩:=lY (Z ⟨b,off,Y⟩) n c (p+1) g2;have f2:=hT _ _ _ k0;simp only[Int.natCast_add,Int.cast_ofNat_Int]at hcut;go_wp2_with fail;refine (HI.o (wf.setCell ⟨w1.heap.size,5,Y⟩ (X b7 ((cG F).length+1) c3)) A' (n-(p+1)) (c-(p+1)) (l.drop (p+1)) f2 aA).mono ?_;rintro e w2 ⟨U,s⟩;clear hcut hT;have a0:=aT.below d8 U (aT.lt d8);have a5:=aT.below g8 U (aT.lt g8);cases hq:pp [false] (l.drop (p+1)) with
   | none =>
    rw[hq]at s;obtain rfl:=s;have a2:pp [false] l=Y:=by rw[c4.o,HE.o,c5.o,hq];rfl
    have a9:=aB a2;clear a2 hq;have d9:=fun o=>aT.cell (a5.alloc o);have e3:=fun o=>aT.frozen (a5.alloc o);simp only[dR];go_wp2_with fail;refine XW (v:=.tuple #[dR,O S 0,I false]) (dD (((((((a5.alloc _).set_ 0 _).set_ 1 _).set_ 2 _).set_ 3 _).set_ 4 _).set_ 5 _) rfl) rfl (cY a9.o (eV (g3.trans ((U.trans ((aQ w2 _).mono U.size)).mono g3.size)) (XU _) _ _ _ _ _ _))
   | some x =>
    obtain⟨nd,c7,ks,hx⟩:=s6 hq;obtain⟨x1,r⟩:=x;simp only at hx;subst hx;rw[hq]at s;obtain⟨ys,rfl,d3⟩:=s;obtain⟨sk,sa,sf,rfl,⟨Ak,nk,ck,rfl,j2⟩,⟨Aa,na,ca,rfl,i1⟩,⟨Af,nf,cf,rfl,i8⟩⟩:=id d3;have b2:pp (ds (bC l 0)) (l.drop 1)=(pp ((ds (bC l 0)).drop (j+1)) r).map fun y=>((F.app (.cons [bC l p] nd c7 ks .nil)).app y.1,y.2):=by
     rw[HE.o,c5.o,hq,ZW,Option.map_map];simp only[Function.comp_def,cV];rfl
    have a7:=pC hq (by rw[h.len];exact g2);rw[h.len]at a7;have g7:=a7.2.1;have c6:=aB b2;have f0:=aB a7;have c8:(l.drop (p+1)).length-r.length=(n-r.length)-(p+1):=by rw[YS,h.len];omega
    have b0:=AF hq aD;rw[YS,h.len]at b0;simp only at b0;clear b2 hq a7;rw[c8];clear c8;obtain⟨i0,hi,b4,b5,b6⟩:=info_parts Tryz.infoT;obtain⟨d4,d5,d6,d7⟩:=aAE hi b4 b5 b6;clear hi b4 b5 b6;have h6:=fun o=>aT.cell (a0.alloc o);have b1:∀u∈[Value.int .i64 nd.op,O S nd.a,O S nd.b,X Ak nk ck,X Aa na ca,X Af nf cf],u.oneCell'=true:=by
     intro u hu;simp at hu;rcases hu with rfl|rfl|rfl|rfl|rfl|rfl<;>rfl
    have e8:=aB b1;clear b1;have g4:w1.heap.size+1<=w2.heap.size:=a0.lt;go_wp2_with (at_builtin;refine a8 rfl (fY (.tmp 173) (.tmp 175) 83 rfl (w1.heap.size+1) i0 _ Tryz.underlying83 d4.o d5.o d6.o d7.o rfl (X A1 j k1) j xs [O S nd.op,O S nd.a,O S nd.b,X Ak nk ck,X Aa na ca,X Af nf cf] rfl e8.o _ rfl rfl ((bI b3 U).alloc _) _ rfl aD aA aG ?_);intro A' c' w' D;have zb:=aT.grown (a0.alloc _) D.grown (eF b3 (YL _));have zc:=zb.cell;have zf:=zb.frozen)
    refine⟨⟨n-r.length,j+1,F.app (.cons [bC l p] nd c7 ks .nil),A',c',b7,((cG F).length+1),c3,_,f9,by omega,by omega,congrArg (Value.int .i64) aA,by go_num,?_,by rw[bN];simp[bE,HL.o],?_,zb.set_ 3 _,ownsRow_setCell_below D.own (YL _) _,vV i7 d3 U (aT.lt d8) b3 e5 (aQ _ _) D ?_ (by simp[World.setCell]),?_,?_⟩,by simp[intOf];omega⟩
    . rw[c6.o,<-f0.o.1]
    . have:=e9.o;rw[iR];simp[cG];omega
    . intro b' f3 o;exact World.cell?_setCell_other _ _ _ _ (fun e=>by injection e with e;omega)
    . rw[iR];have hk:=rF (World.ownsRow.alloc (bI e5 U) _) ((bI b3 U).alloc _) aE D.grown;have f5:=ownsRow_setCell_below hk (a:=⟨w1.heap.size,3,Y⟩) (YL _) (X A' (j+1) c');simpa[cG,bK] using f5
    . exact ((((e4.trans (U.mono e4.size)).alloc aA _).grown D.grown aG (fun g hg=>by have:=(aS b3 hg).1;omega)).setCell (XU _) _)
theorem QI(h:aX w A n c l)(hn:0<n)(G:eW (bC l 0)=false):
 Calls Tryz.prog 78 #[X A n c] w (iX l w):=by
 have z:pp [false] l=Y:=QC _ (fun _=>G);have s:=aB z;clear z;obtain⟨b,off,rfl,hb,c0,c1,c2⟩:=h.at_ hn;simp only[YU,YF]at c0 c1 c2;have a0:(((n:Nat):Int)==0)=false:=by simp;omega
 have U:eW ⟨(bC l 0).op,(bC l 0).a,(bC l 0).b⟩=false:=G;go_in;go_wp2_with fail;refine (OW _ _ _ _ U).mono ?_;rintro e w1 ⟨⟨k,rfl⟩,F⟩;have D:aT w1 w.heap.size 85 #[O S 0,O S 0,O S 0,X Y 0 0,X Y 0 0,X Y 0 0]:=(aT.new _ _ _).below F aD;have a1:=aT.cell D;have a2:=aT.frozen D;go_wp2_with fail;refine XW (v:=.tuple #[dR,O S 0,I false]) (dD ((((((D.set_ 0 _).set_ 1 _).set_ 2 _).set_ 3 _).set_ 4 _).set_ 5 _) rfl) rfl (cY s.o (eV ((aQ w _).trans (F.mono aD)) (XU _) _ _ _ _ _ _))
theorem FG:∀(m:Nat)(w:aAB)(A:ZZ)(n c:Nat)(l:List Nd),aX w A n c l->n<m->Calls Tryz.prog 78 #[X A n c] w (iX l w)
 | 0,_,_,_,_,_,_,hm=>absurd hm aA
 | m+1,w,A,n,c,l,h,hm=>by
  by_cases D:0<n
  . cases hok:eW (bC l 0)
    . exact QI h D hok
    by_cases G:(bC l 0).op=2
    . have F:=(bB _).1 hok;obtain⟨K,hK⟩:=Int.eq_ofNat_of_zero_le (iF F.1).1;exact NN h D (by simp[G]) hok K hK
    exact NL h D (by simp[G]) hok (fun w A k c o U s=>FG m w A k c o U aA)
  . obtain rfl:n=0:=aA;exact NM h
theorem FH(h:aX w A n c l):Calls Tryz.prog 78 #[X A n c] w (iX l w) :=
 FG (n+1) w A n c l h (YL _)
end Go.Proofs.YtjoddliplahgkaaGreat
