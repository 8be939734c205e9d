/- Merged: Read, Read2, Read3. -/
import Derived.Test.YtjoddliplahgkaaGreatPKidss
namespace Go.Proofs.YtjoddliplahgkaaGreat
set_option linter.unusedVariables false
set_option linter.unusedSimpArgs false
open Go.RowKit
open Go.Value renaming int → O, slice → X, bool → I
open Go.IntKind renaming i64 → S
open Option renaming none → Y, some → Z
open Go.Lib renaming hid->aB
set_option maxHeartbeats 4000000
set_option maxRecDepth 100000
def dT:Value:=.agg #[O S 0,O S 0,O S 0,X Y 0 0,X Y 0 0,X Y 0 0]
def iI (l:List Nd) (w:World) (e:Ending) (w':World):Prop :=
 Below w.heap.size w w'/\match pp [false] l with
  | some (.cons _ n atoms kids _,r)=>∃xs,e=.returned (.tuple #[.agg xs.toArray,O S ((l.length-r.length:Nat):Int),I true])/\cR (fJ w w') w' xs n atoms kids
  | _=>e=.returned (.tuple #[dT,O S 0,I false])
theorem Tryz.infoN:(Tryz.prog.info? 46).map (fun i=>(i.zero,i.size,i.bytes))=Z (Z (.agg #[O S 0,O S 0,O S 0]),3,24):=by kernel_rfl
theorem Tryz.infoT:(Tryz.prog.info? 85).map (fun i=>(i.zero,i.size,i.bytes))=Z (Z dT,6,96):=by kernel_rfl
theorem cV {l:List Nd} {w w':World} (h:pp [false] l=Y) (hb:Below w.heap.size w w'):iI l w (.returned (.tuple #[dT,O S 0,I false])) w':=by
 refine⟨hb,?_⟩;rw[h]
theorem eM {B g:Nat} {w w':World} (h:Below B w w') (hg:B<=g) (a b c d e f:Value):Below B w ((((((w'.setCell ⟨g,0,Y⟩ a).setCell ⟨g,1,Y⟩ b).setCell ⟨g,2,Y⟩ c).setCell ⟨g,3,Y⟩ d).setCell ⟨g,4,Y⟩ e).setCell ⟨g,5,Y⟩ f) :=
 (((((h.setCell (p:=⟨g,0,Y⟩) hg a).setCell (p:=⟨g,1,Y⟩) hg b).setCell (p:=⟨g,2,Y⟩) hg c).setCell (p:=⟨g,3,Y⟩) hg d).setCell (p:=⟨g,4,Y⟩) hg e).setCell (p:=⟨g,5,Y⟩) hg f
theorem cY {w:World} {g:Nat} {c0 c1 c2 c3 c4 c5:Value} {tmps:Array Value} (h:aS w g 85 #[c0,c1,c2,c3,c4,c5]) (ht:tmps.getD 2 undef=.pointer (Z ⟨g,0,Y⟩)) :
 (results Tryz.f78 tmps).run Tryz.prog w=.ok (.tuple #[.agg #[c0,c1,c2,c3,c4,c5],tmps.getD 3 undef,tmps.getD 4 undef]) w:=by
 have hc:=h.cell;have a0:tmps[2]?.getD undef=.pointer (Z ⟨g,0,Y⟩):=by rw[<-ht];simp
 simp[results,Tryz.results78,go_sem,a0,hc]
theorem J0 {A:Option Addr} {c:Nat} {l:List Nd} {w:World} (h:aY w A 0 c l) :
 Calls Tryz.prog 78 #[X A 0 c] w (iI l w):=by
 have hl:pp [false] l=Y:=MX _ (fun hp=>by rw[h.len] at hp;omega);have a0:=aB hl;clear hl;go_in;go_wp2_with fail;refine bodyPost_ret (v:=.tuple #[dT,O S 0,I false]) (by simp[results,Tryz.results78,go_sem,dT]) rfl (cV a0.o (aP _ _))
theorem J1 {A:Option Addr} {n c:Nat} {l:List Nd} {w:World} (h:aY w A n c l) (hn:0<n) (hop:((bD l 0).op==2)=true) (hok:eN (bD l 0)=true) (K:Nat) (hK:(bD l 0).b=K) :
 Calls Tryz.prog 78 #[X A n c] w (iI l w):=by
 have f4:=h.few;have g4:K<=4:=by
  simp at hop;rw[bC,aV] at hok;omega
 obtain⟨b,off,rfl,hb,c0,c1,c2⟩:=h.at_ hn;have d7:pp [false] l=(bG K (-1) (l.drop 1)).map fun q=>(.cons [] (bD l 0) q.1 .nil .nil,q.2):=by
  rw[G4 (by rw[h.len];exact hn) hok (by simpa using hop),hK,Int.toNat_natCast]
 have b1:=aB d7;clear d7;have c8:eN ⟨(bD l 0).op,(bD l 0).a,K⟩=true:=by rw[<-hK];exact hok
 have HK:=aB hK;simp only[Nat.zero_mul,Nat.add_zero,hK] at c0 c1 c2;clear hK;have g0:cX (bD l 0).op (K:Int)=0:=by simp at hop;simp[cX,hop]
 have g1:(((n:Nat):Int)==0)=false:=by simp;omega
 go_in;go_wp2_with (go_at_call 121;refine (wH _ _ _ _ c8).mono ?_;rintro e w1 ⟨rfl,a8⟩;obtain⟨f6,f5⟩:=lZ a8;have g2:b<w1.heap.size:=by (have:=a8.size;simp at this;omega))
 have e6:aS w1 w.heap.size 85 #[O S 0,O S 0,O S 0,X Y 0 0,X Y 0 0,X Y 0 0]:=(aS.new _ _ _).below a8 aD;have h1:aY w1 (Z ⟨b,off,Y⟩) n c l:=(h.alloc _).below a8;have e7:w.heap.size<w1.heap.size:=by have:=a8.size;simp at this;omega
 clear f6 f5;go_loopw [8,9] (fun a i wr=>∃(p j:Nat) (ats:List Nd) (A0:Option Addr) (m0 k0:Nat),j<=K/\p<=n/\a=O S (p:Int)/\i=O S (j:Int)/\p=j+1 ∧
  bG K (-1) (l.drop 1)=(bG (K-j) (if j=0 then -1 else (bD l j).a) (l.drop p)).map (fun p=>(ats++p.1,p.2))/\ats.length=j ∧
  aS wr w1.heap.size 85 #[O S (bD l 0).op,O S (bD l 0).a,O S K,X Y 0 0,X A0 m0 k0,X Y 0 0] ∧
  bN wr (w1.heap.size+1) (X A0 m0 k0) ats/\Below w1.heap.size w1 wr) (fun _ i _=>K-(intOf i).toNat)
 case atStart =>
  refine⟨1,0,[],Y,0,0,Nat.zero_le _,hn,rfl,rfl,rfl,?_,rfl,aS.new _ _ _,bN.nil _ _,aP _ _⟩;simp only[Nat.sub_zero,if_true,List.nil_append];cases bG K (-1) (l.drop 1)<;>rfl
 case round =>
  obtain⟨p,j,ats,A0,m0,k0,hj,e8,rfl,rfl,c5,he,b8,a3,a4,a5⟩:=hrel;have HP:=aB c5;have HE:=aB he;have HL:=aB b8;have a0:=aS.below e6 a5 e7;have d9:∀(m:Nat) (x:Value),Below w.heap.size w ((((((wr.drewN m).setCell ⟨w.heap.size,0,Y⟩ (O S 0)).setCell ⟨w.heap.size,1,Y⟩ (O S 0)).setCell ⟨w.heap.size,2,Y⟩ (O S 0)).setCell ⟨w.heap.size,3,Y⟩ (X Y 0 0)).setCell ⟨w.heap.size,4,Y⟩ (X Y 0 0) |>.setCell ⟨w.heap.size,5,Y⟩ (X Y 0 0)):=fun m _ =>
   eM (aT ((aP w _).trans ((a8.trans (a5.mono a8.size)).mono aD)) m) (Nat.le_refl _) _ _ _ _ _ _
  have c4:=aB d9;clear d9;have b9:w1.heap.size+1<=wr.heap.size:=aS.lt a3;have d6:=h1.below a5;have e0:=(h1.below a5).cells (p:=0) hn;simp only[Nat.zero_mul,Nat.add_zero,HK.o] at e0;obtain⟨g3,e0,e1,e2⟩:=e0;have a2:((p:Int)-1).toNat=j:=by rw[c5];omega
  have c7:(0:Int)<=(p:Int)-1:=by rw[c5];omega
  have e3:=aB a2;clear he b8 c0 c1 c2 c5 a2;by_cases hlt:j<K;rotate_left
  · go_wp2_with fail;refine wp_loop_once ?_;have f9:=aS.cell a3;have b3:=aS.cell a0;have b2:=aS.frozen a0;go_wp2_with fail;have c6:pp [false] l=Z (.cons [] (bD l 0) ats .nil .nil,l.drop p):=by
     rw[b1.o,HE.o,show K-j=0 from by omega];simp[bG]
    have hX:=((((((a0.set_ 0 (O S (bD l 0).op)).set_ 1 (O S (bD l 0).a)).set_ 2 (O S K)).set_ 3 (X Y 0 0)).set_ 4 (X A0 m0 k0)).set_ 5 (X Y 0 0));have b0:w.heap.size<w1.heap.size+1:=aA;have hO:=(((((a4.setCell (a:=⟨w.heap.size,0,Y⟩) b0 (O S (bD l 0).op)).setCell (a:=⟨w.heap.size,1,Y⟩) b0 (O S (bD l 0).a)).setCell (a:=⟨w.heap.size,2,Y⟩) b0 (O S K)).setCell (a:=⟨w.heap.size,3,Y⟩) b0 (X Y 0 0)).setCell (a:=⟨w.heap.size,4,Y⟩) b0 (X A0 m0 k0)).setCell (a:=⟨w.heap.size,5,Y⟩) b0 (X Y 0 0);have f7:Below w.heap.size w wr:=(aP w _).trans ((a8.trans (a5.mono a8.size)).mono aD);refine bodyPost_ret (v:=.tuple #[.agg #[O S (bD l 0).op,O S (bD l 0).a,O S K,X Y 0 0,X A0 m0 k0,X Y 0 0],O S p,I true]) (cY hX rfl) rfl ⟨eM f7 (Nat.le_refl _) _ _ _ _ _ _,?_⟩;rw[c6];refine⟨[O S (bD l 0).op,O S (bD l 0).a,O S K,X Y 0 0,X A0 m0 k0,X Y 0 0],?_,_,_,_,by rw[HK.o],rS.nil _ _,(hO.termS (by have:=HL.o;omega)).keep fun b hb=>⟨⟨?_,?_⟩,fun _=>rfl⟩,gE.nil _ _⟩
    · rw[List.length_drop,h.len,show n-(n-p)=p from by omega]
    · have:=(aU hO hb).1;omega
    exact (aU hO hb).2.1
  by_cases hpn:p<n
  · obtain⟨_,d0,d1,d2⟩:=d6.cells hpn;have f3:decide (n<=p)=false:=by simp;omega
    by_cases h3:(bD l p).op=3;rotate_left
    · have f8:((bD l p).op != 3)=true:=by simp[h3]
      have H3:=aB h3;clear h3;go_wp2_with fail;go_quiet ((go_at_call 122;first | exact cM _ _ _ _ _ aA | exact cL _ _ _ _ _ aA))
      have b3:=aS.cell a0;have b2:=aS.frozen a0;go_wp2_with fail;refine bodyPost_ret (v:=.tuple #[dT,O S 0,I false]) (cY ((((((((a0.drewN _).set_ 0 _).set_ 1 _).set_ 2 _).set_ 3 _).set_ 4 _).set_ 5 _)) rfl) rfl (cV ?_ (c4.o _ (O S 0)));rw[b1.o,HE.o,show K-j=(K-(j+1))+1 from by omega,gJ (fun _ hh _ _=>H3.o hh)];rfl
    have f8:((bD l p).op != 3)=false:=by simp[h3]
    have d8:(0<=(bD l p).a/\(bD l p).a<=16)/\(0<=(bD l p).b/\(bD l p).b<=1000)->cD (bD l p).op (bD l p).a (bD l p).b=true:=fun hh=>by rw[aV];omega
    have b7:cD (bD l p).op (bD l p).a (bD l p).b=true->(0<=(bD l p).a/\(bD l p).a<=16)/\(0<=(bD l p).b/\(bD l p).b<=1000):=fun hh=>by rw[aV] at hh;omega
    have e4:=aB d8;have c3:=aB b7;have H3:=aB h3;clear h3 d8 b7;by_cases ha:0<=(bD l p).a/\(bD l p).a<=16;rotate_left
    · go_wp2_with fail;go_quiet ((go_at_call 122;first | exact cM _ _ _ _ _ aA | exact cL _ _ _ _ _ aA))
      have b3:=aS.cell a0;have b2:=aS.frozen a0;go_wp2_with fail;refine bodyPost_ret (v:=.tuple #[dT,O S 0,I false]) (cY ((((((((a0.drewN _).set_ 0 _).set_ 1 _).set_ 2 _).set_ 3 _).set_ 4 _).set_ 5 _)) rfl) rfl (cV ?_ (c4.o _ (O S 0)));rw[b1.o,HE.o,show K-j=(K-(j+1))+1 from by omega,gJ (fun _ _ hh _=>ha (c3.o hh).1)];rfl
    by_cases hbb:0<=(bD l p).b/\(bD l p).b<=1000
    · by_cases hj0:0<j
      · obtain⟨_,f0,f1,f2⟩:=d6.cells (p:=j) (by have:=HP.o;omega);have a6:IntKind.i64.wrap ((p:Int)-1)=(p:Int)-1:=IntWalk.i64_in _ aA;by_cases hla:(bD l p).a<=(bD l j).a
        · have c9:decide ((bD l p).a<=(bD l j).a)=true:=by simp[hla]
          have a2:=e3.o;go_wp2_with fail;go_quiet ((go_at_call 122;first | exact cM _ _ _ _ _ aA | exact cL _ _ _ _ _ aA))
          clear a2 a6;have b3:=aS.cell a0;have b2:=aS.frozen a0;go_wp2_with fail;refine bodyPost_ret (v:=.tuple #[dT,O S 0,I false]) (cY ((((((((a0.drewN _).set_ 0 _).set_ 1 _).set_ 2 _).set_ 3 _).set_ 4 _).set_ 5 _)) rfl) rfl (cV ?_ (c4.o _ (O S 0)));rw[b1.o,HE.o,show K-j=(K-(j+1))+1 from by omega,gJ (fun _ _ _ hh=>by rw[if_neg aA] at hh;omega)];rfl
        have c9:decide ((bD l p).a<=(bD l j).a)=false:=by simp;omega
        have a2:=e3.o;go_wp2_with fail;go_quiet ((go_at_call 122;first | exact cM _ _ _ _ _ aA | exact cL _ _ _ _ _ aA))
        clear a2 a6;go_wp2_with fail;have e5:∀(m:Nat) (o:Obj),((wr.drewN m).alloc o).cell? ⟨w1.heap.size,4,Y⟩=Z (X A0 m0 k0):=fun m o=>(aS.alloc (a3.drewN m) o).cell 4;have z0:wr.cell? ⟨w1.heap.size,4,Y⟩=Z (X A0 m0 k0):=a3.cell 4;obtain⟨i0,hi,b6,b5,b4⟩:=info_parts Tryz.infoN;have HI:=aB hi;have d5:=aB b6;have d4:=aB b5;have d3:=aB b4;clear hi b6 b5 b4;go_region_law (refine lI rfl (cQ (.tmp 95) (.tmp 100) 28 rfl (w1.heap.size+1) i0 Tryz.underlying28 HI.o d5.o d4.o d3.o (X A0 m0 k0) ats (bD l p) _ rfl rfl a4 _ rfl aD (by have:=HL.o;omega) b9 ?_);intro A' c' w' a7 a9;have a1:=a9.grown;have zb:=aS.grown (a3.drewN _) a1 (eY a4 (Nat.lt_succ_self _));have zc:w'.cell? ⟨w1.heap.size,4,Y⟩=Z (X A0 m0 k0):=zb.cell 4;have zf:=zb.frozen 4)
        all_goals
         go_wp2_with fail;go_roundw
         case rel =>
          refine⟨p+1,j+1,ats++[bD l p],_,_,_,hlt,hpn,by go_num,by go_num,by have:=HP.o;omega,?_,by simp[HL.o],zb.set_ 4 _,a7.setCell (Nat.lt_succ_self _) _,((aT a5 _).grown a1 aG (fun g hg=>by have:=(aU a4 hg).1;omega)).setCell (Nat.le_refl _) _⟩;rw[HE.o,show K-j=(K-(j+1))+1 from by omega,nA (by rw[h.len];exact hpn) H3.o (e4.o ⟨by omega,by omega⟩) (by rw[if_neg aA];omega),if_neg aA,<-HP.o];rw[Option.map_map];congr 1;funext q;simp
         case measure=>simp[intOf];omega
      have e9:decide (0<j)=false:=by simp[hj0]
      go_wp2_with fail;go_quiet ((go_at_call 122;first | exact cM _ _ _ _ _ aA | exact cL _ _ _ _ _ aA))
      go_wp2_with fail;have e5:∀(m:Nat) (o:Obj),((wr.drewN m).alloc o).cell? ⟨w1.heap.size,4,Y⟩=Z (X A0 m0 k0):=fun m o=>(aS.alloc (a3.drewN m) o).cell 4;have z0:wr.cell? ⟨w1.heap.size,4,Y⟩=Z (X A0 m0 k0):=a3.cell 4;obtain⟨i0,hi,b6,b5,b4⟩:=info_parts Tryz.infoN;have HI:=aB hi;have d5:=aB b6;have d4:=aB b5;have d3:=aB b4;clear hi b6 b5 b4;go_region_law (refine lI rfl (cQ (.tmp 95) (.tmp 100) 28 rfl (w1.heap.size+1) i0 Tryz.underlying28 HI.o d5.o d4.o d3.o (X A0 m0 k0) ats (bD l p) _ rfl rfl a4 _ rfl aD (by have:=HL.o;omega) b9 ?_);intro A' c' w' a7 a9;have a1:=a9.grown;have zb:=aS.grown (a3.drewN _) a1 (eY a4 (Nat.lt_succ_self _));have zc:w'.cell? ⟨w1.heap.size,4,Y⟩=Z (X A0 m0 k0):=zb.cell 4;have zf:=zb.frozen 4)
      all_goals
       go_wp2_with fail;go_roundw
       case rel =>
        refine⟨p+1,j+1,ats++[bD l p],_,_,_,hlt,hpn,by go_num,by go_num,by have:=HP.o;omega,?_,by simp[HL.o],zb.set_ 4 _,a7.setCell (Nat.lt_succ_self _) _,((aT a5 _).grown a1 aG (fun g hg=>by have:=(aU a4 hg).1;omega)).setCell (Nat.le_refl _) _⟩;rw[HE.o,show K-j=(K-(j+1))+1 from by omega,nA (by rw[h.len];exact hpn) H3.o (e4.o ⟨by omega,by omega⟩) (by rw[if_pos aA];omega),if_neg aA,<-HP.o];rw[Option.map_map];congr 1;funext q;simp
       case measure=>simp[intOf];omega
    go_wp2_with fail;go_quiet ((go_at_call 122;first | exact cM _ _ _ _ _ aA | exact cL _ _ _ _ _ aA))
    have b3:=aS.cell a0;have b2:=aS.frozen a0;go_wp2_with fail;refine bodyPost_ret (v:=.tuple #[dT,O S 0,I false]) (cY ((((((((a0.drewN _).set_ 0 _).set_ 1 _).set_ 2 _).set_ 3 _).set_ 4 _).set_ 5 _)) rfl) rfl (cV ?_ (c4.o _ (O S 0)));rw[b1.o,HE.o,show K-j=(K-(j+1))+1 from by omega,gJ (fun _ _ hh _=>hbb (c3.o hh).2)];rfl
  have f3:decide (n<=p)=true:=by simp;omega
  go_wp2_with fail;go_quiet ((go_at_call 122;first | exact cM _ _ _ _ _ aA | exact cL _ _ _ _ _ aA))
  have b3:=aS.cell a0;have b2:=aS.frozen a0;go_wp2_with fail;refine bodyPost_ret (v:=.tuple #[dT,O S 0,I false]) (cY ((((((((a0.drewN _).set_ 0 _).set_ 1 _).set_ 2 _).set_ 3 _).set_ 4 _).set_ 5 _)) rfl) rfl (cV ?_ (c4.o _ (O S 0)));rw[b1.o,HE.o,show K-j=(K-(j+1))+1 from by omega,gJ (fun hh _ _ _=>hpn (by rw[h.len] at hh;exact hh))];rfl
def s7 (B:Nat) (w:World) (u v:Value) (b:Nat):Prop:=B<=b/\b<w.heap.size/\u.ownBlock ≠ Z b/\v.ownBlock ≠ Z b
theorem tI {B:Nat} {wr w2 W w' wf:World} {e1 e2:TypeId} {s1 s2 n1 n2:Nat} {u v:Value} {x1 x2:List Value} {F:Fo} {xs ys:List Value} {nd:Nd} {ats:List Nd} {ks:Fo} {pre:List Nd} {A':Option Addr} {m c':Nat} {zs:List Value}
 (hfc:kP (s7 B wr u v) wr F xs) (ht:cR (fJ wr w2) w2 ys nd ats ks) (hb:Below wr.heap.size wr w2) (hB:B<=wr.heap.size)
 (h1:wr.ownsRow B e1 s1 u n1 x1) (h2:wr.ownsRow B e2 s2 v n2 x2) (hW:Below w2.heap.size w2 W) (hap:fD W w' B e1 s1 u A' m c' zs)
 (hwf:∀b,B<=b->∀o,wf.cell? ⟨b,o,Y⟩=w'.cell? ⟨b,o,Y⟩) (hws:wf.heap.size=w'.heap.size) :
 kP (s7 B wf (X A' m c') v) wf (F.app (.cons pre nd ats ks .nil)) (xs++ys):=by
 have a8:=hW.size;have a7:=hb.size;have a6:=hap.grown.size;have a0:∀b,b<w2.heap.size->B<=b->u.ownBlock ≠ Z b->∀o,wf.cell? ⟨b,o,Y⟩=w2.cell? ⟨b,o,Y⟩:=fun b a2 a1 a4 o=>by
  rw[hwf b a1 o,World.cell?_of_block (w:=W) (hap.grown.block b aA (fun e=>a4 e.symm)),hW.cell (p:=⟨b,o,Y⟩) a2]
 have a3:∀b,b<w2.heap.size->u.ownBlock ≠ Z b->(Value.slice A' m c').ownBlock ≠ Z b:=fun b a2 a1 e=>by
  rcases hap.new b e with e | e
  · exact a1 e
  omega
 refine kP.app F _ xs ys (kP.keep ?_ F xs hfc) ?_
 · rintro b ⟨a2,a1,a4,a5⟩;refine⟨⟨a2,by omega,a3 b aA a4,a5⟩,fun o => ?_⟩;rw[a0 b aA a2 a4,hb.cell (p:=⟨b,o,Y⟩) a1]
 refine⟨ys,[],by simp,ht.keep ?_,rfl⟩;rintro b ⟨a2,a1⟩;have hu:u.ownBlock ≠ Z b:=fun e=>by have:=(aU h1 e).2.1;omega
 have hv:v.ownBlock ≠ Z b:=fun e=>by have:=(aU h2 e).2.1;omega
 exact⟨⟨by omega,by omega,a3 b a1 hu,hv⟩,a0 b a1 aA hu⟩
theorem L7 {B:Nat} {wr w':World} {u v:Value} {F:Fo} {xs:List Value} {A':Option Addr} {m c' base:Nat} {e:TypeId} {sz:Nat} {zs:List Value} (hfc:kP (s7 B wr u v) wr F xs) (hap:fD wr.drew w' base e sz v A' m c' zs)
 (g i:Nat) (x:Value) (hg:g<B):kP (s7 B (w'.setCell ⟨g,i,Y⟩ x) u (X A' m c')) (w'.setCell ⟨g,i,Y⟩ x) F xs:=by
 refine kP.keep ?_ F xs hfc;rintro b ⟨a3,a2,a1,a0⟩;have hs:=hap.grown.size;have a4:wr.heap.size<=w'.heap.size:=hs;refine⟨⟨a3,by simp[World.setCell];omega,a1,fun hh => ?_⟩,fun o => ?_⟩
 · rcases hap.new b hh with hh | hh
   · exact a0 hh
   have:wr.heap.size<=b:=hh;omega
 rw[World.cell?_setCell_other _ _ _ _ (fun hh=>by injection hh with hh;omega),World.cell?_of_block (w:=wr.drew) (hap.grown.block b a2 (fun hh=>a0 hh.symm))];rfl
theorem sN {w:World} {base:Nat} {e:TypeId} {size:Nat} {v:Value} {n:Nat} {xs:List Value} (h:w.ownsRow base e size v n xs) {g:Nat} (hg:g<base) (a b c d x y:Value) :
 ((((((w.setCell ⟨g,0,Y⟩ a).setCell ⟨g,1,Y⟩ b).setCell ⟨g,2,Y⟩ c).setCell ⟨g,3,Y⟩ d).setCell ⟨g,4,Y⟩ x).setCell ⟨g,5,Y⟩ y).ownsRow base e size v n xs :=
 ownsRow_setCell_below (ownsRow_setCell_below (ownsRow_setCell_below (ownsRow_setCell_below (ownsRow_setCell_below (ownsRow_setCell_below h (a:=⟨g,0,Y⟩) hg a) (a:=⟨g,1,Y⟩) hg b) (a:=⟨g,2,Y⟩) hg c) (a:=⟨g,3,Y⟩) hg d) (a:=⟨g,4,Y⟩) hg x) (a:=⟨g,5,Y⟩) hg y
theorem pI (w:World) {g b':Nat} (hb:b' ≠ g) (a b c d x y:Value) (o:Nat) :
 ((((((w.setCell ⟨g,0,Y⟩ a).setCell ⟨g,1,Y⟩ b).setCell ⟨g,2,Y⟩ c).setCell ⟨g,3,Y⟩ d).setCell ⟨g,4,Y⟩ x).setCell ⟨g,5,Y⟩ y).cell? ⟨b',o,Y⟩=w.cell? ⟨b',o,Y⟩:=by
 have a0:∀i,(⟨g,i,Y⟩:Addr) ≠ ⟨b',o,Y⟩:=fun i hh=>by injection hh with hh;exact hb hh.symm
 rw[World.cell?_setCell_other _ _ _ _ (a0 5),World.cell?_setCell_other _ _ _ _ (a0 4),World.cell?_setCell_other _ _ _ _ (a0 3),World.cell?_setCell_other _ _ _ _ (a0 2),World.cell?_setCell_other _ _ _ _ (a0 1),World.cell?_setCell_other _ _ _ _ (a0 0)]
theorem JZ {A:Option Addr} {n c:Nat} {l:List Nd} {w:World} (h:aY w A n c l) (hn:0<n) (hop:((bD l 0).op==2)=false) (hok:eN (bD l 0)=true)
 (ih:∀(w:World) (A:Option Addr) (m c:Nat) (l':List Nd),aY w A m c l'->m<n->Calls Tryz.prog 78 #[X A m c] w (iI l' w)) :
 Calls Tryz.prog 78 #[X A n c] w (iI l w):=by
 have j7:=h.few;have HI:=aB ih;have i4:pp [false] l=(pp (ds (bD l 0)) (l.drop 1)).map fun q=>(.cons [] (bD l 0) [] q.1 .nil,q.2):=G3 (by rw[h.len];exact hn) hok (by simpa using hop);have d9:=aB i4;clear i4 ih;obtain⟨i7,h2⟩:=Q5 hok;obtain⟨K,hK⟩:=Int.eq_ofNat_of_zero_le i7;have k4:K<=18:=aA;have j0:(ds (bD l 0)).length=K:=by rw[qP hok,hK];rfl
 have j4:=aB j0;clear i7 h2 j0;obtain⟨b,off,rfl,hb,c0,c1,c2⟩:=h.at_ hn;simp only[Nat.zero_mul,Nat.add_zero] at c0 c1 c2;have h0:eN ⟨(bD l 0).op,(bD l 0).a,(bD l 0).b⟩=true:=hok;have k7:(((n:Nat):Int)==0)=false:=by simp;omega
 go_in;go_wp2_with (go_at_call 121;refine (wH _ _ _ _ h0).mono ?_;rintro e w1 ⟨rfl,c9⟩;obtain⟨k0,j8⟩:=lZ c9;have k8:b<w1.heap.size:=by (have:=c9.size;simp at this;omega))
 have j6:aS w1 w.heap.size 85 #[O S 0,O S 0,O S 0,X Y 0 0,X Y 0 0,X Y 0 0]:=(aS.new _ _ _).below c9 aD;have h1:aY w1 (Z ⟨b,off,Y⟩) n c l:=(h.alloc _).below c9;have i2:w.heap.size<w1.heap.size:=by have:=c9.size;simp at this;omega
 clear k0 j8;go_loopw [8,10] (fun a i wr=>∃(p j:Nat) (F:Fo) (A1:Option Addr) (k1:Nat) (A2:Option Addr) (m2 k2:Nat) (xs:List Value),j<=K/\p<=n/\1<=p/\a=O S (p:Int)/\i=O S (j:Int) ∧
  pp (ds (bD l 0)) (l.drop 1)=(pp ((ds (bD l 0)).drop j) (l.drop p)).map (fun y=>(F.app y.1,y.2))/\bF F=j/\(cO F).length<=j ∧
  aS wr w1.heap.size 85 #[O S (bD l 0).op,O S (bD l 0).a,O S (bD l 0).b,X A1 j k1,X Y 0 0,X A2 m2 k2] ∧
  wr.ownsRow (w1.heap.size+1) 85 6 (X A1 j k1) j xs/\kP (s7 (w1.heap.size+1) wr (X A1 j k1) (X A2 m2 k2)) wr F xs ∧
  bN wr (w1.heap.size+1) (X A2 m2 k2) (cO F)/\Below w1.heap.size w1 wr) (fun _ i _=>K-(intOf i).toNat)
 case atStart =>
  refine⟨1,0,.nil,Y,0,Y,0,0,[],Nat.zero_le _,hn,Nat.le_refl _,rfl,rfl,?_,rfl,Nat.zero_le _,aS.new _ _ _,World.ownsRow_nil _ _ _ _,rfl,bN.nil _ _,aP _ _⟩;simp only[List.drop_zero,Fo.app];cases pp (ds (bD l 0)) (l.drop 1)<;>rfl
 case round =>
  obtain⟨p,j,F,A1,k1,A2,m2,k2,xs,hj,c7,k6,rfl,rfl,he,f5,i5,a9,a7,g4,a5,b1⟩:=hrel;have HE:=aB he;have HL:=aB f5;have g2:=aB i5;have a2:=aS.below j6 b1 i2;have g8:=h1.below b1;have e0:=(h1.below b1).cells (p:=0) hn;simp only[Nat.zero_mul,Nat.add_zero] at e0;obtain⟨k9,e0,e1,e2⟩:=e0;have j2:Below w.heap.size w wr:=(aP w _).trans ((c9.trans (b1.mono c9.size)).mono aD);have d3:=aB j2;clear he f5 c0 c1 c2 i5 j2;by_cases hlt:j<K;rotate_left
  · obtain rfl:j=K:=aA;have g6:=aS.cell a9;have e4:=aS.cell a2;have e3:=aS.frozen a2;go_wp2_with fail;have g9:pp [false] l=Z (.cons [] (bD l 0) [] F .nil,l.drop p):=by
     rw[d9.o,HE.o,List.drop_of_length_le (by rw[j4.o];omega),j9];simp[jJ]
    have i3:w.heap.size<w1.heap.size+1:=aA;have hO:=sN a7 i3 (O S (bD l 0).op) (O S (bD l 0).a) (O S (bD l 0).b) (X A1 j k1) (X Y 0 0) (X A2 m2 k2);have h6:bN _ _ _ _:=sN a5 i3 (O S (bD l 0).op) (O S (bD l 0).a) (O S (bD l 0).b) (X A1 j k1) (X Y 0 0) (X A2 m2 k2);refine bodyPost_ret (v:=.tuple #[.agg #[O S (bD l 0).op,O S (bD l 0).a,O S (bD l 0).b,X A1 j k1,X Y 0 0,X A2 m2 k2],O S p,I true]) (cY ((((((a2.set_ 0 _).set_ 1 _).set_ 2 _).set_ 3 _).set_ 4 _).set_ 5 _) rfl) rfl ⟨eM d3.o (Nat.le_refl _) _ _ _ _ _ _,?_⟩;rw[g9];refine⟨[O S (bD l 0).op,O S (bD l 0).a,O S (bD l 0).b,X A1 j k1,X Y 0 0,X A2 m2 k2],?_,_,_,_,rfl,hP (by rw[HL.o];exact hO) (g4.keep ?_) ?_,gE.nil _ _,(h6.termS (by have:=g2.o;omega)).keep fun b hb=>⟨⟨?_,?_⟩,fun _=>rfl⟩⟩
    · rw[List.length_drop,h.len,show n-(n-p)=p from by omega]
    · rintro b' ⟨k3,h4,_,_⟩;refine⟨⟨by omega,by simp[World.setCell];exact h4⟩,fun o => ?_⟩;exact pI wr (Nat.ne_of_gt (by omega:w.heap.size<b')) _ _ _ _ _ _ o
    · intro b' f9;exact⟨by have:=(aU hO f9).1;omega,(aU hO f9).2.1⟩
    · have:=(aU h6 hb).1;omega
    exact (aU h6 hb).2.1
  have j1:(ds (bD l 0)).drop j=decide ((bD l 0).op=12/\j % 2=0)::(ds (bD l 0)).drop (j+1):=OS (by rw[j4.o];exact hlt);have h9:=aB j1;clear j1;by_cases h12:(bD l 0).op=12;rotate_left
  · have h8:((bD l 0).op==12)=false:=by simp[h12]
    have i1:=aB h12;clear h12;have a4:(ds (bD l 0)).drop j=false::(ds (bD l 0)).drop (j+1):=by rw[h9.o,decide_eq_false (fun hh=>i1.o hh.1)]
    have d5:pp ((ds (bD l 0)).drop j) (l.drop p)=(pp [false] (l.drop p)).bind fun x=>(pp ((ds (bD l 0)).drop (j+1)) x.2).map fun y=>(x.1.app y.1,y.2):=by rw[a4,p8]
    have d8:=aB d5;clear a4 d5;obtain⟨A',hcut,hT⟩:=kV (Z ⟨b,off,Y⟩) n c p c7;have g0:=hT _ _ _ g8;go_wp2_with fail;refine (HI.o wr A' (n-p) (c-p) (l.drop p) g0 aA).mono ?_;rintro e w2 ⟨a6,a1⟩;clear hcut hT;have a3:=aS.below a9 a6 (aS.lt a9);have a8:=aS.below a2 a6 (aS.lt a2);cases hq:pp [false] (l.drop p) with
    | none =>
     rw[hq] at a1;obtain rfl:=a1;have b0:pp [false] l=Y:=by rw[d9.o,HE.o,d8.o,hq];rfl
     have b7:=aB b0;clear b0 hq;have e4:=fun o=>aS.cell (a8.alloc o);have e3:=fun o=>aS.frozen (a8.alloc o);simp only[dT];go_wp2_with fail;refine bodyPost_ret (v:=.tuple #[dT,O S 0,I false]) (cY (((((((a8.alloc _).set_ 0 _).set_ 1 _).set_ 2 _).set_ 3 _).set_ 4 _).set_ 5 _) rfl) rfl (cV b7.o (eM (d3.o.trans ((a6.trans ((aP w2 _).mono a6.size)).mono d3.o.size)) (Nat.le_refl _) _ _ _ _ _ _))
    | some x =>
     obtain⟨nd,ats,ks,hx⟩:=rD hq;obtain⟨x1,r⟩:=x;simp only at hx;subst hx;rw[hq] at a1;obtain⟨ys,rfl,d4⟩:=a1;obtain⟨sk,sa,sf,rfl,⟨Ak,nk,ck,rfl,i6⟩,⟨Aa,na,ca,rfl,j3⟩,⟨Af,nf,cf,rfl,i9⟩⟩:=id d4;have b2:pp (ds (bD l 0)) (l.drop 1)=(pp ((ds (bD l 0)).drop (j+1)) r).map fun y=>((F.app (.cons [] nd ats ks .nil)).app y.1,y.2):=by
      rw[HE.o,d8.o,hq,Option.bind_some,Option.map_map];simp only[Function.comp_def,dG]
     have b6:=nQ hq (by rw[h.len];exact c7);rw[h.len] at b6;have f2:=b6.2.1;have c6:=aB b2;have g1:=aB b6;have d6:(l.drop p).length-r.length=(n-r.length)-p:=by rw[List.length_drop,h.len];omega
     have b5:=wZ hq aD;rw[List.length_drop,h.len] at b5;simp only at b5;clear b2 hq b6;rw[d6];clear d6;obtain⟨i0,hi,c3,b9,b8⟩:=info_parts Tryz.infoT;have f0:=aB hi;have e9:=aB c3;have e8:=aB b9;have e7:=aB b8;clear hi c3 b9 b8;have g6:=fun o=>aS.cell (a3.alloc o);have b4:∀u ∈ [Value.int .i64 nd.op,O S nd.a,O S nd.b,X Ak nk ck,X Aa na ca,X Af nf cf],u.oneCell'=true:=by
      intro u hu;simp at hu;rcases hu with rfl | rfl | rfl | rfl | rfl | rfl<;>rfl
     have g3:=aB b4;clear b4;have f7:w1.heap.size+1<=w2.heap.size:=a3.lt;go_wp2_with (at_builtin;refine bL rfl (fL (.tmp 173) (.tmp 175) 83 rfl (w1.heap.size+1) i0 _ Tryz.underlying83 f0.o e9.o e8.o e7.o rfl (X A1 j k1) j xs [O S nd.op,O S nd.a,O S nd.b,X Ak nk ck,X Aa na ca,X Af nf cf] rfl g3.o _ rfl rfl ((cB a7 a6).alloc _) _ rfl aD aA aG ?_);intro A' c' w' a0;have zb:=aS.grown (a3.alloc _) a0.grown (eY a7 (Nat.lt_succ_self _));have zc:=zb.cell;have zf:=zb.frozen)
     refine⟨⟨n-r.length,j+1,F.app (.cons [] nd ats ks .nil),A',c',A2,m2,k2,_,hlt,by omega,by omega,congrArg (Value.int .i64) aA,by go_num,?_,by rw[bV];simp[bF,HL.o],?_,zb.set_ 3 _,ownsRow_setCell_below a0.own (Nat.lt_succ_self _) _,tI g4 d4 a6 (aS.lt a9) a7 a5 (aP _ _) a0 ?_ (by simp[World.setCell]),?_,?_⟩,by simp[intOf];omega⟩
     · rw[c6.o,<-g1.o.1]
     · have:=g2.o;rw[iB];simp[cO];omega
     · intro b' f9 o;exact World.cell?_setCell_other _ _ _ _ (fun e=>by injection e with e;omega)
     · rw[iB];have hk:=pX (World.ownsRow.alloc (cB a5 a6) _) ((cB a7 a6).alloc _) aE a0.grown;have f6:=ownsRow_setCell_below hk (a:=⟨w1.heap.size,3,Y⟩) (Nat.lt_succ_self _) (X A' (j+1) c');simpa[cO,bN] using f6
     · exact ((((b1.trans (a6.mono b1.size)).alloc aA _).grown a0.grown aG (fun g hg=>by have:=(aU a7 hg).1;omega)).setCell (Nat.le_refl _) _)
  have h8:((bD l 0).op==12)=true:=by simp[h12]
  have i1:=aB h12;clear h12;by_cases hpar:j % 2=0;rotate_left
  · have f3:((j:Int) % 2==0)=false:=by simp;omega
    have a4:(ds (bD l 0)).drop j=false::(ds (bD l 0)).drop (j+1):=by rw[h9.o,decide_eq_false (fun hh=>hpar hh.2)]
    have d5:pp ((ds (bD l 0)).drop j) (l.drop p)=(pp [false] (l.drop p)).bind fun x=>(pp ((ds (bD l 0)).drop (j+1)) x.2).map fun y=>(x.1.app y.1,y.2):=by rw[a4,p8]
    have d8:=aB d5;clear a4 d5;obtain⟨A',hcut,hT⟩:=kV (Z ⟨b,off,Y⟩) n c p c7;have g0:=hT _ _ _ g8;go_wp2_with fail;refine (HI.o wr A' (n-p) (c-p) (l.drop p) g0 aA).mono ?_;rintro e w2 ⟨a6,a1⟩;clear hcut hT;have a3:=aS.below a9 a6 (aS.lt a9);have a8:=aS.below a2 a6 (aS.lt a2);cases hq:pp [false] (l.drop p) with
    | none =>
     rw[hq] at a1;obtain rfl:=a1;have b0:pp [false] l=Y:=by rw[d9.o,HE.o,d8.o,hq];rfl
     have b7:=aB b0;clear b0 hq;have e4:=fun o=>aS.cell (a8.alloc o);have e3:=fun o=>aS.frozen (a8.alloc o);simp only[dT];go_wp2_with fail;refine bodyPost_ret (v:=.tuple #[dT,O S 0,I false]) (cY (((((((a8.alloc _).set_ 0 _).set_ 1 _).set_ 2 _).set_ 3 _).set_ 4 _).set_ 5 _) rfl) rfl (cV b7.o (eM (d3.o.trans ((a6.trans ((aP w2 _).mono a6.size)).mono d3.o.size)) (Nat.le_refl _) _ _ _ _ _ _))
    | some x =>
     obtain⟨nd,ats,ks,hx⟩:=rD hq;obtain⟨x1,r⟩:=x;simp only at hx;subst hx;rw[hq] at a1;obtain⟨ys,rfl,d4⟩:=a1;obtain⟨sk,sa,sf,rfl,⟨Ak,nk,ck,rfl,i6⟩,⟨Aa,na,ca,rfl,j3⟩,⟨Af,nf,cf,rfl,i9⟩⟩:=id d4;have b2:pp (ds (bD l 0)) (l.drop 1)=(pp ((ds (bD l 0)).drop (j+1)) r).map fun y=>((F.app (.cons [] nd ats ks .nil)).app y.1,y.2):=by
      rw[HE.o,d8.o,hq,Option.bind_some,Option.map_map];simp only[Function.comp_def,dG]
     have b6:=nQ hq (by rw[h.len];exact c7);rw[h.len] at b6;have f2:=b6.2.1;have c6:=aB b2;have g1:=aB b6;have d6:(l.drop p).length-r.length=(n-r.length)-p:=by rw[List.length_drop,h.len];omega
     have b5:=wZ hq aD;rw[List.length_drop,h.len] at b5;simp only at b5;clear b2 hq b6;rw[d6];clear d6;obtain⟨i0,hi,c3,b9,b8⟩:=info_parts Tryz.infoT;have f0:=aB hi;have e9:=aB c3;have e8:=aB b9;have e7:=aB b8;clear hi c3 b9 b8;have g6:=fun o=>aS.cell (a3.alloc o);have b4:∀u ∈ [Value.int .i64 nd.op,O S nd.a,O S nd.b,X Ak nk ck,X Aa na ca,X Af nf cf],u.oneCell'=true:=by
      intro u hu;simp at hu;rcases hu with rfl | rfl | rfl | rfl | rfl | rfl<;>rfl
     have g3:=aB b4;clear b4;have f7:w1.heap.size+1<=w2.heap.size:=a3.lt;go_wp2_with (at_builtin;refine bL rfl (fL (.tmp 173) (.tmp 175) 83 rfl (w1.heap.size+1) i0 _ Tryz.underlying83 f0.o e9.o e8.o e7.o rfl (X A1 j k1) j xs [O S nd.op,O S nd.a,O S nd.b,X Ak nk ck,X Aa na ca,X Af nf cf] rfl g3.o _ rfl rfl ((cB a7 a6).alloc _) _ rfl aD aA aG ?_);intro A' c' w' a0;have zb:=aS.grown (a3.alloc _) a0.grown (eY a7 (Nat.lt_succ_self _));have zc:=zb.cell;have zf:=zb.frozen)
     refine⟨⟨n-r.length,j+1,F.app (.cons [] nd ats ks .nil),A',c',A2,m2,k2,_,hlt,by omega,by omega,congrArg (Value.int .i64) aA,by go_num,?_,by rw[bV];simp[bF,HL.o],?_,zb.set_ 3 _,ownsRow_setCell_below a0.own (Nat.lt_succ_self _) _,tI g4 d4 a6 (aS.lt a9) a7 a5 (aP _ _) a0 ?_ (by simp[World.setCell]),?_,?_⟩,by simp[intOf];omega⟩
     · rw[c6.o,<-g1.o.1]
     · have:=g2.o;rw[iB];simp[cO];omega
     · intro b' f9 o;exact World.cell?_setCell_other _ _ _ _ (fun e=>by injection e with e;omega)
     · rw[iB];have hk:=pX (World.ownsRow.alloc (cB a5 a6) _) ((cB a7 a6).alloc _) aE a0.grown;have f6:=ownsRow_setCell_below hk (a:=⟨w1.heap.size,3,Y⟩) (Nat.lt_succ_self _) (X A' (j+1) c');simpa[cO,bN] using f6
     · exact ((((b1.trans (a6.mono b1.size)).alloc aA _).grown a0.grown aG (fun g hg=>by have:=(aU a7 hg).1;omega)).setCell (Nat.le_refl _) _)
  have f3:((j:Int) % 2==0)=true:=by simp;omega
  have a4:(ds (bD l 0)).drop j=true::(ds (bD l 0)).drop (j+1):=by rw[h9.o,decide_eq_true ⟨i1.o,by omega⟩]
  by_cases hqn:p<n;rotate_left
  · have b0:pp [false] l=Y:=by rw[d9.o,HE.o,a4,show pp (true::(ds (bD l 0)).drop (j+1)) (l.drop p)=Y from by rw[show l.drop p=[] from List.drop_eq_nil_of_le (by rw[h.len];omega),eX];rfl];rfl
    have b7:=aB b0;clear b0 a4;have e4:=aS.cell a2;have e3:=aS.frozen a2;go_wp2_with (go_at_call 122;refine (eL _ _ _ _).mono ?_;rintro e w2 ⟨rfl,rfl⟩)
    refine bodyPost_ret (v:=.tuple #[dT,O S 0,I false]) (cY ((((((a2.set_ 0 _).set_ 1 _).set_ 2 _).set_ 3 _).set_ 4 _).set_ 5 _) rfl) rfl (cV b7.o (eM d3.o (Nat.le_refl _) _ _ _ _ _ _))
  obtain⟨_,d0,d1,d2⟩:=g8.cells hqn;have i8:pp (true::(ds (bD l 0)).drop (j+1)) (l.drop p)=if vI (bD l p) then (pp [false] (l.drop (p+1))).bind fun x=>(pp ((ds (bD l 0)).drop (j+1)) x.2).map fun y=>((x.1.setPre [bD l p]).app y.1,y.2) else Y:=by
   rw[jX (by rw[h.len];exact hqn),G5]
  have g5:=aB i8;clear i8;by_cases h13:(bD l p).op=13;rotate_left
  · have h7:((bD l p).op != 13)=true:=by simp[h13]
    have b0:pp [false] l=Y:=by rw[d9.o,HE.o,a4,g5.o,if_neg (by simp[vI,h13])];rfl
    have b7:=aB b0;clear b0 a4;have e4:=aS.cell a2;have e3:=aS.frozen a2;go_wp2_with (go_at_call 122;refine (eL _ _ _ _).mono ?_;rintro e w2 ⟨rfl,rfl⟩)
    refine bodyPost_ret (v:=.tuple #[dT,O S 0,I false]) (cY ((((((a2.set_ 0 _).set_ 1 _).set_ 2 _).set_ 3 _).set_ 4 _).set_ 5 _) rfl) rfl (cV b7.o (eM d3.o (Nat.le_refl _) _ _ _ _ _ _))
  have h7:((bD l p).op != 13)=false:=by simp[h13]
  have k5:=aB h13;clear h13;by_cases ha:0<=(bD l p).a/\(bD l p).a<=15;rotate_left
  · have l0:(decide (0<=(bD l p).a)&&decide ((bD l p).a<=15))=false:=by rw[Bool.and_eq_false_iff,decide_eq_false_iff_not,decide_eq_false_iff_not];omega
    have b0:pp [false] l=Y:=by rw[d9.o,HE.o,a4,g5.o,if_neg (by simp[vI,aV];omega)];rfl
    have b7:=aB b0;clear b0 a4;have e4:=aS.cell a2;have e3:=aS.frozen a2;go_wp2_with (go_at_call 122;refine (eL _ _ _ _).mono ?_;rintro e w2 ⟨rfl,rfl⟩)
    refine bodyPost_ret (v:=.tuple #[dT,O S 0,I false]) (cY ((((((a2.set_ 0 _).set_ 1 _).set_ 2 _).set_ 3 _).set_ 4 _).set_ 5 _) rfl) rfl (cV b7.o (eM d3.o (Nat.le_refl _) _ _ _ _ _ _))
  obtain⟨l2,l1⟩:=ha;by_cases hbb:(bD l p).b=0;rotate_left
  · have h5:((bD l p).b != 0)=true:=by simp[hbb]
    have b0:pp [false] l=Y:=by rw[d9.o,HE.o,a4,g5.o,if_neg (by simp[vI,aV];omega)];rfl
    have b7:=aB b0;clear b0 a4;have e4:=aS.cell a2;have e3:=aS.frozen a2;go_wp2_with (go_at_call 122;refine (eL _ _ _ _).mono ?_;rintro e w2 ⟨rfl,rfl⟩)
    refine bodyPost_ret (v:=.tuple #[dT,O S 0,I false]) (cY ((((((a2.set_ 0 _).set_ 1 _).set_ 2 _).set_ 3 _).set_ 4 _).set_ 5 _) rfl) rfl (cV b7.o (eM d3.o (Nat.le_refl _) _ _ _ _ _ _))
  have h5:((bD l p).b != 0)=false:=by simp[hbb]
  have f4:vI (bD l p)=true:=by
   have:=k5.o;simp only[vI,Bool.and_eq_true,decide_eq_true_eq];refine⟨?_,this⟩;rw[aV];omega
  have d5:pp ((ds (bD l 0)).drop j) (l.drop p)=(pp [false] (l.drop (p+1))).bind fun x=>(pp ((ds (bD l 0)).drop (j+1)) x.2).map fun y=>((x.1.setPre [bD l p]).app y.1,y.2):=by rw[a4,g5.o,if_pos f4]
  have d8:=aB d5;clear d5 a4 f4 hbb;go_wp2_with (go_at_call 122;refine (eL _ _ _ _).mono ?_;rintro e w2 ⟨rfl,rfl⟩)
  have j5:∀(o:Obj),(wr.alloc o).cell? ⟨w1.heap.size,5,Y⟩=Z (X A2 m2 k2):=fun o=>(aS.alloc a9 o).cell 5;have z0:wr.cell? ⟨w1.heap.size,5,Y⟩=Z (X A2 m2 k2):=a9.cell 5;obtain⟨i0,hi,c3,b9,b8⟩:=info_parts Tryz.infoN;have f0:=aB hi;have e9:=aB c3;have e8:=aB b9;have e7:=aB b8;clear hi c3 b9 b8;have d7:w1.heap.size+1<=wr.heap.size:=a9.lt;go_region_law (refine lI rfl (cQ (.tmp 151) (.tmp 156) 28 rfl (w1.heap.size+1) i0 Tryz.underlying28 f0.o e9.o e8.o e7.o (X A2 m2 k2) (cO F) (bD l p) wr.drew rfl rfl a5 _ rfl aD (by have:=g2.o;omega) d7 ?_);intro A2' k2' wf e5 a0;have e6:=a0.grown;have zb:=aS.grown (show aS wr.drew _ _ _ from a9) e6 (eY a5 (Nat.lt_succ_self _));have zc:wf.cell? ⟨w1.heap.size,5,Y⟩=Z (X A2 m2 k2):=zb.cell 5;have zf:=zb.frozen 5)
  all_goals
   have c8:Below w1.heap.size w1 (wf.setCell ⟨w1.heap.size,5,Y⟩ (X A2' ((cO F).length+1) k2')):=((b1.drew).grown a0.grown (Nat.le_of_lt d7) (fun g hg=>by have:=(aU a5 hg).1;omega)).setCell (Nat.le_refl _) _;have g7:=h1.below c8;have c5:=zb.set_ 5 (X A2' ((cO F).length+1) k2');have b3:=ownsRow_setCell_below (pX (show wr.drew.ownsRow _ _ _ _ _ _ from a7) a5 aE a0.grown) (a:=⟨w1.heap.size,5,Y⟩) (Nat.lt_succ_self _) (X A2' ((cO F).length+1) k2');have c4:=e5.setCell (a:=⟨w1.heap.size,5,Y⟩) (Nat.lt_succ_self _) (X A2' ((cO F).length+1) k2');have h3:=L7 g4 a0 w1.heap.size 5 (X A2' ((cO F).length+1) k2') (Nat.lt_succ_self _);have f1:=aS.far (aS.grown (show aS wr.drew _ _ _ from a2) a0.grown (eY a5 aA)) (p:=⟨w1.heap.size,5,Y⟩) (Nat.ne_of_lt i2) (X A2' ((cO F).length+1) k2');have f8:Below w.heap.size w (wf.setCell ⟨w1.heap.size,5,Y⟩ (X A2' ((cO F).length+1) k2')):=(aP w _).trans ((c9.trans (c8.mono c9.size)).mono aD);clear j5 z0 zc zf;obtain⟨A',hcut,hT⟩:=kV (Z ⟨b,off,Y⟩) n c (p+1) hqn;have g0:=hT _ _ _ g7;simp only[Int.natCast_add,Int.cast_ofNat_Int] at hcut;go_wp2_with fail;refine (HI.o (wf.setCell ⟨w1.heap.size,5,Y⟩ (X A2' ((cO F).length+1) k2')) A' (n-(p+1)) (c-(p+1)) (l.drop (p+1)) g0 aA).mono ?_;rintro e w2 ⟨a6,a1⟩;clear hcut hT;have a3:=aS.below c5 a6 (aS.lt c5);have a8:=aS.below f1 a6 (aS.lt f1);cases hq:pp [false] (l.drop (p+1)) with
   | none =>
    rw[hq] at a1;obtain rfl:=a1;have b0:pp [false] l=Y:=by rw[d9.o,HE.o,d8.o,hq];rfl
    have b7:=aB b0;clear b0 hq;have e4:=fun o=>aS.cell (a8.alloc o);have e3:=fun o=>aS.frozen (a8.alloc o);simp only[dT];go_wp2_with fail;refine bodyPost_ret (v:=.tuple #[dT,O S 0,I false]) (cY (((((((a8.alloc _).set_ 0 _).set_ 1 _).set_ 2 _).set_ 3 _).set_ 4 _).set_ 5 _) rfl) rfl (cV b7.o (eM (f8.trans ((a6.trans ((aP w2 _).mono a6.size)).mono f8.size)) (Nat.le_refl _) _ _ _ _ _ _))
   | some x =>
    obtain⟨nd,ats,ks,hx⟩:=rD hq;obtain⟨x1,r⟩:=x;simp only at hx;subst hx;rw[hq] at a1;obtain⟨ys,rfl,d4⟩:=a1;obtain⟨sk,sa,sf,rfl,⟨Ak,nk,ck,rfl,i6⟩,⟨Aa,na,ca,rfl,j3⟩,⟨Af,nf,cf,rfl,i9⟩⟩:=id d4;have b2:pp (ds (bD l 0)) (l.drop 1)=(pp ((ds (bD l 0)).drop (j+1)) r).map fun y=>((F.app (.cons [bD l p] nd ats ks .nil)).app y.1,y.2):=by
     rw[HE.o,d8.o,hq,Option.bind_some,Option.map_map];simp only[Function.comp_def,dG];rfl
    have b6:=nQ hq (by rw[h.len];exact hqn);rw[h.len] at b6;have f2:=b6.2.1;have c6:=aB b2;have g1:=aB b6;have d6:(l.drop (p+1)).length-r.length=(n-r.length)-(p+1):=by rw[List.length_drop,h.len];omega
    have b5:=wZ hq aD;rw[List.length_drop,h.len] at b5;simp only at b5;clear b2 hq b6;rw[d6];clear d6;obtain⟨i0,hi,c3,b9,b8⟩:=info_parts Tryz.infoT;have f0:=aB hi;have e9:=aB c3;have e8:=aB b9;have e7:=aB b8;clear hi c3 b9 b8;have g6:=fun o=>aS.cell (a3.alloc o);have b4:∀u ∈ [Value.int .i64 nd.op,O S nd.a,O S nd.b,X Ak nk ck,X Aa na ca,X Af nf cf],u.oneCell'=true:=by
     intro u hu;simp at hu;rcases hu with rfl | rfl | rfl | rfl | rfl | rfl<;>rfl
    have g3:=aB b4;clear b4;have f7:w1.heap.size+1<=w2.heap.size:=a3.lt;go_wp2_with (at_builtin;refine bL rfl (fL (.tmp 173) (.tmp 175) 83 rfl (w1.heap.size+1) i0 _ Tryz.underlying83 f0.o e9.o e8.o e7.o rfl (X A1 j k1) j xs [O S nd.op,O S nd.a,O S nd.b,X Ak nk ck,X Aa na ca,X Af nf cf] rfl g3.o _ rfl rfl ((cB b3 a6).alloc _) _ rfl aD aA aG ?_);intro A' c' w' a0;have zb:=aS.grown (a3.alloc _) a0.grown (eY b3 (Nat.lt_succ_self _));have zc:=zb.cell;have zf:=zb.frozen)
    refine⟨⟨n-r.length,j+1,F.app (.cons [bD l p] nd ats ks .nil),A',c',A2',((cO F).length+1),k2',_,hlt,by omega,by omega,congrArg (Value.int .i64) aA,by go_num,?_,by rw[bV];simp[bF,HL.o],?_,zb.set_ 3 _,ownsRow_setCell_below a0.own (Nat.lt_succ_self _) _,tI h3 d4 a6 (aS.lt c5) b3 c4 (aP _ _) a0 ?_ (by simp[World.setCell]),?_,?_⟩,by simp[intOf];omega⟩
    · rw[c6.o,<-g1.o.1]
    · have:=g2.o;rw[iB];simp[cO];omega
    · intro b' f9 o;exact World.cell?_setCell_other _ _ _ _ (fun e=>by injection e with e;omega)
    · rw[iB];have hk:=pX (World.ownsRow.alloc (cB c4 a6) _) ((cB b3 a6).alloc _) aE a0.grown;have f6:=ownsRow_setCell_below hk (a:=⟨w1.heap.size,3,Y⟩) (Nat.lt_succ_self _) (X A' (j+1) c');simpa[cO,bN] using f6
    · exact ((((c8.trans (a6.mono c8.size)).alloc aA _).grown a0.grown aG (fun g hg=>by have:=(aU b3 hg).1;omega)).setCell (Nat.le_refl _) _)
theorem M4 {A:Option Addr} {n c:Nat} {l:List Nd} {w:World} (h:aY w A n c l) (hn:0<n) (hok:eN (bD l 0)=false) :
 Calls Tryz.prog 78 #[X A n c] w (iI l w):=by
 have hl:pp [false] l=Y:=MX _ (fun _=>hok);have a3:=aB hl;clear hl;obtain⟨b,off,rfl,hb,c0,c1,c2⟩:=h.at_ hn;simp only[Nat.zero_mul,Nat.add_zero] at c0 c1 c2;have a6:(((n:Nat):Int)==0)=false:=by simp;omega
 have a1:eN ⟨(bD l 0).op,(bD l 0).a,(bD l 0).b⟩=false:=hok;go_in;go_wp2_with fail;refine (LL _ _ _ _ a1).mono ?_;rintro e w1 ⟨⟨k,rfl⟩,a2⟩;have a0:aS w1 w.heap.size 85 #[O S 0,O S 0,O S 0,X Y 0 0,X Y 0 0,X Y 0 0]:=(aS.new _ _ _).below a2 aD;have a5:=aS.cell a0;have a4:=aS.frozen a0;go_wp2_with fail;refine bodyPost_ret (v:=.tuple #[dT,O S 0,I false]) (cY ((((((a0.set_ 0 _).set_ 1 _).set_ 2 _).set_ 3 _).set_ 4 _).set_ 5 _) rfl) rfl (cV a3.o (eM ((aP w _).trans (a2.mono aD)) (Nat.le_refl _) _ _ _ _ _ _))
theorem CV:∀(m:Nat) (w:World) (A:Option Addr) (n c:Nat) (l:List Nd),aY w A n c l->n<m->Calls Tryz.prog 78 #[X A n c] w (iI l w)
 | 0,_,_,_,_,_,_,hm=>absurd hm aA
 | m+1,w,A,n,c,l,h,hm=>by
  by_cases hn:0<n
  · cases hok:eN (bD l 0)
    · exact M4 h hn hok
    by_cases h2:(bD l 0).op=2
    · have a0:=(bC _).1 hok;obtain⟨K,hK⟩:=Int.eq_ofNat_of_zero_le (gT a0.1).1;exact J1 h hn (by simp[h2]) hok K hK
    exact JZ h hn (by simp[h2]) hok (fun w A k c l' hl hk=>CV m w A k c l' hl aA)
  · obtain rfl:n=0:=aA;exact J0 h
theorem CW {A:Option Addr} {n c:Nat} {l:List Nd} {w:World} (h:aY w A n c l):Calls Tryz.prog 78 #[X A n c] w (iI l w) :=
 CV (n+1) w A n c l h (Nat.lt_succ_self _)
end Go.Proofs.YtjoddliplahgkaaGreat
