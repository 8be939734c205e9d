/- Merged: Read, Read2, Read3. -/
import Derived.Test.YtjllmblbbgojbaaGreatXKidss
namespace Go.Proofs.YtjllmblbbgojbaaGreat
set_option linter.unusedVariables false
set_option linter.unusedSimpArgs false
open Go.RowKit
open Go.Value renaming int → O, slice → X, bool → I
open Go.IntKind renaming i64 → S
open Option renaming none → Y, some → Z
open Go.Lib renaming hid->aB
set_option maxHeartbeats 4000000
set_option maxRecDepth 100000
def dR:Value:=.agg #[O S 0,O S 0,O S 0,X Y 0 0,X Y 0 0,X Y 0 0]
def hI (l:List Nd) (w:World) (e:Ending) (w':World):Prop :=
 Below w.heap.size w w'/\match pp [false] l with
  | some (.cons _ n atoms kids _,r)=>∃xs,e=.returned (.tuple #[.agg xs.toArray,O S ((l.length-r.length:Nat):Int),I true])/\cJ (kD w w') w' xs n atoms kids
  | _=>e=.returned (.tuple #[dR,O S 0,I false])
theorem Tryz.infoN:(Tryz.prog.info? 40).map (fun i=>(i.zero,i.size,i.bytes))=Z (Z (.agg #[O S 0,O S 0,O S 0]),3,24):=by kernel_rfl
theorem Tryz.infoT:(Tryz.prog.info? 49).map (fun i=>(i.zero,i.size,i.bytes))=Z (Z dR,6,96):=by kernel_rfl
theorem cU {l:List Nd} {w w':World} (h:pp [false] l=Y) (hb:Below w.heap.size w w'):hI l w (.returned (.tuple #[dR,O S 0,I false])) w':=by
 refine⟨hb,?_⟩;rw[h]
theorem eK {B g:Nat} {w w':World} (h:Below B w w') (hg:B<=g) (a b c d e f:Value):Below B w ((((((w'.setCell ⟨g,0,Y⟩ a).setCell ⟨g,1,Y⟩ b).setCell ⟨g,2,Y⟩ c).setCell ⟨g,3,Y⟩ d).setCell ⟨g,4,Y⟩ e).setCell ⟨g,5,Y⟩ f) :=
 (((((h.setCell (p:=⟨g,0,Y⟩) hg a).setCell (p:=⟨g,1,Y⟩) hg b).setCell (p:=⟨g,2,Y⟩) hg c).setCell (p:=⟨g,3,Y⟩) hg d).setCell (p:=⟨g,4,Y⟩) hg e).setCell (p:=⟨g,5,Y⟩) hg f
theorem cY {w:World} {g:Nat} {c0 c1 c2 c3 c4 c5:Value} {tmps:Array Value} (h:aS w g 49 #[c0,c1,c2,c3,c4,c5]) (ht:tmps.getD 2 undef=.pointer (Z ⟨g,0,Y⟩)) :
 (results Tryz.f38 tmps).run Tryz.prog w=.ok (.tuple #[.agg #[c0,c1,c2,c3,c4,c5],tmps.getD 3 undef,tmps.getD 4 undef]) w:=by
 have hc:=h.cell;have ht':tmps[2]?.getD undef=.pointer (Z ⟨g,0,Y⟩):=by rw[<-ht];simp
 simp[results,Tryz.results38,go_sem,ht',hc]
theorem IC {A:Option Addr} {c:Nat} {l:List Nd} {w:World} (h:bB w A 0 c l) :
 Calls Tryz.prog 38 #[X A 0 c] w (hI l w):=by
 have hl:pp [false] l=Y:=KX _ (fun hp=>by rw[h.len] at hp;omega);have HPP:=aB hl;clear hl;go_in;go_wp2_with fail;refine bodyPost_ret (v:=.tuple #[dR,O S 0,I false]) (by simp[results,Tryz.results38,go_sem,dR]) rfl (cU HPP.o (aP _ _))
theorem ID {A:Option Addr} {n c:Nat} {l:List Nd} {w:World} (h:bB w A n c l) (hn:0<n) (hop:((bD l 0).op==2)=true) (hok:eE (bD l 0)=true) (K:Nat) (hK:(bD l 0).b=K) :
 Calls Tryz.prog 38 #[X A n c] w (hI l w):=by
 have hfew:=h.few;have hK4:K<=4:=by
  simp at hop;rw[bE,aT] at hok;omega
 obtain⟨b,off,rfl,hb,c0,c1,c2⟩:=h.at_ hn;have hpp:pp [false] l=(bI K (-1) (l.drop 1)).map fun q=>(.cons [] (bD l 0) q.1 .nil .nil,q.2):=by
  rw[FE (by rw[h.len];exact hn) hok (by simpa using hop),hK,Int.toNat_natCast]
 have HPP:=aB hpp;clear hpp;have hok2:eE ⟨(bD l 0).op,(bD l 0).a,K⟩=true:=by rw[<-hK];exact hok
 have HK:=aB hK;simp only[Nat.zero_mul,Nat.add_zero,hK] at c0 c1 c2;clear hK;have hnk:cX (bD l 0).op (K:Int)=0:=by simp at hop;simp[cX,hop]
 have hn0:(((n:Nat):Int)==0)=false:=by simp;omega
 go_in;go_wp2_with (go_at_call 62;refine (u6 _ _ _ _ hok2).mono ?_;rintro e w1 ⟨rfl,hb1⟩;obtain⟨hc1,hf1⟩:=lB hb1;have hbw:b<w1.heap.size:=by (have:=hb1.size;simp at this;omega))
 have hz2:aS w1 w.heap.size 49 #[O S 0,O S 0,O S 0,X Y 0 0,X Y 0 0,X Y 0 0]:=(aS.new _ _ _).below hb1 aD;have h1:bB w1 (Z ⟨b,off,Y⟩) n c l:=(h.alloc _).below hb1;have hsz:w.heap.size<w1.heap.size:=by have:=hb1.size;simp at this;omega
 clear hc1 hf1;go_loopw [8,9] (fun a i wr=>∃(p j:Nat) (ats:List Nd) (A0:Option Addr) (m0 k0:Nat),j<=K/\p<=n/\a=O S (p:Int)/\i=O S (j:Int)/\p=j+1 ∧
  bI K (-1) (l.drop 1)=(bI (K-j) (if j=0 then -1 else (bD l j).a) (l.drop p)).map (fun p=>(ats++p.1,p.2))/\ats.length=j ∧
  aS wr w1.heap.size 49 #[O S (bD l 0).op,O S (bD l 0).a,O S K,X Y 0 0,X A0 m0 k0,X Y 0 0] ∧
  bR wr (w1.heap.size+1) (X A0 m0 k0) ats/\Below w1.heap.size w1 wr) (fun _ i _=>K-(intOf i).toNat)
 case atStart =>
  refine⟨1,0,[],Y,0,0,Nat.zero_le _,hn,rfl,rfl,rfl,?_,rfl,aS.new _ _ _,bR.nil _ _,aP _ _⟩;simp only[Nat.sub_zero,if_true,List.nil_append];cases bI K (-1) (l.drop 1)<;>rfl
 case round =>
  obtain⟨p,j,ats,A0,m0,k0,hj,hpn1,rfl,rfl,hpj,he,hlen,hblk,hown,hbw2⟩:=hrel;have HP:=aB hpj;have HE:=aB he;have HL:=aB hlen;have hz2':=aS.below hz2 hbw2 hsz;have hbx:∀(m:Nat) (x:Value),Below w.heap.size w ((((((wr.drewN m).setCell ⟨w.heap.size,0,Y⟩ (O S 0)).setCell ⟨w.heap.size,1,Y⟩ (O S 0)).setCell ⟨w.heap.size,2,Y⟩ (O S 0)).setCell ⟨w.heap.size,3,Y⟩ (X Y 0 0)).setCell ⟨w.heap.size,4,Y⟩ (X Y 0 0) |>.setCell ⟨w.heap.size,5,Y⟩ (X Y 0 0)):=fun m _ =>
   eK (aV ((aP w _).trans ((hb1.trans (hbw2.mono hb1.size)).mono aD)) m) (Nat.le_refl _) _ _ _ _ _ _
  have HBW:=aB hbx;clear hbx;have hbsz:w1.heap.size+1<=wr.heap.size:=aS.lt hblk;have hwr:=h1.below hbw2;have e0:=(h1.below hbw2).cells (p:=0) hn;simp only[Nat.zero_mul,Nat.add_zero,HK.o] at e0;obtain⟨hbr,e0,e1,e2⟩:=e0;have hprev:((p:Int)-1).toNat=j:=by rw[hpj];omega
  have hprev0:(0:Int)<=(p:Int)-1:=by rw[hpj];omega
  have HPR:=aB hprev;clear he hlen c0 c1 c2 hpj hprev;by_cases hlt:j<K;rotate_left
  · go_wp2_with fail;refine wp_loop_once ?_;have zc7:=aS.cell hblk;have zc2:=aS.cell hz2';have zf2:=aS.frozen hz2';go_wp2_with fail;have hval:pp [false] l=Z (.cons [] (bD l 0) ats .nil .nil,l.drop p):=by
     rw[HPP.o,HE.o,show K-j=0 from by omega];simp[bI]
    have hX:=((((((hz2'.set_ 0 (O S (bD l 0).op)).set_ 1 (O S (bD l 0).a)).set_ 2 (O S K)).set_ 3 (X Y 0 0)).set_ 4 (X A0 m0 k0)).set_ 5 (X Y 0 0));have hsl:w.heap.size<w1.heap.size+1:=aA;have hO:=(((((hown.setCell (a:=⟨w.heap.size,0,Y⟩) hsl (O S (bD l 0).op)).setCell (a:=⟨w.heap.size,1,Y⟩) hsl (O S (bD l 0).a)).setCell (a:=⟨w.heap.size,2,Y⟩) hsl (O S K)).setCell (a:=⟨w.heap.size,3,Y⟩) hsl (X Y 0 0)).setCell (a:=⟨w.heap.size,4,Y⟩) hsl (X A0 m0 k0)).setCell (a:=⟨w.heap.size,5,Y⟩) hsl (X Y 0 0);have hb0:Below w.heap.size w wr:=(aP w _).trans ((hb1.trans (hbw2.mono hb1.size)).mono aD);refine bodyPost_ret (v:=.tuple #[.agg #[O S (bD l 0).op,O S (bD l 0).a,O S K,X Y 0 0,X A0 m0 k0,X Y 0 0],O S p,I true]) (cY hX rfl) rfl ⟨eK hb0 (Nat.le_refl _) _ _ _ _ _ _,?_⟩;rw[hval];refine⟨[O S (bD l 0).op,O S (bD l 0).a,O S K,X Y 0 0,X A0 m0 k0,X Y 0 0],?_,_,_,_,by rw[HK.o],qK.nil _ _,(hO.termS (by have:=HL.o;omega)).keep fun b hb=>⟨⟨?_,?_⟩,fun _=>rfl⟩,gJ.nil _ _⟩
    · rw[List.length_drop,h.len,show n-(n-p)=p from by omega]
    · have:=(aR hO hb).1;omega
    exact (aR hO hb).2.1
  by_cases hpn:p<n
  · obtain⟨_,d0,d1,d2⟩:=hwr.cells hpn;have hge:decide (n<=p)=false:=by simp;omega
    by_cases h3:(bD l p).op=3;rotate_left
    · have h3b:((bD l p).op != 3)=true:=by simp[h3]
      have H3:=aB h3;clear h3;go_wp2_with fail;go_quiet ((go_at_call 63;first | exact cG _ _ _ _ _ aA | exact cF _ _ _ _ _ aA))
      have zc2:=aS.cell hz2';have zf2:=aS.frozen hz2';go_wp2_with fail;refine bodyPost_ret (v:=.tuple #[dR,O S 0,I false]) (cY ((((((((hz2'.drewN _).set_ 0 _).set_ 1 _).set_ 2 _).set_ 3 _).set_ 4 _).set_ 5 _)) rfl) rfl (cU ?_ (HBW.o _ (O S 0)));rw[HPP.o,HE.o,show K-j=(K-(j+1))+1 from by omega,gL (fun _ hh _ _=>H3.o hh)];rfl
    have h3b:((bD l p).op != 3)=false:=by simp[h3]
    have hpl:(0<=(bD l p).a/\(bD l p).a<=16)/\(0<=(bD l p).b/\(bD l p).b<=1000)->bW (bD l p).op (bD l p).a (bD l p).b=true:=fun hh=>by rw[aT];omega
    have hpl2:bW (bD l p).op (bD l p).a (bD l p).b=true->(0<=(bD l p).a/\(bD l p).a<=16)/\(0<=(bD l p).b/\(bD l p).b<=1000):=fun hh=>by rw[aT] at hh;omega
    have HPL:=aB hpl;have HPL2:=aB hpl2;have H3:=aB h3;clear h3 hpl hpl2;by_cases ha:0<=(bD l p).a/\(bD l p).a<=16;rotate_left
    · go_wp2_with fail;go_quiet ((go_at_call 63;first | exact cG _ _ _ _ _ aA | exact cF _ _ _ _ _ aA))
      have zc2:=aS.cell hz2';have zf2:=aS.frozen hz2';go_wp2_with fail;refine bodyPost_ret (v:=.tuple #[dR,O S 0,I false]) (cY ((((((((hz2'.drewN _).set_ 0 _).set_ 1 _).set_ 2 _).set_ 3 _).set_ 4 _).set_ 5 _)) rfl) rfl (cU ?_ (HBW.o _ (O S 0)));rw[HPP.o,HE.o,show K-j=(K-(j+1))+1 from by omega,gL (fun _ _ hh _=>ha (HPL2.o hh).1)];rfl
    by_cases hbb:0<=(bD l p).b/\(bD l p).b<=1000
    · by_cases hj0:0<j
      · obtain⟨_,f0,f1,f2⟩:=hwr.cells (p:=j) (by have:=HP.o;omega);have hprevw:IntKind.i64.wrap ((p:Int)-1)=(p:Int)-1:=IntWalk.i64_in _ aA;by_cases hla:(bD l p).a<=(bD l j).a
        · have hla1:decide ((bD l p).a<=(bD l j).a)=true:=by simp[hla]
          have hprev:=HPR.o;go_wp2_with fail;go_quiet ((go_at_call 63;first | exact cG _ _ _ _ _ aA | exact cF _ _ _ _ _ aA))
          clear hprev hprevw;have zc2:=aS.cell hz2';have zf2:=aS.frozen hz2';go_wp2_with fail;refine bodyPost_ret (v:=.tuple #[dR,O S 0,I false]) (cY ((((((((hz2'.drewN _).set_ 0 _).set_ 1 _).set_ 2 _).set_ 3 _).set_ 4 _).set_ 5 _)) rfl) rfl (cU ?_ (HBW.o _ (O S 0)));rw[HPP.o,HE.o,show K-j=(K-(j+1))+1 from by omega,gL (fun _ _ _ hh=>by rw[if_neg aA] at hh;omega)];rfl
        have hla1:decide ((bD l p).a<=(bD l j).a)=false:=by simp;omega
        have hprev:=HPR.o;go_wp2_with fail;go_quiet ((go_at_call 63;first | exact cG _ _ _ _ _ aA | exact cF _ _ _ _ _ aA))
        clear hprev hprevw;go_wp2_with fail;have z0a:∀(m:Nat) (o:Obj),((wr.drewN m).alloc o).cell? ⟨w1.heap.size,4,Y⟩=Z (X A0 m0 k0):=fun m o=>(aS.alloc (hblk.drewN m) o).cell 4;have z0:wr.cell? ⟨w1.heap.size,4,Y⟩=Z (X A0 m0 k0):=hblk.cell 4;obtain⟨i0,hi,hy0,hy1,hy2⟩:=info_parts Tryz.infoN;have HI:=aB hi;have HY0:=aB hy0;have HY1:=aB hy1;have HY2:=aB hy2;clear hi hy0 hy1 hy2;go_region_law (refine bU rfl (cK (.tmp 95) (.tmp 100) 27 rfl (w1.heap.size+1) i0 Tryz.underlying27 HI.o HY0.o HY1.o HY2.o (X A0 m0 k0) ats (bD l p) _ rfl rfl hown _ rfl aD (by have:=HL.o;omega) hbsz ?_);intro A' c' w' hown' happ;have hgrow':=happ.grown;have zb:=aS.grown (hblk.drewN _) hgrow' (fE hown (Nat.lt_succ_self _));have zc:w'.cell? ⟨w1.heap.size,4,Y⟩=Z (X A0 m0 k0):=zb.cell 4;have zf:=zb.frozen 4)
        all_goals
         go_wp2_with fail;go_roundw
         case rel =>
          refine⟨p+1,j+1,ats++[bD l p],_,_,_,hlt,hpn,by go_num,by go_num,by have:=HP.o;omega,?_,by simp[HL.o],zb.set_ 4 _,hown'.setCell (Nat.lt_succ_self _) _,((aV hbw2 _).grown hgrow' aG (fun g hg=>by have:=(aR hown hg).1;omega)).setCell (Nat.le_refl _) _⟩;rw[HE.o,show K-j=(K-(j+1))+1 from by omega,l9 (by rw[h.len];exact hpn) H3.o (HPL.o ⟨by omega,by omega⟩) (by rw[if_neg aA];omega),if_neg aA,<-HP.o];rw[Option.map_map];congr 1;funext q;simp
         case measure=>simp[intOf];omega
      have hj0b:decide (0<j)=false:=by simp[hj0]
      go_wp2_with fail;go_quiet ((go_at_call 63;first | exact cG _ _ _ _ _ aA | exact cF _ _ _ _ _ aA))
      go_wp2_with fail;have z0a:∀(m:Nat) (o:Obj),((wr.drewN m).alloc o).cell? ⟨w1.heap.size,4,Y⟩=Z (X A0 m0 k0):=fun m o=>(aS.alloc (hblk.drewN m) o).cell 4;have z0:wr.cell? ⟨w1.heap.size,4,Y⟩=Z (X A0 m0 k0):=hblk.cell 4;obtain⟨i0,hi,hy0,hy1,hy2⟩:=info_parts Tryz.infoN;have HI:=aB hi;have HY0:=aB hy0;have HY1:=aB hy1;have HY2:=aB hy2;clear hi hy0 hy1 hy2;go_region_law (refine bU rfl (cK (.tmp 95) (.tmp 100) 27 rfl (w1.heap.size+1) i0 Tryz.underlying27 HI.o HY0.o HY1.o HY2.o (X A0 m0 k0) ats (bD l p) _ rfl rfl hown _ rfl aD (by have:=HL.o;omega) hbsz ?_);intro A' c' w' hown' happ;have hgrow':=happ.grown;have zb:=aS.grown (hblk.drewN _) hgrow' (fE hown (Nat.lt_succ_self _));have zc:w'.cell? ⟨w1.heap.size,4,Y⟩=Z (X A0 m0 k0):=zb.cell 4;have zf:=zb.frozen 4)
      all_goals
       go_wp2_with fail;go_roundw
       case rel =>
        refine⟨p+1,j+1,ats++[bD l p],_,_,_,hlt,hpn,by go_num,by go_num,by have:=HP.o;omega,?_,by simp[HL.o],zb.set_ 4 _,hown'.setCell (Nat.lt_succ_self _) _,((aV hbw2 _).grown hgrow' aG (fun g hg=>by have:=(aR hown hg).1;omega)).setCell (Nat.le_refl _) _⟩;rw[HE.o,show K-j=(K-(j+1))+1 from by omega,l9 (by rw[h.len];exact hpn) H3.o (HPL.o ⟨by omega,by omega⟩) (by rw[if_pos aA];omega),if_neg aA,<-HP.o];rw[Option.map_map];congr 1;funext q;simp
       case measure=>simp[intOf];omega
    go_wp2_with fail;go_quiet ((go_at_call 63;first | exact cG _ _ _ _ _ aA | exact cF _ _ _ _ _ aA))
    have zc2:=aS.cell hz2';have zf2:=aS.frozen hz2';go_wp2_with fail;refine bodyPost_ret (v:=.tuple #[dR,O S 0,I false]) (cY ((((((((hz2'.drewN _).set_ 0 _).set_ 1 _).set_ 2 _).set_ 3 _).set_ 4 _).set_ 5 _)) rfl) rfl (cU ?_ (HBW.o _ (O S 0)));rw[HPP.o,HE.o,show K-j=(K-(j+1))+1 from by omega,gL (fun _ _ hh _=>hbb (HPL2.o hh).2)];rfl
  have hge:decide (n<=p)=true:=by simp;omega
  go_wp2_with fail;go_quiet ((go_at_call 63;first | exact cG _ _ _ _ _ aA | exact cF _ _ _ _ _ aA))
  have zc2:=aS.cell hz2';have zf2:=aS.frozen hz2';go_wp2_with fail;refine bodyPost_ret (v:=.tuple #[dR,O S 0,I false]) (cY ((((((((hz2'.drewN _).set_ 0 _).set_ 1 _).set_ 2 _).set_ 3 _).set_ 4 _).set_ 5 _)) rfl) rfl (cU ?_ (HBW.o _ (O S 0)));rw[HPP.o,HE.o,show K-j=(K-(j+1))+1 from by omega,gL (fun hh _ _ _=>hpn (by rw[h.len] at hh;exact hh))];rfl
def rO (B:Nat) (w:World) (u v:Value) (b:Nat):Prop:=B<=b/\b<w.heap.size/\u.ownBlock ≠ Z b/\v.ownBlock ≠ Z b
theorem sF {B:Nat} {wr w2 W w' wf:World} {e1 e2:TypeId} {s1 s2 n1 n2:Nat} {u v:Value} {x1 x2:List Value} {F:Fo} {xs ys:List Value} {nd:Nd} {ats:List Nd} {ks:Fo} {pre:List Nd} {A':Option Addr} {m c':Nat} {zs:List Value}
 (hfc:jW (rO B wr u v) wr F xs) (ht:cJ (kD wr w2) w2 ys nd ats ks) (hb:Below wr.heap.size wr w2) (hB:B<=wr.heap.size)
 (h1:wr.ownsRow B e1 s1 u n1 x1) (h2:wr.ownsRow B e2 s2 v n2 x2) (hW:Below w2.heap.size w2 W) (hap:eH W w' B e1 s1 u A' m c' zs)
 (hwf:∀b,B<=b->∀o,wf.cell? ⟨b,o,Y⟩=w'.cell? ⟨b,o,Y⟩) (hws:wf.heap.size=w'.heap.size) :
 jW (rO B wf (X A' m c') v) wf (F.app (.cons pre nd ats ks .nil)) (xs++ys):=by
 have hWs:=hW.size;have hbs:=hb.size;have hgs:=hap.grown.size;have hcell:∀b,b<w2.heap.size->B<=b->u.ownBlock ≠ Z b->∀o,wf.cell? ⟨b,o,Y⟩=w2.cell? ⟨b,o,Y⟩:=fun b hb1 hb2 hb3 o=>by
  rw[hwf b hb2 o,World.cell?_of_block (w:=W) (hap.grown.block b aA (fun e=>hb3 e.symm)),hW.cell (p:=⟨b,o,Y⟩) hb1]
 have hnew:∀b,b<w2.heap.size->u.ownBlock ≠ Z b->(Value.slice A' m c').ownBlock ≠ Z b:=fun b hb1 hb2 e=>by
  rcases hap.new b e with e | e
  · exact hb2 e
  omega
 refine jW.app F _ xs ys (jW.keep ?_ F xs hfc) ?_
 · rintro b ⟨hb1,hb2,hb3,hb4⟩;refine⟨⟨hb1,by omega,hnew b aA hb3,hb4⟩,fun o => ?_⟩;rw[hcell b aA hb1 hb3,hb.cell (p:=⟨b,o,Y⟩) hb2]
 refine⟨ys,[],by simp,ht.keep ?_,rfl⟩;rintro b ⟨hb1,hb2⟩;have hu:u.ownBlock ≠ Z b:=fun e=>by have:=(aR h1 e).2.1;omega
 have hv:v.ownBlock ≠ Z b:=fun e=>by have:=(aR h2 e).2.1;omega
 exact⟨⟨by omega,by omega,hnew b hb2 hu,hv⟩,hcell b hb2 aA hu⟩
theorem J5 {B:Nat} {wr w':World} {u v:Value} {F:Fo} {xs:List Value} {A':Option Addr} {m c' base:Nat} {e:TypeId} {sz:Nat} {zs:List Value} (hfc:jW (rO B wr u v) wr F xs) (hap:eH wr.drew w' base e sz v A' m c' zs)
 (g i:Nat) (x:Value) (hg:g<B):jW (rO B (w'.setCell ⟨g,i,Y⟩ x) u (X A' m c')) (w'.setCell ⟨g,i,Y⟩ x) F xs:=by
 refine jW.keep ?_ F xs hfc;rintro b ⟨hb1,hb2,hb3,hb4⟩;have hs:=hap.grown.size;have hs':wr.heap.size<=w'.heap.size:=hs;refine⟨⟨hb1,by simp[World.setCell];omega,hb3,fun hh => ?_⟩,fun o => ?_⟩
 · rcases hap.new b hh with hh | hh
   · exact hb4 hh
   have:wr.heap.size<=b:=hh;omega
 rw[World.cell?_setCell_other _ _ _ _ (fun hh=>by injection hh with hh;omega),World.cell?_of_block (w:=wr.drew) (hap.grown.block b hb2 (fun hh=>hb4 hh.symm))];rfl
theorem rF {w:World} {base:Nat} {e:TypeId} {size:Nat} {v:Value} {n:Nat} {xs:List Value} (h:w.ownsRow base e size v n xs) {g:Nat} (hg:g<base) (a b c d x y:Value) :
 ((((((w.setCell ⟨g,0,Y⟩ a).setCell ⟨g,1,Y⟩ b).setCell ⟨g,2,Y⟩ c).setCell ⟨g,3,Y⟩ d).setCell ⟨g,4,Y⟩ x).setCell ⟨g,5,Y⟩ y).ownsRow base e size v n xs :=
 ownsRow_setCell_below (ownsRow_setCell_below (ownsRow_setCell_below (ownsRow_setCell_below (ownsRow_setCell_below (ownsRow_setCell_below h (a:=⟨g,0,Y⟩) hg a) (a:=⟨g,1,Y⟩) hg b) (a:=⟨g,2,Y⟩) hg c) (a:=⟨g,3,Y⟩) hg d) (a:=⟨g,4,Y⟩) hg x) (a:=⟨g,5,Y⟩) hg y
theorem oC (w:World) {g b':Nat} (hb:b' ≠ g) (a b c d x y:Value) (o:Nat) :
 ((((((w.setCell ⟨g,0,Y⟩ a).setCell ⟨g,1,Y⟩ b).setCell ⟨g,2,Y⟩ c).setCell ⟨g,3,Y⟩ d).setCell ⟨g,4,Y⟩ x).setCell ⟨g,5,Y⟩ y).cell? ⟨b',o,Y⟩=w.cell? ⟨b',o,Y⟩:=by
 have hne:∀i,(⟨g,i,Y⟩:Addr) ≠ ⟨b',o,Y⟩:=fun i hh=>by injection hh with hh;exact hb hh.symm
 rw[World.cell?_setCell_other _ _ _ _ (hne 5),World.cell?_setCell_other _ _ _ _ (hne 4),World.cell?_setCell_other _ _ _ _ (hne 3),World.cell?_setCell_other _ _ _ _ (hne 2),World.cell?_setCell_other _ _ _ _ (hne 1),World.cell?_setCell_other _ _ _ _ (hne 0)]
theorem IB {A:Option Addr} {n c:Nat} {l:List Nd} {w:World} (h:bB w A n c l) (hn:0<n) (hop:((bD l 0).op==2)=false) (hok:eE (bD l 0)=true)
 (ih:∀(w:World) (A:Option Addr) (m c:Nat) (l':List Nd),bB w A m c l'->m<n->Calls Tryz.prog 38 #[X A m c] w (hI l' w)) :
 Calls Tryz.prog 38 #[X A n c] w (hI l w):=by
 have hfew:=h.few;have HI:=aB ih;have hpp:pp [false] l=(pp (ds (bD l 0)) (l.drop 1)).map fun q=>(.cons [] (bD l 0) [] q.1 .nil,q.2):=FD (by rw[h.len];exact hn) hok (by simpa using hop);have HPP:=aB hpp;clear hpp ih;obtain⟨hk0,hk18⟩:=OR hok;obtain⟨K,hK⟩:=Int.eq_ofNat_of_zero_le hk0;have hK18:K<=18:=aA;have hdl:(ds (bD l 0)).length=K:=by rw[r7 hok,hK];rfl
 have HDL:=aB hdl;clear hk0 hk18 hdl;obtain⟨b,off,rfl,hb,c0,c1,c2⟩:=h.at_ hn;simp only[Nat.zero_mul,Nat.add_zero] at c0 c1 c2;have hok2:eE ⟨(bD l 0).op,(bD l 0).a,(bD l 0).b⟩=true:=hok;have hn0:(((n:Nat):Int)==0)=false:=by simp;omega
 go_in;go_wp2_with (go_at_call 62;refine (u6 _ _ _ _ hok2).mono ?_;rintro e w1 ⟨rfl,hb1⟩;obtain⟨hc1,hf1⟩:=lB hb1;have hbw:b<w1.heap.size:=by (have:=hb1.size;simp at this;omega))
 have hz2:aS w1 w.heap.size 49 #[O S 0,O S 0,O S 0,X Y 0 0,X Y 0 0,X Y 0 0]:=(aS.new _ _ _).below hb1 aD;have h1:bB w1 (Z ⟨b,off,Y⟩) n c l:=(h.alloc _).below hb1;have hsz:w.heap.size<w1.heap.size:=by have:=hb1.size;simp at this;omega
 clear hc1 hf1;go_loopw [8,10] (fun a i wr=>∃(p j:Nat) (F:Fo) (A1:Option Addr) (k1:Nat) (A2:Option Addr) (m2 k2:Nat) (xs:List Value),j<=K/\p<=n/\1<=p/\a=O S (p:Int)/\i=O S (j:Int) ∧
  pp (ds (bD l 0)) (l.drop 1)=(pp ((ds (bD l 0)).drop j) (l.drop p)).map (fun y=>(F.app y.1,y.2))/\bH F=j/\(cH F).length<=j ∧
  aS wr w1.heap.size 49 #[O S (bD l 0).op,O S (bD l 0).a,O S (bD l 0).b,X A1 j k1,X Y 0 0,X A2 m2 k2] ∧
  wr.ownsRow (w1.heap.size+1) 49 6 (X A1 j k1) j xs/\jW (rO (w1.heap.size+1) wr (X A1 j k1) (X A2 m2 k2)) wr F xs ∧
  bR wr (w1.heap.size+1) (X A2 m2 k2) (cH F)/\Below w1.heap.size w1 wr) (fun _ i _=>K-(intOf i).toNat)
 case atStart =>
  refine⟨1,0,.nil,Y,0,Y,0,0,[],Nat.zero_le _,hn,Nat.le_refl _,rfl,rfl,?_,rfl,Nat.zero_le _,aS.new _ _ _,World.ownsRow_nil _ _ _ _,rfl,bR.nil _ _,aP _ _⟩;simp only[List.drop_zero,Fo.app];cases pp (ds (bD l 0)) (l.drop 1)<;>rfl
 case round =>
  obtain⟨p,j,F,A1,k1,A2,m2,k2,xs,hj,hpn1,hp1,rfl,rfl,he,hlen,hpl,hblk,hown,hfc,hown2,hbw2⟩:=hrel;have HE:=aB he;have HL:=aB hlen;have HPL:=aB hpl;have hz2':=aS.below hz2 hbw2 hsz;have hwr:=h1.below hbw2;have e0:=(h1.below hbw2).cells (p:=0) hn;simp only[Nat.zero_mul,Nat.add_zero] at e0;obtain⟨hbr,e0,e1,e2⟩:=e0;have hb0:Below w.heap.size w wr:=(aP w _).trans ((hb1.trans (hbw2.mono hb1.size)).mono aD);have HB0:=aB hb0;clear he hlen c0 c1 c2 hpl hb0;by_cases hlt:j<K;rotate_left
  · obtain rfl:j=K:=aA;have zc7:=aS.cell hblk;have zc2:=aS.cell hz2';have zf2:=aS.frozen hz2';go_wp2_with fail;have hval:pp [false] l=Z (.cons [] (bD l 0) [] F .nil,l.drop p):=by
     rw[HPP.o,HE.o,List.drop_of_length_le (by rw[HDL.o];omega),jP];simp[i9]
    have hsl:w.heap.size<w1.heap.size+1:=aA;have hO:=rF hown hsl (O S (bD l 0).op) (O S (bD l 0).a) (O S (bD l 0).b) (X A1 j k1) (X Y 0 0) (X A2 m2 k2);have hO2:bR _ _ _ _:=rF hown2 hsl (O S (bD l 0).op) (O S (bD l 0).a) (O S (bD l 0).b) (X A1 j k1) (X Y 0 0) (X A2 m2 k2);refine bodyPost_ret (v:=.tuple #[.agg #[O S (bD l 0).op,O S (bD l 0).a,O S (bD l 0).b,X A1 j k1,X Y 0 0,X A2 m2 k2],O S p,I true]) (cY ((((((hz2'.set_ 0 _).set_ 1 _).set_ 2 _).set_ 3 _).set_ 4 _).set_ 5 _) rfl) rfl ⟨eK HB0.o (Nat.le_refl _) _ _ _ _ _ _,?_⟩;rw[hval];refine⟨[O S (bD l 0).op,O S (bD l 0).a,O S (bD l 0).b,X A1 j k1,X Y 0 0,X A2 m2 k2],?_,_,_,_,rfl,fY (by rw[HL.o];exact hO) (hfc.keep ?_) ?_,gJ.nil _ _,(hO2.termS (by have:=HPL.o;omega)).keep fun b hb=>⟨⟨?_,?_⟩,fun _=>rfl⟩⟩
    · rw[List.length_drop,h.len,show n-(n-p)=p from by omega]
    · rintro b' ⟨hb1',hb2',_,_⟩;refine⟨⟨by omega,by simp[World.setCell];exact hb2'⟩,fun o => ?_⟩;exact oC wr (Nat.ne_of_gt (by omega:w.heap.size<b')) _ _ _ _ _ _ o
    · intro b' hb';exact⟨by have:=(aR hO hb').1;omega,(aR hO hb').2.1⟩
    · have:=(aR hO2 hb).1;omega
    exact (aR hO2 hb).2.1
  have hdd:(ds (bD l 0)).drop j=decide ((bD l 0).op=12/\j % 2=0)::(ds (bD l 0)).drop (j+1):=MR (by rw[HDL.o];exact hlt);have HDD:=aB hdd;clear hdd;by_cases h12:(bD l 0).op=12;rotate_left
  · have h12b:((bD l 0).op==12)=false:=by simp[h12]
    have H12:=aB h12;clear h12;have hdd2:(ds (bD l 0)).drop j=false::(ds (bD l 0)).drop (j+1):=by rw[HDD.o,decide_eq_false (fun hh=>H12.o hh.1)]
    have hst:pp ((ds (bD l 0)).drop j) (l.drop p)=(pp [false] (l.drop p)).bind fun x=>(pp ((ds (bD l 0)).drop (j+1)) x.2).map fun y=>(x.1.app y.1,y.2):=by rw[hdd2,oU]
    have HST:=aB hst;clear hdd2 hst;obtain⟨A',hcut,hT⟩:=jJ (Z ⟨b,off,Y⟩) n c p hpn1;have hT':=hT _ _ _ hwr;go_wp2_with fail;refine (HI.o wr A' (n-p) (c-p) (l.drop p) hT' aA).mono ?_;rintro e w2 ⟨hb2,hpost⟩;clear hcut hT;have hblk2:=aS.below hblk hb2 (aS.lt hblk);have hz22:=aS.below hz2' hb2 (aS.lt hz2');cases hq:pp [false] (l.drop p) with
    | none =>
     rw[hq] at hpost;obtain rfl:=hpost;have hno:pp [false] l=Y:=by rw[HPP.o,HE.o,HST.o,hq];rfl
     have HNO:=aB hno;clear hno hq;have zc2:=fun o=>aS.cell (hz22.alloc o);have zf2:=fun o=>aS.frozen (hz22.alloc o);simp only[dR];go_wp2_with fail;refine bodyPost_ret (v:=.tuple #[dR,O S 0,I false]) (cY (((((((hz22.alloc _).set_ 0 _).set_ 1 _).set_ 2 _).set_ 3 _).set_ 4 _).set_ 5 _) rfl) rfl (cU HNO.o (eK (HB0.o.trans ((hb2.trans ((aP w2 _).mono hb2.size)).mono HB0.o.size)) (Nat.le_refl _) _ _ _ _ _ _))
    | some x =>
     obtain⟨nd,ats,ks,hx⟩:=pV hq;obtain⟨x1,r⟩:=x;simp only at hx;subst hx;rw[hq] at hpost;obtain⟨ys,rfl,hty⟩:=hpost;obtain⟨sk,sa,sf,rfl,⟨Ak,nk,ck,rfl,hkk⟩,⟨Aa,na,ca,rfl,haa⟩,⟨Af,nf,cf,rfl,hff⟩⟩:=id hty;have hst2:pp (ds (bD l 0)) (l.drop 1)=(pp ((ds (bD l 0)).drop (j+1)) r).map fun y=>((F.app (.cons [] nd ats ks .nil)).app y.1,y.2):=by
      rw[HE.o,HST.o,hq,Option.bind_some,Option.map_map];simp only[Function.comp_def,dI]
     have hrr:=mL hq (by rw[h.len];exact hpn1);rw[h.len] at hrr;have hrr2:=hrr.2.1;have HST2:=aB hst2;have HRR:=aB hrr;have hlr:(l.drop p).length-r.length=(n-r.length)-p:=by rw[List.length_drop,h.len];omega
     have hlt2:=vP hq aD;rw[List.length_drop,h.len] at hlt2;simp only at hlt2;clear hst2 hq hrr;rw[hlr];clear hlr;obtain⟨i0,hi,hy0,hy1,hy2⟩:=info_parts Tryz.infoT;have HI0:=aB hi;have HY0:=aB hy0;have HY1:=aB hy1;have HY2:=aB hy2;clear hi hy0 hy1 hy2;have zc7:=fun o=>aS.cell (hblk2.alloc o);have hone:∀u ∈ [Value.int .i64 nd.op,O S nd.a,O S nd.b,X Ak nk ck,X Aa na ca,X Af nf cf],u.oneCell'=true:=by
      intro u hu;simp at hu;rcases hu with rfl | rfl | rfl | rfl | rfl | rfl<;>rfl
     have HON:=aB hone;clear hone;have hbsz:w1.heap.size+1<=w2.heap.size:=hblk2.lt;go_wp2_with (at_builtin;refine bM rfl (fX (.tmp 173) (.tmp 175) 47 rfl (w1.heap.size+1) i0 _ Tryz.underlying47 HI0.o HY0.o HY1.o HY2.o rfl (X A1 j k1) j xs [O S nd.op,O S nd.a,O S nd.b,X Ak nk ck,X Aa na ca,X Af nf cf] rfl HON.o _ rfl rfl ((bL hown hb2).alloc _) _ rfl aD aA aG ?_);intro A' c' w' happ;have zb:=aS.grown (hblk2.alloc _) happ.grown (fE hown (Nat.lt_succ_self _));have zc:=zb.cell;have zf:=zb.frozen)
     refine⟨⟨n-r.length,j+1,F.app (.cons [] nd ats ks .nil),A',c',A2,m2,k2,_,hlt,by omega,by omega,congrArg (Value.int .i64) aA,by go_num,?_,by rw[bS];simp[bH,HL.o],?_,zb.set_ 3 _,ownsRow_setCell_below happ.own (Nat.lt_succ_self _) _,sF hfc hty hb2 (aS.lt hblk) hown hown2 (aP _ _) happ ?_ (by simp[World.setCell]),?_,?_⟩,by simp[intOf];omega⟩
     · rw[HST2.o,<-HRR.o.1]
     · have:=HPL.o;rw[gX];simp[cH];omega
     · intro b' hb' o;exact World.cell?_setCell_other _ _ _ _ (fun e=>by injection e with e;omega)
     · rw[gX];have hk:=oS (World.ownsRow.alloc (bL hown2 hb2) _) ((bL hown hb2).alloc _) aE happ.grown;have hk2:=ownsRow_setCell_below hk (a:=⟨w1.heap.size,3,Y⟩) (Nat.lt_succ_self _) (X A' (j+1) c');simpa[cH,bR] using hk2
     · exact ((((hbw2.trans (hb2.mono hbw2.size)).alloc aA _).grown happ.grown aG (fun g hg=>by have:=(aR hown hg).1;omega)).setCell (Nat.le_refl _) _)
  have h12b:((bD l 0).op==12)=true:=by simp[h12]
  have H12:=aB h12;clear h12;by_cases hpar:j % 2=0;rotate_left
  · have hparb:((j:Int) % 2==0)=false:=by simp;omega
    have hdd2:(ds (bD l 0)).drop j=false::(ds (bD l 0)).drop (j+1):=by rw[HDD.o,decide_eq_false (fun hh=>hpar hh.2)]
    have hst:pp ((ds (bD l 0)).drop j) (l.drop p)=(pp [false] (l.drop p)).bind fun x=>(pp ((ds (bD l 0)).drop (j+1)) x.2).map fun y=>(x.1.app y.1,y.2):=by rw[hdd2,oU]
    have HST:=aB hst;clear hdd2 hst;obtain⟨A',hcut,hT⟩:=jJ (Z ⟨b,off,Y⟩) n c p hpn1;have hT':=hT _ _ _ hwr;go_wp2_with fail;refine (HI.o wr A' (n-p) (c-p) (l.drop p) hT' aA).mono ?_;rintro e w2 ⟨hb2,hpost⟩;clear hcut hT;have hblk2:=aS.below hblk hb2 (aS.lt hblk);have hz22:=aS.below hz2' hb2 (aS.lt hz2');cases hq:pp [false] (l.drop p) with
    | none =>
     rw[hq] at hpost;obtain rfl:=hpost;have hno:pp [false] l=Y:=by rw[HPP.o,HE.o,HST.o,hq];rfl
     have HNO:=aB hno;clear hno hq;have zc2:=fun o=>aS.cell (hz22.alloc o);have zf2:=fun o=>aS.frozen (hz22.alloc o);simp only[dR];go_wp2_with fail;refine bodyPost_ret (v:=.tuple #[dR,O S 0,I false]) (cY (((((((hz22.alloc _).set_ 0 _).set_ 1 _).set_ 2 _).set_ 3 _).set_ 4 _).set_ 5 _) rfl) rfl (cU HNO.o (eK (HB0.o.trans ((hb2.trans ((aP w2 _).mono hb2.size)).mono HB0.o.size)) (Nat.le_refl _) _ _ _ _ _ _))
    | some x =>
     obtain⟨nd,ats,ks,hx⟩:=pV hq;obtain⟨x1,r⟩:=x;simp only at hx;subst hx;rw[hq] at hpost;obtain⟨ys,rfl,hty⟩:=hpost;obtain⟨sk,sa,sf,rfl,⟨Ak,nk,ck,rfl,hkk⟩,⟨Aa,na,ca,rfl,haa⟩,⟨Af,nf,cf,rfl,hff⟩⟩:=id hty;have hst2:pp (ds (bD l 0)) (l.drop 1)=(pp ((ds (bD l 0)).drop (j+1)) r).map fun y=>((F.app (.cons [] nd ats ks .nil)).app y.1,y.2):=by
      rw[HE.o,HST.o,hq,Option.bind_some,Option.map_map];simp only[Function.comp_def,dI]
     have hrr:=mL hq (by rw[h.len];exact hpn1);rw[h.len] at hrr;have hrr2:=hrr.2.1;have HST2:=aB hst2;have HRR:=aB hrr;have hlr:(l.drop p).length-r.length=(n-r.length)-p:=by rw[List.length_drop,h.len];omega
     have hlt2:=vP hq aD;rw[List.length_drop,h.len] at hlt2;simp only at hlt2;clear hst2 hq hrr;rw[hlr];clear hlr;obtain⟨i0,hi,hy0,hy1,hy2⟩:=info_parts Tryz.infoT;have HI0:=aB hi;have HY0:=aB hy0;have HY1:=aB hy1;have HY2:=aB hy2;clear hi hy0 hy1 hy2;have zc7:=fun o=>aS.cell (hblk2.alloc o);have hone:∀u ∈ [Value.int .i64 nd.op,O S nd.a,O S nd.b,X Ak nk ck,X Aa na ca,X Af nf cf],u.oneCell'=true:=by
      intro u hu;simp at hu;rcases hu with rfl | rfl | rfl | rfl | rfl | rfl<;>rfl
     have HON:=aB hone;clear hone;have hbsz:w1.heap.size+1<=w2.heap.size:=hblk2.lt;go_wp2_with (at_builtin;refine bM rfl (fX (.tmp 173) (.tmp 175) 47 rfl (w1.heap.size+1) i0 _ Tryz.underlying47 HI0.o HY0.o HY1.o HY2.o rfl (X A1 j k1) j xs [O S nd.op,O S nd.a,O S nd.b,X Ak nk ck,X Aa na ca,X Af nf cf] rfl HON.o _ rfl rfl ((bL hown hb2).alloc _) _ rfl aD aA aG ?_);intro A' c' w' happ;have zb:=aS.grown (hblk2.alloc _) happ.grown (fE hown (Nat.lt_succ_self _));have zc:=zb.cell;have zf:=zb.frozen)
     refine⟨⟨n-r.length,j+1,F.app (.cons [] nd ats ks .nil),A',c',A2,m2,k2,_,hlt,by omega,by omega,congrArg (Value.int .i64) aA,by go_num,?_,by rw[bS];simp[bH,HL.o],?_,zb.set_ 3 _,ownsRow_setCell_below happ.own (Nat.lt_succ_self _) _,sF hfc hty hb2 (aS.lt hblk) hown hown2 (aP _ _) happ ?_ (by simp[World.setCell]),?_,?_⟩,by simp[intOf];omega⟩
     · rw[HST2.o,<-HRR.o.1]
     · have:=HPL.o;rw[gX];simp[cH];omega
     · intro b' hb' o;exact World.cell?_setCell_other _ _ _ _ (fun e=>by injection e with e;omega)
     · rw[gX];have hk:=oS (World.ownsRow.alloc (bL hown2 hb2) _) ((bL hown hb2).alloc _) aE happ.grown;have hk2:=ownsRow_setCell_below hk (a:=⟨w1.heap.size,3,Y⟩) (Nat.lt_succ_self _) (X A' (j+1) c');simpa[cH,bR] using hk2
     · exact ((((hbw2.trans (hb2.mono hbw2.size)).alloc aA _).grown happ.grown aG (fun g hg=>by have:=(aR hown hg).1;omega)).setCell (Nat.le_refl _) _)
  have hparb:((j:Int) % 2==0)=true:=by simp;omega
  have hdd2:(ds (bD l 0)).drop j=true::(ds (bD l 0)).drop (j+1):=by rw[HDD.o,decide_eq_true ⟨H12.o,by omega⟩]
  by_cases hqn:p<n;rotate_left
  · have hno:pp [false] l=Y:=by rw[HPP.o,HE.o,hdd2,show pp (true::(ds (bD l 0)).drop (j+1)) (l.drop p)=Y from by rw[show l.drop p=[] from List.drop_eq_nil_of_le (by rw[h.len];omega),eV];rfl];rfl
    have HNO:=aB hno;clear hno hdd2;have zc2:=aS.cell hz2';have zf2:=aS.frozen hz2';go_wp2_with (go_at_call 63;refine (eJ _ _ _ _).mono ?_;rintro e w2 ⟨rfl,rfl⟩)
    refine bodyPost_ret (v:=.tuple #[dR,O S 0,I false]) (cY ((((((hz2'.set_ 0 _).set_ 1 _).set_ 2 _).set_ 3 _).set_ 4 _).set_ 5 _) rfl) rfl (cU HNO.o (eK HB0.o (Nat.le_refl _) _ _ _ _ _ _))
  obtain⟨_,d0,d1,d2⟩:=hwr.cells hqn;have hfn:pp (true::(ds (bD l 0)).drop (j+1)) (l.drop p)=if tW (bD l p) then (pp [false] (l.drop (p+1))).bind fun x=>(pp ((ds (bD l 0)).drop (j+1)) x.2).map fun y=>((x.1.setPre [bD l p]).app y.1,y.2) else Y:=by
   rw[jK (by rw[h.len];exact hqn),FF]
  have HFN:=aB hfn;clear hfn;by_cases h13:(bD l p).op=13;rotate_left
  · have h13b:((bD l p).op != 13)=true:=by simp[h13]
    have hno:pp [false] l=Y:=by rw[HPP.o,HE.o,hdd2,HFN.o,if_neg (by simp[tW,h13])];rfl
    have HNO:=aB hno;clear hno hdd2;have zc2:=aS.cell hz2';have zf2:=aS.frozen hz2';go_wp2_with (go_at_call 63;refine (eJ _ _ _ _).mono ?_;rintro e w2 ⟨rfl,rfl⟩)
    refine bodyPost_ret (v:=.tuple #[dR,O S 0,I false]) (cY ((((((hz2'.set_ 0 _).set_ 1 _).set_ 2 _).set_ 3 _).set_ 4 _).set_ 5 _) rfl) rfl (cU HNO.o (eK HB0.o (Nat.le_refl _) _ _ _ _ _ _))
  have h13b:((bD l p).op != 13)=false:=by simp[h13]
  have H13:=aB h13;clear h13;by_cases ha:0<=(bD l p).a/\(bD l p).a<=15;rotate_left
  · have hab:(decide (0<=(bD l p).a)&&decide ((bD l p).a<=15))=false:=by rw[Bool.and_eq_false_iff,decide_eq_false_iff_not,decide_eq_false_iff_not];omega
    have hno:pp [false] l=Y:=by rw[HPP.o,HE.o,hdd2,HFN.o,if_neg (by simp[tW,aT];omega)];rfl
    have HNO:=aB hno;clear hno hdd2;have zc2:=aS.cell hz2';have zf2:=aS.frozen hz2';go_wp2_with (go_at_call 63;refine (eJ _ _ _ _).mono ?_;rintro e w2 ⟨rfl,rfl⟩)
    refine bodyPost_ret (v:=.tuple #[dR,O S 0,I false]) (cY ((((((hz2'.set_ 0 _).set_ 1 _).set_ 2 _).set_ 3 _).set_ 4 _).set_ 5 _) rfl) rfl (cU HNO.o (eK HB0.o (Nat.le_refl _) _ _ _ _ _ _))
  obtain⟨ha1,ha2⟩:=ha;by_cases hbb:(bD l p).b=0;rotate_left
  · have hb0b:((bD l p).b != 0)=true:=by simp[hbb]
    have hno:pp [false] l=Y:=by rw[HPP.o,HE.o,hdd2,HFN.o,if_neg (by simp[tW,aT];omega)];rfl
    have HNO:=aB hno;clear hno hdd2;have zc2:=aS.cell hz2';have zf2:=aS.frozen hz2';go_wp2_with (go_at_call 63;refine (eJ _ _ _ _).mono ?_;rintro e w2 ⟨rfl,rfl⟩)
    refine bodyPost_ret (v:=.tuple #[dR,O S 0,I false]) (cY ((((((hz2'.set_ 0 _).set_ 1 _).set_ 2 _).set_ 3 _).set_ 4 _).set_ 5 _) rfl) rfl (cU HNO.o (eK HB0.o (Nat.le_refl _) _ _ _ _ _ _))
  have hb0b:((bD l p).b != 0)=false:=by simp[hbb]
  have hok3:tW (bD l p)=true:=by
   have:=H13.o;simp only[tW,Bool.and_eq_true,decide_eq_true_eq];refine⟨?_,this⟩;rw[aT];omega
  have hst:pp ((ds (bD l 0)).drop j) (l.drop p)=(pp [false] (l.drop (p+1))).bind fun x=>(pp ((ds (bD l 0)).drop (j+1)) x.2).map fun y=>((x.1.setPre [bD l p]).app y.1,y.2):=by rw[hdd2,HFN.o,if_pos hok3]
  have HST:=aB hst;clear hst hdd2 hok3 hbb;go_wp2_with (go_at_call 63;refine (eJ _ _ _ _).mono ?_;rintro e w2 ⟨rfl,rfl⟩)
  have z0b:∀(o:Obj),(wr.alloc o).cell? ⟨w1.heap.size,5,Y⟩=Z (X A2 m2 k2):=fun o=>(aS.alloc hblk o).cell 5;have z0:wr.cell? ⟨w1.heap.size,5,Y⟩=Z (X A2 m2 k2):=hblk.cell 5;obtain⟨i0,hi,hy0,hy1,hy2⟩:=info_parts Tryz.infoN;have HI0:=aB hi;have HY0:=aB hy0;have HY1:=aB hy1;have HY2:=aB hy2;clear hi hy0 hy1 hy2;have hbsz1:w1.heap.size+1<=wr.heap.size:=hblk.lt;go_region_law (refine bU rfl (cK (.tmp 151) (.tmp 156) 27 rfl (w1.heap.size+1) i0 Tryz.underlying27 HI0.o HY0.o HY1.o HY2.o (X A2 m2 k2) (cH F) (bD l p) wr.drew rfl rfl hown2 _ rfl aD (by have:=HPL.o;omega) hbsz1 ?_);intro A2' k2' wf hown2' happ;have hgrow':=happ.grown;have zb:=aS.grown (show aS wr.drew _ _ _ from hblk) hgrow' (fE hown2 (Nat.lt_succ_self _));have zc:wf.cell? ⟨w1.heap.size,5,Y⟩=Z (X A2 m2 k2):=zb.cell 5;have zf:=zb.frozen 5)
  all_goals
   have hbwq:Below w1.heap.size w1 (wf.setCell ⟨w1.heap.size,5,Y⟩ (X A2' ((cH F).length+1) k2')):=((hbw2.drew).grown happ.grown (Nat.le_of_lt hbsz1) (fun g hg=>by have:=(aR hown2 hg).1;omega)).setCell (Nat.le_refl _) _;have hwrq:=h1.below hbwq;have hblkq:=zb.set_ 5 (X A2' ((cH F).length+1) k2');have hownq:=ownsRow_setCell_below (oS (show wr.drew.ownsRow _ _ _ _ _ _ from hown) hown2 aE happ.grown) (a:=⟨w1.heap.size,5,Y⟩) (Nat.lt_succ_self _) (X A2' ((cH F).length+1) k2');have hown2q:=hown2'.setCell (a:=⟨w1.heap.size,5,Y⟩) (Nat.lt_succ_self _) (X A2' ((cH F).length+1) k2');have hfcq:=J5 hfc happ w1.heap.size 5 (X A2' ((cH F).length+1) k2') (Nat.lt_succ_self _);have hz2q:=aS.far (aS.grown (show aS wr.drew _ _ _ from hz2') happ.grown (fE hown2 aA)) (p:=⟨w1.heap.size,5,Y⟩) (Nat.ne_of_lt hsz) (X A2' ((cH F).length+1) k2');have hb0q:Below w.heap.size w (wf.setCell ⟨w1.heap.size,5,Y⟩ (X A2' ((cH F).length+1) k2')):=(aP w _).trans ((hb1.trans (hbwq.mono hb1.size)).mono aD);clear z0b z0 zc zf;obtain⟨A',hcut,hT⟩:=jJ (Z ⟨b,off,Y⟩) n c (p+1) hqn;have hT':=hT _ _ _ hwrq;simp only[Int.natCast_add,Int.cast_ofNat_Int] at hcut;go_wp2_with fail;refine (HI.o (wf.setCell ⟨w1.heap.size,5,Y⟩ (X A2' ((cH F).length+1) k2')) A' (n-(p+1)) (c-(p+1)) (l.drop (p+1)) hT' aA).mono ?_;rintro e w2 ⟨hb2,hpost⟩;clear hcut hT;have hblk2:=aS.below hblkq hb2 (aS.lt hblkq);have hz22:=aS.below hz2q hb2 (aS.lt hz2q);cases hq:pp [false] (l.drop (p+1)) with
   | none =>
    rw[hq] at hpost;obtain rfl:=hpost;have hno:pp [false] l=Y:=by rw[HPP.o,HE.o,HST.o,hq];rfl
    have HNO:=aB hno;clear hno hq;have zc2:=fun o=>aS.cell (hz22.alloc o);have zf2:=fun o=>aS.frozen (hz22.alloc o);simp only[dR];go_wp2_with fail;refine bodyPost_ret (v:=.tuple #[dR,O S 0,I false]) (cY (((((((hz22.alloc _).set_ 0 _).set_ 1 _).set_ 2 _).set_ 3 _).set_ 4 _).set_ 5 _) rfl) rfl (cU HNO.o (eK (hb0q.trans ((hb2.trans ((aP w2 _).mono hb2.size)).mono hb0q.size)) (Nat.le_refl _) _ _ _ _ _ _))
   | some x =>
    obtain⟨nd,ats,ks,hx⟩:=pV hq;obtain⟨x1,r⟩:=x;simp only at hx;subst hx;rw[hq] at hpost;obtain⟨ys,rfl,hty⟩:=hpost;obtain⟨sk,sa,sf,rfl,⟨Ak,nk,ck,rfl,hkk⟩,⟨Aa,na,ca,rfl,haa⟩,⟨Af,nf,cf,rfl,hff⟩⟩:=id hty;have hst2:pp (ds (bD l 0)) (l.drop 1)=(pp ((ds (bD l 0)).drop (j+1)) r).map fun y=>((F.app (.cons [bD l p] nd ats ks .nil)).app y.1,y.2):=by
     rw[HE.o,HST.o,hq,Option.bind_some,Option.map_map];simp only[Function.comp_def,dI];rfl
    have hrr:=mL hq (by rw[h.len];exact hqn);rw[h.len] at hrr;have hrr2:=hrr.2.1;have HST2:=aB hst2;have HRR:=aB hrr;have hlr:(l.drop (p+1)).length-r.length=(n-r.length)-(p+1):=by rw[List.length_drop,h.len];omega
    have hlt2:=vP hq aD;rw[List.length_drop,h.len] at hlt2;simp only at hlt2;clear hst2 hq hrr;rw[hlr];clear hlr;obtain⟨i0,hi,hy0,hy1,hy2⟩:=info_parts Tryz.infoT;have HI0:=aB hi;have HY0:=aB hy0;have HY1:=aB hy1;have HY2:=aB hy2;clear hi hy0 hy1 hy2;have zc7:=fun o=>aS.cell (hblk2.alloc o);have hone:∀u ∈ [Value.int .i64 nd.op,O S nd.a,O S nd.b,X Ak nk ck,X Aa na ca,X Af nf cf],u.oneCell'=true:=by
     intro u hu;simp at hu;rcases hu with rfl | rfl | rfl | rfl | rfl | rfl<;>rfl
    have HON:=aB hone;clear hone;have hbsz:w1.heap.size+1<=w2.heap.size:=hblk2.lt;go_wp2_with (at_builtin;refine bM rfl (fX (.tmp 173) (.tmp 175) 47 rfl (w1.heap.size+1) i0 _ Tryz.underlying47 HI0.o HY0.o HY1.o HY2.o rfl (X A1 j k1) j xs [O S nd.op,O S nd.a,O S nd.b,X Ak nk ck,X Aa na ca,X Af nf cf] rfl HON.o _ rfl rfl ((bL hownq hb2).alloc _) _ rfl aD aA aG ?_);intro A' c' w' happ;have zb:=aS.grown (hblk2.alloc _) happ.grown (fE hownq (Nat.lt_succ_self _));have zc:=zb.cell;have zf:=zb.frozen)
    refine⟨⟨n-r.length,j+1,F.app (.cons [bD l p] nd ats ks .nil),A',c',A2',((cH F).length+1),k2',_,hlt,by omega,by omega,congrArg (Value.int .i64) aA,by go_num,?_,by rw[bS];simp[bH,HL.o],?_,zb.set_ 3 _,ownsRow_setCell_below happ.own (Nat.lt_succ_self _) _,sF hfcq hty hb2 (aS.lt hblkq) hownq hown2q (aP _ _) happ ?_ (by simp[World.setCell]),?_,?_⟩,by simp[intOf];omega⟩
    · rw[HST2.o,<-HRR.o.1]
    · have:=HPL.o;rw[gX];simp[cH];omega
    · intro b' hb' o;exact World.cell?_setCell_other _ _ _ _ (fun e=>by injection e with e;omega)
    · rw[gX];have hk:=oS (World.ownsRow.alloc (bL hown2q hb2) _) ((bL hownq hb2).alloc _) aE happ.grown;have hk2:=ownsRow_setCell_below hk (a:=⟨w1.heap.size,3,Y⟩) (Nat.lt_succ_self _) (X A' (j+1) c');simpa[cH,bR] using hk2
    · exact ((((hbwq.trans (hb2.mono hbwq.size)).alloc aA _).grown happ.grown aG (fun g hg=>by have:=(aR hownq hg).1;omega)).setCell (Nat.le_refl _) _)
theorem LG {A:Option Addr} {n c:Nat} {l:List Nd} {w:World} (h:bB w A n c l) (hn:0<n) (hok:eE (bD l 0)=false) :
 Calls Tryz.prog 38 #[X A n c] w (hI l w):=by
 have hl:pp [false] l=Y:=KX _ (fun _=>hok);have HPP:=aB hl;clear hl;obtain⟨b,off,rfl,hb,c0,c1,c2⟩:=h.at_ hn;simp only[Nat.zero_mul,Nat.add_zero] at c0 c1 c2;have hn0:(((n:Nat):Int)==0)=false:=by simp;omega
 have hok2:eE ⟨(bD l 0).op,(bD l 0).a,(bD l 0).b⟩=false:=hok;go_in;go_wp2_with fail;refine (JN _ _ _ _ hok2).mono ?_;rintro e w1 ⟨⟨k,rfl⟩,hb1⟩;have hz2:aS w1 w.heap.size 49 #[O S 0,O S 0,O S 0,X Y 0 0,X Y 0 0,X Y 0 0]:=(aS.new _ _ _).below hb1 aD;have zc2:=aS.cell hz2;have zf2:=aS.frozen hz2;go_wp2_with fail;refine bodyPost_ret (v:=.tuple #[dR,O S 0,I false]) (cY ((((((hz2.set_ 0 _).set_ 1 _).set_ 2 _).set_ 3 _).set_ 4 _).set_ 5 _) rfl) rfl (cU HPP.o (eK ((aP w _).trans (hb1.mono aD)) (Nat.le_refl _) _ _ _ _ _ _))
theorem AP:∀(m:Nat) (w:World) (A:Option Addr) (n c:Nat) (l:List Nd),bB w A n c l->n<m->Calls Tryz.prog 38 #[X A n c] w (hI l w)
 | 0,_,_,_,_,_,_,hm=>absurd hm aA
 | m+1,w,A,n,c,l,h,hm=>by
  by_cases hn:0<n
  · cases hok:eE (bD l 0)
    · exact LG h hn hok
    by_cases h2:(bD l 0).op=2
    · have hpl:=(bE _).1 hok;obtain⟨K,hK⟩:=Int.eq_ofNat_of_zero_le (iX hpl.1).1;exact ID h hn (by simp[h2]) hok K hK
    exact IB h hn (by simp[h2]) hok (fun w A k c l' hl hk=>AP m w A k c l' hl aA)
  · obtain rfl:n=0:=aA;exact IC h
theorem AQ {A:Option Addr} {n c:Nat} {l:List Nd} {w:World} (h:bB w A n c l):Calls Tryz.prog 38 #[X A n c] w (hI l w) :=
 AP (n+1) w A n c l h (Nat.lt_succ_self _)
end Go.Proofs.YtjllmblbbgojbaaGreat
