/- Merged: Read, Read2, Read3. -/
import Derived.Test.YtplecfbdchmogaaGreatProg
import Derived.Test.YtplecfbdchmogaaGreatDBase
import Derived.Test.YtplecfbdchmogaaGreatDLeafs
import Derived.Test.YtplecfbdchmogaaGreatDKidss
import Derived.WalkKit
import Derived.WalkLawsBesides
import Derived.WalkSpells
import Derived.Lib.Hide
import Derived.Deep.QuietTactic
import Derived.BigQuiet
namespace Go.Proofs.YtplecfbdchmogaaGreat
open Go.Value renaming int → O, slice → X, bool → I
open Go.IntKind renaming i64 → S
open Option renaming none → Y, some → Z
open Go.Lib (hid)
set_option maxHeartbeats 4000000
set_option maxRecDepth 100000
section
open Go.RowKit
def dA:Value:=.agg #[O S 0,O S 0,O S 0,X Y 0 0,X Y 0 0,X Y 0 0]
def iE (l:List Nd) (w:World) (e:Ending) (w':World):Prop :=
 Below w.heap.size w w'/\match pp [false] l with
  | some (.cons _ n atoms kids _,r)=>∃ xs,e=.returned (.tuple #[.agg xs.toArray,O S ((l.length-r.length:Nat):Int),I true])/\iF (fresh w w') w' xs n atoms kids
  | _=>e=.returned (.tuple #[dA,O S 0,I false])
theorem Tryz.infoN:(Tryz.prog.info? 53).map (fun i=>(i.zero,i.size,i.bytes))=Z (Z (.agg #[O S 0,O S 0,O S 0]),3,24):=by kernel_rfl
theorem Tryz.infoT:(Tryz.prog.info? 131).map (fun i=>(i.zero,i.size,i.bytes))=Z (Z dA,6,96):=by kernel_rfl
theorem bX {l:List Nd} {w w':World} (h:pp [false] l=Y) (hb:Below w.heap.size w w'):iE l w (.returned (.tuple #[dA,O S 0,I false])) w':=by
 refine ⟨hb,?_⟩;rw [h]
theorem eJ {B g:Nat} {w w':World} (h:Below B w w') (hg:B<=g) (a b c d e f:Value):Below B w ((((((w'.setCell ⟨g,0,Y⟩ a).setCell ⟨g,1,Y⟩ b).setCell ⟨g,2,Y⟩ c).setCell ⟨g,3,Y⟩ d).setCell ⟨g,4,Y⟩ e).setCell ⟨g,5,Y⟩ f) :=
 (((((h.setCell (p:=⟨g,0,Y⟩) hg a).setCell (p:=⟨g,1,Y⟩) hg b).setCell (p:=⟨g,2,Y⟩) hg c).setCell (p:=⟨g,3,Y⟩) hg d).setCell (p:=⟨g,4,Y⟩) hg e).setCell (p:=⟨g,5,Y⟩) hg f
theorem cD {w:World} {g:Nat} {c0 c1 c2 c3 c4 c5:Value} {tmps:Array Value} (h:aE w g 131 #[c0,c1,c2,c3,c4,c5]) (ht:tmps.getD 2 undef=.pointer (Z ⟨g,0,Y⟩)) :
 (results Tryz.f123 tmps).run Tryz.prog w=.ok (.tuple #[.agg #[c0,c1,c2,c3,c4,c5],tmps.getD 3 undef,tmps.getD 4 undef]) w:=by
 have hc:=h.cell;have ht':tmps[2]?.getD undef=.pointer (Z ⟨g,0,Y⟩):=by rw [<-ht];simp
 simp [results,Tryz.results123,go_sem,ht',hc]
theorem EO {A:Option Addr} {c:Nat} {l:List Nd} {w:World} (h:aQ w A 0 c l) :
 Calls Tryz.prog 123 #[X A 0 c] w (iE l w):=by
 have hl:pp [false] l=Y:=G6 _ (fun hp=>by rw [h.len] at hp;omega);have HPP:=hid hl;clear hl;go_in;go_wp2_with fail
 refine bodyPost_ret (v:=.tuple #[dA,O S 0,I false]) (by simp [results,Tryz.results123,go_sem,dA]) rfl (bX HPP.o (aB _ _))
theorem EP {A:Option Addr} {n c:Nat} {l:List Nd} {w:World} (h:aQ w A n c l) (hn:0<n) (hop:((aL l 0).op==2)=true) (hok:iC (aL l 0)=true) (K:Nat) (hK:(aL l 0).b=K) :
 Calls Tryz.prog 123 #[X A n c] w (iE l w):=by
 have hfew:=h.few;have hK4:K<=4:=by
  simp at hop;rw [aM,aD] at hok;omega
 obtain ⟨b,off,rfl,hb,c0,c1,c2⟩:=h.at_ hn;have hpp:pp [false] l=(aU K (-1) (l.drop 1)).map fun q=>(.cons [] (aL l 0) q.1 .nil .nil,q.2):=by
  rw [CD (by rw [h.len];exact hn) hok (by simpa using hop),hK,Int.toNat_natCast]
 have HPP:=hid hpp;clear hpp;have hok2:iC ⟨(aL l 0).op,(aL l 0).a,K⟩=true:=by rw [<-hK];exact hok
 have HK:=hid hK;simp only [Nat.zero_mul,Nat.add_zero,hK] at c0 c1 c2;clear hK;have hnk:cF (aL l 0).op (K:Int)=0:=by simp at hop;simp [cF,hop]
 have hn0:(((n:Nat):Int)==0)=false:=by simp;omega
 go_in;go_wp2_with (go_at_call 140;refine (tC _ _ _ _ hok2).mono ?_;rintro e w1 ⟨rfl,hb1⟩;obtain ⟨hc1,hf1⟩:=lI hb1;have hbw:b<w1.heap.size:=by (have:=hb1.size;simp at this;omega))
 have hz2:aE w1 w.heap.size 131 #[O S 0,O S 0,O S 0,X Y 0 0,X Y 0 0,X Y 0 0]:=(aE.new _ _ _).below hb1 (by simp);have h1:aQ w1 (Z ⟨b,off,Y⟩) n c l:=(h.alloc _).below hb1;have hsz:w.heap.size<w1.heap.size:=by have:=hb1.size;simp at this;omega
 clear hc1 hf1;go_loopw [8,9] (fun a i wr=>∃ (p j:Nat) (ats:List Nd) (A0:Option Addr) (m0 k0:Nat),j<=K/\p<=n/\a=O S (p:Int)/\i=O S (j:Int)/\p=j+1 ∧
  aU K (-1) (l.drop 1)=(aU (K-j) (if j=0 then -1 else (aL l j).a) (l.drop p)).map (fun p=>(ats++p.1,p.2))/\ats.length=j ∧
  aE wr w1.heap.size 131 #[O S (aL l 0).op,O S (aL l 0).a,O S K,X Y 0 0,X A0 m0 k0,X Y 0 0] ∧
  cI wr (w1.heap.size+1) (X A0 m0 k0) ats/\Below w1.heap.size w1 wr) (fun _ i _=>K-(intOf i).toNat)
 case atStart =>
  refine ⟨1,0,[],Y,0,0,Nat.zero_le _,hn,rfl,rfl,rfl,?_,rfl,aE.new _ _ _,cI.nil _ _,aB _ _⟩;simp only [Nat.sub_zero,if_true,List.nil_append];cases aU K (-1) (l.drop 1)<;>rfl
 case round =>
  obtain ⟨p,j,ats,A0,m0,k0,hj,hpn1,rfl,rfl,hpj,he,hlen,hblk,hown,hbw2⟩:=hrel;have HP:=hid hpj;have HE:=hid he;have HL:=hid hlen;have hz2':=aE.below hz2 hbw2 hsz;have hbx:∀ (m:Nat) (x:Value),Below w.heap.size w ((((((wr.drewN m).setCell ⟨w.heap.size,0,Y⟩ (O S 0)).setCell ⟨w.heap.size,1,Y⟩ (O S 0)).setCell ⟨w.heap.size,2,Y⟩ (O S 0)).setCell ⟨w.heap.size,3,Y⟩ (X Y 0 0)).setCell ⟨w.heap.size,4,Y⟩ (X Y 0 0) |>.setCell ⟨w.heap.size,5,Y⟩ (X Y 0 0)):=fun m _ =>
   eJ (aK ((aB w _).trans ((hb1.trans (hbw2.mono hb1.size)).mono (by simp))) m) (Nat.le_refl _) _ _ _ _ _ _
  have HBW:=hid hbx;clear hbx;have hbsz:w1.heap.size+1<=wr.heap.size:=aE.lt hblk;have hwr:=h1.below hbw2;have e0:=(h1.below hbw2).cells (p:=0) hn;simp only [Nat.zero_mul,Nat.add_zero,HK.o] at e0;obtain ⟨hbr,e0,e1,e2⟩:=e0;have hprev:((p:Int)-1).toNat=j:=by rw [hpj];omega
  have hprev0:(0:Int)<=(p:Int)-1:=by rw [hpj];omega
  have HPR:=hid hprev;clear he hlen c0 c1 c2 hpj hprev;by_cases hlt:j<K;rotate_left
  · go_wp2_with fail
    refine wp_loop_once ?_;have zc7:=aE.cell hblk;have zc2:=aE.cell hz2';have zf2:=aE.frozen hz2';go_wp2_with fail
    have hval:pp [false] l=Z (.cons [] (aL l 0) ats .nil .nil,l.drop p):=by
     rw [HPP.o,HE.o,show K-j=0 from by omega];simp [aU]
    have hX:=((((((hz2'.set_ 0 (O S (aL l 0).op)).set_ 1 (O S (aL l 0).a)).set_ 2 (O S K)).set_ 3 (X Y 0 0)).set_ 4 (X A0 m0 k0)).set_ 5 (X Y 0 0));have hsl:w.heap.size<w1.heap.size+1:=aA;have hO:=(((((hown.setCell (a:=⟨w.heap.size,0,Y⟩) hsl (O S (aL l 0).op)).setCell (a:=⟨w.heap.size,1,Y⟩) hsl (O S (aL l 0).a)).setCell (a:=⟨w.heap.size,2,Y⟩) hsl (O S K)).setCell (a:=⟨w.heap.size,3,Y⟩) hsl (X Y 0 0)).setCell (a:=⟨w.heap.size,4,Y⟩) hsl (X A0 m0 k0)).setCell (a:=⟨w.heap.size,5,Y⟩) hsl (X Y 0 0);have hb0:Below w.heap.size w wr:=(aB w _).trans ((hb1.trans (hbw2.mono hb1.size)).mono (by simp));refine bodyPost_ret (v:=.tuple #[.agg #[O S (aL l 0).op,O S (aL l 0).a,O S K,X Y 0 0,X A0 m0 k0,X Y 0 0],O S p,I true]) (cD hX rfl) rfl ⟨eJ hb0 (Nat.le_refl _) _ _ _ _ _ _,?_⟩;rw [hval];refine ⟨[O S (aL l 0).op,O S (aL l 0).a,O S K,X Y 0 0,X A0 m0 k0,X Y 0 0],?_,_,_,_,by rw [HK.o],pP.nil _ _,(hO.termS (by have:=HL.o;omega)).keep fun b hb=>⟨⟨?_,?_⟩,fun _=>rfl⟩,kK.nil _ _⟩
    · rw [List.length_drop,h.len,show n-(n-p)=p from by omega]
    · have:=(aC hO hb).1;omega
    exact (aC hO hb).2.1
  by_cases hpn:p<n
  · obtain ⟨_,d0,d1,d2⟩:=hwr.cells hpn;have hge:decide (n<=p)=false:=by simp;omega
    by_cases h3:(aL l p).op=3;rotate_left
    · have h3b:((aL l p).op != 3)=true:=by simp [h3]
      have H3:=hid h3;clear h3;go_wp2_with fail
      go_quiet ((go_at_call 141;first | exact bH _ _ _ _ _ aA | exact bG _ _ _ _ _ aA))
      have zc2:=aE.cell hz2';have zf2:=aE.frozen hz2';go_wp2_with fail
      refine bodyPost_ret (v:=.tuple #[dA,O S 0,I false]) (cD ((((((((hz2'.drewN _).set_ 0 _).set_ 1 _).set_ 2 _).set_ 3 _).set_ 4 _).set_ 5 _)) rfl) rfl (bX ?_ (HBW.o _ (O S 0)));rw [HPP.o,HE.o,show K-j=(K-(j+1))+1 from by omega,f7 (fun _ hh _ _=>H3.o hh)];rfl
    have h3b:((aL l p).op != 3)=false:=by simp [h3]
    have hpl:(0<=(aL l p).a/\(aL l p).a<=16)/\(0<=(aL l p).b/\(aL l p).b<=1000)->bQ (aL l p).op (aL l p).a (aL l p).b=true:=fun hh=>by rw [aD];omega
    have hpl2:bQ (aL l p).op (aL l p).a (aL l p).b=true->(0<=(aL l p).a/\(aL l p).a<=16)/\(0<=(aL l p).b/\(aL l p).b<=1000):=fun hh=>by rw [aD] at hh;omega
    have HPL:=hid hpl;have HPL2:=hid hpl2;have H3:=hid h3;clear h3 hpl hpl2;by_cases ha:0<=(aL l p).a/\(aL l p).a<=16;rotate_left
    · go_wp2_with fail
      go_quiet ((go_at_call 141;first | exact bH _ _ _ _ _ aA | exact bG _ _ _ _ _ aA))
      have zc2:=aE.cell hz2';have zf2:=aE.frozen hz2';go_wp2_with fail
      refine bodyPost_ret (v:=.tuple #[dA,O S 0,I false]) (cD ((((((((hz2'.drewN _).set_ 0 _).set_ 1 _).set_ 2 _).set_ 3 _).set_ 4 _).set_ 5 _)) rfl) rfl (bX ?_ (HBW.o _ (O S 0)));rw [HPP.o,HE.o,show K-j=(K-(j+1))+1 from by omega,f7 (fun _ _ hh _=>ha (HPL2.o hh).1)];rfl
    by_cases hbb:0<=(aL l p).b/\(aL l p).b<=1000
    · by_cases hj0:0<j
      · obtain ⟨_,f0,f1,f2⟩:=hwr.cells (p:=j) (by have:=HP.o;omega);have hjb:decide (0<j)=true:=by simp [hj0]
        have hprev2:(p:Int)-1<n:=aA;have hprevw:IntKind.i64.wrap ((p:Int)-1)=(p:Int)-1:=IntWalk.i64_in _ aA;by_cases hla:(aL l p).a<=(aL l j).a
        · have hla1:decide ((aL l p).a<=(aL l j).a)=true:=by simp [hla]
          have hprev:=HPR.o;go_wp2_with fail
          go_quiet ((go_at_call 141;first | exact bH _ _ _ _ _ aA | exact bG _ _ _ _ _ aA))
          clear hprev hprevw hprev2;have zc2:=aE.cell hz2';have zf2:=aE.frozen hz2';go_wp2_with fail
          refine bodyPost_ret (v:=.tuple #[dA,O S 0,I false]) (cD ((((((((hz2'.drewN _).set_ 0 _).set_ 1 _).set_ 2 _).set_ 3 _).set_ 4 _).set_ 5 _)) rfl) rfl (bX ?_ (HBW.o _ (O S 0)));rw [HPP.o,HE.o,show K-j=(K-(j+1))+1 from by omega,f7 (fun _ _ _ hh=>by rw [if_neg aA] at hh;omega)];rfl
        have hla1:decide ((aL l p).a<=(aL l j).a)=false:=by simp;omega
        have hprev:=HPR.o;go_wp2_with fail
        go_quiet ((go_at_call 141;first | exact bH _ _ _ _ _ aA | exact bG _ _ _ _ _ aA))
        clear hprev hprevw hprev2;go_wp2_with fail
        have z0a:∀ (m:Nat) (o:Obj),((wr.drewN m).alloc o).cell? ⟨w1.heap.size,4,Y⟩=Z (X A0 m0 k0):=fun m o=>(aE.alloc (hblk.drewN m) o).cell 4;have z0:wr.cell? ⟨w1.heap.size,4,Y⟩=Z (X A0 m0 k0):=hblk.cell 4;obtain ⟨i0,hi,hy0,hy1,hy2⟩:=info_parts Tryz.infoN;have HI:=hid hi;have HY0:=hid hy0;have HY1:=hid hy1;have HY2:=hid hy2;clear hi hy0 hy1 hy2;go_region_law (refine kR rfl (cS (.tmp 95) (.tmp 100) 27 rfl (w1.heap.size+1) i0 Tryz.underlying27 HI.o HY0.o HY1.o HY2.o (X A0 m0 k0) ats (aL l p) _ rfl rfl hown _ rfl (by simp) (by have:=HL.o;omega) hbsz ?_);intro A' c' w' hown' happ;have hgrow':=happ.grown;have zb:=aE.grown (hblk.drewN _) hgrow' (iG hown (Nat.lt_succ_self _));have zc:w'.cell? ⟨w1.heap.size,4,Y⟩=Z (X A0 m0 k0):=zb.cell 4;have zf:=zb.frozen 4)
        all_goals
         go_wp2_with fail
         go_roundw
         case rel =>
          refine ⟨p+1,j+1,ats++[aL l p],_,_,_,hlt,hpn,by go_num,by go_num,by have:=HP.o;omega,?_,by simp [HL.o],zb.set_ 4 _,hown'.setCell (Nat.lt_succ_self _) _,((aK hbw2 _).grown hgrow' (by simp;omega) (fun g hg=>by have:=(aC hown hg).1;omega)).setCell (Nat.le_refl _) _⟩;rw [HE.o,show K-j=(K-(j+1))+1 from by omega,mH (by rw [h.len];exact hpn) H3.o (HPL.o ⟨by omega,by omega⟩) (by rw [if_neg aA];omega),if_neg aA,<-HP.o];rw [Option.map_map];congr 1;funext q;simp
         case measure=>simp [intOf];omega
      have hj0b:decide (0<j)=false:=by simp [hj0]
      go_wp2_with fail
      go_quiet ((go_at_call 141;first | exact bH _ _ _ _ _ aA | exact bG _ _ _ _ _ aA))
      go_wp2_with fail
      have z0a:∀ (m:Nat) (o:Obj),((wr.drewN m).alloc o).cell? ⟨w1.heap.size,4,Y⟩=Z (X A0 m0 k0):=fun m o=>(aE.alloc (hblk.drewN m) o).cell 4;have z0:wr.cell? ⟨w1.heap.size,4,Y⟩=Z (X A0 m0 k0):=hblk.cell 4;obtain ⟨i0,hi,hy0,hy1,hy2⟩:=info_parts Tryz.infoN;have HI:=hid hi;have HY0:=hid hy0;have HY1:=hid hy1;have HY2:=hid hy2;clear hi hy0 hy1 hy2;go_region_law (refine kR rfl (cS (.tmp 95) (.tmp 100) 27 rfl (w1.heap.size+1) i0 Tryz.underlying27 HI.o HY0.o HY1.o HY2.o (X A0 m0 k0) ats (aL l p) _ rfl rfl hown _ rfl (by simp) (by have:=HL.o;omega) hbsz ?_);intro A' c' w' hown' happ;have hgrow':=happ.grown;have zb:=aE.grown (hblk.drewN _) hgrow' (iG hown (Nat.lt_succ_self _));have zc:w'.cell? ⟨w1.heap.size,4,Y⟩=Z (X A0 m0 k0):=zb.cell 4;have zf:=zb.frozen 4)
      all_goals
       go_wp2_with fail
       go_roundw
       case rel =>
        refine ⟨p+1,j+1,ats++[aL l p],_,_,_,hlt,hpn,by go_num,by go_num,by have:=HP.o;omega,?_,by simp [HL.o],zb.set_ 4 _,hown'.setCell (Nat.lt_succ_self _) _,((aK hbw2 _).grown hgrow' (by simp;omega) (fun g hg=>by have:=(aC hown hg).1;omega)).setCell (Nat.le_refl _) _⟩;rw [HE.o,show K-j=(K-(j+1))+1 from by omega,mH (by rw [h.len];exact hpn) H3.o (HPL.o ⟨by omega,by omega⟩) (by rw [if_pos aA];omega),if_neg aA,<-HP.o];rw [Option.map_map];congr 1;funext q;simp
       case measure=>simp [intOf];omega
    go_wp2_with fail
    go_quiet ((go_at_call 141;first | exact bH _ _ _ _ _ aA | exact bG _ _ _ _ _ aA))
    have zc2:=aE.cell hz2';have zf2:=aE.frozen hz2';go_wp2_with fail
    refine bodyPost_ret (v:=.tuple #[dA,O S 0,I false]) (cD ((((((((hz2'.drewN _).set_ 0 _).set_ 1 _).set_ 2 _).set_ 3 _).set_ 4 _).set_ 5 _)) rfl) rfl (bX ?_ (HBW.o _ (O S 0)));rw [HPP.o,HE.o,show K-j=(K-(j+1))+1 from by omega,f7 (fun _ _ hh _=>hbb (HPL2.o hh).2)];rfl
  have hge:decide (n<=p)=true:=by simp;omega
  go_wp2_with fail
  go_quiet ((go_at_call 141;first | exact bH _ _ _ _ _ aA | exact bG _ _ _ _ _ aA))
  have zc2:=aE.cell hz2';have zf2:=aE.frozen hz2';go_wp2_with fail
  refine bodyPost_ret (v:=.tuple #[dA,O S 0,I false]) (cD ((((((((hz2'.drewN _).set_ 0 _).set_ 1 _).set_ 2 _).set_ 3 _).set_ 4 _).set_ 5 _)) rfl) rfl (bX ?_ (HBW.o _ (O S 0)));rw [HPP.o,HE.o,show K-j=(K-(j+1))+1 from by omega,f7 (fun hh _ _ _=>hpn (by rw [h.len] at hh;exact hh))];rfl
end
section
open Go.RowKit
def qM (B:Nat) (w:World) (u v:Value) (b:Nat):Prop:=B<=b/\b<w.heap.size/\u.ownBlock ≠ Z b/\v.ownBlock ≠ Z b
theorem rC {B:Nat} {wr w2 W w' wf:World} {e1 e2:TypeId} {s1 s2 n1 n2:Nat} {u v:Value} {x1 x2:List Value} {F:Fo} {xs ys:List Value} {nd:Nd} {ats:List Nd} {ks:Fo} {pre:List Nd} {A':Option Addr} {m c':Nat} {zs:List Value}
 (hfc:qO (qM B wr u v) wr F xs) (ht:iF (fresh wr w2) w2 ys nd ats ks) (hb:Below wr.heap.size wr w2) (hB:B<=wr.heap.size)
 (h1:wr.ownsRow B e1 s1 u n1 x1) (h2:wr.ownsRow B e2 s2 v n2 x2) (hW:Below w2.heap.size w2 W) (hap:dQ W w' B e1 s1 u A' m c' zs)
 (hwf:∀ b,B<=b->∀ o,wf.cell? ⟨b,o,Y⟩=w'.cell? ⟨b,o,Y⟩) (hws:wf.heap.size=w'.heap.size) :
 qO (qM B wf (X A' m c') v) wf (F.app (.cons pre nd ats ks .nil)) (xs++ys):=by
 have hWs:=hW.size;have hbs:=hb.size;have hgs:=hap.grown.size;have hcell:∀ b,b<w2.heap.size->B<=b->u.ownBlock ≠ Z b->∀ o,wf.cell? ⟨b,o,Y⟩=w2.cell? ⟨b,o,Y⟩:=fun b hb1 hb2 hb3 o=>by
  rw [hwf b hb2 o,World.cell?_of_block (w:=W) (hap.grown.block b aA (fun e=>hb3 e.symm)),hW.cell (p:=⟨b,o,Y⟩) hb1]
 have hnew:∀ b,b<w2.heap.size->u.ownBlock ≠ Z b->(Value.slice A' m c').ownBlock ≠ Z b:=fun b hb1 hb2 e=>by
  rcases hap.new b e with e | e
  · exact hb2 e
  omega
 refine qO.app F _ xs ys (qO.keep ?_ F xs hfc) ?_
 · rintro b ⟨hb1,hb2,hb3,hb4⟩;refine ⟨⟨hb1,by omega,hnew b aA hb3,hb4⟩,fun o => ?_⟩;rw [hcell b aA hb1 hb3,hb.cell (p:=⟨b,o,Y⟩) hb2]
 refine ⟨ys,[],by simp,ht.keep ?_,rfl⟩;rintro b ⟨hb1,hb2⟩;have hu:u.ownBlock ≠ Z b:=fun e=>by have:=(aC h1 e).2.1;omega
 have hv:v.ownBlock ≠ Z b:=fun e=>by have:=(aC h2 e).2.1;omega
 exact ⟨⟨by omega,by omega,hnew b hb2 hu,hv⟩,hcell b hb2 aA hu⟩
theorem GC {B:Nat} {wr w':World} {u v:Value} {F:Fo} {xs:List Value} {A':Option Addr} {m c' base:Nat} {e:TypeId} {sz:Nat} {zs:List Value} (hfc:qO (qM B wr u v) wr F xs) (hap:dQ wr.drew w' base e sz v A' m c' zs)
 (g i:Nat) (x:Value) (hg:g<B):qO (qM B (w'.setCell ⟨g,i,Y⟩ x) u (X A' m c')) (w'.setCell ⟨g,i,Y⟩ x) F xs:=by
 refine qO.keep ?_ F xs hfc;rintro b ⟨hb1,hb2,hb3,hb4⟩;have hs:=hap.grown.size;have hs':wr.heap.size<=w'.heap.size:=hs;refine ⟨⟨hb1,by simp [World.setCell];omega,hb3,fun hh => ?_⟩,fun o => ?_⟩
 · rcases hap.new b hh with hh | hh
   · exact hb4 hh
   have:wr.heap.size<=b:=hh;omega
 rw [World.cell?_setCell_other _ _ _ _ (fun hh=>by injection hh with hh;omega),World.cell?_of_block (w:=wr.drew) (hap.grown.block b hb2 (fun hh=>hb4 hh.symm))];rfl
theorem B6 {w:World} {base:Nat} {e:TypeId} {size:Nat} {v:Value} {n:Nat} {xs:List Value} (h:w.ownsRow base e size v n xs) {g:Nat} (hg:g<base) (a b c d x y:Value) :
 ((((((w.setCell ⟨g,0,Y⟩ a).setCell ⟨g,1,Y⟩ b).setCell ⟨g,2,Y⟩ c).setCell ⟨g,3,Y⟩ d).setCell ⟨g,4,Y⟩ x).setCell ⟨g,5,Y⟩ y).ownsRow base e size v n xs :=
 ownsRow_setCell_below (ownsRow_setCell_below (ownsRow_setCell_below (ownsRow_setCell_below (ownsRow_setCell_below (ownsRow_setCell_below h (a:=⟨g,0,Y⟩) hg a) (a:=⟨g,1,Y⟩) hg b) (a:=⟨g,2,Y⟩) hg c) (a:=⟨g,3,Y⟩) hg d) (a:=⟨g,4,Y⟩) hg x) (a:=⟨g,5,Y⟩) hg y
theorem FM (w:World) {g b':Nat} (hb:b' ≠ g) (a b c d x y:Value) (o:Nat) :
 ((((((w.setCell ⟨g,0,Y⟩ a).setCell ⟨g,1,Y⟩ b).setCell ⟨g,2,Y⟩ c).setCell ⟨g,3,Y⟩ d).setCell ⟨g,4,Y⟩ x).setCell ⟨g,5,Y⟩ y).cell? ⟨b',o,Y⟩=w.cell? ⟨b',o,Y⟩:=by
 have hne:∀ i,(⟨g,i,Y⟩:Addr) ≠ ⟨b',o,Y⟩:=fun i hh=>by injection hh with hh;exact hb hh.symm
 rw [World.cell?_setCell_other _ _ _ _ (hne 5),World.cell?_setCell_other _ _ _ _ (hne 4),World.cell?_setCell_other _ _ _ _ (hne 3),World.cell?_setCell_other _ _ _ _ (hne 2),World.cell?_setCell_other _ _ _ _ (hne 1),World.cell?_setCell_other _ _ _ _ (hne 0)]
theorem EN {A:Option Addr} {n c:Nat} {l:List Nd} {w:World} (h:aQ w A n c l) (hn:0<n) (hop:((aL l 0).op==2)=false) (hok:iC (aL l 0)=true)
 (ih:∀ (w:World) (A:Option Addr) (m c:Nat) (l':List Nd),aQ w A m c l'->m<n->Calls Tryz.prog 123 #[X A m c] w (iE l' w)) :
 Calls Tryz.prog 123 #[X A n c] w (iE l w):=by
 have hfew:=h.few;have HI:=hid ih;have hpp:pp [false] l=(pp (ds (aL l 0)) (l.drop 1)).map fun q=>(.cons [] (aL l 0) [] q.1 .nil,q.2):=CC (by rw [h.len];exact hn) hok (by simpa using hop);have HPP:=hid hpp;clear hpp ih;obtain ⟨hk0,hk18⟩:=K0 hok;obtain ⟨K,hK⟩:=Int.eq_ofNat_of_zero_le hk0;have hK18:K<=18:=aA;have hdl:(ds (aL l 0)).length=K:=by rw [KV hok,hK];rfl
 have HDL:=hid hdl;clear hk0 hk18 hdl;obtain ⟨b,off,rfl,hb,c0,c1,c2⟩:=h.at_ hn;simp only [Nat.zero_mul,Nat.add_zero] at c0 c1 c2;have hok2:iC ⟨(aL l 0).op,(aL l 0).a,(aL l 0).b⟩=true:=hok;have hn0:(((n:Nat):Int)==0)=false:=by simp;omega
 go_in;go_wp2_with (go_at_call 140;refine (tC _ _ _ _ hok2).mono ?_;rintro e w1 ⟨rfl,hb1⟩;obtain ⟨hc1,hf1⟩:=lI hb1;have hbw:b<w1.heap.size:=by (have:=hb1.size;simp at this;omega))
 have hz2:aE w1 w.heap.size 131 #[O S 0,O S 0,O S 0,X Y 0 0,X Y 0 0,X Y 0 0]:=(aE.new _ _ _).below hb1 (by simp);have h1:aQ w1 (Z ⟨b,off,Y⟩) n c l:=(h.alloc _).below hb1;have hsz:w.heap.size<w1.heap.size:=by have:=hb1.size;simp at this;omega
 clear hc1 hf1;go_loopw [8,10] (fun a i wr=>∃ (p j:Nat) (F:Fo) (A1:Option Addr) (k1:Nat) (A2:Option Addr) (m2 k2:Nat) (xs:List Value),j<=K/\p<=n/\1<=p/\a=O S (p:Int)/\i=O S (j:Int) ∧
  pp (ds (aL l 0)) (l.drop 1)=(pp ((ds (aL l 0)).drop j) (l.drop p)).map (fun y=>(F.app y.1,y.2))/\dL F=j/\(fG F).length<=j ∧
  aE wr w1.heap.size 131 #[O S (aL l 0).op,O S (aL l 0).a,O S (aL l 0).b,X A1 j k1,X Y 0 0,X A2 m2 k2] ∧
  wr.ownsRow (w1.heap.size+1) 131 6 (X A1 j k1) j xs/\qO (qM (w1.heap.size+1) wr (X A1 j k1) (X A2 m2 k2)) wr F xs ∧
  cI wr (w1.heap.size+1) (X A2 m2 k2) (fG F)/\Below w1.heap.size w1 wr) (fun _ i _=>K-(intOf i).toNat)
 case atStart =>
  refine ⟨1,0,.nil,Y,0,Y,0,0,[],Nat.zero_le _,hn,Nat.le_refl _,rfl,rfl,?_,rfl,Nat.zero_le _,aE.new _ _ _,World.ownsRow_nil _ _ _ _,rfl,cI.nil _ _,aB _ _⟩;simp only [List.drop_zero,Fo.app];cases pp (ds (aL l 0)) (l.drop 1)<;>rfl
 case round =>
  obtain ⟨p,j,F,A1,k1,A2,m2,k2,xs,hj,hpn1,hp1,rfl,rfl,he,hlen,hpl,hblk,hown,hfc,hown2,hbw2⟩:=hrel;have HE:=hid he;have HL:=hid hlen;have HPL:=hid hpl;have hz2':=aE.below hz2 hbw2 hsz;have hwr:=h1.below hbw2;have e0:=(h1.below hbw2).cells (p:=0) hn;simp only [Nat.zero_mul,Nat.add_zero] at e0;obtain ⟨hbr,e0,e1,e2⟩:=e0;have hb0:Below w.heap.size w wr:=(aB w _).trans ((hb1.trans (hbw2.mono hb1.size)).mono (by simp));have HB0:=hid hb0;clear he hlen c0 c1 c2 hpl hb0;by_cases hlt:j<K;rotate_left
  · obtain rfl:j=K:=aA;have zc7:=aE.cell hblk;have zc2:=aE.cell hz2';have zf2:=aE.frozen hz2';go_wp2_with fail
    have hval:pp [false] l=Z (.cons [] (aL l 0) [] F .nil,l.drop p):=by
     rw [HPP.o,HE.o,List.drop_of_length_le (by rw [HDL.o];omega),kG];simp [uG]
    have hsl:w.heap.size<w1.heap.size+1:=aA;have hO:=B6 hown hsl (O S (aL l 0).op) (O S (aL l 0).a) (O S (aL l 0).b) (X A1 j k1) (X Y 0 0) (X A2 m2 k2);have hO2:cI _ _ _ _:=B6 hown2 hsl (O S (aL l 0).op) (O S (aL l 0).a) (O S (aL l 0).b) (X A1 j k1) (X Y 0 0) (X A2 m2 k2);refine bodyPost_ret (v:=.tuple #[.agg #[O S (aL l 0).op,O S (aL l 0).a,O S (aL l 0).b,X A1 j k1,X Y 0 0,X A2 m2 k2],O S p,I true]) (cD ((((((hz2'.set_ 0 _).set_ 1 _).set_ 2 _).set_ 3 _).set_ 4 _).set_ 5 _) rfl) rfl ⟨eJ HB0.o (Nat.le_refl _) _ _ _ _ _ _,?_⟩;rw [hval];refine ⟨[O S (aL l 0).op,O S (aL l 0).a,O S (aL l 0).b,X A1 j k1,X Y 0 0,X A2 m2 k2],?_,_,_,_,rfl,wU (by rw [HL.o];exact hO) (hfc.keep ?_) ?_,kK.nil _ _,(hO2.termS (by have:=HPL.o;omega)).keep fun b hb=>⟨⟨?_,?_⟩,fun _=>rfl⟩⟩
    · rw [List.length_drop,h.len,show n-(n-p)=p from by omega]
    · rintro b' ⟨hb1',hb2',_,_⟩;refine ⟨⟨by omega,by simp [World.setCell];exact hb2'⟩,fun o => ?_⟩;exact FM wr (Nat.ne_of_gt (by omega:w.heap.size<b')) _ _ _ _ _ _ o
    · intro b' hb';exact ⟨by have:=(aC hO hb').1;omega,(aC hO hb').2.1⟩
    · have:=(aC hO2 hb).1;omega
    exact (aC hO2 hb).2.1
  have hdd:(ds (aL l 0)).drop j=decide ((aL l 0).op=12/\j % 2=0)::(ds (aL l 0)).drop (j+1):=I2 (by rw [HDL.o];exact hlt);have HDD:=hid hdd;clear hdd;by_cases h12:(aL l 0).op=12;rotate_left
  · have h12b:((aL l 0).op==12)=false:=by simp [h12]
    have H12:=hid h12;clear h12;have hdd2:(ds (aL l 0)).drop j=false::(ds (aL l 0)).drop (j+1):=by rw [HDD.o,decide_eq_false (fun hh=>H12.o hh.1)]
    have hst:pp ((ds (aL l 0)).drop j) (l.drop p)=(pp [false] (l.drop p)).bind fun x=>(pp ((ds (aL l 0)).drop (j+1)) x.2).map fun y=>(x.1.app y.1,y.2):=by rw [hdd2,oP]
    have HST:=hid hst;clear hdd2 hst;obtain ⟨A',hcut,hT⟩:=qY (Z ⟨b,off,Y⟩) n c p hpn1;have hT':=hT _ _ _ hwr;go_wp2_with fail
    refine (HI.o wr A' (n-p) (c-p) (l.drop p) hT' aA).mono ?_;rintro e w2 ⟨hb2,hpost⟩;clear hcut hT;have hblk2:=aE.below hblk hb2 (aE.lt hblk);have hz22:=aE.below hz2' hb2 (aE.lt hz2');cases hq:pp [false] (l.drop p) with
    | none =>
     rw [hq] at hpost;obtain rfl:=hpost;have hno:pp [false] l=Y:=by rw [HPP.o,HE.o,HST.o,hq];rfl
     have HNO:=hid hno;clear hno hq;have zc2:=fun o=>aE.cell (hz22.alloc o);have zf2:=fun o=>aE.frozen (hz22.alloc o);simp only [dA];go_wp2_with fail
     refine bodyPost_ret (v:=.tuple #[dA,O S 0,I false]) (cD (((((((hz22.alloc _).set_ 0 _).set_ 1 _).set_ 2 _).set_ 3 _).set_ 4 _).set_ 5 _) rfl) rfl (bX HNO.o (eJ (HB0.o.trans ((hb2.trans ((aB w2 _).mono hb2.size)).mono HB0.o.size)) (Nat.le_refl _) _ _ _ _ _ _))
    | some x =>
     obtain ⟨nd,ats,ks,hx⟩:=pH hq;obtain ⟨x1,r⟩:=x;simp only at hx;subst hx;rw [hq] at hpost;obtain ⟨ys,rfl,hty⟩:=hpost;obtain ⟨sk,sa,sf,rfl,⟨Ak,nk,ck,rfl,hkk⟩,⟨Aa,na,ca,rfl,haa⟩,⟨Af,nf,cf,rfl,hff⟩⟩:=id hty;have hst2:pp (ds (aL l 0)) (l.drop 1)=(pp ((ds (aL l 0)).drop (j+1)) r).map fun y=>((F.app (.cons [] nd ats ks .nil)).app y.1,y.2):=by
      rw [HE.o,HST.o,hq,Option.bind_some,Option.map_map];simp only [Function.comp_def,gY]
     have hrr:=mQ hq (by rw [h.len];exact hpn1);rw [h.len] at hrr;have hrr2:=hrr.2.1;have HST2:=hid hst2;have HRR:=hid hrr;have hlr:(l.drop p).length-r.length=(n-r.length)-p:=by rw [List.length_drop,h.len];omega
     have hlt2:=tR hq (by simp);rw [List.length_drop,h.len] at hlt2;simp only at hlt2;clear hst2 hq hrr;rw [hlr];clear hlr;obtain ⟨i0,hi,hy0,hy1,hy2⟩:=info_parts Tryz.infoT;have HI0:=hid hi;have HY0:=hid hy0;have HY1:=hid hy1;have HY2:=hid hy2;clear hi hy0 hy1 hy2;have zc7:=fun o=>aE.cell (hblk2.alloc o);have hone:∀ u ∈ [Value.int .i64 nd.op,O S nd.a,O S nd.b,X Ak nk ck,X Aa na ca,X Af nf cf],u.oneCell'=true:=by
      intro u hu;simp at hu;rcases hu with rfl | rfl | rfl | rfl | rfl | rfl<;>rfl
     have HON:=hid hone;clear hone;have hbsz:w1.heap.size+1<=w2.heap.size:=hblk2.lt;go_wp2_with (at_builtin;refine aN rfl (iR (.tmp 173) (.tmp 175) 129 rfl (w1.heap.size+1) i0 _ Tryz.underlying129 HI0.o HY0.o HY1.o HY2.o rfl (X A1 j k1) j xs [O S nd.op,O S nd.a,O S nd.b,X Ak nk ck,X Aa na ca,X Af nf cf] rfl HON.o _ rfl rfl ((fD hown hb2).alloc _) _ rfl (by simp) aA (by simp;omega) ?_);intro A' c' w' happ;have zb:=aE.grown (hblk2.alloc _) happ.grown (iG hown (Nat.lt_succ_self _));have zc:=zb.cell;have zf:=zb.frozen)
     refine ⟨⟨n-r.length,j+1,F.app (.cons [] nd ats ks .nil),A',c',A2,m2,k2,_,hlt,by omega,by omega,congrArg (Value.int .i64) aA,by go_num,?_,by rw [fC];simp [dL,HL.o],?_,zb.set_ 3 _,ownsRow_setCell_below happ.own (Nat.lt_succ_self _) _,rC hfc hty hb2 (aE.lt hblk) hown hown2 (aB _ _) happ ?_ (by simp [World.setCell]),?_,?_⟩,by simp [intOf];omega⟩
     · rw [HST2.o,<-HRR.o.1]
     · have:=HPL.o;rw [iT];simp [fG];omega
     · intro b' hb' o;exact World.cell?_setCell_other _ _ _ _ (fun e=>by injection e with e;omega)
     · rw [iT];have hk:=oM (World.ownsRow.alloc (fD hown2 hb2) _) ((fD hown hb2).alloc _) (by decide) happ.grown;have hk2:=ownsRow_setCell_below hk (a:=⟨w1.heap.size,3,Y⟩) (Nat.lt_succ_self _) (X A' (j+1) c');simpa [fG,cI] using hk2
     · exact ((((hbw2.trans (hb2.mono hbw2.size)).alloc aA _).grown happ.grown (by simp;omega) (fun g hg=>by have:=(aC hown hg).1;omega)).setCell (Nat.le_refl _) _)
  have h12b:((aL l 0).op==12)=true:=by simp [h12]
  have H12:=hid h12;clear h12;by_cases hpar:j % 2=0;rotate_left
  · have hparb:((j:Int) % 2==0)=false:=by simp;omega
    have hdd2:(ds (aL l 0)).drop j=false::(ds (aL l 0)).drop (j+1):=by rw [HDD.o,decide_eq_false (fun hh=>hpar hh.2)]
    have hst:pp ((ds (aL l 0)).drop j) (l.drop p)=(pp [false] (l.drop p)).bind fun x=>(pp ((ds (aL l 0)).drop (j+1)) x.2).map fun y=>(x.1.app y.1,y.2):=by rw [hdd2,oP]
    have HST:=hid hst;clear hdd2 hst;obtain ⟨A',hcut,hT⟩:=qY (Z ⟨b,off,Y⟩) n c p hpn1;have hT':=hT _ _ _ hwr;go_wp2_with fail
    refine (HI.o wr A' (n-p) (c-p) (l.drop p) hT' aA).mono ?_;rintro e w2 ⟨hb2,hpost⟩;clear hcut hT;have hblk2:=aE.below hblk hb2 (aE.lt hblk);have hz22:=aE.below hz2' hb2 (aE.lt hz2');cases hq:pp [false] (l.drop p) with
    | none =>
     rw [hq] at hpost;obtain rfl:=hpost;have hno:pp [false] l=Y:=by rw [HPP.o,HE.o,HST.o,hq];rfl
     have HNO:=hid hno;clear hno hq;have zc2:=fun o=>aE.cell (hz22.alloc o);have zf2:=fun o=>aE.frozen (hz22.alloc o);simp only [dA];go_wp2_with fail
     refine bodyPost_ret (v:=.tuple #[dA,O S 0,I false]) (cD (((((((hz22.alloc _).set_ 0 _).set_ 1 _).set_ 2 _).set_ 3 _).set_ 4 _).set_ 5 _) rfl) rfl (bX HNO.o (eJ (HB0.o.trans ((hb2.trans ((aB w2 _).mono hb2.size)).mono HB0.o.size)) (Nat.le_refl _) _ _ _ _ _ _))
    | some x =>
     obtain ⟨nd,ats,ks,hx⟩:=pH hq;obtain ⟨x1,r⟩:=x;simp only at hx;subst hx;rw [hq] at hpost;obtain ⟨ys,rfl,hty⟩:=hpost;obtain ⟨sk,sa,sf,rfl,⟨Ak,nk,ck,rfl,hkk⟩,⟨Aa,na,ca,rfl,haa⟩,⟨Af,nf,cf,rfl,hff⟩⟩:=id hty;have hst2:pp (ds (aL l 0)) (l.drop 1)=(pp ((ds (aL l 0)).drop (j+1)) r).map fun y=>((F.app (.cons [] nd ats ks .nil)).app y.1,y.2):=by
      rw [HE.o,HST.o,hq,Option.bind_some,Option.map_map];simp only [Function.comp_def,gY]
     have hrr:=mQ hq (by rw [h.len];exact hpn1);rw [h.len] at hrr;have hrr2:=hrr.2.1;have HST2:=hid hst2;have HRR:=hid hrr;have hlr:(l.drop p).length-r.length=(n-r.length)-p:=by rw [List.length_drop,h.len];omega
     have hlt2:=tR hq (by simp);rw [List.length_drop,h.len] at hlt2;simp only at hlt2;clear hst2 hq hrr;rw [hlr];clear hlr;obtain ⟨i0,hi,hy0,hy1,hy2⟩:=info_parts Tryz.infoT;have HI0:=hid hi;have HY0:=hid hy0;have HY1:=hid hy1;have HY2:=hid hy2;clear hi hy0 hy1 hy2;have zc7:=fun o=>aE.cell (hblk2.alloc o);have hone:∀ u ∈ [Value.int .i64 nd.op,O S nd.a,O S nd.b,X Ak nk ck,X Aa na ca,X Af nf cf],u.oneCell'=true:=by
      intro u hu;simp at hu;rcases hu with rfl | rfl | rfl | rfl | rfl | rfl<;>rfl
     have HON:=hid hone;clear hone;have hbsz:w1.heap.size+1<=w2.heap.size:=hblk2.lt;go_wp2_with (at_builtin;refine aN rfl (iR (.tmp 173) (.tmp 175) 129 rfl (w1.heap.size+1) i0 _ Tryz.underlying129 HI0.o HY0.o HY1.o HY2.o rfl (X A1 j k1) j xs [O S nd.op,O S nd.a,O S nd.b,X Ak nk ck,X Aa na ca,X Af nf cf] rfl HON.o _ rfl rfl ((fD hown hb2).alloc _) _ rfl (by simp) aA (by simp;omega) ?_);intro A' c' w' happ;have zb:=aE.grown (hblk2.alloc _) happ.grown (iG hown (Nat.lt_succ_self _));have zc:=zb.cell;have zf:=zb.frozen)
     refine ⟨⟨n-r.length,j+1,F.app (.cons [] nd ats ks .nil),A',c',A2,m2,k2,_,hlt,by omega,by omega,congrArg (Value.int .i64) aA,by go_num,?_,by rw [fC];simp [dL,HL.o],?_,zb.set_ 3 _,ownsRow_setCell_below happ.own (Nat.lt_succ_self _) _,rC hfc hty hb2 (aE.lt hblk) hown hown2 (aB _ _) happ ?_ (by simp [World.setCell]),?_,?_⟩,by simp [intOf];omega⟩
     · rw [HST2.o,<-HRR.o.1]
     · have:=HPL.o;rw [iT];simp [fG];omega
     · intro b' hb' o;exact World.cell?_setCell_other _ _ _ _ (fun e=>by injection e with e;omega)
     · rw [iT];have hk:=oM (World.ownsRow.alloc (fD hown2 hb2) _) ((fD hown hb2).alloc _) (by decide) happ.grown;have hk2:=ownsRow_setCell_below hk (a:=⟨w1.heap.size,3,Y⟩) (Nat.lt_succ_self _) (X A' (j+1) c');simpa [fG,cI] using hk2
     · exact ((((hbw2.trans (hb2.mono hbw2.size)).alloc aA _).grown happ.grown (by simp;omega) (fun g hg=>by have:=(aC hown hg).1;omega)).setCell (Nat.le_refl _) _)
  have hparb:((j:Int) % 2==0)=true:=by simp;omega
  have hdd2:(ds (aL l 0)).drop j=true::(ds (aL l 0)).drop (j+1):=by rw [HDD.o,decide_eq_true ⟨H12.o,by omega⟩]
  by_cases hqn:p<n;rotate_left
  · have hno:pp [false] l=Y:=by rw [HPP.o,HE.o,hdd2,show pp (true::(ds (aL l 0)).drop (j+1)) (l.drop p)=Y from by rw [show l.drop p=[] from List.drop_eq_nil_of_le (by rw [h.len];omega),eG];rfl];rfl
    have HNO:=hid hno;clear hno hdd2;have zc2:=aE.cell hz2';have zf2:=aE.frozen hz2';go_wp2_with (go_at_call 141;refine (dO _ _ _ _).mono ?_;rintro e w2 ⟨rfl,rfl⟩)
    refine bodyPost_ret (v:=.tuple #[dA,O S 0,I false]) (cD ((((((hz2'.set_ 0 _).set_ 1 _).set_ 2 _).set_ 3 _).set_ 4 _).set_ 5 _) rfl) rfl (bX HNO.o (eJ HB0.o (Nat.le_refl _) _ _ _ _ _ _))
  obtain ⟨_,d0,d1,d2⟩:=hwr.cells hqn;have hfn:pp (true::(ds (aL l 0)).drop (j+1)) (l.drop p)=if tN (aL l p) then (pp [false] (l.drop (p+1))).bind fun x=>(pp ((ds (aL l 0)).drop (j+1)) x.2).map fun y=>((x.1.setPre [aL l p]).app y.1,y.2) else Y:=by
   rw [jR (by rw [h.len];exact hqn),CE]
  have HFN:=hid hfn;clear hfn;by_cases h13:(aL l p).op=13;rotate_left
  · have h13b:((aL l p).op != 13)=true:=by simp [h13]
    have hno:pp [false] l=Y:=by rw [HPP.o,HE.o,hdd2,HFN.o,if_neg (by simp [tN,h13])];rfl
    have HNO:=hid hno;clear hno hdd2;have zc2:=aE.cell hz2';have zf2:=aE.frozen hz2';go_wp2_with (go_at_call 141;refine (dO _ _ _ _).mono ?_;rintro e w2 ⟨rfl,rfl⟩)
    refine bodyPost_ret (v:=.tuple #[dA,O S 0,I false]) (cD ((((((hz2'.set_ 0 _).set_ 1 _).set_ 2 _).set_ 3 _).set_ 4 _).set_ 5 _) rfl) rfl (bX HNO.o (eJ HB0.o (Nat.le_refl _) _ _ _ _ _ _))
  have h13b:((aL l p).op != 13)=false:=by simp [h13]
  have H13:=hid h13;clear h13;by_cases ha:0<=(aL l p).a/\(aL l p).a<=15;rotate_left
  · have hab:(decide (0<=(aL l p).a)&&decide ((aL l p).a<=15))=false:=by rw [Bool.and_eq_false_iff,decide_eq_false_iff_not,decide_eq_false_iff_not];omega
    have hno:pp [false] l=Y:=by rw [HPP.o,HE.o,hdd2,HFN.o,if_neg (by simp [tN,aD];omega)];rfl
    have HNO:=hid hno;clear hno hdd2;have zc2:=aE.cell hz2';have zf2:=aE.frozen hz2';go_wp2_with (go_at_call 141;refine (dO _ _ _ _).mono ?_;rintro e w2 ⟨rfl,rfl⟩)
    refine bodyPost_ret (v:=.tuple #[dA,O S 0,I false]) (cD ((((((hz2'.set_ 0 _).set_ 1 _).set_ 2 _).set_ 3 _).set_ 4 _).set_ 5 _) rfl) rfl (bX HNO.o (eJ HB0.o (Nat.le_refl _) _ _ _ _ _ _))
  obtain ⟨ha1,ha2⟩:=ha;by_cases hbb:(aL l p).b=0;rotate_left
  · have hb0b:((aL l p).b != 0)=true:=by simp [hbb]
    have hno:pp [false] l=Y:=by rw [HPP.o,HE.o,hdd2,HFN.o,if_neg (by simp [tN,aD];omega)];rfl
    have HNO:=hid hno;clear hno hdd2;have zc2:=aE.cell hz2';have zf2:=aE.frozen hz2';go_wp2_with (go_at_call 141;refine (dO _ _ _ _).mono ?_;rintro e w2 ⟨rfl,rfl⟩)
    refine bodyPost_ret (v:=.tuple #[dA,O S 0,I false]) (cD ((((((hz2'.set_ 0 _).set_ 1 _).set_ 2 _).set_ 3 _).set_ 4 _).set_ 5 _) rfl) rfl (bX HNO.o (eJ HB0.o (Nat.le_refl _) _ _ _ _ _ _))
  have hb0b:((aL l p).b != 0)=false:=by simp [hbb]
  have hok3:tN (aL l p)=true:=by
   have:=H13.o;simp only [tN,Bool.and_eq_true,decide_eq_true_eq];refine ⟨?_,this⟩;rw [aD];omega
  have hst:pp ((ds (aL l 0)).drop j) (l.drop p)=(pp [false] (l.drop (p+1))).bind fun x=>(pp ((ds (aL l 0)).drop (j+1)) x.2).map fun y=>((x.1.setPre [aL l p]).app y.1,y.2):=by rw [hdd2,HFN.o,if_pos hok3]
  have HST:=hid hst;clear hst hdd2 hok3 hbb;go_wp2_with (go_at_call 141;refine (dO _ _ _ _).mono ?_;rintro e w2 ⟨rfl,rfl⟩)
  have z0b:∀ (o:Obj),(wr.alloc o).cell? ⟨w1.heap.size,5,Y⟩=Z (X A2 m2 k2):=fun o=>(aE.alloc hblk o).cell 5;have z0:wr.cell? ⟨w1.heap.size,5,Y⟩=Z (X A2 m2 k2):=hblk.cell 5;obtain ⟨i0,hi,hy0,hy1,hy2⟩:=info_parts Tryz.infoN;have HI0:=hid hi;have HY0:=hid hy0;have HY1:=hid hy1;have HY2:=hid hy2;clear hi hy0 hy1 hy2;have hbsz1:w1.heap.size+1<=wr.heap.size:=hblk.lt;go_region_law (refine kR rfl (cS (.tmp 151) (.tmp 156) 27 rfl (w1.heap.size+1) i0 Tryz.underlying27 HI0.o HY0.o HY1.o HY2.o (X A2 m2 k2) (fG F) (aL l p) wr.drew rfl rfl hown2 _ rfl (by simp) (by have:=HPL.o;omega) hbsz1 ?_);intro A2' k2' wf hown2' happ;have hgrow':=happ.grown;have zb:=aE.grown (show aE wr.drew _ _ _ from hblk) hgrow' (iG hown2 (Nat.lt_succ_self _));have zc:wf.cell? ⟨w1.heap.size,5,Y⟩=Z (X A2 m2 k2):=zb.cell 5;have zf:=zb.frozen 5)
  all_goals
   have hbwq:Below w1.heap.size w1 (wf.setCell ⟨w1.heap.size,5,Y⟩ (X A2' ((fG F).length+1) k2')):=((hbw2.drew).grown happ.grown (Nat.le_of_lt hbsz1) (fun g hg=>by have:=(aC hown2 hg).1;omega)).setCell (Nat.le_refl _) _;have hwrq:=h1.below hbwq;have hblkq:=zb.set_ 5 (X A2' ((fG F).length+1) k2');have hownq:=ownsRow_setCell_below (oM (show wr.drew.ownsRow _ _ _ _ _ _ from hown) hown2 (by decide) happ.grown) (a:=⟨w1.heap.size,5,Y⟩) (Nat.lt_succ_self _) (X A2' ((fG F).length+1) k2');have hown2q:=hown2'.setCell (a:=⟨w1.heap.size,5,Y⟩) (Nat.lt_succ_self _) (X A2' ((fG F).length+1) k2');have hfcq:=GC hfc happ w1.heap.size 5 (X A2' ((fG F).length+1) k2') (Nat.lt_succ_self _);have hz2q:=aE.far (aE.grown (show aE wr.drew _ _ _ from hz2') happ.grown (iG hown2 aA)) (p:=⟨w1.heap.size,5,Y⟩) (Nat.ne_of_lt hsz) (X A2' ((fG F).length+1) k2');have hb0q:Below w.heap.size w (wf.setCell ⟨w1.heap.size,5,Y⟩ (X A2' ((fG F).length+1) k2')):=(aB w _).trans ((hb1.trans (hbwq.mono hb1.size)).mono (by simp));clear z0b z0 zc zf;obtain ⟨A',hcut,hT⟩:=qY (Z ⟨b,off,Y⟩) n c (p+1) hqn;have hT':=hT _ _ _ hwrq;simp only [Int.natCast_add,Int.cast_ofNat_Int] at hcut;go_wp2_with fail
   refine (HI.o (wf.setCell ⟨w1.heap.size,5,Y⟩ (X A2' ((fG F).length+1) k2')) A' (n-(p+1)) (c-(p+1)) (l.drop (p+1)) hT' aA).mono ?_;rintro e w2 ⟨hb2,hpost⟩;clear hcut hT;have hblk2:=aE.below hblkq hb2 (aE.lt hblkq);have hz22:=aE.below hz2q hb2 (aE.lt hz2q);cases hq:pp [false] (l.drop (p+1)) with
   | none =>
    rw [hq] at hpost;obtain rfl:=hpost;have hno:pp [false] l=Y:=by rw [HPP.o,HE.o,HST.o,hq];rfl
    have HNO:=hid hno;clear hno hq;have zc2:=fun o=>aE.cell (hz22.alloc o);have zf2:=fun o=>aE.frozen (hz22.alloc o);simp only [dA];go_wp2_with fail
    refine bodyPost_ret (v:=.tuple #[dA,O S 0,I false]) (cD (((((((hz22.alloc _).set_ 0 _).set_ 1 _).set_ 2 _).set_ 3 _).set_ 4 _).set_ 5 _) rfl) rfl (bX HNO.o (eJ (hb0q.trans ((hb2.trans ((aB w2 _).mono hb2.size)).mono hb0q.size)) (Nat.le_refl _) _ _ _ _ _ _))
   | some x =>
    obtain ⟨nd,ats,ks,hx⟩:=pH hq;obtain ⟨x1,r⟩:=x;simp only at hx;subst hx;rw [hq] at hpost;obtain ⟨ys,rfl,hty⟩:=hpost;obtain ⟨sk,sa,sf,rfl,⟨Ak,nk,ck,rfl,hkk⟩,⟨Aa,na,ca,rfl,haa⟩,⟨Af,nf,cf,rfl,hff⟩⟩:=id hty;have hst2:pp (ds (aL l 0)) (l.drop 1)=(pp ((ds (aL l 0)).drop (j+1)) r).map fun y=>((F.app (.cons [aL l p] nd ats ks .nil)).app y.1,y.2):=by
     rw [HE.o,HST.o,hq,Option.bind_some,Option.map_map];simp only [Function.comp_def,gY];rfl
    have hrr:=mQ hq (by rw [h.len];exact hqn);rw [h.len] at hrr;have hrr2:=hrr.2.1;have HST2:=hid hst2;have HRR:=hid hrr;have hlr:(l.drop (p+1)).length-r.length=(n-r.length)-(p+1):=by rw [List.length_drop,h.len];omega
    have hlt2:=tR hq (by simp);rw [List.length_drop,h.len] at hlt2;simp only at hlt2;clear hst2 hq hrr;rw [hlr];clear hlr;obtain ⟨i0,hi,hy0,hy1,hy2⟩:=info_parts Tryz.infoT;have HI0:=hid hi;have HY0:=hid hy0;have HY1:=hid hy1;have HY2:=hid hy2;clear hi hy0 hy1 hy2;have zc7:=fun o=>aE.cell (hblk2.alloc o);have hone:∀ u ∈ [Value.int .i64 nd.op,O S nd.a,O S nd.b,X Ak nk ck,X Aa na ca,X Af nf cf],u.oneCell'=true:=by
     intro u hu;simp at hu;rcases hu with rfl | rfl | rfl | rfl | rfl | rfl<;>rfl
    have HON:=hid hone;clear hone;have hbsz:w1.heap.size+1<=w2.heap.size:=hblk2.lt;go_wp2_with (at_builtin;refine aN rfl (iR (.tmp 173) (.tmp 175) 129 rfl (w1.heap.size+1) i0 _ Tryz.underlying129 HI0.o HY0.o HY1.o HY2.o rfl (X A1 j k1) j xs [O S nd.op,O S nd.a,O S nd.b,X Ak nk ck,X Aa na ca,X Af nf cf] rfl HON.o _ rfl rfl ((fD hownq hb2).alloc _) _ rfl (by simp) aA (by simp;omega) ?_);intro A' c' w' happ;have zb:=aE.grown (hblk2.alloc _) happ.grown (iG hownq (Nat.lt_succ_self _));have zc:=zb.cell;have zf:=zb.frozen)
    refine ⟨⟨n-r.length,j+1,F.app (.cons [aL l p] nd ats ks .nil),A',c',A2',((fG F).length+1),k2',_,hlt,by omega,by omega,congrArg (Value.int .i64) aA,by go_num,?_,by rw [fC];simp [dL,HL.o],?_,zb.set_ 3 _,ownsRow_setCell_below happ.own (Nat.lt_succ_self _) _,rC hfcq hty hb2 (aE.lt hblkq) hownq hown2q (aB _ _) happ ?_ (by simp [World.setCell]),?_,?_⟩,by simp [intOf];omega⟩
    · rw [HST2.o,<-HRR.o.1]
    · have:=HPL.o;rw [iT];simp [fG];omega
    · intro b' hb' o;exact World.cell?_setCell_other _ _ _ _ (fun e=>by injection e with e;omega)
    · rw [iT];have hk:=oM (World.ownsRow.alloc (fD hown2q hb2) _) ((fD hownq hb2).alloc _) (by decide) happ.grown;have hk2:=ownsRow_setCell_below hk (a:=⟨w1.heap.size,3,Y⟩) (Nat.lt_succ_self _) (X A' (j+1) c');simpa [fG,cI] using hk2
    · exact ((((hbwq.trans (hb2.mono hbwq.size)).alloc aA _).grown happ.grown (by simp;omega) (fun g hg=>by have:=(aC hownq hg).1;omega)).setCell (Nat.le_refl _) _)
end
section
open Go.RowKit
theorem G8 {A:Option Addr} {n c:Nat} {l:List Nd} {w:World} (h:aQ w A n c l) (hn:0<n) (hok:iC (aL l 0)=false) :
 Calls Tryz.prog 123 #[X A n c] w (iE l w):=by
 have hl:pp [false] l=Y:=G6 _ (fun _=>hok);have HPP:=hid hl;clear hl;obtain ⟨b,off,rfl,hb,c0,c1,c2⟩:=h.at_ hn;simp only [Nat.zero_mul,Nat.add_zero] at c0 c1 c2;have hn0:(((n:Nat):Int)==0)=false:=by simp;omega
 have hok2:iC ⟨(aL l 0).op,(aL l 0).a,(aL l 0).b⟩=false:=hok;go_in;go_wp2_with fail
 refine (FR _ _ _ _ hok2).mono ?_;rintro e w1 ⟨⟨k,rfl⟩,hb1⟩;have hz2:aE w1 w.heap.size 131 #[O S 0,O S 0,O S 0,X Y 0 0,X Y 0 0,X Y 0 0]:=(aE.new _ _ _).below hb1 (by simp);have zc2:=aE.cell hz2;have zf2:=aE.frozen hz2;go_wp2_with fail
 refine bodyPost_ret (v:=.tuple #[dA,O S 0,I false]) (cD ((((((hz2.set_ 0 _).set_ 1 _).set_ 2 _).set_ 3 _).set_ 4 _).set_ 5 _) rfl) rfl (bX HPP.o (eJ ((aB w _).trans (hb1.mono (by simp))) (Nat.le_refl _) _ _ _ _ _ _))
theorem xV:∀ (m:Nat) (w:World) (A:Option Addr) (n c:Nat) (l:List Nd),aQ w A n c l->n<m->Calls Tryz.prog 123 #[X A n c] w (iE l w)
 | 0,_,_,_,_,_,_,hm=>absurd hm aA
 | m+1,w,A,n,c,l,h,hm=>by
  by_cases hn:0<n
  · cases hok:iC (aL l 0)
    · exact G8 h hn hok
    by_cases h2:(aL l 0).op=2
    · have hpl:=(aM _).1 hok;obtain ⟨K,hK⟩:=Int.eq_ofNat_of_zero_le (kP hpl.1).1;exact EP h hn (by simp [h2]) hok K hK
    exact EN h hn (by simp [h2]) hok (fun w A k c l' hl hk=>xV m w A k c l' hl aA)
  · obtain rfl:n=0:=aA;exact EO h
theorem xW {A:Option Addr} {n c:Nat} {l:List Nd} {w:World} (h:aQ w A n c l):Calls Tryz.prog 123 #[X A n c] w (iE l w) :=
 xV (n+1) w A n c l h (Nat.lt_succ_self _)
end
end Go.Proofs.YtplecfbdchmogaaGreat
