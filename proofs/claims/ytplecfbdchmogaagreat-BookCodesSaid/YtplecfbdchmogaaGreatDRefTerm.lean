/- Merged: Greatest, RefTerm. -/
import Derived.Test.YtplecfbdchmogaaGreatProg
import Derived.Test.YtplecfbdchmogaaGreatDBase
import Derived.Test.YtplecfbdchmogaaGreatDLeafs
import Derived.WalkKit
import Derived.WalkLawsBesides
import Derived.WalkSpells
import Derived.Lib.Hide
import Derived.Deep.RegionHeld3
import Derived.Test.YtplecfbdchmogaaGreatDReads
import Derived.Test.YtplecfbdchmogaaGreatDKidss
namespace Go.Proofs.YtplecfbdchmogaaGreat
open Go.Value renaming int → O, slice → X
open Go.IntKind renaming i64 → S
open Option renaming none → Y, some → Z
open Go.Obj renaming cells → I
section
open Go.Lib (hid)
open Go.RowKit
set_option maxRecDepth 100000 in
set_option maxHeartbeats 2000000 in
theorem sQ (m:Nat) (ih:∀ (w:World) (R:Nat->Prop) (xs:List Value) (n:Nd) (atoms:List Nd) (kids:Fo) (u:Int),(∀ b,R b->b<w.heap.size)->iF R w xs n atoms kids->iC n=true->gI kids->0<=u->u+4*bN kids<=1000000000000->bN kids<m →
      Calls Tryz.prog 124 #[.agg xs.toArray,O S u] w (fH (pB n kids u) w))
 (w:World) (R:Nat->Prop) (xs:List Value) (n:Nd) (atoms:List Nd) (kids:Fo) (u:Int) (hR:∀ b,R b->b<w.heap.size) (ht:iF R w xs n atoms kids) (hok:iC n=true) (hall:gI kids) (hu0:0<=u) (hu1:u+4*bN kids<=1000000000000) (hsz:bN kids<=m) :
 Calls Tryz.prog 124 #[.agg xs.toArray,O S u] w (fH (pB n kids u) w):=by
 have HI:=hid ih;clear ih;obtain ⟨sk,sa,sf,rfl,⟨Ak,nk,ck,rfl,hkk⟩,⟨Aa,na,ca,rfl,haa⟩,⟨Af,nf,cf,rfl,hff⟩⟩:=ht;have hna:=(oO ((by simp only [iC,Bool.and_eq_true] at hok;exact hok.1.1):bQ n.op n.a n.b=true));by_cases h1:n.op=1
 · have h1b:(n.op==1)=true:=by simp [h1]
   have H1:=hid h1;have hu2:u<=1000000000000:=aA;clear h1 hu1;obtain ⟨hna1,hna2⟩:=hna;go_in;go_wp2_with fail
   all_goals
    go_ret;refine ⟨cH ?_,aB _ _⟩;simp only [pB,if_pos H1.o];omega
 have h1b:(n.op==1)=false:=by simp [h1]
 have H1:=hid h1;have HU:=hid hu1;have HSZ:=hid hsz;have HKL:=hid hkk.len;have HOK:=hid hok;have hnk:nk<=1000000000000000:=by
  have h1:=kD kids;have h2:=hkk.len;omega
 clear h1 hu1 hsz hok;go_in;go_wp2_with fail
 go_loopw [5,6] (fun v i wr=>∃ (F1 F2:Fo) (j:Nat) (t:Int),kids=F1.app F2/\dL F1=j/\v=O S t/\i=O S (j:Int)/\-1<=t/\max t (DL n.op n.b j u F2)=DL n.op n.b 0 u kids/\Below w.heap.size w wr ∧
  aE wr w.heap.size 131 #[O S n.op,O S n.a,O S n.b,X Ak nk ck,X Aa na ca,X Af nf cf]) (fun _ i _=>nk-(intOf i).toNat)
 case atStart=>exact ⟨.nil,kids,0,-1,rfl,rfl,rfl,rfl,Int.le_refl _,BV _ _ _ _ _,aB _ _,aE.new _ _ _⟩
 case round =>
  obtain ⟨F1,F2,j,t,hk,hj,rfl,rfl,ht,he,hbw,hblk⟩:=hrel;have HK:=hid hk;have HJ:=hid hj;have HE:=hid he;have HT:=hid ht;have hkkr:=hkk.keep (R':=R) (w':=wr) (fun b hb=>⟨hb,fun o=>hbw.cell (p:=⟨b,o,Y⟩) (hR b hb)⟩);have zc:=aE.cell hblk;have hszb:w.heap.size+1<=wr.heap.size:=aE.lt hblk;clear he ht;cases F2 with
  | nil =>
   have hjn:j=nk:=by rw [<-HKL.o,hk,fC,hj];rfl
   have hjn2:¬ j<nk:=aA;clear hk hj hjn;go_wp2_with fail
   go_ret;refine ⟨cH ?_,hbw⟩;have h1:=HE.o;have h2:=HT.o;simp only [pB,if_neg H1.o,<-h1,DL];omega
  | cons pre nd ats ks F2 =>
   have hjn:j<nk:=by rw [<-HKL.o,hk,fC,hj];simp [dL]
   have hkk2:pO R wr Ak nk ck (F1.app (.cons pre nd ats ks F2)):=by rw [<-hk];exact hkkr
   obtain ⟨b,off,sk',sa',sf',rfl,hrb,htree,g0,g1,g2,g3,g4,g5⟩:=hkk2.at_;rw [hj] at g0 g1 g2 g3 g4 g5;obtain ⟨_,hok2,hall2,_⟩:=(gI.app F1 _).1 (hk ▸ hall);have hbb:b<w.heap.size:=hR b hrb;clear hk hj hkk2 hkkr;have hB:w.heap.size<wr.heap.size:=aE.lt hblk;obtain ⟨ha1,ha2⟩:=qT HOK.o (j:Int);have hfs:u+4*(bN F1+(bN ks+bN F2+1))<=1000000000000:=by
    have:=HU.o;rw [HK.o,gZ] at this;simp only [bN] at this;omega
   have hfs2:bN ks<m:=by
    have:=HSZ.o;rw [HK.o,gZ] at this;simp only [bN] at this;omega
   have hw:IntKind.i64.wrap (u+aS n.op n.b (j:Int))=u+aS n.op n.b (j:Int):=IntWalk.i64_in _ aA;have hb1:0<=u+aS n.op n.b (j:Int):=aA;have hb2:u+aS n.op n.b (j:Int)+4*bN ks<=1000000000000:=aA;have HB1:=hid hb1;have HB2:=hid hb2;have HB3:=hid hfs2;have htr:∀ W:World,Below wr.heap.size wr W->iF R W [O S nd.op,O S nd.a,O S nd.b,sk',sa',sf'] nd ats ks:=fun W hW =>
    htree.keep fun b' hb'=>⟨hb',fun o=>hW.cell (p:=⟨b',o,Y⟩) (Nat.lt_of_lt_of_le (hR b' hb') hbw.size)⟩
   have hrl:∀ W:World,Below wr.heap.size wr W->∀ b',R b'->b'<W.heap.size:=fun W hW b' hb'=>Nat.lt_of_lt_of_le (hR b' hb') (Nat.le_trans hbw.size hW.size);have hkeep:∀ W:World,Below wr.heap.size wr W->(W.cell? ⟨w.heap.size,0,Y⟩=Z (O S n.op)/\W.cell? ⟨w.heap.size,1,Y⟩=Z (O S n.a)/\W.cell? ⟨w.heap.size,2,Y⟩=Z (O S n.b)/\W.cell? ⟨w.heap.size,3,Y⟩=Z (X (Z ⟨b,off,Y⟩) nk ck) ∧
    W.cell? ⟨b,off+j*6,Y⟩=Z (O S nd.op)/\W.cell? ⟨b,off+j*6+1,Y⟩=Z (O S nd.a)/\W.cell? ⟨b,off+j*6+2,Y⟩=Z (O S nd.b)/\W.cell? ⟨b,off+j*6+3,Y⟩=Z sk'/\W.cell? ⟨b,off+j*6+4,Y⟩=Z sa'/\W.cell? ⟨b,off+j*6+5,Y⟩=Z sf'):=fun W hW=>by
    have hB:∀ o,W.cell? ⟨w.heap.size,o,Y⟩=wr.cell? ⟨w.heap.size,o,Y⟩:=fun o=>hW.cell (p:=⟨w.heap.size,o,Y⟩) hB;have hC:∀ o,W.cell? ⟨b,o,Y⟩=wr.cell? ⟨b,o,Y⟩:=fun o=>hW.cell (p:=⟨b,o,Y⟩) (Nat.lt_of_lt_of_le hbb hbw.size);rw [hB,hB,hB,hB,hC,hC,hC,hC,hC,hC];exact ⟨hblk.cell 0,hblk.cell 1,hblk.cell 2,hblk.cell 3,g0,g1,g2,g3,g4,g5⟩
   have hfirst:=hkeep wr (Below.refl _ _);have HTR:=hid htr;have HRL:=hid hrl;have HKEEP:=hid hkeep;clear hb1 hb2 hfs hfs2 htr hrl hkeep zc g0 g1 g2 g3 g4 g5;by_cases hm:t<pB nd ks (u+aS n.op n.b (j:Int));all_goals
    obtain ⟨g0,g1,g2,g3,g4,g5,g6,g7,g8,g9⟩:=hfirst;go_wp2_with fail
    go_region_held3 (fun w'=>w'.cell? ⟨w.heap.size,0,Y⟩=Z (O S n.op)/\w'.cell? ⟨w.heap.size,1,Y⟩=Z (O S n.a)/\w'.cell? ⟨w.heap.size,2,Y⟩=Z (O S n.b)/\w'.cell? ⟨w.heap.size,3,Y⟩=Z (X (Z ⟨b,off,Y⟩) nk ck) ∧
     w'.cell? ⟨b,off+j*6,Y⟩=Z (O S nd.op)/\w'.cell? ⟨b,off+j*6+1,Y⟩=Z (O S nd.a)/\w'.cell? ⟨b,off+j*6+2,Y⟩=Z (O S nd.b)/\w'.cell? ⟨b,off+j*6+3,Y⟩=Z sk'/\w'.cell? ⟨b,off+j*6+4,Y⟩=Z sa'/\w'.cell? ⟨b,off+j*6+5,Y⟩=Z sf') (first | go_keep | exact HKEEP.o _ hb4)
     (first
      | (go_at_call 142;refine (yR _ _ _ _ _ aA).mono ?_;rintro e w2 ⟨rfl,rfl⟩)
      | (go_at_call 124;refine (HI.o _ R [O S nd.op,O S nd.a,O S nd.b,sk',sa',sf'] nd ats ks _ (HRL.o _ (((Below.refl _ _).alloc (Nat.le_refl _) _).drew)) (HTR.o _ (((Below.refl _ _).alloc (Nat.le_refl _) _).drew)) hok2 hall2 HB1.o HB2.o HB3.o).mono ?_;rintro e w3 ⟨rfl,hb3⟩;have hb4:Below wr.heap.size wr w3:=yW (((Below.refl _ _).alloc (Nat.le_refl _) _).drew) hb3 (Nat.le_refl _)))
    go_wp2_with fail
    go_roundw
    case rel =>
     refine ⟨F1.app (.cons pre nd ats ks .nil),F2,j+1,_,by rw [HK.o,gY];rfl,by rw [fC];simp [dL,HJ.o],rfl,by go_num,?_,?_,hbw.trans (hb4.mono hbw.size),hblk.below hb4 hB⟩
     · have:=HT.o;omega
     have h1:=HE.o;rw [rI] at h1;rw [<-h1];omega
    case measure=>simp [intOf];omega
theorem oG:∀ (m:Nat) (w:World) (R:Nat->Prop) (xs:List Value) (n:Nd) (atoms:List Nd) (kids:Fo) (u:Int),(∀ b,R b->b<w.heap.size)->iF R w xs n atoms kids->iC n=true->gI kids->0<=u->u+4*bN kids<=1000000000000->bN kids<m →
      Calls Tryz.prog 124 #[.agg xs.toArray,O S u] w (fH (pB n kids u) w)
 | 0,_,_,_,_,_,_,_,_,_,_,_,_,_,h=>absurd h aA
 | m+1,w,R,xs,n,atoms,kids,u,h1,h2,h3,h4,h5,h6,h7=>sQ m (oG m) w R xs n atoms kids u h1 h2 h3 h4 h5 h6 aA
theorem uQ {w:World} {R:Nat->Prop} {xs:List Value} {n:Nd} {atoms:List Nd} {kids:Fo} {u:Int} (hR:∀ b,R b->b<w.heap.size) (ht:iF R w xs n atoms kids) (hok:iC n=true) (hall:gI kids) (h0:0<=u) (h1:u+4*bN kids<=1000000000000) :
 Calls Tryz.prog 124 #[.agg xs.toArray,O S u] w (fH (pB n kids u) w) :=
 oG (bN kids+1) w R xs n atoms kids u hR ht hok hall h0 h1 (Nat.lt_succ_self _)
end
section
open Go.Lib (hid)
set_option maxHeartbeats 2000000
set_option maxRecDepth 100000
section
open Go.RowKit
theorem yD {l:List Nd} (h:l.length<=4096) (h0:aO l ≠ 0):aO l=8:=by
 unfold aO at h0 ⊢;rw [if_neg aA] at h0 ⊢;split
 · rename_i h1
   rw [if_pos h1] at h0;exact absurd rfl h0
 rfl
theorem H5 {l:List Nd} (h:4096<l.length):aO l=9:=by
 unfold aO;rw [if_pos h]
theorem jK {k:IntKind} {a b:Int} (h:a=b):Ending.returned (.int k a)=.returned (.int k b):=by rw [h]
theorem rW {l:List Nd} {w w':World} {e:Ending} (h:iE l w e w'):Below w.heap.size w w' ∧
 ((e=.returned (.tuple #[dA,O S 0,.bool false])/\(l.length<=4096->aO l=8)) ∨
  ∃ xs n ats k m,e=.returned (.tuple #[.agg xs.toArray,O S (m:Nat),.bool true])/\iF (fresh w w') w' xs n ats k/\m<=l.length/\((m=l.length/\pp [false] l=Z (.cons [] n ats k .nil,[])/\(l.length<=4096->aO l=0))\/(m<l.length/\(l.length<=4096->aO l=8)))):=by
 obtain ⟨hb,h⟩:=h;refine ⟨hb,?_⟩;cases hp:pp [false] l with
 | none =>
  rw [hp] at h;refine .inl ⟨h,fun hl=>yD hl fun h0 => ?_⟩;obtain ⟨_,n,ats,k,hpp,_⟩:=f6 h0;rw [hp] at hpp;cases hpp
 | some p =>
  obtain ⟨F,r⟩:=p;have hw:=kT hp;cases F with
  | nil=>exact hw.elim
  | cons pr n ats k x =>
   cases x with
   | cons _ _ _ _ _=>exact hw.2.2.2.2.elim
   | nil =>
    obtain ⟨hpr,_⟩:=hw;simp only at hpr;subst hpr;rw [hp] at h;obtain ⟨xs,he,ht⟩:=h;have hlen:=nN hp;refine .inr ⟨xs,n,ats,k,_,he,ht,Nat.sub_le _ _,?_⟩;have hlen2:r.length<=l.length:=by rw [hlen];simp
    cases r with
    | nil =>
     refine .inl ⟨by simp,rfl,fun hl=>yE hp hl⟩
    | cons y r =>
     simp only [List.length_cons] at hlen2 ⊢;refine .inr ⟨by omega,fun hl=>yD hl fun h0 => ?_⟩;obtain ⟨_,n,ats,k,hpp,_⟩:=f6 h0;rw [hp] at hpp;cases hpp
theorem jJ {A:Option Addr} {nn c:Nat} {l:List Nd} {w:World} (h:aQ w A nn c l) :
 Calls Tryz.prog 87 #[X A nn c] w (fH (aO l) w):=by
 have hfew:=h.few;have hlen:=h.len;by_cases h1:4096<nn
 · have h1b:decide ((4096:Int)<(nn:Int))=true:=by simp;omega
   have hs:aO l=9:=H5 aA;clear h1 h hlen;go_in;go_wp2_with fail
   go_ret;exact ⟨jK hs.symm,Below.refl _ _⟩
 have h1b:decide ((4096:Int)<(nn:Int))=false:=by simp;omega
 have hl:l.length<=4096:=aA;have HL:=hid hl;have HLEN:=hid hlen;have H:=hid h;clear h1 hl hlen h;go_in;go_wp2_with fail
 refine (xW H.o).mono ?_;intro e w2 hr;obtain ⟨hb,⟨rfl,hs⟩ | ⟨xs,n,ats,k,m,rfl,ht,hm,hc⟩⟩:=rW hr
 · have hs8:=hs HL.o;have HB:=hid hb;clear hs hb hr;unfold dA;go_wp2_with fail
   go_ret;refine ⟨jK hs8.symm,?_⟩;exact HB.o.alloc HB.o.size _
 obtain ⟨sk,sa,sf,rfl,⟨Ak,nk,ck,rfl,hkk⟩,⟨Aa,na,ca,rfl,haa⟩,⟨Af,nf,cf,rfl,hff⟩⟩:=ht;rcases hc with ⟨hm1,hpp,hs⟩ | ⟨hm1,hs⟩
 · have hg:((m:Int) != (nn:Int))=false:=by simp;have:=HLEN.o;omega
   have hs0:=hs HL.o;have HB:=hid hb;clear hs hb hr hpp hm hm1 hkk haa hff;go_wp2_with fail
   go_ret;refine ⟨jK hs0.symm,?_⟩;exact HB.o.alloc HB.o.size _
 have hg:((m:Int) != (nn:Int))=true:=by simp;have:=HLEN.o;omega
 have hs0:=hs HL.o;have HB:=hid hb;clear hs hb hr hm hm1 hkk haa hff;go_wp2_with fail
 go_ret;refine ⟨jK hs0.symm,?_⟩;exact HB.o.alloc HB.o.size _
end
section
open Go.RowKit
def KO (l:List Nd) (w:World) (e:Ending) (w':World):Prop:=Below w.heap.size w w' ∧
 ((aO l ≠ 0/\e=.returned (.tuple #[dA,.bool false]))\/∃ xs n ats k,e=.returned (.tuple #[.agg xs.toArray,.bool true])/\iF (fresh w w') w' xs n ats k/\pp [false] l=Z (.cons [] n ats k .nil,[])/\aO l=0)
theorem rZ {w:World} {g:Nat} {c0 c1 c2 c3 c4 c5:Value} {tmps:Array Value} (h:aE w g 131 #[c0,c1,c2,c3,c4,c5]) (ht:tmps.getD 2 undef=.pointer (Z ⟨g,0,Y⟩)) :
 (results Tryz.f88 tmps).run Tryz.prog w=.ok (.tuple #[.agg #[c0,c1,c2,c3,c4,c5],tmps.getD 3 undef]) w:=by
 have hc:=h.cell;have ht':tmps[2]?.getD undef=.pointer (Z ⟨g,0,Y⟩):=by rw [<-ht];simp
 simp [results,Tryz.results88,go_sem,ht',hc]
theorem JZ {w:World} {g b:Nat} (hb:b ≠ g) (x0 x1 x2 x3 x4 x5:Value):((((((w.setCell ⟨g,0,Y⟩ x0).setCell ⟨g,1,Y⟩ x1).setCell ⟨g,2,Y⟩ x2).setCell ⟨g,3,Y⟩ x3).setCell ⟨g,4,Y⟩ x4).setCell ⟨g,5,Y⟩ x5).heap[b]? = w.heap[b]?:=by
 rw [Below.heap_setCell _ _ _ _ hb,Below.heap_setCell _ _ _ _ hb,Below.heap_setCell _ _ _ _ hb,Below.heap_setCell _ _ _ _ hb,Below.heap_setCell _ _ _ _ hb,Below.heap_setCell _ _ _ _ hb]
theorem H6 {w:World} {g:Nat} (x0 x1 x2 x3 x4 x5:Value):((((((w.setCell ⟨g,0,Y⟩ x0).setCell ⟨g,1,Y⟩ x1).setCell ⟨g,2,Y⟩ x2).setCell ⟨g,3,Y⟩ x3).setCell ⟨g,4,Y⟩ x4).setCell ⟨g,5,Y⟩ x5).heap.size=w.heap.size:=by
 simp [World.setCell]
theorem pK {A:Option Addr} {nn c:Nat} {l:List Nd} {w:World} (h:aQ w A nn c l) :
 Calls Tryz.prog 88 #[X A nn c] w (KO l w):=by
 have hb0:=aB w (I #[O S 0,O S 0,O S 0,X Y 0 0,X Y 0 0,X Y 0 0] 131);have h1:aQ (w.alloc (I #[O S 0,O S 0,O S 0,X Y 0 0,X Y 0 0,X Y 0 0] 131)) A nn c l:=h.below hb0;have hz:aE (w.alloc (I #[O S 0,O S 0,O S 0,X Y 0 0,X Y 0 0,X Y 0 0] 131)) w.heap.size 131 #[O S 0,O S 0,O S 0,X Y 0 0,X Y 0 0,X Y 0 0]:=aE.new _ _ _;by_cases hs:aO l=0;rotate_left
 · have hsb:(aO l != 0)=true:=by simp [hs]
   have HS:=hid hs;have H1:=hid h1;have HZ:=hid hz;have HB0:=hid hb0;clear hs h h1 hz hb0;go_in;go_wp2_with fail
   refine (jJ H1.o).mono ?_;rintro e w2 ⟨rfl,hb2⟩;have hz2:=HZ.o.below hb2 HZ.o.lt;have zc:=aE.cell hz2;have zf:=aE.frozen hz2;have hb2':=HB0.o.trans (hb2.mono HB0.o.size);have HB2:=hid hb2';have HZ2:=hid hz2;clear hb2 hb2' hz2;go_wp2_with fail
   exact bodyPost_ret (v:=.tuple #[dA,.bool false]) (rZ ((((((HZ2.o.set_ 0 _).set_ 1 _).set_ 2 _).set_ 3 _).set_ 4 _).set_ 5 _) rfl) rfl ⟨eJ HB2.o (Nat.le_refl _) _ _ _ _ _ _,.inl ⟨HS.o,rfl⟩⟩
 have hsb:(aO l != 0)=false:=by simp [hs]
 have HS:=hid hs;have H1:=hid h1;have HZ:=hid hz;have HB0:=hid hb0;clear hs h h1 hz hb0;go_in;go_wp2_with fail
 refine (jJ H1.o).mono ?_;rintro e w2 ⟨rfl,hb2⟩;have h2:=H1.o.below hb2;have hz2:=HZ.o.below hb2 HZ.o.lt;have hg2:=hz2.lt;have hb2':=HB0.o.trans (hb2.mono HB0.o.size);have HB2:=hid hb2';have HZ2:=hid hz2;clear hb2 hb2' hz2;go_wp2_with fail
 refine (xW h2).mono ?_;intro e w3 hr;obtain ⟨hb,⟨rfl,hs8⟩ | ⟨xs,n,ats,k,m,rfl,ht,hm,hc⟩⟩:=rW hr
 · have hl:=(f6 HS.o).1;have:=hs8 hl;rw [HS.o] at this;cases this
 have hl:=(f6 HS.o).1;obtain ⟨_,hpp,_⟩:m=l.length/\pp [false] l=Z (.cons [] n ats k .nil,[])/\(l.length<=4096->aO l=0):=by
  rcases hc with hc | ⟨_,hc⟩
  · exact hc
  have:=hc hl;rw [HS.o] at this;cases this
 have HT:=hid ht;obtain ⟨sk,sa,sf,rfl,⟨Ak,nk,ck,rfl,hkk⟩,⟨Aa,na,ca,rfl,haa⟩,⟨Af,nf,cf,rfl,hff⟩⟩:=ht;have hz3:=(HZ2.o.below hb hg2).alloc (I #[O S n.op,O S n.a,O S n.b,X Ak nk ck,X Aa na ca,X Af nf cf] 131);have zc:=aE.cell hz3;have zf:=aE.frozen hz3;have hn3:aE (w3.alloc (I #[O S n.op,O S n.a,O S n.b,X Ak nk ck,X Aa na ca,X Af nf cf] 131)) w3.heap.size 131 #[O S n.op,O S n.a,O S n.b,X Ak nk ck,X Aa na ca,X Af nf cf]:=aE.new _ _ _;have yc:=aE.cell hn3;have HPP:=hid hpp;have HB:=cN HB2 hb;have HBB:=hid hb;have HZ3:=hid hz3;clear hz3 hn3 hpp hb hr hc hm hkk haa hff;go_wp2_with fail
 refine bodyPost_ret (v:=.tuple #[.agg #[O S n.op,O S n.a,O S n.b,X Ak nk ck,X Aa na ca,X Af nf cf],.bool true]) (rZ ((((((HZ3.o.set_ 0 _).set_ 1 _).set_ 2 _).set_ 3 _).set_ 4 _).set_ 5 _) rfl) rfl ⟨eJ (HB.o.alloc HB.o.size _) (Nat.le_refl _) _ _ _ _ _ _,.inr ⟨_,n,ats,k,rfl,HT.o.keep (fun b hb => ?_),HPP.o,HS.o⟩⟩;obtain ⟨hf1,hf2⟩:=hb;have hsz:=HB2.o.size;have hne:b ≠ w.heap.size:=aA;refine ⟨⟨by omega,?_⟩,fun o => ?_⟩
 · rw [H6];have:=(aB w3 (I #[O S n.op,O S n.a,O S n.b,X Ak nk ck,X Aa na ca,X Af nf cf] 131)).size;omega
 rw [aF (JZ hne _ _ _ _ _ _) o];exact aF ((aB w3 _).block b hf2) o
end
section
open Go.RowKit
theorem uR (w:World):Calls Tryz.prog 124 #[.agg #[O S 0,O S 0,O S 0,X Y 0 0,X Y 0 0,X Y 0 0],O S 0] w (fH (-1) w):=by
 go_in;go_wp2_with fail
 go_loopw [5,6] (fun v i wr=>v=O S (-1)/\i=O S 0/\Below w.heap.size w wr/\aE wr w.heap.size 131 #[O S 0,O S 0,O S 0,X Y 0 0,X Y 0 0,X Y 0 0]) (fun _ _ _=>0)
 case atStart=>exact ⟨rfl,rfl,aB _ _,aE.new _ _ _⟩
 case round =>
  obtain ⟨rfl,rfl,hbw,hblk⟩:=hrel;have zc:=aE.cell hblk;go_wp2_with fail
  go_ret;exact ⟨rfl,hbw⟩
theorem u9 {A:Option Addr} {nn c:Nat} {l:List Nd} {w:World} (h:aQ w A nn c l) (v:Int) :
 Calls Tryz.prog 89 #[X A nn c,O S v] w (qN (gE l v) w):=by
 by_cases hs:aO l=0;rotate_left
 · have hf:gE l v=false:=by simp [gE,hs]
   have HS:=hid hs;clear hs;go_in;go_wp2_with fail
   refine (pK h).mono ?_;rintro e w2 ⟨hb2,⟨_,rfl⟩ | ⟨_,_,_,_,_,_,_,h9⟩⟩;rotate_left
   · exact absurd h9 HS.o
   have HB2:=hid hb2;clear hb2;unfold dA;have yc:=aE.cell (aE.new w2 131 #[O S 0,O S 0,O S 0,X Y 0 0,X Y 0 0,X Y 0 0]);go_wp2_with fail
   refine (uR _).mono ?_;rintro e w4 ⟨rfl,hb4⟩;have hb3:=HB2.o.alloc HB2.o.size (I #[O S 0,O S 0,O S 0,X Y 0 0,X Y 0 0,X Y 0 0] 131);have hb5:=hb3.trans (hb4.mono hb3.size);go_wp2_with fail
   go_ret;rw [hf];exact ⟨rfl,hb5⟩
 have HS:=hid hs;clear hs;go_in;go_wp2_with fail
 refine (pK h).mono ?_;rintro e w2 ⟨hb2,⟨h9,_⟩ | ⟨xs,n,ats,k,rfl,ht,hpp,_⟩⟩
 · exact absurd HS.o h9
 have HT:=hid ht;obtain ⟨sk,sa,sf,rfl,⟨Ak,nk,ck,rfl,hkk⟩,⟨Aa,na,ca,rfl,haa⟩,⟨Af,nf,cf,rfl,hff⟩⟩:=ht;clear hkk haa hff;have hbz:=aB w2 (I #[O S n.op,O S n.a,O S n.b,X Ak nk ck,X Aa na ca,X Af nf cf] 131);have hn3:aE (w2.alloc (I #[O S n.op,O S n.a,O S n.b,X Ak nk ck,X Aa na ca,X Af nf cf] 131)) w2.heap.size 131 #[O S n.op,O S n.a,O S n.b,X Ak nk ck,X Aa na ca,X Af nf cf]:=aE.new _ _ _;have HT3:Hid (iF (fresh w w2) (w2.alloc (I #[O S n.op,O S n.a,O S n.b,X Ak nk ck,X Aa na ca,X Af nf cf] 131)) [O S n.op,O S n.a,O S n.b,X Ak nk ck,X Aa na ca,X Af nf cf] n ats k):=hid (HT.o.keep fun b hb=>⟨hb,fun o=>aF (hbz.block b hb.2) o⟩);have hR3:∀ b,fresh w w2 b->b<(w2.alloc (I #[O S n.op,O S n.a,O S n.b,X Ak nk ck,X Aa na ca,X Af nf cf] 131)).heap.size:=fun b hb=>by have:=hbz.size;have:=hb.2;omega
 have hb3:=hb2.alloc hb2.size (I #[O S n.op,O S n.a,O S n.b,X Ak nk ck,X Aa na ca,X Af nf cf] 131);have yc:=aE.cell hn3;have HPP:=hid hpp;have HN3:=hid hn3;have HR3:=hid hR3;have HB3:=hid hb3;obtain ⟨hok,hv1,hvk,hall,hpre,hrow,hl4,hfs⟩:=tW HS.o hpp;clear hpp hn3 hR3 hb3 hb2 hbz;have hf:=yX HS.o HPP.o v;have hu:0+4*(bN k:Int)<=1000000000000:=aA;clear hv1 hvk hpre hrow hl4 hfs;go_wp2_with fail
 refine (uQ HR3.o HT3.o hok hall (Int.le_refl _) hu).mono ?_;rintro e w4 ⟨rfl,hb4⟩;have hb5:=HB3.o.trans (hb4.mono HB3.o.size);clear hb4 hall hok hu;generalize pB n k 0=g at hf ⊢;cases hg:decide (g<0);all_goals
  rw [hg] at hf;have HF:=hid hf;clear hf;go_wp2_with fail
  go_ret;exact ⟨by rw [HF.o];rfl,hb5⟩
end
end
end Go.Proofs.YtplecfbdchmogaaGreat
