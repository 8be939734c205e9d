/- Merged: Greatest, RefTerm, RvE8. -/
import Derived.Test.YtjllmblbbgojbaaGreatXRvE6
namespace Go.Proofs.YtjllmblbbgojbaaGreat
set_option linter.unusedVariables false
set_option linter.unusedSimpArgs false
open Go.RowKit
open Go.Value renaming int → O, slice → Y
open Go.IntKind renaming i64 → X
open Option renaming none → Z, some → J
open Go.Obj renaming cells → I
section
open Go.Lib renaming hid->aB
set_option maxRecDepth 100000 in
set_option maxHeartbeats 2000000 in
theorem uG (m:Nat) (ih:∀(w:World) (R:Nat->Prop) (xs:List Value) (n:Nd) (atoms:List Nd) (kids:Fo) (u:Int),(∀b,R b->b<w.heap.size)->cJ R w xs n atoms kids->eE n=true->dD kids->0<=u->u+4*a7 kids<=1000000000000->a7 kids<m →
      Calls Tryz.prog 96 #[.agg xs.toArray,O X u] w (dZ (pN n kids u) w))
 (w:World) (R:Nat->Prop) (xs:List Value) (n:Nd) (atoms:List Nd) (kids:Fo) (u:Int) (hR:∀b,R b->b<w.heap.size) (ht:cJ R w xs n atoms kids) (hok:eE n=true) (hall:dD kids) (hu0:0<=u) (hu1:u+4*a7 kids<=1000000000000) (hsz:a7 kids<=m) :
 Calls Tryz.prog 96 #[.agg xs.toArray,O X u] w (dZ (pN n kids u) w):=by
 have HI:=aB ih;clear ih;obtain⟨sk,sa,sf,rfl,⟨Ak,nk,ck,rfl,hkk⟩,⟨Aa,na,ca,rfl,haa⟩,⟨Af,nf,cf,rfl,hff⟩⟩:=ht;have hna:=(fK ((by simp only[eE,Bool.and_eq_true] at hok;exact hok.1.1):bW n.op n.a n.b=true));by_cases h1:n.op=1
 · have h1b:(n.op==1)=true:=by simp[h1]
   have H1:=aB h1;have hu2:u<=1000000000000:=aA;clear h1 hu1;obtain⟨hna1,hna2⟩:=hna;go_in;go_wp2_with fail;all_goals
    go_ret;refine⟨cN ?_,aP _ _⟩;simp only[pN,if_pos H1.o];omega
 have h1b:(n.op==1)=false:=by simp[h1]
 have H1:=aB h1;have HU:=aB hu1;have HSZ:=aB hsz;have HKL:=aB hkk.len;have HOK:=aB hok;have hnk:nk<=1000000000000000:=by
  have h1:=fF kids;have h2:=hkk.len;omega
 clear h1 hu1 hsz hok;go_in;go_wp2_with fail;go_loopw [5,6] (fun v i wr=>∃(F1 F2:Fo) (j:Nat) (t:Int),kids=F1.app F2/\bH F1=j/\v=O X t/\i=O X (j:Int)/\-1<=t/\max t (GU n.op n.b j u F2)=GU n.op n.b 0 u kids/\Below w.heap.size w wr ∧
  aS wr w.heap.size 49 #[O X n.op,O X n.a,O X n.b,Y Ak nk ck,Y Aa na ca,Y Af nf cf]) (fun _ i _=>nk-(intOf i).toNat)
 case atStart=>exact⟨.nil,kids,0,-1,rfl,rfl,rfl,rfl,Int.le_refl _,EV _ _ _ _ _,aP _ _,aS.new _ _ _⟩
 case round =>
  obtain⟨F1,F2,j,t,hk,hj,rfl,rfl,ht,he,hbw,hblk⟩:=hrel;have HK:=aB hk;have HJ:=aB hj;have HE:=aB he;have HT:=aB ht;have hkkr:=hkk.keep (R':=R) (w':=wr) (fun b hb=>⟨hb,fun o=>hbw.cell (p:=⟨b,o,Z⟩) (hR b hb)⟩);have zc:=aS.cell hblk;clear he ht;cases F2 with
  | nil =>
   have hjn:j=nk:=by rw[<-HKL.o,hk,bS,hj];rfl
   have hjn2:¬ j<nk:=aA;clear hk hj hjn;go_wp2_with fail;go_ret;refine⟨cN ?_,hbw⟩;have h1:=HE.o;have h2:=HT.o;simp only[pN,if_neg H1.o,<-h1,GU];omega
  | cons pre nd ats ks F2 =>
   have hjn:j<nk:=by rw[<-HKL.o,hk,bS,hj];simp[bH]
   have hkk2:fN R wr Ak nk ck (F1.app (.cons pre nd ats ks F2)):=by rw[<-hk];exact hkkr
   obtain⟨b,off,sk',sa',sf',rfl,hrb,htree,g0,g1,g2,g3,g4,g5⟩:=hkk2.at_;rw[hj] at g0 g1 g2 g3 g4 g5;obtain⟨_,hok2,hall2,_⟩:=(dD.app F1 _).1 (hk ▸ hall);have hbb:b<w.heap.size:=hR b hrb;clear hk hj hkk2 hkkr;have hB:w.heap.size<wr.heap.size:=aS.lt hblk;obtain⟨ha1,ha2⟩:=dW HOK.o (j:Int);have hfs:u+4*(a7 F1+(a7 ks+a7 F2+1))<=1000000000000:=by
    have:=HU.o;rw[HK.o,dK] at this;simp only[a7] at this;omega
   have hfs2:a7 ks<m:=by
    have:=HSZ.o;rw[HK.o,dK] at this;simp only[a7] at this;omega
   have hw:IntKind.i64.wrap (u+aQ n.op n.b (j:Int))=u+aQ n.op n.b (j:Int):=IntWalk.i64_in _ aA;have hb1:0<=u+aQ n.op n.b (j:Int):=aA;have hb2:u+aQ n.op n.b (j:Int)+4*a7 ks<=1000000000000:=aA;have HB1:=aB hb1;have HB2:=aB hb2;have HB3:=aB hfs2;have htr:∀W:World,Below wr.heap.size wr W->cJ R W [O X nd.op,O X nd.a,O X nd.b,sk',sa',sf'] nd ats ks:=fun W hW =>
    htree.keep fun b' hb'=>⟨hb',fun o=>hW.cell (p:=⟨b',o,Z⟩) (Nat.lt_of_lt_of_le (hR b' hb') hbw.size)⟩
   have hrl:∀W:World,Below wr.heap.size wr W->∀b',R b'->b'<W.heap.size:=fun W hW b' hb'=>Nat.lt_of_lt_of_le (hR b' hb') (Nat.le_trans hbw.size hW.size);have hkeep:∀W:World,Below wr.heap.size wr W->(W.cell? ⟨w.heap.size,0,Z⟩=J (O X n.op)/\W.cell? ⟨w.heap.size,1,Z⟩=J (O X n.a)/\W.cell? ⟨w.heap.size,2,Z⟩=J (O X n.b)/\W.cell? ⟨w.heap.size,3,Z⟩=J (Y (J ⟨b,off,Z⟩) nk ck) ∧
    W.cell? ⟨b,off+j*6,Z⟩=J (O X nd.op)/\W.cell? ⟨b,off+j*6+1,Z⟩=J (O X nd.a)/\W.cell? ⟨b,off+j*6+2,Z⟩=J (O X nd.b)/\W.cell? ⟨b,off+j*6+3,Z⟩=J sk'/\W.cell? ⟨b,off+j*6+4,Z⟩=J sa'/\W.cell? ⟨b,off+j*6+5,Z⟩=J sf'):=fun W hW=>by
    have hB:∀o,W.cell? ⟨w.heap.size,o,Z⟩=wr.cell? ⟨w.heap.size,o,Z⟩:=fun o=>hW.cell (p:=⟨w.heap.size,o,Z⟩) hB;have hC:∀o,W.cell? ⟨b,o,Z⟩=wr.cell? ⟨b,o,Z⟩:=fun o=>hW.cell (p:=⟨b,o,Z⟩) (Nat.lt_of_lt_of_le hbb hbw.size);rw[hB,hB,hB,hB,hC,hC,hC,hC,hC,hC];exact⟨hblk.cell 0,hblk.cell 1,hblk.cell 2,hblk.cell 3,g0,g1,g2,g3,g4,g5⟩
   have hfirst:=hkeep wr (Below.refl _ _);have HTR:=aB htr;have HRL:=aB hrl;have HKEEP:=aB hkeep;clear hb1 hb2 hfs hfs2 htr hrl hkeep zc g0 g1 g2 g3 g4 g5;by_cases hm:t<pN nd ks (u+aQ n.op n.b (j:Int));all_goals
    obtain⟨g0,g1,g2,g3,g4,g5,g6,g7,g8,g9⟩:=hfirst;go_wp2_with fail;go_region_held3 (fun w'=>w'.cell? ⟨w.heap.size,0,Z⟩=J (O X n.op)/\w'.cell? ⟨w.heap.size,1,Z⟩=J (O X n.a)/\w'.cell? ⟨w.heap.size,2,Z⟩=J (O X n.b)/\w'.cell? ⟨w.heap.size,3,Z⟩=J (Y (J ⟨b,off,Z⟩) nk ck) ∧
     w'.cell? ⟨b,off+j*6,Z⟩=J (O X nd.op)/\w'.cell? ⟨b,off+j*6+1,Z⟩=J (O X nd.a)/\w'.cell? ⟨b,off+j*6+2,Z⟩=J (O X nd.b)/\w'.cell? ⟨b,off+j*6+3,Z⟩=J sk'/\w'.cell? ⟨b,off+j*6+4,Z⟩=J sa'/\w'.cell? ⟨b,off+j*6+5,Z⟩=J sf') (first | go_keep | exact HKEEP.o _ hb4)
     (first
      | (go_at_call 112;refine (jI _ _ _ _ _ aA).mono ?_;rintro e w2 ⟨rfl,rfl⟩)
      | (go_at_call 96;refine (HI.o _ R [O X nd.op,O X nd.a,O X nd.b,sk',sa',sf'] nd ats ks _ (HRL.o _ (((Below.refl _ _).alloc (Nat.le_refl _) _).drew)) (HTR.o _ (((Below.refl _ _).alloc (Nat.le_refl _) _).drew)) hok2 hall2 HB1.o HB2.o HB3.o).mono ?_;rintro e w3 ⟨rfl,hb3⟩;have hb4:Below wr.heap.size wr w3:=kT (((Below.refl _ _).alloc (Nat.le_refl _) _).drew) hb3 (Nat.le_refl _)))
    go_wp2_with fail;go_roundw
    case rel =>
     refine⟨F1.app (.cons pre nd ats ks .nil),F2,j+1,_,by rw[HK.o,dI];rfl,by rw[bS];simp[bH,HJ.o],rfl,by go_num,?_,?_,hbw.trans (hb4.mono hbw.size),hblk.below hb4 hB⟩
     · have:=HT.o;omega
     have h1:=HE.o;rw[sG] at h1;rw[<-h1];omega
    case measure=>simp[intOf];omega
theorem oK:∀(m:Nat) (w:World) (R:Nat->Prop) (xs:List Value) (n:Nd) (atoms:List Nd) (kids:Fo) (u:Int),(∀b,R b->b<w.heap.size)->cJ R w xs n atoms kids->eE n=true->dD kids->0<=u->u+4*a7 kids<=1000000000000->a7 kids<m →
      Calls Tryz.prog 96 #[.agg xs.toArray,O X u] w (dZ (pN n kids u) w)
 | 0,_,_,_,_,_,_,_,_,_,_,_,_,_,h=>absurd h aA
 | m+1,w,R,xs,n,atoms,kids,u,h1,h2,h3,h4,h5,h6,h7=>uG m (oK m) w R xs n atoms kids u h1 h2 h3 h4 h5 h6 aA
theorem xJ {w:World} {R:Nat->Prop} {xs:List Value} {n:Nd} {atoms:List Nd} {kids:Fo} {u:Int} (hR:∀b,R b->b<w.heap.size) (ht:cJ R w xs n atoms kids) (hok:eE n=true) (hall:dD kids) (h0:0<=u) (h1:u+4*a7 kids<=1000000000000) :
 Calls Tryz.prog 96 #[.agg xs.toArray,O X u] w (dZ (pN n kids u) w) :=
 oK (a7 kids+1) w R xs n atoms kids u hR ht hok hall h0 h1 (Nat.lt_succ_self _)
end
section
open Go.Lib renaming hid->aB
set_option maxHeartbeats 2000000
set_option maxRecDepth 100000
theorem BC {l:List Nd} (h:l.length<=4096) (h0:bC l ≠ 0):bC l=8:=by
 unfold bC at h0 ⊢;rw[if_neg aA] at h0 ⊢;split
 · rename_i h1
   rw[if_pos h1] at h0;exact absurd rfl h0
 rfl
theorem LO {l:List Nd} (h:4096<l.length):bC l=9:=by
 unfold bC;rw[if_pos h]
theorem jD {k:IntKind} {a b:Int} (h:a=b):Ending.returned (.int k a)=.returned (.int k b):=by rw[h]
theorem sV {l:List Nd} {w w':World} {e:Ending} (h:hI l w e w'):Below w.heap.size w w' ∧
 ((e=.returned (.tuple #[dR,O X 0,.bool false])/\(l.length<=4096->bC l=8)) ∨
  ∃xs n ats k m,e=.returned (.tuple #[.agg xs.toArray,O X (m:Nat),.bool true])/\cJ (kD w w') w' xs n ats k/\m<=l.length/\((m=l.length/\pp [false] l=J (.cons [] n ats k .nil,[])/\(l.length<=4096->bC l=0))\/(m<l.length/\(l.length<=4096->bC l=8)))):=by
 obtain⟨hb,h⟩:=h;refine⟨hb,?_⟩;cases hp:pp [false] l with
 | none =>
  rw[hp] at h;refine .inl ⟨h,fun hl=>BC hl fun h0 => ?_⟩;obtain⟨_,n,ats,k,hpp,_⟩:=fL h0;rw[hp] at hpp;cases hpp
 | some p =>
  obtain⟨F,r⟩:=p;have hw:=iG hp;cases F with
  | nil=>exact hw.elim
  | cons pr n ats k x =>
   cases x with
   | cons _ _ _ _ _=>exact hw.2.2.2.2.elim
   | nil =>
    obtain⟨hpr,_⟩:=hw;simp only at hpr;subst hpr;rw[hp] at h;obtain⟨xs,he,ht⟩:=h;have hlen:=nP hp;refine .inr ⟨xs,n,ats,k,_,he,ht,Nat.sub_le _ _,?_⟩;have hlen2:r.length<=l.length:=by rw[hlen];simp
    cases r with
    | nil =>
     refine .inl ⟨by simp,rfl,fun hl=>qT hp hl⟩
    | cons y r =>
     simp only[List.length_cons] at hlen2 ⊢;refine .inr ⟨by omega,fun hl=>BC hl fun h0 => ?_⟩;obtain⟨_,n,ats,k,hpp,_⟩:=fL h0;rw[hp] at hpp;cases hpp
theorem jC {A:Option Addr} {nn c:Nat} {l:List Nd} {w:World} (h:bB w A nn c l) :
 Calls Tryz.prog 37 #[Y A nn c] w (dZ (bC l) w):=by
 have hfew:=h.few;have hlen:=h.len;by_cases h1:4096<nn
 · have h1b:decide ((4096:Int)<(nn:Int))=true:=by simp;omega
   have hs:bC l=9:=LO aA;clear h1 h hlen;go_in;go_wp2_with fail;go_ret;exact⟨jD hs.symm,Below.refl _ _⟩
 have h1b:decide ((4096:Int)<(nn:Int))=false:=by simp;omega
 have hl:l.length<=4096:=aA;have HL:=aB hl;have HLEN:=aB hlen;have H:=aB h;clear h1 hl hlen h;go_in;go_wp2_with fail;refine (AQ H.o).mono ?_;intro e w2 hr;obtain⟨hb,⟨rfl,hs⟩ | ⟨xs,n,ats,k,m,rfl,ht,hm,hc⟩⟩:=sV hr
 · have hs8:=hs HL.o;have HB:=aB hb;clear hs hb hr;unfold dR;go_wp2_with fail;go_ret;refine⟨jD hs8.symm,?_⟩;exact HB.o.alloc HB.o.size _
 obtain⟨sk,sa,sf,rfl,⟨Ak,nk,ck,rfl,hkk⟩,⟨Aa,na,ca,rfl,haa⟩,⟨Af,nf,cf,rfl,hff⟩⟩:=ht;rcases hc with⟨hm1,hpp,hs⟩ | ⟨hm1,hs⟩
 · have hg:((m:Int) != (nn:Int))=false:=by simp;have:=HLEN.o;omega
   have hs0:=hs HL.o;have HB:=aB hb;clear hs hb hr hpp hm hm1 hkk haa hff;go_wp2_with fail;go_ret;refine⟨jD hs0.symm,?_⟩;exact HB.o.alloc HB.o.size _
 have hg:((m:Int) != (nn:Int))=true:=by simp;have:=HLEN.o;omega
 have hs0:=hs HL.o;have HB:=aB hb;clear hs hb hr hm hm1 hkk haa hff;go_wp2_with fail;go_ret;refine⟨jD hs0.symm,?_⟩;exact HB.o.alloc HB.o.size _
def N6 (l:List Nd) (w:World) (e:Ending) (w':World):Prop:=Below w.heap.size w w' ∧
 ((bC l ≠ 0/\e=.returned (.tuple #[dR,.bool false]))\/∃xs n ats k,e=.returned (.tuple #[.agg xs.toArray,.bool true])/\cJ (kD w w') w' xs n ats k/\pp [false] l=J (.cons [] n ats k .nil,[])/\bC l=0)
theorem s6 {w:World} {g:Nat} {c0 c1 c2 c3 c4 c5:Value} {tmps:Array Value} (h:aS w g 49 #[c0,c1,c2,c3,c4,c5]) (ht:tmps.getD 2 undef=.pointer (J ⟨g,0,Z⟩)) :
 (results Tryz.f20 tmps).run Tryz.prog w=.ok (.tuple #[.agg #[c0,c1,c2,c3,c4,c5],tmps.getD 3 undef]) w:=by
 have hc:=h.cell;have ht':tmps[2]?.getD undef=.pointer (J ⟨g,0,Z⟩):=by rw[<-ht];simp
 simp[results,Tryz.results20,go_sem,ht',hc]
theorem NO {w:World} {g b:Nat} (hb:b ≠ g) (x0 x1 x2 x3 x4 x5:Value):((((((w.setCell ⟨g,0,Z⟩ x0).setCell ⟨g,1,Z⟩ x1).setCell ⟨g,2,Z⟩ x2).setCell ⟨g,3,Z⟩ x3).setCell ⟨g,4,Z⟩ x4).setCell ⟨g,5,Z⟩ x5).heap[b]? = w.heap[b]?:=by
 rw[Below.heap_setCell _ _ _ _ hb,Below.heap_setCell _ _ _ _ hb,Below.heap_setCell _ _ _ _ hb,Below.heap_setCell _ _ _ _ hb,Below.heap_setCell _ _ _ _ hb,Below.heap_setCell _ _ _ _ hb]
theorem LP {w:World} {g:Nat} (x0 x1 x2 x3 x4 x5:Value):((((((w.setCell ⟨g,0,Z⟩ x0).setCell ⟨g,1,Z⟩ x1).setCell ⟨g,2,Z⟩ x2).setCell ⟨g,3,Z⟩ x3).setCell ⟨g,4,Z⟩ x4).setCell ⟨g,5,Z⟩ x5).heap.size=w.heap.size:=by
 simp[World.setCell]
theorem mM {A:Option Addr} {nn c:Nat} {l:List Nd} {w:World} (h:bB w A nn c l) :
 Calls Tryz.prog 20 #[Y A nn c] w (N6 l w):=by
 have hb0:=aP w (I #[O X 0,O X 0,O X 0,Y Z 0 0,Y Z 0 0,Y Z 0 0] 49);have h1:bB (w.alloc (I #[O X 0,O X 0,O X 0,Y Z 0 0,Y Z 0 0,Y Z 0 0] 49)) A nn c l:=h.below hb0;have hz:aS (w.alloc (I #[O X 0,O X 0,O X 0,Y Z 0 0,Y Z 0 0,Y Z 0 0] 49)) w.heap.size 49 #[O X 0,O X 0,O X 0,Y Z 0 0,Y Z 0 0,Y Z 0 0]:=aS.new _ _ _;by_cases hs:bC l=0;rotate_left
 · have hsb:(bC l != 0)=true:=by simp[hs]
   have HS:=aB hs;have H1:=aB h1;have HZ:=aB hz;have HB0:=aB hb0;clear hs h h1 hz hb0;go_in;go_wp2_with fail;refine (jC H1.o).mono ?_;rintro e w2 ⟨rfl,hb2⟩;have hz2:=HZ.o.below hb2 HZ.o.lt;have zc:=aS.cell hz2;have zf:=aS.frozen hz2;have hb2':=HB0.o.trans (hb2.mono HB0.o.size);have HB2:=aB hb2';have HZ2:=aB hz2;clear hb2 hb2' hz2;go_wp2_with fail;exact bodyPost_ret (v:=.tuple #[dR,.bool false]) (s6 ((((((HZ2.o.set_ 0 _).set_ 1 _).set_ 2 _).set_ 3 _).set_ 4 _).set_ 5 _) rfl) rfl ⟨eK HB2.o (Nat.le_refl _) _ _ _ _ _ _,.inl ⟨HS.o,rfl⟩⟩
 have hsb:(bC l != 0)=false:=by simp[hs]
 have HS:=aB hs;have H1:=aB h1;have HZ:=aB hz;have HB0:=aB hb0;clear hs h h1 hz hb0;go_in;go_wp2_with fail;refine (jC H1.o).mono ?_;rintro e w2 ⟨rfl,hb2⟩;have h2:=H1.o.below hb2;have hz2:=HZ.o.below hb2 HZ.o.lt;have hg2:=hz2.lt;have hb2':=HB0.o.trans (hb2.mono HB0.o.size);have HB2:=aB hb2';have HZ2:=aB hz2;clear hb2 hb2' hz2;go_wp2_with fail;refine (AQ h2).mono ?_;intro e w3 hr;obtain⟨hb,⟨rfl,hs8⟩ | ⟨xs,n,ats,k,m,rfl,ht,hm,hc⟩⟩:=sV hr
 · have hl:=(fL HS.o).1;have:=hs8 hl;rw[HS.o] at this;cases this
 have hl:=(fL HS.o).1;obtain⟨_,hpp,_⟩:m=l.length/\pp [false] l=J (.cons [] n ats k .nil,[])/\(l.length<=4096->bC l=0):=by
  rcases hc with hc | ⟨_,hc⟩
  · exact hc
  have:=hc hl;rw[HS.o] at this;cases this
 have HT:=aB ht;obtain⟨sk,sa,sf,rfl,⟨Ak,nk,ck,rfl,hkk⟩,⟨Aa,na,ca,rfl,haa⟩,⟨Af,nf,cf,rfl,hff⟩⟩:=ht;have hz3:=(HZ2.o.below hb hg2).alloc (I #[O X n.op,O X n.a,O X n.b,Y Ak nk ck,Y Aa na ca,Y Af nf cf] 49);have zc:=aS.cell hz3;have zf:=aS.frozen hz3;have hn3:aS (w3.alloc (I #[O X n.op,O X n.a,O X n.b,Y Ak nk ck,Y Aa na ca,Y Af nf cf] 49)) w3.heap.size 49 #[O X n.op,O X n.a,O X n.b,Y Ak nk ck,Y Aa na ca,Y Af nf cf]:=aS.new _ _ _;have yc:=aS.cell hn3;have HPP:=aB hpp;have HB:=dA HB2 hb;have HZ3:=aB hz3;clear hz3 hn3 hpp hb hr hc hm hkk haa hff;go_wp2_with fail;refine bodyPost_ret (v:=.tuple #[.agg #[O X n.op,O X n.a,O X n.b,Y Ak nk ck,Y Aa na ca,Y Af nf cf],.bool true]) (s6 ((((((HZ3.o.set_ 0 _).set_ 1 _).set_ 2 _).set_ 3 _).set_ 4 _).set_ 5 _) rfl) rfl ⟨eK (HB.o.alloc HB.o.size _) (Nat.le_refl _) _ _ _ _ _ _,.inr ⟨_,n,ats,k,rfl,HT.o.keep (fun b hb => ?_),HPP.o,HS.o⟩⟩;obtain⟨hf1,hf2⟩:=hb;have hne:b ≠ w.heap.size:=aA;refine⟨⟨by omega,?_⟩,fun o => ?_⟩
 · rw[LP];have:=(aP w3 (I #[O X n.op,O X n.a,O X n.b,Y Ak nk ck,Y Aa na ca,Y Af nf cf] 49)).size;omega
 rw[aU (NO hne _ _ _ _ _ _) o];exact aU ((aP w3 _).block b hf2) o
theorem xK (w:World):Calls Tryz.prog 96 #[.agg #[O X 0,O X 0,O X 0,Y Z 0 0,Y Z 0 0,Y Z 0 0],O X 0] w (dZ (-1) w):=by
 go_in;go_wp2_with fail;go_loopw [5,6] (fun v i wr=>v=O X (-1)/\i=O X 0/\Below w.heap.size w wr/\aS wr w.heap.size 49 #[O X 0,O X 0,O X 0,Y Z 0 0,Y Z 0 0,Y Z 0 0]) (fun _ _ _=>0)
 case atStart=>exact⟨rfl,rfl,aP _ _,aS.new _ _ _⟩
 case round =>
  obtain⟨rfl,rfl,hbw,hblk⟩:=hrel;have zc:=aS.cell hblk;go_wp2_with fail;go_ret;exact⟨rfl,hbw⟩
theorem xV {A:Option Addr} {nn c:Nat} {l:List Nd} {w:World} (h:bB w A nn c l) (v:Int) :
 Calls Tryz.prog 60 #[Y A nn c,O X v] w (nX (fZ l v) w):=by
 by_cases hs:bC l=0;rotate_left
 · have hf:fZ l v=false:=by simp[fZ,hs]
   have HS:=aB hs;clear hs;go_in;go_wp2_with fail;refine (mM h).mono ?_;rintro e w2 ⟨hb2,⟨_,rfl⟩ | ⟨_,_,_,_,_,_,_,h9⟩⟩;rotate_left
   · exact absurd h9 HS.o
   have HB2:=aB hb2;clear hb2;unfold dR;have yc:=aS.cell (aS.new w2 49 #[O X 0,O X 0,O X 0,Y Z 0 0,Y Z 0 0,Y Z 0 0]);go_wp2_with fail;refine (xK _).mono ?_;rintro e w4 ⟨rfl,hb4⟩;have hb3:=HB2.o.alloc HB2.o.size (I #[O X 0,O X 0,O X 0,Y Z 0 0,Y Z 0 0,Y Z 0 0] 49);have hb5:=hb3.trans (hb4.mono hb3.size);go_wp2_with fail;go_ret;rw[hf];exact⟨rfl,hb5⟩
 have HS:=aB hs;clear hs;go_in;go_wp2_with fail;refine (mM h).mono ?_;rintro e w2 ⟨hb2,⟨h9,_⟩ | ⟨xs,n,ats,k,rfl,ht,hpp,_⟩⟩
 · exact absurd HS.o h9
 have HT:=aB ht;obtain⟨sk,sa,sf,rfl,⟨Ak,nk,ck,rfl,hkk⟩,⟨Aa,na,ca,rfl,haa⟩,⟨Af,nf,cf,rfl,hff⟩⟩:=ht;clear hkk haa hff;have hbz:=aP w2 (I #[O X n.op,O X n.a,O X n.b,Y Ak nk ck,Y Aa na ca,Y Af nf cf] 49);have hn3:aS (w2.alloc (I #[O X n.op,O X n.a,O X n.b,Y Ak nk ck,Y Aa na ca,Y Af nf cf] 49)) w2.heap.size 49 #[O X n.op,O X n.a,O X n.b,Y Ak nk ck,Y Aa na ca,Y Af nf cf]:=aS.new _ _ _;have HT3:Hid (cJ (kD w w2) (w2.alloc (I #[O X n.op,O X n.a,O X n.b,Y Ak nk ck,Y Aa na ca,Y Af nf cf] 49)) [O X n.op,O X n.a,O X n.b,Y Ak nk ck,Y Aa na ca,Y Af nf cf] n ats k):=aB (HT.o.keep fun b hb=>⟨hb,fun o=>aU (hbz.block b hb.2) o⟩);have hR3:∀b,kD w w2 b->b<(w2.alloc (I #[O X n.op,O X n.a,O X n.b,Y Ak nk ck,Y Aa na ca,Y Af nf cf] 49)).heap.size:=fun b hb=>by have:=hbz.size;have:=hb.2;omega
 have hb3:=hb2.alloc hb2.size (I #[O X n.op,O X n.a,O X n.b,Y Ak nk ck,Y Aa na ca,Y Af nf cf] 49);have yc:=aS.cell hn3;have HPP:=aB hpp;have HR3:=aB hR3;have HB3:=aB hb3;obtain⟨hok,hv1,hvk,hall,hpre,hrow,hl4,hfs⟩:=qD HS.o hpp;clear hpp hn3 hR3 hb3 hb2 hbz;have hf:=B5 HS.o HPP.o v;have hu:0+4*(a7 k:Int)<=1000000000000:=aA;clear hv1 hvk hpre hrow hl4 hfs;go_wp2_with fail;refine (xJ HR3.o HT3.o hok hall (Int.le_refl _) hu).mono ?_;rintro e w4 ⟨rfl,hb4⟩;have hb5:=HB3.o.trans (hb4.mono HB3.o.size);clear hb4 hall hok hu;generalize pN n k 0=g at hf ⊢;cases hg:decide (g<0);all_goals
  rw[hg] at hf;have HF:=aB hf;clear hf;go_wp2_with fail;go_ret;exact⟨by rw[HF.o];rfl,hb5⟩
end
section
open Go.Lib renaming hid->aB
theorem tA {b:Bk} {w:World} {A:Option Addr} {n c:Nat} {l:List Nd} (h:bB w A n c l) (hf:fT b 0 l=0):Calls Tryz.prog 20 #[Y A n c] w (fun e w'=>Below w.heap.size w w'/\∃t:iL,e=.returned (.tuple #[.agg (eD t (eY l).1),.bool true])/\dJ (kD w w') w' t (eY l)):=by
 refine (mM h).mono ?_;rintro e w' ⟨hb,hh⟩;obtain⟨h1,h2⟩:=lO hf;rcases hh with⟨h3,_⟩ | ⟨xs,n,ats,k,rfl,ht,hpp,_⟩
 · have:=h2.rt.shape;rw[<-h1] at this;exact absurd this h3
 have e:eY l=(n,ats,k):=by unfold eY;rw[hpp]
 rw[e];obtain⟨t,e1,e2⟩:=L3 (x:=(n,ats,k)) ht;exact⟨hb,t,by rw[e1],e2⟩
set_option maxRecDepth 100000 in
set_option maxHeartbeats 8000000 in
theorem IF {w0:World} {g:Nat} {v:bN} {b:Bk} {d:Nat} (hr:cT b=0) (hb:bV w0 v b) (H:q8 w0 g v b d) (HG:uD w0 g v b d) {w:World} {m:Nat} {R:Nat->Prop} {t:iL} {x:TT} (hmd:m<d) (hm1:m<=100000) (hw:i8 w0 g v b (m+1) 0 w) (hR:iU g w R) (ht:dJ R w t x) (fx:cM b 0 x) (hv:dC x=false) (hop:x.1.op=8) :
 Calls Tryz.prog 26 #[.pointer (J ⟨g,0,Z⟩),.agg (eD t x.1)] w (yN w0 g v b R w (fO b (d+1) (m+1) x)):=by
 have hn:=fx.nod x.1 (by simp[aY]);have ha:0<=x.1.a:=by have hok:=fx.okt.ok;simp only[eE,Bool.and_eq_true] at hok;exact (fK hok.1.1).1
 unfold bZ at hn;rw[if_neg aA,if_pos hop,Bool.and_eq_true,decide_eq_true_eq,beq_iff_eq] at hn;have hbf:=rY hr ha hn.1 hn.2;obtain⟨hy1,hy2⟩:=lO hbf;have hres:fO b (d+1) (m+1) x=fO b d m (eY (bJ b x.1.a).body):=by
  rw[iV];simp only[i5,hv,Bool.false_eq_true,if_false];rw[if_pos hop]
 obtain⟨ia,hia⟩ : ∃ia:Nat,x.1.a=(ia:Int):=⟨x.1.a.toNat,by omega⟩;rw[hia] at hn hbf hy1 hy2 hres;have hle:=hb.entries.len;obtain⟨be,oe,hAe,hbe,⟨As,ns,cs,Ap,np,cp,Ai,ni,ci,Ac,nc,cc,At,nt,ct,Ab,nb,cb⟩,_,_,_,_,_,_,c6,hec⟩:=hb.entries.at_ (k:=ia) aA;have hen:bJ b (ia:Int)=b.entries.getD ia default:=by unfold bJ;rw[Int.toNat_natCast]
 rw[<-hen] at hec;simp only at c6;have HOF:=aB (fun (W:World) (h:Below w0.heap.size w0 W)=>tA (b:=b) (hec.body.below h) hbf);obtain⟨⟨⟨yo,ya,yb⟩,yat,yk⟩,hY⟩ : ∃y,y=eY (bJ b (ia:Int)).body:=⟨_,rfl⟩;rw[<-hY] at HOF hres hy2;simp only at HOF;have HFY:=aB hy2;have HC6:=aB c6;have HBE:=aB hbe;have HAE:=aB hAe;have HIN:Hid (ia<v.ne):=aB aA;obtain⟨res,hr0⟩ : ∃r,r=fO b (d+1) (m+1) x:=⟨_,rfl⟩;rw[<-hr0] at hres ⊢;have HRZ:=aB hres;clear hres hr0 hn ha hbf hy1 hy2 hle c6 hec hen hY hbe hAe;obtain⟨⟨xo,xa,xb⟩,xat,xk⟩:=x;obtain⟨xA,xn,xc,xB,xm,xd,xC,xp,xe⟩:=t;simp only at hop hia;have HOP:=aB hop;have HIA:=aB hia;clear hop hia;obtain⟨F,hF⟩ : ∃F:Int,F=((m+1:Nat):Int):=⟨_,rfl⟩;have f0':(F==0)=false:=by rw[beq_eq_false_iff_ne];omega
 have f1:IntKind.i64.wrap (F-1)=(m:Int):=by rw[IntKind.wrap_i64];omega
 have hgl:=hw.lt;have hba:=bF w (I #[O X xo,O X xa,O X xb,Y xA xn xc,Y xB xm xd,Y xC xp xe] 49) (I #[O X 0,O X 0,O X 0,Y Z 0 0,Y Z 0 0,Y Z 0 0] 49);have hw1:=hw.below hba;have zg:=aS.cell hw1.blk;have zgf:=aS.frozen hw1.blk;rw[<-hF] at zg;obtain⟨hw2,hm2⟩:=hw.fuel m;have hsz:(w.setCell ⟨g,5,Z⟩ (O X (m:Int))).heap.size=w.heap.size:=by simp
 have hbb:=bF (w.setCell ⟨g,5,Z⟩ (O X (m:Int))) (I #[O X xo,O X xa,O X xb,Y xA xn xc,Y xB xm xd,Y xC xp xe] 49) (I #[O X 0,O X 0,O X 0,Y Z 0 0,Y Z 0 0,Y Z 0 0] 49);have hmv:=hm2.trans (row':=Z) (aW.of_below (S:=fun q=>q=g) (row:=Z) hbb) (fun _ e=>by cases e);have HIV:=aB (kL (hR.moved hmv.size).lt (ht.movedO hR hmv) fx.rt);obtain⟨V0,hV0⟩ : ∃V0:World,V0.heap.size=w.heap.size+2:=⟨((w.alloc (I #[O X xo,O X xa,O X xb,Y xA xn xc,Y xB xm xd,Y xC xp xe] 49)).alloc (I #[O X 0,O X 0,O X 0,Y Z 0 0,Y Z 0 0,Y Z 0 0] 49)),by simp⟩;have HV0:=aB hV0;have HA1:Hid (tV w0 g v b w V0 #[O X xo,O X xa,O X xb,Y xA xn xc,Y xB xm xd,Y xC xp xe] m 0 (((w.setCell ⟨g,5,Z⟩ (O X (m:Int))).alloc (I #[O X xo,O X xa,O X xb,Y xA xn xc,Y xB xm xd,Y xC xp xe] 49)).alloc (I #[O X 0,O X 0,O X 0,Y Z 0 0,Y Z 0 0,Y Z 0 0] 49))):=aB ⟨hw2.below hbb,hmv,by rw[hV0];simp,(aS.new' hsz.symm).alloc _,aS.new' aD⟩;have HRO:=aB hR;have HL:=aB hgl;have HT:=aB ht;have HFX:=aB fx;have HH:=aB H;rw[hv] at HIV;clear hw hw1 hw2 hm2 hmv hba hbb hsz hF hR ht fx hv H HG hV0 hr;show Calls Tryz.prog 26 #[.pointer (J ⟨g,0,Z⟩),.agg #[O X xo,O X xa,O X xb,Y xA xn xc,Y xB xm xd,Y xC xp xe]] w _;go_in;go_wp2_with fail;refine (HIV.o).mono ?_;rintro e w2 ⟨rfl,hb2⟩;have HA:=aB (HA1.o.below hb2);have zx:=aS.cell HA.o.x;clear hb2 zg zgf f0' f1 HA1 HIV;obtain rfl:=HOP.o;obtain rfl:xa=(ia:Int):=HIA.o;go_upto_region 10 with fail
 go_cut [5] (fun pv wx=>∃(g5:Nat) (yA yB yC:Option Addr) (yn yc ym yd yp ye:Nat),pv=.pointer (J ⟨g5,0,Z⟩)/\Hid (aS wx g5 49 #[O X yo,O X ya,O X yb,Y yA yn yc,Y yB ym yd,Y yC yp ye])/\Hid (dJ (aZ R V0 wx) wx ⟨yA,yn,yc,yB,ym,yd,yC,yp,ye⟩ ((⟨yo,ya,yb⟩:Nd),yat,yk))/\Hid (tV w0 g v b w V0 #[O X 8,O X (ia:Int),O X xb,Y xA xn xc,Y xB xm xd,Y xC xp xe] m 0 wx))
 case first =>
  have zx2:=aS.cell HA.o.x;have zg2:=aS.cell HA.o.st.blk;rw[HAE.o] at zg2;have c62:=(HA.o.st.bel.cell (p:=⟨be,oe+ia*7+6,Z⟩) HBE.o).trans HC6.o;have hin3:=HIN.o;have HKP:=aB (fun (W:World) (hb:Below w2.heap.size w2 W)=>(⟨(hb.cell (p:=⟨g,2,Z⟩) HA.o.st.lt).trans (zg2 2),(hb.cell (p:=⟨w.heap.size,1,Z⟩) HA.o.x.lt).trans (zx2 1),(hb.cell (p:=⟨be,oe+ia*7+6,Z⟩) (show be<w2.heap.size by have:=HBE.o;have:=HA.o.st.bel.size;omega)).trans c62⟩:W.cell? ⟨g,2,Z⟩=J (Y (J ⟨be,oe,Z⟩) v.ne v.ce)/\W.cell? ⟨w.heap.size,1,Z⟩=J (O X (ia:Int))/\W.cell? ⟨be,oe+ia*7+6,Z⟩=J (Y Ab nb cb)));have HD0:Hid (Below w2.heap.size w2 w2.drew):=aB (aV (Below.refl w2.heap.size w2) 1);have hs7:w2.drew.heap.size=w2.heap.size:=rfl;clear zx2 zg2 c62 zx;go_wp2_with fail;refine wp_region_held_drew (S:=(fun w'=>w'.cell? ⟨g,2,Z⟩=J (Y (J ⟨be,oe,Z⟩) v.ne v.ce)/\w'.cell? ⟨w.heap.size,1,Z⟩=J (O X (ia:Int))/\w'.cell? ⟨be,oe+ia*7+6,Z⟩=J (Y Ab nb cb))) aC ?_ (fun hZ => ?_)
  · (try dsimp only);exact HKP.o _ HD0.o
  generalize w2.drew=V7 at *;have HS7:=aB hs7;clear hs7;refine aL 0 hZ ?_;refine aL 1 hZ ?_;refine aL 2 hZ ?_;refine aL 3 hZ ?_;refine aL 4 hZ ?_;refine aL 5 hZ ?_;refine aL 6 hZ ?_;refine aL 7 hZ ?_;refine aL 8 hZ ?_;refine aL 9 hZ ?_;refine aL 10 hZ ?_;refine wpAnyH_ready (rs:=[11,15]) aC aD ?_;refine AllReadyH.cons rfl (fun K hK => ?_) (AllReadyH.cons rfl (fun K hK => ?_) (AllReadyH.nil))
  · go_simp;go_at_call 20
    refine (HOF.o _ (HA.o.st.bel.trans (HD0.o.mono HA.o.st.bel.size))).mono ?_;rintro e v1 ⟨hbv1,⟨yA,yn,yc,yB,ym,yd,yC,yp,ye⟩,rfl,hty⟩;have HBv1:=dA HD0 hbv1;have HTY:=aB hty;clear hbv1 hty;go_wp2_with fail;refine hK.o _ _ (by exact HKP.o _ HBv1.o) fun hZ => ?_;clear hK K;try simp only[p7]
    refine aL 12 hZ ?_;refine aL 13 hZ ?_;refine aL 14 hZ ?_;have hal:=aP v1 (I #[O X 0,O X 0,O X 0,Y Z 0 0,Y Z 0 0,Y Z 0 0] 49);have HBa:=dA HBv1 hal;have HGK:=aB (aS.new v1 49 #[O X 0,O X 0,O X 0,Y Z 0 0,Y Z 0 0,Y Z 0 0]);have HAL:=aB hal;clear hal;refine r1 15 fun K hK => ?_;go_simp;refine hK.o _ _ (by exact HKP.o _ HBa.o) fun hZ => ?_;clear hK K;try simp only[p7]
    have hsa:v1.heap.size<(v1.alloc (I #[O X 0,O X 0,O X 0,Y Z 0 0,Y Z 0 0,Y Z 0 0] 49)).heap.size:=by simp
    have hg1:=HBv1.o.size;generalize hgV:(v1.alloc (I #[O X 0,O X 0,O X 0,Y Z 0 0,Y Z 0 0,Y Z 0 0] 49))=v3 at *;clear hgV;have HTY0:=HTY
    replace HTY:=aB (HTY0.o.keep (R':=fun q=>V7.heap.size<=q/\q<v1.heap.size) (w':=v3) fun q hq=>⟨hq,fun o=>HAL.o.cell (p:=⟨q,o,Z⟩) hq.2⟩)
    have hg6:=dQ v3 v1.heap.size (O X yo) (O X ya) (O X yb) (Y yA yn yc) (Y yB ym yd) (Y yC yp ye);have HGS:=aB hg6;have HBG:=aB (HBa.o.grown hg6 (HBa.o.size) (fun q hq=>by injection hq with hq;have:=HS7.o;omega));have zg:=aS.cell HGK.o;have zgf:=aS.frozen HGK.o;clear hg6;refine r1 16 fun K hK => ?_;go_simp;refine hK.o _ _ (by exact HKP.o _ HBG.o) fun hZ => ?_;clear hK K;try simp only[p7]
    refine aL 17 hZ ?_;refine wpAnyH_done aC ?_ _;go_wp2_with fail;go_meet;refine⟨v1.heap.size,yA,yB,yC,yn,yc,ym,yd,yp,ye,rfl,aB (bK HGK.o _ _ _ _ _ _),aB ?_,aB (HA.o.below HBG.o)⟩;refine HTY.o.keep fun q hq=>⟨Or.inr ⟨?_,?_⟩,fun o=>aU (HGS.o.block q ?_ ?_) o⟩
    · have:=hq.1;have:=HA.o.sz;have:=HS7.o;omega
    · have:=hq.2;have:=HGS.o.size;have:=HS7.o;omega
    · have:=hq.2;have:=HS7.o;omega
    intro e;injection e with e;have:=hq.2;have:=HS7.o;omega
  have hal:=aP V7 (I #[O X 0,O X 0,O X 0,Y Z 0 0,Y Z 0 0,Y Z 0 0] 49);have HBa:=dA HD0 hal;have HGK0:=aB (aS.new V7 49 #[O X 0,O X 0,O X 0,Y Z 0 0,Y Z 0 0,Y Z 0 0]);have hsa:(V7.alloc (I #[O X 0,O X 0,O X 0,Y Z 0 0,Y Z 0 0,Y Z 0 0] 49)).heap.size=V7.heap.size+1:=by simp
  clear hal;go_simp;refine hK.o _ _ (by exact HKP.o _ HBa.o) fun hZ => ?_;clear hK K;try simp only[p7]
  generalize hgV:(V7.alloc (I #[O X 0,O X 0,O X 0,Y Z 0 0,Y Z 0 0,Y Z 0 0] 49))=va at *;clear hgV;refine r1 11 fun K hK => ?_;go_simp;go_at_call 20
  refine (HOF.o _ (HA.o.st.bel.trans (HBa.o.mono HA.o.st.bel.size))).mono ?_;rintro e v3 ⟨hbv3,⟨yA,yn,yc,yB,ym,yd,yC,yp,ye⟩,rfl,hty⟩;have HBv3:=dA HBa hbv3;have HTY:=aB hty;have HSv3:=aB hbv3;clear hbv3 hty;go_wp2_with fail;refine hK.o _ _ (by exact HKP.o _ HBv3.o) fun hZ => ?_;clear hK K;try simp only[p7]
  refine aL 12 hZ ?_;refine aL 13 hZ ?_;refine aL 14 hZ ?_;have HGK:=aB (HGK0.o.below HSv3.o HGK0.o.lt);have hg6:=dQ v3 V7.heap.size (O X yo) (O X ya) (O X yb) (Y yA yn yc) (Y yB ym yd) (Y yC yp ye);have HGS:=aB hg6;have HBG:=aB (HBv3.o.grown hg6 (HBv3.o.size) (fun q hq=>by injection hq with hq;have:=HS7.o;omega));have zg:=aS.cell HGK.o;have zgf:=aS.frozen HGK.o;clear hg6;refine r1 16 fun K hK => ?_;go_simp;refine hK.o _ _ (by exact HKP.o _ HBG.o) fun hZ => ?_;clear hK K;try simp only[p7]
  refine aL 17 hZ ?_;refine wpAnyH_done aC ?_ _;go_wp2_with fail;go_meet;refine⟨V7.heap.size,yA,yB,yC,yn,yc,ym,yd,yp,ye,rfl,aB (bK HGK.o _ _ _ _ _ _),aB ?_,aB (HA.o.below HBG.o)⟩;refine HTY.o.keep fun q hq=>⟨Or.inr ⟨?_,?_⟩,fun o=>aU (HGS.o.block q ?_ ?_) o⟩
  · have:=hq.1;have:=HA.o.sz;have:=HS7.o;omega
  · have:=hq.2;have:=HGS.o.size;have:=HS7.o;omega
  · exact hq.2
  intro e;injection e with e;have:=hq.1;have:=HS7.o;omega
 case rest =>
 obtain⟨g5,yA,yB,yC,yn,yc,ym,yd,yp,ye,rfl,hk5,hy5,ha5⟩:=hcut;have zy5:=aS.cell hk5.o;go_wp2_with fail;refine (HH.o wc m (aZ R V0 wc) ⟨yA,yn,yc,yB,ym,yd,yC,yp,ye⟩ ((⟨yo,ya,yb⟩:Nd),yat,yk) hmd hm1 ha5.o.st (iU.mixed HRO.o (by have:=HV0.o;have:=HL.o;omega) ha5.o.mv.size) hy5.o HFY.o).mono ?_;rintro e w9 ⟨hm9,⟨eA,en,ec,eB,em,ed,eC,ep,ee⟩,⟨⟨eo,ea,eb⟩,eat,ek⟩,rfl,ht9,hr9⟩;have HZ9:=aB (ha5.o.r.movedO (by have:=HL.o;omega) hm9);have HM9:=aB (ha5.o.mv.trans (row':=Z) hm9 (fun _ e=>by cases e));have HT9:=aB (dJ.mix2 ht9 ha5.o.sz hm9.size);have HR9:=aB hr9;have zz:=aS.cell HZ9.o;have zf:=aS.frozen HZ9.o;clear hm9 ht9 hr9;go_wp2_with fail;refine bodyPost_ret (v:=.agg #[O X eo,O X ea,O X eb,Y eA en ec,Y eB em ed,Y eC ep ee]) ?_ rfl ?_
 · exact cE (g:=w.heap.size+1) (bK HZ9.o _ _ _ _ _ _) aD
 rw[HRZ.o];exact eW (V:=V0) (t:=⟨eA,en,ec,eB,em,ed,eC,ep,ee⟩) (y:=((⟨eo,ea,eb⟩:Nd),eat,ek)) HRO.o HL.o aA (by have:=HV0.o;omega) HM9.o HT9.o HR9.o
end
end Go.Proofs.YtjllmblbbgojbaaGreat
