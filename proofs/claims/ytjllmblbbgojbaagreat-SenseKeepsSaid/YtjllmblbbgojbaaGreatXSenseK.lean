/- Merged: SenseF, SenseC, SenseK. -/
import Derived.Test.YtjllmblbbgojbaaGreatXSenseU
namespace Go.Proofs.YtjllmblbbgojbaaGreat
set_option linter.unusedVariables false
set_option linter.unusedSimpArgs false
open Go.RowKit
open Go.Value renaming slice → O
open Option renaming none → X

section
open Go.Lib renaming hid->aB
structure wT (w0:World) (g:Nat) (v:bN) (b:Bk) (f:Nat) (w:World):Prop where
 bel:Below w0.heap.size w0 w
 blk:aS w g 58 #[.int .i64 b.vars,O v.Ao v.no v.co,O v.Ae v.ne v.ce,.int .i64 b.nat,O v.Ap v.np v.cp,.int .i64 (f:Int)]
 ge:w0.heap.size<=g
abbrev RG (g:Nat) (w:World) (q:Nat):Prop:=q<w.heap.size/\q ≠ g
abbrev eM (g:Nat) (w:World) (A:Option Addr) (n c:Nat) (l:List Nd):Prop:=bP (RG g w) w A n c l
def PS (w0:World) (g:Nat) (v:bN) (b:Bk) (w:World) (r:RV) (e:Ending) (w':World):Prop:=aW (fun q=>q=g) X w w'/\match r with
 | .ok y f'=>∃A n c,e=.returned (O A n c)/\wT w0 g v b f' w'/\eM g w' A n c (aY y)
 | .er z=>e=.panicked (EG z)
section
variable {w0 w w' w1 : World} {g f n c : Nat} {v : bN} {b : Bk} {A : Option Addr} {l : List Nd} {r : RV} {e : Ending}
theorem wT.lt (h:wT w0 g v b f w):g<w.heap.size:=h.blk.lt
theorem wT.below (h:wT w0 g v b f w) (hb:Below w.heap.size w w'):wT w0 g v b f w':=⟨h.bel.trans (hb.mono h.bel.size),h.blk.below hb h.blk.lt,h.ge⟩
theorem wT.drew (h:wT w0 g v b f w):wT w0 g v b f w.drew:=⟨aV h.bel 1,h.blk.drewN 1,h.ge⟩
theorem bP.gv (h:eM g w A n c l):bB w A n c l:=h.keep fun _ hq=>⟨hq.1,fun _=>rfl⟩
theorem bP.movedG (h:eM g w A n c l) (hm:aW (fun q=>q=g) X w w'):eM g w' A n c l:=h.keep fun q hq=>⟨⟨Nat.lt_of_lt_of_le hq.1 hm.size,hq.2⟩,fun o=>aU (hm.block _ hq.1 hq.2 aD) o⟩
theorem bP.belowG (h:eM g w A n c l) (hb:Below w.heap.size w w'):eM g w' A n c l:=h.movedG (aW.of_below hb)
theorem dG.movedG {ls:List (List Nd)} (h:dG (RG g w) w A n c ls) (hm:aW (fun q=>q=g) X w w'):dG (RG g w') w' A n c ls:=h.keep fun q hq=>⟨⟨Nat.lt_of_lt_of_le hq.1 hm.size,hq.2⟩,fun o=>aU (hm.block _ hq.1 hq.2 aD) o⟩
theorem PL {B:Nat} (h:bR w' B (O A n c) l) (hg:g<B) (hl:l.length<=5864062014805):eM g w' A n c l:=by
 obtain⟨_,_,e0⟩:=h.slice;injection e0 with _ e2;subst e2;obtain⟨Aq,nq,cq,e,hq⟩:=bR.termS h hl;injection e with e1 e2 e3;subst e1 e2 e3;exact hq.keep fun q hq=>⟨⟨(aR h hq).2.1,by have:=(aR h hq).1;omega⟩,fun _=>rfl⟩
theorem wT.fuel (h:wT w0 g v b f w) (f':Nat):wT w0 g v b f' (w.setCell ⟨g,5,X⟩ (.int .i64 (f':Int)))/\aW (fun q=>q=g) X w (w.setCell ⟨g,5,X⟩ (.int .i64 (f':Int))):=by
 have hg:=bG w g 5 (.int .i64 (f':Int));have hs:=h.bel.size;have hge:=h.ge;exact⟨⟨h.bel.grown hg aA (fun q e=>by injection e with e;omega),by simpa using h.blk.set_ 5 (.int .i64 (f':Int)),hge⟩,aW.setCell (S:=fun q=>q=g) (aW.refl _ _ _) (p:=⟨g,5,X⟩) rfl _⟩
end
def PA (w0:World) (g:Nat) (v:bN) (b:Bk) (d:Nat):Prop:=∀(w:World) (f:Nat) (A:Option Addr) (n c:Nat) (x:TT),f<d->f<=100000->wT w0 g v b f w->eM g w A n c (aY x)->cM b 0 x →
 Calls Tryz.prog 24 #[.pointer (some ⟨g,0,X⟩),O A n c] w (PS w0 g v b w (fO b d f x))
def O3 (w0:World) (g:Nat) (v:bN) (b:Bk) (d:Nat):Prop:=∀(w:World) (f:Nat) (A:Option Addr) (n c:Nat) (B:Option Addr) (m k:Nat) (x a:TT),f<d->f<=100000->wT w0 g v b f w->eM g w A n c (aY x)->eM g w B m k (aY a)->kQ b x->kQ b a →
 Calls Tryz.prog 44 #[.pointer (some ⟨g,0,X⟩),O A n c,O B m k] w (PS w0 g v b w (gH b d f x a))
set_option maxRecDepth 100000 in
set_option maxHeartbeats 4000000 in
theorem pM {w0:World} {g:Nat} {v:bN} {b:Bk} {d:Nat} (hr:cT b=0) (H:O3 w0 g v b d) {w:World} {f:Nat} {A:Option Addr} {n c:Nat} {B:Option Addr} {k dd:Nat} {x:TT} {L:List TT} (hf:f<d) (hf1:f<=100000) (hw:wT w0 g v b f w) (hx:eM g w A n c (aY x)) (hL:dG (RG g w) w B k dd (L.map aY)) (ox:kQ b x) (oL:∀y ∈ L,kQ b y) :
 Calls Tryz.prog 74 #[.pointer (some ⟨g,0,X⟩),O A n c,O B k dd] w (PS w0 g v b w (cS (gH b d) L x f)):=by
 have hk:L.length=k:=by have:=hL.len;rwa [List.length_map] at this
 have hfew:=hL.few;have HL:=aB hL;have HK:=aB hk;have HO:=aB oL;have HH:=aB H;have HRT:=aB hr;have HX:=aB hx;have HW:=aB hw;have HOX:=aB ox;obtain⟨res,hres⟩ : ∃r,r=cS (gH b d) L x f:=⟨_,rfl⟩;have HRS:=aB hres;rw[<-hres];clear hL hk oL H hr hx hw ox hres;go_in;go_wp2_with fail;go_loopw [1,11] (fun tv iv wr=>∃(i f':Nat) (y:TT) (A':Option Addr) (n' c':Nat),tv=O A' n' c'/\iv=.int .i64 (i:Int)/\i<=k/\f'<=f/\Hid (wT w0 g v b f' wr)/\Hid (eM g wr A' n' c' (aY y))/\Hid (kQ b y)/\Hid (res=cS (gH b d) (L.drop i) y f')/\Hid (aW (fun q=>q=g) X w wr)) (fun _ iv _=>k-(intOf iv).toNat)
 case atStart=>exact⟨0,f,x,A,n,c,rfl,rfl,by omega,by omega,HW,HX,HOX,HRS,aB (aW.refl _ _ _)⟩
 case round =>
  obtain⟨i,f',y,A',n',c',rfl,rfl,hi,hff,hw,hy,oy,hrs,hm⟩:=hrel;by_cases hlt:i<k;rotate_left
  · have y1:decide ((i:Int)<(k:Int))=false:=decide_eq_false aA;have y2:decide (i<k)=false:=decide_eq_false hlt;have HRZ:Hid (res=.ok y f'):=aB (by
     have:=hrs.o;rw[List.drop_of_length_le (by rw[HK.o];omega)] at this;exact this)
    clear hlt hrs;go_wp2_with fail;go_ret;rw[HRZ.o];exact⟨hm.o,A',n',c',rfl,hw.o,hy.o⟩
  have y1:decide ((i:Int)<(k:Int))=true:=decide_eq_true aA;have y2:decide (i<k)=true:=decide_eq_true hlt;have hil:i<L.length:=by rw[HK.o];exact hlt
  have hr9:=dG.movedG HL.o hm.o;obtain⟨bb,oo,hBB,hbb,hmem⟩:=hr9.mem aA;obtain⟨A3,n3,c3,hc3,ht3⟩:=hmem i hlt;subst hBB;have hgd:(L.map aY).getD i []=aY L[i]:=by
   rw[List.getD_eq_getElem?_getD,List.getElem?_map,List.getElem?_eq_getElem hil];rfl
  rw[hgd] at ht3;have hoy:=HO.o L[i] (List.getElem_mem hil);have hdr:L.drop i=L[i]::L.drop (i+1):=List.drop_eq_getElem_cons hil;obtain⟨li,hli⟩ : ∃y,y=L[i]:=⟨_,rfl⟩;rw[<-hli] at ht3 hoy hdr;have HC:=aB (HH.o wr f' A' n' c' A3 n3 c3 y li aA aA hw.o hy.o ht3 oy.o hoy);have hfit:=(i6 (b:=b) HRT.o d).2 f' y li;have HRS2:=aB (by have:=hrs.o;rw[hdr] at this;exact this);have HFT:=aB (fun v1 f1 h=>hfit v1 f1 oy.o hoy h);have hi0:(0:Int)<=(i:Int):=aA;have hi1:(i:Int)<(k:Int):=aA;clear hr9 hmem ht3 hgd hoy hdr hfit hrs hli hil;cases hE:gH b d f' y li with
  | er z =>
   have HRZ:Hid (res=.er z):=aB (by have:=HRS2.o;simp only[cS] at this;rw[hE] at this;exact this);rw[hE] at HC;clear hE HRS2 HFT;go_wp2_with fail;refine (HC.o).mono ?_;rintro e w7 ⟨hm7,he7⟩;simp only at he7;subst he7;have HM7:=aB (hm.o.trans hm7 (fun _ e=>by cases e));clear hm7;go_wp2_with fail;rw[HRZ.o];exact⟨rfl,HM7.o,rfl⟩
  | ok u f1 =>
   have HRZ:Hid (res=cS (gH b d) (L.drop (i+1)) u f1):=aB (by have:=HRS2.o;simp only[cS] at this;rw[hE] at this;exact this);have HFU:=aB (HFT.o u f1 hE);rw[hE] at HC;clear hE HRS2 HFT;have hf11:=HFU.o.2;go_wp2_with fail;refine (HC.o).mono ?_;rintro e w7 ⟨hm7,A7,n7,c7,rfl,hw7,ht7⟩;have HM7:=aB (hm.o.trans hm7 (fun _ e=>by cases e));have HW7:=aB hw7;have HT7:=aB ht7;clear hm7 hw7 ht7;go_wp2_with fail;go_roundw
   case rel=>exact⟨i+1,f1,u,A7,n7,c7,rfl,by go_num,by omega,by omega,HW7,HT7,aB HFU.o.1,HRZ,HM7⟩
   case measure=>simp[intOf];omega
end
section
open Go.Lib renaming hid->aB
def I7 (ls:List (List Nd)) (w:World) (e:Ending) (w':World):Prop:=Below w.heap.size w w'/\∃A n c,e=.returned (O A n c)/\dG (fun q=>w.heap.size<=q/\q<w'.heap.size) w' A n c ls
set_option maxRecDepth 100000 in
set_option maxHeartbeats 4000000 in
theorem GX {A:Option Addr} {nn c:Nat} {l:List Nd} {w:World} (h:bB w A nn c l) :
 Calls Tryz.prog 73 #[O A nn c] w (I7 (iJ (qY l).2) w):=by
 by_cases hs:bC l=0;rotate_left
 · have htop:qY l=(⟨0,0,0⟩,.nil):=by
    unfold qY;rw[if_neg hs]
   have HTOP:=aB htop;have hsb:(bC l != 0)=true:=by simpa using hs
   have HSH:=aB (dM h);clear htop hs h;go_in;go_wp2_with fail;refine (HSH.o).mono ?_;rintro e w2 ⟨rfl,hb2⟩;have HB2:=aB hb2;clear hb2;go_wp2_with fail;go_ret;rw[HTOP.o];exact⟨HB2.o,X,0,0,rfl,rfl,by decide,fun h=>absurd h aE⟩
 obtain⟨_,n,ats,k,hpp,hrow,hfs⟩:=fL hs;have htop:qY l=(n,k):=by
  unfold qY;rw[if_pos hs,hpp]
 have hfl:bH k<=4096:=by have:=fF k;omega
 have HTOP:=aB htop;have hsh:=dM h;rw[hs] at hsh;have hparts:∀w2,Below w.heap.size w w2->Calls Tryz.prog 103 #[O A nn c] w2 (uU n k w2):=fun w2 hb=>H7 (h.below hb) hs hpp;have HSH:=aB hsh;have HPARTS:=aB hparts;clear hsh hparts htop hs hpp hrow h;go_in;go_wp2_with fail;refine (HSH.o).mono ?_;rintro e w2 ⟨rfl,hb2⟩;have HB2:=aB hb2;clear hb2;go_wp2_with fail;refine (HPARTS.o _ HB2.o).mono ?_;rintro e w3 ⟨hb3,A1,k1,A2,k2,xs1,rfl,ho1,ho2,hr⟩;have HB3:=aB hb3;have HO1:=aB ho1;have HR:=aB hr;clear hb3 ho1 ho2 hr;go_wp2_with fail;go_loopw [16] (fun i wr=>∃(F1 F2:Fo) (j:Nat) (xa xb:List Value),Hid (k=F1.app F2)/\Hid (bH F1=j)/\i=.int .i64 (j:Int)/\Hid (wr.ownsRow (w2.heap.size+5) 28 1 (O A1 (bH k) k1) (bH k) (xa++xb)) ∧
  Hid (eL (yQ (w2.heap.size+5) wr (O A1 (bH k) k1)) wr xa (iJ F1))/\Hid (eL (· < w2.heap.size) w2 xb (iJ F2))/\Hid (Below w2.heap.size w2 wr)) (fun i _=>bH k-(intOf i).toNat)
 case atStart=>exact⟨.nil,k,0,[],xs1,aB rfl,aB rfl,rfl,HO1,aB trivial,HR,HB3⟩
 case round =>
  obtain⟨F1,F2,j,xa,xb,hk,hj,rfl,hown,hra,hrb,hbw⟩:=hrel;cases F2 with
  | nil =>
   have hkf:k=F1:=hk.o.trans (i9 F1);have hjn:¬ j<bH k:=by rw[hkf,hj.o];omega
   have HKF:=aB hkf;clear hkf
   match xb,hrb with
   | _::_,hrb=>exact hrb.o.elim
   | [],hrb =>
   go_wp2_with fail;go_ret;rw[HTOP.o];refine⟨HB2.o.trans (hbw.o.mono HB2.o.size),_,_,_,rfl,mI (R:=fun q=>w.heap.size<=q/\q<wr.heap.size) hown.o (by rw[qE]) aA (ls:=iJ k) (S:=yQ (w2.heap.size+5) wr (O A1 (bH k) k1)) ?_ (fun b hb=>⟨by have:=HB2.o.size;have:=hb.1;omega,hb.2.1⟩) (fun q e=>⟨by have:=HB2.o.size;have:=(aR hown.o e).1;omega,(aR hown.o e).2.1⟩)⟩;rw[List.append_nil];have:=hra.o
   rwa [<-HKF.o] at this
  | cons pre nd a ks F3 =>
   have hjn:j<bH k:=by rw[hk.o,bS,hj.o];simp[bH]
   match xb,hrb with
   | [],hrb=>exact hrb.o.elim
   | x::xb,hrb =>
   obtain⟨⟨A',n',c',rfl,ht⟩,hrb2⟩:=hrb.o;obtain⟨_,hcase⟩:=hown.o;rcases hcase with⟨_,h2⟩ | ⟨g,cap',cur,hv,hg,hh,_⟩
   · omega
   injection hv with e1 e2 e3;subst e1;subst e3;clear e2;have hxa:xa.length=j:=by rw[hra.o.len,qE,hj.o]
   have hblk:aS wr g 28 cur:=hh;have hcell:wr.cell? ⟨g,j,X⟩=some (O A' n' c'):=by
    have:=hown.o.cellAt (g:=g) j aA;rw[this,List.getElem?_append_right aA,hxa,Nat.sub_self];rfl
   have HCLONE:=aB (GK (ht.keep (R':=(· < wr.heap.size)) (w':=wr) fun b hb=>⟨Nat.lt_of_lt_of_le hb hbw.o.size,fun o=>aU (hbw.o.block b hb) o⟩));have HG:=aB hg;have HBLK:=aB hblk;have HRB2:=aB hrb2;have HXA:=aB hxa;clear hg hh hblk ht hrb2 hxa;go_wp2_with fail;refine (HCLONE.o).mono ?_;rintro e w4 ⟨hb4,A4,n4,c4,rfl,ht4⟩;have hblk4:aS w4 g 28 cur:=HBLK.o.below hb4 HBLK.o.lt;have hcell4:w4.cell? ⟨g,j,X⟩=some (O A' n' c'):=(aU (hb4.block g HBLK.o.lt) j).trans hcell;have hfz4:=hblk4.frozen;have HB4:=aB hb4;have HT4:=aB ht4;have HZ:=aB (HBLK.o.lt);clear hb4 ht4 hcell hblk4;go_wp2_with fail;go_roundw
   case rel =>
    have hown4:=NC (bL hown.o HB4.o) j (O A4 n4 c4);rw[List.set_append_right _ _ (by have:=HXA.o;omega),HXA.o,Nat.sub_self,List.set_cons_zero] at hown4;have hsz:wr.heap.size<=w4.heap.size:=HB4.o.size;have hcW:∀b,b ≠ g->∀o,(w4.setCell ⟨g,j,X⟩ (O A4 n4 c4)).cell? ⟨b,o,X⟩=w4.cell? ⟨b,o,X⟩:=fun b hb o=>aU (Below.heap_setCell _ _ _ _ hb) o;have hszW:(w4.setCell ⟨g,j,X⟩ (O A4 n4 c4)).heap.size=w4.heap.size:=by simp[World.setCell]
    have hgo:(Value.slice (some ⟨g,0,X⟩) (bH k) k1).ownBlock=some g:=rfl;have hs2:=hbw.o.size;refine⟨F1.app (.cons pre nd a ks .nil),F3,j+1,xa++[O A4 n4 c4],xb,aB (by rw[hk.o,dI];rfl),aB (by rw[bS,hj.o];rfl),by go_num,aB ?_,aB ?_,HRB2,aB ?_⟩
    · rw[List.append_assoc];exact hown4
    · rw[mP];refine eL.add (HT4.o.keep fun b hb => ?_) (hra.o.keep fun b hb => ?_)
      · obtain⟨q1,q2⟩:=hb;have hgz:=HZ.o;have hgb:=HG.o;have hne:b ≠ g:=aA;exact⟨⟨by omega,by rw[hszW];exact q2,by rw[hgo];intro e;injection e with e;exact hne e.symm⟩,hcW b hne⟩
      obtain⟨q1,q2,q3⟩:=hb;have hne:b ≠ g:=fun e=>q3 (by rw[hgo,e]);refine⟨⟨q1,by rw[hszW];omega,q3⟩,fun o => ?_⟩;rw[hcW b hne o];exact aU (HB4.o.block b q2) o
    have:=HG.o;exact (hbw.o.trans (HB4.o.mono hs2)).setCell aG _
   case measure=>simp[intOf];omega
theorem IR (w:World):(sizeOf 28).run Tryz.prog w=.ok 1 w:=by kernel_rfl
theorem JO (A:Option Addr) (n c k:Nat) (hk:k<=n) (hc:n<=c) : ∃A',(∀w:World,(Instr.slice 65 (O A n c) (some (.int .i64 (k:Int))) X X).run Tryz.prog w=.ok (O A' (n-k) (c-k)) w) ∧
 ∀(R:Nat->Prop) (w:World) (ls:List (List Nd)),dG R w A n c ls->dG R w A' (n-k) (c-k) (ls.drop k):=by
 refine⟨if c=k then A else A.map (·.add (k*1)),fun w => ?_,fun R w ls h => ?_⟩
 · rw[run_slice_l w 65 A n c aC .i64 (k:Int) aA aA];have e:Tryz.prog.elem 65=28:=by kernel_rfl
   rw[e,IR];rfl
 have h1:=h.len;have h2:=h.few;refine⟨by rw[List.length_drop];omega,by omega,fun hn => ?_⟩;obtain⟨b,off,rfl,hb,hm⟩:=h.mem aA;rw[if_neg aA];refine⟨b,off+k,?_,hb,fun j hj => ?_⟩
 · simp only[Option.map_some,Addr.add,Nat.mul_one];split
   · rename_i h0;rw[h0,Nat.add_zero]
   rfl
 obtain⟨A',n',c',hc,ht⟩:=hm (k+j) aA;refine⟨A',n',c',by rw[Nat.add_assoc];exact hc,?_⟩;have e:(ls.drop k).getD j []=ls.getD (k+j) []:=by
  rw[List.getD_eq_getElem?_getD,List.getD_eq_getElem?_getD,List.getElem?_drop]
 rw[e];exact ht
theorem NS {x:TT} (h:mB x):iJ (qY (aY x)).2=(cW x.2.2).map aY:=by
 have:qY (aY x)=(x.1,x.2.2):=by
  unfold qY;rw[if_pos h.shape,h.pp]
 rw[this,vZ]
end
end Go.Proofs.YtjllmblbbgojbaaGreat
