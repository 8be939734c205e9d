/- Programs that are read: constructors, entries (book). -/
import Derived.Test.YtplecfbdchmogaaGreatDRdM
namespace Go.Proofs.YtplecfbdchmogaaGreat
open Go.Value renaming slice → O
open Option renaming none → S
open Go.Lib (hid)
set_option maxHeartbeats 4000000
set_option maxRecDepth 100000
set_option linter.unusedVariables false
set_option linter.unusedSimpArgs false
open Go.RowKit
def Nb (lo b:Nat) (w:World) (q:Nat):Prop:=lo<=q/\q<w.heap.size/\q ≠ b
section
variable {q : Nat} {w w1 w' W F : World} {κ : Rk} {lo b b2 i : Nat} {u : Value}
theorem GQ (h:Nb lo b w q):Nb lo b (w.setCell ⟨b,i,S⟩ u) q/\∀ o,(w.setCell ⟨b,i,S⟩ u).cell? ⟨q,o,S⟩=w.cell? ⟨q,o,S⟩ :=
 ⟨⟨h.1,by simpa [World.setCell] using h.2.1,h.2.2⟩,fun o=>aF (Below.heap_setCell w ⟨b,i,S⟩ u q h.2.2) o⟩
theorem dX (hm:nV κ w w1) (hg:κ.g<lo) (hh:κ.h<lo) (i:Nat) (u:Value) : ∀ q,Nb lo b w q->Nb lo b (w1.setCell ⟨b,i,S⟩ u) q/\∀ o,(w1.setCell ⟨b,i,S⟩ u).cell? ⟨q,o,S⟩=w.cell? ⟨q,o,S⟩:=fun q hq=>by
 have h1:Nb lo b w1 q:=⟨hq.1,Nat.lt_of_lt_of_le hq.2.1 hm.size,hq.2.2⟩;obtain ⟨h2,h3⟩:=GQ (i:=i) (u:=u) h1;exact ⟨h2,fun o=>(h3 o).trans (aF (hm.block q hq.2.1 (by have:=hq.1;rintro (e | e)<;>omega) (by simp)) o)⟩
theorem jE (hl:lo<=w.heap.size) (hb:b<w.heap.size) (i:Nat) (u:Value) : ∀ q,fresh w w1 q->Nb lo b (w1.setCell ⟨b,i,S⟩ u) q/\∀ o,(w1.setCell ⟨b,i,S⟩ u).cell? ⟨q,o,S⟩=w1.cell? ⟨q,o,S⟩:=fun q hq =>
 GQ ⟨Nat.le_trans hl hq.1,hq.2,by have:=hq.1;omega⟩
theorem kY (hF:W.grownBy F (some b2)) (hb:b2<lo) (hw:w.heap.size<=lo) : ∀ q,Nb lo b W q->fresh w F q/\∀ o,F.cell? ⟨q,o,S⟩=W.cell? ⟨q,o,S⟩:=fun q hq =>
 ⟨⟨Nat.le_trans hw hq.1,Nat.lt_of_lt_of_le hq.2.1 hF.size⟩,fun o=>aF (hF.block q hq.2.1 (fun e=>by injection e with e;have:=hq.1;omega)) o⟩
theorem BA (w:World) (b:Nat) (u0 u1:Value):w.grownBy ((w.setCell ⟨b,0,S⟩ u0).setCell ⟨b,1,S⟩ u1) (some b):=eT (kB.set.grown_setK w b 0 u0) (kB.set.grown_setK _ b 1 u1)
theorem bA (w:World) (b:Nat) (u0 u1 u2 u3 u4 u5 u6:Value):w.grownBy (((((((w.setCell ⟨b,0,S⟩ u0).setCell ⟨b,1,S⟩ u1).setCell ⟨b,2,S⟩ u2).setCell ⟨b,3,S⟩ u3).setCell ⟨b,4,S⟩ u4).setCell ⟨b,5,S⟩ u5).setCell ⟨b,6,S⟩ u6) (some b) :=
 eT (eT (eT (eT (eT (eT (kB.set.grown_setK w b 0 u0) (kB.set.grown_setK _ b 1 u1)) (kB.set.grown_setK _ b 2 u2)) (kB.set.grown_setK _ b 3 u3)) (kB.set.grown_setK _ b 4 u4)) (kB.set.grown_setK _ b 5 u5)) (kB.set.grown_setK _ b 6 u6)
theorem kB.odd {w0:World} {s:Rd} (h:kB w0 κ s w W) (o:Bool):kB w0 κ ⟨s.rest,s.err,o⟩ w (W.setCell ⟨κ.h,1,S⟩ (.bool o)):=by
 obtain ⟨hm,hs⟩:=h;obtain ⟨k,hk,hr⟩:=hs.st;refine ⟨aG.setCell hm (p:=⟨κ.h,1,S⟩) (Or.inr rfl) _,⟨⟨k,⟨hk.bel.setCell hs.ge _,hk.blk.far (p:=⟨κ.h,1,S⟩) (fun e=>hs.ne e.symm) _,hk.ge,hk.byt.keep fun q hq=>⟨hq,fun o'=>aF (Below.heap_setCell W ⟨κ.h,1,S⟩ _ q (hs.off q hq)) o'⟩,fun q hq=>⟨by simpa [World.setCell] using (hk.off q hq).1,(hk.off q hq).2⟩,hk.le⟩,hr⟩,by simpa using hs.blk.set_ 1 (.bool o),hs.ne,hs.ge,hs.off⟩⟩
theorem bJ.nilR (R:Nat->Prop) (w:World):bJ R w S 0 0 []:=⟨rfl,Nat.le_refl _,Nat.zero_le _,fun _=>rfl,fun h=>absurd h (by decide)⟩
theorem cW.nilR (R:Nat->Prop) (w:World):cW R w S 0 0 []:=⟨rfl,by decide,fun h=>absurd h (by decide)⟩
theorem oW.nilR (R:Nat->Prop) (w:World):oW R w S 0 0 []:=⟨rfl,by decide,fun h=>absurd h (by decide)⟩
theorem kB.grow {w0:World} {s:Rd} (h:kB w0 κ s w W) (hF:W.grownBy F (some b)) (hb:w.heap.size<=b) (hg:κ.g<w.heap.size) (hh:κ.h<w.heap.size) (hR:∀ q,κ.R q->q<w.heap.size) (h0:w0.heap.size<=w.heap.size):kB w0 κ s w F :=
 ⟨iP h.1 hF (fun q e=>by injection e with e;omega),h.2.grown hF (fun q e=>by injection e with e;omega) hR hg hh h0⟩
end
theorem GI:(Tryz.prog.info? 66).map (fun i=>(i.zero,i.size,i.bytes))=some (some (.agg #[O S 0 0,O S 0 0]),2,48):=by kernel_rfl
theorem GJ:(Tryz.prog.info? 57).map (fun i=>(i.zero,i.size,i.bytes))=some (some (.agg #[.int .i64 0,O S 0 0,O S 0 0,O S 0 0,O S 0 0,O S 0 0,O S 0 0]),7,152):=by kernel_rfl
theorem AR {w:World} {g:Nat} {c0 c1:Value} {tmps:Array Value} (h:aE w g 66 #[c0,c1]) (ht:tmps.getD 2 undef=.pointer (some ⟨g,0,S⟩)) :
 (results Tryz.f110 tmps).run Tryz.prog w=.ok (.agg #[c0,c1]) w:=by
 have hc:=h.cell;have ht':tmps[2]?.getD undef=.pointer (some ⟨g,0,S⟩):=by rw [<-ht];simp
 simp [results,Tryz.results110,go_sem,ht',hc]
theorem nR {w:World} {g:Nat} {c0 c1 c2 c3 c4 c5 c6:Value} {tmps:Array Value} (h:aE w g 57 #[c0,c1,c2,c3,c4,c5,c6]) (ht:tmps.getD 2 undef=.pointer (some ⟨g,0,S⟩)) :
 (results Tryz.f51 tmps).run Tryz.prog w=.ok (.agg #[c0,c1,c2,c3,c4,c5,c6]) w:=by
 have hc:=h.cell;have ht':tmps[2]?.getD undef=.pointer (some ⟨g,0,S⟩):=by rw [<-ht];simp
 simp [results,Tryz.results51,go_sem,ht',hc]
theorem EJ {w0 w:World} {κ:Rk} {s:Rd} (h:kC w0 κ s w):Calls Tryz.prog 110 #[.pointer (some ⟨κ.h,0,S⟩)] w (L4 w0 κ (eK s) w):=by
 have hb0:=aB w (.cells #[O S 0 0,O S 0 0] 66);have HS0:=hid (h.below hb0);have HE0:=hid ((kB.refl h).below hb0);have HB2:=hid (aE.new w 66 #[O S 0 0,O S 0 0]);have HGL:=hid h.g_lt;have HHL:=hid h.h_lt;have HRL:=hid h.R_lt;have HW0:=hid h.size;have hs0:w.heap.size<(w.alloc (.cells #[O S 0 0,O S 0 0] 66)).heap.size:=by simp
 have hn1:=mW HS0.o;obtain ⟨q1,hq1⟩ : ∃ q,q=eH s:=⟨_,rfl⟩;obtain ⟨x1,s1⟩:=q1;rw [<-hq1] at hn1;obtain ⟨q2,hq2⟩ : ∃ q,q=eH s1:=⟨_,rfl⟩;obtain ⟨x2,s2⟩:=q2;have HE:Hid (eK s=(⟨x1,x2⟩,s2)):=hid (by simp only [eK,bL.seq,bL.pure,<-hq1,<-hq2]);have HQ2:=hid hq2;have HN1:=hid hn1;rw [HE.o];clear h hq1 hq2 hn1 hb0 hs0;go_in;go_wp2_with fail
 refine (HN1.o).mono ?_;rintro e w1 ⟨A1,n1,c1,rfl,ht1,h1⟩;simp only at h1 ht1 ⊢;have HE1:=hid (HE0.o.call h1);have HB2_1:=hid (HB2.o.mvk h1.1 HGL.o HHL.o);have hs1:=h1.1.size;have hbb:=aB w1 (.cells #[O A1 n1 c1,O S 0 0] 66);have HE1b:=hid (HE1.o.below hbb);have HB3:=hid (aE.new w1 66 #[O A1 n1 c1,O S 0 0]);have HB2_1b:=hid ((HB2_1).o.below hbb HB2_1.o.lt);have HG1:=hid (show κ.g<w1.heap.size from Nat.lt_of_lt_of_le (show κ.g<w.heap.size+1 from by have:=HGL.o;omega) (by simpa using hs1));have HH1:=hid (show κ.h<w1.heap.size from Nat.lt_of_lt_of_le (show κ.h<w.heap.size+1 from by have:=HHL.o;omega) (by simpa using hs1));have HLT:=hid (show w.heap.size<w1.heap.size from Nat.lt_of_lt_of_le (Nat.lt_succ_self _) (by simpa using hs1));have HD1:Hid (cW (Nb (w.heap.size+1) w1.heap.size (w1.alloc (.cells #[O A1 n1 c1,O S 0 0] 66))) (w1.alloc (.cells #[O A1 n1 c1,O S 0 0] 66)) A1 n1 c1 x1):=hid (ht1.keep fun q hq=>⟨⟨by have:=hq.1;simpa using this,by have:=hq.2;simp;omega,by have:=hq.2;omega⟩,fun o=>hbb.cell (p:=⟨q,o,S⟩) hq.2⟩);have HN2:=hid (mW HE1b.o.2);rw [<-HQ2.o] at HN2;clear h1 hbb hs1 ht1;go_wp2_with fail
 refine (HN2.o).mono ?_;rintro e w2 ⟨A2,n2,c2,rfl,ht2,h2⟩;simp only at h2 ht2 ⊢;have HE2:=hid ((HE1b.o.call h2).set (b:=w1.heap.size) (Nat.le_of_lt HLT.o) HGL.o HHL.o HRL.o HW0.o 1 (O A2 n2 c2));have HB3_2:=hid (HB3.o.mvk h2.1 HG1.o HH1.o);have HB2_2:=hid ((HB2_1b.o.mvk h2.1 HGL.o HHL.o).far (p:=⟨w1.heap.size,1,S⟩) (by have:=HLT.o;simp only;omega) (O A2 n2 c2));have HB3_2s:=hid (HB3_2.o.set_ 1 (O A2 n2 c2));have HD1b:=hid (HD1.o.keep (dX h2.1 (by have:=HGL.o;omega) (by have:=HHL.o;omega) 1 (O A2 n2 c2)));have HD2b:=hid (ht2.keep (jE (lo:=w.heap.size+1) (b:=w1.heap.size) (by have:=HLT.o;simp;omega) (by simp) 1 (O A2 n2 c2)));have y1:=HB3_2.o.cell;have y2:=HB3_2.o.frozen;have y3:=HB3_2s.o.cell;have y4:=HB2_2.o.cell;have y5:=HB2_2.o.frozen;clear h2 ht2;go_wp2_with fail
 have hF:=BA (w2.setCell ⟨w1.heap.size,1,S⟩ (O A2 n2 c2)) w.heap.size (O A1 n1 c1) (O A2 n2 c2);refine bodyPost_ret (v:=.agg #[O A1 n1 c1,O A2 n2 c2]) (AR (g:=w.heap.size) (by have:=(HB2_2.o.set_ 0 (O A1 n1 c1)).set_ 1 (O A2 n2 c2);simpa using this) (by simp)) rfl ⟨A1,n1,c1,A2,n2,c2,rfl,HD1b.o.keep (kY hF (Nat.lt_succ_self _) (Nat.le_succ _)),HD2b.o.keep (kY hF (Nat.lt_succ_self _) (Nat.le_succ _)),?_⟩;exact HE2.o.grow hF (Nat.le_refl _) HGL.o HHL.o HRL.o HW0.o
theorem DQ {w0 w:World} {κ:Rk} {s:Rd} (h:kC w0 κ s w) :
 Calls Tryz.prog 109 #[.pointer (some ⟨κ.h,0,S⟩),.func (.func 110) #[.pointer (some ⟨κ.h,0,S⟩)] #[]] w (LJ w0 κ (bO bK 255 eK s) w):=by
 have hen:∀ args w,(callFunc 110 args).run Tryz.prog w=.ok (.enter 110 args) w:=fun _ _=>by kernel_rfl
 obtain ⟨i0,hi,hy0,hy1,hy2⟩:=info_parts GI;have HI0:=hid hi;have HY0:=hid hy0;have HY1:=hid hy1;have HY2:=hid hy2;have hN:=fY h;have hle:=bD 255 s;have HRR:Hid (bO bK 255 eK s=aP bK eK (aJ 255 s).1 (aJ 255 s).2):=hid rfl;unfold aZ at hN;obtain ⟨q,hq⟩ : ∃ q,q=aJ 255 s:=⟨_,rfl⟩;rw [<-hq] at hN hle HRR;obtain ⟨v,s1⟩:=q;simp only at hN hle HRR;obtain ⟨res,hres⟩ : ∃ r,r=bO bK 255 eK s:=⟨_,rfl⟩;rw [<-hres] at HRR ⊢;have HN:=hid hN;have HGL:=hid h.g_lt;have HHL:=hid h.h_lt;have HRL:=hid h.R_lt;have HW0:=hid h.size;clear h hq hres hN hi hy0 hy1 hy2;go_in;go_wp2_with fail
 refine (HN.o).mono ?_;rintro e w1 ⟨rfl,hm1,hs1⟩;have HM1:=hid hm1;have HS1:=hid hs1;clear hm1 hs1;go_wp2_with fail
 go_loopw [5,9] (fun ov iv wr=>∃ (i d:Nat) (B:Option Addr) (vs:List Value) (acc:List Ct) (s2:Rd),ov=O B i d/\iv=.int .i64 (i:Int)/\i<=v/\Hid (acc.length=i)/\Hid (kC w0 κ s2 wr)/\Hid (nV κ w wr)/\Hid (wr.ownsRow w.heap.size 66 2 (O B i d) i (vs))/\Hid (vM (dR w.heap.size wr (O B i d)) wr vs acc)/\Hid (res=eE bK eK acc (v-i) s2)/\Hid (bK s2=true->acc=[])) (fun _ iv _=>v-(intOf iv).toNat)
 case atStart=>exact ⟨0,0,S,[],[],s1,rfl,rfl,Nat.zero_le _,hid rfl,HS1,HM1,hid (World.ownsRow_nil _ _ _ _),hid trivial,hid (by rw [HRR.o,Nat.sub_zero,eV]),hid (fun _=>rfl)⟩
 case round =>
  obtain ⟨i,d,B,vs,acc,s4,rfl,rfl,hiv,HAL,HS4,HM4,HO4,HR4,HRES,HZ⟩:=hrel;by_cases hlt:i<v;rotate_left
  · have hiv2:i=v:=aA;have d1:decide ((i:Int)<(v:Int))=false:=decide_eq_false aA;have d2:decide (i<v)=false:=decide_eq_false hlt;have HRES2:Hid (res=(acc,s4)):=hid (by
     rw [HRES.o,hiv2,Nat.sub_self];exact gB HZ.o)
    have hi255:i<=255:=aA;clear hiv2;go_wp2_with fail
    go_ret;rw [HRES2.o];exact ⟨B,i,d,rfl,BZ HO4.o HAL.o aA HR4.o (fun q hq=>⟨hq.1,hq.2.1⟩) (fun g hg=>⟨(aC HO4.o hg).1,(aC HO4.o hg).2.1⟩),HM4.o,HS4.o⟩
  have d1:decide ((i:Int)<(v:Int))=true:=decide_eq_true aA;have d2:decide (i<v)=true:=decide_eq_true hlt;have hC:=EJ HS4.o;obtain ⟨q,hq⟩ : ∃ q,q=eK s4:=⟨_,rfl⟩;rw [<-hq] at hC;obtain ⟨x,s5⟩:=q;have HQ:=hid hq.symm;have HC:=hid hC;clear hq hC;go_wp2_with fail
  first
   | refine (HC.o).mono ?_
   | (simp only [Array.empty_append,Array.append_empty];refine (HC.o).mono ?_)
   | (show Calls _ _ #[.pointer (some ⟨κ.h,0,S⟩)] _ _;refine (HC.o).mono ?_)
  rintro e w5 ⟨A5,n5,c5,A6,n6,c6,rfl,ht5,ht6,hm5,hs5⟩;have HM5x:=hid hm5;have HM5:=hid (HM4.o.trans_ hm5);have HS5:=hid hs5;have HO5:=hid (jB HO4.o hm5 HGL.o HHL.o);have HFA:=hid (lS (w5:=w5) HO4.o HM4.o.size);have HR5:=hid (vM.keep (qU HM5x.o HGL.o HHL.o) HR4.o);have HB5b:=hid (aB w5 (.cells #[O A5 n5 c5,O A6 n6 c6] 66));have HS5b:=hid (HS5.o.below HB5b.o);have HO5b:=hid (World.ownsRow.alloc HO5.o (.cells #[O A5 n5 c5,O A6 n6 c6] 66));have HT5:=hid ht5;have HT6:=hid ht6;clear ht5 ht6;have HBD:=hid (l8 HS5b.o);have HSZ:=hid HM5.o.size;have HSZb:=hid HB5b.o.size;clear hm5 hs5;obtain ⟨bd,hbd⟩ : ∃ b,b=bK s5:=⟨_,rfl⟩;rw [<-hbd] at HBD;cases bd with
  | true =>
   have HRES2:Hid (res=([],s5)):=hid (by
    rw [HRES.o,show v-i=(v-(i+1))+1 from by omega,fO (by rw [HQ.o];exact hbd.symm),HQ.o])
   clear hbd;go_wp2_with fail
   refine (HBD.o).mono ?_;rintro e w6 ⟨rfl,rfl⟩;go_wp2_with fail
   go_ret;rw [HRES2.o];exact ⟨S,0,0,rfl,⟨rfl,by decide,fun h=>absurd h (by decide)⟩,HM5.o.trans_ (nV.below HB5b.o),HS5b.o⟩
  | false =>
   have HRES2:Hid (res=eE bK eK (acc++[x]) (v-(i+1)) s5):=hid (by
    rw [HRES.o,show v-i=(v-(i+1))+1 from by omega,fJ (by rw [HQ.o];exact hbd.symm),HQ.o])
   have HBD2:=hid hbd;clear hbd;go_wp2_with fail
   refine (HBD.o).mono ?_;rintro e w6 ⟨rfl,rfl⟩;go_wp2_with (at_builtin;go_loud (refine aN rfl (cG (.tmp 15) (.tmp 17) 55 66 rfl w.heap.size i0 _ 2 48 Tryz.underlying55 HI0.o HY0.o HY1.o HY2.o rfl (by decide) (by decide) (O B i d) i (vs) [O A5 n5 c5,O A6 n6 c6] rfl (by intro u hu;simp at hu;(first | (rcases hu with rfl | rfl) | (subst hu))<;>rfl) (w5.alloc (.cells #[O A5 n5 c5,O A6 n6 c6] 66)) rfl rfl HO5b.o _ rfl (by simp) aA (Nat.le_trans HSZ.o HSZb.o) ?_));intro A8 c8 w8 happ;have HAPP:=hid happ;clear happ)
   go_roundw
   case rel =>
    have hg8:=HAPP.o.grown;have hne8:∀ b,(Value.slice B i d).ownBlock=some b->w.heap.size<=b:=fun b e=>(aC HO5b.o e).1;have hown8:=HAPP.o.own;exact ⟨i+1,c8,A8,vs++[O A5 n5 c5,O A6 n6 c6],acc++[x],s5,rfl,by go_num,by omega,hid (by simp [HAL.o]),hid (HS5b.o.grown hg8 hne8 HRL.o HGL.o HHL.o HW0.o),hid (iP (HM5.o.trans_ (nV.below HB5b.o)) hg8 hne8),hid (hown8),hid (vM.add (HT5.o.keep fun q hq=>(fU HB5b.o HAPP.o q (HFA.o q hq))) (HT6.o.keep fun q hq=>(fU HB5b.o HAPP.o q (HFA.o q hq))) (vM.keep (fU HB5b.o HAPP.o) HR5.o)),HRES2,hid (fun h=>by rw [<-HBD2.o] at h;cases h)⟩
   case measure=>simp [intOf];omega
end Go.Proofs.YtplecfbdchmogaaGreat
