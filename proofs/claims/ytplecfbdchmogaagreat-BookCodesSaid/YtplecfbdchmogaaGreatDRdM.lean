/- Programs that are read: rows, orders, pairs (book). -/
import Derived.Test.YtplecfbdchmogaaGreatDRdC
namespace Go.Proofs.YtplecfbdchmogaaGreat
open Go.Value renaming int → O, pointer → X, slice → J
open Go.IntKind renaming i64 → S
open Option renaming none → Y, some → Z
open Go.Obj renaming cells → I
open Go.Lib (hid)
set_option maxHeartbeats 4000000
set_option maxRecDepth 100000
set_option linter.unusedVariables false
set_option linter.unusedSimpArgs false
open Go.RowKit
theorem GK:(Tryz.prog.info? 78).map (fun i=>(i.zero,i.size,i.bytes))=Z (Z (.agg #[O S 0,O S 0,O S 0]),3,24):=by kernel_rfl
theorem GL:(Tryz.prog.info? 68).map (fun i=>(i.zero,i.size,i.bytes))=Z (Z (.agg #[O S 0,O S 0]),2,16):=by kernel_rfl
theorem DU {w0 w:World} {κ:Rk} {s:Rd} (h:kC w0 κ s w) :
 Calls Tryz.prog 131 #[X (Z ⟨κ.h,0,Y⟩),.func (.func 54) #[X (Z ⟨κ.g,0,Y⟩)] #[]] w (FG w0 κ (bO bK 255 bT s) w):=by
 have hen:∀ args w,(callFunc 54 args).run Tryz.prog w=.ok (.enter 54 args) w:=fun _ _=>by kernel_rfl
 obtain ⟨i0,hi,hy0,hy1,hy2⟩:=info_parts wQ;have HI0:=hid hi;have HY0:=hid hy0;have HY1:=hid hy1;have HY2:=hid hy2;have hN:=fY h;have hle:=bD 255 s;have HRR:Hid (bO bK 255 bT s=aP bK bT (aJ 255 s).1 (aJ 255 s).2):=hid rfl;unfold aZ at hN;obtain ⟨q,hq⟩ : ∃ q,q=aJ 255 s:=⟨_,rfl⟩;rw [<-hq] at hN hle HRR;obtain ⟨v,s1⟩:=q;simp only at hN hle HRR;obtain ⟨res,hres⟩ : ∃ r,r=bO bK 255 bT s:=⟨_,rfl⟩;rw [<-hres] at HRR ⊢;have HN:=hid hN;have HGL:=hid h.g_lt;have HHL:=hid h.h_lt;have HRL:=hid h.R_lt;have HW0:=hid h.size;clear h hq hres hN hi hy0 hy1 hy2;go_in;go_wp2_with fail
 refine (HN.o).mono ?_;rintro e w1 ⟨rfl,hm1,hs1⟩;have HM1:=hid hm1;have HS1:=hid hs1;clear hm1 hs1;go_wp2_with fail
 go_loopw [5,9] (fun ov iv wr=>∃ (i d:Nat) (B:Option Addr) (vs:List Value) (acc:List (List Nd)) (s2:Rd),ov=J B i d/\iv=O S (i:Int)/\i<=v/\Hid (acc.length=i)/\Hid (kC w0 κ s2 wr)/\Hid (nV κ w wr)/\Hid (wr.ownsRow w.heap.size 28 1 (J B i d) i (vs))/\Hid (cV (dR w.heap.size wr (J B i d)) wr vs acc)/\Hid (res=eE bK bT acc (v-i) s2)/\Hid (bK s2=true->acc=[])) (fun _ iv _=>v-(intOf iv).toNat)
 case atStart=>exact ⟨0,0,Y,[],[],s1,rfl,rfl,Nat.zero_le _,hid rfl,HS1,HM1,hid (World.ownsRow_nil _ _ _ _),hid trivial,hid (by rw [HRR.o,Nat.sub_zero,eV]),hid (fun _=>rfl)⟩
 case round =>
  obtain ⟨i,d,B,vs,acc,s4,rfl,rfl,hiv,HAL,HS4,HM4,HO4,HR4,HRES,HZ⟩:=hrel;by_cases hlt:i<v;rotate_left
  · have hiv2:i=v:=aA;have d1:decide ((i:Int)<(v:Int))=false:=decide_eq_false aA;have d2:decide (i<v)=false:=decide_eq_false hlt;have HRES2:Hid (res=(acc,s4)):=hid (by
     rw [HRES.o,hiv2,Nat.sub_self];exact gB HZ.o)
    have hi255:i<=255:=aA;clear hiv2;go_wp2_with fail
    go_ret;rw [HRES2.o];exact ⟨B,i,d,rfl,pF HO4.o HAL.o.symm aA HR4.o (fun q hq=>⟨hq.1,hq.2.1⟩) (fun g hg=>⟨(aC HO4.o hg).1,(aC HO4.o hg).2.1⟩),HM4.o,HS4.o⟩
  have d1:decide ((i:Int)<(v:Int))=true:=decide_eq_true aA;have d2:decide (i<v)=true:=decide_eq_true hlt;have hC:=kM HS4.o;obtain ⟨q,hq⟩ : ∃ q,q=bT s4:=⟨_,rfl⟩;rw [<-hq] at hC;obtain ⟨x,s5⟩:=q;have HQ:=hid hq.symm;have HC:=hid hC;clear hq hC;go_wp2_with fail
  first
   | refine (HC.o).mono ?_
   | (simp only [Array.empty_append,Array.append_empty];refine (HC.o).mono ?_)
   | (show Calls _ _ #[X (Z ⟨κ.g,0,Y⟩)] _ _;refine (HC.o).mono ?_)
  rintro e w5 ⟨A5,n5,c5,rfl,ht5,hm5,hs5⟩;have HM5x:=hid hm5;have HM5:=hid (HM4.o.trans_ hm5);have HS5:=hid hs5;have HO5:=hid (jB HO4.o hm5 HGL.o HHL.o);have HFA:=hid (lS (w5:=w5) HO4.o HM4.o.size);have HR5:=hid (cV.keep (qU HM5x.o HGL.o HHL.o) HR4.o);have HB5b:=hid (Below.refl w5.heap.size w5);have HS5b:=HS5;have HO5b:=HO5;have HT5:=hid ht5;clear ht5;have HBD:=hid (l8 HS5b.o);have HSZ:=hid HM5.o.size;have HSZb:=hid HB5b.o.size;clear hm5 hs5;obtain ⟨bd,hbd⟩ : ∃ b,b=bK s5:=⟨_,rfl⟩;rw [<-hbd] at HBD;cases bd with
  | true =>
   have HRES2:Hid (res=([],s5)):=hid (by
    rw [HRES.o,show v-i=(v-(i+1))+1 from by omega,fO (by rw [HQ.o];exact hbd.symm),HQ.o])
   clear hbd;go_wp2_with fail
   refine (HBD.o).mono ?_;rintro e w6 ⟨rfl,rfl⟩;go_wp2_with fail
   go_ret;rw [HRES2.o];exact ⟨Y,0,0,rfl,⟨rfl,by decide,fun h=>absurd h (by decide)⟩,HM5.o.trans_ (nV.below HB5b.o),HS5b.o⟩
  | false =>
   have HRES2:Hid (res=eE bK bT (acc++[x]) (v-(i+1)) s5):=hid (by
    rw [HRES.o,show v-i=(v-(i+1))+1 from by omega,fJ (by rw [HQ.o];exact hbd.symm),HQ.o])
   have HBD2:=hid hbd;clear hbd;go_wp2_with fail
   refine (HBD.o).mono ?_;rintro e w6 ⟨rfl,rfl⟩;go_wp2_with (at_builtin;go_loud (refine aN rfl (cG (.tmp 15) (.tmp 17) 54 28 rfl w.heap.size i0 _ 1 24 Tryz.underlying54 HI0.o HY0.o HY1.o HY2.o rfl (by decide) (by decide) (J B i d) i (vs) [J A5 n5 c5] rfl (by intro u hu;simp at hu;(first | (rcases hu with rfl) | (subst hu))<;>rfl) w5 rfl rfl HO5b.o _ rfl (by simp) aA (Nat.le_trans HSZ.o HSZb.o) ?_));intro A8 c8 w8 happ;have HAPP:=hid happ;clear happ)
   go_roundw
   case rel =>
    have hg8:=HAPP.o.grown;have hne8:∀ b,(Value.slice B i d).ownBlock=Z b->w.heap.size<=b:=fun b e=>(aC HO5b.o e).1;have hown8:=HAPP.o.own;exact ⟨i+1,c8,A8,vs++[J A5 n5 c5],acc++[x],s5,rfl,by go_num,by omega,hid (by simp [HAL.o]),hid (HS5b.o.grown hg8 hne8 HRL.o HGL.o HHL.o HW0.o),hid (iP (HM5.o.trans_ (nV.below HB5b.o)) hg8 hne8),hid (hown8),hid (cV.add (HT5.o.keep fun q hq=>(fU HB5b.o HAPP.o q (HFA.o q hq))) (cV.keep (fU HB5b.o HAPP.o) HR5.o)),HRES2,hid (fun h=>by rw [<-HBD2.o] at h;cases h)⟩
   case measure=>simp [intOf];omega
theorem mW {w0 w:World} {κ:Rk} {s:Rd} (h:kC w0 κ s w):Calls Tryz.prog 108 #[X (Z ⟨κ.h,0,Y⟩)] w (FG w0 κ (eH s) w):=by
 have hmf:∀ (fn:Fn) (first cap:Array Value) (w:World),(Instr.makeFunc fn first cap).run Tryz.prog w=.ok (.func fn first cap) w:=fun _ _ _ _=>rfl;have HC:=hid (DU h);have z0:=h.blk.cell 0;have HE:Hid (eH s=bO bK 255 bT s):=hid rfl;rw [HE.o];obtain ⟨r,hr⟩ : ∃ r,r=bO bK 255 bT s:=⟨_,rfl⟩;rw [<-hr] at HC ⊢;clear h hr HE;go_in;go_wp2_with fail
 refine (HC.o).mono ?_;rintro e w1 ⟨A1,n1,c1,rfl,h1,h2⟩;have H1:=hid h1;have H2:=hid h2;clear h1 h2;go_wp2_with fail
 go_ret;exact ⟨A1,n1,c1,rfl,H1.o,H2.o⟩
theorem x8 {w:World} {g:Nat} {c0 c1 c2:Value} {tmps:Array Value} (h:aE w g 78 #[c0,c1,c2]) (ht:tmps.getD 2 undef=X (Z ⟨g,0,Y⟩)) :
 (results Tryz.f49 tmps).run Tryz.prog w=.ok (.agg #[c0,c1,c2]) w:=by
 have hc:=h.cell;have ht':tmps[2]?.getD undef=X (Z ⟨g,0,Y⟩):=by rw [<-ht];simp
 simp [results,Tryz.results49,go_sem,ht',hc]
theorem AU {w0 w:World} {κ:Rk} {s:Rd} (h:kC w0 κ s w):Calls Tryz.prog 49 #[X (Z ⟨κ.h,0,Y⟩)] w (LL w0 κ (eC s) w):=by
 have hb0:=aB w (I #[O S 0,O S 0,O S 0] 78);have HS0:=hid (h.below hb0);have HE0:=hid ((kB.refl h).below hb0);have HB2:=hid (aE.new w 78 #[O S 0,O S 0,O S 0]);have HGL:=hid h.g_lt;have HHL:=hid h.h_lt;have HRL:=hid h.R_lt;have HW0:=hid h.size;have hs0:w.heap.size<(w.alloc (I #[O S 0,O S 0,O S 0] 78)).heap.size:=by simp
 have hn1:=fY HS0.o;obtain ⟨q1,hq1⟩ : ∃ q,q=aZ 255 s:=⟨_,rfl⟩;obtain ⟨x1,s1⟩:=q1;rw [<-hq1] at hn1;obtain ⟨q2,hq2⟩ : ∃ q,q=gM s1:=⟨_,rfl⟩;obtain ⟨x2,s2⟩:=q2;obtain ⟨q3,hq3⟩ : ∃ q,q=aZ 255 s2:=⟨_,rfl⟩;obtain ⟨x3,s3⟩:=q3;have HE:Hid (eC s=(⟨x1,x2,x3⟩,s3)):=hid (by simp only [eC,bL.seq,bL.pure,<-hq1,<-hq2,<-hq3]);have HQ2:=hid hq2;have HQ3:=hid hq3;have HN1:=hid hn1;rw [HE.o];clear h hq1 hq2 hq3 hn1 hb0 hs0;go_in;go_wp2_with fail
 refine (HN1.o).mono ?_;rintro e w1 ⟨rfl,h1⟩;simp only at h1 ⊢;have HE1:=hid (HE0.o.call h1);have HB2_1:=hid (HB2.o.mvk h1.1 HGL.o HHL.o);have hs1:=h1.1.size;have hbb:=aB w1 (I #[O S x1,O S 0,O S 0] 78);have HE1b:=hid (HE1.o.below hbb);have HB3:=hid (aE.new w1 78 #[O S x1,O S 0,O S 0]);have HB2_1b:=hid ((HB2_1).o.below hbb HB2_1.o.lt);have HN2:=hid (wW HE1b.o.2);rw [<-HQ2.o] at HN2;have HG1:=hid (show κ.g<w1.heap.size from Nat.lt_of_lt_of_le (show κ.g<w.heap.size+1 from by have:=HGL.o;omega) (by simpa using hs1));have HH1:=hid (show κ.h<w1.heap.size from Nat.lt_of_lt_of_le (show κ.h<w.heap.size+1 from by have:=HHL.o;omega) (by simpa using hs1));have HLT:=hid (show w.heap.size<w1.heap.size from Nat.lt_of_lt_of_le (Nat.lt_succ_self _) (by simpa using hs1));have y0:=HE1b.o.2.blk.cell 0;clear h1 hbb hs1;go_wp2_with fail
 refine (HN2.o).mono ?_;rintro e w2 ⟨rfl,h2⟩;simp only at h2 ⊢;have HE2:=hid ((HE1b.o.call h2).set (b:=w1.heap.size) (Nat.le_of_lt HLT.o) HGL.o HHL.o HRL.o HW0.o 1 (O S x2));have HB3_2:=hid (HB3.o.mvk h2.1 HG1.o HH1.o);have HB2_2:=hid ((HB2_1b.o.mvk h2.1 HGL.o HHL.o).far (p:=⟨w1.heap.size,1,Y⟩) (by have:=HLT.o;simp only;omega) (O S x2));have HB3_2s:=hid (HB3_2.o.set_ 1 (O S x2));have y1:=HB3_2.o.cell;have y2:=HB3_2.o.frozen;have HN3:=hid (fY HE2.o.2);rw [<-HQ3.o] at HN3;clear h2 y0;go_wp2_with fail
 refine (HN3.o).mono ?_;rintro e w3 ⟨rfl,h3⟩;simp only at h3 ⊢;have HE3:=hid ((HE2.o.call h3).set (b:=w1.heap.size) (Nat.le_of_lt HLT.o) HGL.o HHL.o HRL.o HW0.o 2 (O S x3));have HB3_3:=hid (HB3_2s.o.mvk h3.1 HG1.o HH1.o);have HB3_3s:=hid (HB3_3.o.set_ 2 (O S x3));have HB2_3:=hid ((HB2_2.o.mvk h3.1 HGL.o HHL.o).far (p:=⟨w1.heap.size,2,Y⟩) (by have:=HLT.o;simp only;omega) (O S x3));clear y1 y2;have y1:=HB3_3.o.cell;have y2:=HB3_3.o.frozen;have y3:=HB3_3s.o.cell;have y4:=HB2_3.o.cell;have y5:=HB2_3.o.frozen;clear h3;go_wp2_with fail
 refine bodyPost_ret (v:=.agg #[O S x1,O S x2,O S x3]) (x8 (g:=w.heap.size) (by have:=((HB2_3.o.set_ 0 (O S x1)).set_ 1 (O S x2)).set_ 2 (O S x3);simpa using this) (by simp)) rfl ⟨rfl,?_⟩;exact ((HE3.o.set (Nat.le_refl _) HGL.o HHL.o HRL.o HW0.o 0 (O S x1)).set (Nat.le_refl _) HGL.o HHL.o HRL.o HW0.o 1 (O S x2)).set (Nat.le_refl _) HGL.o HHL.o HRL.o HW0.o 2 (O S x3)
theorem DS {w0 w:World} {κ:Rk} {s:Rd} (h:kC w0 κ s w) :
 Calls Tryz.prog 48 #[X (Z ⟨κ.h,0,Y⟩),.func (.func 49) #[X (Z ⟨κ.h,0,Y⟩)] #[]] w (MB w0 κ (bO bK 255 eC s) w):=by
 have hen:∀ args w,(callFunc 49 args).run Tryz.prog w=.ok (.enter 49 args) w:=fun _ _=>by kernel_rfl
 obtain ⟨i0,hi,hy0,hy1,hy2⟩:=info_parts GK;have HI0:=hid hi;have HY0:=hid hy0;have HY1:=hid hy1;have HY2:=hid hy2;have hN:=fY h;have hle:=bD 255 s;have HRR:Hid (bO bK 255 eC s=aP bK eC (aJ 255 s).1 (aJ 255 s).2):=hid rfl;unfold aZ at hN;obtain ⟨q,hq⟩ : ∃ q,q=aJ 255 s:=⟨_,rfl⟩;rw [<-hq] at hN hle HRR;obtain ⟨v,s1⟩:=q;simp only at hN hle HRR;obtain ⟨res,hres⟩ : ∃ r,r=bO bK 255 eC s:=⟨_,rfl⟩;rw [<-hres] at HRR ⊢;have HN:=hid hN;have HGL:=hid h.g_lt;have HHL:=hid h.h_lt;have HRL:=hid h.R_lt;have HW0:=hid h.size;clear h hq hres hN hi hy0 hy1 hy2;go_in;go_wp2_with fail
 refine (HN.o).mono ?_;rintro e w1 ⟨rfl,hm1,hs1⟩;have HM1:=hid hm1;have HS1:=hid hs1;clear hm1 hs1;go_wp2_with fail
 go_loopw [5,9] (fun ov iv wr=>∃ (i d:Nat) (B:Option Addr) (acc:List Nd) (s2:Rd),ov=J B i d/\iv=O S (i:Int)/\i<=v/\Hid (acc.length=i)/\Hid (kC w0 κ s2 wr)/\Hid (nV κ w wr)/\Hid (wr.ownsRow w.heap.size 78 3 (J B i d) i (gK acc))/\Hid (res=eE bK eC acc (v-i) s2)/\Hid (bK s2=true->acc=[])) (fun _ iv _=>v-(intOf iv).toNat)
 case atStart=>exact ⟨0,0,Y,[],s1,rfl,rfl,Nat.zero_le _,hid rfl,HS1,HM1,hid (World.ownsRow_nil _ _ _ _),hid (by rw [HRR.o,Nat.sub_zero,eV]),hid (fun _=>rfl)⟩
 case round =>
  obtain ⟨i,d,B,acc,s4,rfl,rfl,hiv,HAL,HS4,HM4,HO4,HRES,HZ⟩:=hrel;by_cases hlt:i<v;rotate_left
  · have hiv2:i=v:=aA;have d1:decide ((i:Int)<(v:Int))=false:=decide_eq_false aA;have d2:decide (i<v)=false:=decide_eq_false hlt;have HRES2:Hid (res=(acc,s4)):=hid (by
     rw [HRES.o,hiv2,Nat.sub_self];exact gB HZ.o)
    have hi255:i<=255:=aA;clear hiv2;go_wp2_with fail
    go_ret;rw [HRES2.o];exact ⟨B,i,d,rfl,B0 HO4.o HAL.o aA (fun g hg=>⟨(aC HO4.o hg).1,(aC HO4.o hg).2.1⟩),HM4.o,HS4.o⟩
  have d1:decide ((i:Int)<(v:Int))=true:=decide_eq_true aA;have d2:decide (i<v)=true:=decide_eq_true hlt;have hC:=AU HS4.o;obtain ⟨q,hq⟩ : ∃ q,q=eC s4:=⟨_,rfl⟩;rw [<-hq] at hC;obtain ⟨x,s5⟩:=q;have HQ:=hid hq.symm;have HC:=hid hC;clear hq hC;go_wp2_with fail
  first
   | refine (HC.o).mono ?_
   | (simp only [Array.empty_append,Array.append_empty];refine (HC.o).mono ?_)
   | (show Calls _ _ #[X (Z ⟨κ.h,0,Y⟩)] _ _;refine (HC.o).mono ?_)
  rintro e w5 ⟨rfl,hm5,hs5⟩;have HM5x:=hid hm5;have HM5:=hid (HM4.o.trans_ hm5);have HS5:=hid hs5;have HO5:=hid (jB HO4.o hm5 HGL.o HHL.o);have HB5b:=hid (aB w5 (I #[O S x.op,O S x.a,O S x.b] 78));have HS5b:=hid (HS5.o.below HB5b.o);have HO5b:=hid (World.ownsRow.alloc HO5.o (I #[O S x.op,O S x.a,O S x.b] 78));have HBD:=hid (l8 HS5b.o);have HSZ:=hid HM5.o.size;have HSZb:=hid HB5b.o.size;clear hm5 hs5;obtain ⟨bd,hbd⟩ : ∃ b,b=bK s5:=⟨_,rfl⟩;rw [<-hbd] at HBD;cases bd with
  | true =>
   have HRES2:Hid (res=([],s5)):=hid (by
    rw [HRES.o,show v-i=(v-(i+1))+1 from by omega,fO (by rw [HQ.o];exact hbd.symm),HQ.o])
   clear hbd;go_wp2_with fail
   refine (HBD.o).mono ?_;rintro e w6 ⟨rfl,rfl⟩;go_wp2_with fail
   go_ret;rw [HRES2.o];exact ⟨Y,0,0,rfl,⟨rfl,Nat.le_refl _,Nat.zero_le _,fun _=>rfl,fun h=>absurd h (by decide)⟩,HM5.o.trans_ (nV.below HB5b.o),HS5b.o⟩
  | false =>
   have HRES2:Hid (res=eE bK eC (acc++[x]) (v-(i+1)) s5):=hid (by
    rw [HRES.o,show v-i=(v-(i+1))+1 from by omega,fJ (by rw [HQ.o];exact hbd.symm),HQ.o])
   have HBD2:=hid hbd;clear hbd;go_wp2_with fail
   refine (HBD.o).mono ?_;rintro e w6 ⟨rfl,rfl⟩;go_wp2_with (at_builtin;go_loud (refine aN rfl (cG (.tmp 15) (.tmp 17) 22 78 rfl w.heap.size i0 _ 3 24 Tryz.underlying22 HI0.o HY0.o HY1.o HY2.o rfl (by decide) (by decide) (J B i d) i (gK acc) [O S x.op,O S x.a,O S x.b] rfl (by intro u hu;simp at hu;(first | (rcases hu with rfl | rfl | rfl) | (subst hu))<;>rfl) (w5.alloc (I #[O S x.op,O S x.a,O S x.b] 78)) rfl rfl HO5b.o _ rfl (by simp) aA (Nat.le_trans HSZ.o HSZb.o) ?_));intro A8 c8 w8 happ;have HAPP:=hid happ;clear happ)
   go_roundw
   case rel =>
    have hg8:=HAPP.o.grown;have hne8:∀ b,(Value.slice B i d).ownBlock=Z b->w.heap.size<=b:=fun b e=>(aC HO5b.o e).1;have hown8:=HAPP.o.own;exact ⟨i+1,c8,A8,acc++[x],s5,rfl,by go_num,by omega,hid (by simp [HAL.o]),hid (HS5b.o.grown hg8 hne8 HRL.o HGL.o HHL.o HW0.o),hid (iP (HM5.o.trans_ (nV.below HB5b.o)) hg8 hne8),hid (by have h:=hown8;rw [lR];simpa [gK,fV] using h),HRES2,hid (fun h=>by rw [<-HBD2.o] at h;cases h)⟩
   case measure=>simp [intOf];omega
theorem x9 {w:World} {g:Nat} {c0 c1:Value} {tmps:Array Value} (h:aE w g 68 #[c0,c1]) (ht:tmps.getD 2 undef=X (Z ⟨g,0,Y⟩)) :
 (results Tryz.f53 tmps).run Tryz.prog w=.ok (.agg #[c0,c1]) w:=by
 have hc:=h.cell;have ht':tmps[2]?.getD undef=X (Z ⟨g,0,Y⟩):=by rw [<-ht];simp
 simp [results,Tryz.results53,go_sem,ht',hc]
theorem EU {w0 w:World} {κ:Rk} {s:Rd} (h:kC w0 κ s w):Calls Tryz.prog 53 #[X (Z ⟨κ.h,0,Y⟩)] w (LM w0 κ (dF s) w):=by
 have hb0:=aB w (I #[O S 0,O S 0] 68);have HS0:=hid (h.below hb0);have HE0:=hid ((kB.refl h).below hb0);have HB2:=hid (aE.new w 68 #[O S 0,O S 0]);have HGL:=hid h.g_lt;have HHL:=hid h.h_lt;have HRL:=hid h.R_lt;have HW0:=hid h.size;have hs0:w.heap.size<(w.alloc (I #[O S 0,O S 0] 68)).heap.size:=by simp
 have hn1:=fY HS0.o;obtain ⟨q1,hq1⟩ : ∃ q,q=aZ 255 s:=⟨_,rfl⟩;obtain ⟨x1,s1⟩:=q1;rw [<-hq1] at hn1;obtain ⟨q2,hq2⟩ : ∃ q,q=aZ 255 s1:=⟨_,rfl⟩;obtain ⟨x2,s2⟩:=q2;have HE:Hid (dF s=((x1,x2),s2)):=hid (by simp only [dF,bL.seq,bL.pure,<-hq1,<-hq2]);have HQ2:=hid hq2;have HN1:=hid hn1;rw [HE.o];clear h hq1 hq2 hn1 hb0 hs0;go_in;go_wp2_with fail
 refine (HN1.o).mono ?_;rintro e w1 ⟨rfl,h1⟩;simp only at h1 ⊢;have HE1:=hid (HE0.o.call h1);have HB2_1:=hid (HB2.o.mvk h1.1 HGL.o HHL.o);have hs1:=h1.1.size;have hbb:=aB w1 (I #[O S x1,O S 0] 68);have HE1b:=hid (HE1.o.below hbb);have HB3:=hid (aE.new w1 68 #[O S x1,O S 0]);have HB2_1b:=hid ((HB2_1).o.below hbb HB2_1.o.lt);have HN2:=hid (fY HE1b.o.2);rw [<-HQ2.o] at HN2;have HG1:=hid (show κ.g<w1.heap.size from Nat.lt_of_lt_of_le (show κ.g<w.heap.size+1 from by have:=HGL.o;omega) (by simpa using hs1));have HH1:=hid (show κ.h<w1.heap.size from Nat.lt_of_lt_of_le (show κ.h<w.heap.size+1 from by have:=HHL.o;omega) (by simpa using hs1));have HLT:=hid (show w.heap.size<w1.heap.size from Nat.lt_of_lt_of_le (Nat.lt_succ_self _) (by simpa using hs1));clear h1 hbb hs1;go_wp2_with fail
 refine (HN2.o).mono ?_;rintro e w2 ⟨rfl,h2⟩;simp only at h2 ⊢;have HE2:=hid ((HE1b.o.call h2).set (b:=w1.heap.size) (Nat.le_of_lt HLT.o) HGL.o HHL.o HRL.o HW0.o 1 (O S x2));have HB3_2:=hid (HB3.o.mvk h2.1 HG1.o HH1.o);have HB2_2:=hid ((HB2_1b.o.mvk h2.1 HGL.o HHL.o).far (p:=⟨w1.heap.size,1,Y⟩) (by have:=HLT.o;simp only;omega) (O S x2));have HB3_2s:=hid (HB3_2.o.set_ 1 (O S x2));have y1:=HB3_2.o.cell;have y2:=HB3_2.o.frozen;have y3:=HB3_2s.o.cell;have y4:=HB2_2.o.cell;have y5:=HB2_2.o.frozen;clear h2;go_wp2_with fail
 refine bodyPost_ret (v:=.agg #[O S x1,O S x2]) (x9 (g:=w.heap.size) (by have:=(HB2_2.o.set_ 0 (O S x1)).set_ 1 (O S x2);simpa using this) (by simp)) rfl ⟨rfl,?_⟩;exact (HE2.o.set (Nat.le_refl _) HGL.o HHL.o HRL.o HW0.o 0 (O S x1)).set (Nat.le_refl _) HGL.o HHL.o HRL.o HW0.o 1 (O S x2)
theorem DT {w0 w:World} {κ:Rk} {s:Rd} (h:kC w0 κ s w) :
 Calls Tryz.prog 52 #[X (Z ⟨κ.h,0,Y⟩),.func (.func 53) #[X (Z ⟨κ.h,0,Y⟩)] #[]] w (LN w0 κ (bO bK 255 dF s) w):=by
 have hen:∀ args w,(callFunc 53 args).run Tryz.prog w=.ok (.enter 53 args) w:=fun _ _=>by kernel_rfl
 obtain ⟨i0,hi,hy0,hy1,hy2⟩:=info_parts GL;have HI0:=hid hi;have HY0:=hid hy0;have HY1:=hid hy1;have HY2:=hid hy2;have hN:=fY h;have hle:=bD 255 s;have HRR:Hid (bO bK 255 dF s=aP bK dF (aJ 255 s).1 (aJ 255 s).2):=hid rfl;unfold aZ at hN;obtain ⟨q,hq⟩ : ∃ q,q=aJ 255 s:=⟨_,rfl⟩;rw [<-hq] at hN hle HRR;obtain ⟨v,s1⟩:=q;simp only at hN hle HRR;obtain ⟨res,hres⟩ : ∃ r,r=bO bK 255 dF s:=⟨_,rfl⟩;rw [<-hres] at HRR ⊢;have HN:=hid hN;have HGL:=hid h.g_lt;have HHL:=hid h.h_lt;have HRL:=hid h.R_lt;have HW0:=hid h.size;clear h hq hres hN hi hy0 hy1 hy2;go_in;go_wp2_with fail
 refine (HN.o).mono ?_;rintro e w1 ⟨rfl,hm1,hs1⟩;have HM1:=hid hm1;have HS1:=hid hs1;clear hm1 hs1;go_wp2_with fail
 go_loopw [5,9] (fun ov iv wr=>∃ (i d:Nat) (B:Option Addr) (acc:List (Int×Int)) (s2:Rd),ov=J B i d/\iv=O S (i:Int)/\i<=v/\Hid (acc.length=i)/\Hid (kC w0 κ s2 wr)/\Hid (nV κ w wr)/\Hid (wr.ownsRow w.heap.size 68 2 (J B i d) i (j5 acc))/\Hid (res=eE bK dF acc (v-i) s2)/\Hid (bK s2=true->acc=[])) (fun _ iv _=>v-(intOf iv).toNat)
 case atStart=>exact ⟨0,0,Y,[],s1,rfl,rfl,Nat.zero_le _,hid rfl,HS1,HM1,hid (World.ownsRow_nil _ _ _ _),hid (by rw [HRR.o,Nat.sub_zero,eV]),hid (fun _=>rfl)⟩
 case round =>
  obtain ⟨i,d,B,acc,s4,rfl,rfl,hiv,HAL,HS4,HM4,HO4,HRES,HZ⟩:=hrel;by_cases hlt:i<v;rotate_left
  · have hiv2:i=v:=aA;have d1:decide ((i:Int)<(v:Int))=false:=decide_eq_false aA;have d2:decide (i<v)=false:=decide_eq_false hlt;have HRES2:Hid (res=(acc,s4)):=hid (by
     rw [HRES.o,hiv2,Nat.sub_self];exact gB HZ.o)
    have hi255:i<=255:=aA;clear hiv2;go_wp2_with fail
    go_ret;rw [HRES2.o];exact ⟨B,i,d,rfl,rQ HO4.o HAL.o aA (fun g hg=>⟨(aC HO4.o hg).1,(aC HO4.o hg).2.1⟩),jU HO4.o,HM4.o,HS4.o⟩
  have d1:decide ((i:Int)<(v:Int))=true:=decide_eq_true aA;have d2:decide (i<v)=true:=decide_eq_true hlt;have hC:=EU HS4.o;obtain ⟨q,hq⟩ : ∃ q,q=dF s4:=⟨_,rfl⟩;rw [<-hq] at hC;obtain ⟨x,s5⟩:=q;have HQ:=hid hq.symm;have HC:=hid hC;clear hq hC;go_wp2_with fail
  first
   | refine (HC.o).mono ?_
   | (simp only [Array.empty_append,Array.append_empty];refine (HC.o).mono ?_)
   | (show Calls _ _ #[X (Z ⟨κ.h,0,Y⟩)] _ _;refine (HC.o).mono ?_)
  rintro e w5 ⟨rfl,hm5,hs5⟩;have HM5x:=hid hm5;have HM5:=hid (HM4.o.trans_ hm5);have HS5:=hid hs5;have HO5:=hid (jB HO4.o hm5 HGL.o HHL.o);have HB5b:=hid (aB w5 (I #[O S x.1,O S x.2] 68));have HS5b:=hid (HS5.o.below HB5b.o);have HO5b:=hid (World.ownsRow.alloc HO5.o (I #[O S x.1,O S x.2] 68));have HBD:=hid (l8 HS5b.o);have HSZ:=hid HM5.o.size;have HSZb:=hid HB5b.o.size;clear hm5 hs5;obtain ⟨bd,hbd⟩ : ∃ b,b=bK s5:=⟨_,rfl⟩;rw [<-hbd] at HBD;cases bd with
  | true =>
   have HRES2:Hid (res=([],s5)):=hid (by
    rw [HRES.o,show v-i=(v-(i+1))+1 from by omega,fO (by rw [HQ.o];exact hbd.symm),HQ.o])
   clear hbd;go_wp2_with fail
   refine (HBD.o).mono ?_;rintro e w6 ⟨rfl,rfl⟩;go_wp2_with fail
   go_ret;rw [HRES2.o];exact ⟨Y,0,0,rfl,⟨rfl,by decide,fun h=>absurd h (by decide)⟩,fun _=>rfl,HM5.o.trans_ (nV.below HB5b.o),HS5b.o⟩
  | false =>
   have HRES2:Hid (res=eE bK dF (acc++[x]) (v-(i+1)) s5):=hid (by
    rw [HRES.o,show v-i=(v-(i+1))+1 from by omega,fJ (by rw [HQ.o];exact hbd.symm),HQ.o])
   have HBD2:=hid hbd;clear hbd;go_wp2_with fail
   refine (HBD.o).mono ?_;rintro e w6 ⟨rfl,rfl⟩;go_wp2_with (at_builtin;go_loud (refine aN rfl (cG (.tmp 15) (.tmp 17) 24 68 rfl w.heap.size i0 _ 2 16 Tryz.underlying24 HI0.o HY0.o HY1.o HY2.o rfl (by decide) (by decide) (J B i d) i (j5 acc) [O S x.1,O S x.2] rfl (by intro u hu;simp at hu;(first | (rcases hu with rfl | rfl) | (subst hu))<;>rfl) (w5.alloc (I #[O S x.1,O S x.2] 68)) rfl rfl HO5b.o _ rfl (by simp) aA (Nat.le_trans HSZ.o HSZb.o) ?_));intro A8 c8 w8 happ;have HAPP:=hid happ;clear happ)
   go_roundw
   case rel =>
    have hg8:=HAPP.o.grown;have hne8:∀ b,(Value.slice B i d).ownBlock=Z b->w.heap.size<=b:=fun b e=>(aC HO5b.o e).1;have hown8:=HAPP.o.own;exact ⟨i+1,c8,A8,acc++[x],s5,rfl,by go_num,by omega,hid (by simp [HAL.o]),hid (HS5b.o.grown hg8 hne8 HRL.o HGL.o HHL.o HW0.o),hid (iP (HM5.o.trans_ (nV.below HB5b.o)) hg8 hne8),hid (by have h:=hown8;simpa [j5] using h),HRES2,hid (fun h=>by rw [<-HBD2.o] at h;cases h)⟩
   case measure=>simp [intOf];omega
end Go.Proofs.YtplecfbdchmogaaGreat
