/- Programs that are written: orders and entries (book). -/
import Derived.Test.YtplecfbdchmogaaGreatDShort2
import Derived.Test.YtplecfbdchmogaaGreatDWrt
import Derived.Test.YtplecfbdchmogaaGreatDWrtE
import Derived.Test.YtplecfbdchmogaaGreatDProgW
namespace Go.Proofs.YtplecfbdchmogaaGreat
open Go.Value renaming int → O, slice → Y, pointer → J
open Go.IntKind renaming i64 → X
open Option renaming none → Z
open Go.Obj renaming cells → I
open Go.Lib (hid)
set_option maxHeartbeats 4000000
set_option maxRecDepth 100000
set_option linter.unusedVariables false
set_option linter.unusedSimpArgs false
open Go.RowKit
theorem JE (w:World) {g:Nat} (hg:g=w.heap.size) (z:Int):iZ (· < (w.alloc (I #[O X z] 3)).heap.size) (w.alloc (I #[O X z] 3)) (some ⟨g,0,Z⟩) 1 1 [z]:=by
 subst hg;exact kL w z rfl
theorem mO {w0 w:World} {g:Nat} {bs:List Nat} {z:Int} {b:Nat} (h:lH w0 g bs w) (hb:b=w.heap.size) (h1:0<=z) (h2:z<=255) (hl:bs.length<=4500000000000) :
 Calls Tryz.prog 36 #[J (some ⟨g,0,Z⟩),Y (some ⟨b,0,Z⟩) 1 1] (w.alloc (I #[O X z] 3)) (yQ w0 g (bs++aH z.toNat) (w.alloc (I #[O X z] 3))):=by
 have hn:=jZ (h.below (aB w (I #[O X z] 3))) (JE w hb z) (fun q hq=>by
  rw [List.mem_singleton] at hq;subst hq;exact ⟨h1,by omega⟩) hl (by decide) (d:=1)
 rwa [show cO [z]=aH z.toNat from by simp [cO]] at hn
theorem BL {w0 w:World} {g:Nat} {bs:List Nat} {o a b:Int} (h:lH w0 g bs w) (hw:uW ⟨o,a,b⟩) (hl:(bs++eU ⟨o,a,b⟩).length<=4500000000000) :
 Calls Tryz.prog 38 #[J (some ⟨g,0,Z⟩),.agg #[O X o,O X a,O X b]] w (yQ w0 g (bs++eU ⟨o,a,b⟩) w):=by
 obtain ⟨⟨w1,w2⟩,⟨w3,w4⟩,w5,w6⟩:=hw;simp only at w1 w2 w3 w4 w5 w6;have HO1:=hid w1;have HO2:=hid w2;have HA1:=hid w3;have HA2:=hid w4;have HB1':=hid w5;have HB2':=hid w6;have HLN:=hid hl;have HE:Hid (bs++eU ⟨o,a,b⟩=((bs++aH o.toNat)++aH (mZ a))++aH b.toNat):=hid (by simp [eU]);have HL0:Hid (bs.length<=4500000000000):=hid (by rw [List.length_append] at hl;omega);have HL1:Hid ((bs++aH o.toNat).length<=4500000000000/\((bs++aH o.toNat)++aH (mZ a)).length<=4500000000000):=hid (by rw [HE.o] at hl;simp only [List.length_append] at hl ⊢;omega);have hb0:=h.byte;have hba:=aB w (I #[O X o,O X a,O X b] 78);have HS0:=hid (h.below hba);have HM0:=hid (aG.of_below (S:=fun q=>q=g) (row:=Z) hba);have HK0:=hid (aE.new w 78 #[O X o,O X a,O X b]);have HNE:Hid (¬ (w.heap.size=g)):=hid (by have:=h.lt;omega);have z0:=HK0.o.cell;clear hba;have HN0:=hid (mO (b:=w.heap.size+1) HS0.o (by simp) w1 w2 HL0.o);have hbb:=aB (w.alloc (I #[O X o,O X a,O X b] 78)) (I #[O X o] 3);have HKb:=hid (HK0.o.alloc (I #[O X o] 3));have HMb:=hid (aG.trans (row:=Z) (row':=Z) HM0.o (aG.of_below (S:=fun q=>q=g) hbb) (fun _ e=>by cases e));rw [HE.o];obtain ⟨q1,hq1⟩ : ∃ q,q=bs++aH o.toNat:=⟨_,rfl⟩;obtain ⟨q2,hq2⟩ : ∃ q,q=q1++aH (mZ a):=⟨_,rfl⟩;have hqb1:∀ x ∈ q1,x<256:=by rw [hq1];exact i7 hb0 (dJ _)
 have hqb2:∀ x ∈ q2,x<256:=by rw [hq2];exact i7 hqb1 (dJ _)
 rw [<-hq1] at HN0 HL1 ⊢;rw [<-hq2] at HL1 ⊢;have HQ1:=hid hqb1;have HQ2:=hid hqb2;have HE2:=hid hq2;clear hq1 hq2 hqb1 hqb2 hb0 hbb w1 w2 w3 w4 w5 w6 hl h;go_in;go_wp2_with fail
 refine (HN0.o).mono ?_;rintro e1 w1 ⟨rfl,hm1,hs1⟩;have HM1:=hid (HMb.o.trans (row':=Z) hm1 (fun _ e=>by cases e));have HS1:=hid hs1;obtain ⟨A1,c1,hblk1,hown1⟩:=hs1.row;have HSD:=hid hs1.drew;have HB1:=hid (cX hblk1);have HK1:=hid (cX (HKb.o.moved hm1 HNE.o (by simp)));have hyv:gC w1.drew A1 q1.length c1 q1:=(hown1.byt HQ1.o (by have:=HL1.o;omega)).keep fun b hb=>⟨hb.2,fun _=>rfl⟩;have HSG:=hid (BB hyv a HA1.o HA2.o HL1.o.1);rw [<-HE2.o] at HSG;clear z0;have z1:=HK1.o.cell;have y1:=HB1.o.cell 0;clear hm1 hs1 hblk1 hown1 hyv;go_wp2_with fail
 refine kA 10 (fun w'=>w'.cell? ⟨g,0,Z⟩=some (Y A1 q1.length c1)/\w'.cell? ⟨w.heap.size,1,Z⟩=some (O X a)) (by kernel_rfl) ?_ (fun hHeld => ?_)
 · (try dsimp only);exact ⟨y1,z1 1⟩
 refine te 0 hHeld ?_;try simp only [p7]
 refine te 1 hHeld ?_;try simp only [p7]
 refine te 2 hHeld ?_;try simp only [p7]
 refine te 3 hHeld ?_;try simp only [p7]
 refine te 4 hHeld ?_;try simp only [p7]
 refine te 5 hHeld ?_;try simp only [p7]
 refine te 6 hHeld ?_;try simp only [p7]
 refine eX (i:=7) (by kernel_rfl) rfl rfl (fun K hK => ?_);go_simp;go_at_call 95
 refine (HSG.o).mono ?_;rintro e2 w2 ⟨hb2,A2,c2,rfl,ho2⟩;obtain ⟨hs3,hm3⟩:=HSD.o.put hb2 ho2 HQ2.o;have HS3:=hid hs3;have HM3:=hid hm3;have HB2:=hid hb2;have y2:=(HB1.o.below hb2 HB1.o.lt).cell 0;have f2:=(HB1.o.below hb2 HB1.o.lt).frozen 0;have z2:=(HK1.o.below hb2 HK1.o.lt).cell;clear y1 z1 hb2 ho2 hs3 hm3;go_wp2_with fail
 refine hK.o _ _ (fun _ => ?_) ?_
 · (try dsimp only);exact ⟨y2,(z2 1)⟩
 clear hK K;try simp only [p7]
 replace hHeld:=(And.intro y2 (z2 1))
 refine te 8 hHeld ?_;try simp only [p7]
 refine te 9 hHeld ?_;try simp only [p7]
 refine eX (i:=10) (by kernel_rfl) rfl rfl (fun K hK => ?_);go_simp;refine hK.o _ _ (fun h=>absurd rfl h) ?_;clear hK K;try simp only [p7]
 refine lF (by kernel_rfl) ?_ _;have HM4:=hid (HM1.o.trans (row':=Z) (aG.from_drew HM3.o) (fun _ e=>by cases e));have HK4:=hid (HK1.o.moved HM3.o HNE.o (by simp));have HN4:=hid (mO (b:=w2.heap.size) HS3.o (by simp) HB1'.o HB2'.o HL1.o.2);have hbb:=aB (w2.setCell ⟨g,0,Z⟩ (Y A2 q2.length c2)) (I #[O X b] 3);have HM5:=hid (aG.trans (row:=Z) (row':=Z) HM4.o (aG.of_below (S:=fun q=>q=g) hbb) (fun _ e=>by cases e));clear z2 y2 f2 hHeld;have z4:=HK4.o.cell;go_wp2_with fail
 refine (HN4.o).mono ?_;rintro e5 w5 ⟨rfl,hm5,hs5⟩;have HM6:=hid (HM5.o.trans (row':=Z) hm5 (fun _ e=>by cases e));have HS6:=hid hs5;clear hm5 hs5;go_wp2_with fail
 exact bodyPost_end (results_none rfl _ _ _) rfl ⟨rfl,HM6.o,HS6.o⟩
theorem DD {w0 w:World} {g m d:Nat} {bs:List Nat} {B:Option Addr} {ls:List Nd} (h:lH w0 g bs w) (hd:aQ w0 B m d ls) (hw:∀ t ∈ ls,uW t) (hm:m<=1000000) (hl:(bs++(aH ls.length++ls.flatMap eU)).length<=4500000000000) :
 Calls Tryz.prog 37 #[J (some ⟨g,0,Z⟩),Y B m d,.func (.func 38) #[J (some ⟨g,0,Z⟩)] #[]] w (yQ w0 g (bs++(aH ls.length++ls.flatMap eU)) w):=by
 have hen:∀ args w,(callFunc 38 args).run Tryz.prog w=.ok (.enter 38 args) w:=fun _ _=>by kernel_rfl
 have hml:=hd.len;obtain ⟨F,h0,h1,h2,h3⟩:=AZ (default:Nd) eU bs ls;rw [<-h2] at hl ⊢;have HF0:=hid h0;have HF1:=hid h1;have HF3:=hid (fun k=>Nat.le_trans (h3 k) hl);have hnum:=jZ (zs:=[(ls.length:Int)]) (h.below (aB w (I #[O X (m:Int)] 3))) (kL w (m:Int) (by rw [hml])) (fun z hz=>by
  rw [List.mem_singleton] at hz;subst hz;exact ⟨by omega,by omega⟩) (by have e1:=h3 0;have e2:=hl;rw [h0,List.length_append] at e1;omega) (by decide) (d:=1)
 rw [show cO [(ls.length:Int)]=aH ls.length from by simp [cO],<-h0] at hnum;have HN:=hid hnum;have HD:=hid hd;have HWF:=hid hw;have HML:=hid hml;have HBA:=hid (aB w (I #[O X (m:Int)] 3));rw [hml];clear h0 h1 h2 h3 hl hnum hd hw hml h;go_in;go_wp2_with fail
 refine (HN.o).mono ?_;rintro e w1 ⟨rfl,hm1,hs1⟩;have HM1:=hid (aG.trans (row:=Z) (row':=Z) (aG.of_below (S:=fun q=>q=g) HBA.o) hm1 (fun _ e=>by cases e));have HS1:=hid hs1;clear hm1 hs1;go_wp2_with fail
 go_loopw [15] (fun iv wr=>∃ k:Nat,iv=O X (k:Int)/\k<=m/\Hid (lH w0 g (F k) wr)/\Hid (aG (fun q=>q=g) Z w wr)) (fun iv _=>m-(intOf iv).toNat)
 case atStart=>exact ⟨0,rfl,Nat.zero_le _,HS1,HM1⟩
 case round =>
  obtain ⟨k,rfl,hk,HS2,HM2⟩:=hrel;by_cases hlt:k<m;rotate_left
  · have hkm:k=m:=aA;have d1:decide ((k:Int)<(m:Int))=false:=decide_eq_false aA;have d2:decide (k<m)=false:=decide_eq_false hlt;have HE:Hid (lH w0 g (F m) wr):=hid (hkm ▸ HS2.o);clear hkm;go_wp2_with fail
    exact bodyPost_end (results_none rfl _ _ _) rfl ⟨rfl,HM2.o,HE.o⟩
  have d1:decide ((k:Int)<(m:Int))=true:=decide_eq_true aA;have d2:decide (k<m)=true:=decide_eq_true hlt;have hkl:k<ls.length:=by rw [HML.o];exact hlt
  have HW1:=hid (HWF.o (ls.getD k (default:Nd)) (by rw [List.getD_eq_getElem?_getD,List.getElem?_eq_getElem hkl];exact List.getElem_mem hkl));have HFK:=hid (HF1.o k hkl);have HFL:=HF3.o k;obtain ⟨b,off,e,hlb,hc0,hc1,hc2⟩:=HD.o.at_ hlt;subst e;have hcell0:=(HS2.o.bel.cell (p:=⟨b,off+k*3,Z⟩) hlb).trans hc0;have hcell1:=(HS2.o.bel.cell (p:=⟨b,off+k*3+1,Z⟩) hlb).trans hc1;have hcell2:=(HS2.o.bel.cell (p:=⟨b,off+k*3+2,Z⟩) hlb).trans hc2;unfold aL at hcell0 hcell1 hcell2;clear hc0 hc1 hc2;obtain ⟨x,hx⟩ : ∃ x,x=ls.getD k (default:Nd):=⟨_,rfl⟩;rw [<-hx] at hcell0 hcell1 hcell2 HW1 HFK;clear hx hkl;obtain ⟨o,a,b'⟩:=x;simp only at hcell0 hcell1 hcell2;have HBX:=hid (aB wr (I #[O X o,O X a,O X b'] 78));have HC:=hid (BL (HS2.o.below HBX.o) HW1.o (by rw [<-HFK.o];exact HF3.o _));go_wp2_with fail
  first
   | refine (HC.o).mono ?_
   | (simp only [Array.empty_append,Array.append_empty];refine (HC.o).mono ?_)
   | (show Calls _ _ #[J (some ⟨g,0,Z⟩),.agg #[O X o,O X a,O X b']] _ _;refine (HC.o).mono ?_)
  rintro e w3 ⟨rfl,hm3,hs3⟩;have HM3:=hid (HM2.o.trans (row':=Z) (aG.trans (row:=Z) (row':=Z) (aG.of_below (S:=fun q=>q=g) HBX.o) hm3 (fun _ e=>by cases e)) (fun _ e=>by cases e));have HS3:=hid hs3;clear hm3 hs3;go_wp2_with fail
  go_roundw
  case rel=>exact ⟨k+1,by go_num,by omega,by rw [HFK.o];exact HS3,HM3⟩
  case measure=>simp [intOf];omega
theorem BJ {w0 w:World} {g:Nat} {bs:List Nat} {v:eQ} {x:En} (h:lH w0 g bs w) (hd:p9 w0 v x) (hw:I0 x) (hl:(bs++cK x).length<=4500000000000) :
 Calls Tryz.prog 40 #[J (some ⟨g,0,Z⟩),.agg #[O X x.kind,Y v.As v.ns v.cs,Y v.Ap v.np v.cp,Y v.Ai v.ni v.ci,Y v.Ac v.nc v.cc,Y v.At v.nt v.ct,Y v.Ab v.nb v.cb]] w (yQ w0 g (bs++cK x) w):=by
 have HKD:Hid (x.kind=2):=hid hw.1;obtain ⟨kd,hkd⟩ : ∃ kd,kd=x.kind:=⟨_,rfl⟩;have hk1:kd=2:=hkd.trans HKD.o;rw [<-hkd];subst hk1;have HD:=hid hd;have HW:=hid hw;have HE:Hid (bs++cK x=(((bs++aH 2)++bU x.type)++bU x.body)):=hid (by unfold cK;rw [HKD.o];simp [List.append_assoc]);rw [HE.o] at hl ⊢;have hb0:=h.byte;obtain ⟨q0,hq0⟩ : ∃ q,q=bs++aH 2:=⟨_,rfl⟩;have e0:bs.length<=q0.length:=by rw [hq0,List.length_append];omega
 obtain ⟨q1,hq1⟩ : ∃ q,q=q0++bU x.type:=⟨_,rfl⟩;have e1:q0.length<=q1.length:=by rw [hq1,List.length_append];omega
 obtain ⟨q2,hq2⟩ : ∃ q,q=q1++bU x.body:=⟨_,rfl⟩;have e2:q1.length<=q2.length:=by rw [hq2,List.length_append];omega
 rw [<-hq0,<-hq1,<-hq2] at hl ⊢;have HQ0:=hid hq0;have HL0:Hid (q0.length<=4500000000000):=hid aA;have HQ1:=hid hq1;have HL1:Hid (q1.length<=4500000000000):=hid aA;have HQ2:=hid hq2;have HL2:Hid (q2.length<=4500000000000):=hid aA;have HLB:Hid (bs.length<=4500000000000):=hid aA;have hba:=aB w (I #[O X 2,Y v.As v.ns v.cs,Y v.Ap v.np v.cp,Y v.Ai v.ni v.ci,Y v.Ac v.nc v.cc,Y v.At v.nt v.ct,Y v.Ab v.nb v.cb] 57);have HS0:=hid (h.below hba);have HM0:=hid (aG.of_below (S:=fun q=>q=g) (row:=Z) hba);have HK0:=hid (aE.new w 57 #[O X 2,Y v.As v.ns v.cs,Y v.Ap v.np v.cp,Y v.Ai v.ni v.ci,Y v.Ac v.nc v.cc,Y v.At v.nt v.ct,Y v.Ab v.nb v.cb]);have HNE:Hid (¬ (w.heap.size=g)):=hid (by have:=h.lt;omega);have z0:=HK0.o.cell;clear hba;have HN0:=hid (mO (b:=w.heap.size+1) HS0.o (by simp) (show (0:Int)<=2 from by decide) (by decide) HLB.o);have hbb:=aB (w.alloc (I #[O X 2,Y v.As v.ns v.cs,Y v.Ap v.np v.cp,Y v.Ai v.ni v.ci,Y v.Ac v.nc v.cc,Y v.At v.nt v.ct,Y v.Ab v.nb v.cb] 57)) (I #[O X 2] 3);have HKb:=hid (HK0.o.alloc (I #[O X 2] 3));have HMb:=hid (aG.trans (row:=Z) (row':=Z) HM0.o (aG.of_below (S:=fun q=>q=g) hbb) (fun _ e=>by cases e));have eN:bs++aH ((2:Int).toNat)=q0:=HQ0.o.symm;rw [eN] at HN0;clear hbb eN hb0 hl h hd hw hkd hq0 e0 hq1 e1 hq2 e2;go_in;go_wp2_with fail
 refine (HN0.o).mono ?_;rintro e1 w1 ⟨rfl,hm1,hs1⟩;have HMx0:=hid (HMb.o.trans (row':=Z) hm1 (fun _ e=>by cases e));have HSx0:=hid hs1;have HKx0:=hid (HKb.o.moved hm1 HNE.o (by simp));clear z0 hm1 hs1;have zx0:=HKx0.o.cell;go_wp2_with fail
 have HC1:=hid (kU HSx0.o (HD.o.type.below HSx0.o.bel) HW.o.2.1.1 HL0.o);rw [<-HQ1.o] at HC1;refine (HC1.o).mono ?_;rintro e5 w5 ⟨rfl,hm1,hs1⟩;have HMx1:=hid (HMx0.o.trans (row':=Z) hm1 (fun _ e=>by cases e));have HSx1:=hid hs1;have HKx1:=hid (HKx0.o.moved hm1 HNE.o (by simp));clear zx0 hm1 hs1;have zx1:=HKx1.o.cell;go_wp2_with fail
 have HC2:=hid (kU HSx1.o (HD.o.body.below HSx1.o.bel) HW.o.2.1.2 HL1.o);rw [<-HQ2.o] at HC2;refine (HC2.o).mono ?_;rintro e6 w6 ⟨rfl,hm2,hs2⟩;have HMx2:=hid (HMx1.o.trans (row':=Z) hm2 (fun _ e=>by cases e));have HSx2:=hid hs2;have HKx2:=hid (HKx1.o.moved hm2 HNE.o (by simp));clear zx1 hm2 hs2;have zx2:=HKx2.o.cell;go_wp2_with fail
 exact bodyPost_ret (results_none rfl _ _ _) rfl ⟨rfl,HMx2.o,HSx2.o⟩
theorem BK {w0 w:World} {g:Nat} {bs:List Nat} {v:eQ} {x:En} (h:lH w0 g bs w) (hd:p9 w0 v x) (hw:JB x) (hl:(bs++cK x).length<=4500000000000) :
 Calls Tryz.prog 40 #[J (some ⟨g,0,Z⟩),.agg #[O X x.kind,Y v.As v.ns v.cs,Y v.Ap v.np v.cp,Y v.Ai v.ni v.ci,Y v.Ac v.nc v.cc,Y v.At v.nt v.ct,Y v.Ab v.nb v.cb]] w (yQ w0 g (bs++cK x) w):=by
 have HKD:Hid (x.kind=1):=hid hw.1;obtain ⟨kd,hkd⟩ : ∃ kd,kd=x.kind:=⟨_,rfl⟩;have hk1:kd=1:=hkd.trans HKD.o;rw [<-hkd];subst hk1;have HD:=hid hd;have HW:=hid hw;have hmf:∀ (fn:Fn) (first cap:Array Value) (w:World),(Instr.makeFunc fn first cap).run Tryz.prog w=.ok (.func fn first cap) w:=fun _ _ _ _=>rfl;have HE:Hid (bs++cK x=(((((bs++aH 1)++bU x.sort)++cU x.params)++cU x.indices)++(aH x.ctors.length++x.ctors.flatMap gF))):=hid (by unfold cK;rw [HKD.o];simp [List.append_assoc]);rw [HE.o] at hl ⊢;have hb0:=h.byte;obtain ⟨q0,hq0⟩ : ∃ q,q=bs++aH 1:=⟨_,rfl⟩;have e0:bs.length<=q0.length:=by rw [hq0,List.length_append];omega
 obtain ⟨q1,hq1⟩ : ∃ q,q=q0++bU x.sort:=⟨_,rfl⟩;have e1:q0.length<=q1.length:=by rw [hq1,List.length_append];omega
 obtain ⟨q2,hq2⟩ : ∃ q,q=q1++cU x.params:=⟨_,rfl⟩;have e2:q1.length<=q2.length:=by rw [hq2,List.length_append];omega
 obtain ⟨q3,hq3⟩ : ∃ q,q=q2++cU x.indices:=⟨_,rfl⟩;have e3:q2.length<=q3.length:=by rw [hq3,List.length_append];omega
 obtain ⟨q4,hq4⟩ : ∃ q,q=q3++(aH x.ctors.length++x.ctors.flatMap gF):=⟨_,rfl⟩;have e4:q3.length<=q4.length:=by rw [hq4,List.length_append];omega
 rw [<-hq0,<-hq1,<-hq2,<-hq3,<-hq4] at hl ⊢;have HQ0:=hid hq0;have HL0:Hid (q0.length<=4500000000000):=hid aA;have HQ1:=hid hq1;have HL1:Hid (q1.length<=4500000000000):=hid aA;have HQ2:=hid hq2;have HL2:Hid (q2.length<=4500000000000):=hid aA;have HQ3:=hid hq3;have HL3:Hid (q3.length<=4500000000000):=hid aA;have HQ4:=hid hq4;have HL4:Hid (q4.length<=4500000000000):=hid aA;have HLB:Hid (bs.length<=4500000000000):=hid aA;have hba:=aB w (I #[O X 1,Y v.As v.ns v.cs,Y v.Ap v.np v.cp,Y v.Ai v.ni v.ci,Y v.Ac v.nc v.cc,Y v.At v.nt v.ct,Y v.Ab v.nb v.cb] 57);have HS0:=hid (h.below hba);have HM0:=hid (aG.of_below (S:=fun q=>q=g) (row:=Z) hba);have HK0:=hid (aE.new w 57 #[O X 1,Y v.As v.ns v.cs,Y v.Ap v.np v.cp,Y v.Ai v.ni v.ci,Y v.Ac v.nc v.cc,Y v.At v.nt v.ct,Y v.Ab v.nb v.cb]);have HNE:Hid (¬ (w.heap.size=g)):=hid (by have:=h.lt;omega);have z0:=HK0.o.cell;clear hba;have HN0:=hid (mO (b:=w.heap.size+1) HS0.o (by simp) (show (0:Int)<=1 from by decide) (by decide) HLB.o);have hbb:=aB (w.alloc (I #[O X 1,Y v.As v.ns v.cs,Y v.Ap v.np v.cp,Y v.Ai v.ni v.ci,Y v.Ac v.nc v.cc,Y v.At v.nt v.ct,Y v.Ab v.nb v.cb] 57)) (I #[O X 1] 3);have HKb:=hid (HK0.o.alloc (I #[O X 1] 3));have HMb:=hid (aG.trans (row:=Z) (row':=Z) HM0.o (aG.of_below (S:=fun q=>q=g) hbb) (fun _ e=>by cases e));have eN:bs++aH ((1:Int).toNat)=q0:=HQ0.o.symm;rw [eN] at HN0;clear hbb eN hb0 hl h hd hw hkd hq0 e0 hq1 e1 hq2 e2 hq3 e3 hq4 e4;go_in;go_wp2_with fail
 refine (HN0.o).mono ?_;rintro e1 w1 ⟨rfl,hm1,hs1⟩;have HMx0:=hid (HMb.o.trans (row':=Z) hm1 (fun _ e=>by cases e));have HSx0:=hid hs1;have HKx0:=hid (HKb.o.moved hm1 HNE.o (by simp));clear z0 hm1 hs1;have zx0:=HKx0.o.cell;go_wp2_with fail
 have HC1:=hid (kU HSx0.o (HD.o.sort.below HSx0.o.bel) HW.o.2.1.1 HL0.o);rw [<-HQ1.o] at HC1;refine (HC1.o).mono ?_;rintro e5 w5 ⟨rfl,hm1,hs1⟩;have HMx1:=hid (HMx0.o.trans (row':=Z) hm1 (fun _ e=>by cases e));have HSx1:=hid hs1;have HKx1:=hid (HKx0.o.moved hm1 HNE.o (by simp));clear zx0 hm1 hs1;have zx1:=HKx1.o.cell;go_wp2_with fail
 have HC2:=hid (mY HSx1.o HD.o.params HW.o.2.1.2.1 (by rw [<-HQ2.o];exact HL2.o));rw [<-HQ2.o] at HC2;refine (HC2.o).mono ?_;rintro e6 w6 ⟨rfl,hm2,hs2⟩;have HMx2:=hid (HMx1.o.trans (row':=Z) hm2 (fun _ e=>by cases e));have HSx2:=hid hs2;have HKx2:=hid (HKx1.o.moved hm2 HNE.o (by simp));clear zx1 hm2 hs2;have zx2:=HKx2.o.cell;go_wp2_with fail
 have HC3:=hid (mY HSx2.o HD.o.indices HW.o.2.1.2.2.1 (by rw [<-HQ3.o];exact HL3.o));rw [<-HQ3.o] at HC3;refine (HC3.o).mono ?_;rintro e7 w7 ⟨rfl,hm3,hs3⟩;have HMx3:=hid (HMx2.o.trans (row':=Z) hm3 (fun _ e=>by cases e));have HSx3:=hid hs3;have HKx3:=hid (HKx2.o.moved hm3 HNE.o (by simp));clear zx2 hm3 hs3;have zx3:=HKx3.o.cell;go_wp2_with fail
 have HC4:=hid (DA HSx3.o HD.o.ctors HW.o.2.1.2.2.2.2 (by have h1:=HW.o.2.1.2.2.2.1;have h2:=HD.o.ctors.len;omega) (by rw [<-HQ4.o];exact HL4.o));rw [<-HQ4.o] at HC4;refine (HC4.o).mono ?_;rintro e8 w8 ⟨rfl,hm4,hs4⟩;have HMx4:=hid (HMx3.o.trans (row':=Z) hm4 (fun _ e=>by cases e));have HSx4:=hid hs4;have HKx4:=hid (HKx3.o.moved hm4 HNE.o (by simp));clear zx3 hm4 hs4;have zx4:=HKx4.o.cell;go_wp2_with fail
 exact bodyPost_end (results_none rfl _ _ _) rfl ⟨rfl,HMx4.o,HSx4.o⟩
theorem BI {w0 w:World} {g:Nat} {bs:List Nat} {v:eQ} {x:En} (h:lH w0 g bs w) (hd:p9 w0 v x) (hw:kW x) (hl:(bs++cK x).length<=4500000000000) :
 Calls Tryz.prog 40 #[J (some ⟨g,0,Z⟩),.agg #[O X x.kind,Y v.As v.ns v.cs,Y v.Ap v.np v.cp,Y v.Ai v.ni v.ci,Y v.Ac v.nc v.cc,Y v.At v.nt v.ct,Y v.Ab v.nb v.cb]] w (yQ w0 g (bs++cK x) w):=by
 rcases hw with hw | hw
 · exact BK h hd hw hl
 exact BJ h hd hw hl
theorem DC {w0 w:World} {g m d:Nat} {bs:List Nat} {B:Option Addr} {ls:List En} (h:lH w0 g bs w) (hd:qB w0 B m d ls) (hw:∀ t ∈ ls,kW t) (hm:m<=1000000) (hl:(bs++(aH ls.length++ls.flatMap cK)).length<=4500000000000) :
 Calls Tryz.prog 39 #[J (some ⟨g,0,Z⟩),Y B m d,.func (.func 40) #[J (some ⟨g,0,Z⟩)] #[]] w (yQ w0 g (bs++(aH ls.length++ls.flatMap cK)) w):=by
 have hen:∀ args w,(callFunc 40 args).run Tryz.prog w=.ok (.enter 40 args) w:=fun _ _=>by kernel_rfl
 have hml:=hd.len;obtain ⟨F,h0,h1,h2,h3⟩:=AZ (default:En) cK bs ls;rw [<-h2] at hl ⊢;have HF0:=hid h0;have HF1:=hid h1;have HF3:=hid (fun k=>Nat.le_trans (h3 k) hl);have hnum:=jZ (zs:=[(ls.length:Int)]) (h.below (aB w (I #[O X (m:Int)] 3))) (kL w (m:Int) (by rw [hml])) (fun z hz=>by
  rw [List.mem_singleton] at hz;subst hz;exact ⟨by omega,by omega⟩) (by have e1:=h3 0;have e2:=hl;rw [h0,List.length_append] at e1;omega) (by decide) (d:=1)
 rw [show cO [(ls.length:Int)]=aH ls.length from by simp [cO],<-h0] at hnum;have HN:=hid hnum;have HD:=hid hd;have HWF:=hid hw;have HML:=hid hml;have HBA:=hid (aB w (I #[O X (m:Int)] 3));rw [hml];clear h0 h1 h2 h3 hl hnum hd hw hml h;go_in;go_wp2_with fail
 refine (HN.o).mono ?_;rintro e w1 ⟨rfl,hm1,hs1⟩;have HM1:=hid (aG.trans (row:=Z) (row':=Z) (aG.of_below (S:=fun q=>q=g) HBA.o) hm1 (fun _ e=>by cases e));have HS1:=hid hs1;clear hm1 hs1;go_wp2_with fail
 go_loopw [15] (fun iv wr=>∃ k:Nat,iv=O X (k:Int)/\k<=m/\Hid (lH w0 g (F k) wr)/\Hid (aG (fun q=>q=g) Z w wr)) (fun iv _=>m-(intOf iv).toNat)
 case atStart=>exact ⟨0,rfl,Nat.zero_le _,HS1,HM1⟩
 case round =>
  obtain ⟨k,rfl,hk,HS2,HM2⟩:=hrel;by_cases hlt:k<m;rotate_left
  · have hkm:k=m:=aA;have d1:decide ((k:Int)<(m:Int))=false:=decide_eq_false aA;have d2:decide (k<m)=false:=decide_eq_false hlt;have HE:Hid (lH w0 g (F m) wr):=hid (hkm ▸ HS2.o);clear hkm;go_wp2_with fail
    exact bodyPost_end (results_none rfl _ _ _) rfl ⟨rfl,HM2.o,HE.o⟩
  have d1:decide ((k:Int)<(m:Int))=true:=decide_eq_true aA;have d2:decide (k<m)=true:=decide_eq_true hlt;have hkl:k<ls.length:=by rw [HML.o];exact hlt
  have HW1:=hid (HWF.o (ls.getD k (default:En)) (by rw [List.getD_eq_getElem?_getD,List.getElem?_eq_getElem hkl];exact List.getElem_mem hkl));have HFK:=hid (HF1.o k hkl);have HFL:=HF3.o k;obtain ⟨b,off,e,hlb,v,hc0,hc1,hc2,hc3,hc4,hc5,hc6,hd9⟩:=HD.o.at_ hlt;subst e;have hcell0:=(HS2.o.bel.cell (p:=⟨b,off+k*7,Z⟩) hlb).trans hc0;have hcell1:=(HS2.o.bel.cell (p:=⟨b,off+k*7+1,Z⟩) hlb).trans hc1;have hcell2:=(HS2.o.bel.cell (p:=⟨b,off+k*7+2,Z⟩) hlb).trans hc2;have hcell3:=(HS2.o.bel.cell (p:=⟨b,off+k*7+3,Z⟩) hlb).trans hc3;have hcell4:=(HS2.o.bel.cell (p:=⟨b,off+k*7+4,Z⟩) hlb).trans hc4;have hcell5:=(HS2.o.bel.cell (p:=⟨b,off+k*7+5,Z⟩) hlb).trans hc5;have hcell6:=(HS2.o.bel.cell (p:=⟨b,off+k*7+6,Z⟩) hlb).trans hc6;clear hc0 hc1 hc2 hc3 hc4 hc5 hc6;obtain ⟨x,hx⟩ : ∃ x,x=ls.getD k (default:En):=⟨_,rfl⟩;rw [<-hx] at hcell0 hd9 HW1 HFK;clear hx hkl;have HBX:=hid (aB wr (I #[O X x.kind,Y v.As v.ns v.cs,Y v.Ap v.np v.cp,Y v.Ai v.ni v.ci,Y v.Ac v.nc v.cc,Y v.At v.nt v.ct,Y v.Ab v.nb v.cb] 57));have HC:=hid (BI (HS2.o.below HBX.o) hd9 HW1.o (by rw [<-HFK.o];exact HF3.o _));clear hd9;go_wp2_with fail
  first
   | refine (HC.o).mono ?_
   | (simp only [Array.empty_append,Array.append_empty];refine (HC.o).mono ?_)
   | (show Calls _ _ #[J (some ⟨g,0,Z⟩),.agg #[O X x.kind,Y v.As v.ns v.cs,Y v.Ap v.np v.cp,Y v.Ai v.ni v.ci,Y v.Ac v.nc v.cc,Y v.At v.nt v.ct,Y v.Ab v.nb v.cb]] _ _;refine (HC.o).mono ?_)
  rintro e w3 ⟨rfl,hm3,hs3⟩;have HM3:=hid (HM2.o.trans (row':=Z) (aG.trans (row:=Z) (row':=Z) (aG.of_below (S:=fun q=>q=g) HBX.o) hm3 (fun _ e=>by cases e)) (fun _ e=>by cases e));have HS3:=hid hs3;clear hm3 hs3;go_wp2_with fail
  go_roundw
  case rel=>exact ⟨k+1,by go_num,by omega,by rw [HFK.o];exact HS3,HM3⟩
  case measure=>simp [intOf];omega
end Go.Proofs.YtplecfbdchmogaaGreat
