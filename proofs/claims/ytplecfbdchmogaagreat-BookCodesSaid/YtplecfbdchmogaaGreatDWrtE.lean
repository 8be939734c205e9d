/- Programs that are written: rows, constructors, orders, primitives, entries (book). -/
import Derived.Test.YtplecfbdchmogaaGreatDWrt
import Derived.Test.YtplecfbdchmogaaGreatDSameB
namespace Go.Proofs.YtplecfbdchmogaaGreat
open Go.Value renaming int → O, pointer → I, slice → J
open Go.IntKind renaming i64 → X
open Option renaming none → Y
open Go.Obj renaming cells → Z
open Go.Lib (hid)
set_option maxHeartbeats 4000000
set_option maxRecDepth 100000
set_option linter.unusedVariables false
set_option linter.unusedSimpArgs false
open Go.RowKit
theorem AZ {α:Type} (df:α) (e:α->List Nat) (bs:List Nat) (ls:List α) : ∃ F:Nat->List Nat,F 0=bs++aH ls.length/\(∀ k,k<ls.length->F (k+1)=F k++e (ls.getD k df))/\F ls.length=bs++(aH ls.length++ls.flatMap e)/\∀ k,(F k).length<=(F ls.length).length:=by
 refine ⟨fun k=>bs++(aH ls.length++(ls.take k).flatMap e),by simp,fun k hk => ?_,by simp,fun k => ?_⟩
 · simp only;rw [List.take_succ_eq_append_getElem hk,List.flatMap_append,List.getD_eq_getElem?_getD,List.getElem?_eq_getElem hk];simp
 simp only [List.length_append,List.take_length];have h:((ls.take k).flatMap e).length<=(ls.flatMap e).length:=by
  conv=>rhs;rw [<-List.take_append_drop k ls,List.flatMap_append,List.length_append]
  omega
 omega
theorem kL (w:World) (z:Int) {z':Int} (h:z=z'):iZ (· < (w.alloc (Z #[O X z] 3)).heap.size) (w.alloc (Z #[O X z] 3)) (some ⟨w.heap.size,0,Y⟩) 1 1 [z']:=by
 subst h;refine ⟨rfl,by decide,fun _=>⟨w.heap.size,0,rfl,by simp,fun k hk => ?_⟩⟩;obtain rfl:k=0:=aA;exact (aE.new w 3 #[O X z]).cell 0
theorem DF {w0 w:World} {g m d:Nat} {bs:List Nat} {B:Option Addr} {ls:List (List Nd)} (h:lH w0 g bs w) (hd:cE w0 B m d ls) (hw:∀ t ∈ ls,m5 t) (hm:m<=1000000) (hl:(bs++(aH ls.length++ls.flatMap bU)).length<=4500000000000) :
 Calls Tryz.prog 126 #[I (some ⟨g,0,Y⟩),J B m d,.func (.func 43) #[I (some ⟨g,0,Y⟩)] #[]] w (yQ w0 g (bs++(aH ls.length++ls.flatMap bU)) w):=by
 have hen:∀ args w,(callFunc 43 args).run Tryz.prog w=.ok (.enter 43 args) w:=fun _ _=>by kernel_rfl
 have hml:=hd.len;obtain ⟨F,h0,h1,h2,h3⟩:=AZ [] bU bs ls;rw [<-h2] at hl ⊢;have HF0:=hid h0;have HF1:=hid h1;have HF3:=hid (fun k=>Nat.le_trans (h3 k) hl);have hnum:=jZ (zs:=[(ls.length:Int)]) (h.below (aB w (Z #[O X (m:Int)] 3))) (kL w (m:Int) (by rw [hml])) (fun z hz=>by
  rw [List.mem_singleton] at hz;subst hz;exact ⟨by omega,by omega⟩) (by have e1:=h3 0;have e2:=hl;rw [h0,List.length_append] at e1;omega) (by decide) (d:=1)
 rw [show cO [(ls.length:Int)]=aH ls.length from by simp [cO],<-h0] at hnum;have HN:=hid hnum;have HD:=hid hd;have HWF:=hid hw;have HML:=hid hml;have HBA:=hid (aB w (Z #[O X (m:Int)] 3));rw [hml];clear h0 h1 h2 h3 hl hnum hd hw hml h;go_in;go_wp2_with fail
 refine (HN.o).mono ?_;rintro e w1 ⟨rfl,hm1,hs1⟩;have HM1:=hid (aG.trans (row:=Y) (row':=Y) (aG.of_below (S:=fun q=>q=g) HBA.o) hm1 (fun _ e=>by cases e));have HS1:=hid hs1;clear hm1 hs1;go_wp2_with fail
 go_loopw [15] (fun iv wr=>∃ k:Nat,iv=O X (k:Int)/\k<=m/\Hid (lH w0 g (F k) wr)/\Hid (aG (fun q=>q=g) Y w wr)) (fun iv _=>m-(intOf iv).toNat)
 case atStart=>exact ⟨0,rfl,Nat.zero_le _,HS1,HM1⟩
 case round =>
  obtain ⟨k,rfl,hk,HS2,HM2⟩:=hrel;by_cases hlt:k<m;rotate_left
  · have hkm:k=m:=aA;have d1:decide ((k:Int)<(m:Int))=false:=decide_eq_false aA;have d2:decide (k<m)=false:=decide_eq_false hlt;have HE:Hid (lH w0 g (F m) wr):=hid (hkm ▸ HS2.o);clear hkm;go_wp2_with fail
    exact bodyPost_end (results_none rfl _ _ _) rfl ⟨rfl,HM2.o,HE.o⟩
  have d1:decide ((k:Int)<(m:Int))=true:=decide_eq_true aA;have d2:decide (k<m)=true:=decide_eq_true hlt;have hkl:k<ls.length:=by rw [HML.o];exact hlt
  have HW1:=hid (HWF.o (ls.getD k []) (by rw [List.getD_eq_getElem?_getD,List.getElem?_eq_getElem hkl];exact List.getElem_mem hkl));have HFK:=hid (HF1.o k hkl);have HFL:=HF3.o k;obtain ⟨b,off,A',n',c',e,hlb,hcell0,ht0⟩:=HD.o.at_ hlt;subst e;have hcell:=(HS2.o.bel.cell (p:=⟨b,off+k,Y⟩) hlb).trans hcell0;have ht:=ht0.below HS2.o.bel;clear hcell0 ht0;obtain ⟨x,hx⟩ : ∃ x,x=ls.getD k []:=⟨_,rfl⟩;rw [<-hx] at ht HW1 HFK;clear hx hkl;have HC:=hid (kU HS2.o ht HW1.o HFL);clear ht;go_wp2_with fail
  first
   | refine (HC.o).mono ?_
   | (simp only [Array.empty_append,Array.append_empty];refine (HC.o).mono ?_)
   | (show Calls _ _ #[I (some ⟨g,0,Y⟩),J A' n' c'] _ _;refine (HC.o).mono ?_)
  rintro e w3 ⟨rfl,hm3,hs3⟩;have HM3:=hid (HM2.o.trans (row':=Y) hm3 (fun _ e=>by cases e));have HS3:=hid hs3;clear hm3 hs3;go_wp2_with fail
  go_roundw
  case rel=>exact ⟨k+1,by go_num,by omega,by rw [HFK.o];exact HS3,HM3⟩
  case measure=>simp [intOf];omega
theorem mY {w0 w:World} {g m d:Nat} {bs:List Nat} {B:Option Addr} {ls:List (List Nd)} (h:lH w0 g bs w) (hd:cE w0 B m d ls) (hw:p4 ls) (hl:(bs++cU ls).length<=4500000000000) :
 Calls Tryz.prog 96 #[I (some ⟨g,0,Y⟩),J B m d] w (yQ w0 g (bs++cU ls) w):=by
 have hm:m<=1000000:=by have:=hw.1;have:=hd.len;omega
 have HC:=hid (DF h hd hw.2 hm hl);have hmf:∀ (fn:Fn) (first cap:Array Value) (w:World),(Instr.makeFunc fn first cap).run Tryz.prog w=.ok (.func fn first cap) w:=fun _ _ _ _=>rfl;clear h hd hw hl;go_in;go_wp2_with fail
 refine (HC.o).mono ?_;rintro e w1 ⟨rfl,hm1,hs1⟩;have HM1:=hid hm1;have HS1:=hid hs1;clear hm1 hs1;go_wp2_with fail
 exact bodyPost_end (results_none rfl _ _ _) rfl ⟨rfl,HM1.o,HS1.o⟩
theorem JF {a b c:List Nat} {n:Nat} (h:(a++(b++c)).length<=n):(a++b).length<=n/\((a++b)++c).length<=n/\a.length<=n:=by
 simp only [List.length_append] at h ⊢;omega
theorem E4 {w0 w:World} {g:Nat} {bs:List Nat} {A1 A2:Option Addr} {n1 c1 n2 c2:Nat} {c:Ct} (h:lH w0 g bs w) (h1:cE w0 A1 n1 c1 c.args) (h2:cE w0 A2 n2 c2 c.outs) (hw:tD c) (hl:(bs++gF c).length<=4500000000000) :
 Calls Tryz.prog 98 #[I (some ⟨g,0,Y⟩),.agg #[J A1 n1 c1,J A2 n2 c2]] w (yQ w0 g (bs++gF c) w):=by
 obtain ⟨l1,l2,_⟩:=JF (b:=cU c.args) (c:=cU c.outs) hl;have HL1:=hid l1;have HL2:=hid l2;have HD1:=hid h1;have HD2:=hid h2;have HW:=hid hw;have HE:Hid (bs++gF c=(bs++cU c.args)++cU c.outs):=hid (by rw [List.append_assoc];rfl);have hba:=aB w (Z #[J A1 n1 c1,J A2 n2 c2] 66);have HS0:=hid (h.below hba);have HM0:=hid (aG.of_below (S:=fun q=>q=g) (row:=Y) hba);have HK0:=hid (aE.new w 66 #[J A1 n1 c1,J A2 n2 c2]);have HNE:Hid (¬ (w.heap.size=g)):=hid (by have:=h.lt;omega);have z0:=HK0.o.cell;clear hba;rw [HE.o];clear l1 l2 h1 h2 hw hl h;go_in;go_wp2_with fail
 refine (mY HS0.o HD1.o HW.o.1 HL1.o).mono ?_;rintro e1 w1 ⟨rfl,hm1,hs1⟩;have HM1:=hid (HM0.o.trans (row':=Y) hm1 (fun _ e=>by cases e));have HS1:=hid hs1;have HK1:=hid (HK0.o.moved hm1 HNE.o (by simp));clear z0;have z1:=HK1.o.cell;clear hm1 hs1;go_wp2_with fail
 refine (mY HS1.o HD2.o HW.o.2 HL2.o).mono ?_;rintro e2 w2 ⟨rfl,hm2,hs2⟩;have HM2:=hid (HM1.o.trans (row':=Y) hm2 (fun _ e=>by cases e));have HS2:=hid hs2;have HK2:=hid (HK1.o.moved hm2 HNE.o (by simp));clear z1;have z2:=HK2.o.cell;clear hm2 hs2;go_wp2_with fail
 exact bodyPost_end (results_none rfl _ _ _) rfl ⟨rfl,HM2.o,HS2.o⟩
theorem DA {w0 w:World} {g m d:Nat} {bs:List Nat} {B:Option Addr} {ls:List Ct} (h:lH w0 g bs w) (hd:nW w0 B m d ls) (hw:∀ t ∈ ls,tD t) (hm:m<=1000000) (hl:(bs++(aH ls.length++ls.flatMap gF)).length<=4500000000000) :
 Calls Tryz.prog 97 #[I (some ⟨g,0,Y⟩),J B m d,.func (.func 98) #[I (some ⟨g,0,Y⟩)] #[]] w (yQ w0 g (bs++(aH ls.length++ls.flatMap gF)) w):=by
 have hen:∀ args w,(callFunc 98 args).run Tryz.prog w=.ok (.enter 98 args) w:=fun _ _=>by kernel_rfl
 have hml:=hd.len;obtain ⟨F,h0,h1,h2,h3⟩:=AZ (default:Ct) gF bs ls;rw [<-h2] at hl ⊢;have HF0:=hid h0;have HF1:=hid h1;have HF3:=hid (fun k=>Nat.le_trans (h3 k) hl);have hnum:=jZ (zs:=[(ls.length:Int)]) (h.below (aB w (Z #[O X (m:Int)] 3))) (kL w (m:Int) (by rw [hml])) (fun z hz=>by
  rw [List.mem_singleton] at hz;subst hz;exact ⟨by omega,by omega⟩) (by have e1:=h3 0;have e2:=hl;rw [h0,List.length_append] at e1;omega) (by decide) (d:=1)
 rw [show cO [(ls.length:Int)]=aH ls.length from by simp [cO],<-h0] at hnum;have HN:=hid hnum;have HD:=hid hd;have HWF:=hid hw;have HML:=hid hml;have HBA:=hid (aB w (Z #[O X (m:Int)] 3));rw [hml];clear h0 h1 h2 h3 hl hnum hd hw hml h;go_in;go_wp2_with fail
 refine (HN.o).mono ?_;rintro e w1 ⟨rfl,hm1,hs1⟩;have HM1:=hid (aG.trans (row:=Y) (row':=Y) (aG.of_below (S:=fun q=>q=g) HBA.o) hm1 (fun _ e=>by cases e));have HS1:=hid hs1;clear hm1 hs1;go_wp2_with fail
 go_loopw [15] (fun iv wr=>∃ k:Nat,iv=O X (k:Int)/\k<=m/\Hid (lH w0 g (F k) wr)/\Hid (aG (fun q=>q=g) Y w wr)) (fun iv _=>m-(intOf iv).toNat)
 case atStart=>exact ⟨0,rfl,Nat.zero_le _,HS1,HM1⟩
 case round =>
  obtain ⟨k,rfl,hk,HS2,HM2⟩:=hrel;by_cases hlt:k<m;rotate_left
  · have hkm:k=m:=aA;have d1:decide ((k:Int)<(m:Int))=false:=decide_eq_false aA;have d2:decide (k<m)=false:=decide_eq_false hlt;have HE:Hid (lH w0 g (F m) wr):=hid (hkm ▸ HS2.o);clear hkm;go_wp2_with fail
    exact bodyPost_end (results_none rfl _ _ _) rfl ⟨rfl,HM2.o,HE.o⟩
  have d1:decide ((k:Int)<(m:Int))=true:=decide_eq_true aA;have d2:decide (k<m)=true:=decide_eq_true hlt;have hkl:k<ls.length:=by rw [HML.o];exact hlt
  have HW1:=hid (HWF.o (ls.getD k (default:Ct)) (by rw [List.getD_eq_getElem?_getD,List.getElem?_eq_getElem hkl];exact List.getElem_mem hkl));have HFK:=hid (HF1.o k hkl);have HFL:=HF3.o k;obtain ⟨b,off,e,hlb,A1,n1,c1,A2,n2,c2,hc0,hc1,h1,h2⟩:=HD.o.both hlt;subst e;have hcell0:=(HS2.o.bel.cell (p:=⟨b,off+k*2,Y⟩) hlb).trans hc0;have hcell1:=(HS2.o.bel.cell (p:=⟨b,off+k*2+1,Y⟩) hlb).trans hc1;clear hc0 hc1;obtain ⟨x,hx⟩ : ∃ x,x=ls.getD k (default:Ct):=⟨_,rfl⟩;rw [<-hx] at h1 h2 HW1 HFK;clear hx hkl;have HBX:=hid (aB wr (Z #[J A1 n1 c1,J A2 n2 c2] 66));have HC:=hid (E4 (HS2.o.below HBX.o) h1 h2 HW1.o (by rw [<-HFK.o];exact HF3.o _));clear h1 h2;go_wp2_with fail
  first
   | refine (HC.o).mono ?_
   | (simp only [Array.empty_append,Array.append_empty];refine (HC.o).mono ?_)
   | (show Calls _ _ #[I (some ⟨g,0,Y⟩),.agg #[J A1 n1 c1,J A2 n2 c2]] _ _;refine (HC.o).mono ?_)
  rintro e w3 ⟨rfl,hm3,hs3⟩;have HM3:=hid (HM2.o.trans (row':=Y) (aG.trans (row:=Y) (row':=Y) (aG.of_below (S:=fun q=>q=g) HBX.o) hm3 (fun _ e=>by cases e)) (fun _ e=>by cases e));have HS3:=hid hs3;clear hm3 hs3;go_wp2_with fail
  go_roundw
  case rel=>exact ⟨k+1,by go_num,by omega,by rw [HFK.o];exact HS3,HM3⟩
  case measure=>simp [intOf];omega
theorem GN (w:World) {g:Nat} (hg:g=w.heap.size) (y z:Int):iZ (· < (w.alloc (Z #[O X y,O X z] 3)).heap.size) (w.alloc (Z #[O X y,O X z] 3)) (some ⟨g,0,Y⟩) 2 2 [y,z]:=by
 subst hg;refine ⟨rfl,by decide,fun _=>⟨w.heap.size,0,rfl,by simp,fun k hk => ?_⟩⟩;have hb:=(aE.new w 3 #[O X y,O X z]).cell;have hk2:k=0\/k=1:=aA;rcases hk2 with rfl | rfl
 · exact hb 0
 exact hb 1
theorem E5 {w0 w:World} {g:Nat} {bs:List Nat} {y z:Int} (h:lH w0 g bs w) (hw:CF (y,z)) (hl:bs.length<=4500000000000) :
 Calls Tryz.prog 42 #[I (some ⟨g,0,Y⟩),.agg #[O X y,O X z]] w (yQ w0 g (bs++iI (y,z)) w):=by
 have hba:=aB w (Z #[O X y,O X z] 68);have hbb:=aB (w.alloc (Z #[O X y,O X z] 68)) (Z #[O X y,O X z] 3);have hb2:=hba.trans (hbb.mono hba.size);have hn:=jZ (h.below hb2) (GN (g:=w.heap.size+1) (w.alloc (Z #[O X y,O X z] 68)) (by simp) y z) (fun q hq=>by
  obtain ⟨⟨a1,a2⟩,a3,a4⟩:=hw;simp only at a1 a2 a3 a4;simp only [List.mem_cons,List.not_mem_nil,or_false] at hq;rcases hq with rfl | rfl<;>omega) hl (by decide)
 rw [show cO [y,z]=iI (y,z) from by simp [cO,iI]] at hn;have HN:=hid hn;have HB:=hid hb2;clear hn hb2 hba hbb hw hl h;go_in;go_wp2_with fail
 refine (HN.o).mono ?_;rintro e w1 ⟨rfl,hm1,hs1⟩;have HM1:=hid (aG.trans (row:=Y) (row':=Y) (aG.of_below (S:=fun q=>q=g) HB.o) hm1 (fun _ e=>by cases e));have HS1:=hid hs1;clear hm1 hs1;go_wp2_with fail
 exact bodyPost_end (results_none rfl _ _ _) rfl ⟨rfl,HM1.o,HS1.o⟩
theorem DE {w0 w:World} {g m d:Nat} {bs:List Nat} {B:Option Addr} {ls:List (Int×Int)} (h:lH w0 g bs w) (hd:sM w0 B m d ls) (hw:∀ t ∈ ls,CF t) (hm:m<=1000000) (hl:(bs++(aH ls.length++ls.flatMap iI)).length<=4500000000000) :
 Calls Tryz.prog 41 #[I (some ⟨g,0,Y⟩),J B m d,.func (.func 42) #[I (some ⟨g,0,Y⟩)] #[]] w (yQ w0 g (bs++(aH ls.length++ls.flatMap iI)) w):=by
 have hen:∀ args w,(callFunc 42 args).run Tryz.prog w=.ok (.enter 42 args) w:=fun _ _=>by kernel_rfl
 have hml:=hd.len;obtain ⟨F,h0,h1,h2,h3⟩:=AZ ((0,0):Int×Int) iI bs ls;rw [<-h2] at hl ⊢;have HF0:=hid h0;have HF1:=hid h1;have HF3:=hid (fun k=>Nat.le_trans (h3 k) hl);have hnum:=jZ (zs:=[(ls.length:Int)]) (h.below (aB w (Z #[O X (m:Int)] 3))) (kL w (m:Int) (by rw [hml])) (fun z hz=>by
  rw [List.mem_singleton] at hz;subst hz;exact ⟨by omega,by omega⟩) (by have e1:=h3 0;have e2:=hl;rw [h0,List.length_append] at e1;omega) (by decide) (d:=1)
 rw [show cO [(ls.length:Int)]=aH ls.length from by simp [cO],<-h0] at hnum;have HN:=hid hnum;have HD:=hid hd;have HWF:=hid hw;have HML:=hid hml;have HBA:=hid (aB w (Z #[O X (m:Int)] 3));rw [hml];clear h0 h1 h2 h3 hl hnum hd hw hml h;go_in;go_wp2_with fail
 refine (HN.o).mono ?_;rintro e w1 ⟨rfl,hm1,hs1⟩;have HM1:=hid (aG.trans (row:=Y) (row':=Y) (aG.of_below (S:=fun q=>q=g) HBA.o) hm1 (fun _ e=>by cases e));have HS1:=hid hs1;clear hm1 hs1;go_wp2_with fail
 go_loopw [15] (fun iv wr=>∃ k:Nat,iv=O X (k:Int)/\k<=m/\Hid (lH w0 g (F k) wr)/\Hid (aG (fun q=>q=g) Y w wr)) (fun iv _=>m-(intOf iv).toNat)
 case atStart=>exact ⟨0,rfl,Nat.zero_le _,HS1,HM1⟩
 case round =>
  obtain ⟨k,rfl,hk,HS2,HM2⟩:=hrel;by_cases hlt:k<m;rotate_left
  · have hkm:k=m:=aA;have d1:decide ((k:Int)<(m:Int))=false:=decide_eq_false aA;have d2:decide (k<m)=false:=decide_eq_false hlt;have HE:Hid (lH w0 g (F m) wr):=hid (hkm ▸ HS2.o);clear hkm;go_wp2_with fail
    exact bodyPost_end (results_none rfl _ _ _) rfl ⟨rfl,HM2.o,HE.o⟩
  have d1:decide ((k:Int)<(m:Int))=true:=decide_eq_true aA;have d2:decide (k<m)=true:=decide_eq_true hlt;have hkl:k<ls.length:=by rw [HML.o];exact hlt
  have HW1:=hid (HWF.o (ls.getD k ((0,0):Int×Int)) (by rw [List.getD_eq_getElem?_getD,List.getElem?_eq_getElem hkl];exact List.getElem_mem hkl));have HFK:=hid (HF1.o k hkl);have HFL:=HF3.o k;obtain ⟨b,off,e,hlb,hm9⟩:=HD.o.mem aA;subst e;obtain ⟨hc0,hc1⟩:=hm9 k hlt;have hcell0:=(HS2.o.bel.cell (p:=⟨b,off+k*2,Y⟩) hlb).trans hc0;have hcell1:=(HS2.o.bel.cell (p:=⟨b,off+k*2+1,Y⟩) hlb).trans hc1;clear hc0 hc1 hm9;obtain ⟨x,hx⟩ : ∃ x,x=ls.getD k ((0,0):Int×Int):=⟨_,rfl⟩;rw [<-hx] at hcell0 hcell1 HW1 HFK;clear hx hkl;obtain ⟨y,z⟩:=x;simp only at hcell0 hcell1;have HBX:=hid (aB wr (Z #[O X y,O X z] 68));have HC:=hid (E5 (HS2.o.below HBX.o) HW1.o HFL);go_wp2_with fail
  first
   | refine (HC.o).mono ?_
   | (simp only [Array.empty_append,Array.append_empty];refine (HC.o).mono ?_)
   | (show Calls _ _ #[I (some ⟨g,0,Y⟩),.agg #[O X y,O X z]] _ _;refine (HC.o).mono ?_)
  rintro e w3 ⟨rfl,hm3,hs3⟩;have HM3:=hid (HM2.o.trans (row':=Y) (aG.trans (row:=Y) (row':=Y) (aG.of_below (S:=fun q=>q=g) HBX.o) hm3 (fun _ e=>by cases e)) (fun _ e=>by cases e));have HS3:=hid hs3;clear hm3 hs3;go_wp2_with fail
  go_roundw
  case rel=>exact ⟨k+1,by go_num,by omega,by rw [HFK.o];exact HS3,HM3⟩
  case measure=>simp [intOf];omega
end Go.Proofs.YtplecfbdchmogaaGreat
