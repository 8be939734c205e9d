/- Merged: Cod, Join. -/
import Derived.Test.YtplecfbdchmogaaGreatDNxP
import Derived.Test.YtplecfbdchmogaaGreatDDz
import Derived.Test.YtplecfbdchmogaaGreatChecked
import Derived.Test.YtplecfbdchmogaaGreatDBase
import Derived.ProofKit
import Derived.SizedLaws
import Derived.Deep.Slices
import Derived.Deep.Fields
namespace Go.Proofs.YtplecfbdchmogaaGreat
section
open Go.Lib (hid)
set_option maxHeartbeats 16000000
set_option maxRecDepth 100000
set_option linter.unusedVariables false
set_option linter.unusedSimpArgs false
open Go.RowKit
theorem AY {w:World} {A B:Option Addr} {n c m d:Nat} {bs:List Nat} (h:gC w A n c bs) (h':gC w B m d bs) :
 Calls Tryz.prog 17 #[.slice A n c,.slice B m d] w (fT true w):=by
 obtain rfl:n=m:=h.len.symm.trans h'.len;have hfew:=h.few;have H1:=hid h.mem;have H2:=hid h'.mem;clear h h';go_in;go_wp2_with fail
 go_loopw [5] (fun iv wr=>∃ i m:Nat,iv=.int .i64 (i:Int)/\i<=n/\wr=w.drewN m) (fun iv _=>n-(intOf iv).toNat)
 case atStart=>exact ⟨0,0,rfl,Nat.zero_le _,rfl⟩
 case round =>
  obtain ⟨i,m,rfl,hi,rfl⟩:=hrel;by_cases hlt:i<n
  · have d1:decide ((i:Int)<(n:Int))=true:=decide_eq_true aA;have d2:decide (i<n)=true:=decide_eq_true hlt;have hlt2:(i:Int)<(n:Int):=aA;obtain ⟨b1,o1,e1,_,q1⟩:=H1.o aA;obtain ⟨b2,o2,e2,_,q2⟩:=H2.o aA;subst e1 e2;have r1:=q1 i hlt;have r2:=q2 i hlt;obtain ⟨x,hx⟩ : ∃ x,x=bs.getD i 0:=⟨_,rfl⟩;rw [<-hx] at r1 r2;clear q1 q2 hx;go_wp2_with fail
    go_quiet (fail)
    go_wp2_with fail
    go_roundw
    case rel=>exact ⟨i+1,_,by go_num,by omega,by rfl⟩
    case measure=>simp [intOf];omega
  have d1:decide ((i:Int)<(n:Int))=false:=decide_eq_false aA;have d2:decide (i<n)=false:=decide_eq_false hlt;go_wp2_with fail
  go_ret;exact ⟨rfl,aK (Below.refl _ _) _⟩
theorem uM {p:Pg} : ∀ x ∈ (eL p).1,x<256:=by
 unfold eL;split
 · intro x hx;cases hx
 split
 · intro x hx;cases hx
 exact fun x hx=>lC.bytes p x hx
theorem wC {p:Pg}:(eL p).1.length<=65536:=by
 unfold eL;split
 · simp
 split
 · simp
 simp only;omega
theorem CZ {w:World} {u:gX} {p:Pg} (hp:iM w u p) {A:Option Addr} {n c:Nat} {bs:List Nat} (h:gC w A n c bs) :
 Calls Tryz.prog 4 #[.agg (cT u p),.slice A n c] w (fT true w):=by
 have hb1:=aB w (.cells (cT u p) 36);have HB1:=hid hb1;have HK1:=hid (aE.new w 36 (cT u p));have HP:=hid hp;have HBY:=hid h;have hfew:=h.few;unfold cT at HB1 HK1 ⊢;clear hb1 hp h;go_in;go_wp2_with fail
 refine yT.mono ?_;rintro e w1 ⟨rfl,hb1⟩;have HB2:=cN HB1 hb1;have HK2:=hid (HK1.o.below hb1 HK1.o.lt);have HHV:=hid (zR (HP.o.below HB2.o).book);have z1:=HK2.o.cell;clear hb1;obtain ⟨hv,hhv⟩ : ∃ b,b=decide (12000<=tY 12000 p.book):=⟨_,rfl⟩;rw [<-hhv] at HHV;clear hhv;go_wp2_with fail
 refine (HHV.o).mono ?_;rintro e w2 ⟨rfl,hb2⟩;have HB3:=cN HB2 hb2;have HK3:=hid (HK2.o.below hb2 HK2.o.lt);clear z1 hb2;have z2:=HK3.o.cell;by_cases hbig:hv=true\/5000<u.nm\/5000<u.nt\/(20000<n/\n<=65536)
 · have hs:hv=true\/(hv=false/\5000<u.nm)\/(hv=false/\¬ 5000<u.nm/\5000<u.nt)\/(hv=false/\¬ 5000<u.nm/\¬ 5000<u.nt/\20000<n/\n<=65536):=by
    cases hv
    · simp only [Bool.false_eq_true,false_or] at hbig;by_cases h:5000<u.nm
      · exact Or.inr (Or.inl ⟨rfl,h⟩)
      by_cases h2:5000<u.nt
      · exact Or.inr (Or.inr (Or.inl ⟨rfl,h,h2⟩))
      exact Or.inr (Or.inr (Or.inr ⟨rfl,h,h2,by omega,by omega⟩))
    exact Or.inl rfl
   clear hbig;rcases hs with rfl | ⟨rfl,h2⟩ | ⟨rfl,h2,h3⟩ | ⟨rfl,h2,h3,h4,h5⟩
   case' inr.inl=>have d1:decide ((u.nm:Int)>5000)=true:=decide_eq_true aA
   case' inr.inr.inl =>
    have d1:decide ((u.nm:Int)>5000)=false:=decide_eq_false aA;have d2:decide ((u.nt:Int)>5000)=true:=decide_eq_true aA
   case' inr.inr.inr =>
    have d1:decide ((u.nm:Int)>5000)=false:=decide_eq_false aA;have d2:decide ((u.nt:Int)>5000)=false:=decide_eq_false aA;have d3:decide ((n:Int)>20000)=true:=decide_eq_true aA;have d4:decide ((n:Int)<=65536)=true:=decide_eq_true aA;have d5:decide (n<=65536)=true:=decide_eq_true h5
   all_goals
    go_wp2_with fail
    go_ret;exact ⟨rfl,HB3.o⟩
 obtain rfl:hv=false:=by
  cases hv
  · rfl
  exact absurd (Or.inl rfl) hbig
 have d1:decide ((u.nm:Int)>5000)=false:=decide_eq_false aA;have d2:decide ((u.nt:Int)>5000)=false:=decide_eq_false aA;obtain ⟨big,hb9⟩ : ∃ b,b=decide (20000<n):=⟨_,rfl⟩;have d3:decide ((n:Int)>20000)=big:=by rw [hb9];exact decide_eq_decide.2 aA
 have d4:big=true->decide ((n:Int)<=65536)=false:=fun h9=>decide_eq_false (by rw [hb9] at h9;have:=of_decide_eq_true h9;omega);have HD4:=hid d4;clear hbig d4 hb9;have hen:=rA (HP.o.below HB3.o);have hzn:=fun (W:World) (hb:Below w.heap.size w W)=>yL (HP.o.below hb);have hey:∀ x ∈ (eL p).1,x<256:=uM;have hef:(eL p).1.length<=65536:=wC;obtain ⟨eq,heq⟩ : ∃ q,q=eL p:=⟨_,rfl⟩;rw [<-heq] at hen hey hef;have hzn2:∀ (W:World) (hb:Below w.heap.size w W),Calls Tryz.prog 14 #[.agg #[.int .i64 p.book.vars,.slice u.bk.Ao u.bk.no u.bk.co,.slice u.bk.Ae u.bk.ne u.bk.ce,.int .i64 p.book.nat,.slice u.bk.Ap u.bk.np u.bk.cp,.slice u.Am u.nm u.cm,.slice u.At u.nt u.ct]] W (pN eq W):=fun W hb=>by rw [heq];exact hzn W hb
 clear hzn heq;obtain ⟨dq,hdq⟩ : ∃ q,q=gP bs:=⟨_,rfl⟩;have hde:∀ (W:World) (hb:Below w.heap.size w W),Calls Tryz.prog 15 #[.slice A n c] W (IK dq W):=fun W hb=>by rw [hdq];exact qZ (HBY.o.below hb)
 have hdz:∀ (W:World) (hb:Below w.heap.size w W),Calls Tryz.prog 16 #[.slice A n c] W (IK dq W):=fun W hb=>by rw [hdq];exact yK (HBY.o.below hb)
 obtain ⟨L,z⟩:=eq;obtain ⟨q,zd⟩:=dq;simp only at hey hef;have HEN:=hid hen;have HZN:=hid hzn2;have HDE:=hid hde;have HDZ:=hid hdz;have HEY:=hid hey;have HEF:=hid hef;clear hen hzn2 hde hdz hdq hey hef;cases big
 case' true=>have d4:=HD4.o rfl
 all_goals
  clear HD4;go_wp2_with fail
  refine (HEN.o).mono ?_;rintro e w3 ⟨hb3,A3,c3,rfl,ho3⟩;simp only at ho3 ⊢;have HB4:=cN HB3 hb3;have HK4:=hid (HK3.o.below hb3 HK3.o.lt);have HY3:Hid (gC w3 A3 L.length c3 L):=hid ((ho3.byt HEY.o (by have:=HEF.o;omega)).keep fun b hb=>⟨hb.2,fun _=>rfl⟩);clear z2 hb3 ho3;have z3:=HK4.o.cell;go_wp2_with fail
  refine (HZN.o _ HB4.o).mono ?_;rintro e w4 ⟨hb4,A4,c4,rfl,ho4⟩;simp only at ho4 ⊢;have HB5:=cN HB4 hb4;have HY4:Hid (gC w4 A4 L.length c4 L):=hid ((ho4.byt HEY.o (by have:=HEF.o;omega)).keep fun b hb=>⟨hb.2,fun _=>rfl⟩);have HY3b:=hid (HY3.o.below hb4);clear z3 hb4 ho4;go_wp2_with fail
  refine (HDE.o _ HB5.o).mono ?_;rintro e w5 ⟨hb5,u5,he5,hq5⟩;simp only at he5 hq5;subst he5;have HB6:=cN HB5 hb5;have HY3c:=hid (HY3b.o.below hb5);have HY4c:=hid (HY4.o.below hb5);have HQ5:=hid (hq5.progV fun q hq=>hq.2);clear hb5 hq5;have hbq:=aB w5 (.cells (cT u5 q) 36);have HB7:=cN HB6 hbq;have HKQ:=hid (aE.new w5 36 (cT u5 q));have HPQ:=hid (HQ5.o.below hbq);have HY3d:=hid (HY3c.o.below hbq);have HY4d:=hid (HY4c.o.below hbq);unfold cT at HB7 HKQ HPQ HY3d HY4d ⊢;clear hbq;go_wp2_with fail
  refine (HDZ.o _ HB7.o).mono ?_;rintro e w6 ⟨hb6,u6,he6,hq6⟩;simp only at he6 hq6;subst he6;have hbr:=aB w6 (.cells (cT u6 q) 36);have HB8:=hid (HB7.o.trans ((hb6.mono HB7.o.size).trans (hbr.mono (Nat.le_trans HB7.o.size hb6.size))));have HKQ2:=hid ((HKQ.o.below hb6 HKQ.o.lt).alloc (.cells (cT u6 q) 36));have HKR:=hid (aE.new w6 36 (cT u6 q));have HPQ2:=hid ((HPQ.o.below hb6).below hbr);have HPR2:=hid ((hq6.progV fun q hq=>hq.2).below hbr);have HY3e:=hid ((HY3d.o.below hb6).below hbr);have HY4e:=hid ((HY4d.o.below hb6).below hbr);have HSB:=hid (AY HY3e.o HY4e.o);unfold cT at HB8 HKQ2 HKR HPQ2 HPR2 HSB ⊢;have zq:=HKQ2.o.cell;have zr:=HKR.o.cell;have HLR:=hid HKR.o.lt;clear hb6 hbr hq6;go_wp2_with fail
  refine (HSB.o).mono ?_;rintro e w7 ⟨rfl,hb7⟩;have HB9:=cN HB8 hb7;have HKQ3:=hid (HKQ2.o.below hb7 HKQ2.o.lt);have HKR3:=hid (HKR.o.below hb7 HKR.o.lt);have HSP:=hid (sV (HPQ2.o.below hb7) (HPR2.o.below hb7));unfold cT at HSP;clear hb7 zq zr;have zq:=HKQ3.o.cell;have zr:=HKR3.o.cell;go_wp2_with fail
  refine (HSP.o).mono ?_;rintro e w8 ⟨rfl,hb8⟩;have HB10:=cN HB9 hb8;clear hb8;go_wp2_with fail
  go_ret;exact ⟨rfl,HB10.o⟩
end
section
open Go.ChangeShapes Go.WideShapes Go.ChangeAt Go.RowKit Go.Deep
theorem Tryz.own:ownKnob Tryz.prog.godebug=none:=by kernel_rfl
theorem Tryz.laidOut:laidOutB Tryz.prog=true:=by kernel_rfl
theorem tK:Tryz.prog.cellsOf 53=3:=by kernel_rfl
theorem DZ:Tryz.prog.bytesOf 53=24:=by kernel_rfl
theorem lV:Tryz.prog.cellsOf 3=1:=by kernel_rfl
section
variable {H : Type} {enc : TypeId × Value->H}
set_option maxRecDepth 100000 in
theorem JI {w:World} {base:Nat} {spare:Nat->Bool} {held:Bool} {n:Nat} {cs:List Value} {x:DataW H×List MemPlace} (h:DataW.trod enc Tryz.prog w base spare held n 53 cs=some x) : ∃ o a b:Int,cs=[.int .i64 o,.int .i64 a,.int .i64 b]:=by
 obtain ⟨xs,m,_,_,hlen,hxs,hf⟩:=DataW.trod_struct Tryz.underlying53 h;rw [tK] at hlen;have g0:DataW.trod enc Tryz.prog w base spare held m 3 ((cs.drop 0).take (Tryz.prog.cellsOf 3))=xs[0]?:=hf 0 _ rfl;have g1:DataW.trod enc Tryz.prog w base spare held m 3 ((cs.drop 1).take (Tryz.prog.cellsOf 3))=xs[1]?:=hf 1 _ rfl;have g2:DataW.trod enc Tryz.prog w base spare held m 3 ((cs.drop 2).take (Tryz.prog.cellsOf 3))=xs[2]?:=hf 2 _ rfl;have hx3:xs.length=3:=hxs;rw [lV] at g0 g1 g2
 match cs,hlen with
 | [c0,c1,c2],_ =>
  match xs,hx3 with
  | [y0,y1,y2],_ =>
   obtain ⟨o,ho,_⟩:=DataW.trod_int Tryz.underlying3 g0;obtain ⟨a,ha,_⟩:=DataW.trod_int Tryz.underlying3 g1;obtain ⟨b,hb,_⟩:=DataW.trod_int Tryz.underlying3 g2;simp at ho ha hb;subst ho ha hb;exact ⟨o,a,b,rfl⟩
theorem EY {W:World} {base:Nat} {sp:Nat->Bool} {held:Bool}:DataW.Trod enc Tryz.prog W base sp held 4 (.bool true) (.lit (.bool true)) []:=⟨1,by simp [DataW.trod,Value.cells,Tryz.underlying4]⟩
end
end
end Go.Proofs.YtplecfbdchmogaaGreat
