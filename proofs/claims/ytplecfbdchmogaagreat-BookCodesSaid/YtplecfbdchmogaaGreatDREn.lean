/- Programs that are written: the reference (Fault, Encode). -/
import Derived.Test.YtplecfbdchmogaaGreatDRWb
namespace Go.Proofs.YtplecfbdchmogaaGreat
open Go.Value renaming slice → O
open Go.Lib (hid)
set_option maxHeartbeats 8000000
set_option maxRecDepth 100000
set_option linter.unusedVariables false
set_option linter.unusedSimpArgs false
open Go.RowKit
theorem GA (p:Pg):dU p=if eS p.book 0 p.main ≠ 0 then eS p.book 0 p.main else eS p.book 0 p.type:=by
 unfold dU;by_cases h:cZ p.book ≠ 0
 · have e:∀ t,eS p.book 0 t=cZ p.book:=fun t=>by unfold eS;rw [if_pos h]
   rw [if_pos h,e,e,if_pos h]
 rw [if_neg h]
theorem nU {w:World} {u:gX} {p:Pg} (hp:iM w u p) :
 Calls Tryz.prog 44 #[.agg #[.int .i64 p.book.vars,O u.bk.Ao u.bk.no u.bk.co,O u.bk.Ae u.bk.ne u.bk.ce,.int .i64 p.book.nat,O u.bk.Ap u.bk.np u.bk.cp,O u.Am u.nm u.cm,O u.At u.nt u.ct]] w (gD (dU p) w):=by
 have hb1:=aB w (.cells #[.int .i64 p.book.vars,O u.bk.Ao u.bk.no u.bk.co,O u.bk.Ae u.bk.ne u.bk.ce,.int .i64 p.book.nat,O u.bk.Ap u.bk.np u.bk.cp,O u.Am u.nm u.cm,O u.At u.nt u.ct] 36);have HB1:=hid hb1;have HK1:=hid (aE.new w 36 #[.int .i64 p.book.vars,O u.bk.Ao u.bk.no u.bk.co,O u.bk.Ae u.bk.ne u.bk.ce,.int .i64 p.book.nat,O u.bk.Ap u.bk.np u.bk.cp,O u.Am u.nm u.cm,O u.At u.nt u.ct]);have HF1:=hid (pY (hp.below hb1).book 0 (hp.below hb1).main);have HF2:=hid (fun (w':World) (h:Below w.heap.size w w')=>pY (hp.below h).book 0 (hp.below h).type);have HE:=hid (GA p);obtain ⟨z1,hz1⟩ : ∃ z,z=eS p.book 0 p.main:=⟨_,rfl⟩;obtain ⟨z2,hz2⟩ : ∃ z,z=eS p.book 0 p.type:=⟨_,rfl⟩;rw [<-hz1] at HF1 HE;rw [<-hz2] at HF2 HE;obtain ⟨pe,hpe⟩ : ∃ z,z=dU p:=⟨_,rfl⟩;rw [<-hpe] at HE ⊢;have z0:=HK1.o.cell;clear hp hb1 hz1 hz2 hpe;go_in;go_wp2_with fail
 refine (HF1.o).mono ?_;rintro e w1 ⟨rfl,hb2⟩;have HB2:=cN HB1 hb2;have HK2:=hid (HK1.o.below hb2 HK1.o.lt);clear hb2 z0;have z0:=HK2.o.cell;by_cases h1:z1=0
 · have d1:(z1==0)=true:=by rw [h1];rfl
   have d2:decide (z1=0)=true:=decide_eq_true h1;have HE2:Hid (pe=z2):=hid (HE.o.trans (if_neg (fun h=>h h1)));clear h1;go_wp2_with fail
   refine (HF2.o _ HB2.o).mono ?_;rintro e w3 ⟨rfl,hb3⟩;have HB3:=cN HB2 hb3;clear hb3;go_wp2_with fail
   go_ret;exact ⟨by rw [HE2.o];rfl,HB3.o⟩
 have d1:(z1==0)=false:=by simpa using h1
 have d2:decide (z1=0)=false:=decide_eq_false h1;have HE2:Hid (pe=z1):=hid (HE.o.trans (if_pos h1));clear h1;go_wp2_with fail
 go_ret;exact ⟨by rw [HE2.o];rfl,HB2.o⟩
theorem yL {w:World} {u:gX} {p:Pg} (hp:iM w u p) :
 Calls Tryz.prog 14 #[.agg #[.int .i64 p.book.vars,O u.bk.Ao u.bk.no u.bk.co,O u.bk.Ae u.bk.ne u.bk.ce,.int .i64 p.book.nat,O u.bk.Ap u.bk.np u.bk.cp,O u.Am u.nm u.cm,O u.At u.nt u.ct]] w (pN (eL p) w):=by
 have hb1:=aB w (.cells #[.int .i64 p.book.vars,O u.bk.Ao u.bk.no u.bk.co,O u.bk.Ae u.bk.ne u.bk.ce,.int .i64 p.book.nat,O u.bk.Ap u.bk.np u.bk.cp,O u.Am u.nm u.cm,O u.At u.nt u.ct] 36);have HB1:=hid hb1;have HK1:=hid (aE.new w 36 #[.int .i64 p.book.vars,O u.bk.Ao u.bk.no u.bk.co,O u.bk.Ae u.bk.ne u.bk.ce,.int .i64 p.book.nat,O u.bk.Ap u.bk.np u.bk.cp,O u.Am u.nm u.cm,O u.At u.nt u.ct]);have HF1:=hid (nU (hp.below hb1));have HBY:=hid (fun (w':World) (h:Below w.heap.size w w') (hw:oQ p)=>BN (hp.below h) hw);have HPE:Hid (dU p=0->oQ p):=hid rT;obtain ⟨res,hres⟩ : ∃ r,r=eL p:=⟨_,rfl⟩;rw [<-hres];have HRES:Hid (res=if dU p ≠ 0 then ([],dU p) else if 65536<(jI p).length then ([],6) else (jI p,0)):=hid hres;obtain ⟨pe,hpe⟩ : ∃ z,z=dU p:=⟨_,rfl⟩;rw [<-hpe] at HF1 HRES HPE;have z0:=HK1.o.cell;unfold cT at HBY;clear hp hb1 hres hpe;go_in;go_wp2_with fail
 refine (HF1.o).mono ?_;rintro e w1 ⟨rfl,hb2⟩;have HB2:=cN HB1 hb2;have HK2:=hid (HK1.o.below hb2 HK1.o.lt);clear hb2 z0;have z0:=HK2.o.cell;by_cases h1:pe=0;rotate_left
 · have d1:(pe != 0)=true:=by simpa using h1
   have HR2:Hid (res=([],pe)):=hid (HRES.o.trans (if_pos h1));clear h1;go_wp2_with fail
   go_ret2;exact ⟨HB2.o,none,0,by rw [HR2.o];rfl,by rw [HR2.o];exact bM.nil _ _⟩
 have d1:(pe != 0)=false:=by rw [h1];rfl
 have HC:=hid (HBY.o _ HB2.o (HPE.o h1));have HR2:=hid (HRES.o.trans (if_neg (fun h=>h h1)));obtain ⟨T,hT⟩ : ∃ T,T=jI p:=⟨_,rfl⟩;rw [<-hT] at HC HR2;clear h1 hT;go_wp2_with fail
 refine (HC.o).mono ?_;rintro e w3 ⟨hb3,A3,c3,rfl,ho3⟩;have HB3:=cN HB2 hb3;have HO3:=hid (kN ho3 HB2.o.size);clear hb3 ho3;by_cases h2:65536<T.length
 · have d2:decide ((T.length:Int)>65536)=true:=decide_eq_true aA;have HR3:Hid (res=([],6)):=hid (HR2.o.trans (if_pos h2));clear h2;go_wp2_with fail
   go_ret2;exact ⟨HB3.o,none,0,by rw [HR3.o];rfl,by rw [HR3.o];exact bM.nil _ _⟩
 have d2:decide ((T.length:Int)>65536)=false:=decide_eq_false aA;have HR3:Hid (res=(T,0)):=hid (HR2.o.trans (if_neg h2));clear h2;go_wp2_with fail
 go_ret2;exact ⟨HB3.o,A3,c3,by rw [HR3.o];rfl,by rw [HR3.o];exact HO3.o⟩
end Go.Proofs.YtplecfbdchmogaaGreat
