/- Merged: Right, GuardW. -/
import Derived.Test.YtplecfbdchmogaaGreatDRegist
import Derived.Test.YtplecfbdchmogaaGreatDShort2
import Derived.Test.YtplecfbdchmogaaGreatDProgW
namespace Go.Proofs.YtplecfbdchmogaaGreat
open Go.Value renaming int → O, slice → X
open Go.IntKind renaming i64 → S
open Go.Lib (hid)
set_option maxHeartbeats 4000000
set_option maxRecDepth 100000
set_option linter.unusedVariables false
set_option linter.unusedSimpArgs false
section
open Go.RowKit
theorem sP {b:Bk} {i:Nat} {x:En} {r:List En}:bR b i (x::r)=if bS b i x ≠ 0 then bS b i x else bR b (i+1) r:=rfl
theorem mS {w:World} {v:cP} {b:Bk} (hb:bY w v b) :
 Calls Tryz.prog 9 #[.agg #[O S b.vars,X v.Ao v.no v.co,X v.Ae v.ne v.ce,O S b.nat,X v.Ap v.np v.cp]] w (gD (cZ b) w):=by
 have hlen:=hb.entries.len;have hefew:=hb.entries.few;have HCHK:=hid (fun (w':World) (h:Below w.heap.size w w')=>CY hb.vars (hb.orders.below h));have HEN:=hid (fun (w':World) (h:Below w.heap.size w w')=>hb.entries.below h);have HENT:=hid (fun (w':World) (i:Nat) (ev:eQ) (x:En) (h:Below w.heap.size w w') (h1:i<=b.entries.length) (h2:p9 w' ev x)=>yY (hb.below h) (i:Int) aA h2);have HREG:=hid (fun (w':World) (h:Below w.heap.size w w')=>rY (hb.below h));have HB0:=hid (aB w (.cells #[O S b.vars,X v.Ao v.no v.co,X v.Ae v.ne v.ce,O S b.nat,X v.Ap v.np v.cp] 26));have HK0:=hid (aE.new w 26 #[O S b.vars,X v.Ao v.no v.co,X v.Ae v.ne v.ce,O S b.nat,X v.Ap v.np v.cp]);have HR0:Hid (cZ b=if (mL b.vars b.orders).1 ≠ 0 then (mL b.vars b.orders).1
 else if 64<b.entries.length then 5
 else if bR b 0 b.entries ≠ 0 then bR b 0 b.entries
 else if vF b then 0 else 22):=hid rfl
 generalize cZ b=res at *;generalize (mL b.vars b.orders).1=ck at *;rw [hlen] at HR0 HENT;have HLN:=hid hlen;obtain ⟨Ao,no,co,Ae,ne,ce,Ap,np,cp⟩:=v;simp only at HCHK HEN HENT HREG HB0 HK0 HR0 HLN hefew ⊢;clear hb hlen;generalize b.vars=bv at *;generalize b.nat=bn at *;by_cases h1:ck=0;case neg =>
  rw [if_pos h1] at HR0;have d1:(ck != 0)=true:=by simpa using h1
  clear h1;go_in;go_wp2_with fail
  refine (HCHK.o _ HB0.o).mono ?_;rintro e w2 ⟨rfl,hb2⟩;have HB2:=cN HB0 hb2;clear hb2;go_wp2_with fail
  go_ret;rw [HR0.o];exact ⟨rfl,HB2.o⟩
 subst h1;rw [if_neg (by simp)] at HR0;by_cases h2:64<ne
 · rw [if_pos h2] at HR0;have d2:decide ((ne:Int)>64)=true:=decide_eq_true aA;clear h2;go_in;go_wp2_with fail
   refine (HCHK.o _ HB0.o).mono ?_;rintro e w2 ⟨rfl,hb2⟩;have HB2:=cN HB0 hb2;have zk2:=aE.cell (aE.below HK0.o hb2 (by simp));clear hb2;go_wp2_with fail
   go_ret;rw [HR0.o];exact ⟨rfl,HB2.o⟩
 rw [if_neg h2] at HR0;have d2:decide ((ne:Int)>64)=false:=decide_eq_false aA;clear h2;go_in;go_wp2_with fail
 refine (HCHK.o _ HB0.o).mono ?_;rintro e w2 ⟨rfl,hb2⟩;have HB2:=cN HB0 hb2;have HK2:=hid (aE.below HK0.o hb2 (by simp));have zk2:=aE.cell HK2.o;clear hb2;go_wp2_with fail
 clear zk2;go_loopw [22] (fun iv wr=>∃ i:Nat,iv=O S (i:Int)/\i<=ne/\Hid (bR b i (b.entries.drop i)=bR b 0 b.entries)/\Hid (aE wr w.heap.size 26 #[O S bv,X Ao no co,X Ae ne ce,O S bn,X Ap np cp])/\Hid (Below w.heap.size w wr)) (fun i _=>ne-(intOf i).toNat)
 case atStart=>exact ⟨0,rfl,by omega,hid rfl,HK2,HB2⟩
 case round =>
  obtain ⟨i,rfl,hi,hes,hbk,hbw⟩:=hrel;by_cases hlt:i<ne;rotate_left
  · have hib:decide ((i:Int)<(ne:Int))=false:=decide_eq_false aA;have hq:=hes.o;rw [List.drop_of_length_le (by rw [HLN.o];omega)] at hq;have HRF:Hid (res=if vF b then 0 else 22):=hid (by rw [HR0.o,<-hq];rfl);have HC:=hid (HREG.o wr hbw.o);have zk:=aE.cell hbk.o;generalize vF b=rb at *;clear hq;cases rb with
    | true =>
     rw [if_pos rfl] at HRF;go_wp2_with fail
     refine (HC.o).mono ?_;rintro e w4 ⟨rfl,hb4⟩;have HB4:=cN hbw hb4;clear hb4 zk;go_wp2_with fail
     go_ret;rw [HRF.o];exact ⟨rfl,HB4.o⟩
    | false =>
     rw [if_neg (by simp)] at HRF;go_wp2_with fail
     refine (HC.o).mono ?_;rintro e w4 ⟨rfl,hb4⟩;have HB4:=cN hbw hb4;clear hb4 zk;go_wp2_with fail
     go_ret;rw [HRF.o];exact ⟨rfl,HB4.o⟩
  have hib:decide ((i:Int)<(ne:Int))=true:=decide_eq_true aA;obtain ⟨be,oe,rfl,hbe,ev,hc0,hc1,hc2,hc3,hc4,hc5,hc6,hec⟩:=(HEN.o wr hbw.o).at_ hlt;have hil:i<b.entries.length:=by rw [HLN.o];exact hlt
  have hq:=hes.o;rw [List.drop_eq_getElem_cons hil,show b.entries[i]=b.entries.getD i default from by rw [List.getD_eq_getElem?_getD,List.getElem?_eq_getElem hil];rfl,sP] at hq;generalize b.entries.getD i default=x at *;have HBa:=hid (hbw.o.trans ((aB wr (.cells #[O S x.kind,X ev.As ev.ns ev.cs,X ev.Ap ev.np ev.cp,X ev.Ai ev.ni ev.ci,X ev.Ac ev.nc ev.cc,X ev.At ev.nt ev.ct,X ev.Ab ev.nb ev.cb] 57)).mono hbw.o.size));have HKa:=hid (hbk.o.alloc (.cells #[O S x.kind,X ev.As ev.ns ev.cs,X ev.Ap ev.np ev.cp,X ev.Ai ev.ni ev.ci,X ev.Ac ev.nc ev.cc,X ev.At ev.nt ev.ct,X ev.Ab ev.nb ev.cb] 57));have HC:=hid (HENT.o _ i ev x HBa.o aA (hec.below (aB wr (.cells #[O S x.kind,X ev.As ev.ns ev.cs,X ev.Ap ev.np ev.cp,X ev.Ai ev.ni ev.ci,X ev.Ac ev.nc ev.cc,X ev.At ev.nt ev.ct,X ev.Ab ev.nb ev.cb] 57))));generalize x.kind=kd at *;generalize bS b i x=ee at *;have zk:=aE.cell hbk.o;have hbl:=hbk.o.lt;obtain ⟨As,ns,cs,Ap2,np2,cp2,Ai,ni,ci,Ac,nc,cc,At,nt,ct,Ab,nb,cb⟩:=ev;simp only at hc1 hc2 hc3 hc4 hc5 hc6 HBa HKa HC;clear hec;by_cases h3:ee=0
  · subst h3;rw [if_neg (by simp)] at hq;have HQ:=hid hq;clear hq;go_wp2_with fail
    refine (HC.o).mono ?_;rintro e w4 ⟨rfl,hb4⟩;have HB4:=cN HBa hb4;have HK4:=gJ HKa hb4;clear hb4 zk;go_wp2_with fail
    go_roundw
    case rel=>exact ⟨i+1,by go_num,by omega,HQ,HK4,HB4⟩
    case measure=>simp [intOf];omega
  rw [if_pos h3] at hq;have HRF:Hid (res=ee):=hid (by rw [HR0.o,<-hq,if_pos h3]);have d3:(ee != 0)=true:=by simpa using h3
  clear hq h3;go_wp2_with fail
  refine (HC.o).mono ?_;rintro e w4 ⟨rfl,hb4⟩;have HB4:=cN HBa hb4;clear hb4 zk;go_wp2_with fail
  go_ret;rw [HRF.o];exact ⟨rfl,HB4.o⟩
theorem wJ {w:World} {v:cP} {b:Bk} (hb:bY w v b) (free:Int) {A:Option Addr} {n c:Nat} {l:List Nd} (ht:aQ w A n c l) :
 Calls Tryz.prog 11 #[.agg #[O S b.vars,X v.Ao v.no v.co,X v.Ae v.ne v.ce,O S b.nat,X v.Ap v.np v.cp],O S free,X A n c] w (gD (eS b free l) w):=by
 have hlen:=hb.entries.len;have HRT:=hid (fun (w':World) (h:Below w.heap.size w w')=>mS (hb.below h));have HRW:=hid (fun (w':World) (h:Below w.heap.size w w')=>vI (hb.below h) (b.entries.length:Int) (-1) aA (ht.below h) free);have HB0:=hid (aB w (.cells #[O S b.vars,X v.Ao v.no v.co,X v.Ae v.ne v.ce,O S b.nat,X v.Ap v.np v.cp] 26));have HK0:=hid (aE.new w 26 #[O S b.vars,X v.Ao v.no v.co,X v.Ae v.ne v.ce,O S b.nat,X v.Ap v.np v.cp]);have HR0:Hid (eS b free l=if cZ b ≠ 0 then cZ b else if free<0 then 1 else eW b b.entries.length (-1) l free):=hid rfl;generalize eS b free l=res at *;generalize cZ b=re at *;generalize eW b b.entries.length (-1) l free=ro at *;rw [hlen] at HRW;obtain ⟨Ao,no,co,Ae,ne,ce,Ap,np,cp⟩:=v;simp only at HRT HRW HB0 HK0 ⊢;clear hb ht hlen;generalize b.vars=bv at *;generalize b.nat=bn at *;by_cases h1:re=0;case neg =>
  rw [if_pos h1] at HR0;have d1:(re != 0)=true:=by simpa using h1
  clear h1;go_in;go_wp2_with fail
  refine (HRT.o _ HB0.o).mono ?_;rintro e w2 ⟨rfl,hb2⟩;have HB2:=cN HB0 hb2;clear hb2;go_wp2_with fail
  go_ret;rw [HR0.o];exact ⟨rfl,HB2.o⟩
 subst h1;rw [if_neg (by simp)] at HR0;by_cases h2:free<0
 · rw [if_pos h2] at HR0;have d2:decide (free<0)=true:=decide_eq_true h2;clear h2;go_in;go_wp2_with fail
   refine (HRT.o _ HB0.o).mono ?_;rintro e w2 ⟨rfl,hb2⟩;have HB2:=cN HB0 hb2;clear hb2;go_wp2_with fail
   go_ret;rw [HR0.o];exact ⟨rfl,HB2.o⟩
 rw [if_neg h2] at HR0;have d2:decide (free<0)=false:=decide_eq_false h2;clear h2;go_in;go_wp2_with fail
 refine (HRT.o _ HB0.o).mono ?_;rintro e w2 ⟨rfl,hb2⟩;have HB2:=cN HB0 hb2;have zk2:=aE.cell (aE.below HK0.o hb2 (by simp));clear hb2;go_wp2_with fail
 refine (HRW.o _ HB2.o).mono ?_;rintro e w3 ⟨rfl,hb3⟩;have HB3:=cN HB2 hb3;clear hb3 zk2;go_wp2_with fail
 go_ret;rw [HR0.o];exact ⟨rfl,HB3.o⟩
end
section
open Go.RowKit
end
end Go.Proofs.YtplecfbdchmogaaGreat
