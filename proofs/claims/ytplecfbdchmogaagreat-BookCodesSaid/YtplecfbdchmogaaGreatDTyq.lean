/- The types of families and constructors: IndType; the book's own (book). -/
import Derived.Test.YtplecfbdchmogaaGreatDTyp
import Derived.Test.YtplecfbdchmogaaGreatDProgW
namespace Go.Proofs.YtplecfbdchmogaaGreat
open Go.Value renaming int → O, slice → X
open Go.IntKind renaming i64 → S
open Go.Lib (hid)
set_option maxHeartbeats 8000000
set_option maxRecDepth 100000
set_option linter.unusedVariables false
set_option linter.unusedSimpArgs false
open Go.RowKit
theorem vW {b:Bk} {known:Int} {x:En} (hi:x.indices.length<=16) : ∀ cs:List Ct,eD b known x cs=0->∀ c ∈ cs,c.args.length<=16/\c.outs.length<=16
 | [],_,c,h=>by cases h
 | c::r,h,y,hy=>by
  simp only [eD] at h;by_cases h1:16<c.args.length
  · rw [if_pos h1] at h;cases h
  rw [if_neg h1] at h;by_cases h2:c.outs.length ≠ x.indices.length
  · rw [if_pos h2] at h;cases h
  rw [if_neg h2] at h;by_cases h3:bP b known known 1 c.args x.params.length ≠ 0
  · rw [if_pos h3] at h;exact absurd h h3
  rw [if_neg h3] at h;by_cases h4:bP b known known 0 c.outs ((x.params.length:Int)+c.args.length) ≠ 0
  · rw [if_pos h4] at h;exact absurd h h4
  rw [if_neg h4] at h;rcases List.mem_cons.1 hy with rfl | hy
  · exact ⟨by omega,by omega⟩
  · exact vW hi r h y hy
structure L2 (x:En):Prop where
 params:x.params.length<=16
 indices:x.indices.length<=16
 ctors:∀ c ∈ x.ctors,c.args.length<=16/\c.outs.length<=16
theorem DJ {b:Bk} {known:Int} {x:En} (h:bS b known x=0) (k1:x.kind=1):L2 x:=by
 unfold bS at h;rw [if_pos k1] at h;by_cases h1:0<x.type.length+x.body.length
 · rw [if_pos h1] at h;cases h
 rw [if_neg h1] at h;by_cases h2:16<x.params.length\/16<x.indices.length\/16<x.ctors.length
 · rw [if_pos h2] at h;cases h
 rw [if_neg h2] at h;have e5:=lQ _ h (eD b known x x.ctors) (by simp);exact ⟨by omega,by omega,vW aA _ e5⟩
theorem pT {b:Bk} : ∀ (es:List En) (i:Nat),bR b i es=0->∀ x ∈ es,x.kind=1->L2 x
 | [],_,_,x,h,_=>by cases h
 | y::r,i,h,x,hx,hk=>by
  simp only [bR] at h;by_cases h1:bS b i y ≠ 0
  · rw [if_pos h1] at h;exact absurd h h1
  rw [if_neg h1] at h;rcases List.mem_cons.1 hx with rfl | hx
  · exact DJ (Decidable.not_not.1 h1) hk
  · exact pT r (i+1) h x hx hk
theorem AS {b:Bk} (hr:cZ b=0):bR b 0 b.entries=0:=by
 unfold cZ at hr;by_cases c1:(mL b.vars b.orders).1 ≠ 0
 · rw [if_pos c1] at hr;exact absurd hr c1
 rw [if_neg c1] at hr;by_cases c2:64<b.entries.length
 · rw [if_pos c2] at hr;cases hr
 rw [if_neg c2] at hr;by_cases c3:bR b 0 b.entries ≠ 0
 · rw [if_pos c3] at hr;exact absurd hr c3
 exact Decidable.not_not.1 c3
theorem wI {b:Bk} {e:Int} (h:nH b e=0):cZ b=0/\0<=e/\e<(b.entries.length:Int)/\(aT b e).kind=1/\L2 (aT b e):=by
 unfold nH at h;by_cases h1:cZ b ≠ 0
 · rw [if_pos h1] at h;exact absurd h h1
 rw [if_neg h1] at h;by_cases h2:e<0\/(b.entries.length:Int)<=e\/(aT b e).kind ≠ 1
 · rw [if_pos h2] at h;cases h
 have h3:(aT b e).kind=1:=Decidable.not_not.1 fun hh=>h2 (.inr (.inr hh));have hi:e.toNat<b.entries.length:=aA;refine ⟨Decidable.not_not.1 h1,by omega,by omega,h3,pT _ _ (AS (Decidable.not_not.1 h1)) _ ?_ h3⟩;unfold aT;rw [List.getD_eq_getElem?_getD,List.getElem?_eq_getElem hi];exact List.getElem_mem hi
def yV (b:Bk) (e k:Int):List Nd×Int:=if nH b e ≠ 0 then ([],nH b e) else if k<0\/((aT b e).ctors.length:Int)<=k then ([],1) else LP b e.toNat k.toNat
def IN (b:Bk) (e:Int):List Nd×Int:=if nH b e ≠ 0 then ([],nH b e) else LS b e.toNat
theorem FN {w:World} {v:cP} {b:Bk} (hb:bY w v b) (e:Nat) (he:e<b.entries.length) :
 Calls Tryz.prog 63 #[.agg #[O S b.vars,X v.Ao v.no v.co,X v.Ae v.ne v.ce,O S b.nat,X v.Ap v.np v.cp],O S (e:Int)] w (jP (LS b e) w):=by
 have hel:=hb.entries.len;have hef:=hb.entries.few;have hen:e<v.ne:=aA;have hen2:(e:Int)<(v.ne:Int):=aA;have hen3:decide ((e:Int)<(v.ne:Int))=true:=decide_eq_true hen2;have hen4:decide (e<v.ne)=true:=decide_eq_true hen;obtain ⟨bb,off,ea,hlb,u,g0,g1,g2,g3,g4,g5,g6,hec⟩:=hb.entries.at_ hen;have hx:b.entries.getD e default=aT b (e:Int):=rfl;rw [hx] at g0 hec;obtain ⟨res,hres⟩ : ∃ r,r=LS b e:=⟨_,rfl⟩;rw [<-hres];have HRES:=hid hres;unfold LS at HRES;obtain ⟨x,hxx⟩ : ∃ x,x=aT b (e:Int):=⟨_,rfl⟩;rw [<-hxx] at g0 hec HRES;obtain ⟨kd,hkd⟩ : ∃ kd,kd=x.kind:=⟨_,rfl⟩;rw [<-hkd] at g0;have hb2:=dS w (.cells #[O S b.vars,X v.Ao v.no v.co,X v.Ae v.ne v.ce,O S b.nat,X v.Ap v.np v.cp] 26) (.cells #[O S kd,X u.As u.ns u.cs,X u.Ap u.np u.cp,X u.Ai u.ni u.ci,X u.Ac u.nc u.cc,X u.At u.nt u.ct,X u.Ab u.nb u.cb] 57);have HB2:=hid hb2;have HK1:Hid (aE ((w.alloc (.cells #[O S b.vars,X v.Ao v.no v.co,X v.Ae v.ne v.ce,O S b.nat,X v.Ap v.np v.cp] 26)).alloc (.cells #[O S kd,X u.As u.ns u.cs,X u.Ap u.np u.cp,X u.Ai u.ni u.ci,X u.Ac u.nc u.cc,X u.At u.nt u.ct,X u.Ab u.nb u.cb] 57)) (w.heap.size+1) 57 #[O S kd,X u.As u.ns u.cs,X u.Ap u.np u.cp,X u.Ai u.ni u.ci,X u.Ac u.nc u.cc,X u.At u.nt u.ct,X u.Ab u.nb u.cb]):=hid (aE.new' (by simp));have hbd:=i6 (op:=4) (hec.sort.below hb2) (hec.indices.below hb2).rowsR;obtain ⟨bd,hbq⟩ : ∃ q,q=eZ 4 x.indices x.sort:=⟨_,rfl⟩;rw [<-hbq] at hbd HRES;obtain ⟨bl,bz⟩:=bd;have HBD:=hid hbd;have HPR:=hid hec.params;rw [ea] at HB2 HK1 HBD ⊢;clear hel hb hec hx hres hxx hkd hb2 hbd hbq ea;go_in;go_wp2_with fail
 refine (HBD.o).mono ?_;rintro e8 w8 ⟨hb8,A8b,n8,c8b,rfl,ht8⟩;have HB8:=cN HB2 hb8;have HK8:=hid (HK1.o.below hb8 HK1.o.lt);have HT8:=hid (ht8.keep (R':=fresh w w8) fun q hq=>⟨⟨Nat.le_trans HB2.o.size hq.1,hq.2⟩,fun _=>rfl⟩);clear hb8 ht8;have y2:=HK8.o.cell;by_cases hz2:bz=0;rotate_left
 · have dz2:(bz != 0)=true:=by simpa using hz2
   have HR11:Hid (res=([],bz)):=hid (HRES.o.trans (if_pos hz2));clear hz2;go_wp2_with fail
   go_ret2;exact dN HR11.o HB8.o
 have dz2:(bz != 0)=false:=by rw [hz2];rfl
 have HR11:Hid (res=eZ 4 x.params bl):=hid (HRES.o.trans (if_neg (show ¬ (bl,bz).2 ≠ 0 from fun h=>h hz2)));clear hz2;have hbd2:=i6 (op:=4) (HT8.o.keep (R':=(· < w8.heap.size)) fun q hq=>⟨hq.2,fun _=>rfl⟩) (HPR.o.below HB8.o).rowsR;rw [<-HR11.o] at hbd2;have HBD2:=hid hbd2;clear hbd2;obtain ⟨rl,rz⟩:=res;go_wp2_with fail
 refine (HBD2.o).mono ?_;rintro e9 w9 ⟨hb9,A9,n9,c9,rfl,ht9⟩;have HB9:=cN HB8 hb9;have HT9:=hid (ht9.keep (R':=fresh w w9) fun q hq=>⟨⟨Nat.le_trans HB8.o.size hq.1,hq.2⟩,fun _=>rfl⟩);clear hb9 ht9;go_wp2_with fail
 go_ret2;exact ⟨HB9.o,A9,n9,c9,rfl,HT9.o⟩
theorem LF {w:World} {v:cP} {b:Bk} (hb:bY w v b) (e:Int) (he1 : -9223372036854775808<=e) (he2:e<=9223372036854775807) :
 Calls Tryz.prog 19 #[.agg #[O S b.vars,X v.Ao v.no v.co,X v.Ae v.ne v.ce,O S b.nat,X v.Ap v.np v.cp],O S e] w (jP (IN b e) w):=by
 have hb1:=aB w (.cells #[O S b.vars,X v.Ao v.no v.co,X v.Ae v.ne v.ce,O S b.nat,X v.Ap v.np v.cp] 26);have HB1:=hid hb1;have HK1:=hid (aE.new w 26 #[O S b.vars,X v.Ao v.no v.co,X v.Ae v.ne v.ce,O S b.nat,X v.Ap v.np v.cp]);have HFM:=hid (pS (hb.below hb1) e he1 he2);have HBK:=hid hb;obtain ⟨res,hres⟩ : ∃ r,r=IN b e:=⟨_,rfl⟩;rw [<-hres];have HRES:=hid hres;obtain ⟨fz,hfz⟩ : ∃ z,z=nH b e:=⟨_,rfl⟩;have HFZ:=hid hfz;have z0:=HK1.o.cell;unfold IL at HFM;rw [<-hfz] at HFM;have HR1:Hid (fz ≠ 0->res=([],fz)):=hid (fun h=>by rw [hres,hfz] ;unfold IN;rw [if_pos (by rw [<-hfz];exact h)]);clear hb hb1 hres hfz;go_in;go_wp2_with fail
 refine (HFM.o).mono ?_;rintro en w2 ⟨hb2,u,kd,rfl,hq⟩;have HB2:=cN HB1 hb2;have HK2:=hid (HK1.o.below hb2 HK1.o.lt);have HQ:=hid hq;have hba:=aB w2 (.cells #[O S kd,X u.As u.ns u.cs,X u.Ap u.np u.cp,X u.Ai u.ni u.ci,X u.Ac u.nc u.cc,X u.At u.nt u.ct,X u.Ab u.nb u.cb] 57);have HB3:=cN HB2 hba;have HK3:=hid (HK2.o.below hba HK2.o.lt);have HK4:=hid (aE.new w2 57 #[O S kd,X u.As u.ns u.cs,X u.Ap u.np u.cp,X u.Ai u.ni u.ci,X u.Ac u.nc u.cc,X u.At u.nt u.ct,X u.Ab u.nb u.cb]);clear z0 hb2 hq hba;have z0:=HK3.o.cell;by_cases hz:fz=0;rotate_left
 · have dz:(fz != 0)=true:=by simpa using hz
   have HR2:=hid (HR1.o hz);clear hz;go_wp2_with fail
   go_ret2;exact dN HR2.o HB3.o
 have dz:(fz != 0)=false:=by rw [hz];rfl
 obtain ⟨hk1,hec⟩:=HQ.o hz;obtain ⟨q1,q2,q3,q4,q5⟩:=wI (HFZ.o.symm.trans hz);have HEC:=hid hec;have hfe:¬ (nH b e ≠ 0):=fun h=>h (HFZ.o.symm.trans hz);obtain ⟨i,rfl⟩ : ∃ i:Nat,e=(i:Int):=⟨e.toNat,by omega⟩;have hin:i<b.entries.length:=aA;have hnl:=hec.ctors.len;have hnf:=hec.ctors.few;subst hk1;have hc:=FN (HBK.o.below HB3.o) i hin;have HR2:Hid (res=LS b i):=hid (by rw [HRES.o];unfold IN;rw [if_neg hfe];rfl);rw [<-HR2.o] at hc;have HC:=hid hc;clear hz hec q1 q2 q3 q4 q5 hfe hin hc hnl hnf;obtain ⟨rl,rz⟩:=res;go_wp2_with fail
 refine (HC.o).mono ?_;rintro e9 w9 ⟨hb9,A9,n9,c9,rfl,ht9⟩;have HB9:=cN HB3 hb9;have HT9:=hid (ht9.keep (R':=fresh w w9) fun q hq=>⟨⟨Nat.le_trans HB3.o.size hq.1,hq.2⟩,fun _=>rfl⟩);clear hb9 ht9;go_wp2_with fail
 go_ret2;exact ⟨HB9.o,A9,n9,c9,rfl,HT9.o⟩
theorem CS {w:World} {v:cP} {b:Bk} (hb:bY w v b) (e k:Int) (he1 : -9223372036854775808<=e) (he2:e<=9223372036854775807) :
 Calls Tryz.prog 21 #[.agg #[O S b.vars,X v.Ao v.no v.co,X v.Ae v.ne v.ce,O S b.nat,X v.Ap v.np v.cp],O S e,O S k] w (jP (yV b e k) w):=by
 have hb1:=aB w (.cells #[O S b.vars,X v.Ao v.no v.co,X v.Ae v.ne v.ce,O S b.nat,X v.Ap v.np v.cp] 26);have HB1:=hid hb1;have HK1:=hid (aE.new w 26 #[O S b.vars,X v.Ao v.no v.co,X v.Ae v.ne v.ce,O S b.nat,X v.Ap v.np v.cp]);have HFM:=hid (pS (hb.below hb1) e he1 he2);have HBK:=hid hb;obtain ⟨res,hres⟩ : ∃ r,r=yV b e k:=⟨_,rfl⟩;rw [<-hres];have HRES:=hid hres;obtain ⟨fz,hfz⟩ : ∃ z,z=nH b e:=⟨_,rfl⟩;have HFZ:=hid hfz;have z0:=HK1.o.cell;unfold IL at HFM;rw [<-hfz] at HFM;have HR1:Hid (fz ≠ 0->res=([],fz)):=hid (fun h=>by rw [hres,hfz] ;unfold yV;rw [if_pos (by rw [<-hfz];exact h)]);clear hb hb1 hres hfz;go_in;go_wp2_with fail
 refine (HFM.o).mono ?_;rintro en w2 ⟨hb2,u,kd,rfl,hq⟩;have HB2:=cN HB1 hb2;have HK2:=hid (HK1.o.below hb2 HK1.o.lt);have HQ:=hid hq;have hba:=aB w2 (.cells #[O S kd,X u.As u.ns u.cs,X u.Ap u.np u.cp,X u.Ai u.ni u.ci,X u.Ac u.nc u.cc,X u.At u.nt u.ct,X u.Ab u.nb u.cb] 57);have HB3:=cN HB2 hba;have HK3:=hid (HK2.o.below hba HK2.o.lt);have HK4:=hid (aE.new w2 57 #[O S kd,X u.As u.ns u.cs,X u.Ap u.np u.cp,X u.Ai u.ni u.ci,X u.Ac u.nc u.cc,X u.At u.nt u.ct,X u.Ab u.nb u.cb]);clear z0 hb2 hq hba;have z0:=HK3.o.cell;by_cases hz:fz=0;rotate_left
 · have dz:(fz != 0)=true:=by simpa using hz
   have HR2:=hid (HR1.o hz);clear hz;go_wp2_with fail
   go_ret2;exact dN HR2.o HB3.o
 have dz:(fz != 0)=false:=by rw [hz];rfl
 obtain ⟨hk1,hec⟩:=HQ.o hz;obtain ⟨q1,q2,q3,q4,q5⟩:=wI (HFZ.o.symm.trans hz);have HEC:=hid hec;have hfe:¬ (nH b e ≠ 0):=fun h=>h (HFZ.o.symm.trans hz);obtain ⟨i,rfl⟩ : ∃ i:Nat,e=(i:Int):=⟨e.toNat,by omega⟩;have hin:i<b.entries.length:=aA;have hnl:=hec.ctors.len;have hnf:=hec.ctors.few;subst hk1;by_cases hk0:k<0
 · have d1:decide (k<0)=true:=decide_eq_true hk0;have HR2:Hid (res=([],1)):=hid (by rw [HRES.o];unfold yV;rw [if_neg hfe,if_pos (Or.inl hk0)]);clear hz hec q1 q2 q3 q4 q5 hfe hin hnl hnf hk0;go_wp2_with fail
   go_ret2;exact dN HR2.o HB3.o
 have d1:decide (k<0)=false:=decide_eq_false hk0;obtain ⟨j,rfl⟩ : ∃ j:Nat,k=(j:Int):=⟨k.toNat,by omega⟩;by_cases hk2:u.nc<=j
 · have d2:decide ((j:Int) ≥ (u.nc:Int))=true:=decide_eq_true aA;have d3:decide ((u.nc:Int)<=(j:Int))=true:=decide_eq_true aA;have d4:decide (u.nc<=j)=true:=decide_eq_true hk2;have HR2:Hid (res=([],1)):=hid (by rw [HRES.o];unfold yV;rw [if_neg hfe,if_pos (Or.inr aA)]);clear hz hec q1 q2 q3 q4 q5 hfe hin hnl hnf hk0 hk2;go_wp2_with fail
   go_ret2;exact dN HR2.o HB3.o
 have d2:decide ((j:Int) ≥ (u.nc:Int))=false:=decide_eq_false aA;have d3:decide ((u.nc:Int)<=(j:Int))=false:=decide_eq_false aA;have d4:decide (u.nc<=j)=false:=decide_eq_false hk2;have hjn:j<(aT b (i:Int)).ctors.length:=aA;have hmem:(aT b (i:Int)).ctors.getD j default ∈ (aT b (i:Int)).ctors:=by
  rw [List.getD_eq_getElem?_getD,List.getElem?_eq_getElem hjn];exact List.getElem_mem hjn
 have hcf:=q5.ctors _ hmem;have hc:=CW (HBK.o.below HB3.o) i j hin hjn q5.params hcf.1 hcf.2;have HR2:Hid (res=LP b i j):=hid (by rw [HRES.o];unfold yV;rw [if_neg hfe,if_neg aA];rfl);rw [<-HR2.o] at hc;have HC:=hid hc;clear hz hec q1 q2 q3 q4 q5 hfe hin hc hnl hnf hk0 hk2 hjn hmem hcf;obtain ⟨rl,rz⟩:=res;go_wp2_with fail
 refine (HC.o).mono ?_;rintro e9 w9 ⟨hb9,A9,n9,c9,rfl,ht9⟩;have HB9:=cN HB3 hb9;have HT9:=hid (ht9.keep (R':=fresh w w9) fun q hq=>⟨⟨Nat.le_trans HB3.o.size hq.1,hq.2⟩,fun _=>rfl⟩);clear hb9 ht9;go_wp2_with fail
 go_ret2;exact ⟨HB9.o,A9,n9,c9,rfl,HT9.o⟩
end Go.Proofs.YtplecfbdchmogaaGreat
