/- Merged: First, Entry, EntryF. -/
import Derived.Test.YtplecfbdchmogaaGreatDBooks
import Derived.Laws.EntriesVeiled
namespace Go.Proofs.YtplecfbdchmogaaGreat
open Go.Value renaming int → O, slice → X, pointer → Y
open Go.IntKind renaming i64 → S
open Go.Obj renaming cells → Z
open Option renaming none → I, some → J
open Go.Lib (hid)
set_option maxHeartbeats 4000000
set_option maxRecDepth 100000
set_option linter.unusedVariables false
set_option linter.unusedSimpArgs false
section
open Go.RowKit
theorem lP:∀ (es:List Int) (i:Nat),(∀ j,j<i->es.getD j 0=0)->fR (es.drop i)=fR es
 | [],i,_=>by simp
 | e::r,0,_=>rfl
 | e::r,i+1,h=>by
  have h0:=h 0 aA;simp only [List.getD_cons_zero] at h0;rw [List.drop_succ_cons,lP r i (fun j hj=>by have:=h (j+1) aA;simpa using this)];simp only [fR];rw [if_neg (by simp [h0])]
theorem tF {w:World} {b off n c:Nat} {fid:Nat->FuncId} {caps:Nat->Array Value} {es:List Int} (hb:b<w.heap.size) (hl:es.length=n) (hn:n<=1000) (hcell:∀ i,i<n->w.cell? ⟨b,off+i,I⟩=J (.func (.func (fid i)) #[] (caps i)))
 (hen:∀ i,i<n->∀ args w,(callFunc (fid i) args).run Tryz.prog w=.ok (.enter (fid i) args) w)
 (hc:∀ i,i<n->(∀ j,j<i->es.getD j 0=0)->∀ w',Below w.heap.size w w'->Calls Tryz.prog (fid i) (caps i) w' (gD (es.getD i 0) w')) :
 Calls Tryz.prog 72 #[X (J ⟨b,off,I⟩) n c] w (gD (fR es) w):=by
 have HCELL:=hid hcell;have HEN:=hid hen;have HC:=hid hc;have HL:=hid hl;obtain ⟨res,hres⟩ : ∃ res,res=fR es:=⟨_,rfl⟩;rw [<-hres];have HRES:=hid hres;clear hcell hen hc hl hres;go_in;go_wp2_with fail
 go_loopw [8] (fun iv wr=>∃ i:Nat,iv=O S (i:Int)/\i<=n/\Hid (∀ j,j<i->es.getD j 0=0)/\Hid (Below w.heap.size w wr)) (fun i _=>n-(intOf i).toNat)
 case atStart=>exact ⟨0,rfl,by omega,hid (fun j hj=>absurd hj aA),hid (Below.refl _ _)⟩
 case round =>
  obtain ⟨i,rfl,hi,hz,hbw⟩:=hrel;by_cases hlt:i<n;rotate_left
  · have hib:decide ((i:Int)<(n:Int))=false:=decide_eq_false aA;have HRF:Hid (res=0):=hid (by
     rw [HRES.o,<-lP es i hz.o,List.drop_of_length_le (by rw [HL.o];omega)];rfl)
    go_wp2_with fail
    go_ret;rw [HRF.o];exact ⟨rfl,hbw.o⟩
  have hib:decide ((i:Int)<(n:Int))=true:=decide_eq_true aA;have hc0:wr.cell? ⟨b,off+i,I⟩=J (.func (.func (fid i)) #[] (caps i)):=(hbw.o.cell (p:=⟨b,off+i,I⟩) hb).trans (HCELL.o i hlt);have hen:=HEN.o i hlt;have HCC:=hid (HC.o i hlt hz.o wr hbw.o);have HZN:=hid (fun (h:es.getD i 0=0)=>(fun j (hj:j<i+1)=>by
   rcases Nat.lt_or_ge j i with h1 | h1
   · exact hz.o j h1
   obtain rfl:j=i:=aA;exact h:∀ j,j<i+1->es.getD j 0=0))
  have HRN:=hid (fun (h:es.getD i 0 ≠ 0)=>(show res=es.getD i 0 by
   have hil:i<es.length:=by rw [HL.o];exact hlt
   rw [HRES.o,<-lP es i hz.o,List.drop_eq_getElem_cons hil];have he:es.getD i 0=es[i]:=by rw [List.getD_eq_getElem?_getD,List.getElem?_eq_getElem hil];rfl
   simp only [fR];rw [<-he,if_pos h]))
  generalize es.getD i 0=ev at *;generalize fid i=fi at *;generalize caps i=ci at *;by_cases h0:ev=0
  · have HZ2:=hid (HZN.o h0);subst h0;clear HRN HZN;go_wp2_with fail
    first
     | refine (HCC.o).mono ?_
     | (simp only [Array.empty_append,Array.append_empty];refine (HCC.o).mono ?_)
    rintro e w2 ⟨rfl,hb2⟩;have HB2:=cN hbw hb2;clear hb2;go_wp2_with fail
    go_roundw
    case rel=>exact ⟨i+1,by go_num,by omega,HZ2,HB2⟩
    case measure=>simp [intOf];omega
  have HR2:=hid (HRN.o h0);have hb1:(ev != 0)=true:=by simpa using h0
  clear HRN HZN h0;go_wp2_with fail
  first
   | refine (HCC.o).mono ?_
   | (simp only [Array.empty_append,Array.append_empty];refine (HCC.o).mono ?_)
  rintro e w2 ⟨rfl,hb2⟩;have HB2:=cN hbw hb2;clear hb2;go_wp2_with fail
  go_ret;rw [HR2.o];exact ⟨rfl,HB2.o⟩
end
section
open Go.RowKit
theorem zV {w:World} {A:Option Addr} {n c:Nat} {l:List Nd} (ht:aQ w A n c l) (h0:0<n) :
 Calls Tryz.prog 75 #[X A n c] w (gD (lM l) w):=by
 obtain ⟨b,off,rfl,hb,hc0,_,_⟩:=ht.at_ h0;rw [Nat.zero_mul,Nat.add_zero] at hc0;have HR:Hid (lM l=if (aL l 0).op ≠ 2 then 8 else 0):=hid rfl;generalize lM l=res at *;generalize (aL l 0).op=op at *;clear ht;by_cases h:op=2
 · have hb1:(op != 2)=false:=by simpa using h
   rw [if_neg (by simpa using h)] at HR;clear h;go_in;go_wp2_with fail
   go_ret;rw [HR.o];exact ⟨rfl,Below.refl _ _⟩
 have hb1:(op != 2)=true:=by simpa using h
 rw [if_pos h] at HR;clear h;go_in;go_wp2_with fail
 go_ret;rw [HR.o];exact ⟨rfl,Below.refl _ _⟩
theorem C9 {w:World} {v:cP} {b:Bk} (hb:bY w v b) (known self:Int) (hk:known<=b.entries.length) {ev:eQ} {x:En} (hx:p9 w ev x) (hp:x.params.length<=16) (hi16:x.indices.length<=16) :
 Calls Tryz.prog 80 #[.agg #[O S b.vars,X v.Ao v.no v.co,X v.Ae v.ne v.ce,O S b.nat,X v.Ap v.np v.cp,O S known,O S self],.agg #[O S x.kind,X ev.As ev.ns ev.cs,X ev.Ap ev.np ev.cp,X ev.Ai ev.ni ev.ci,X ev.Ac ev.nc ev.cc,X ev.At ev.nt ev.ct,X ev.Ab ev.nb ev.cb]] w (gD (eD b known x x.ctors) w):=by
 have HRW:=hid (fun (w':World) (A':Option Addr) (n' c':Nat) (ls:List (List Nd)) (be st:Int) (h:Below w.heap.size w w') (h1:cE w' A' n' c' ls) (h2:st=0\/st=1) (h3:0<=be) (h4:be<=1000000) (h5:n'<=100000)=>oU (hb.below h) known known hk h1 be st h2 h3 h4 h5);have HT:=hid (fun (w':World) (h:Below w.heap.size w w')=>hx.ctors.below h);have hcl:=hx.ctors.len;have hpl:=hx.params.len;have hil:=hx.indices.len;have hcf:=hx.ctors.few;have hif:=hx.indices.few;obtain ⟨res,hres⟩ : ∃ res,res=eD b known x x.ctors:=⟨_,rfl⟩;rw [<-hres];have HRES:=hid hres;obtain ⟨Ao,no,co,Ae,ne,ce,Ap,np,cp⟩:=v;obtain ⟨As,ns,cs,Ap2,np2,cp2,Ai,ni,ci,Ac,nc,cc,At,nt,ct,Ab,nb,cb⟩:=ev;simp only at HRW HT hcl hpl hil hcf hif ⊢;obtain ⟨L,hL⟩ : ∃ L,L=x.ctors:=⟨_,rfl⟩;rw [<-hL] at HT hcl HRES;have HPL:=hid hpl;have HIL:=hid hil;have HCL:=hid hcl;have hp16:np2<=16:=aA;have hi17:ni<=16:=aA;clear hb hk hx hres hL hcl hpl hil hp hi16;generalize b.vars=bv at *;generalize b.nat=bn at *;generalize x.kind=kd at *;have HBS:=hid ((aB w (Z #[O S bv,X Ao no co,X Ae ne ce,O S bn,X Ap np cp,O S known,O S known] 62)).alloc (by simp) (Z #[O S kd,X As ns cs,X Ap2 np2 cp2,X Ai ni ci,X Ac nc cc,X At nt ct,X Ab nb cb] 57));have hk1:Hid (aE ((w.alloc (Z #[O S bv,X Ao no co,X Ae ne ce,O S bn,X Ap np cp,O S known,O S known] 62)).alloc (Z #[O S kd,X As ns cs,X Ap2 np2 cp2,X Ai ni ci,X Ac nc cc,X At nt ct,X Ab nb cb] 57)) w.heap.size 62 #[O S bv,X Ao no co,X Ae ne ce,O S bn,X Ap np cp,O S known,O S known]):=hid ((aE.new w 62 #[O S bv,X Ao no co,X Ae ne ce,O S bn,X Ap np cp,O S known,O S known]).alloc _);have hk2:Hid (aE ((w.alloc (Z #[O S bv,X Ao no co,X Ae ne ce,O S bn,X Ap np cp,O S known,O S known] 62)).alloc (Z #[O S kd,X As ns cs,X Ap2 np2 cp2,X Ai ni ci,X Ac nc cc,X At nt ct,X Ab nb cb] 57)) (w.heap.size+1) 57 #[O S kd,X As ns cs,X Ap2 np2 cp2,X Ai ni ci,X Ac nc cc,X At nt ct,X Ab nb cb]):=hid (by
  have h:=aE.new (w.alloc (Z #[O S bv,X Ao no co,X Ae ne ce,O S bn,X Ap np cp,O S known,O S known] 62)) 57 #[O S kd,X As ns cs,X Ap2 np2 cp2,X Ai ni ci,X Ac nc cc,X At nt ct,X Ab nb cb];rw [show (w.alloc (Z #[O S bv,X Ao no co,X Ae ne ce,O S bn,X Ap np cp,O S known,O S known] 62)).heap.size=w.heap.size+1 from by simp] at h;exact h)
 go_in;go_wp2_with fail
 go_loopw [15] (fun iv wr=>∃ i:Nat,iv=O S (i:Int)/\i<=nc/\Hid (eD b known x (L.drop i)=res)/\Hid (aE wr w.heap.size 62 #[O S bv,X Ao no co,X Ae ne ce,O S bn,X Ap np cp,O S known,O S known])/\Hid (aE wr (w.heap.size+1) 57 #[O S kd,X As ns cs,X Ap2 np2 cp2,X Ai ni ci,X Ac nc cc,X At nt ct,X Ab nb cb])/\Hid (Below w.heap.size w wr)) (fun i _=>nc-(intOf i).toNat)
 case atStart=>exact ⟨0,rfl,by omega,hid HRES.o.symm,hk1,hk2,HBS⟩
 case round =>
  clear hk1 hk2;obtain ⟨i,rfl,hi,hrs,hk1,hk2,hbw⟩:=hrel;by_cases hlt:i<nc;rotate_left
  · have hib:decide ((i:Int)<(nc:Int))=false:=decide_eq_false aA;have HRF:Hid (res=0):=hid (by
     have:=hrs.o;rw [List.drop_of_length_le (by rw [HCL.o];omega)] at this;exact this.symm)
    go_wp2_with fail
    go_ret;rw [HRF.o];exact ⟨rfl,hbw.o⟩
  have hib:decide ((i:Int)<(nc:Int))=true:=decide_eq_true aA;obtain ⟨bc,oc,rfl,hbc,hm⟩:=(HT.o wr hbw.o).mem aA;obtain ⟨A1,n1,c1,A2,n2,c2,hc0,hc1,hr1,hr2⟩:=hm i hlt;have hil:i<L.length:=by rw [HCL.o];exact hlt
  have hrs2:=hrs.o;rw [List.drop_eq_getElem_cons hil,show L[i]=L.getD i default from by rw [List.getD_eq_getElem?_getD,List.getElem?_eq_getElem hil];rfl] at hrs2;obtain ⟨cx,hcx⟩ : ∃ cx,cx=L.getD i default:=⟨_,rfl⟩;rw [<-hcx] at hr1 hr2 hrs2;have hl1:=hr1.len;have hl2:=hr2.len;have hf1:=hr1.few;have hf2:=hr2.few;simp only [eD] at hrs2;rw [HPL.o,HIL.o,hl1,hl2] at hrs2;have HBa:=hid (hbw.o.trans ((aB wr (Z #[X A1 n1 c1,X A2 n2 c2] 66)).mono hbw.o.size));have HK1a:=hid (hk1.o.alloc (Z #[X A1 n1 c1,X A2 n2 c2] 66));have HK2a:=hid (hk2.o.alloc (Z #[X A1 n1 c1,X A2 n2 c2] 66));have HK3a:=hid (aE.new wr 66 #[X A1 n1 c1,X A2 n2 c2]);have hr1a:=hr1.below (aB wr (Z #[X A1 n1 c1,X A2 n2 c2] 66));have HR2:=hid (fun (w':World) (h:Below wr.heap.size wr w')=>hr2.below h);have zc1:=aE.cell hk1.o;have zc2:=aE.cell hk2.o;have hbl1:=hk1.o.lt;have hbl2:=hk2.o.lt;clear hm hcx hr1 hr2;by_cases h16:16<n1
  · rw [if_pos h16] at hrs2;have HRS2:=hid hrs2;have hb1:decide ((n1:Int)>16)=true:=decide_eq_true aA;clear hrs2 hl1 hl2 h16;go_wp2_with fail
    go_ret;rw [<-HRS2.o];exact ⟨rfl,HBa.o⟩
  rw [if_neg h16] at hrs2;have hb1:decide ((n1:Int)>16)=false:=decide_eq_false aA;by_cases hne:n2=ni;case neg =>
   rw [if_pos hne] at hrs2;have HRS2:=hid hrs2;have hb2:((n2:Int) != (ni:Int))=true:=by rw [bne_iff_ne];omega
   clear hrs2 hl1 hl2 h16 hne;go_wp2_with fail
   go_ret;rw [<-HRS2.o];exact ⟨rfl,HBa.o⟩
  rw [if_neg (by simpa using hne)] at hrs2;have hb2:((n2:Int) != (ni:Int))=false:=by rw [bne_eq_false_iff_eq];omega
  have HC1:=hid (HRW.o _ A1 n1 c1 cx.args np2 1 HBa.o hr1a (.inr rfl) aA aA aA);obtain ⟨e1,he1⟩ : ∃ e1,e1=bP b known known 1 cx.args np2:=⟨_,rfl⟩;obtain ⟨e2,he2⟩ : ∃ e2,e2=bP b known known 0 cx.outs ((np2:Int)+n1):=⟨_,rfl⟩;rw [<-he1] at HC1 hrs2;have HC2:=hid (fun (w':World) (h:Below w.heap.size w w') (h1:cE w' A2 n2 c2 cx.outs)=>HRW.o w' A2 n2 c2 cx.outs ((np2:Int)+n1) 0 h h1 (.inl rfl) aA aA aA);rw [<-he2] at HC2 hrs2;clear he1 he2 hl1 hl2 hne hr1a;by_cases h1:e1=0;case neg =>
   rw [if_pos h1] at hrs2;have HRS2:=hid hrs2;have hb3:(e1 != 0)=true:=by simpa using h1
   clear hrs2 h1;go_wp2_with fail
   refine (HC1.o).mono ?_;rintro e w3 ⟨rfl,hb3'⟩;have HB3:=hid (HBa.o.trans (hb3'.mono HBa.o.size));clear hb3';go_wp2_with fail
   go_ret;rw [<-HRS2.o];exact ⟨rfl,HB3.o⟩
  subst h1;rw [if_neg (by simp)] at hrs2;by_cases h2:e2=0;case neg =>
   rw [if_pos h2] at hrs2;have HRS2:=hid hrs2;have hb3:(e2 != 0)=true:=by simpa using h2
   clear hrs2 h2;go_wp2_with fail
   refine (HC1.o).mono ?_;rintro e w3 ⟨rfl,hb3'⟩;have HB3:=hid (HBa.o.trans (hb3'.mono HBa.o.size));have HX3:=hid (((aB wr (Z #[X A1 n1 c1,X A2 n2 c2] 66)).trans (hb3'.mono (by simp))));have zd1:=aE.cell (aE.below HK1a.o hb3' HK1a.o.lt);have zd2:=aE.cell (aE.below HK2a.o hb3' HK2a.o.lt);have zd3:=aE.cell (aE.below HK3a.o hb3' (by simp));clear hb3';go_wp2_with fail
   refine (HC2.o _ HB3.o (HR2.o _ HX3.o)).mono ?_;rintro e w4 ⟨rfl,hb4⟩;have HB4:=cN HB3 hb4;clear hb4;go_wp2_with fail
   go_ret;rw [<-HRS2.o];exact ⟨rfl,HB4.o⟩
  subst h2;rw [if_neg (by simp)] at hrs2;have HRS2:=hid hrs2;clear hrs2;go_wp2_with fail
  refine (HC1.o).mono ?_;rintro e w3 ⟨rfl,hb3'⟩;have HB3:=hid (HBa.o.trans (hb3'.mono HBa.o.size));have HX3:=hid (((aB wr (Z #[X A1 n1 c1,X A2 n2 c2] 66)).trans (hb3'.mono (by simp))));have HK13:=hid (aE.below HK1a.o hb3' HK1a.o.lt);have HK23:=hid (aE.below HK2a.o hb3' HK2a.o.lt);have zd1:=aE.cell HK13.o;have zd2:=aE.cell HK23.o;have zd3:=aE.cell (aE.below HK3a.o hb3' (by simp));clear hb3' zc1 zc2;go_wp2_with fail
  refine (HC2.o _ HB3.o (HR2.o _ HX3.o)).mono ?_;rintro e w4 ⟨rfl,hb4⟩;have HB4:=cN HB3 hb4;have HK14:=gJ HK13 hb4;have HK24:=gJ HK23 hb4;clear hb4 zd1 zd2 zd3;go_wp2_with fail
  go_roundw
  case rel=>exact ⟨i+1,by go_num,by omega,HRS2,HK14,HK24,HB4⟩
  case measure=>simp [intOf];omega
theorem zH {w:World} {v:cP} {b:Bk} (hb:bY w v b) (known self:Int) (hk:known<=b.entries.length) {ev:eQ} {x:En} (hx:p9 w ev x) {g1 g2 g3:Nat} (h1:aE w g1 62 #[O S b.vars,X v.Ao v.no v.co,X v.Ae v.ne v.ce,O S b.nat,X v.Ap v.np v.cp,O S known,O S self]) (h2:aE w g2 57 #[O S x.kind,X ev.As ev.ns ev.cs,X ev.Ap ev.np ev.cp,X ev.Ai ev.ni ev.ci,X ev.Ac ev.nc ev.cc,X ev.At ev.nt ev.ct,X ev.Ab ev.nb ev.cb]) (h3:aE w g3 3 #[O S (x.params.length:Int)]) :
 Calls Tryz.prog 73 #[Y (J ⟨g1,0,I⟩),Y (J ⟨g2,0,I⟩)] w (gD (eW b known self x.sort 0) w):=by
 have HC:=hid (vI hb known self hk hx.sort 0);obtain ⟨Ao,no,co,Ae,ne,ce,Ap,np,cp⟩:=v;obtain ⟨As,ns,cs,Ap2,np2,cp2,Ai,ni,ci,Ac,nc,cc,At,nt,ct,Ab,nb,cb⟩:=ev;simp only at HC h1 h2 h3;have z1:=aE.cell h1;have z2:=aE.cell h2;have z3:=aE.cell h3;clear hb hk hx h1 h2 h3;go_in;go_wp2_with fail
 refine (HC.o).mono ?_;rintro e w2 ⟨rfl,hb2⟩;have HB2:=hid hb2;clear hb2 z1 z2 z3;go_wp2_with fail
 go_ret;exact ⟨rfl,HB2.o⟩
theorem zI {w:World} {v:cP} {b:Bk} (hb:bY w v b) (known self:Int) (hk:known<=b.entries.length) {ev:eQ} {x:En} (hx:p9 w ev x) {g1 g2 g3:Nat} (h1:aE w g1 62 #[O S b.vars,X v.Ao v.no v.co,X v.Ae v.ne v.ce,O S b.nat,X v.Ap v.np v.cp,O S known,O S self]) (h2:aE w g2 57 #[O S x.kind,X ev.As ev.ns ev.cs,X ev.Ap ev.np ev.cp,X ev.Ai ev.ni ev.ci,X ev.Ac ev.nc ev.cc,X ev.At ev.nt ev.ct,X ev.Ab ev.nb ev.cb]) (h3:aE w g3 3 #[O S (x.params.length:Int)]) (h0:0<x.sort.length) :
 Calls Tryz.prog 74 #[Y (J ⟨g2,0,I⟩)] w (gD (lM x.sort) w):=by
 have HC:=hid (zV hx.sort (by rw [<-hx.sort.len];exact h0));clear h0;obtain ⟨Ao,no,co,Ae,ne,ce,Ap,np,cp⟩:=v;obtain ⟨As,ns,cs,Ap2,np2,cp2,Ai,ni,ci,Ac,nc,cc,At,nt,ct,Ab,nb,cb⟩:=ev;simp only at HC h1 h2 h3;have z1:=aE.cell h1;have z2:=aE.cell h2;have z3:=aE.cell h3;clear hb hk hx h1 h2 h3;go_in;go_wp2_with fail
 refine (HC.o).mono ?_;rintro e w2 ⟨rfl,hb2⟩;have HB2:=hid hb2;clear hb2 z1 z2 z3;go_wp2_with fail
 go_ret;exact ⟨rfl,HB2.o⟩
theorem zJ {w:World} {v:cP} {b:Bk} (hb:bY w v b) (known self:Int) (hk:known<=b.entries.length) {ev:eQ} {x:En} (hx:p9 w ev x) {g1 g2 g3:Nat} (h1:aE w g1 62 #[O S b.vars,X v.Ao v.no v.co,X v.Ae v.ne v.ce,O S b.nat,X v.Ap v.np v.cp,O S known,O S self]) (h2:aE w g2 57 #[O S x.kind,X ev.As ev.ns ev.cs,X ev.Ap ev.np ev.cp,X ev.Ai ev.ni ev.ci,X ev.Ac ev.nc ev.cc,X ev.At ev.nt ev.ct,X ev.Ab ev.nb ev.cb]) (h3:aE w g3 3 #[O S (x.params.length:Int)]) (hp:x.params.length<=16) :
 Calls Tryz.prog 76 #[Y (J ⟨g1,0,I⟩),Y (J ⟨g2,0,I⟩)] w (gD (bP b known self 1 x.params 0) w):=by
 have HC:=hid (oU hb known self hk hx.params 0 1 (.inr rfl) aA aA (by rw [<-hx.params.len];omega));clear hp;obtain ⟨Ao,no,co,Ae,ne,ce,Ap,np,cp⟩:=v;obtain ⟨As,ns,cs,Ap2,np2,cp2,Ai,ni,ci,Ac,nc,cc,At,nt,ct,Ab,nb,cb⟩:=ev;simp only at HC h1 h2 h3;have z1:=aE.cell h1;have z2:=aE.cell h2;have z3:=aE.cell h3;clear hb hk hx h1 h2 h3;go_in;go_wp2_with fail
 refine (HC.o).mono ?_;rintro e w2 ⟨rfl,hb2⟩;have HB2:=hid hb2;clear hb2 z1 z2 z3;go_wp2_with fail
 go_ret;exact ⟨rfl,HB2.o⟩
theorem zK {w:World} {v:cP} {b:Bk} (hb:bY w v b) (known self:Int) (hk:known<=b.entries.length) {ev:eQ} {x:En} (hx:p9 w ev x) {g1 g2 g3:Nat} (h1:aE w g1 62 #[O S b.vars,X v.Ao v.no v.co,X v.Ae v.ne v.ce,O S b.nat,X v.Ap v.np v.cp,O S known,O S self]) (h2:aE w g2 57 #[O S x.kind,X ev.As ev.ns ev.cs,X ev.Ap ev.np ev.cp,X ev.Ai ev.ni ev.ci,X ev.Ac ev.nc ev.cc,X ev.At ev.nt ev.ct,X ev.Ab ev.nb ev.cb]) (h3:aE w g3 3 #[O S (x.params.length:Int)]) (hp:x.params.length<=16) (hi:x.indices.length<=16) :
 Calls Tryz.prog 78 #[Y (J ⟨g1,0,I⟩),Y (J ⟨g2,0,I⟩),Y (J ⟨g3,0,I⟩)] w (gD (bP b known self 1 x.indices x.params.length) w):=by
 have HC:=hid (oU hb known self hk hx.indices (x.params.length:Int) 1 (.inr rfl) aA aA (by rw [<-hx.indices.len];omega));generalize (x.params.length:Int)=pl at *;clear hp hi;obtain ⟨Ao,no,co,Ae,ne,ce,Ap,np,cp⟩:=v;obtain ⟨As,ns,cs,Ap2,np2,cp2,Ai,ni,ci,Ac,nc,cc,At,nt,ct,Ab,nb,cb⟩:=ev;simp only at HC h1 h2 h3;have z1:=aE.cell h1;have z2:=aE.cell h2;have z3:=aE.cell h3;clear hb hk hx h1 h2 h3;go_in;go_wp2_with fail
 refine (HC.o).mono ?_;rintro e w2 ⟨rfl,hb2⟩;have HB2:=hid hb2;clear hb2 z1 z2 z3;go_wp2_with fail
 go_ret;exact ⟨rfl,HB2.o⟩
theorem zL {w:World} {v:cP} {b:Bk} (hb:bY w v b) (known self:Int) (hk:known<=b.entries.length) {ev:eQ} {x:En} (hx:p9 w ev x) {g1 g2 g3:Nat} (h1:aE w g1 62 #[O S b.vars,X v.Ao v.no v.co,X v.Ae v.ne v.ce,O S b.nat,X v.Ap v.np v.cp,O S known,O S self]) (h2:aE w g2 57 #[O S x.kind,X ev.As ev.ns ev.cs,X ev.Ap ev.np ev.cp,X ev.Ai ev.ni ev.ci,X ev.Ac ev.nc ev.cc,X ev.At ev.nt ev.ct,X ev.Ab ev.nb ev.cb]) (h3:aE w g3 3 #[O S (x.params.length:Int)]) (hp:x.params.length<=16) (hi:x.indices.length<=16) :
 Calls Tryz.prog 79 #[Y (J ⟨g1,0,I⟩),Y (J ⟨g2,0,I⟩)] w (gD (eD b known x x.ctors) w):=by
 have HC:=hid (C9 hb known self hk hx hp hi);clear hp hi;obtain ⟨Ao,no,co,Ae,ne,ce,Ap,np,cp⟩:=v;obtain ⟨As,ns,cs,Ap2,np2,cp2,Ai,ni,ci,Ac,nc,cc,At,nt,ct,Ab,nb,cb⟩:=ev;simp only at HC h1 h2 h3;have z1:=aE.cell h1;have z2:=aE.cell h2;have z3:=aE.cell h3;clear hb hk hx h1 h2 h3;go_in;go_wp2_with fail
 refine (HC.o).mono ?_;rintro e w2 ⟨rfl,hb2⟩;have HB2:=hid hb2;clear hb2 z1 z2 z3;go_wp2_with fail
 go_ret;exact ⟨rfl,HB2.o⟩
theorem G9 {W:World} {g:Nat} (hg:W.heap.size=g) {A1 A2:Option Addr} {n1 c1 n2 c2:Nat} {l1 l2:List Nd} (h1:aQ W A1 n1 c1 l1) (h2:aQ W A2 n2 c2 l2):cE (W.alloc (Z #[X A1 n1 c1,X A2 n2 c2] 28)) (J ⟨g,0,I⟩) 2 2 [l1,l2]:=by
 subst hg;have hb:=aB W (Z #[X A1 n1 c1,X A2 n2 c2] 28);refine ⟨rfl,by omega,fun _=>⟨_,_,rfl,by simp,fun k hk => ?_⟩⟩;rcases k with _ | _ | k
 · exact ⟨A1,n1,c1,by rw [World.cell?_alloc_new];rfl,h1.below hb⟩
 · exact ⟨A2,n2,c2,by rw [World.cell?_alloc_new];rfl,h2.below hb⟩
 omega
theorem DH {w:World} {v:cP} {b:Bk} (hb:bY w v b) (known:Int) (hk:known<=b.entries.length) {ev:eQ} {x:En} (hx:p9 w ev x) (h2:x.kind ≠ 1) :
 Calls Tryz.prog 28 #[.agg #[O S b.vars,X v.Ao v.no v.co,X v.Ae v.ne v.ce,O S b.nat,X v.Ap v.np v.cp,O S known,O S (-1)],.agg #[O S x.kind,X ev.As ev.ns ev.cs,X ev.Ap ev.np ev.cp,X ev.Ai ev.ni ev.ci,X ev.Ac ev.nc ev.cc,X ev.At ev.nt ev.ct,X ev.Ab ev.nb ev.cb]] w (gD (bS b known x) w):=by
 have q1:(x.kind==1)=false:=by simpa using h2
 by_cases h3:x.kind=2;case neg =>
  have q2:(x.kind==2)=false:=by simpa using h3
  have HR:Hid (bS b known x=8):=hid (by unfold bS;rw [if_neg h2,if_neg h3]);have HB0:=hid ((aB w (Z #[O S b.vars,X v.Ao v.no v.co,X v.Ae v.ne v.ce,O S b.nat,X v.Ap v.np v.cp,O S known,O S (-1)] 62)).alloc (by simp) (Z #[O S x.kind,X ev.As ev.ns ev.cs,X ev.Ap ev.np ev.cp,X ev.Ai ev.ni ev.ci,X ev.Ac ev.nc ev.cc,X ev.At ev.nt ev.ct,X ev.Ab ev.nb ev.cb] 57));generalize bS b known x=res at *;generalize x.kind=kd at *;generalize b.vars=bv at *;generalize b.nat=bn at *;obtain ⟨Ao,no,co,Ae,ne,ce,Ap,np,cp⟩:=v;obtain ⟨As,ns,cs,Ap2,np2,cp2,Ai,ni,ci,Ac,nc,cc,At,nt,ct,Ab,nb,cb⟩:=ev;simp only at HB0 ⊢;clear hb hk hx h2 h3;go_in;go_wp2_with fail
  go_ret;rw [HR.o];exact ⟨rfl,HB0.o⟩
 have q2:(x.kind==2)=true:=by simp [h3]
 have hsl:=hx.sort.len;have hpl:=hx.params.len;have hil:=hx.indices.len;have hcl:=hx.ctors.len;have f1:=hx.sort.few;have f2:=hx.params.few;have f3:=hx.indices.few;have f4:=hx.ctors.few;have HR:Hid (bS b known x=if 0<ev.ns+ev.np+ev.ni+ev.nc then 8 else bP b known (-1) 0 [x.type,x.body] 0):=hid (by unfold bS;rw [if_neg h2,if_pos h3,hsl,hpl,hil,hcl]);have HB0:=hid ((aB w (Z #[O S b.vars,X v.Ao v.no v.co,X v.Ae v.ne v.ce,O S b.nat,X v.Ap v.np v.cp,O S known,O S (-1)] 62)).alloc (by simp) (Z #[O S x.kind,X ev.As ev.ns ev.cs,X ev.Ap ev.np ev.cp,X ev.Ai ev.ni ev.ci,X ev.Ac ev.nc ev.cc,X ev.At ev.nt ev.ct,X ev.Ab ev.nb ev.cb] 57));have HT2:=hid (HB0.o.alloc HB0.o.size (Z #[X ev.At ev.nt ev.ct,X ev.Ab ev.nb ev.cb] 28));have HC:=hid (oU (hb.below HT2.o) known (-1) hk (G9 (g:=w.heap.size+1+1) (by simp) (hx.type.below HB0.o) (hx.body.below HB0.o)) 0 0 (.inl rfl) aA aA aA);generalize bS b known x=res at *;generalize bP b known (-1) 0 [x.type,x.body] 0=rv at *;generalize x.kind=kd at *;generalize b.vars=bv at *;generalize b.nat=bn at *;obtain ⟨Ao,no,co,Ae,ne,ce,Ap,np,cp⟩:=v;obtain ⟨As,ns,cs,Ap2,np2,cp2,Ai,ni,ci,Ac,nc,cc,At,nt,ct,Ab,nb,cb⟩:=ev;simp only at HB0 HT2 HC HR f1 f2 f3 f4 ⊢;clear hb hk hx h2 h3 hsl hpl hil hcl;by_cases hz:0<ns+np2+ni+nc
 · rw [if_pos hz] at HR;have hzb:decide ((ns:Int)+(np2:Int)+(ni:Int)+(nc:Int)>0)=true:=decide_eq_true aA;clear hz;go_in;go_wp2_with fail
   go_ret;rw [HR.o];exact ⟨rfl,HB0.o⟩
 rw [if_neg hz] at HR;have hzb:decide ((ns:Int)+(np2:Int)+(ni:Int)+(nc:Int)>0)=false:=decide_eq_false aA;clear hz;go_in;go_wp2_with fail
 refine (HC.o).mono ?_;rintro e w2 ⟨rfl,hb2⟩;have HB2:=cN HT2 hb2;clear hb2;go_wp2_with fail
 go_ret;rw [HR.o];exact ⟨rfl,HB2.o⟩
end
section
open Go.RowKit
theorem JV {b:Bk} {known self below:Int} {l:List Nd} (h:eW b known self l below=0):0<l.length:=by
 have hs:aO l=0:=by
  unfold eW at h;split at h
  · exact h
  rename_i h1
  exact Decidable.not_not.1 h1
 obtain ⟨n,a,k,hr⟩:=KH hs;rw [hr.eq];simp
def JC (i:Nat):FuncId:=match i with
 | 0=>73
 | 1=>74
 | 2=>76
 | 3=>78
 | _=>79
def KE (g:Nat) (i:Nat):Array Value:=match i with
 | 0=>#[Y (J ⟨g,0,I⟩),Y (J ⟨g+1,0,I⟩)]
 | 1=>#[Y (J ⟨g+1,0,I⟩)]
 | 2=>#[Y (J ⟨g,0,I⟩),Y (J ⟨g+1,0,I⟩)]
 | 3=>#[Y (J ⟨g,0,I⟩),Y (J ⟨g+1,0,I⟩),Y (J ⟨g+1+1,0,I⟩)]
 | _=>#[Y (J ⟨g,0,I⟩),Y (J ⟨g+1,0,I⟩)]
theorem uK {w W:World} {v:cP} {b:Bk} (hb:bY w v b) (known:Int) (hk:known<=b.entries.length) {ev:eQ} {x:En} (hx:p9 w ev x) (hp:x.params.length<=16) (hi:x.indices.length<=16) (hW:Below w.heap.size w W) (k1:aE W w.heap.size 62 #[O S b.vars,X v.Ao v.no v.co,X v.Ae v.ne v.ce,O S b.nat,X v.Ap v.np v.cp,O S known,O S (-1)]) (k2:aE W (w.heap.size+1) 57 #[O S x.kind,X ev.As ev.ns ev.cs,X ev.Ap ev.np ev.cp,X ev.Ai ev.ni ev.ci,X ev.Ac ev.nc ev.cc,X ev.At ev.nt ev.ct,X ev.Ab ev.nb ev.cb]) (k3:aE W (w.heap.size+1+1) 3 #[O S (x.params.length:Int)]) :
 ∀ i,i<5->(∀ j,j<i->[eW b known (-1) x.sort 0,lM x.sort,bP b known (-1) 1 x.params 0,bP b known (-1) 1 x.indices x.params.length,eD b known x x.ctors].getD j 0=0)->∀ w',Below W.heap.size W w'->Calls Tryz.prog (JC i) (KE w.heap.size i) w' (gD ([eW b known (-1) x.sort 0,lM x.sort,bP b known (-1) 1 x.params 0,bP b known (-1) 1 x.indices x.params.length,eD b known x x.ctors].getD i 0) w'):=by
 intro i hi5 hz w' hw;have hB:=hW.trans (hw.mono hW.size);have b1:=k1.below hw k1.lt;have b2:=k2.below hw k2.lt;have b3:=k3.below hw k3.lt
 match i,hi5 with
 | 0,_=>exact zH (hb.below hB) known (-1) hk (hx.below hB) b1 b2 b3
 | 1,_=>exact zI (hb.below hB) known (-1) hk (hx.below hB) b1 b2 b3 (JV (by simpa using hz 0 aA))
 | 2,_=>exact zJ (hb.below hB) known (-1) hk (hx.below hB) b1 b2 b3 hp
 | 3,_=>exact zK (hb.below hB) known (-1) hk (hx.below hB) b1 b2 b3 hp hi
 | 4,_=>exact zL (hb.below hB) known (-1) hk (hx.below hB) b1 b2 b3 hp hi
theorem KX (i:Nat) (hi:i<5) : ∀ args w,(callFunc (JC i) args).run Tryz.prog w=.ok (.enter (JC i) args) w:=by
 match i,hi with
 | 0,_=>exact fun _ _=>by kernel_rfl
 | 1,_=>exact fun _ _=>by kernel_rfl
 | 2,_=>exact fun _ _=>by kernel_rfl
 | 3,_=>exact fun _ _=>by kernel_rfl
 | 4,_=>exact fun _ _=>by kernel_rfl
theorem DI {w:World} {v:cP} {b:Bk} (hb:bY w v b) (known:Int) (hk:known<=b.entries.length) {ev:eQ} {x:En} (hx:p9 w ev x) (h1:x.kind=1) :
 Calls Tryz.prog 28 #[.agg #[O S b.vars,X v.Ao v.no v.co,X v.Ae v.ne v.ce,O S b.nat,X v.Ap v.np v.cp,O S known,O S (-1)],.agg #[O S x.kind,X ev.As ev.ns ev.cs,X ev.Ap ev.np ev.cp,X ev.Ai ev.ni ev.ci,X ev.Ac ev.nc ev.cc,X ev.At ev.nt ev.ct,X ev.Ab ev.nb ev.cb]] w (gD (bS b known x) w):=by
 have hmf:∀ (fn:Fn) (first cap:Array Value) (w:World),(Instr.makeFunc fn first cap).run Tryz.prog w=.ok (.func fn first cap) w:=fun _ _ _ _=>rfl;have htl:=hx.type.len;have hbl:=hx.body.len;have hpl:=hx.params.len;have hil:=hx.indices.len;have hcl:=hx.ctors.len;have f1:=hx.type.few;have f2:=hx.body.few;have f3:=hx.params.few;have f4:=hx.indices.few;have f5:=hx.ctors.few;have HR:Hid (bS b known x=if 0<ev.nt+ev.nb then 8 else if 16<ev.np\/16<ev.ni\/16<ev.nc then 5 else fR [eW b known (-1) x.sort 0,lM x.sort,bP b known (-1) 1 x.params 0,bP b known (-1) 1 x.indices x.params.length,eD b known x x.ctors]):=hid (by unfold bS;rw [if_pos h1,htl,hbl,hpl,hil,hcl]);have HCL:=hid (fun (W:World) (h1:x.params.length<=16) (h2:x.indices.length<=16)=>uK (W:=W) hb known hk hx h1 h2);have HB0:=hid ((aB w (Z #[O S b.vars,X v.Ao v.no v.co,X v.Ae v.ne v.ce,O S b.nat,X v.Ap v.np v.cp,O S known,O S (-1)] 62)).alloc (by simp) (Z #[O S x.kind,X ev.As ev.ns ev.cs,X ev.Ap ev.np ev.cp,X ev.Ai ev.ni ev.ci,X ev.Ac ev.nc ev.cc,X ev.At ev.nt ev.ct,X ev.Ab ev.nb ev.cb] 57));rw [h1] at HB0 HCL ⊢;have HPL:=hid hpl;have HIL:=hid hil;generalize bS b known x=res at *;obtain ⟨es,hes⟩ : ∃ es,es=[eW b known (-1) x.sort 0,lM x.sort,bP b known (-1) 1 x.params 0,bP b known (-1) 1 x.indices x.params.length,eD b known x x.ctors]:=⟨_,rfl⟩;rw [<-hes] at HR HCL;have hel:es.length=5:=by rw [hes];rfl
 have HEL:=hid hel;clear hes hel;generalize b.vars=bv at *;generalize b.nat=bn at *;obtain ⟨Ao,no,co,Ae,ne,ce,Ap,np,cp⟩:=v;obtain ⟨As,ns,cs,Ap2,np2,cp2,Ai,ni,ci,Ac,nc,cc,At,nt,ct,Ab,nb,cb⟩:=ev;simp only at HB0 HCL HR HPL HIL f1 f2 f3 f4 f5 ⊢;clear hb hk hx h1 htl hbl hpl hil hcl;by_cases hz:0<nt+nb
 · rw [if_pos hz] at HR;have hzb:decide ((nt:Int)+(nb:Int)>0)=true:=decide_eq_true aA;clear hz hmf;go_in;go_wp2_with fail
   go_ret;rw [HR.o];exact ⟨rfl,HB0.o⟩
 rw [if_neg hz] at HR;have hzb:decide ((nt:Int)+(nb:Int)>0)=false:=decide_eq_false aA;clear hz;by_cases hf:16<np2\/16<ni\/16<nc
 · rw [if_pos hf] at HR;have hsp:(16<np2)\/(¬ 16<np2/\16<ni)\/(¬ 16<np2/\¬ 16<ni/\16<nc):=aA;clear hf hmf;rcases hsp with h | ⟨g1,h⟩ | ⟨g1,g2,h⟩
   case' inl=>have d1:decide ((np2:Int)>16)=true:=decide_eq_true aA
   case' inr.inl =>
    have d1:decide ((np2:Int)>16)=false:=decide_eq_false aA;have d2:decide ((ni:Int)>16)=true:=decide_eq_true aA
   case' inr.inr =>
    have d1:decide ((np2:Int)>16)=false:=decide_eq_false aA;have d2:decide ((ni:Int)>16)=false:=decide_eq_false aA;have d3:decide ((nc:Int)>16)=true:=decide_eq_true aA
   all_goals
    go_in;go_wp2_with fail
    go_ret;rw [HR.o];exact ⟨rfl,HB0.o⟩
 rw [if_neg hf] at HR;have d1:decide ((np2:Int)>16)=false:=decide_eq_false aA;have d2:decide ((ni:Int)>16)=false:=decide_eq_false aA;have d3:decide ((nc:Int)>16)=false:=decide_eq_false aA;have hp16:np2<=16:=aA;have hi16:ni<=16:=aA;clear hf;have hB3:Below w.heap.size w (((w.alloc (Z #[O S bv,X Ao no co,X Ae ne ce,O S bn,X Ap np cp,O S known,O S (-1)] 62)).alloc (Z #[O S 1,X As ns cs,X Ap2 np2 cp2,X Ai ni ci,X Ac nc cc,X At nt ct,X Ab nb cb] 57)).alloc (Z #[O S (np2:Int)] 3)):=HB0.o.alloc HB0.o.size _;have k1:aE (((w.alloc (Z #[O S bv,X Ao no co,X Ae ne ce,O S bn,X Ap np cp,O S known,O S (-1)] 62)).alloc (Z #[O S 1,X As ns cs,X Ap2 np2 cp2,X Ai ni ci,X Ac nc cc,X At nt ct,X Ab nb cb] 57)).alloc (Z #[O S (np2:Int)] 3)) w.heap.size 62 #[O S bv,X Ao no co,X Ae ne ce,O S bn,X Ap np cp,O S known,O S (-1)]:=((aE.new w 62 #[O S bv,X Ao no co,X Ae ne ce,O S bn,X Ap np cp,O S known,O S (-1)]).alloc _).alloc _;have k2:aE (((w.alloc (Z #[O S bv,X Ao no co,X Ae ne ce,O S bn,X Ap np cp,O S known,O S (-1)] 62)).alloc (Z #[O S 1,X As ns cs,X Ap2 np2 cp2,X Ai ni ci,X Ac nc cc,X At nt ct,X Ab nb cb] 57)).alloc (Z #[O S (np2:Int)] 3)) (w.heap.size+1) 57 #[O S 1,X As ns cs,X Ap2 np2 cp2,X Ai ni ci,X Ac nc cc,X At nt ct,X Ab nb cb]:=by
  have h:=aE.new (w.alloc (Z #[O S bv,X Ao no co,X Ae ne ce,O S bn,X Ap np cp,O S known,O S (-1)] 62)) 57 #[O S 1,X As ns cs,X Ap2 np2 cp2,X Ai ni ci,X Ac nc cc,X At nt ct,X Ab nb cb];rw [show (w.alloc (Z #[O S bv,X Ao no co,X Ae ne ce,O S bn,X Ap np cp,O S known,O S (-1)] 62)).heap.size=w.heap.size+1 from by simp] at h;exact h.alloc _
 have k3:aE (((w.alloc (Z #[O S bv,X Ao no co,X Ae ne ce,O S bn,X Ap np cp,O S known,O S (-1)] 62)).alloc (Z #[O S 1,X As ns cs,X Ap2 np2 cp2,X Ai ni ci,X Ac nc cc,X At nt ct,X Ab nb cb] 57)).alloc (Z #[O S (np2:Int)] 3)) (w.heap.size+1+1) 3 #[O S (np2:Int)]:=by
  have h:=aE.new ((w.alloc (Z #[O S bv,X Ao no co,X Ae ne ce,O S bn,X Ap np cp,O S known,O S (-1)] 62)).alloc (Z #[O S 1,X As ns cs,X Ap2 np2 cp2,X Ai ni ci,X Ac nc cc,X At nt ct,X Ab nb cb] 57)) 3 #[O S (np2:Int)];rw [show ((w.alloc (Z #[O S bv,X Ao no co,X Ae ne ce,O S bn,X Ap np cp,O S known,O S (-1)] 62)).alloc (Z #[O S 1,X As ns cs,X Ap2 np2 cp2,X Ai ni ci,X Ac nc cc,X At nt ct,X Ab nb cb] 57)).heap.size=w.heap.size+1+1 from by simp] at h;exact h
 have hs3:(((w.alloc (Z #[O S bv,X Ao no co,X Ae ne ce,O S bn,X Ap np cp,O S known,O S (-1)] 62)).alloc (Z #[O S 1,X As ns cs,X Ap2 np2 cp2,X Ai ni ci,X Ac nc cc,X At nt ct,X Ab nb cb] 57)).alloc (Z #[O S (np2:Int)] 3)).heap.size=w.heap.size+1+1+1:=by simp
 have HFIRST:=hid (tF (w:=((((w.alloc (Z #[O S bv,X Ao no co,X Ae ne ce,O S bn,X Ap np cp,O S known,O S (-1)] 62)).alloc (Z #[O S 1,X As ns cs,X Ap2 np2 cp2,X Ai ni ci,X Ac nc cc,X At nt ct,X Ab nb cb] 57)).alloc (Z #[O S (np2:Int)] 3)).alloc (Z #[(.func (.func 73) #[] #[Y (J ⟨w.heap.size,0,I⟩),Y (J ⟨w.heap.size+1,0,I⟩)]),(.func (.func 74) #[] #[Y (J ⟨w.heap.size+1,0,I⟩)]),(.func (.func 76) #[] #[Y (J ⟨w.heap.size,0,I⟩),Y (J ⟨w.heap.size+1,0,I⟩)]),(.func (.func 78) #[] #[Y (J ⟨w.heap.size,0,I⟩),Y (J ⟨w.heap.size+1,0,I⟩),Y (J ⟨w.heap.size+1+1,0,I⟩)]),(.func (.func 79) #[] #[Y (J ⟨w.heap.size,0,I⟩),Y (J ⟨w.heap.size+1,0,I⟩)])] 99))) (b:=w.heap.size+1+1+1) (off:=0) (n:=5) (c:=5) (fid:=JC) (caps:=KE w.heap.size) (es:=es) (by simp) HEL.o aA (fun i hi=>by
  rw [Nat.zero_add,<-hs3,World.cell?_alloc_new]
  match i,hi with
  | 0,_=>rfl
  | 1,_=>rfl
  | 2,_=>rfl
  | 3,_=>rfl
  | 4,_=>rfl) KX (HCL.o ((((w.alloc (Z #[O S bv,X Ao no co,X Ae ne ce,O S bn,X Ap np cp,O S known,O S (-1)] 62)).alloc (Z #[O S 1,X As ns cs,X Ap2 np2 cp2,X Ai ni ci,X Ac nc cc,X At nt ct,X Ab nb cb] 57)).alloc (Z #[O S (np2:Int)] 3)).alloc (Z #[(.func (.func 73) #[] #[Y (J ⟨w.heap.size,0,I⟩),Y (J ⟨w.heap.size+1,0,I⟩)]),(.func (.func 74) #[] #[Y (J ⟨w.heap.size+1,0,I⟩)]),(.func (.func 76) #[] #[Y (J ⟨w.heap.size,0,I⟩),Y (J ⟨w.heap.size+1,0,I⟩)]),(.func (.func 78) #[] #[Y (J ⟨w.heap.size,0,I⟩),Y (J ⟨w.heap.size+1,0,I⟩),Y (J ⟨w.heap.size+1+1,0,I⟩)]),(.func (.func 79) #[] #[Y (J ⟨w.heap.size,0,I⟩),Y (J ⟨w.heap.size+1,0,I⟩)])] 99)) (by rw [HPL.o];exact hp16) (by rw [HIL.o];exact hi16) (hB3.alloc hB3.size _) (k1.alloc _) (k2.alloc _) (by rw [HPL.o];exact k3.alloc _)))
 have HB4:=hid (hB3.alloc hB3.size (Z #[(.func (.func 73) #[] #[Y (J ⟨w.heap.size,0,I⟩),Y (J ⟨w.heap.size+1,0,I⟩)]),(.func (.func 74) #[] #[Y (J ⟨w.heap.size+1,0,I⟩)]),(.func (.func 76) #[] #[Y (J ⟨w.heap.size,0,I⟩),Y (J ⟨w.heap.size+1,0,I⟩)]),(.func (.func 78) #[] #[Y (J ⟨w.heap.size,0,I⟩),Y (J ⟨w.heap.size+1,0,I⟩),Y (J ⟨w.heap.size+1+1,0,I⟩)]),(.func (.func 79) #[] #[Y (J ⟨w.heap.size,0,I⟩),Y (J ⟨w.heap.size+1,0,I⟩)])] 99));generalize fR es=fe at *;clear HCL k1 k2 k3 hB3 hs3 HPL HIL;go_in;go_wp2_with fail
 refine (HFIRST.o).mono ?_;rintro e w2 ⟨rfl,hb2⟩;have HB2:=cN HB4 hb2;clear hb2;go_wp2_with fail
 go_ret;rw [HR.o];exact ⟨rfl,HB2.o⟩
theorem yY {w:World} {v:cP} {b:Bk} (hb:bY w v b) (known:Int) (hk:known<=b.entries.length) {ev:eQ} {x:En} (hx:p9 w ev x) :
 Calls Tryz.prog 28 #[.agg #[O S b.vars,X v.Ao v.no v.co,X v.Ae v.ne v.ce,O S b.nat,X v.Ap v.np v.cp,O S known,O S (-1)],.agg #[O S x.kind,X ev.As ev.ns ev.cs,X ev.Ap ev.np ev.cp,X ev.Ai ev.ni ev.ci,X ev.Ac ev.nc ev.cc,X ev.At ev.nt ev.ct,X ev.Ab ev.nb ev.cb]] w (gD (bS b known x) w):=by
 by_cases h1:x.kind=1
 · exact DI hb known hk hx h1
 exact DH hb known hk hx h1
end
end Go.Proofs.YtplecfbdchmogaaGreat
