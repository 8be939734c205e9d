/- Merged: First, Entry, EntryF. -/
import Derived.Test.YtjoddliplahgkaaGreatPBooks
namespace Go.Proofs.YtjoddliplahgkaaGreat
set_option linter.unusedVariables false
set_option linter.unusedSimpArgs false
open Go.RowKit
open Go.Value renaming int → O, slice → X, pointer → Y
open Go.IntKind renaming i64 → S
open Go.Obj renaming cells → Z
open Option renaming none → I, some → J
open Go.Lib renaming hid->aB
set_option maxHeartbeats 4000000
set_option maxRecDepth 100000
theorem mK:∀(es:List Int) (i:Nat),(∀j,j<i->es.getD j 0=0)->jB (es.drop i)=jB es
 | [],i,_=>by simp
 | e::r,0,_=>rfl
 | e::r,i+1,h=>by
  have h0:=h 0 aA;simp only[List.getD_cons_zero] at h0;rw[List.drop_succ_cons,mK r i (fun j hj=>by have:=h (j+1) aA;simpa using this)];simp only[jB];rw[if_neg (by simp[h0])]
theorem JA {w:World} {b off n c:Nat} {fid:Nat->FuncId} {caps:Nat->Array Value} {es:List Int} (hb:b<w.heap.size) (hl:es.length=n) (hn:n<=1000) (hcell:∀i,i<n->w.cell? ⟨b,off+i,I⟩=J (.func (.func (fid i)) #[] (caps i)))
 (hen:∀i,i<n->∀args w,(callFunc (fid i) args).run Tryz.prog w=.ok (.enter (fid i) args) w)
 (hc:∀i,i<n->(∀j,j<i->es.getD j 0=0)->∀w',Below w.heap.size w w'->Calls Tryz.prog (fid i) (caps i) w' (iG (es.getD i 0) w')) :
 Calls Tryz.prog 87 #[X (J ⟨b,off,I⟩) n c] w (iG (jB es) w):=by
 have a4:=aB hcell;have b4:=aB hen;have HC:=aB hc;have HL:=aB hl;obtain⟨res,a0⟩ : ∃res,res=jB es:=⟨_,rfl⟩;rw[<-a0];have a3:=aB a0;clear hcell hen hc hl a0;go_in;go_wp2_with fail;go_loopw [8] (fun iv wr=>∃i:Nat,iv=O S (i:Int)/\i<=n/\Hid (∀j,j<i->es.getD j 0=0)/\Hid (Below w.heap.size w wr)) (fun i _=>n-(intOf i).toNat)
 case atStart=>exact⟨0,rfl,by omega,aB (fun j hj=>absurd hj aA),aB (Below.refl _ _)⟩
 case round =>
  obtain⟨i,rfl,hi,hz,a1⟩:=hrel;by_cases hlt:i<n;rotate_left
  · have b0:decide ((i:Int)<(n:Int))=false:=decide_eq_false aA;have b2:Hid (res=0):=aB (by
     rw[a3.o,<-mK es i hz.o,List.drop_of_length_le (by rw[HL.o];omega)];rfl)
    go_wp2_with fail;go_ret;rw[b2.o];exact⟨rfl,a1.o⟩
  have b0:decide ((i:Int)<(n:Int))=true:=decide_eq_true aA;have b5:wr.cell? ⟨b,off+i,I⟩=J (.func (.func (fid i)) #[] (caps i)):=(a1.o.cell (p:=⟨b,off+i,I⟩) hb).trans (a4.o i hlt);have hen:=b4.o i hlt;have a5:=aB (HC.o i hlt hz.o wr a1.o);have a6:=aB (fun (h:es.getD i 0=0)=>(fun j (hj:j<i+1)=>by
   rcases Nat.lt_or_ge j i with h1 | h1
   · exact hz.o j h1
   obtain rfl:j=i:=aA;exact h:∀j,j<i+1->es.getD j 0=0))
  have a7:=aB (fun (h:es.getD i 0 ≠ 0)=>(show res=es.getD i 0 by
   have a9:i<es.length:=by rw[HL.o];exact hlt
   rw[a3.o,<-mK es i hz.o,List.drop_eq_getElem_cons a9];have he:es.getD i 0=es[i]:=by rw[List.getD_eq_getElem?_getD,List.getElem?_eq_getElem a9];rfl
   simp only[jB];rw[<-he,if_pos h]))
  generalize es.getD i 0=ev at *;generalize fid i=fi at *;generalize caps i=ci at *;by_cases h0:ev=0
  · have b1:=aB (a6.o h0);subst h0;clear a7 a6;go_wp2_with fail;first
     | refine (a5.o).mono ?_
     | (simp only[Array.empty_append,Array.append_empty];refine (a5.o).mono ?_)
    rintro e w2 ⟨rfl,a2⟩;have a8:=bZ a1 a2;clear a2;go_wp2_with fail;go_roundw
    case rel=>exact⟨i+1,by go_num,by omega,b1,a8⟩
    case measure=>simp[intOf];omega
  have b3:=aB (a7.o h0);have b6:(ev != 0)=true:=by simpa using h0
  clear a7 a6 h0;go_wp2_with fail;first
   | refine (a5.o).mono ?_
   | (simp only[Array.empty_append,Array.append_empty];refine (a5.o).mono ?_)
  rintro e w2 ⟨rfl,a2⟩;have a8:=bZ a1 a2;clear a2;go_wp2_with fail;go_ret;rw[b3.o];exact⟨rfl,a8.o⟩
theorem EV {w:World} {A:Option Addr} {n c:Nat} {l:List Nd} (ht:aY w A n c l) (h0:0<n) :
 Calls Tryz.prog 90 #[X A n c] w (iG (mA l) w):=by
 obtain⟨b,off,rfl,hb,a0,_,_⟩:=ht.at_ h0;rw[Nat.zero_mul,Nat.add_zero] at a0;have HR:Hid (mA l=if (bD l 0).op ≠ 2 then 8 else 0):=aB rfl;generalize mA l=res at *;generalize (bD l 0).op=op at *;clear ht;by_cases h:op=2
 · have a1:(op != 2)=false:=by simpa using h
   rw[if_neg (by simpa using h)] at HR;clear h;go_in;go_wp2_with fail;go_ret;rw[HR.o];exact⟨rfl,Below.refl _ _⟩
 have a1:(op != 2)=true:=by simpa using h
 rw[if_pos h] at HR;clear h;go_in;go_wp2_with fail;go_ret;rw[HR.o];exact⟨rfl,Below.refl _ _⟩
theorem I4 {w:World} {v:bO} {b:Bk} (hb:bX w v b) (known self:Int) (hk:known<=b.entries.length) {ev:jF} {x:En} (hx:AL w ev x) (hp:x.params.length<=16) (hi16:x.indices.length<=16) :
 Calls Tryz.prog 95 #[.agg #[O S b.vars,X v.Ao v.no v.co,X v.Ae v.ne v.ce,O S b.nat,X v.Ap v.np v.cp,O S known,O S self],.agg #[O S x.kind,X ev.As ev.ns ev.cs,X ev.Ap ev.np ev.cp,X ev.Ai ev.ni ev.ci,X ev.Ac ev.nc ev.cc,X ev.At ev.nt ev.ct,X ev.Ab ev.nb ev.cb]] w (iG (fT b known x x.ctors) w):=by
 have c8:=aB (fun (w':World) (A':Option Addr) (n' c':Nat) (ls:List (List Nd)) (be st:Int) (h:Below w.heap.size w w') (h1:fF w' A' n' c' ls) (h2:st=0\/st=1) (h3:0<=be) (h4:be<=1000000) (h5:n'<=100000)=>qD (hb.below h) known known hk h1 be st h2 h3 h4 h5);have HT:=aB (fun (w':World) (h:Below w.heap.size w w')=>hx.ctors.below h);have c3:=hx.ctors.len;have c6:=hx.params.len;have b1:=hx.indices.len;have f0:=hx.ctors.few;have e7:=hx.indices.few;obtain⟨res,a6⟩ : ∃res,res=fT b known x x.ctors:=⟨_,rfl⟩;rw[<-a6];have b4:=aB a6;obtain⟨Ao,no,co,Ae,ne,ce,Ap,np,cp⟩:=v;obtain⟨As,ns,cs,Ap2,np2,cp2,Ai,ni,ci,Ac,nc,cc,At,nt,ct,Ab,nb,cb⟩:=ev;simp only at c8 HT c3 c6 b1 f0 e7 ⊢;obtain⟨L,hL⟩ : ∃L,L=x.ctors:=⟨_,rfl⟩;rw[<-hL] at HT c3 b4;have f7:=aB c6;have f8:=aB b1;have e3:=aB c3;have e6:np2<=16:=aA;have e9:ni<=16:=aA;clear hb hk hx a6 hL c3 c6 b1 hp hi16;generalize b.vars=bv at *;generalize b.nat=bn at *;generalize x.kind=kd at *;have f9:=aB ((aP w (Z #[O S bv,X Ao no co,X Ae ne ce,O S bn,X Ap np cp,O S known,O S known] 94)).alloc aD (Z #[O S kd,X As ns cs,X Ap2 np2 cp2,X Ai ni ci,X Ac nc cc,X At nt ct,X Ab nb cb] 61));have b0:Hid (aS ((w.alloc (Z #[O S bv,X Ao no co,X Ae ne ce,O S bn,X Ap np cp,O S known,O S known] 94)).alloc (Z #[O S kd,X As ns cs,X Ap2 np2 cp2,X Ai ni ci,X Ac nc cc,X At nt ct,X Ab nb cb] 61)) w.heap.size 94 #[O S bv,X Ao no co,X Ae ne ce,O S bn,X Ap np cp,O S known,O S known]):=aB ((aS.new w 94 #[O S bv,X Ao no co,X Ae ne ce,O S bn,X Ap np cp,O S known,O S known]).alloc _);have a9:Hid (aS ((w.alloc (Z #[O S bv,X Ao no co,X Ae ne ce,O S bn,X Ap np cp,O S known,O S known] 94)).alloc (Z #[O S kd,X As ns cs,X Ap2 np2 cp2,X Ai ni ci,X Ac nc cc,X At nt ct,X Ab nb cb] 61)) (w.heap.size+1) 61 #[O S kd,X As ns cs,X Ap2 np2 cp2,X Ai ni ci,X Ac nc cc,X At nt ct,X Ab nb cb]):=aB (by
  have h:=aS.new (w.alloc (Z #[O S bv,X Ao no co,X Ae ne ce,O S bn,X Ap np cp,O S known,O S known] 94)) 61 #[O S kd,X As ns cs,X Ap2 np2 cp2,X Ai ni ci,X Ac nc cc,X At nt ct,X Ab nb cb];rw[show (w.alloc (Z #[O S bv,X Ao no co,X Ae ne ce,O S bn,X Ap np cp,O S known,O S known] 94)).heap.size=w.heap.size+1 from by simp] at h;exact h)
 go_in;go_wp2_with fail;go_loopw [15] (fun iv wr=>∃i:Nat,iv=O S (i:Int)/\i<=nc/\Hid (fT b known x (L.drop i)=res)/\Hid (aS wr w.heap.size 94 #[O S bv,X Ao no co,X Ae ne ce,O S bn,X Ap np cp,O S known,O S known])/\Hid (aS wr (w.heap.size+1) 61 #[O S kd,X As ns cs,X Ap2 np2 cp2,X Ai ni ci,X Ac nc cc,X At nt ct,X Ab nb cb])/\Hid (Below w.heap.size w wr)) (fun i _=>nc-(intOf i).toNat)
 case atStart=>exact⟨0,rfl,by omega,aB b4.o.symm,b0,a9,f9⟩
 case round =>
  clear b0 a9;obtain⟨i,rfl,hi,d6,b0,a9,c4⟩:=hrel;by_cases hlt:i<nc;rotate_left
  · have e8:decide ((i:Int)<(nc:Int))=false:=decide_eq_false aA;have f6:Hid (res=0):=aB (by
     have:=d6.o;rw[List.drop_of_length_le (by rw[e3.o];omega)] at this;exact this.symm)
    go_wp2_with fail;go_ret;rw[f6.o];exact⟨rfl,c4.o⟩
  have e8:decide ((i:Int)<(nc:Int))=true:=decide_eq_true aA;obtain⟨bc,oc,rfl,g3,hm⟩:=(HT.o wr c4.o).mem aA;obtain⟨A1,n1,c1,A2,n2,c2,g2,g1,b3,b8⟩:=hm i hlt;have b1:i<L.length:=by rw[e3.o];exact hlt
  have a0:=d6.o;rw[List.drop_eq_getElem_cons b1,show L[i]=L.getD i default from by rw[List.getD_eq_getElem?_getD,List.getElem?_eq_getElem b1];rfl] at a0;obtain⟨cx,d9⟩ : ∃cx,cx=L.getD i default:=⟨_,rfl⟩;rw[<-d9] at b3 b8 a0;have c0:=b3.len;have b9:=b8.len;have g0:=b3.few;simp only[fT] at a0;rw[f7.o,f8.o,c0,b9] at a0;have a5:=aB (c4.o.trans ((aP wr (Z #[X A1 n1 c1,X A2 n2 c2] 64)).mono c4.o.size));have a4:=aB (b0.o.alloc (Z #[X A1 n1 c1,X A2 n2 c2] 64));have a3:=aB (a9.o.alloc (Z #[X A1 n1 c1,X A2 n2 c2] 64));have b5:=aB (aS.new wr 64 #[X A1 n1 c1,X A2 n2 c2]);have b2:=b3.below (aP wr (Z #[X A1 n1 c1,X A2 n2 c2] 64));have e0:=aB (fun (w':World) (h:Below wr.heap.size wr w')=>b8.below h);have e5:=aS.cell b0.o;have e4:=aS.cell a9.o;have f2:=b0.o.lt;have f1:=a9.o.lt;clear hm d9 b3 b8;by_cases h16:16<n1
  · rw[if_pos h16] at a0;have a2:=aB a0;have f5:decide ((n1:Int)>16)=true:=decide_eq_true aA;clear a0 c0 b9 h16;go_wp2_with fail;go_ret;rw[<-a2.o];exact⟨rfl,a5.o⟩
  rw[if_neg h16] at a0;have f5:decide ((n1:Int)>16)=false:=decide_eq_false aA;by_cases hne:n2=ni;case neg =>
   rw[if_pos hne] at a0;have a2:=aB a0;have f4:((n2:Int) != (ni:Int))=true:=by rw[bne_iff_ne];omega
   clear a0 c0 b9 h16 hne;go_wp2_with fail;go_ret;rw[<-a2.o];exact⟨rfl,a5.o⟩
  rw[if_neg (by simpa using hne)] at a0;have f4:((n2:Int) != (ni:Int))=false:=by rw[bne_eq_false_iff_eq];omega
  have c5:=aB (c8.o _ A1 n1 c1 cx.args np2 1 a5.o b2 (.inr rfl) aA aA aA);obtain⟨e1,d8⟩ : ∃e1,e1=cZ b known known 1 cx.args np2:=⟨_,rfl⟩;obtain⟨e2,d7⟩ : ∃e2,e2=cZ b known known 0 cx.outs ((np2:Int)+n1):=⟨_,rfl⟩;rw[<-d8] at c5 a0;have d1:=aB (fun (w':World) (h:Below w.heap.size w w') (h1:fF w' A2 n2 c2 cx.outs)=>c8.o w' A2 n2 c2 cx.outs ((np2:Int)+n1) 0 h h1 (.inl rfl) aA aA aA);rw[<-d7] at d1 a0;clear d8 d7 c0 b9 hne b2;by_cases h1:e1=0;case neg =>
   rw[if_pos h1] at a0;have a2:=aB a0;have f3:(e1 != 0)=true:=by simpa using h1
   clear a0 h1;go_wp2_with fail;refine (c5.o).mono ?_;rintro e w3 ⟨rfl,a1⟩;have a8:=aB (a5.o.trans (a1.mono a5.o.size));clear a1;go_wp2_with fail;go_ret;rw[<-a2.o];exact⟨rfl,a8.o⟩
  subst h1;rw[if_neg aD] at a0;by_cases h2:e2=0;case neg =>
   rw[if_pos h2] at a0;have a2:=aB a0;have f3:(e2 != 0)=true:=by simpa using h2
   clear a0 h2;go_wp2_with fail;refine (c5.o).mono ?_;rintro e w3 ⟨rfl,a1⟩;have a8:=aB (a5.o.trans (a1.mono a5.o.size));have c7:=aB (((aP wr (Z #[X A1 n1 c1,X A2 n2 c2] 64)).trans (a1.mono aD)));have d5:=aS.cell (aS.below a4.o a1 a4.o.lt);have d4:=aS.cell (aS.below a3.o a1 a3.o.lt);have d3:=aS.cell (aS.below b5.o a1 aD);clear a1;go_wp2_with fail;refine (d1.o _ a8.o (e0.o _ c7.o)).mono ?_;rintro e w4 ⟨rfl,a7⟩;have d2:=bZ a8 a7;clear a7;go_wp2_with fail;go_ret;rw[<-a2.o];exact⟨rfl,d2.o⟩
  subst h2;rw[if_neg aD] at a0;have a2:=aB a0;clear a0;go_wp2_with fail;refine (c5.o).mono ?_;rintro e w3 ⟨rfl,a1⟩;have a8:=aB (a5.o.trans (a1.mono a5.o.size));have c7:=aB (((aP wr (Z #[X A1 n1 c1,X A2 n2 c2] 64)).trans (a1.mono aD)));have b7:=aB (aS.below a4.o a1 a4.o.lt);have b6:=aB (aS.below a3.o a1 a3.o.lt);have d5:=aS.cell b7.o;have d4:=aS.cell b6.o;have d3:=aS.cell (aS.below b5.o a1 aD);clear a1 e5 e4;go_wp2_with fail;refine (d1.o _ a8.o (e0.o _ c7.o)).mono ?_;rintro e w4 ⟨rfl,a7⟩;have d2:=bZ a8 a7;have d0:=jL b7 a7;have c9:=jL b6 a7;clear a7 d5 d4 d3;go_wp2_with fail;go_roundw
  case rel=>exact⟨i+1,by go_num,by omega,a2,d0,c9,d2⟩
  case measure=>simp[intOf];omega
theorem EG {w:World} {v:bO} {b:Bk} (hb:bX w v b) (known self:Int) (hk:known<=b.entries.length) {ev:jF} {x:En} (hx:AL w ev x) {g1 g2 g3:Nat} (h1:aS w g1 94 #[O S b.vars,X v.Ao v.no v.co,X v.Ae v.ne v.ce,O S b.nat,X v.Ap v.np v.cp,O S known,O S self]) (h2:aS w g2 61 #[O S x.kind,X ev.As ev.ns ev.cs,X ev.Ap ev.np ev.cp,X ev.Ai ev.ni ev.ci,X ev.Ac ev.nc ev.cc,X ev.At ev.nt ev.ct,X ev.Ab ev.nb ev.cb]) (h3:aS w g3 3 #[O S (x.params.length:Int)]) :
 Calls Tryz.prog 88 #[Y (J ⟨g1,0,I⟩),Y (J ⟨g2,0,I⟩)] w (iG (fC b known self x.sort 0) w):=by
 have HC:=aB (zY hb known self hk hx.sort 0);obtain⟨Ao,no,co,Ae,ne,ce,Ap,np,cp⟩:=v;obtain⟨As,ns,cs,Ap2,np2,cp2,Ai,ni,ci,Ac,nc,cc,At,nt,ct,Ab,nb,cb⟩:=ev;simp only at HC h1 h2 h3;have z1:=aS.cell h1;have z2:=aS.cell h2;clear hb hk hx h1 h2 h3;go_in;go_wp2_with fail;refine (HC.o).mono ?_;rintro e w2 ⟨rfl,a0⟩;have a1:=aB a0;clear a0 z1 z2;go_wp2_with fail;go_ret;exact⟨rfl,a1.o⟩
theorem EH {w:World} {v:bO} {b:Bk} (hb:bX w v b) (known self:Int) (hk:known<=b.entries.length) {ev:jF} {x:En} (hx:AL w ev x) {g1 g2 g3:Nat} (h1:aS w g1 94 #[O S b.vars,X v.Ao v.no v.co,X v.Ae v.ne v.ce,O S b.nat,X v.Ap v.np v.cp,O S known,O S self]) (h2:aS w g2 61 #[O S x.kind,X ev.As ev.ns ev.cs,X ev.Ap ev.np ev.cp,X ev.Ai ev.ni ev.ci,X ev.Ac ev.nc ev.cc,X ev.At ev.nt ev.ct,X ev.Ab ev.nb ev.cb]) (h3:aS w g3 3 #[O S (x.params.length:Int)]) (h0:0<x.sort.length) :
 Calls Tryz.prog 89 #[Y (J ⟨g2,0,I⟩)] w (iG (mA x.sort) w):=by
 have HC:=aB (EV hx.sort (by rw[<-hx.sort.len];exact h0));clear h0;obtain⟨Ao,no,co,Ae,ne,ce,Ap,np,cp⟩:=v;obtain⟨As,ns,cs,Ap2,np2,cp2,Ai,ni,ci,Ac,nc,cc,At,nt,ct,Ab,nb,cb⟩:=ev;simp only at HC h1 h2 h3;have z2:=aS.cell h2;clear hb hk hx h1 h2 h3;go_in;go_wp2_with fail;refine (HC.o).mono ?_;rintro e w2 ⟨rfl,a0⟩;have a1:=aB a0;clear a0 z2;go_wp2_with fail;go_ret;exact⟨rfl,a1.o⟩
theorem EI {w:World} {v:bO} {b:Bk} (hb:bX w v b) (known self:Int) (hk:known<=b.entries.length) {ev:jF} {x:En} (hx:AL w ev x) {g1 g2 g3:Nat} (h1:aS w g1 94 #[O S b.vars,X v.Ao v.no v.co,X v.Ae v.ne v.ce,O S b.nat,X v.Ap v.np v.cp,O S known,O S self]) (h2:aS w g2 61 #[O S x.kind,X ev.As ev.ns ev.cs,X ev.Ap ev.np ev.cp,X ev.Ai ev.ni ev.ci,X ev.Ac ev.nc ev.cc,X ev.At ev.nt ev.ct,X ev.Ab ev.nb ev.cb]) (h3:aS w g3 3 #[O S (x.params.length:Int)]) (hp:x.params.length<=16) :
 Calls Tryz.prog 91 #[Y (J ⟨g1,0,I⟩),Y (J ⟨g2,0,I⟩)] w (iG (cZ b known self 1 x.params 0) w):=by
 have HC:=aB (qD hb known self hk hx.params 0 1 (.inr rfl) aA aA (by rw[<-hx.params.len];omega));clear hp;obtain⟨Ao,no,co,Ae,ne,ce,Ap,np,cp⟩:=v;obtain⟨As,ns,cs,Ap2,np2,cp2,Ai,ni,ci,Ac,nc,cc,At,nt,ct,Ab,nb,cb⟩:=ev;simp only at HC h1 h2 h3;have z1:=aS.cell h1;have z2:=aS.cell h2;clear hb hk hx h1 h2 h3;go_in;go_wp2_with fail;refine (HC.o).mono ?_;rintro e w2 ⟨rfl,a0⟩;have a1:=aB a0;clear a0 z1 z2;go_wp2_with fail;go_ret;exact⟨rfl,a1.o⟩
theorem EJ {w:World} {v:bO} {b:Bk} (hb:bX w v b) (known self:Int) (hk:known<=b.entries.length) {ev:jF} {x:En} (hx:AL w ev x) {g1 g2 g3:Nat} (h1:aS w g1 94 #[O S b.vars,X v.Ao v.no v.co,X v.Ae v.ne v.ce,O S b.nat,X v.Ap v.np v.cp,O S known,O S self]) (h2:aS w g2 61 #[O S x.kind,X ev.As ev.ns ev.cs,X ev.Ap ev.np ev.cp,X ev.Ai ev.ni ev.ci,X ev.Ac ev.nc ev.cc,X ev.At ev.nt ev.ct,X ev.Ab ev.nb ev.cb]) (h3:aS w g3 3 #[O S (x.params.length:Int)]) (hp:x.params.length<=16) (hi:x.indices.length<=16) :
 Calls Tryz.prog 93 #[Y (J ⟨g1,0,I⟩),Y (J ⟨g2,0,I⟩),Y (J ⟨g3,0,I⟩)] w (iG (cZ b known self 1 x.indices x.params.length) w):=by
 have HC:=aB (qD hb known self hk hx.indices (x.params.length:Int) 1 (.inr rfl) aA aA (by rw[<-hx.indices.len];omega));generalize (x.params.length:Int)=pl at *;clear hp hi;obtain⟨Ao,no,co,Ae,ne,ce,Ap,np,cp⟩:=v;obtain⟨As,ns,cs,Ap2,np2,cp2,Ai,ni,ci,Ac,nc,cc,At,nt,ct,Ab,nb,cb⟩:=ev;simp only at HC h1 h2 h3;have z1:=aS.cell h1;have z2:=aS.cell h2;have z3:=aS.cell h3;clear hb hk hx h1 h2 h3;go_in;go_wp2_with fail;refine (HC.o).mono ?_;rintro e w2 ⟨rfl,a0⟩;have a1:=aB a0;clear a0 z1 z2 z3;go_wp2_with fail;go_ret;exact⟨rfl,a1.o⟩
theorem EK {w:World} {v:bO} {b:Bk} (hb:bX w v b) (known self:Int) (hk:known<=b.entries.length) {ev:jF} {x:En} (hx:AL w ev x) {g1 g2 g3:Nat} (h1:aS w g1 94 #[O S b.vars,X v.Ao v.no v.co,X v.Ae v.ne v.ce,O S b.nat,X v.Ap v.np v.cp,O S known,O S self]) (h2:aS w g2 61 #[O S x.kind,X ev.As ev.ns ev.cs,X ev.Ap ev.np ev.cp,X ev.Ai ev.ni ev.ci,X ev.Ac ev.nc ev.cc,X ev.At ev.nt ev.ct,X ev.Ab ev.nb ev.cb]) (h3:aS w g3 3 #[O S (x.params.length:Int)]) (hp:x.params.length<=16) (hi:x.indices.length<=16) :
 Calls Tryz.prog 94 #[Y (J ⟨g1,0,I⟩),Y (J ⟨g2,0,I⟩)] w (iG (fT b known x x.ctors) w):=by
 have HC:=aB (I4 hb known self hk hx hp hi);clear hp hi;obtain⟨Ao,no,co,Ae,ne,ce,Ap,np,cp⟩:=v;obtain⟨As,ns,cs,Ap2,np2,cp2,Ai,ni,ci,Ac,nc,cc,At,nt,ct,Ab,nb,cb⟩:=ev;simp only at HC h1 h2 h3;have z1:=aS.cell h1;have z2:=aS.cell h2;clear hb hk hx h1 h2 h3;go_in;go_wp2_with fail;refine (HC.o).mono ?_;rintro e w2 ⟨rfl,a0⟩;have a1:=aB a0;clear a0 z1 z2;go_wp2_with fail;go_ret;exact⟨rfl,a1.o⟩
theorem M9 {W:World} {g:Nat} (hg:W.heap.size=g) {A1 A2:Option Addr} {n1 c1 n2 c2:Nat} {l1 l2:List Nd} (h1:aY W A1 n1 c1 l1) (h2:aY W A2 n2 c2 l2):fF (W.alloc (Z #[X A1 n1 c1,X A2 n2 c2] 29)) (J ⟨g,0,I⟩) 2 2 [l1,l2]:=by
 subst hg;have hb:=aP W (Z #[X A1 n1 c1,X A2 n2 c2] 29);refine⟨rfl,by omega,fun _=>⟨_,_,rfl,by simp,fun k hk => ?_⟩⟩;rcases k with _ | _ | k
 · exact⟨A1,n1,c1,by rw[World.cell?_alloc_new];rfl,h1.below hb⟩
 · exact⟨A2,n2,c2,by rw[World.cell?_alloc_new];rfl,h2.below hb⟩
 omega
theorem I8 {w:World} {v:bO} {b:Bk} (hb:bX w v b) (known:Int) (hk:known<=b.entries.length) {ev:jF} {x:En} (hx:AL w ev x) (h2:x.kind ≠ 1) :
 Calls Tryz.prog 49 #[.agg #[O S b.vars,X v.Ao v.no v.co,X v.Ae v.ne v.ce,O S b.nat,X v.Ap v.np v.cp,O S known,O S (-1)],.agg #[O S x.kind,X ev.As ev.ns ev.cs,X ev.Ap ev.np ev.cp,X ev.Ai ev.ni ev.ci,X ev.Ac ev.nc ev.cc,X ev.At ev.nt ev.ct,X ev.Ab ev.nb ev.cb]] w (iG (dD b known x) w):=by
 have q1:(x.kind==1)=false:=by simpa using h2
 by_cases h3:x.kind=2;case neg =>
  have q2:(x.kind==2)=false:=by simpa using h3
  have HR:Hid (dD b known x=8):=aB (by unfold dD;rw[if_neg h2,if_neg h3]);have a0:=aB ((aP w (Z #[O S b.vars,X v.Ao v.no v.co,X v.Ae v.ne v.ce,O S b.nat,X v.Ap v.np v.cp,O S known,O S (-1)] 94)).alloc aD (Z #[O S x.kind,X ev.As ev.ns ev.cs,X ev.Ap ev.np ev.cp,X ev.Ai ev.ni ev.ci,X ev.Ac ev.nc ev.cc,X ev.At ev.nt ev.ct,X ev.Ab ev.nb ev.cb] 61));generalize dD b known x=res at *;generalize x.kind=kd at *;generalize b.vars=bv at *;generalize b.nat=bn at *;obtain⟨Ao,no,co,Ae,ne,ce,Ap,np,cp⟩:=v;obtain⟨As,ns,cs,Ap2,np2,cp2,Ai,ni,ci,Ac,nc,cc,At,nt,ct,Ab,nb,cb⟩:=ev;simp only at a0 ⊢;clear hb hk hx h2 h3;go_in;go_wp2_with fail;go_ret;rw[HR.o];exact⟨rfl,a0.o⟩
 have q2:(x.kind==2)=true:=by simp[h3]
 have a2:=hx.sort.len;have a3:=hx.params.len;have a4:=hx.indices.len;have a5:=hx.ctors.len;have f1:=hx.sort.few;have f2:=hx.params.few;have f3:=hx.indices.few;have f4:=hx.ctors.few;have HR:Hid (dD b known x=if 0<ev.ns+ev.np+ev.ni+ev.nc then 8 else cZ b known (-1) 0 [x.type,x.body] 0):=aB (by unfold dD;rw[if_neg h2,if_pos h3,a2,a3,a4,a5]);have a0:=aB ((aP w (Z #[O S b.vars,X v.Ao v.no v.co,X v.Ae v.ne v.ce,O S b.nat,X v.Ap v.np v.cp,O S known,O S (-1)] 94)).alloc aD (Z #[O S x.kind,X ev.As ev.ns ev.cs,X ev.Ap ev.np ev.cp,X ev.Ai ev.ni ev.ci,X ev.Ac ev.nc ev.cc,X ev.At ev.nt ev.ct,X ev.Ab ev.nb ev.cb] 61));have a1:=aB (a0.o.alloc a0.o.size (Z #[X ev.At ev.nt ev.ct,X ev.Ab ev.nb ev.cb] 29));have HC:=aB (qD (hb.below a1.o) known (-1) hk (M9 (g:=w.heap.size+1+1) aD (hx.type.below a0.o) (hx.body.below a0.o)) 0 0 (.inl rfl) aA aA aA);generalize dD b known x=res at *;generalize cZ b known (-1) 0 [x.type,x.body] 0=rv at *;generalize x.kind=kd at *;generalize b.vars=bv at *;generalize b.nat=bn at *;obtain⟨Ao,no,co,Ae,ne,ce,Ap,np,cp⟩:=v;obtain⟨As,ns,cs,Ap2,np2,cp2,Ai,ni,ci,Ac,nc,cc,At,nt,ct,Ab,nb,cb⟩:=ev;simp only at a0 a1 HC HR f1 f2 f3 f4 ⊢;clear hb hk hx h2 h3 a2 a3 a4 a5;by_cases hz:0<ns+np2+ni+nc
 · rw[if_pos hz] at HR;have a7:decide ((ns:Int)+(np2:Int)+(ni:Int)+(nc:Int)>0)=true:=decide_eq_true aA;clear hz;go_in;go_wp2_with fail;go_ret;rw[HR.o];exact⟨rfl,a0.o⟩
 rw[if_neg hz] at HR;have a7:decide ((ns:Int)+(np2:Int)+(ni:Int)+(nc:Int)>0)=false:=decide_eq_false aA;clear hz;go_in;go_wp2_with fail;refine (HC.o).mono ?_;rintro e w2 ⟨rfl,a6⟩;have a8:=bZ a1 a6;clear a6;go_wp2_with fail;go_ret;rw[HR.o];exact⟨rfl,a8.o⟩
theorem PQ {b:Bk} {known self below:Int} {l:List Nd} (h:fC b known self l below=0):0<l.length:=by
 have hs:a8 l=0:=by
  unfold fC at h;split at h
  · exact h
  rename_i h1
  exact Decidable.not_not.1 h1
 obtain⟨n,a,k,hr⟩:=H5 hs;rw[hr.eq];simp
def O0 (i:Nat):FuncId:=match i with
 | 0=>88
 | 1=>89
 | 2=>91
 | 3=>93
 | _=>94
def QB (g:Nat) (i:Nat):Array Value:=match i with
 | 0=>#[Y (J ⟨g,0,I⟩),Y (J ⟨g+1,0,I⟩)]
 | 1=>#[Y (J ⟨g+1,0,I⟩)]
 | 2=>#[Y (J ⟨g,0,I⟩),Y (J ⟨g+1,0,I⟩)]
 | 3=>#[Y (J ⟨g,0,I⟩),Y (J ⟨g+1,0,I⟩),Y (J ⟨g+1+1,0,I⟩)]
 | _=>#[Y (J ⟨g,0,I⟩),Y (J ⟨g+1,0,I⟩)]
theorem yQ {w W:World} {v:bO} {b:Bk} (hb:bX w v b) (known:Int) (hk:known<=b.entries.length) {ev:jF} {x:En} (hx:AL w ev x) (hp:x.params.length<=16) (hi:x.indices.length<=16) (hW:Below w.heap.size w W) (k1:aS W w.heap.size 94 #[O S b.vars,X v.Ao v.no v.co,X v.Ae v.ne v.ce,O S b.nat,X v.Ap v.np v.cp,O S known,O S (-1)]) (k2:aS W (w.heap.size+1) 61 #[O S x.kind,X ev.As ev.ns ev.cs,X ev.Ap ev.np ev.cp,X ev.Ai ev.ni ev.ci,X ev.Ac ev.nc ev.cc,X ev.At ev.nt ev.ct,X ev.Ab ev.nb ev.cb]) (k3:aS W (w.heap.size+1+1) 3 #[O S (x.params.length:Int)]) :
 ∀i,i<5->(∀j,j<i->[fC b known (-1) x.sort 0,mA x.sort,cZ b known (-1) 1 x.params 0,cZ b known (-1) 1 x.indices x.params.length,fT b known x x.ctors].getD j 0=0)->∀w',Below W.heap.size W w'->Calls Tryz.prog (O0 i) (QB w.heap.size i) w' (iG ([fC b known (-1) x.sort 0,mA x.sort,cZ b known (-1) 1 x.params 0,cZ b known (-1) 1 x.indices x.params.length,fT b known x x.ctors].getD i 0) w'):=by
 intro i a0 hz w' hw;have hB:=hW.trans (hw.mono hW.size);have b1:=k1.below hw k1.lt;have b2:=k2.below hw k2.lt;have b3:=k3.below hw k3.lt
 match i,a0 with
 | 0,_=>exact EG (hb.below hB) known (-1) hk (hx.below hB) b1 b2 b3
 | 1,_=>exact EH (hb.below hB) known (-1) hk (hx.below hB) b1 b2 b3 (PQ (by simpa using hz 0 aA))
 | 2,_=>exact EI (hb.below hB) known (-1) hk (hx.below hB) b1 b2 b3 hp
 | 3,_=>exact EJ (hb.below hB) known (-1) hk (hx.below hB) b1 b2 b3 hp hi
 | 4,_=>exact EK (hb.below hB) known (-1) hk (hx.below hB) b1 b2 b3 hp hi
theorem QX (i:Nat) (hi:i<5) : ∀args w,(callFunc (O0 i) args).run Tryz.prog w=.ok (.enter (O0 i) args) w:=by
 match i,hi with
 | 0,_=>exact fun _ _=>by kernel_rfl
 | 1,_=>exact fun _ _=>by kernel_rfl
 | 2,_=>exact fun _ _=>by kernel_rfl
 | 3,_=>exact fun _ _=>by kernel_rfl
 | 4,_=>exact fun _ _=>by kernel_rfl
theorem I9 {w:World} {v:bO} {b:Bk} (hb:bX w v b) (known:Int) (hk:known<=b.entries.length) {ev:jF} {x:En} (hx:AL w ev x) (h1:x.kind=1) :
 Calls Tryz.prog 49 #[.agg #[O S b.vars,X v.Ao v.no v.co,X v.Ae v.ne v.ce,O S b.nat,X v.Ap v.np v.cp,O S known,O S (-1)],.agg #[O S x.kind,X ev.As ev.ns ev.cs,X ev.Ap ev.np ev.cp,X ev.Ai ev.ni ev.ci,X ev.Ac ev.nc ev.cc,X ev.At ev.nt ev.ct,X ev.Ab ev.nb ev.cb]] w (iG (dD b known x) w):=by
 have b1:=hx.type.len;have b5:=hx.body.len;have a5:=hx.params.len;have a7:=hx.indices.len;have b4:=hx.ctors.len;have f1:=hx.type.few;have f2:=hx.body.few;have f3:=hx.params.few;have f4:=hx.indices.few;have f5:=hx.ctors.few;have HR:Hid (dD b known x=if 0<ev.nt+ev.nb then 8 else if 16<ev.np\/16<ev.ni\/16<ev.nc then 5 else jB [fC b known (-1) x.sort 0,mA x.sort,cZ b known (-1) 1 x.params 0,cZ b known (-1) 1 x.indices x.params.length,fT b known x x.ctors]):=aB (by unfold dD;rw[if_pos h1,b1,b5,a5,a7,b4]);have a3:=aB (fun (W:World) (h1:x.params.length<=16) (h2:x.indices.length<=16)=>yQ (W:=W) hb known hk hx h1 h2);have a1:=aB ((aP w (Z #[O S b.vars,X v.Ao v.no v.co,X v.Ae v.ne v.ce,O S b.nat,X v.Ap v.np v.cp,O S known,O S (-1)] 94)).alloc aD (Z #[O S x.kind,X ev.As ev.ns ev.cs,X ev.Ap ev.np ev.cp,X ev.Ai ev.ni ev.ci,X ev.Ac ev.nc ev.cc,X ev.At ev.nt ev.ct,X ev.Ab ev.nb ev.cb] 61));rw[h1] at a1 a3 ⊢;have a4:=aB a5;have b0:=aB a7;generalize dD b known x=res at *;obtain⟨es,a9⟩ : ∃es,es=[fC b known (-1) x.sort 0,mA x.sort,cZ b known (-1) 1 x.params 0,cZ b known (-1) 1 x.indices x.params.length,fT b known x x.ctors]:=⟨_,rfl⟩;rw[<-a9] at HR a3;have b3:es.length=5:=by rw[a9];rfl
 have b9:=aB b3;clear a9 b3;generalize b.vars=bv at *;generalize b.nat=bn at *;obtain⟨Ao,no,co,Ae,ne,ce,Ap,np,cp⟩:=v;obtain⟨As,ns,cs,Ap2,np2,cp2,Ai,ni,ci,Ac,nc,cc,At,nt,ct,Ab,nb,cb⟩:=ev;simp only at a1 a3 HR a4 b0 f1 f2 f3 f4 f5 ⊢;clear hb hk hx h1 b1 b5 a5 a7 b4;by_cases hz:0<nt+nb
 · rw[if_pos hz] at HR;have b7:decide ((nt:Int)+(nb:Int)>0)=true:=decide_eq_true aA;clear hz;go_in;go_wp2_with fail;go_ret;rw[HR.o];exact⟨rfl,a1.o⟩
 rw[if_neg hz] at HR;have b7:decide ((nt:Int)+(nb:Int)>0)=false:=decide_eq_false aA;clear hz;by_cases hf:16<np2\/16<ni\/16<nc
 · rw[if_pos hf] at HR;have b8:(16<np2)\/(¬ 16<np2/\16<ni)\/(¬ 16<np2/\¬ 16<ni/\16<nc):=aA;clear hf;rcases b8 with h | ⟨g1,h⟩ | ⟨g1,g2,h⟩
   case' inl=>have d1:decide ((np2:Int)>16)=true:=decide_eq_true aA
   case' inr.inl =>
    have d1:decide ((np2:Int)>16)=false:=decide_eq_false aA;have d2:decide ((ni:Int)>16)=true:=decide_eq_true aA
   case' inr.inr =>
    have d1:decide ((np2:Int)>16)=false:=decide_eq_false aA;have d2:decide ((ni:Int)>16)=false:=decide_eq_false aA;have d3:decide ((nc:Int)>16)=true:=decide_eq_true aA
   all_goals
    go_in;go_wp2_with fail;go_ret;rw[HR.o];exact⟨rfl,a1.o⟩
 rw[if_neg hf] at HR;have d1:decide ((np2:Int)>16)=false:=decide_eq_false aA;have d2:decide ((ni:Int)>16)=false:=decide_eq_false aA;have d3:decide ((nc:Int)>16)=false:=decide_eq_false aA;have a6:np2<=16:=aA;have a8:ni<=16:=aA;clear hf;have a2:Below w.heap.size w (((w.alloc (Z #[O S bv,X Ao no co,X Ae ne ce,O S bn,X Ap np cp,O S known,O S (-1)] 94)).alloc (Z #[O S 1,X As ns cs,X Ap2 np2 cp2,X Ai ni ci,X Ac nc cc,X At nt ct,X Ab nb cb] 61)).alloc (Z #[O S (np2:Int)] 3)):=a1.o.alloc a1.o.size _;have k1:aS (((w.alloc (Z #[O S bv,X Ao no co,X Ae ne ce,O S bn,X Ap np cp,O S known,O S (-1)] 94)).alloc (Z #[O S 1,X As ns cs,X Ap2 np2 cp2,X Ai ni ci,X Ac nc cc,X At nt ct,X Ab nb cb] 61)).alloc (Z #[O S (np2:Int)] 3)) w.heap.size 94 #[O S bv,X Ao no co,X Ae ne ce,O S bn,X Ap np cp,O S known,O S (-1)]:=((aS.new w 94 #[O S bv,X Ao no co,X Ae ne ce,O S bn,X Ap np cp,O S known,O S (-1)]).alloc _).alloc _;have k2:aS (((w.alloc (Z #[O S bv,X Ao no co,X Ae ne ce,O S bn,X Ap np cp,O S known,O S (-1)] 94)).alloc (Z #[O S 1,X As ns cs,X Ap2 np2 cp2,X Ai ni ci,X Ac nc cc,X At nt ct,X Ab nb cb] 61)).alloc (Z #[O S (np2:Int)] 3)) (w.heap.size+1) 61 #[O S 1,X As ns cs,X Ap2 np2 cp2,X Ai ni ci,X Ac nc cc,X At nt ct,X Ab nb cb]:=by
  have h:=aS.new (w.alloc (Z #[O S bv,X Ao no co,X Ae ne ce,O S bn,X Ap np cp,O S known,O S (-1)] 94)) 61 #[O S 1,X As ns cs,X Ap2 np2 cp2,X Ai ni ci,X Ac nc cc,X At nt ct,X Ab nb cb];rw[show (w.alloc (Z #[O S bv,X Ao no co,X Ae ne ce,O S bn,X Ap np cp,O S known,O S (-1)] 94)).heap.size=w.heap.size+1 from by simp] at h;exact h.alloc _
 have k3:aS (((w.alloc (Z #[O S bv,X Ao no co,X Ae ne ce,O S bn,X Ap np cp,O S known,O S (-1)] 94)).alloc (Z #[O S 1,X As ns cs,X Ap2 np2 cp2,X Ai ni ci,X Ac nc cc,X At nt ct,X Ab nb cb] 61)).alloc (Z #[O S (np2:Int)] 3)) (w.heap.size+1+1) 3 #[O S (np2:Int)]:=by
  have h:=aS.new ((w.alloc (Z #[O S bv,X Ao no co,X Ae ne ce,O S bn,X Ap np cp,O S known,O S (-1)] 94)).alloc (Z #[O S 1,X As ns cs,X Ap2 np2 cp2,X Ai ni ci,X Ac nc cc,X At nt ct,X Ab nb cb] 61)) 3 #[O S (np2:Int)];rw[show ((w.alloc (Z #[O S bv,X Ao no co,X Ae ne ce,O S bn,X Ap np cp,O S known,O S (-1)] 94)).alloc (Z #[O S 1,X As ns cs,X Ap2 np2 cp2,X Ai ni ci,X Ac nc cc,X At nt ct,X Ab nb cb] 61)).heap.size=w.heap.size+1+1 from by simp] at h;exact h
 have b2:(((w.alloc (Z #[O S bv,X Ao no co,X Ae ne ce,O S bn,X Ap np cp,O S known,O S (-1)] 94)).alloc (Z #[O S 1,X As ns cs,X Ap2 np2 cp2,X Ai ni ci,X Ac nc cc,X At nt ct,X Ab nb cb] 61)).alloc (Z #[O S (np2:Int)] 3)).heap.size=w.heap.size+1+1+1:=by simp
 have a0:=aB (JA (w:=((((w.alloc (Z #[O S bv,X Ao no co,X Ae ne ce,O S bn,X Ap np cp,O S known,O S (-1)] 94)).alloc (Z #[O S 1,X As ns cs,X Ap2 np2 cp2,X Ai ni ci,X Ac nc cc,X At nt ct,X Ab nb cb] 61)).alloc (Z #[O S (np2:Int)] 3)).alloc (Z #[(.func (.func 88) #[] #[Y (J ⟨w.heap.size,0,I⟩),Y (J ⟨w.heap.size+1,0,I⟩)]),(.func (.func 89) #[] #[Y (J ⟨w.heap.size+1,0,I⟩)]),(.func (.func 91) #[] #[Y (J ⟨w.heap.size,0,I⟩),Y (J ⟨w.heap.size+1,0,I⟩)]),(.func (.func 93) #[] #[Y (J ⟨w.heap.size,0,I⟩),Y (J ⟨w.heap.size+1,0,I⟩),Y (J ⟨w.heap.size+1+1,0,I⟩)]),(.func (.func 94) #[] #[Y (J ⟨w.heap.size,0,I⟩),Y (J ⟨w.heap.size+1,0,I⟩)])] 139))) (b:=w.heap.size+1+1+1) (off:=0) (n:=5) (c:=5) (fid:=O0) (caps:=QB w.heap.size) (es:=es) aD b9.o aA (fun i hi=>by
  rw[Nat.zero_add,<-b2,World.cell?_alloc_new]
  match i,hi with
  | 0,_=>rfl
  | 1,_=>rfl
  | 2,_=>rfl
  | 3,_=>rfl
  | 4,_=>rfl) QX (a3.o ((((w.alloc (Z #[O S bv,X Ao no co,X Ae ne ce,O S bn,X Ap np cp,O S known,O S (-1)] 94)).alloc (Z #[O S 1,X As ns cs,X Ap2 np2 cp2,X Ai ni ci,X Ac nc cc,X At nt ct,X Ab nb cb] 61)).alloc (Z #[O S (np2:Int)] 3)).alloc (Z #[(.func (.func 88) #[] #[Y (J ⟨w.heap.size,0,I⟩),Y (J ⟨w.heap.size+1,0,I⟩)]),(.func (.func 89) #[] #[Y (J ⟨w.heap.size+1,0,I⟩)]),(.func (.func 91) #[] #[Y (J ⟨w.heap.size,0,I⟩),Y (J ⟨w.heap.size+1,0,I⟩)]),(.func (.func 93) #[] #[Y (J ⟨w.heap.size,0,I⟩),Y (J ⟨w.heap.size+1,0,I⟩),Y (J ⟨w.heap.size+1+1,0,I⟩)]),(.func (.func 94) #[] #[Y (J ⟨w.heap.size,0,I⟩),Y (J ⟨w.heap.size+1,0,I⟩)])] 139)) (by rw[a4.o];exact a6) (by rw[b0.o];exact a8) (a2.alloc a2.size _) (k1.alloc _) (k2.alloc _) (by rw[a4.o];exact k3.alloc _)))
 have c0:=aB (a2.alloc a2.size (Z #[(.func (.func 88) #[] #[Y (J ⟨w.heap.size,0,I⟩),Y (J ⟨w.heap.size+1,0,I⟩)]),(.func (.func 89) #[] #[Y (J ⟨w.heap.size+1,0,I⟩)]),(.func (.func 91) #[] #[Y (J ⟨w.heap.size,0,I⟩),Y (J ⟨w.heap.size+1,0,I⟩)]),(.func (.func 93) #[] #[Y (J ⟨w.heap.size,0,I⟩),Y (J ⟨w.heap.size+1,0,I⟩),Y (J ⟨w.heap.size+1+1,0,I⟩)]),(.func (.func 94) #[] #[Y (J ⟨w.heap.size,0,I⟩),Y (J ⟨w.heap.size+1,0,I⟩)])] 139));generalize jB es=fe at *;clear a3 k1 k2 k3 a2 b2 a4 b0;go_in;go_wp2_with fail;refine (a0.o).mono ?_;rintro e w2 ⟨rfl,b6⟩;have c1:=bZ c0 b6;clear b6;go_wp2_with fail;go_ret;rw[HR.o];exact⟨rfl,c1.o⟩
theorem D0 {w:World} {v:bO} {b:Bk} (hb:bX w v b) (known:Int) (hk:known<=b.entries.length) {ev:jF} {x:En} (hx:AL w ev x) :
 Calls Tryz.prog 49 #[.agg #[O S b.vars,X v.Ao v.no v.co,X v.Ae v.ne v.ce,O S b.nat,X v.Ap v.np v.cp,O S known,O S (-1)],.agg #[O S x.kind,X ev.As ev.ns ev.cs,X ev.Ap ev.np ev.cp,X ev.Ai ev.ni ev.ci,X ev.Ac ev.nc ev.cc,X ev.At ev.nt ev.ct,X ev.Ab ev.nb ev.cb]] w (iG (dD b known x) w):=by
 by_cases h1:x.kind=1
 · exact I9 hb known hk hx h1
 exact I8 hb known hk hx h1
end Go.Proofs.YtjoddliplahgkaaGreat
