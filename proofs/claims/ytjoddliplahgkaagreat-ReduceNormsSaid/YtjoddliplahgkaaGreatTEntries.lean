/- Merged: First, Entry, EntryF. -/
import Derived.Test.YtjoddliplahgkaaGreatTBooks
namespace Go.Proofs.YtjoddliplahgkaaGreat
set_option linter.unusedVariables false
set_option linter.unusedSimpArgs false
open Go.RowKit
open Go.Value renaming int → O, slice → X, pointer → Y
open Go.IntKind renaming i64 → S
open Go.Obj renaming cells → Z
open Option renaming none → I, some → J
open Go.Lib renaming hid->aB
set_option maxHeartbeats 4000000
set_option maxRecDepth 100000
variable {b:Bk}{x:En}{g1 g2 g3:Nat}{w:aAB}{v:bR}{ev:jY}
theorem nQ:∀(es:List Int)(i:Nat),(∀j,j<i->es.getD j 0=0)->jW (es.drop i)=jW es
 | [],i,_=>by simp
 | e::r,0,_=>rfl
 | e::r,i+1,h=>by
  have D:=h 0 aA;simp only[List.getD_cons_zero]at D;rw[List.drop_succ_cons,nQ r i (fun j F=>by have:=h (j+1) aA;simpa using this)];simp only[jW];rw[XN (by simp[D])]
theorem MS{b off n c:Nat}{fid:Nat->FuncId}{caps:Nat->Array Value}{es:List Int}(hb:b<w.heap.size)(hl:es.length=n)(hn:n<=1000)(G:∀i,i<n->w.cell? ⟨b,off+i,I⟩=J (.func (.func (fid i)) #[] (caps i)))
 (a5:∀i,i<n->∀args w,(callFunc (fid i) args).run Tryz.prog w=.ok (.enter (fid i) args) w)
 (hc:∀i,i<n->(∀j,j<i->es.getD j 0=0)->∀w',ZY w w'->Calls Tryz.prog (fid i) (caps i) w' (iV (es.getD i 0) w')) :
 Calls Tryz.prog 87 #[X (J ⟨b,off,I⟩) n c] w (iV (jW es) w):=by
 obtain⟨a2,a8,HC,HL⟩:=aAE G a5 hc hl;obtain⟨a7,U⟩:=aAJ (jW es);rw[<-U];have a0:=aB U;clear G a5 hc hl U;go_in;go_wp2_with fail;go_loopw [8] (fun iv wr=>∃i:Nat,iv=O S (i:Int)/\i<=n/\Hid (∀j,j<i->es.getD j 0=0)/\Hid (ZY w wr)) (fun i _=>n-(intOf i).toNat)
 case atStart=>exact⟨0,rfl,by omega,aB (fun j hj=>absurd hj aA),aB (XS _ _)⟩
 case round =>
  obtain⟨i,rfl,hi,hz,F⟩:=hrel;by_cases z:i<n;rotate_left
  . have b2:decide ((i:Int)<(n:Int))=false:=XQ aA;have b0:Hid (a7=0):=aB (by
     rw[a0.o,<-nQ es i hz.o,YY (by rw[HL.o];omega)];rfl)
    go_wp2_with fail;go_ret;rw[b0.o];exact⟨rfl,F.o⟩
  have b2:decide ((i:Int)<(n:Int))=true:=XR aA;have b4:wr.cell? ⟨b,off+i,I⟩=J (.func (.func (fid i)) #[] (caps i)):=(F.o.cell (p:=⟨b,off+i,I⟩) hb).trans (a2.o i z);have a5:=a8.o i z;have s:=aB (HC.o i z hz.o wr F.o);have a4:=aB (fun (h:es.getD i 0=0)=>(fun j (hj:j<i+1)=>by
   rcases Nat.lt_or_ge j i with h1|h1
   . exact hz.o j h1
   obtain rfl:j=i:=aA;exact h:∀j,j<i+1->es.getD j 0=0))
  have a3:=aB (fun (h:es.getD i 0≠0)=>(show a7=es.getD i 0 by
   have a6:i<es.length:=by rw[HL.o];exact z
   rw[a0.o,<-nQ es i hz.o,YX a6];have he:es.getD i 0=es[i]:=by rw[YD,YB a6];rfl
   simp only[jW];rw[<-he,XP h]))
  generalize es.getD i 0=ev at *;generalize fid i=fi at *;generalize caps i=ci at *;by_cases h0:ev=0
  . have b1:=aB (a4.o h0);subst h0;clear a3 a4;go_wp2_with fail;first
     | refine (s.o).mono ?_
     | (simp only[Array.empty_append,Array.append_empty];refine (s.o).mono ?_)
    rintro e w2 ⟨rfl,D⟩;have a1:=bY F D;clear D;go_wp2_with fail;go_roundw
    case rel=>exact⟨i+1,by go_num,by omega,b1,a1⟩
    case measure=>simp[intOf];omega
  have a9:=aB (a3.o h0);have b3:(ev != 0)=true:=by simpa using h0
  clear a3 a4 h0;go_wp2_with fail;first
   | refine (s.o).mono ?_
   | (simp only[Array.empty_append,Array.append_empty];refine (s.o).mono ?_)
  rintro e w2 ⟨rfl,D⟩;have a1:=bY F D;clear D;go_wp2_with fail;go_ret;rw[a9.o];exact⟨rfl,a1.o⟩
theorem IK{A:ZZ}{n c:Nat}{l:List Nd}(ht:aX w A n c l)(U:0<n):
 Calls Tryz.prog 90 #[X A n c] w (iV (nE l) w):=by
 obtain⟨b,off,rfl,s,G,_,_⟩:=ht.at_ U;rw[YU,YF]at G;have D:Hid (nE l=if (bC l 0).op≠2 then 8 else 0):=aB rfl;generalize nE l=res at *;generalize (bC l 0).op=op at *;clear ht;by_cases h:op=2
 . have F:(op != 2)=false:=by simpa using h
   rw[XN (by simpa using h)]at D;clear h;go_in;go_wp2_with fail;go_ret;rw[D.o];exact⟨rfl,XS _ _⟩
 have F:(op != 2)=true:=by simpa using h
 rw[XP h]at D;clear h;go_in;go_wp2_with fail;go_ret;rw[D.o];exact⟨rfl,XS _ _⟩
theorem MN(hb:cE w v b)(known self:Int)(hk:known<=b.entries.length)(hx:DQ w ev x)(hp:x.params.length<=16)(d7:x.indices.length<=16):
 Calls Tryz.prog 95 #[.agg #[O S b.vars,X v.Ao v.no v.co,X v.Ae v.ne v.ce,O S b.nat,X v.Ap v.np v.cp,O S known,O S self],.agg #[O S x.kind,X ev.As ev.ns ev.cs,X ev.Ap ev.np ev.cp,X ev.Ai ev.ni ev.ci,X ev.Ac ev.nc ev.cc,X ev.At ev.nt ev.ct,X ev.Ab ev.nb ev.cb]] w (iV (gI b known x x.ctors) w):=by
 have c7:=aB (fun (w':aAB) (A':ZZ) (n' c':Nat) (ls:aAA) (be st:Int) (h:ZY w w') (h1:fP w' A' n' c' ls) (h2:st=0\/st=1) (h3:0<=be) (h4:be<=1000000) (h5:n'<=100000)=>rQ (hb.below h) known known hk h1 be st h2 h3 h4 h5);have HT:=aB (fun (w':aAB) (h:ZY w w')=>hx.ctors.below h);have b3:=hx.ctors.len;have c9:=hx.params.len;have a5:=hx.indices.len;have f3:=hx.ctors.few;have f5:=hx.indices.few;obtain⟨e0,a9⟩:=aAJ (gI b known x x.ctors);rw[<-a9];have c3:=aB a9;obtain⟨Ao,no,co,Ae,ne,ce,Ap,np,cp⟩:=v;obtain⟨As,ns,cs,a3,U,a4,Ai,ni,ci,Ac,nc,cc,At,nt,ct,Ab,nb,cb⟩:=ev;simp only at c7 HT b3 c9 a5 f3 f5 ⊢;obtain⟨L,hL⟩:=aAJ x.ctors;rw[<-hL]at HT b3 c3;have e8:=aB c9;have e7:=aB a5;have d0:=aB b3;have g4:U<=16:=aA;have g0:ni<=16:=aA;clear hb hk hx a9 hL b3 c9 a5 hp d7;generalize b.vars=bv at *;generalize b.nat=bn at *;generalize x.kind=kd at *;have e6:=aB ((aQ w (Z #[O S bv,X Ao no co,X Ae ne ce,O S bn,X Ap np cp,O S known,O S known] 94)).alloc aD (Z #[O S kd,X As ns cs,X a3 U a4,X Ai ni ci,X Ac nc cc,X At nt ct,X Ab nb cb] 61));have a6:Hid (aT ((w.alloc (Z #[O S bv,X Ao no co,X Ae ne ce,O S bn,X Ap np cp,O S known,O S known] 94)).alloc (Z #[O S kd,X As ns cs,X a3 U a4,X Ai ni ci,X Ac nc cc,X At nt ct,X Ab nb cb] 61)) w.heap.size 94 #[O S bv,X Ao no co,X Ae ne ce,O S bn,X Ap np cp,O S known,O S known]):=aB ((aT.new w 94 #[O S bv,X Ao no co,X Ae ne ce,O S bn,X Ap np cp,O S known,O S known]).alloc _);have a7:Hid (aT ((w.alloc (Z #[O S bv,X Ao no co,X Ae ne ce,O S bn,X Ap np cp,O S known,O S known] 94)).alloc (Z #[O S kd,X As ns cs,X a3 U a4,X Ai ni ci,X Ac nc cc,X At nt ct,X Ab nb cb] 61)) (w.heap.size+1) 61 #[O S kd,X As ns cs,X a3 U a4,X Ai ni ci,X Ac nc cc,X At nt ct,X Ab nb cb]):=aB (by
  have h:=aT.new (w.alloc (Z #[O S bv,X Ao no co,X Ae ne ce,O S bn,X Ap np cp,O S known,O S known] 94)) 61 #[O S kd,X As ns cs,X a3 U a4,X Ai ni ci,X Ac nc cc,X At nt ct,X Ab nb cb];rw[show (w.alloc (Z #[O S bv,X Ao no co,X Ae ne ce,O S bn,X Ap np cp,O S known,O S known] 94)).heap.size=w.heap.size+1 from by simp]at h;exact h)
 go_in;go_wp2_with fail;go_loopw [15] (fun iv wr=>∃i:Nat,iv=O S (i:Int)/\i<=nc/\Hid (gI b known x (L.drop i)=e0)/\Hid (aT wr w.heap.size 94 #[O S bv,X Ao no co,X Ae ne ce,O S bn,X Ap np cp,O S known,O S known])/\Hid (aT wr (w.heap.size+1) 61 #[O S kd,X As ns cs,X a3 U a4,X Ai ni ci,X Ac nc cc,X At nt ct,X Ab nb cb])/\Hid (ZY w wr)) (fun i _=>nc-(intOf i).toNat)
 case atStart=>exact⟨0,rfl,by omega,aB c3.o.symm,a6,a7,e6⟩
 case round =>
  clear a6 a7;obtain⟨i,rfl,hi,d9,a6,a7,b2⟩:=hrel;by_cases d8:i<nc;rotate_left
  . have f4:decide ((i:Int)<(nc:Int))=false:=XQ aA;have e9:Hid (e0=0):=aB (by
     have:=d9.o;rw[YY (by rw[d0.o];omega)]at this;exact this.symm)
    go_wp2_with fail;go_ret;rw[e9.o];exact⟨rfl,b2.o⟩
  have f4:decide ((i:Int)<(nc:Int))=true:=XR aA;obtain⟨bc,oc,rfl,g5,hm⟩:=(HT.o wr b2.o).mem aA;obtain⟨A1,n1,c1,A2,n2,c2,g6,g7,a8,b7⟩:=hm i d8;have a5:i<L.length:=by rw[d0.o];exact d8
  have D:=d9.o;rw[YX a5,show L[i]=L.getD i default from by rw[YD,YB a5];rfl]at D;obtain⟨cx,d4⟩:=aAJ (L.getD i default);rw[<-d4]at a8 b7 D;have b4:=a8.len;have b5:=b7.len;have g8:=a8.few;simp only[gI]at D;rw[e8.o,e7.o,b4,b5]at D;have s:=aB (b2.o.trans ((aQ wr (Z #[X A1 n1 c1,X A2 n2 c2] 64)).mono b2.o.size));have a1:=aB (a6.o.alloc (Z #[X A1 n1 c1,X A2 n2 c2] 64));have a2:=aB (a7.o.alloc (Z #[X A1 n1 c1,X A2 n2 c2] 64));have c0:=aB (aT.new wr 64 #[X A1 n1 c1,X A2 n2 c2]);have c4:=a8.below (aQ wr (Z #[X A1 n1 c1,X A2 n2 c2] 64));have d3:=aB (fun (w':aAB) (h:ZY wr w')=>b7.below h);have f6:=aT.cell a6.o;have f7:=aT.cell a7.o;have f8:=a6.o.lt;have f9:=a7.o.lt;clear hm d4 a8 b7;by_cases b1:16<n1
  . rw[XP b1]at D;have G:=aB D;have f0:decide ((n1:Int)>16)=true:=XR aA;clear D b4 b5 b1;go_wp2_with fail;go_ret;rw[<-G.o];exact⟨rfl,s.o⟩
  rw[XN b1]at D;have f0:decide ((n1:Int)>16)=false:=XQ aA;by_cases b6:n2=ni;case neg =>
   rw[XP b6]at D;have G:=aB D;have f1:((n2:Int) != (ni:Int))=true:=by rw[bne_iff_ne];omega
   clear D b4 b5 b1 b6;go_wp2_with fail;go_ret;rw[<-G.o];exact⟨rfl,s.o⟩
  rw[XN (by simpa using b6)]at D;have f1:((n2:Int) != (ni:Int))=false:=by rw[bne_eq_false_iff_eq];omega
  have b0:=aB (c7.o _ A1 n1 c1 cx.args U 1 s.o c4 (.inr rfl) aA aA aA);obtain⟨e1,d5⟩:=aAJ (dE b known known 1 cx.args U);obtain⟨e2,d6⟩:=aAJ (dE b known known 0 cx.outs ((U:Int)+n1));rw[<-d5]at b0 D;have c6:=aB (fun (w':aAB) (h:ZY w w') (h1:fP w' A2 n2 c2 cx.outs)=>c7.o w' A2 n2 c2 cx.outs ((U:Int)+n1) 0 h h1 (.inl rfl) aA aA aA);rw[<-d6]at c6 D;clear d5 d6 b4 b5 b6 c4;by_cases h1:e1=0;case neg =>
   rw[XP h1]at D;have G:=aB D;have f2:(e1 != 0)=true:=by simpa using h1
   clear D h1;go_wp2_with fail;refine (b0.o).mono ?_;rintro e w3 ⟨rfl,F⟩;have z:=aB (s.o.trans (F.mono s.o.size));clear F;go_wp2_with fail;go_ret;rw[<-G.o];exact⟨rfl,z.o⟩
  subst h1;rw[XN aD]at D;by_cases h2:e2=0;case neg =>
   rw[XP h2]at D;have G:=aB D;have f2:(e2 != 0)=true:=by simpa using h2
   clear D h2;go_wp2_with fail;refine (b0.o).mono ?_;rintro e w3 ⟨rfl,F⟩;obtain⟨z,c8⟩:=aAC (s.o.trans (F.mono s.o.size)) (((aQ wr (Z #[X A1 n1 c1,X A2 n2 c2] 64)).trans (F.mono aD)));have e3:=aT.cell (aT.below a1.o F a1.o.lt);have e4:=aT.cell (aT.below a2.o F a2.o.lt);have e5:=aT.cell (aT.below c0.o F aD);clear F;go_wp2_with fail;refine (c6.o _ z.o (d3.o _ c8.o)).mono ?_;rintro e w4 ⟨rfl,a0⟩;have c5:=bY z a0;clear a0;go_wp2_with fail;go_ret;rw[<-G.o];exact⟨rfl,c5.o⟩
  subst h2;rw[XN aD]at D;have G:=aB D;clear D;go_wp2_with fail;refine (b0.o).mono ?_;rintro e w3 ⟨rfl,F⟩;obtain⟨z,c8,b8,b9⟩:=aAE (s.o.trans (F.mono s.o.size)) (((aQ wr (Z #[X A1 n1 c1,X A2 n2 c2] 64)).trans (F.mono aD))) (aT.below a1.o F a1.o.lt) (aT.below a2.o F a2.o.lt);have e3:=aT.cell b8.o;have e4:=aT.cell b9.o;have e5:=aT.cell (aT.below c0.o F aD);clear F f6 f7;go_wp2_with fail;refine (c6.o _ z.o (d3.o _ c8.o)).mono ?_;rintro e w4 ⟨rfl,a0⟩;have c5:=bY z a0;have d1:=j8 b8 a0;have d2:=j8 b9 a0;clear a0 e3 e4 e5;go_wp2_with fail;go_roundw
  case rel=>exact⟨i+1,by go_num,by omega,G,d1,d2,c5⟩
  case measure=>simp[intOf];omega
theorem G9(z:cE w v b)(known self:Int)(hk:known<=b.entries.length)(hx:DQ w ev x)(G:aT w g1 94 #[O S b.vars,X v.Ao v.no v.co,X v.Ae v.ne v.ce,O S b.nat,X v.Ap v.np v.cp,O S known,O S self])(U:aT w g2 61 #[O S x.kind,X ev.As ev.ns ev.cs,X ev.Ap ev.np ev.cp,X ev.Ai ev.ni ev.ci,X ev.Ac ev.nc ev.cc,X ev.At ev.nt ev.ct,X ev.Ab ev.nb ev.cb])(s:aT w g3 3 #[O S (x.params.length:Int)]):
 Calls Tryz.prog 88 #[Y (J ⟨g1,0,I⟩),Y (J ⟨g2,0,I⟩)] w (iV (fM b known self x.sort 0) w):=by
 have h:=aB (DC z known self hk hx.sort 0);obtain⟨Ao,no,co,Ae,ne,ce,Ap,np,cp⟩:=v;obtain⟨As,ns,cs,a0,a2,a1,Ai,ni,ci,Ac,nc,cc,At,nt,ct,Ab,nb,cb⟩:=ev;simp only at h G U s;have z1:=aT.cell G;have z2:=aT.cell U;clear z hk hx G U s;go_in;go_wp2_with fail;refine (h.o).mono ?_;rintro e w2 ⟨rfl,D⟩;have F:=aB D;clear D z1 z2;go_wp2_with fail;go_ret;exact⟨rfl,F.o⟩
theorem H0(hb:cE w v b)(known self:Int)(hk:known<=b.entries.length)(U:DQ w ev x)(z:aT w g1 94 #[O S b.vars,X v.Ao v.no v.co,X v.Ae v.ne v.ce,O S b.nat,X v.Ap v.np v.cp,O S known,O S self])(G:aT w g2 61 #[O S x.kind,X ev.As ev.ns ev.cs,X ev.Ap ev.np ev.cp,X ev.Ai ev.ni ev.ci,X ev.Ac ev.nc ev.cc,X ev.At ev.nt ev.ct,X ev.Ab ev.nb ev.cb])(h3:aT w g3 3 #[O S (x.params.length:Int)])(s:0<x.sort.length):
 Calls Tryz.prog 89 #[Y (J ⟨g2,0,I⟩)] w (iV (nE x.sort) w):=by
 have h:=aB (IK U.sort (by rw[<-U.sort.len];exact s));clear s;obtain⟨Ao,no,co,Ae,ne,ce,Ap,np,cp⟩:=v;obtain⟨As,ns,cs,a0,a2,a1,Ai,ni,ci,Ac,nc,cc,At,nt,ct,Ab,nb,cb⟩:=ev;simp only at h z G h3;have z2:=aT.cell G;clear hb hk U z G h3;go_in;go_wp2_with fail;refine (h.o).mono ?_;rintro e w2 ⟨rfl,D⟩;have F:=aB D;clear D z2;go_wp2_with fail;go_ret;exact⟨rfl,F.o⟩
theorem H4(hb:cE w v b)(known self:Int)(hk:known<=b.entries.length)(h:DQ w ev x)(G:aT w g1 94 #[O S b.vars,X v.Ao v.no v.co,X v.Ae v.ne v.ce,O S b.nat,X v.Ap v.np v.cp,O S known,O S self])(U:aT w g2 61 #[O S x.kind,X ev.As ev.ns ev.cs,X ev.Ap ev.np ev.cp,X ev.Ai ev.ni ev.ci,X ev.Ac ev.nc ev.cc,X ev.At ev.nt ev.ct,X ev.Ab ev.nb ev.cb])(z:aT w g3 3 #[O S (x.params.length:Int)])(hp:x.params.length<=16):
 Calls Tryz.prog 91 #[Y (J ⟨g1,0,I⟩),Y (J ⟨g2,0,I⟩)] w (iV (dE b known self 1 x.params 0) w):=by
 have s:=aB (rQ hb known self hk h.params 0 1 (.inr rfl) aA aA (by rw[<-h.params.len];omega));clear hp;obtain⟨Ao,no,co,Ae,ne,ce,Ap,np,cp⟩:=v;obtain⟨As,ns,cs,a0,a2,a1,Ai,ni,ci,Ac,nc,cc,At,nt,ct,Ab,nb,cb⟩:=ev;simp only at s G U z;have z1:=aT.cell G;have z2:=aT.cell U;clear hb hk h G U z;go_in;go_wp2_with fail;refine (s.o).mono ?_;rintro e w2 ⟨rfl,D⟩;have F:=aB D;clear D z1 z2;go_wp2_with fail;go_ret;exact⟨rfl,F.o⟩
theorem H5(hb:cE w v b)(known self:Int)(hk:known<=b.entries.length)(s:DQ w ev x)(G:aT w g1 94 #[O S b.vars,X v.Ao v.no v.co,X v.Ae v.ne v.ce,O S b.nat,X v.Ap v.np v.cp,O S known,O S self])(U:aT w g2 61 #[O S x.kind,X ev.As ev.ns ev.cs,X ev.Ap ev.np ev.cp,X ev.Ai ev.ni ev.ci,X ev.Ac ev.nc ev.cc,X ev.At ev.nt ev.ct,X ev.Ab ev.nb ev.cb])(h:aT w g3 3 #[O S (x.params.length:Int)])(hp:x.params.length<=16)(hi:x.indices.length<=16):
 Calls Tryz.prog 93 #[Y (J ⟨g1,0,I⟩),Y (J ⟨g2,0,I⟩),Y (J ⟨g3,0,I⟩)] w (iV (dE b known self 1 x.indices x.params.length) w):=by
 have z:=aB (rQ hb known self hk s.indices (x.params.length:Int) 1 (.inr rfl) aA aA (by rw[<-s.indices.len];omega));generalize (x.params.length:Int)=pl at *;clear hp hi;obtain⟨Ao,no,co,Ae,ne,ce,Ap,np,cp⟩:=v;obtain⟨As,ns,cs,a0,a2,a1,Ai,ni,ci,Ac,nc,cc,At,nt,ct,Ab,nb,cb⟩:=ev;simp only at z G U h;have z1:=aT.cell G;have z2:=aT.cell U;have z3:=aT.cell h;clear hb hk s G U h;go_in;go_wp2_with fail;refine (z.o).mono ?_;rintro e w2 ⟨rfl,D⟩;have F:=aB D;clear D z1 z2 z3;go_wp2_with fail;go_ret;exact⟨rfl,F.o⟩
theorem H6(z:cE w v b)(known self:Int)(hk:known<=b.entries.length)(hx:DQ w ev x)(G:aT w g1 94 #[O S b.vars,X v.Ao v.no v.co,X v.Ae v.ne v.ce,O S b.nat,X v.Ap v.np v.cp,O S known,O S self])(U:aT w g2 61 #[O S x.kind,X ev.As ev.ns ev.cs,X ev.Ap ev.np ev.cp,X ev.Ai ev.ni ev.ci,X ev.Ac ev.nc ev.cc,X ev.At ev.nt ev.ct,X ev.Ab ev.nb ev.cb])(s:aT w g3 3 #[O S (x.params.length:Int)])(hp:x.params.length<=16)(hi:x.indices.length<=16):
 Calls Tryz.prog 94 #[Y (J ⟨g1,0,I⟩),Y (J ⟨g2,0,I⟩)] w (iV (gI b known x x.ctors) w):=by
 have h:=aB (MN z known self hk hx hp hi);clear hp hi;obtain⟨Ao,no,co,Ae,ne,ce,Ap,np,cp⟩:=v;obtain⟨As,ns,cs,a0,a2,a1,Ai,ni,ci,Ac,nc,cc,At,nt,ct,Ab,nb,cb⟩:=ev;simp only at h G U s;have z1:=aT.cell G;have z2:=aT.cell U;clear z hk hx G U s;go_in;go_wp2_with fail;refine (h.o).mono ?_;rintro e w2 ⟨rfl,D⟩;have F:=aB D;clear D z1 z2;go_wp2_with fail;go_ret;exact⟨rfl,F.o⟩
theorem QN{W:aAB}{g:Nat}(z:W.heap.size=g){D F:ZZ}{n1 c1 n2 c2:Nat}{U h:List Nd}(o:aX W D n1 c1 U)(s:aX W F n2 c2 h):fP (W.alloc (Z #[X D n1 c1,X F n2 c2] 29)) (J ⟨g,0,I⟩) 2 2 [U,h]:=by
 subst z;have G:=aQ W (Z #[X D n1 c1,X F n2 c2] 29);refine⟨rfl,by omega,fun _=>⟨_,_,rfl,by simp,fun k hk=>?_⟩⟩;rcases k with _|_|k
 . exact⟨D,n1,c1,by rw[World.cell?_alloc_new];rfl,o.below G⟩
 . exact⟨F,n2,c2,by rw[World.cell?_alloc_new];rfl,s.below G⟩
 omega
theorem MQ(hb:cE w v b)(known:Int)(hk:known<=b.entries.length)(F:DQ w ev x)(z:x.kind≠1):
 Calls Tryz.prog 49 #[.agg #[O S b.vars,X v.Ao v.no v.co,X v.Ae v.ne v.ce,O S b.nat,X v.Ap v.np v.cp,O S known,O S (-1)],.agg #[O S x.kind,X ev.As ev.ns ev.cs,X ev.Ap ev.np ev.cp,X ev.Ai ev.ni ev.ci,X ev.Ac ev.nc ev.cc,X ev.At ev.nt ev.ct,X ev.Ab ev.nb ev.cb]] w (iV (dK b known x) w):=by
 have q1:(x.kind==1)=false:=by simpa using z
 by_cases s:x.kind=2;case neg =>
  have q2:(x.kind==2)=false:=by simpa using s
  have U:Hid (dK b known x=8):=aB (by unfold dK;rw[XN z,XN s]);have D:=aB ((aQ w (Z #[O S b.vars,X v.Ao v.no v.co,X v.Ae v.ne v.ce,O S b.nat,X v.Ap v.np v.cp,O S known,O S (-1)] 94)).alloc aD (Z #[O S x.kind,X ev.As ev.ns ev.cs,X ev.Ap ev.np ev.cp,X ev.Ai ev.ni ev.ci,X ev.Ac ev.nc ev.cc,X ev.At ev.nt ev.ct,X ev.Ab ev.nb ev.cb] 61));generalize dK b known x=res at *;generalize x.kind=kd at *;generalize b.vars=bv at *;generalize b.nat=bn at *;obtain⟨Ao,no,co,Ae,ne,ce,Ap,np,cp⟩:=v;obtain⟨As,ns,cs,a5,G,a7,Ai,ni,ci,Ac,nc,cc,At,nt,ct,Ab,nb,cb⟩:=ev;simp only at D ⊢;clear hb hk F z s;go_in;go_wp2_with fail;go_ret;rw[U.o];exact⟨rfl,D.o⟩
 have q2:(x.kind==2)=true:=by simp[s]
 have a4:=F.sort.len;have a3:=F.params.len;have a2:=F.indices.len;have a1:=F.ctors.len;have f1:=F.sort.few;have f2:=F.params.few;have f3:=F.indices.few;have f4:=F.ctors.few;have U:Hid (dK b known x=if 0<ev.ns+ev.np+ev.ni+ev.nc then 8 else dE b known (-1) 0 [x.type,x.body] 0):=aB (by unfold dK;rw[XN z,XP s,a4,a3,a2,a1]);have D:=aB ((aQ w (Z #[O S b.vars,X v.Ao v.no v.co,X v.Ae v.ne v.ce,O S b.nat,X v.Ap v.np v.cp,O S known,O S (-1)] 94)).alloc aD (Z #[O S x.kind,X ev.As ev.ns ev.cs,X ev.Ap ev.np ev.cp,X ev.Ai ev.ni ev.ci,X ev.Ac ev.nc ev.cc,X ev.At ev.nt ev.ct,X ev.Ab ev.nb ev.cb] 61));have h:=aB (D.o.alloc D.o.size (Z #[X ev.At ev.nt ev.ct,X ev.Ab ev.nb ev.cb] 29));have HC:=aB (rQ (hb.below h.o) known (-1) hk (QN (g:=w.heap.size+1+1) aD (F.type.below D.o) (F.body.below D.o)) 0 0 (.inl rfl) aA aA aA);generalize dK b known x=res at *;generalize dE b known (-1) 0 [x.type,x.body] 0=rv at *;generalize x.kind=kd at *;generalize b.vars=bv at *;generalize b.nat=bn at *;obtain⟨Ao,no,co,Ae,ne,ce,Ap,np,cp⟩:=v;obtain⟨As,ns,cs,a5,G,a7,Ai,ni,ci,Ac,nc,cc,At,nt,ct,Ab,nb,cb⟩:=ev;simp only at D h HC U f1 f2 f3 f4 ⊢;clear hb hk F z s a4 a3 a2 a1;by_cases hz:0<ns+G+ni+nc
 . rw[XP hz]at U;have a8:decide ((ns:Int)+(G:Int)+(ni:Int)+(nc:Int)>0)=true:=XR aA;clear hz;go_in;go_wp2_with fail;go_ret;rw[U.o];exact⟨rfl,D.o⟩
 rw[XN hz]at U;have a8:decide ((ns:Int)+(G:Int)+(ni:Int)+(nc:Int)>0)=false:=XQ aA;clear hz;go_in;go_wp2_with fail;refine (HC.o).mono ?_;rintro e w2 ⟨rfl,a0⟩;have a6:=bY h a0;clear a0;go_wp2_with fail;go_ret;rw[U.o];exact⟨rfl,a6.o⟩
theorem TL{known self below:Int}{l:List Nd}(h:fM b known self l below=0):0<l.length:=by
 have G:a6 l=0:=by
  unfold fM at h;split at h
  . exact h
  rename_i D
  exact Decidable.not_not.1 D
 obtain⟨n,a,k,F⟩:=LH G;rw[F.eq];simp
def SQ(i:Nat):FuncId:=match i with
 | 0=>88
 | 1=>89
 | 2=>91
 | 3=>93
 | _=>94
def T4(g:Nat)(i:Nat):Array Value:=match i with
 | 0=>#[Y (J ⟨g,0,I⟩),Y (J ⟨g+1,0,I⟩)]
 | 1=>#[Y (J ⟨g+1,0,I⟩)]
 | 2=>#[Y (J ⟨g,0,I⟩),Y (J ⟨g+1,0,I⟩)]
 | 3=>#[Y (J ⟨g,0,I⟩),Y (J ⟨g+1,0,I⟩),Y (J ⟨g+1+1,0,I⟩)]
 | _=>#[Y (J ⟨g,0,I⟩),Y (J ⟨g+1,0,I⟩)]
theorem BT{W:aAB}(h:cE w v b)(known:Int)(o:known<=b.entries.length)(s:DQ w ev x)(hp:x.params.length<=16)(hi:x.indices.length<=16)(hW:ZY w W)(k1:aT W w.heap.size 94 #[O S b.vars,X v.Ao v.no v.co,X v.Ae v.ne v.ce,O S b.nat,X v.Ap v.np v.cp,O S known,O S (-1)])(k2:aT W (w.heap.size+1) 61 #[O S x.kind,X ev.As ev.ns ev.cs,X ev.Ap ev.np ev.cp,X ev.Ai ev.ni ev.ci,X ev.Ac ev.nc ev.cc,X ev.At ev.nt ev.ct,X ev.Ab ev.nb ev.cb])(k3:aT W (w.heap.size+1+1) 3 #[O S (x.params.length:Int)]):
 ∀i,i<5->(∀j,j<i->[fM b known (-1) x.sort 0,nE x.sort,dE b known (-1) 1 x.params 0,dE b known (-1) 1 x.indices x.params.length,gI b known x x.ctors].getD j 0=0)->∀w',ZY W w'->Calls Tryz.prog (SQ i) (T4 w.heap.size i) w' (iV ([fM b known (-1) x.sort 0,nE x.sort,dE b known (-1) 1 x.params 0,dE b known (-1) 1 x.indices x.params.length,gI b known x x.ctors].getD i 0) w'):=by
 intro i a0 hz w' z;have D:=hW.trans (z.mono hW.size);have F:=k1.below z k1.lt;have G:=k2.below z k2.lt;have U:=k3.below z k3.lt
 match i,a0 with
 | 0,_=>exact G9 (h.below D) known (-1) o (s.below D) F G U
 | 1,_=>exact H0 (h.below D) known (-1) o (s.below D) F G U (TL (by simpa using hz 0 aA))
 | 2,_=>exact H4 (h.below D) known (-1) o (s.below D) F G U hp
 | 3,_=>exact H5 (h.below D) known (-1) o (s.below D) F G U hp hi
 | 4,_=>exact H6 (h.below D) known (-1) o (s.below D) F G U hp hi
theorem UQ(i:Nat)(D:i<5):∀args w,(callFunc (SQ i) args).run Tryz.prog w=.ok (.enter (SQ i) args) w:=by
 match i,D with
 | 0,_=>exact fun _ _=>by kernel_rfl
 | 1,_=>exact fun _ _=>by kernel_rfl
 | 2,_=>exact fun _ _=>by kernel_rfl
 | 3,_=>exact fun _ _=>by kernel_rfl
 | 4,_=>exact fun _ _=>by kernel_rfl
theorem MR(hb:cE w v b)(known:Int)(hk:known<=b.entries.length)(s:DQ w ev x)(h1:x.kind=1):
 Calls Tryz.prog 49 #[.agg #[O S b.vars,X v.Ao v.no v.co,X v.Ae v.ne v.ce,O S b.nat,X v.Ap v.np v.cp,O S known,O S (-1)],.agg #[O S x.kind,X ev.As ev.ns ev.cs,X ev.Ap ev.np ev.cp,X ev.Ai ev.ni ev.ci,X ev.Ac ev.nc ev.cc,X ev.At ev.nt ev.ct,X ev.Ab ev.nb ev.cb]] w (iV (dK b known x) w):=by
 have b4:=s.type.len;have a8:=s.body.len;have a6:=s.params.len;have a5:=s.indices.len;have a9:=s.ctors.len;have f1:=s.type.few;have f2:=s.body.few;have f3:=s.params.few;have f4:=s.indices.few;have f5:=s.ctors.few;have HR:Hid (dK b known x=if 0<ev.nt+ev.nb then 8 else if 16<ev.np\/16<ev.ni\/16<ev.nc then 5 else jW [fM b known (-1) x.sort 0,nE x.sort,dE b known (-1) 1 x.params 0,dE b known (-1) 1 x.indices x.params.length,gI b known x x.ctors]):=aB (by unfold dK;rw[XP h1,b4,a8,a6,a5,a9]);have z:=aB (fun (W:aAB) (h1:x.params.length<=16) (h2:x.indices.length<=16)=>BT (W:=W) hb known hk s h1 h2);have U:=aB ((aQ w (Z #[O S b.vars,X v.Ao v.no v.co,X v.Ae v.ne v.ce,O S b.nat,X v.Ap v.np v.cp,O S known,O S (-1)] 94)).alloc aD (Z #[O S x.kind,X ev.As ev.ns ev.cs,X ev.Ap ev.np ev.cp,X ev.Ai ev.ni ev.ci,X ev.Ac ev.nc ev.cc,X ev.At ev.nt ev.ct,X ev.Ab ev.nb ev.cb] 61));rw[h1]at U z ⊢;have a2:=aB a6;have a3:=aB a5;generalize dK b known x=res at *;obtain⟨es,a4⟩:∃es,es=[fM b known (-1) x.sort 0,nE x.sort,dE b known (-1) 1 x.params 0,dE b known (-1) 1 x.indices x.params.length,gI b known x x.ctors]:=⟨_,rfl⟩;rw[<-a4]at HR z;have b0:es.length=5:=by rw[a4];rfl
 have b7:=aB b0;clear a4 b0;generalize b.vars=bv at *;generalize b.nat=bn at *;obtain⟨Ao,no,co,Ae,ne,ce,Ap,np,cp⟩:=v;obtain⟨As,ns,cs,F,D,G,Ai,ni,ci,Ac,nc,cc,At,nt,ct,Ab,nb,cb⟩:=ev;simp only at U z HR a2 a3 f1 f2 f3 f4 f5 ⊢;clear hb hk s h1 b4 a8 a6 a5 a9;by_cases hz:0<nt+nb
 . rw[XP hz]at HR;have b9:decide ((nt:Int)+(nb:Int)>0)=true:=XR aA;clear hz;go_in;go_wp2_with fail;go_ret;rw[HR.o];exact⟨rfl,U.o⟩
 rw[XN hz]at HR;have b9:decide ((nt:Int)+(nb:Int)>0)=false:=XQ aA;clear hz;by_cases hf:16<D\/16<ni\/16<nc
 . rw[XP hf]at HR;have b8:(16<D)\/(¬ 16<D/\16<ni)\/(¬ 16<D/\¬ 16<ni/\16<nc):=aA;clear hf;rcases b8 with h|⟨g1,h⟩|⟨g1,g2,h⟩
   case' inl=>have d1:decide ((D:Int)>16)=true:=XR aA
   case' inr.inl =>
    have d1:decide ((D:Int)>16)=false:=XQ aA;have d2:decide ((ni:Int)>16)=true:=XR aA
   case' inr.inr =>
    have d1:decide ((D:Int)>16)=false:=XQ aA;have d2:decide ((ni:Int)>16)=false:=XQ aA;have d3:decide ((nc:Int)>16)=true:=XR aA
   all_goals
    go_in;go_wp2_with fail;go_ret;rw[HR.o];exact⟨rfl,U.o⟩
 rw[XN hf]at HR;have d1:decide ((D:Int)>16)=false:=XQ aA;have d2:decide ((ni:Int)>16)=false:=XQ aA;have d3:decide ((nc:Int)>16)=false:=XQ aA;have b2:D<=16:=aA;have b1:ni<=16:=aA;clear hf;have a0:ZY w (((w.alloc (Z #[O S bv,X Ao no co,X Ae ne ce,O S bn,X Ap np cp,O S known,O S (-1)] 94)).alloc (Z #[O S 1,X As ns cs,X F D G,X Ai ni ci,X Ac nc cc,X At nt ct,X Ab nb cb] 61)).alloc (Z #[O S (D:Int)] 3)):=U.o.alloc U.o.size _;have k1:aT (((w.alloc (Z #[O S bv,X Ao no co,X Ae ne ce,O S bn,X Ap np cp,O S known,O S (-1)] 94)).alloc (Z #[O S 1,X As ns cs,X F D G,X Ai ni ci,X Ac nc cc,X At nt ct,X Ab nb cb] 61)).alloc (Z #[O S (D:Int)] 3)) w.heap.size 94 #[O S bv,X Ao no co,X Ae ne ce,O S bn,X Ap np cp,O S known,O S (-1)]:=((aT.new w 94 #[O S bv,X Ao no co,X Ae ne ce,O S bn,X Ap np cp,O S known,O S (-1)]).alloc _).alloc _;have k2:aT (((w.alloc (Z #[O S bv,X Ao no co,X Ae ne ce,O S bn,X Ap np cp,O S known,O S (-1)] 94)).alloc (Z #[O S 1,X As ns cs,X F D G,X Ai ni ci,X Ac nc cc,X At nt ct,X Ab nb cb] 61)).alloc (Z #[O S (D:Int)] 3)) (w.heap.size+1) 61 #[O S 1,X As ns cs,X F D G,X Ai ni ci,X Ac nc cc,X At nt ct,X Ab nb cb]:=by
  have h:=aT.new (w.alloc (Z #[O S bv,X Ao no co,X Ae ne ce,O S bn,X Ap np cp,O S known,O S (-1)] 94)) 61 #[O S 1,X As ns cs,X F D G,X Ai ni ci,X Ac nc cc,X At nt ct,X Ab nb cb];rw[show (w.alloc (Z #[O S bv,X Ao no co,X Ae ne ce,O S bn,X Ap np cp,O S known,O S (-1)] 94)).heap.size=w.heap.size+1 from by simp]at h;exact h.alloc _
 have k3:aT (((w.alloc (Z #[O S bv,X Ao no co,X Ae ne ce,O S bn,X Ap np cp,O S known,O S (-1)] 94)).alloc (Z #[O S 1,X As ns cs,X F D G,X Ai ni ci,X Ac nc cc,X At nt ct,X Ab nb cb] 61)).alloc (Z #[O S (D:Int)] 3)) (w.heap.size+1+1) 3 #[O S (D:Int)]:=by
  have h:=aT.new ((w.alloc (Z #[O S bv,X Ao no co,X Ae ne ce,O S bn,X Ap np cp,O S known,O S (-1)] 94)).alloc (Z #[O S 1,X As ns cs,X F D G,X Ai ni ci,X Ac nc cc,X At nt ct,X Ab nb cb] 61)) 3 #[O S (D:Int)];rw[show ((w.alloc (Z #[O S bv,X Ao no co,X Ae ne ce,O S bn,X Ap np cp,O S known,O S (-1)] 94)).alloc (Z #[O S 1,X As ns cs,X F D G,X Ai ni ci,X Ac nc cc,X At nt ct,X Ab nb cb] 61)).heap.size=w.heap.size+1+1 from by simp]at h;exact h
 have b3:(((w.alloc (Z #[O S bv,X Ao no co,X Ae ne ce,O S bn,X Ap np cp,O S known,O S (-1)] 94)).alloc (Z #[O S 1,X As ns cs,X F D G,X Ai ni ci,X Ac nc cc,X At nt ct,X Ab nb cb] 61)).alloc (Z #[O S (D:Int)] 3)).heap.size=w.heap.size+1+1+1:=by simp
 have a1:=aB (MS (w:=((((w.alloc (Z #[O S bv,X Ao no co,X Ae ne ce,O S bn,X Ap np cp,O S known,O S (-1)] 94)).alloc (Z #[O S 1,X As ns cs,X F D G,X Ai ni ci,X Ac nc cc,X At nt ct,X Ab nb cb] 61)).alloc (Z #[O S (D:Int)] 3)).alloc (Z #[(.func (.func 88) #[] #[Y (J ⟨w.heap.size,0,I⟩),Y (J ⟨w.heap.size+1,0,I⟩)]),(.func (.func 89) #[] #[Y (J ⟨w.heap.size+1,0,I⟩)]),(.func (.func 91) #[] #[Y (J ⟨w.heap.size,0,I⟩),Y (J ⟨w.heap.size+1,0,I⟩)]),(.func (.func 93) #[] #[Y (J ⟨w.heap.size,0,I⟩),Y (J ⟨w.heap.size+1,0,I⟩),Y (J ⟨w.heap.size+1+1,0,I⟩)]),(.func (.func 94) #[] #[Y (J ⟨w.heap.size,0,I⟩),Y (J ⟨w.heap.size+1,0,I⟩)])] 139))) (b:=w.heap.size+1+1+1) (off:=0) (n:=5) (c:=5) (fid:=SQ) (caps:=T4 w.heap.size) (es:=es) aD b7.o aA (fun i hi=>by
  rw[YH,<-b3,World.cell?_alloc_new]
  match i,hi with
  | 0,_=>rfl
  | 1,_=>rfl
  | 2,_=>rfl
  | 3,_=>rfl
  | 4,_=>rfl) UQ (z.o ((((w.alloc (Z #[O S bv,X Ao no co,X Ae ne ce,O S bn,X Ap np cp,O S known,O S (-1)] 94)).alloc (Z #[O S 1,X As ns cs,X F D G,X Ai ni ci,X Ac nc cc,X At nt ct,X Ab nb cb] 61)).alloc (Z #[O S (D:Int)] 3)).alloc (Z #[(.func (.func 88) #[] #[Y (J ⟨w.heap.size,0,I⟩),Y (J ⟨w.heap.size+1,0,I⟩)]),(.func (.func 89) #[] #[Y (J ⟨w.heap.size+1,0,I⟩)]),(.func (.func 91) #[] #[Y (J ⟨w.heap.size,0,I⟩),Y (J ⟨w.heap.size+1,0,I⟩)]),(.func (.func 93) #[] #[Y (J ⟨w.heap.size,0,I⟩),Y (J ⟨w.heap.size+1,0,I⟩),Y (J ⟨w.heap.size+1+1,0,I⟩)]),(.func (.func 94) #[] #[Y (J ⟨w.heap.size,0,I⟩),Y (J ⟨w.heap.size+1,0,I⟩)])] 139)) (by rw[a2.o];exact b2) (by rw[a3.o];exact b1) (a0.alloc a0.size _) (k1.alloc _) (k2.alloc _) (by rw[a2.o];exact k3.alloc _)))
 have b6:=aB (a0.alloc a0.size (Z #[(.func (.func 88) #[] #[Y (J ⟨w.heap.size,0,I⟩),Y (J ⟨w.heap.size+1,0,I⟩)]),(.func (.func 89) #[] #[Y (J ⟨w.heap.size+1,0,I⟩)]),(.func (.func 91) #[] #[Y (J ⟨w.heap.size,0,I⟩),Y (J ⟨w.heap.size+1,0,I⟩)]),(.func (.func 93) #[] #[Y (J ⟨w.heap.size,0,I⟩),Y (J ⟨w.heap.size+1,0,I⟩),Y (J ⟨w.heap.size+1+1,0,I⟩)]),(.func (.func 94) #[] #[Y (J ⟨w.heap.size,0,I⟩),Y (J ⟨w.heap.size+1,0,I⟩)])] 139));generalize jW es=fe at *;clear z k1 k2 k3 a0 b3 a2 a3;go_in;go_wp2_with fail;refine (a1.o).mono ?_;rintro e w2 ⟨rfl,a7⟩;have b5:=bY b6 a7;clear a7;go_wp2_with fail;go_ret;rw[HR.o];exact⟨rfl,b5.o⟩
theorem GT(F:cE w v b)(known:Int)(G:known<=b.entries.length)(U:DQ w ev x):
 Calls Tryz.prog 49 #[.agg #[O S b.vars,X v.Ao v.no v.co,X v.Ae v.ne v.ce,O S b.nat,X v.Ap v.np v.cp,O S known,O S (-1)],.agg #[O S x.kind,X ev.As ev.ns ev.cs,X ev.Ap ev.np ev.cp,X ev.Ai ev.ni ev.ci,X ev.Ac ev.nc ev.cc,X ev.At ev.nt ev.ct,X ev.Ab ev.nb ev.cb]] w (iV (dK b known x) w):=by
 by_cases D:x.kind=1
 . exact MR F known G U D
 exact MQ F known G U D
end Go.Proofs.YtjoddliplahgkaaGreat
