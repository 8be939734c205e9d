/- Merged: First, Entry, EntryF. -/
import Derived.Test.YtlahmbhimhmoaaaVBooks
namespace Go.Proofs.Ytlahmbhimhmoaaa
set_option linter.unusedVariables false
set_option linter.unusedSimpArgs false
open Go.RowKit
open Go.Value renaming int → O, slice → X, pointer → Y
open Go.IntKind renaming i64 → S
open Go.Obj renaming cells → Z
open Option renaming none → I, some → J
open Go.Lib renaming hid->aB
set_option maxHeartbeats 4000000
set_option maxRecDepth 100000
variable {b:Bk}{x:En}{g1 g2 g3:Nat}{w:OE}{v:bA}{ev:gC}
theorem jJ:∀(es:List Int)(i:Nat),(∀j,j<i->es.getD j 0=0)->hX (es.drop i)=hX es
 | [],i,_=>by simp
 | e::r,0,_=>rfl
 | e::r,i+1,h=>by
  have D:=h 0 aA;simp only[List.getD_cons_zero]at D;rw[List.drop_succ_cons,jJ r i (fun j F=>by have:=h (j+1) aA;simpa using this)];simp only[hX];rw[aN (by simp[D])]
theorem CB{b off n c:Nat}{fid:Nat->FuncId}{caps:Nat->Array Value}{es:List Int}(hb:b<w.heap.size)(hl:es.length=n)(hn:n<=1000)(G:∀i,i<n->w.cell? ⟨b,off+i,I⟩=J (.func (.func (fid i)) #[] (caps i)))
 (a5:∀i,i<n->∀args w,(callFunc (fid i) args).run Try.prog w=.ok (.enter (fid i) args) w)
 (hc:∀i,i<n->(∀j,j<i->es.getD j 0=0)->∀w',OB w w'->Calls Try.prog (fid i) (caps i) w' (iT (es.getD i 0) w')) :
 Calls Try.prog 30 #[X (J ⟨b,off,I⟩) n c] w (iT (hX es) w):=by
 obtain⟨a2,a8,HC,HL⟩:=OI G a5 hc hl;obtain⟨a7,U⟩:=OM (hX es);rw[<-U];have a0:=aB U;clear G a5 hc hl U;go_in;go_wp2_with fail;go_loopw [8] (fun iv wr=>∃i:Nat,iv=O S (i:Int)/\i<=n/\Hid (∀j,j<i->es.getD j 0=0)/\Hid (OB w wr)) (fun i _=>n-(intOf i).toNat)
 case atStart=>exact⟨0,rfl,by omega,aB (fun j hj=>absurd hj aA),aB (MC _ _)⟩
 case round =>
  obtain⟨i,rfl,hi,hz,F⟩:=hrel;by_cases z:i<n;rotate_left
  . have b2:decide ((i:Int)<(n:Int))=false:=MA aA;have b0:Hid (a7=0):=aB (by
     rw[a0.o,<-jJ es i hz.o,NB (by rw[HL.o];omega)];rfl)
    go_wp2_with fail;go_ret;rw[b0.o];exact⟨rfl,F.o⟩
  have b2:decide ((i:Int)<(n:Int))=true:=MB aA;have b4:wr.cell? ⟨b,off+i,I⟩=J (.func (.func (fid i)) #[] (caps i)):=(F.o.cell (p:=⟨b,off+i,I⟩) hb).trans (a2.o i z);have a5:=a8.o i z;have s:=aB (HC.o i z hz.o wr F.o);have a4:=aB (fun (h:es.getD i 0=0)=>(fun j (hj:j<i+1)=>by
   rcases Nat.lt_or_ge j i with h1|h1
   . exact hz.o j h1
   obtain rfl:j=i:=aA;exact h:∀j,j<i+1->es.getD j 0=0))
  have a3:=aB (fun (h:es.getD i 0≠0)=>(show a7=es.getD i 0 by
   have a6:i<es.length:=by rw[HL.o];exact z
   rw[a0.o,<-jJ es i hz.o,MT a6];have he:es.getD i 0=es[i]:=by rw[MK,MI a6];rfl
   simp only[hX];rw[<-he,LZ h]))
  generalize es.getD i 0=ev at *;generalize fid i=fi at *;generalize caps i=ci at *;by_cases h0:ev=0
  . have b1:=aB (a4.o h0);subst h0;clear a3 a4;go_wp2_with fail;first
     | refine (s.o).mono ?_
     | (simp only[Array.empty_append,Array.append_empty];refine (s.o).mono ?_)
    rintro e w2 ⟨rfl,D⟩;have a1:=bK F D;clear D;go_wp2_with fail;go_roundw
    case rel=>exact⟨i+1,by go_num,by omega,b1,a1⟩
    case measure=>simp[intOf];omega
  have a9:=aB (a3.o h0);have b3:(ev != 0)=true:=by simpa using h0
  clear a3 a4 h0;go_wp2_with fail;first
   | refine (s.o).mono ?_
   | (simp only[Array.empty_append,Array.append_empty];refine (s.o).mono ?_)
  rintro e w2 ⟨rfl,D⟩;have a1:=bK F D;clear D;go_wp2_with fail;go_ret;rw[a9.o];exact⟨rfl,a1.o⟩
theorem x9{A:OC}{n c:Nat}{l:List Nd}(ht:aX w A n c l)(U:0<n):
 Calls Try.prog 33 #[X A n c] w (iT (lP l) w):=by
 obtain⟨b,off,rfl,s,G,_,_⟩:=ht.at_ U;rw[NE,MQ]at G;have D:Hid (lP l=if (bB l 0).op≠2 then 8 else 0):=aB rfl;generalize lP l=res at *;generalize (bB l 0).op=op at *;clear ht;by_cases h:op=2
 . have F:(op != 2)=false:=by simpa using h
   rw[aN (by simpa using h)]at D;clear h;go_in;go_wp2_with fail;go_ret;rw[D.o];exact⟨rfl,MC _ _⟩
 have F:(op != 2)=true:=by simpa using h
 rw[LZ h]at D;clear h;go_in;go_wp2_with fail;go_ret;rw[D.o];exact⟨rfl,MC _ _⟩
theorem BR(hb:bO w v b)(D e4:Int)(hk:D<=b.entries.length)(hx:tT w ev x)(hp:x.params.length<=16)(d8:x.indices.length<=16):
 Calls Try.prog 38 #[.agg #[O S b.vars,X v.Ao v.no v.co,X v.Ae v.ne v.ce,O S b.nat,X v.Ap v.np v.cp,O S D,O S e4],.agg #[O S x.kind,X ev.As ev.ns ev.cs,X ev.Ap ev.np ev.cp,X ev.Ai ev.ni ev.ci,X ev.Ac ev.nc ev.cc,X ev.At ev.nt ev.ct,X ev.Ab ev.nb ev.cb]] w (iT (gL b D x x.ctors) w):=by
 have c8:=aB (fun (w':OE) (A':OC) (n' c':Nat) (ls:OD) (be st:Int) (h:OB w w') (h1:dO w' A' n' c' ls) (h2:st=0\/st=1) (h3:0<=be) (h4:be<=1000000) (h5:n'<=100000)=>lN (hb.below h) D D hk h1 be st h2 h3 h4 h5);have HT:=aB (fun (w':OE) (h:OB w w')=>hx.ctors.below h);have b5:=hx.ctors.len;have d0:=hx.params.len;have a6:=hx.indices.len;have f5:=hx.ctors.few;have f7:=hx.indices.few;obtain⟨e3,b1⟩:=OM (gL b D x x.ctors);rw[<-b1];have c4:=aB b1;obtain⟨Ao,no,co,Ae,ne,ce,Ap,np,cp⟩:=v;obtain⟨As,ns,cs,a4,s,a5,Ai,ni,ci,Ac,nc,cc,At,nt,ct,Ab,nb,cb⟩:=ev;simp only at c8 HT b5 d0 a6 f5 f7 ⊢;obtain⟨L,hL⟩:=OM x.ctors;rw[<-hL]at HT b5 c4;have f0:=aB d0;have e9:=aB a6;have d1:=aB b5;have g6:s<=16:=aA;have g5:ni<=16:=aA;clear hb hk hx b1 hL b5 d0 a6 hp d8;generalize b.vars=bv at *;generalize b.nat=bn at *;generalize x.kind=kd at *;have e8:=aB ((aQ w (Z #[O S bv,X Ao no co,X Ae ne ce,O S bn,X Ap np cp,O S D,O S D] 64)).alloc aD (Z #[O S kd,X As ns cs,X a4 s a5,X Ai ni ci,X Ac nc cc,X At nt ct,X Ab nb cb] 49));have a7:Hid (aW ((w.alloc (Z #[O S bv,X Ao no co,X Ae ne ce,O S bn,X Ap np cp,O S D,O S D] 64)).alloc (Z #[O S kd,X As ns cs,X a4 s a5,X Ai ni ci,X Ac nc cc,X At nt ct,X Ab nb cb] 49)) w.heap.size 64 #[O S bv,X Ao no co,X Ae ne ce,O S bn,X Ap np cp,O S D,O S D]):=aB ((aW.new w 64 #[O S bv,X Ao no co,X Ae ne ce,O S bn,X Ap np cp,O S D,O S D]).alloc _);have a8:Hid (aW ((w.alloc (Z #[O S bv,X Ao no co,X Ae ne ce,O S bn,X Ap np cp,O S D,O S D] 64)).alloc (Z #[O S kd,X As ns cs,X a4 s a5,X Ai ni ci,X Ac nc cc,X At nt ct,X Ab nb cb] 49)) (w.heap.size+1) 49 #[O S kd,X As ns cs,X a4 s a5,X Ai ni ci,X Ac nc cc,X At nt ct,X Ab nb cb]):=aB (by
  have h:=aW.new (w.alloc (Z #[O S bv,X Ao no co,X Ae ne ce,O S bn,X Ap np cp,O S D,O S D] 64)) 49 #[O S kd,X As ns cs,X a4 s a5,X Ai ni ci,X Ac nc cc,X At nt ct,X Ab nb cb];rw[show (w.alloc (Z #[O S bv,X Ao no co,X Ae ne ce,O S bn,X Ap np cp,O S D,O S D] 64)).heap.size=w.heap.size+1 from by simp]at h;exact h)
 go_in;go_wp2_with fail;go_loopw [15] (fun iv wr=>∃i:Nat,iv=O S (i:Int)/\i<=nc/\Hid (gL b D x (L.drop i)=e3)/\Hid (aW wr w.heap.size 64 #[O S bv,X Ao no co,X Ae ne ce,O S bn,X Ap np cp,O S D,O S D])/\Hid (aW wr (w.heap.size+1) 49 #[O S kd,X As ns cs,X a4 s a5,X Ai ni ci,X Ac nc cc,X At nt ct,X Ab nb cb])/\Hid (OB w wr)) (fun i _=>nc-(intOf i).toNat)
 case atStart=>exact⟨0,rfl,by omega,aB c4.o.symm,a7,a8,e8⟩
 case round =>
  clear a7 a8;obtain⟨i,rfl,hi,e0,a7,a8,b4⟩:=hrel;by_cases d9:i<nc;rotate_left
  . have f6:decide ((i:Int)<(nc:Int))=false:=MA aA;have f1:Hid (e3=0):=aB (by
     have:=e0.o;rw[NB (by rw[d1.o];omega)]at this;exact this.symm)
    go_wp2_with fail;go_ret;rw[f1.o];exact⟨rfl,b4.o⟩
  have f6:decide ((i:Int)<(nc:Int))=true:=MB aA;obtain⟨bc,oc,rfl,g7,hm⟩:=(HT.o wr b4.o).mem aA;obtain⟨A1,n1,c1,A2,n2,c2,g8,g9,a9,b0⟩:=hm i d9;have a6:i<L.length:=by rw[d1.o];exact d9
  have F:=e0.o;rw[MT a6,show L[i]=L.getD i default from by rw[MK,MI a6];rfl]at F;obtain⟨cx,d5⟩:=OM (L.getD i default);rw[<-d5]at a9 b0 F;have b6:=a9.len;have b7:=b0.len;have h0:=a9.few;have h6:=b0.few;simp only[gL]at F;rw[f0.o,e9.o,b6,b7]at F;have z:=aB (b4.o.trans ((aQ wr (Z #[X A1 n1 c1,X A2 n2 c2] 52)).mono b4.o.size));have a2:=aB (a7.o.alloc (Z #[X A1 n1 c1,X A2 n2 c2] 52));have a3:=aB (a8.o.alloc (Z #[X A1 n1 c1,X A2 n2 c2] 52));have c3:=aB (aW.new wr 52 #[X A1 n1 c1,X A2 n2 c2]);have c5:=a9.below (aQ wr (Z #[X A1 n1 c1,X A2 n2 c2] 52));have d4:=aB (fun (w':OE) (h:OB wr w')=>b0.below h);have f8:=aW.cell a7.o;have f9:=aW.cell a8.o;have g0:=a7.o.lt;have g4:=a8.o.lt;clear hm d5 a9 b0;by_cases b3:16<n1
  . rw[LZ b3]at F;have U:=aB F;have f2:decide ((n1:Int)>16)=true:=MB aA;clear F b6 b7 b3;go_wp2_with fail;go_ret;rw[<-U.o];exact⟨rfl,z.o⟩
  rw[aN b3]at F;have f2:decide ((n1:Int)>16)=false:=MA aA;by_cases b8:n2=ni;case neg =>
   rw[LZ b8]at F;have U:=aB F;have f3:((n2:Int) != (ni:Int))=true:=by rw[bne_iff_ne];omega
   clear F b6 b7 b3 b8;go_wp2_with fail;go_ret;rw[<-U.o];exact⟨rfl,z.o⟩
  rw[aN (by simpa using b8)]at F;have f3:((n2:Int) != (ni:Int))=false:=by rw[bne_eq_false_iff_eq];omega
  have b2:=aB (c8.o _ A1 n1 c1 cx.args s 1 z.o c5 (.inr rfl) aA aA aA);obtain⟨e1,d6⟩:=OM (dH b D D 1 cx.args s);obtain⟨e2,d7⟩:=OM (dH b D D 0 cx.outs ((s:Int)+n1));rw[<-d6]at b2 F;have c7:=aB (fun (w':OE) (h:OB w w') (h1:dO w' A2 n2 c2 cx.outs)=>c8.o w' A2 n2 c2 cx.outs ((s:Int)+n1) 0 h h1 (.inl rfl) aA aA aA);rw[<-d7]at c7 F;clear d6 d7 b6 b7 b8 c5;by_cases h1:e1=0;case neg =>
   rw[LZ h1]at F;have U:=aB F;have f4:(e1 != 0)=true:=by simpa using h1
   clear F h1;go_wp2_with fail;refine (b2.o).mono ?_;rintro e w3 ⟨rfl,G⟩;have a0:=aB (z.o.trans (G.mono z.o.size));clear G;go_wp2_with fail;go_ret;rw[<-U.o];exact⟨rfl,a0.o⟩
  subst h1;rw[aN aD]at F;by_cases h2:e2=0;case neg =>
   rw[LZ h2]at F;have U:=aB F;have f4:(e2 != 0)=true:=by simpa using h2
   clear F h2;go_wp2_with fail;refine (b2.o).mono ?_;rintro e w3 ⟨rfl,G⟩;obtain⟨a0,c9⟩:=OF (z.o.trans (G.mono z.o.size)) (((aQ wr (Z #[X A1 n1 c1,X A2 n2 c2] 52)).trans (G.mono aD)));have e5:=aW.cell (aW.below a2.o G a2.o.lt);have e6:=aW.cell (aW.below a3.o G a3.o.lt);have e7:=aW.cell (aW.below c3.o G aD);clear G;go_wp2_with fail;refine (c7.o _ a0.o (d4.o _ c9.o)).mono ?_;rintro e w4 ⟨rfl,a1⟩;have c6:=bK a0 a1;clear a1;go_wp2_with fail;go_ret;rw[<-U.o];exact⟨rfl,c6.o⟩
  subst h2;rw[aN aD]at F;have U:=aB F;clear F;go_wp2_with fail;refine (b2.o).mono ?_;rintro e w3 ⟨rfl,G⟩;obtain⟨a0,c9,b9,c0⟩:=OI (z.o.trans (G.mono z.o.size)) (((aQ wr (Z #[X A1 n1 c1,X A2 n2 c2] 52)).trans (G.mono aD))) (aW.below a2.o G a2.o.lt) (aW.below a3.o G a3.o.lt);have e5:=aW.cell b9.o;have e6:=aW.cell c0.o;have e7:=aW.cell (aW.below c3.o G aD);clear G f8 f9;go_wp2_with fail;refine (c7.o _ a0.o (d4.o _ c9.o)).mono ?_;rintro e w4 ⟨rfl,a1⟩;have c6:=bK a0 a1;have d2:=IS b9 a1;have d3:=IS c0 a1;clear a1 e5 e6 e7;go_wp2_with fail;go_roundw
  case rel=>exact⟨i+1,by go_num,by omega,U,d2,d3,c6⟩
  case measure=>simp[intOf];omega
theorem xP(hb:bO w v b)(D F:Int)(hk:D<=b.entries.length)(hx:tT w ev x)(h:aW w g1 64 #[O S b.vars,X v.Ao v.no v.co,X v.Ae v.ne v.ce,O S b.nat,X v.Ap v.np v.cp,O S D,O S F])(s:aW w g2 49 #[O S x.kind,X ev.As ev.ns ev.cs,X ev.Ap ev.np ev.cp,X ev.Ai ev.ni ev.ci,X ev.Ac ev.nc ev.cc,X ev.At ev.nt ev.ct,X ev.Ab ev.nb ev.cb])(z:aW w g3 3 #[O S (x.params.length:Int)]):
 Calls Try.prog 31 #[Y (J ⟨g1,0,I⟩),Y (J ⟨g2,0,I⟩)] w (iT (gT b D F x.sort 0) w):=by
 have HC:=aB (tI hb D F hk hx.sort 0);obtain⟨Ao,no,co,Ae,ne,ce,Ap,np,cp⟩:=v;obtain⟨As,ns,cs,a0,a2,a1,Ai,ni,ci,Ac,nc,cc,At,nt,ct,Ab,nb,cb⟩:=ev;simp only at HC h s z;have z1:=aW.cell h;have z2:=aW.cell s;have z3:=aW.cell z;clear hb hk hx h s z;go_in;go_wp2_with fail;refine (HC.o).mono ?_;rintro e w2 ⟨rfl,G⟩;have U:=aB G;clear G z1 z2 z3;go_wp2_with fail;go_ret;exact⟨rfl,U.o⟩
theorem xQ(hb:bO w v b)(D G:Int)(hk:D<=b.entries.length)(hx:tT w ev x)(h:aW w g1 64 #[O S b.vars,X v.Ao v.no v.co,X v.Ae v.ne v.ce,O S b.nat,X v.Ap v.np v.cp,O S D,O S G])(s:aW w g2 49 #[O S x.kind,X ev.As ev.ns ev.cs,X ev.Ap ev.np ev.cp,X ev.Ai ev.ni ev.ci,X ev.Ac ev.nc ev.cc,X ev.At ev.nt ev.ct,X ev.Ab ev.nb ev.cb])(z:aW w g3 3 #[O S (x.params.length:Int)])(h0:0<x.sort.length):
 Calls Try.prog 32 #[Y (J ⟨g2,0,I⟩)] w (iT (lP x.sort) w):=by
 have HC:=aB (x9 hx.sort (by rw[<-hx.sort.len];exact h0));clear h0;obtain⟨Ao,no,co,Ae,ne,ce,Ap,np,cp⟩:=v;obtain⟨As,ns,cs,a0,a2,a1,Ai,ni,ci,Ac,nc,cc,At,nt,ct,Ab,nb,cb⟩:=ev;simp only at HC h s z;have z1:=aW.cell h;have z2:=aW.cell s;have z3:=aW.cell z;clear hb hk hx h s z;go_in;go_wp2_with fail;refine (HC.o).mono ?_;rintro e w2 ⟨rfl,F⟩;have U:=aB F;clear F z1 z2 z3;go_wp2_with fail;go_ret;exact⟨rfl,U.o⟩
theorem xR(hb:bO w v b)(D F:Int)(hk:D<=b.entries.length)(hx:tT w ev x)(h:aW w g1 64 #[O S b.vars,X v.Ao v.no v.co,X v.Ae v.ne v.ce,O S b.nat,X v.Ap v.np v.cp,O S D,O S F])(s:aW w g2 49 #[O S x.kind,X ev.As ev.ns ev.cs,X ev.Ap ev.np ev.cp,X ev.Ai ev.ni ev.ci,X ev.Ac ev.nc ev.cc,X ev.At ev.nt ev.ct,X ev.Ab ev.nb ev.cb])(z:aW w g3 3 #[O S (x.params.length:Int)])(hp:x.params.length<=16):
 Calls Try.prog 34 #[Y (J ⟨g1,0,I⟩),Y (J ⟨g2,0,I⟩)] w (iT (dH b D F 1 x.params 0) w):=by
 have HC:=aB (lN hb D F hk hx.params 0 1 (.inr rfl) aA aA (by rw[<-hx.params.len];omega));clear hp;obtain⟨Ao,no,co,Ae,ne,ce,Ap,np,cp⟩:=v;obtain⟨As,ns,cs,a0,a2,a1,Ai,ni,ci,Ac,nc,cc,At,nt,ct,Ab,nb,cb⟩:=ev;simp only at HC h s z;have z1:=aW.cell h;have z2:=aW.cell s;have z3:=aW.cell z;clear hb hk hx h s z;go_in;go_wp2_with fail;refine (HC.o).mono ?_;rintro e w2 ⟨rfl,G⟩;have U:=aB G;clear G z1 z2 z3;go_wp2_with fail;go_ret;exact⟨rfl,U.o⟩
theorem xS(hb:bO w v b)(D F:Int)(hk:D<=b.entries.length)(hx:tT w ev x)(h:aW w g1 64 #[O S b.vars,X v.Ao v.no v.co,X v.Ae v.ne v.ce,O S b.nat,X v.Ap v.np v.cp,O S D,O S F])(s:aW w g2 49 #[O S x.kind,X ev.As ev.ns ev.cs,X ev.Ap ev.np ev.cp,X ev.Ai ev.ni ev.ci,X ev.Ac ev.nc ev.cc,X ev.At ev.nt ev.ct,X ev.Ab ev.nb ev.cb])(z:aW w g3 3 #[O S (x.params.length:Int)])(hp:x.params.length<=16)(hi:x.indices.length<=16):
 Calls Try.prog 36 #[Y (J ⟨g1,0,I⟩),Y (J ⟨g2,0,I⟩),Y (J ⟨g3,0,I⟩)] w (iT (dH b D F 1 x.indices x.params.length) w):=by
 have HC:=aB (lN hb D F hk hx.indices (x.params.length:Int) 1 (.inr rfl) aA aA (by rw[<-hx.indices.len];omega));generalize (x.params.length:Int)=pl at *;clear hp hi;obtain⟨Ao,no,co,Ae,ne,ce,Ap,np,cp⟩:=v;obtain⟨As,ns,cs,a0,a2,a1,Ai,ni,ci,Ac,nc,cc,At,nt,ct,Ab,nb,cb⟩:=ev;simp only at HC h s z;have z1:=aW.cell h;have z2:=aW.cell s;have z3:=aW.cell z;clear hb hk hx h s z;go_in;go_wp2_with fail;refine (HC.o).mono ?_;rintro e w2 ⟨rfl,G⟩;have U:=aB G;clear G z1 z2 z3;go_wp2_with fail;go_ret;exact⟨rfl,U.o⟩
theorem xT(hb:bO w v b)(D F:Int)(hk:D<=b.entries.length)(hx:tT w ev x)(h:aW w g1 64 #[O S b.vars,X v.Ao v.no v.co,X v.Ae v.ne v.ce,O S b.nat,X v.Ap v.np v.cp,O S D,O S F])(s:aW w g2 49 #[O S x.kind,X ev.As ev.ns ev.cs,X ev.Ap ev.np ev.cp,X ev.Ai ev.ni ev.ci,X ev.Ac ev.nc ev.cc,X ev.At ev.nt ev.ct,X ev.Ab ev.nb ev.cb])(z:aW w g3 3 #[O S (x.params.length:Int)])(hp:x.params.length<=16)(hi:x.indices.length<=16):
 Calls Try.prog 37 #[Y (J ⟨g1,0,I⟩),Y (J ⟨g2,0,I⟩)] w (iT (gL b D x x.ctors) w):=by
 have HC:=aB (BR hb D F hk hx hp hi);clear hp hi;obtain⟨Ao,no,co,Ae,ne,ce,Ap,np,cp⟩:=v;obtain⟨As,ns,cs,a0,a2,a1,Ai,ni,ci,Ac,nc,cc,At,nt,ct,Ab,nb,cb⟩:=ev;simp only at HC h s z;have z1:=aW.cell h;have z2:=aW.cell s;have z3:=aW.cell z;clear hb hk hx h s z;go_in;go_wp2_with fail;refine (HC.o).mono ?_;rintro e w2 ⟨rfl,G⟩;have U:=aB G;clear G z1 z2 z3;go_wp2_with fail;go_ret;exact⟨rfl,U.o⟩
theorem FE{W:OE}{g:Nat}(hg:W.heap.size=g){D F:OC}{n1 G n2 U:Nat}{o s:List Nd}(z:aX W D n1 G o)(h2:aX W F n2 U s):dO (W.alloc (Z #[X D n1 G,X F n2 U] 29)) (J ⟨g,0,I⟩) 2 2 [o,s]:=by
 subst hg;have h:=aQ W (Z #[X D n1 G,X F n2 U] 29);refine⟨rfl,by omega,fun _=>⟨_,_,rfl,by simp,fun k hk=>?_⟩⟩;rcases k with _|_|k
 . exact⟨D,n1,G,by rw[World.cell?_alloc_new];rfl,z.below h⟩
 . exact⟨F,n2,U,by rw[World.cell?_alloc_new];rfl,h2.below h⟩
 omega
theorem BX(hb:bO w v b)(D:Int)(hk:D<=b.entries.length)(G:tT w ev x)(h2:x.kind≠1):
 Calls Try.prog 21 #[.agg #[O S b.vars,X v.Ao v.no v.co,X v.Ae v.ne v.ce,O S b.nat,X v.Ap v.np v.cp,O S D,O S (-1)],.agg #[O S x.kind,X ev.As ev.ns ev.cs,X ev.Ap ev.np ev.cp,X ev.Ai ev.ni ev.ci,X ev.Ac ev.nc ev.cc,X ev.At ev.nt ev.ct,X ev.Ab ev.nb ev.cb]] w (iT (dK b D x) w):=by
 have q1:(x.kind==1)=false:=by simpa using h2
 by_cases z:x.kind=2;case neg =>
  have q2:(x.kind==2)=false:=by simpa using z
  have h:Hid (dK b D x=8):=aB (by unfold dK;rw[aN h2,aN z]);have F:=aB ((aQ w (Z #[O S b.vars,X v.Ao v.no v.co,X v.Ae v.ne v.ce,O S b.nat,X v.Ap v.np v.cp,O S D,O S (-1)] 64)).alloc aD (Z #[O S x.kind,X ev.As ev.ns ev.cs,X ev.Ap ev.np ev.cp,X ev.Ai ev.ni ev.ci,X ev.Ac ev.nc ev.cc,X ev.At ev.nt ev.ct,X ev.Ab ev.nb ev.cb] 49));generalize dK b D x=res at *;generalize x.kind=kd at *;generalize b.vars=bv at *;generalize b.nat=bn at *;obtain⟨Ao,no,co,Ae,ne,ce,Ap,np,cp⟩:=v;obtain⟨As,ns,cs,a5,U,a7,Ai,ni,ci,Ac,nc,cc,At,nt,ct,Ab,nb,cb⟩:=ev;simp only at F ⊢;clear hb hk G h2 z;go_in;go_wp2_with fail;go_ret;rw[h.o];exact⟨rfl,F.o⟩
 have q2:(x.kind==2)=true:=by simp[z]
 have a4:=G.sort.len;have a3:=G.params.len;have a2:=G.indices.len;have a1:=G.ctors.len;have f1:=G.sort.few;have f2:=G.params.few;have f3:=G.indices.few;have f4:=G.ctors.few;have h:Hid (dK b D x=if 0<ev.ns+ev.np+ev.ni+ev.nc then 8 else dH b D (-1) 0 [x.type,x.body] 0):=aB (by unfold dK;rw[aN h2,LZ z,a4,a3,a2,a1]);have F:=aB ((aQ w (Z #[O S b.vars,X v.Ao v.no v.co,X v.Ae v.ne v.ce,O S b.nat,X v.Ap v.np v.cp,O S D,O S (-1)] 64)).alloc aD (Z #[O S x.kind,X ev.As ev.ns ev.cs,X ev.Ap ev.np ev.cp,X ev.Ai ev.ni ev.ci,X ev.Ac ev.nc ev.cc,X ev.At ev.nt ev.ct,X ev.Ab ev.nb ev.cb] 49));have s:=aB (F.o.alloc F.o.size (Z #[X ev.At ev.nt ev.ct,X ev.Ab ev.nb ev.cb] 29));have HC:=aB (lN (hb.below s.o) D (-1) hk (FE (g:=w.heap.size+1+1) aD (G.type.below F.o) (G.body.below F.o)) 0 0 (.inl rfl) aA aA aA);generalize dK b D x=res at *;generalize dH b D (-1) 0 [x.type,x.body] 0=rv at *;generalize x.kind=kd at *;generalize b.vars=bv at *;generalize b.nat=bn at *;obtain⟨Ao,no,co,Ae,ne,ce,Ap,np,cp⟩:=v;obtain⟨As,ns,cs,a5,U,a7,Ai,ni,ci,Ac,nc,cc,At,nt,ct,Ab,nb,cb⟩:=ev;simp only at F s HC h f1 f2 f3 f4 ⊢;clear hb hk G h2 z a4 a3 a2 a1;by_cases hz:0<ns+U+ni+nc
 . rw[LZ hz]at h;have a8:decide ((ns:Int)+(U:Int)+(ni:Int)+(nc:Int)>0)=true:=MB aA;clear hz;go_in;go_wp2_with fail;go_ret;rw[h.o];exact⟨rfl,F.o⟩
 rw[aN hz]at h;have a8:decide ((ns:Int)+(U:Int)+(ni:Int)+(nc:Int)>0)=false:=MA aA;clear hz;go_in;go_wp2_with fail;refine (HC.o).mono ?_;rintro e w2 ⟨rfl,a0⟩;have a6:=bK s a0;clear a0;go_wp2_with fail;go_ret;rw[h.o];exact⟨rfl,a6.o⟩
theorem IJ{D F below:Int}{l:List Nd}(h:gT b D F l below=0):0<l.length:=by
 have o:aZ l=0:=by
  unfold gT at h;split at h
  . exact h
  rename_i G
  exact Decidable.not_not.1 G
 obtain⟨n,a,k,U⟩:=AJ o;rw[U.eq];simp
def GU(i:Nat):FuncId:=match i with
 | 0=>31
 | 1=>32
 | 2=>34
 | 3=>36
 | _=>37
def IU(g:Nat)(i:Nat):Array Value:=match i with
 | 0=>#[Y (J ⟨g,0,I⟩),Y (J ⟨g+1,0,I⟩)]
 | 1=>#[Y (J ⟨g+1,0,I⟩)]
 | 2=>#[Y (J ⟨g,0,I⟩),Y (J ⟨g+1,0,I⟩)]
 | 3=>#[Y (J ⟨g,0,I⟩),Y (J ⟨g+1,0,I⟩),Y (J ⟨g+1+1,0,I⟩)]
 | _=>#[Y (J ⟨g,0,I⟩),Y (J ⟨g+1,0,I⟩)]
theorem sR{W:OE}(o:bO w v b)(D:Int)(s:D<=b.entries.length)(z:tT w ev x)(hp:x.params.length<=16)(hi:x.indices.length<=16)(hW:OB w W)(k1:aW W w.heap.size 64 #[O S b.vars,X v.Ao v.no v.co,X v.Ae v.ne v.ce,O S b.nat,X v.Ap v.np v.cp,O S D,O S (-1)])(k2:aW W (w.heap.size+1) 49 #[O S x.kind,X ev.As ev.ns ev.cs,X ev.Ap ev.np ev.cp,X ev.Ai ev.ni ev.ci,X ev.Ac ev.nc ev.cc,X ev.At ev.nt ev.ct,X ev.Ab ev.nb ev.cb])(k3:aW W (w.heap.size+1+1) 3 #[O S (x.params.length:Int)]):
 ∀i,i<5->(∀j,j<i->[gT b D (-1) x.sort 0,lP x.sort,dH b D (-1) 1 x.params 0,dH b D (-1) 1 x.indices x.params.length,gL b D x x.ctors].getD j 0=0)->∀w',OB W w'->Calls Try.prog (GU i) (IU w.heap.size i) w' (iT ([gT b D (-1) x.sort 0,lP x.sort,dH b D (-1) 1 x.params 0,dH b D (-1) 1 x.indices x.params.length,gL b D x x.ctors].getD i 0) w'):=by
 intro i a0 hz w' hw;have F:=hW.trans (hw.mono hW.size);have G:=k1.below hw k1.lt;have U:=k2.below hw k2.lt;have h:=k3.below hw k3.lt
 match i,a0 with
 | 0,_=>exact xP (o.below F) D (-1) s (z.below F) G U h
 | 1,_=>exact xQ (o.below F) D (-1) s (z.below F) G U h (IJ (by simpa using hz 0 aA))
 | 2,_=>exact xR (o.below F) D (-1) s (z.below F) G U h hp
 | 3,_=>exact xS (o.below F) D (-1) s (z.below F) G U h hp hi
 | 4,_=>exact xT (o.below F) D (-1) s (z.below F) G U h hp hi
theorem JN(i:Nat)(D:i<5):∀args w,(callFunc (GU i) args).run Try.prog w=.ok (.enter (GU i) args) w:=by
 match i,D with
 | 0,_=>exact fun _ _=>by kernel_rfl
 | 1,_=>exact fun _ _=>by kernel_rfl
 | 2,_=>exact fun _ _=>by kernel_rfl
 | 3,_=>exact fun _ _=>by kernel_rfl
 | 4,_=>exact fun _ _=>by kernel_rfl
theorem BY(hb:bO w v b)(D:Int)(hk:D<=b.entries.length)(z:tT w ev x)(h1:x.kind=1):
 Calls Try.prog 21 #[.agg #[O S b.vars,X v.Ao v.no v.co,X v.Ae v.ne v.ce,O S b.nat,X v.Ap v.np v.cp,O S D,O S (-1)],.agg #[O S x.kind,X ev.As ev.ns ev.cs,X ev.Ap ev.np ev.cp,X ev.Ai ev.ni ev.ci,X ev.Ac ev.nc ev.cc,X ev.At ev.nt ev.ct,X ev.Ab ev.nb ev.cb]] w (iT (dK b D x) w):=by
 have b3:∀(fn:Fn)(first cap:Array Value)(w:OE),(Instr.makeFunc fn first cap).run Try.prog w=.ok (.func fn first cap) w:=fun _ _ _ _=>rfl;have b6:=z.type.len;have a9:=z.body.len;have a7:=z.params.len;have a6:=z.indices.len;have b0:=z.ctors.len;have f1:=z.type.few;have f2:=z.body.few;have f3:=z.params.few;have f4:=z.indices.few;have f5:=z.ctors.few;have HR:Hid (dK b D x=if 0<ev.nt+ev.nb then 8 else if 16<ev.np\/16<ev.ni\/16<ev.nc then 5 else hX [gT b D (-1) x.sort 0,lP x.sort,dH b D (-1) 1 x.params 0,dH b D (-1) 1 x.indices x.params.length,gL b D x x.ctors]):=aB (by unfold dK;rw[LZ h1,b6,a9,a7,a6,b0]);have a0:=aB (fun (W:OE) (h1:x.params.length<=16) (h2:x.indices.length<=16)=>sR (W:=W) hb D hk z h1 h2);have s:=aB ((aQ w (Z #[O S b.vars,X v.Ao v.no v.co,X v.Ae v.ne v.ce,O S b.nat,X v.Ap v.np v.cp,O S D,O S (-1)] 64)).alloc aD (Z #[O S x.kind,X ev.As ev.ns ev.cs,X ev.Ap ev.np ev.cp,X ev.Ai ev.ni ev.ci,X ev.Ac ev.nc ev.cc,X ev.At ev.nt ev.ct,X ev.Ab ev.nb ev.cb] 49));rw[h1]at s a0 ⊢;have a3:=aB a7;have a4:=aB a6;generalize dK b D x=res at *;obtain⟨es,a5⟩:∃es,es=[gT b D (-1) x.sort 0,lP x.sort,dH b D (-1) 1 x.params 0,dH b D (-1) 1 x.indices x.params.length,gL b D x x.ctors]:=⟨_,rfl⟩;rw[<-a5]at HR a0;have b1:es.length=5:=by rw[a5];rfl
 have b9:=aB b1;clear a5 b1;generalize b.vars=bv at *;generalize b.nat=bn at *;obtain⟨Ao,no,co,Ae,ne,ce,Ap,np,cp⟩:=v;obtain⟨As,ns,cs,G,F,U,Ai,ni,ci,Ac,nc,cc,At,nt,ct,Ab,nb,cb⟩:=ev;simp only at s a0 HR a3 a4 f1 f2 f3 f4 f5 ⊢;clear hb hk z h1 b6 a9 a7 a6 b0;by_cases hz:0<nt+nb
 . rw[LZ hz]at HR;have c1:decide ((nt:Int)+(nb:Int)>0)=true:=MB aA;clear hz b3;go_in;go_wp2_with fail;go_ret;rw[HR.o];exact⟨rfl,s.o⟩
 rw[aN hz]at HR;have c1:decide ((nt:Int)+(nb:Int)>0)=false:=MA aA;clear hz;by_cases hf:16<F\/16<ni\/16<nc
 . rw[LZ hf]at HR;have c0:(16<F)\/(¬ 16<F/\16<ni)\/(¬ 16<F/\¬ 16<ni/\16<nc):=aA;clear hf b3;rcases c0 with h|⟨g1,h⟩|⟨g1,g2,h⟩
   case' inl=>have d1:decide ((F:Int)>16)=true:=MB aA
   case' inr.inl =>
    have d1:decide ((F:Int)>16)=false:=MA aA;have d2:decide ((ni:Int)>16)=true:=MB aA
   case' inr.inr =>
    have d1:decide ((F:Int)>16)=false:=MA aA;have d2:decide ((ni:Int)>16)=false:=MA aA;have d3:decide ((nc:Int)>16)=true:=MB aA
   all_goals
    go_in;go_wp2_with fail;go_ret;rw[HR.o];exact⟨rfl,s.o⟩
 rw[aN hf]at HR;have d1:decide ((F:Int)>16)=false:=MA aA;have d2:decide ((ni:Int)>16)=false:=MA aA;have d3:decide ((nc:Int)>16)=false:=MA aA;have b4:F<=16:=aA;have b2:ni<=16:=aA;clear hf;have a1:OB w (((w.alloc (Z #[O S bv,X Ao no co,X Ae ne ce,O S bn,X Ap np cp,O S D,O S (-1)] 64)).alloc (Z #[O S 1,X As ns cs,X G F U,X Ai ni ci,X Ac nc cc,X At nt ct,X Ab nb cb] 49)).alloc (Z #[O S (F:Int)] 3)):=s.o.alloc s.o.size _;have k1:aW (((w.alloc (Z #[O S bv,X Ao no co,X Ae ne ce,O S bn,X Ap np cp,O S D,O S (-1)] 64)).alloc (Z #[O S 1,X As ns cs,X G F U,X Ai ni ci,X Ac nc cc,X At nt ct,X Ab nb cb] 49)).alloc (Z #[O S (F:Int)] 3)) w.heap.size 64 #[O S bv,X Ao no co,X Ae ne ce,O S bn,X Ap np cp,O S D,O S (-1)]:=((aW.new w 64 #[O S bv,X Ao no co,X Ae ne ce,O S bn,X Ap np cp,O S D,O S (-1)]).alloc _).alloc _;have k2:aW (((w.alloc (Z #[O S bv,X Ao no co,X Ae ne ce,O S bn,X Ap np cp,O S D,O S (-1)] 64)).alloc (Z #[O S 1,X As ns cs,X G F U,X Ai ni ci,X Ac nc cc,X At nt ct,X Ab nb cb] 49)).alloc (Z #[O S (F:Int)] 3)) (w.heap.size+1) 49 #[O S 1,X As ns cs,X G F U,X Ai ni ci,X Ac nc cc,X At nt ct,X Ab nb cb]:=by
  have h:=aW.new (w.alloc (Z #[O S bv,X Ao no co,X Ae ne ce,O S bn,X Ap np cp,O S D,O S (-1)] 64)) 49 #[O S 1,X As ns cs,X G F U,X Ai ni ci,X Ac nc cc,X At nt ct,X Ab nb cb];rw[show (w.alloc (Z #[O S bv,X Ao no co,X Ae ne ce,O S bn,X Ap np cp,O S D,O S (-1)] 64)).heap.size=w.heap.size+1 from by simp]at h;exact h.alloc _
 have k3:aW (((w.alloc (Z #[O S bv,X Ao no co,X Ae ne ce,O S bn,X Ap np cp,O S D,O S (-1)] 64)).alloc (Z #[O S 1,X As ns cs,X G F U,X Ai ni ci,X Ac nc cc,X At nt ct,X Ab nb cb] 49)).alloc (Z #[O S (F:Int)] 3)) (w.heap.size+1+1) 3 #[O S (F:Int)]:=by
  have h:=aW.new ((w.alloc (Z #[O S bv,X Ao no co,X Ae ne ce,O S bn,X Ap np cp,O S D,O S (-1)] 64)).alloc (Z #[O S 1,X As ns cs,X G F U,X Ai ni ci,X Ac nc cc,X At nt ct,X Ab nb cb] 49)) 3 #[O S (F:Int)];rw[show ((w.alloc (Z #[O S bv,X Ao no co,X Ae ne ce,O S bn,X Ap np cp,O S D,O S (-1)] 64)).alloc (Z #[O S 1,X As ns cs,X G F U,X Ai ni ci,X Ac nc cc,X At nt ct,X Ab nb cb] 49)).heap.size=w.heap.size+1+1 from by simp]at h;exact h
 have b5:(((w.alloc (Z #[O S bv,X Ao no co,X Ae ne ce,O S bn,X Ap np cp,O S D,O S (-1)] 64)).alloc (Z #[O S 1,X As ns cs,X G F U,X Ai ni ci,X Ac nc cc,X At nt ct,X Ab nb cb] 49)).alloc (Z #[O S (F:Int)] 3)).heap.size=w.heap.size+1+1+1:=by simp
 have a2:=aB (CB (w:=((((w.alloc (Z #[O S bv,X Ao no co,X Ae ne ce,O S bn,X Ap np cp,O S D,O S (-1)] 64)).alloc (Z #[O S 1,X As ns cs,X G F U,X Ai ni ci,X Ac nc cc,X At nt ct,X Ab nb cb] 49)).alloc (Z #[O S (F:Int)] 3)).alloc (Z #[(.func (.func 31) #[] #[Y (J ⟨w.heap.size,0,I⟩),Y (J ⟨w.heap.size+1,0,I⟩)]),(.func (.func 32) #[] #[Y (J ⟨w.heap.size+1,0,I⟩)]),(.func (.func 34) #[] #[Y (J ⟨w.heap.size,0,I⟩),Y (J ⟨w.heap.size+1,0,I⟩)]),(.func (.func 36) #[] #[Y (J ⟨w.heap.size,0,I⟩),Y (J ⟨w.heap.size+1,0,I⟩),Y (J ⟨w.heap.size+1+1,0,I⟩)]),(.func (.func 37) #[] #[Y (J ⟨w.heap.size,0,I⟩),Y (J ⟨w.heap.size+1,0,I⟩)])] 79))) (b:=w.heap.size+1+1+1) (off:=0) (n:=5) (c:=5) (fid:=GU) (caps:=IU w.heap.size) (es:=es) aD b9.o aA (fun i hi=>by
  rw[ML,<-b5,World.cell?_alloc_new]
  match i,hi with
  | 0,_=>rfl
  | 1,_=>rfl
  | 2,_=>rfl
  | 3,_=>rfl
  | 4,_=>rfl) JN (a0.o ((((w.alloc (Z #[O S bv,X Ao no co,X Ae ne ce,O S bn,X Ap np cp,O S D,O S (-1)] 64)).alloc (Z #[O S 1,X As ns cs,X G F U,X Ai ni ci,X Ac nc cc,X At nt ct,X Ab nb cb] 49)).alloc (Z #[O S (F:Int)] 3)).alloc (Z #[(.func (.func 31) #[] #[Y (J ⟨w.heap.size,0,I⟩),Y (J ⟨w.heap.size+1,0,I⟩)]),(.func (.func 32) #[] #[Y (J ⟨w.heap.size+1,0,I⟩)]),(.func (.func 34) #[] #[Y (J ⟨w.heap.size,0,I⟩),Y (J ⟨w.heap.size+1,0,I⟩)]),(.func (.func 36) #[] #[Y (J ⟨w.heap.size,0,I⟩),Y (J ⟨w.heap.size+1,0,I⟩),Y (J ⟨w.heap.size+1+1,0,I⟩)]),(.func (.func 37) #[] #[Y (J ⟨w.heap.size,0,I⟩),Y (J ⟨w.heap.size+1,0,I⟩)])] 79)) (by rw[a3.o];exact b4) (by rw[a4.o];exact b2) (a1.alloc a1.size _) (k1.alloc _) (k2.alloc _) (by rw[a3.o];exact k3.alloc _)))
 have b8:=aB (a1.alloc a1.size (Z #[(.func (.func 31) #[] #[Y (J ⟨w.heap.size,0,I⟩),Y (J ⟨w.heap.size+1,0,I⟩)]),(.func (.func 32) #[] #[Y (J ⟨w.heap.size+1,0,I⟩)]),(.func (.func 34) #[] #[Y (J ⟨w.heap.size,0,I⟩),Y (J ⟨w.heap.size+1,0,I⟩)]),(.func (.func 36) #[] #[Y (J ⟨w.heap.size,0,I⟩),Y (J ⟨w.heap.size+1,0,I⟩),Y (J ⟨w.heap.size+1+1,0,I⟩)]),(.func (.func 37) #[] #[Y (J ⟨w.heap.size,0,I⟩),Y (J ⟨w.heap.size+1,0,I⟩)])] 79));generalize hX es=fe at *;clear a0 k1 k2 k3 a1 b5 a3 a4;go_in;go_wp2_with fail;refine (a2.o).mono ?_;rintro e w2 ⟨rfl,a8⟩;have b7:=bK b8 a8;clear a8;go_wp2_with fail;go_ret;rw[HR.o];exact⟨rfl,b7.o⟩
theorem wY(G:bO w v b)(D:Int)(U:D<=b.entries.length)(h:tT w ev x):
 Calls Try.prog 21 #[.agg #[O S b.vars,X v.Ao v.no v.co,X v.Ae v.ne v.ce,O S b.nat,X v.Ap v.np v.cp,O S D,O S (-1)],.agg #[O S x.kind,X ev.As ev.ns ev.cs,X ev.Ap ev.np ev.cp,X ev.Ai ev.ni ev.ci,X ev.Ac ev.nc ev.cc,X ev.At ev.nt ev.ct,X ev.Ab ev.nb ev.cb]] w (iT (dK b D x) w):=by
 by_cases F:x.kind=1
 . exact BY G D U h F
 exact BX G D U h F
end Go.Proofs.Ytlahmbhimhmoaaa
