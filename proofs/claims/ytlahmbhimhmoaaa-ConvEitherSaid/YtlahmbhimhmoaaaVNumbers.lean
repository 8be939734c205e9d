/- The book of numbers. -/
import Derived.Test.YtlahmbhimhmoaaaVEntries
namespace Go.Proofs.Ytlahmbhimhmoaaa
set_option linter.unusedVariables false
set_option linter.unusedSimpArgs false
open Go.RowKit
open Go.Value renaming int → O, slice → X
open Go.IntKind renaming i64 → S
open Option renaming none → Y, some → Z
open Go.Lib renaming hid->aB
theorem bH{B:Nat}{w w':OE}(h:Below B w w'):Below B w w'.drew:=aU h 1
theorem bC{w w':OE}(h:OB w w')(o:Obj):OB w (w'.alloc o):=h.alloc h.size o
theorem k9(x y:Nd)(w:OE):(Go.binOp .eql 42 (.agg #[O S x.op,O S x.a,O S x.b]) (.agg #[O S y.op,O S y.a,O S y.b])).run Try.prog w=.ok (.bool (decide (x=y))) w:=by
 obtain⟨p,q,r⟩:=x;obtain⟨I,U,h⟩:=y;simp[go_sem];by_cases D:p=I<;>by_cases F:q=U<;>by_cases G:r=h<;>simp[D,F,G]
theorem jM(x y:Nd)(w:OE):(Go.binOp .neq 42 (.agg #[O S x.op,O S x.a,O S x.b]) (.agg #[O S y.op,O S y.a,O S y.b])).run Try.prog w=.ok (.bool (!decide (x=y))) w:=by
 obtain⟨p,q,r⟩:=x;obtain⟨I,U,h⟩:=y;simp[go_sem];by_cases D:p=I<;>by_cases F:q=U<;>by_cases G:r=h<;>simp[D,F,G]
set_option maxRecDepth 100000 in
set_option maxHeartbeats 4000000 in
theorem vI{w:OE}{v:bA}{b:Bk}(hb:bO w v b)(e:Int):
 Calls Try.prog 39 #[.agg #[O S b.vars,X v.Ao v.no v.co,X v.Ae v.ne v.ce,O S b.nat,X v.Ap v.np v.cp],O S e] w (e8 (CM b e) w):=by
 have b7:=hb.entries.len;have e7:=hb.entries.few;have a8:=aB (fun (k:Nat) (h:k<v.ne)=>hb.entries.at_ (k:=k) h);have D:Hid (CM b e=if e<0 then false
 else if (b.entries.length:Int)<=e then false
 else if (bP b e).kind≠1 then false
 else if (bP b e).sort.length≠2 then false
 else if (bB (bP b e).sort 0).a≠1 then false
 else if bB (bP b e).sort 1≠⟨3,0,0⟩ then false
 else if 0<(bP b e).params.length+(bP b e).indices.length then false
 else if (bP b e).ctors.length≠2 then false
 else if ((bP b e).ctors.getD 0 default).args.length≠0 then false
 else if ((bP b e).ctors.getD 1 default).args.length≠1 then false
 else if (((bP b e).ctors.getD 1 default).args.getD 0 []).length≠1 then false
 else decide (bB (((bP b e).ctors.getD 1 default).args.getD 0 []) 0=⟨9,e,0⟩)):=aB rfl
 have a5:=aB (aQ w (.cells #[O S b.vars,X v.Ao v.no v.co,X v.Ae v.ne v.ce,O S b.nat,X v.Ap v.np v.cp] 26));generalize CM b e=res at *;rw[b7]at D;obtain⟨Ao,no,co,Ae,ne,ce,Ap,np,cp⟩:=v;simp only at a8 a5 D e7 ⊢;clear hb b7;generalize b.vars=bv at *;generalize b.nat=bn at *;by_cases h1:e<0
 . have U:Hid (res=false):=aB (by rw[D.o,LZ h1]);have d1:decide (e<0)=true:=MB h1;clear h1 D a8;go_in;go_wp2_with fail;go_ret;rw[U.o];exact⟨rfl,a5.o⟩
 have d1:decide (e<0)=false:=MA h1;rw[aN h1]at D;obtain⟨k,rfl⟩:∃k:Nat,e=(k:Int):=⟨e.toNat,by omega⟩;by_cases h2:(ne:Int)<=(k:Int)
 . have U:Hid (res=false):=aB (by rw[D.o,LZ h2]);have d2:decide ((k:Int) ≥ (ne:Int))=true:=MB h2;have g2:decide (ne<=k)=true:=MB aA;clear h1 h2 D a8;go_in;go_wp2_with fail;go_ret;rw[U.o];exact⟨rfl,a5.o⟩
 have d2:decide ((k:Int) ≥ (ne:Int))=false:=MA h2;have g2:decide (ne<=k)=false:=MA aA;rw[aN h2]at D;obtain⟨be,oe,rfl,j1,ev,e6,g4,g5,g6,g7,g8,g9,z⟩:=a8.o k aA;rw[show b.entries.getD k default=bP b k from by unfold bP;rw[NA]]at e6 z;have j3:k<ne:=aA;generalize bP b k=x at *;clear h1 h2 a8;by_cases h3:x.kind=1;case neg =>
  have U:Hid (res=false):=aB (by rw[D.o,LZ h3]);have d3:(x.kind != 1)=true:=by simpa using h3
  clear h3 D z;generalize x.kind=kd at *;go_in;go_wp2_with fail;go_ret;rw[U.o];exact⟨rfl,a5.o⟩
 rw[h3]at e6;rw[aN (by simp[h3])]at D;clear h3;obtain⟨As,ns,cs,b8,a7,b9,Ai,ni,ci,Ac,nc,cc,At,nt,ct,Ab,nb,cb⟩:=ev;have hs:=z.sort;have a4:=z.sort.len;have a3:=z.params.len;have a2:=z.indices.len;have a0:=z.ctors.len;have i2:=z.params.few;have i0:=z.indices.few;have a1:=z.ctors;simp only at g4 g5 g6 g7 g8 g9 hs a4 a3 a2 a0 i2 i0 a1;clear z;rw[a4,a3,a2,a0]at D;have a6:=aB (a5.o.alloc a5.o.size (.cells #[O S 1,X As ns cs,X b8 a7 b9,X Ai ni ci,X Ac nc cc,X At nt ct,X Ab nb cb] 49));by_cases h4:ns=2;case neg =>
  have U:Hid (res=false):=aB (by rw[D.o,LZ h4]);have d4:((ns:Int) != 2)=true:=by rw[bne_iff_ne];omega
  clear h4 D hs a1 a4 a3 a2 a0;go_in;go_wp2_with fail;go_ret;rw[U.o];exact⟨rfl,a6.o⟩
 subst h4;rw[aN (by simp)]at D;obtain⟨bs,os,rfl,j2,_,f7,_⟩:=hs.at_ (p:=0) aA;obtain⟨e5,f8,f9,g0⟩:=hs.cells (p:=1) aA;rw[NE,MQ]at f7;rw[Nat.one_mul]at f8 f9 g0;clear hs e5;by_cases h5:(bB x.sort 0).a=1;case neg =>
  have U:Hid (res=false):=aB (by rw[D.o,LZ h5]);have d5:((bB x.sort 0).a != 1)=true:=by simpa using h5
  clear h5 D a1 a4 a3 a2 a0;generalize (bB x.sort 0).a=sa at *;generalize bB x.sort 1=sn at *;go_in;go_wp2_with fail;go_ret;rw[U.o];exact⟨rfl,a6.o⟩
 rw[h5]at f7;rw[aN (by simp[h5])]at D;clear h5;generalize bB x.sort 1=sn at *;by_cases h6:sn=⟨3,0,0⟩;case neg =>
  have U:Hid (res=false):=aB (by rw[D.o,LZ h6]);have e0:=fun w=>(jM sn ⟨3,0,0⟩ w).trans (by simp only[h6,decide_false,Bool.not_false]:_=Result.ok (Value.bool true) w);simp only at e0;clear h6 D a1 a4 a3 a2 a0;go_in;go_wp2_with fail;go_ret;rw[U.o];exact⟨rfl,a6.o⟩
 rw[aN (by simp[h6])]at D;subst h6;simp only at f8 f9 g0;have e0:=fun w=>(jM ⟨3,0,0⟩ ⟨3,0,0⟩ w).trans (by simp only[decide_true,Bool.not_true]:_=Result.ok (Value.bool false) w);simp only at e0;by_cases h7:0<a7+ni
 . have U:Hid (res=false):=aB (by rw[D.o,LZ h7]);have d7:decide ((a7:Int)+(ni:Int)>0)=true:=MB aA;clear h7 D a1 a4 a3 a2 a0;go_in;go_wp2_with fail;go_ret;rw[U.o];exact⟨rfl,a6.o⟩
 rw[aN h7]at D;have d7:decide ((a7:Int)+(ni:Int)>0)=false:=MA aA;clear h7;by_cases h8:nc=2;case neg =>
  have U:Hid (res=false):=aB (by rw[D.o,LZ h8]);have d8:((nc:Int) != 2)=true:=by rw[bne_iff_ne];omega
  clear h8 D a1 a4 a3 a2 a0;go_in;go_wp2_with fail;go_ret;rw[U.o];exact⟨rfl,a6.o⟩
 subst h8;rw[aN (by simp)]at D;obtain⟨F,G,rfl,b2,hm⟩:=a1.mem aA;obtain⟨A1,n1,c1,A2,n2,c2,c8,c9,f6,_⟩:=hm 0 aA;obtain⟨A3,n3,c3,A4,n4,c4,d0,d6,a9,_⟩:=hm 1 aA;rw[NE,MQ]at c8 c9;rw[Nat.one_mul]at d0 d6;have f0:=f6.len;have f1:=a9.len;rw[f0,f1]at D;generalize (x.ctors.getD 1 default).args=ar at *;have hW:∃W2,W2=(w.alloc (.cells #[O S bv,X Ao no co,X (Z ⟨be,oe,Y⟩) ne ce,O S bn,X Ap np cp] 26)).alloc (.cells #[O S 1,X (Z ⟨bs,os,Y⟩) 2 cs,X b8 a7 b9,X Ai ni ci,X (Z ⟨F,G,Y⟩) 2 cc,X At nt ct,X Ab nb cb] 49):=⟨_,rfl⟩;obtain⟨W2,s⟩:=hW;have I:Hid (OB w W2):=aB (by rw[s];exact a6.o);have g1:W2.cell? ⟨w.heap.size+1,4,Y⟩=Z (X (Z ⟨F,G,Y⟩) 2 cc):=by
  rw[s];have h:=aW.cell (aW.new (w.alloc (.cells #[O S bv,X Ao no co,X (Z ⟨be,oe,Y⟩) ne ce,O S bn,X Ap np cp] 26)) 49 #[O S 1,X (Z ⟨bs,os,Y⟩) 2 cs,X b8 a7 b9,X Ai ni ci,X (Z ⟨F,G,Y⟩) 2 cc,X At nt ct,X Ab nb cb]) 4;rw[show (w.alloc (.cells #[O S bv,X Ao no co,X (Z ⟨be,oe,Y⟩) ne ce,O S bn,X Ap np cp] 26)).heap.size=w.heap.size+1 from by simp]at h;exact h
 have h0:w.heap.size+1<W2.heap.size:=by rw[s];simp
 have e1:=(I.o.cell (p:=⟨F,G,Y⟩) b2).trans c8;have e2:=(I.o.cell (p:=⟨F,G+1,Y⟩) b2).trans c9;have e3:=(I.o.cell (p:=⟨F,G+2,Y⟩) b2).trans d0;have e4:=(I.o.cell (p:=⟨F,G+2+1,Y⟩) b2).trans d6;clear hm a1 f6 f0 f1 a4 a3 a2 a0 c8 c9 d0 d6;have b0:Hid (∀w',OB W2 w'->w'.cell? ⟨w.heap.size+1,4,Y⟩=Z (X (Z ⟨F,G,Y⟩) 2 cc)/\w'.cell? ⟨F,G,Y⟩=Z (X A1 n1 c1)/\w'.cell? ⟨F,G+1,Y⟩=Z (X A2 n2 c2)/\w'.cell? ⟨F,G+2,Y⟩=Z (X A3 n3 c3)/\w'.cell? ⟨F,G+2+1,Y⟩=Z (X A4 n4 c4)):=aB (fun w' h=>by
  have b1:F<W2.heap.size:=aA;exact⟨(h.cell (p:=⟨w.heap.size+1,4,Y⟩) h0).trans g1,(h.cell (p:=⟨F,G,Y⟩) b1).trans e1,(h.cell (p:=⟨F,G+1,Y⟩) b1).trans e2,(h.cell (p:=⟨F,G+2,Y⟩) b1).trans e3,(h.cell (p:=⟨F,G+2+1,Y⟩) b1).trans e4⟩)
 have b4:=I.o.size;clear g1 e1 e2 e3 e4;by_cases h9:n1=0;case neg =>
  have U:Hid (res=false):=aB (by rw[D.o,LZ h9]);have d9:((n1:Int)==0)=false:=by rw[MM];omega
  clear h9 D a9;go_in;go_wp2_with fail;rw[<-s];clear s;go_region_held3 (fun w'=>w'.cell? ⟨w.heap.size+1,4,Y⟩=Z (X (Z ⟨F,G,Y⟩) 2 cc)/\w'.cell? ⟨F,G,Y⟩=Z (X A1 n1 c1)/\w'.cell? ⟨F,G+1,Y⟩=Z (X A2 n2 c2)/\w'.cell? ⟨F,G+2,Y⟩=Z (X A3 n3 c3)/\w'.cell? ⟨F,G+2+1,Y⟩=Z (X A4 n4 c4)) (exact b0.o _ (by (first|exact bH (MC _ _)|exact bH (bC (MC _ _) _)|exact bH (bC (bC (MC _ _) _) _)))) (fail)
  all_goals
   go_wp2_with fail;go_ret;rw[U.o];exact⟨rfl,I.o.trans (Below.mono (show OB W2 _ from by (first|exact bH (MC _ _)|exact bH (bC (MC _ _) _)|exact bH (bC (bC (MC _ _) _) _))) b4)⟩
 subst h9;rw[aN (by simp)]at D;by_cases c0:n3=1;case neg =>
  have U:Hid (res=false):=aB (by rw[D.o,LZ c0]);have i5:((n3:Int)==1)=false:=by rw[MM];omega
  clear c0 D a9;go_in;go_wp2_with fail;rw[<-s];clear s;go_region_held3 (fun w'=>w'.cell? ⟨w.heap.size+1,4,Y⟩=Z (X (Z ⟨F,G,Y⟩) 2 cc)/\w'.cell? ⟨F,G,Y⟩=Z (X A1 0 c1)/\w'.cell? ⟨F,G+1,Y⟩=Z (X A2 n2 c2)/\w'.cell? ⟨F,G+2,Y⟩=Z (X A3 n3 c3)/\w'.cell? ⟨F,G+2+1,Y⟩=Z (X A4 n4 c4)) (exact b0.o _ (by (first|exact bH (MC _ _)|exact bH (bC (MC _ _) _)|exact bH (bC (bC (MC _ _) _) _)))) (fail)
  all_goals
   go_wp2_with fail;go_ret;rw[U.o];exact⟨rfl,I.o.trans (Below.mono (show OB W2 _ from by (first|exact bH (MC _ _)|exact bH (bC (MC _ _) _)|exact bH (bC (bC (MC _ _) _) _))) b4)⟩
 subst c0;rw[aN (by simp)]at D;obtain⟨b3,o3,A5,n5,c5,rfl,g3,e9,b6⟩:=a9.at_ (k:=0) aA;rw[MQ]at e9;have f2:=b6.len;generalize ar.getD 0 []=l5 at *;rw[f2]at D;have i7:=(I.o.cell (p:=⟨b3,o3,Y⟩) g3).trans e9;have i3:b3<W2.heap.size:=aA;clear a9 f2;by_cases c6:n5=1;case neg =>
  have U:Hid (res=false):=aB (by rw[D.o,LZ c6]);have i6:((n5:Int)==1)=false:=by rw[MM];omega
  clear c6 D b6;go_in;go_wp2_with fail;rw[<-s];clear s;go_region_held3 (fun w'=>w'.cell? ⟨w.heap.size+1,4,Y⟩=Z (X (Z ⟨F,G,Y⟩) 2 cc)/\w'.cell? ⟨F,G,Y⟩=Z (X A1 0 c1)/\w'.cell? ⟨F,G+1,Y⟩=Z (X A2 n2 c2)/\w'.cell? ⟨F,G+2,Y⟩=Z (X (Z ⟨b3,o3,Y⟩) 1 c3)/\w'.cell? ⟨F,G+2+1,Y⟩=Z (X A4 n4 c4)) (exact b0.o _ (by (first|exact bH (MC _ _)|exact bH (bC (MC _ _) _)|exact bH (bC (bC (MC _ _) _) _)))) (fail)
  all_goals
   go_wp2_with fail;go_ret;rw[U.o];exact⟨rfl,I.o.trans (Below.mono (show OB W2 _ from by (first|exact bH (MC _ _)|exact bH (bC (MC _ _) _)|exact bH (bC (bC (MC _ _) _) _))) b4)⟩
 subst c6;rw[aN (by simp)]at D;obtain⟨b5,o5,rfl,c7,f3,f4,f5⟩:=b6.at_ (p:=0) aA;rw[NE,MQ]at f3 f4 f5;generalize bB l5 0=m at *;have i8:=(I.o.cell (p:=⟨b5,o5,Y⟩) c7).trans f3;have i9:=(I.o.cell (p:=⟨b5,o5+1,Y⟩) c7).trans f4;have j0:=(I.o.cell (p:=⟨b5,o5+2,Y⟩) c7).trans f5;have i4:b5<W2.heap.size:=aA;have i1:=fun w=>k9 m ⟨9,(k:Int),0⟩ w;simp only at i1;have U:Hid (res=decide (m=⟨9,(k:Int),0⟩)):=D;generalize decide (m=⟨9,(k:Int),0⟩)=dd at *;clear b6;go_in;go_wp2_with fail;rw[<-s];clear s;go_region_held3 (fun w'=>w'.cell? ⟨w.heap.size+1,4,Y⟩=Z (X (Z ⟨F,G,Y⟩) 2 cc)/\w'.cell? ⟨F,G,Y⟩=Z (X A1 0 c1)/\w'.cell? ⟨F,G+1,Y⟩=Z (X A2 n2 c2)/\w'.cell? ⟨F,G+2,Y⟩=Z (X (Z ⟨b3,o3,Y⟩) 1 c3)/\w'.cell? ⟨F,G+2+1,Y⟩=Z (X A4 n4 c4)) (exact b0.o _ (by (first|exact bH (MC _ _)|exact bH (bC (MC _ _) _)|exact bH (bC (bC (MC _ _) _) _)))) (fail)
 all_goals
  go_wp2_with fail;go_ret;rw[U.o];exact⟨rfl,I.o.trans (Below.mono (show OB W2 _ from by (first|exact bH (MC _ _)|exact bH (bC (MC _ _) _)|exact bH (bC (bC (MC _ _) _) _))) b4)⟩
end Go.Proofs.Ytlahmbhimhmoaaa
