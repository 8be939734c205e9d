/- Merged: OpenC, CvO. -/
import Derived.Test.YtlahmbhimhmoaaaVOpenB
namespace Go.Proofs.Ytlahmbhimhmoaaa
set_option linter.unusedVariables false
set_option linter.unusedSimpArgs false
section
set_option maxRecDepth 100000
open Go.ChangeShapes Go.WideShapes Go.RowKit
variable {H : Type}{enc : TypeId × Value->H}
theorem BF:Try.prog.cellsOf 54=2:=by kernel_rfl
theorem BE:Try.prog.bytesOf 54=48:=by kernel_rfl
theorem wZ:Try.prog.cellsOf 27=1:=by kernel_rfl
def DI(W:OE)(b off:Nat)(x:List Nd×List Nd):Prop:=∃D n1 G F n2 I,W.cell? ⟨b,off,none⟩=some (.slice D n1 G)/\W.cell? ⟨b,off+1,none⟩=some (.slice F n2 I)/\aX W D n1 G x.1/\aX W F n2 I x.2
theorem CN{W:OE}{D:Bool}(fuel:Nat)(cs:List Value)(d:DataW H)(pl:List MemPlace)(b off:Nat)(h:DataW.trod enc Try.prog W 0 (fun _=>true) D fuel 54 cs=some (d,pl))(hl:cs.length=2)(O:∀j,j<2->W.cell? ⟨b,off+j,none⟩=cs[j]?)(Y:∀n∈d.weights Try.prog 54,n<=reachBytes)(F:∀x∈pl,x.block<W.heap.size):∃x,DI W b off x:=by
 obtain⟨Z,m,_,hd,_,a1,hf⟩:=DataW.trod_struct Try.underlying54 h;have G:DataW.trod enc Try.prog W 0 (fun _=>true) D m 29 ((cs.drop 0).take (Try.prog.cellsOf 29))=Z[0]?:=hf 0 _ rfl;have I:DataW.trod enc Try.prog W 0 (fun _=>true) D m 29 ((cs.drop 1).take (Try.prog.cellsOf 29))=Z[1]?:=hf 1 _ rfl;have a0:Z.length=2:=a1;rw[kA]at G I;simp only[MZ]at hd;obtain⟨rfl,rfl⟩:=hd
 match cs,hl,Z,a0,G,I,Y,F,O with
 | [c0,c1],_,[y0,y1],_,G,I,Y,F,O =>
  have U:=Try.underlying54;obtain⟨A1,n1,k1,l1,e1,r1⟩:=dS (d:=y0.1) (p:=y0.2) G (dT (j:=0) U rfl rfl Y) (fun x z=>F x (by simp[z]));obtain⟨A2,n2,k2,l2,e2,r2⟩:=dS (d:=y1.1) (p:=y1.2) I (dT (j:=1) U rfl rfl Y) (fun x z=>F x (by simp[z]));have o:c0=.slice A1 n1 k1:=by simpa using e1
  have s:c1=.slice A2 n2 k2:=by simpa using e2
  subst o s;exact⟨(l1,l2),A1,n1,k1,A2,n2,k2,O 0 aA,O 1 aA,r1,r2⟩
theorem vJ{W:OE}{D:Bool}{fuel:Nat}{cs:List Value}{d:DataW H}{p:List MemPlace}(h:DataW.trod enc Try.prog W 0 (fun _=>true) D fuel 27 cs=some (d,p))(hw:∀n∈d.weights Try.prog 27,n<=reachBytes)(G:∀x∈p,x.block<W.heap.size):∃A n c bs,cs=[.slice A n c]/\gZ (· < W.heap.size) W A n c bs:=by
 obtain⟨A,n,c,xs,e,z,h2,h3,h4,h5⟩:=gP 2 48 Try.underlying27 BF BE aE (X:=List Nd×List Nd) (DI W) (fun f cs d pl b off a1 a2 U Y Z=>CN f cs d pl b off a1 a2 U Y Z) h hw G;refine⟨A,n,c,xs,e,z,h2,by simp only[reachBytes]at h3;omega,h4,fun hn=>?_⟩;obtain⟨b,off,e,hb,hk⟩:=h5 hn;refine⟨b,off,e,hb,fun k F=>?_⟩;obtain⟨I,n1,o,O,n2,s,r1,r2,r3,r4⟩:=hk k F;exact⟨I,n1,o,O,n2,s,r1,r2,r3,r4⟩
theorem yH{W:OE}{D:Bool}{fuel:Nat}{cs:List Value}{d:DataW H}{p:List MemPlace}(hl:cs.length=5)(h:DataW.trod enc Try.prog W 0 (fun _=>true) D fuel 26 cs=some (d,p))
 (Z:∀n∈d.weights Try.prog 26,n<=reachBytes) (G:∀x∈p,x.block<W.heap.size) :
 ∃(F:bA)(bk:Bk),cs=[.int .i64 bk.vars,.slice F.Ao F.no F.co,.slice F.Ae F.ne F.ce,.int .i64 bk.nat,.slice F.Ap F.np F.cp]/\bO W F bk/\(F.Ap=none->F.cp=0):=by
 obtain⟨I,m,_,hd,_,a6,O⟩:=DataW.trod_struct Try.underlying26 h;have g0:DataW.trod enc Try.prog W 0 (fun _=>true) D m 3 ((cs.drop 0).take (Try.prog.cellsOf 3))=I[0]?:=O 0 _ rfl;have g1:DataW.trod enc Try.prog W 0 (fun _=>true) D m 22 ((cs.drop 1).take (Try.prog.cellsOf 22))=I[1]?:=O 1 _ rfl;have g2:DataW.trod enc Try.prog W 0 (fun _=>true) D m 23 ((cs.drop 2).take (Try.prog.cellsOf 23))=I[2]?:=O 2 _ rfl;have g3:DataW.trod enc Try.prog W 0 (fun _=>true) D m 3 ((cs.drop 3).take (Try.prog.cellsOf 3))=I[3]?:=O 3 _ rfl;have g4:DataW.trod enc Try.prog W 0 (fun _=>true) D m 24 ((cs.drop 4).take (Try.prog.cellsOf 24))=I[4]?:=O 4 _ rfl;have a5:I.length=5:=a6;rw[iG]at g0 g3;rw[vM]at g1;rw[s5]at g2;rw[yP]at g4;simp only[MZ]at hd;obtain⟨rfl,rfl⟩:=hd
 match cs,hl,I,a5,g0,g1,g2,g3,g4,Z,G with
 | [c0,c1,c2,c3,c4],_,[y0,y1,y2,y3,y4],_,g0,g1,g2,g3,g4,Z,G =>
  have U:=Try.underlying26;obtain⟨o,e0,_,w0⟩:=DataW.trod_int Try.underlying3 (x:=y0) g0;obtain⟨A1,n1,k1,l1,e1,r1⟩:=tB (d:=y1.1) (p:=y1.2) g1 (dT (j:=1) U rfl rfl Z) (fun x s=>G x (by simp[s]));obtain⟨A2,n2,k2,l2,e2,r2,wk⟩:=qX (d:=y2.1) (p:=y2.2) g2 (dT (j:=2) U rfl rfl Z) (fun x s=>G x (by simp[s]));obtain⟨z,e3,_,w3⟩:=DataW.trod_int Try.underlying3 (x:=y3) g3;obtain⟨A4,n4,k4,l4,e4,r4,wp,Y⟩:=vL (d:=y4.1) (p:=y4.2) g4 (dT (j:=4) U rfl rfl Z) (fun x s=>G x (by simp[s]));have a0:c0=.int .i64 o:=by simpa using e0
  have a1:c1=.slice A1 n1 k1:=by simpa using e1
  have a2:c2=.slice A2 n2 k2:=by simpa using e2
  have a3:c3=.int .i64 z:=by simpa using e3
  have a4:c4=.slice A4 n4 k4:=by simpa using e4
  subst a0 a1 a2 a3 a4;exact⟨⟨A1,n1,k1,A2,n2,k2,A4,n4,k4⟩,⟨o,l1,l2,z,l4⟩,rfl,⟨r1,r2,r4,w0,w3,wk,wp⟩,Y⟩
end
section
open Go.ChangeShapes Go.WideShapes Go.RowKit
variable {H : Type}{enc : TypeId × Value->H}
theorem CT:Try.prog.cellsOf 31=9:=by kernel_rfl
def oA(v:bA)(b:Bk)(cA:OC)(cn cc:Nat)(A:OC)(n c:Nat)(B:OC)(m d:Nat)(fuel:Int):Value:=.agg #[.int .i64 b.vars,.slice v.Ao v.no v.co,.slice v.Ae v.ne v.ce,.int .i64 b.nat,.slice v.Ap v.np v.cp,.slice cA cn cc,.slice A n c,.slice B m d,.int .i64 fuel]
set_option maxRecDepth 100000 in
theorem mM{W:OE}{base:Nat}{D:Bool}{v:Value}{d:DataW H}{p:List MemPlace}(hv:Value.okWide Try.prog W .any base 31 v)(h:DataW.Trod enc Try.prog W 0 (fun _=>true) D 31 v d p)
 (Z:∀n∈d.weights Try.prog 31,n<=reachBytes) (F:∀x∈p,x.block<W.heap.size) :
 ∃(Y:bA)(bk:Bk)(cA:OC)(cn cc:Nat)(bs:List (List Nd×List Nd))(A:OC)(n c:Nat)(l:List Nd)(B:OC)(m d:Nat)(k:List Nd)(fuel:Int),v=oA Y bk cA cn cc A n c B m d fuel/\bO W Y bk/\(Y.Ap=none->Y.cp=0)/\gZ (· < W.heap.size) W cA cn cc bs/\aX W A n c l/\aX W B m d k/\(Lit.int .i64 fuel).wf=true:=by
 obtain⟨cs,rfl,a1⟩:=okWide_struct Try.underlying31 hv;obtain⟨cs⟩:=cs;obtain⟨fuel,G⟩:=h;obtain⟨O,m,_,hd,_,a3,G⟩:=DataW.trod_struct Try.underlying31 G;have hl:cs.length=9:=by simpa using a1.trans CT
 have s:DataW.trod enc Try.prog W 0 (fun _=>true) D m 26 (((Value.cells (.agg ⟨cs⟩)).toList.drop 0).take (Try.prog.cellsOf 26))=O[0]?:=G 0 _ rfl;have z:DataW.trod enc Try.prog W 0 (fun _=>true) D m 27 (((Value.cells (.agg ⟨cs⟩)).toList.drop 5).take (Try.prog.cellsOf 27))=O[1]?:=G 1 _ rfl;have g2:DataW.trod enc Try.prog W 0 (fun _=>true) D m 29 (((Value.cells (.agg ⟨cs⟩)).toList.drop 6).take (Try.prog.cellsOf 29))=O[2]?:=G 2 _ rfl;have g3:DataW.trod enc Try.prog W 0 (fun _=>true) D m 29 (((Value.cells (.agg ⟨cs⟩)).toList.drop 7).take (Try.prog.cellsOf 29))=O[3]?:=G 3 _ rfl;have g4:DataW.trod enc Try.prog W 0 (fun _=>true) D m 3 (((Value.cells (.agg ⟨cs⟩)).toList.drop 8).take (Try.prog.cellsOf 3))=O[4]?:=G 4 _ rfl;have a2:O.length=5:=a3;rw[BG]at s;rw[wZ]at z;rw[kA]at g2 g3;rw[iG]at g4;simp only[MZ]at hd;obtain⟨rfl,rfl⟩:=hd
 match cs,hl,O,a2,s,z,g2,g3,g4,Z,F with
 | [c0,c1,c2,c3,c4,c5,c6,c7,c8],_,[y0,y1,y2,y3,y4],_,s,z,g2,g3,g4,Z,F =>
  have U:=Try.underlying31;simp only[Value.cells]at s z g2 g3 g4;obtain⟨Y,bk,e0,r0,a0⟩:=yH (d:=y0.1) (p:=y0.2) aF s (dT (j:=0) U rfl rfl Z) (fun x I=>F x (by simp[I]));obtain⟨A1,n1,k1,l1,e1,r1⟩:=vJ (d:=y1.1) (p:=y1.2) z (dT (j:=1) U rfl rfl Z) (fun x I=>F x (by simp[I]));obtain⟨A2,n2,k2,l2,e2,r2⟩:=dS (d:=y2.1) (p:=y2.2) g2 (dT (j:=2) U rfl rfl Z) (fun x I=>F x (by simp[I]));obtain⟨A3,n3,k3,l3,e3,r3⟩:=dS (d:=y3.1) (p:=y3.2) g3 (dT (j:=3) U rfl rfl Z) (fun x I=>F x (by simp[I]));obtain⟨o,e4,_,w4⟩:=DataW.trod_int Try.underlying3 (x:=y4) g4;simp at e0 e1 e2 e3 e4;obtain⟨rfl,rfl,rfl,rfl,rfl⟩:=e0;subst e1 e2 e3 e4;exact⟨Y,bk,A1,n1,k1,l1,A2,n2,k2,l2,A3,n3,k3,l3,o,rfl,r0,a0,r1,r2,r3,w4⟩
end
end Go.Proofs.Ytlahmbhimhmoaaa
