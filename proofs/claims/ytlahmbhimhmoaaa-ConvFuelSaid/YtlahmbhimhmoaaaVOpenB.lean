/- A book that was handed in, opened: it reads as a book in memory. -/
import Derived.Test.YtlahmbhimhmoaaaVJoin
namespace Go.Proofs.Ytlahmbhimhmoaaa
set_option linter.unusedVariables false
set_option linter.unusedSimpArgs false
open Option renaming some → O, none → S
set_option maxRecDepth 100000
open Go.ChangeShapes Go.WideShapes Go.ChangeAt Go.RowKit Go.Deep
theorem kI{H:Type}{P:Program}{e:TypeId}{n:Nat}:∀{l:List (DataW H)} {d:DataW H},d∈l->n∈d.weights P e->n∈DataW.weightsAll P e l
 | [],_,h,_=>by cases h
 | x::l,d,h,hn=>by
  simp only[DataW.weightsAll,MW];rcases MU.1 h with rfl|h
  . exact .inl hn
  . exact .inr (kI h hn)
section
variable {H : Type}{enc : TypeId × Value->H}
theorem gP{P:Program}{W:OE}{I:Bool}{t e:TypeId}(C B:Nat)(ht:P.underlying t=O (.slice e))(hC:P.cellsOf e=C)(hB:P.bytesOf e=B)(a1:0<C){X:Type}[Inhabited X](Rd:Nat->Nat->X->Prop)
 (Z:∀(fuel:Nat)(cs:List Value)(d:DataW H)(pl:List MemPlace)(b off:Nat),DataW.trod enc P W 0 (fun _=>true) I fuel e cs=O (d,pl)->cs.length=C->(∀j,j<C->W.cell? ⟨b,off+j,S⟩=cs[j]?)->(∀n∈d.weights P e,n<=reachBytes)->(∀x∈pl,x.block<W.heap.size)->∃x,Rd b off x)
 {fuel:Nat} {cs:List Value} {d:DataW H} {p:List MemPlace} (h:DataW.trod enc P W 0 (fun _=>true) I fuel t cs=O (d,p)) (hw:∀n∈d.weights P t,n<=reachBytes) (o:∀x∈p,x.block<W.heap.size) :
 ∃A n c,∃xs:List X,cs=[.slice A n c]/\xs.length=n/\n<=c/\n*B<=reachBytes/\(A=S->c=0)/\(0<n->∃b off,A=O ⟨b,off,S⟩/\b<W.heap.size/\∀k,k<n->Rd b (off+k*C) (xs.getD k default)):=by
 rcases open_slice ht h with⟨rfl,z⟩|⟨a,len,cap,m,n,D,Pl,rfl,_,hl,hm,a5,z,hi⟩
 . exact⟨S,0,0,[],rfl,rfl,MF _,by simp,fun _=>rfl,fun h=>absurd h aE⟩
 simp only[MZ]at z;obtain⟨rfl,rfl⟩:=z;simp only[if_true]at a5;subst a5;have a8:DataW.weights P t (DataW.slice ((List.range len).map D) ((List.range (m-len)).map fun j=>D (len+j)))=(((List.range len).map D).length+((List.range (m-len)).map fun j=>D (len+j)).length)*P.bytesOf e::(DataW.weightsAll P e ((List.range len).map D)++DataW.weightsAll P e ((List.range (m-len)).map fun j=>D (len+j))):=by
  simp only[DataW.weights,ht]
 rw[a8]at hw;have F:=hw _ (List.mem_cons_self ..);rw[hB]at F;simp only[MX,List.length_range]at F;rw[hC]at hi o;obtain⟨b,off,spot⟩:=a;have G:len*B<=reachBytes:=MO (Nat.mul_le_mul_right _ aA) F;by_cases a6:0<len;rotate_left
 . obtain rfl:len=0:=aA;exact⟨_,_,_,[],rfl,rfl,hl,G,(fun e=>by cases e),fun h=>absurd h a6⟩
 have s:spot=S:=by
  obtain⟨a0,hc,a7⟩:=hi 0 aA;obtain⟨_,a2,Y⟩:=World.cells?_some hc;have h0:=Y 0 a1;rw[MI aA]at h0;simpa[Addr.add] using World.cell?_spot h0
 subst s;have hb:b<W.heap.size:=o (.cell b off) (MW.2 (.inl (MemPlace.mem_row.2 ⟨0,Nat.mul_pos aA a1,by simp⟩)));have U:∀i:Nat,∃x:X,i<len->Rd b (off+i*C) x:=by
  intro i;by_cases a3:i<len
  . obtain⟨a0,hc,a7⟩:=hi i aA;obtain⟨_,a2,Y⟩:=World.cells?_some hc;have a4:D i∈(List.range len).map D:=List.mem_map.2 ⟨i,by simpa using a3,rfl⟩;obtain⟨x,z⟩:=Z n a0 (D i) (Pl i) b (off+i*C) a7 a2 (fun j hj=>by
     have:=Y j hj;rw[add_plain,add_plain]at this;exact this) (fun k hk=>hw k (List.mem_cons_of_mem _ (List.mem_append_left _ (kI a4 hk)))) (fun x z=>o x (List.mem_append_right _ (List.mem_flatMap.2 ⟨i,by simp;omega,z⟩)))
    exact⟨x,fun _=>z⟩
  exact⟨default,fun h=>absurd h a3⟩
 refine⟨_,_,_,(List.range len).map fun i=>(U i).choose,rfl,by simp,hl,G,(fun e=>by cases e),fun _=>⟨b,off,rfl,hb,fun k hk=>?_⟩⟩;have:=(U k).choose_spec hk;simpa[hk] using this
theorem kA:Try.prog.cellsOf 29=1:=by kernel_rfl
theorem DC:Try.prog.bytesOf 29=24:=by kernel_rfl
def oJ(W:OE)(b off:Nat)(x:Nd):Prop:=W.cell? ⟨b,off,S⟩=O (.int .i64 x.op)/\W.cell? ⟨b,off+1,S⟩=O (.int .i64 x.a)/\W.cell? ⟨b,off+2,S⟩=O (.int .i64 x.b)
theorem CP{W:OE}{D:Bool}(fuel:Nat)(cs:List Value)(d:DataW H)(pl:List MemPlace)(b off:Nat)(h:DataW.trod enc Try.prog W 0 (fun _=>true) D fuel 42 cs=O (d,pl))(_:cs.length=3)(F:∀j,j<3->W.cell? ⟨b,off+j,S⟩=cs[j]?):∃x,oJ W b off x:=by
 obtain⟨o,a,c,rfl⟩:=AC h;exact⟨⟨o,a,c⟩,F 0 aA,F 1 aA,F 2 aA⟩
theorem AN{W:OE}{A:OC}{n c:Nat}{D:List Nd}(F:D.length=n)(G:n<=c)(I:n*24<=reachBytes)(U:A=S->c=0)(Y:0<n->∃b off,A=O ⟨b,off,S⟩/\b<W.heap.size/\∀k,k<n->oJ W b (off+k*3) (D.getD k default)):aX W A n c D :=
 ⟨F,G,by simp only[reachBytes]at I;omega,U,fun s=>by
  obtain⟨b,off,e,Z,h⟩:=Y s;exact⟨b,off,e,Z,fun k o=>h k aA⟩⟩
theorem dS{W:OE}{D:Bool}{fuel:Nat}{cs:List Value}{d:DataW H}{p:List MemPlace}(h:DataW.trod enc Try.prog W 0 (fun _=>true) D fuel 29 cs=O (d,p))(s:∀n∈d.weights Try.prog 29,n<=reachBytes)(F:∀x∈p,x.block<W.heap.size):∃A n c l,cs=[.slice A n c]/\aX W A n c l:=by
 obtain⟨A,n,c,z,e,I,U,Y,Z,o⟩:=gP 3 24 Try.underlying29 mL rU aE (oJ W) (fun f cs d pl b off a1 a2 G _ _=>CP f cs d pl b off a1 a2 G) h s F;exact⟨A,n,c,z,e,AN I U Y Z o⟩
theorem iY{W:OE}{D:Bool}{fuel:Nat}{cs:List Value}{d:DataW H}{p:List MemPlace}(h:DataW.trod enc Try.prog W 0 (fun _=>true) D fuel 46 cs=O (d,p))(hw:∀n∈d.weights Try.prog 46,n<=reachBytes)(G:∀x∈p,x.block<W.heap.size):∃A n c l,cs=[.slice A n c]/\dO W A n c l:=by
 obtain⟨A,n,c,xs,e,Z,h2,o,h4,s⟩:=gP 1 24 Try.underlying46 kA DC aE (X:=List Nd) (fun b off l=>∃A n c,W.cell? ⟨b,off,S⟩=O (.slice A n c)/\aX W A n c l) (fun f cs d pl b off a1 a2 I U Y=>by
  obtain⟨A,n,c,l,rfl,ht⟩:=dS a1 U Y;exact⟨l,A,n,c,I 0 aA,ht⟩) h hw G
 refine⟨A,n,c,xs,e,Z,by simp only[reachBytes]at o;omega,fun hn=>?_⟩;obtain⟨b,off,e,z,hk⟩:=s hn;exact⟨b,off,e,z,fun k F=>by
  have:=hk k F;rw[Nat.mul_one]at this;exact this⟩
theorem r8:Try.prog.cellsOf 46=1:=by kernel_rfl
theorem BQ:Try.prog.cellsOf 52=2:=by kernel_rfl
theorem BP:Try.prog.bytesOf 52=48:=by kernel_rfl
theorem xK:Try.prog.cellsOf 47=1:=by kernel_rfl
theorem xV:Try.prog.cellsOf 49=7:=by kernel_rfl
theorem xU:Try.prog.bytesOf 49=152:=by kernel_rfl
theorem yL:Try.prog.cellsOf 99=3:=by kernel_rfl
theorem yK:Try.prog.bytesOf 99=24:=by kernel_rfl
theorem CY:Try.prog.cellsOf 85=2:=by kernel_rfl
theorem CX:Try.prog.bytesOf 85=16:=by kernel_rfl
theorem BG:Try.prog.cellsOf 26=5:=by kernel_rfl
theorem vM:Try.prog.cellsOf 22=1:=by kernel_rfl
theorem s5:Try.prog.cellsOf 23=1:=by kernel_rfl
theorem yP:Try.prog.cellsOf 24=1:=by kernel_rfl
theorem dT{P:Program}{t:TypeId}{D:Array Field}{ds:List (DataW H)}{j:Nat}{u:TypeId}{d:DataW H}(ht:P.underlying t=O (.struct D))(F:(D.toList.map (·.type))[j]? = O u)(hd:ds[j]? = O d)(I:∀n∈(DataW.agg ds).weights P t,n<=reachBytes):∀n∈d.weights P u,n<=reachBytes:=fun n G=>I n (by
 simp only[DataW.weights,ht];exact DataW.weights_mem_each F hd n G)
theorem CO{W:OE}{D:Bool}(fuel:Nat)(cs:List Value)(d:DataW H)(pl:List MemPlace)(b off:Nat)(h:DataW.trod enc Try.prog W 0 (fun _=>true) D fuel 52 cs=O (d,pl))(hl:cs.length=2)(o:∀j,j<2->W.cell? ⟨b,off+j,S⟩=cs[j]?)(s:∀n∈d.weights Try.prog 52,n<=reachBytes)(F:∀x∈pl,x.block<W.heap.size):
 ∃x:Ct,∃G n1 U I n2 c2,W.cell? ⟨b,off,S⟩=O (.slice G n1 U)/\W.cell? ⟨b,off+1,S⟩=O (.slice I n2 c2)/\dO W G n1 U x.args/\dO W I n2 c2 x.outs:=by
 obtain⟨z,m,_,hd,_,a3,hf⟩:=DataW.trod_struct Try.underlying52 h;have Y:DataW.trod enc Try.prog W 0 (fun _=>true) D m 46 ((cs.drop 0).take (Try.prog.cellsOf 46))=z[0]?:=hf 0 _ rfl;have Z:DataW.trod enc Try.prog W 0 (fun _=>true) D m 46 ((cs.drop 1).take (Try.prog.cellsOf 46))=z[1]?:=hf 1 _ rfl;have a2:z.length=2:=a3;rw[r8]at Y Z;simp only[MZ]at hd;obtain⟨rfl,rfl⟩:=hd
 match cs,hl,z,a2,Y,Z,s,F,o with
 | [c0,U],_,[y0,y1],_,Y,Z,s,F,o =>
  obtain⟨G,n1,k1,l1,e1,r1⟩:=iY (d:=y0.1) (p:=y0.2) Y (dT (j:=0) Try.underlying52 rfl rfl s) (fun x hx=>F x (by simp[hx]));obtain⟨I,n2,k2,l2,e2,r2⟩:=iY (d:=y1.1) (p:=y1.2) Z (dT (j:=1) Try.underlying52 rfl rfl s) (fun x hx=>F x (by simp[hx]));have a0:c0=.slice G n1 k1:=by simpa using e1
  have a1:U=.slice I n2 k2:=by simpa using e2
  subst a0 a1;exact⟨⟨l1,l2⟩,G,n1,k1,I,n2,k2,o 0 aA,o 1 aA,r1,r2⟩
theorem vK{W:OE}{D:Bool}{fuel:Nat}{cs:List Value}{d:DataW H}{p:List MemPlace}(h:DataW.trod enc Try.prog W 0 (fun _=>true) D fuel 47 cs=O (d,p))(Y:∀n∈d.weights Try.prog 47,n<=reachBytes)(F:∀x∈p,x.block<W.heap.size):∃A n c l,cs=[.slice A n c]/\sM W A n c l:=by
 obtain⟨A,n,c,Z,e,G,o,I,s,U⟩:=gP 2 48 Try.underlying47 BQ BP aE (X:=Ct) _ CO h Y F;exact⟨A,n,c,Z,e,G,by simp only[reachBytes]at I;omega,U⟩
theorem yI{W:OE}{D:Bool}(fuel:Nat)(cs:List Value)(d:DataW H)(pl:List MemPlace)(b off:Nat)(h:DataW.trod enc Try.prog W 0 (fun _=>true) D fuel 49 cs=O (d,pl))(hl:cs.length=7)(I:∀j,j<7->W.cell? ⟨b,off+j,S⟩=cs[j]?)(Z:∀n∈d.weights Try.prog 49,n<=reachBytes)(F:∀x∈pl,x.block<W.heap.size):
 ∃x:En,∃v:gC,(W.cell? ⟨b,off,S⟩=O (.int .i64 x.kind)/\W.cell? ⟨b,off+1,S⟩=O (.slice v.As v.ns v.cs)/\W.cell? ⟨b,off+2,S⟩=O (.slice v.Ap v.np v.cp)/\W.cell? ⟨b,off+3,S⟩=O (.slice v.Ai v.ni v.ci)/\W.cell? ⟨b,off+4,S⟩=O (.slice v.Ac v.nc v.cc)/\W.cell? ⟨b,off+5,S⟩=O (.slice v.At v.nt v.ct)/\W.cell? ⟨b,off+6,S⟩=O (.slice v.Ab v.nb v.cb)/\tT W v x)/\(Lit.int .i64 x.kind).wf=true:=by
 obtain⟨Y,m,_,hd,_,a8,s⟩:=DataW.trod_struct Try.underlying49 h;have z:DataW.trod enc Try.prog W 0 (fun _=>true) D m 3 ((cs.drop 0).take (Try.prog.cellsOf 3))=Y[0]?:=s 0 _ rfl;have g1:DataW.trod enc Try.prog W 0 (fun _=>true) D m 29 ((cs.drop 1).take (Try.prog.cellsOf 29))=Y[1]?:=s 1 _ rfl;have g2:DataW.trod enc Try.prog W 0 (fun _=>true) D m 46 ((cs.drop 2).take (Try.prog.cellsOf 46))=Y[2]?:=s 2 _ rfl;have g3:DataW.trod enc Try.prog W 0 (fun _=>true) D m 46 ((cs.drop 3).take (Try.prog.cellsOf 46))=Y[3]?:=s 3 _ rfl;have g4:DataW.trod enc Try.prog W 0 (fun _=>true) D m 47 ((cs.drop 4).take (Try.prog.cellsOf 47))=Y[4]?:=s 4 _ rfl;have g5:DataW.trod enc Try.prog W 0 (fun _=>true) D m 29 ((cs.drop 5).take (Try.prog.cellsOf 29))=Y[5]?:=s 5 _ rfl;have g6:DataW.trod enc Try.prog W 0 (fun _=>true) D m 29 ((cs.drop 6).take (Try.prog.cellsOf 29))=Y[6]?:=s 6 _ rfl;have a7:Y.length=7:=a8;rw[iG]at z;rw[kA]at g1 g5 g6;rw[r8]at g2 g3;rw[xK]at g4;simp only[MZ]at hd;obtain⟨rfl,rfl⟩:=hd
 match cs,hl,Y,a7,z,g1,g2,g3,g4,g5,g6,Z,F,I with
 | [c0,c1,c2,c3,c4,c5,c6],_,[y0,y1,y2,y3,y4,y5,y6],_,z,g1,g2,g3,g4,g5,g6,Z,F,I =>
  have U:=Try.underlying49;obtain⟨o,e0,_,wo⟩:=DataW.trod_int Try.underlying3 (x:=y0) z;obtain⟨A1,n1,k1,l1,e1,r1⟩:=dS (d:=y1.1) (p:=y1.2) g1 (dT (j:=1) U rfl rfl Z) (fun x G=>F x (by simp[G]));obtain⟨A2,n2,k2,l2,e2,r2⟩:=iY (d:=y2.1) (p:=y2.2) g2 (dT (j:=2) U rfl rfl Z) (fun x G=>F x (by simp[G]));obtain⟨A3,n3,k3,l3,e3,r3⟩:=iY (d:=y3.1) (p:=y3.2) g3 (dT (j:=3) U rfl rfl Z) (fun x G=>F x (by simp[G]));obtain⟨A4,n4,k4,l4,e4,r4⟩:=vK (d:=y4.1) (p:=y4.2) g4 (dT (j:=4) U rfl rfl Z) (fun x G=>F x (by simp[G]));obtain⟨A5,n5,k5,l5,e5,r5⟩:=dS (d:=y5.1) (p:=y5.2) g5 (dT (j:=5) U rfl rfl Z) (fun x G=>F x (by simp[G]));obtain⟨A6,n6,k6,l6,e6,r6⟩:=dS (d:=y6.1) (p:=y6.2) g6 (dT (j:=6) U rfl rfl Z) (fun x G=>F x (by simp[G]));have a0:c0=.int .i64 o:=by simpa using e0
  have a1:c1=.slice A1 n1 k1:=by simpa using e1
  have a2:c2=.slice A2 n2 k2:=by simpa using e2
  have a3:c3=.slice A3 n3 k3:=by simpa using e3
  have a4:c4=.slice A4 n4 k4:=by simpa using e4
  have a5:c5=.slice A5 n5 k5:=by simpa using e5
  have a6:c6=.slice A6 n6 k6:=by simpa using e6
  subst a0 a1 a2 a3 a4 a5 a6;exact⟨⟨o,l1,l2,l3,l4,l5,l6⟩,⟨A1,n1,k1,A2,n2,k2,A3,n3,k3,A4,n4,k4,A5,n5,k5,A6,n6,k6⟩,⟨I 0 aA,I 1 aA,I 2 aA,I 3 aA,I 4 aA,I 5 aA,I 6 aA,r1,r2,r3,r4,r5,r6⟩,wo⟩
theorem qX{W:OE}{D:Bool}{fuel:Nat}{cs:List Value}{d:DataW H}{p:List MemPlace}(h:DataW.trod enc Try.prog W 0 (fun _=>true) D fuel 23 cs=O (d,p))(hw:∀n∈d.weights Try.prog 23,n<=reachBytes)(U:∀x∈p,x.block<W.heap.size):∃A n c l,cs=[.slice A n c]/\wQ W A n c l/\∀x∈l,(Lit.int .i64 x.kind).wf=true:=by
 obtain⟨A,n,c,xs,e,o,h2,s,h4,Y⟩:=gP 7 152 Try.underlying23 xV xU aE (X:=En) _ yI h hw U;refine⟨A,n,c,xs,e,⟨o,by simp only[reachBytes]at s;omega,fun z=>?_⟩,fun x hx=>?_⟩
 . obtain⟨b,off,e,Z,F⟩:=Y z;refine⟨b,off,e,Z,fun k I=>?_⟩;obtain⟨v,hv,_⟩:=F k I;exact⟨v,hv⟩
 obtain⟨k,F,rfl⟩:=NZ hx;obtain⟨b,off,e,Z,G⟩:=Y aA;obtain⟨v,_,hv⟩:=G k aA
 rwa [MK,MI F]at hv
theorem yJ{W:OE}{D:Bool}(fuel:Nat)(cs:List Value)(d:DataW H)(pl:List MemPlace)(b off:Nat)(h:DataW.trod enc Try.prog W 0 (fun _=>true) D fuel 99 cs=O (d,pl))(hl:cs.length=3)(F:∀j,j<3->W.cell? ⟨b,off+j,S⟩=cs[j]?):∃x,oJ W b off x:=by
 obtain⟨G,m,_,_,_,a0,Z⟩:=DataW.trod_struct Try.underlying99 h;have I:DataW.trod enc Try.prog W 0 (fun _=>true) D m 3 ((cs.drop 0).take (Try.prog.cellsOf 3))=G[0]?:=Z 0 _ rfl;have U:DataW.trod enc Try.prog W 0 (fun _=>true) D m 3 ((cs.drop 1).take (Try.prog.cellsOf 3))=G[1]?:=Z 1 _ rfl;have Y:DataW.trod enc Try.prog W 0 (fun _=>true) D m 3 ((cs.drop 2).take (Try.prog.cellsOf 3))=G[2]?:=Z 2 _ rfl;have s:G.length=3:=a0;rw[iG]at I U Y
 match cs,hl,G,s,I,U,Y,F with
 | [c0,c1,c2],_,[y0,y1,y2],_,I,U,Y,F =>
  obtain⟨o,ho,_⟩:=DataW.trod_int Try.underlying3 (x:=y0) I;obtain⟨a,ha,_⟩:=DataW.trod_int Try.underlying3 (x:=y1) U;obtain⟨z,hz,_⟩:=DataW.trod_int Try.underlying3 (x:=y2) Y;simp at ho ha hz;subst ho ha hz;exact⟨⟨o,a,z⟩,F 0 aA,F 1 aA,F 2 aA⟩
theorem tB{W:OE}{D:Bool}{fuel:Nat}{cs:List Value}{d:DataW H}{p:List MemPlace}(h:DataW.trod enc Try.prog W 0 (fun _=>true) D fuel 22 cs=O (d,p))(s:∀n∈d.weights Try.prog 22,n<=reachBytes)(F:∀x∈p,x.block<W.heap.size):∃A n c l,cs=[.slice A n c]/\aX W A n c l:=by
 obtain⟨A,n,c,z,e,I,U,Y,Z,o⟩:=gP 3 24 Try.underlying22 yL yK aE (oJ W) (fun f cs d pl b off a1 a2 G _ _=>yJ f cs d pl b off a1 a2 G) h s F;exact⟨A,n,c,z,e,AN I U Y Z o⟩
theorem CQ{W:OE}{D:Bool}(fuel:Nat)(cs:List Value)(d:DataW H)(pl:List MemPlace)(b off:Nat)(h:DataW.trod enc Try.prog W 0 (fun _=>true) D fuel 85 cs=O (d,pl))(hl:cs.length=2)(I:∀j,j<2->W.cell? ⟨b,off+j,S⟩=cs[j]?):
 ∃x:Int×Int,(W.cell? ⟨b,off,S⟩=O (.int .i64 x.1)/\W.cell? ⟨b,off+1,S⟩=O (.int .i64 x.2))/\(Lit.int .i64 x.1).wf=true/\(Lit.int .i64 x.2).wf=true:=by
 obtain⟨U,m,_,_,_,Z,s⟩:=DataW.trod_struct Try.underlying85 h;have F:DataW.trod enc Try.prog W 0 (fun _=>true) D m 3 ((cs.drop 0).take (Try.prog.cellsOf 3))=U[0]?:=s 0 _ rfl;have G:DataW.trod enc Try.prog W 0 (fun _=>true) D m 3 ((cs.drop 1).take (Try.prog.cellsOf 3))=U[1]?:=s 1 _ rfl;have Y:U.length=2:=Z;rw[iG]at F G
 match cs,hl,U,Y,F,G,I with
 | [c0,c1],_,[y0,y1],_,F,G,I =>
  obtain⟨o,z,_,w0⟩:=DataW.trod_int Try.underlying3 (x:=y0) F;obtain⟨a,ha,_,w1⟩:=DataW.trod_int Try.underlying3 (x:=y1) G;simp at z ha;subst z ha;exact⟨(o,a),⟨I 0 aA,I 1 aA⟩,w0,w1⟩
theorem vL{W:OE}{D:Bool}{fuel:Nat}{cs:List Value}{d:DataW H}{p:List MemPlace}(h:DataW.trod enc Try.prog W 0 (fun _=>true) D fuel 24 cs=O (d,p))(hw:∀n∈d.weights Try.prog 24,n<=reachBytes)(U:∀x∈p,x.block<W.heap.size):∃A n c l,cs=[.slice A n c]/\lX W A n c l/\(∀p∈l,(Lit.int .i64 p.1).wf=true/\(Lit.int .i64 p.2).wf=true)/\(A=S->c=0):=by
 obtain⟨A,n,c,xs,e,s,h2,z,h4,Y⟩:=gP 2 16 Try.underlying24 CY CX aE (X:=Int×Int) _ (fun f cs d pl b off a1 a2 o _ _=>CQ (W:=W) f cs d pl b off a1 a2 o) h hw U;refine⟨A,n,c,xs,e,⟨s,by simp only[reachBytes]at z;omega,fun hn=>?_⟩,fun x hx=>?_,h4⟩
 . obtain⟨b,off,e,Z,F⟩:=Y hn;exact⟨b,off,e,Z,fun k I=>(F k I).1⟩
 obtain⟨k,F,rfl⟩:=NZ hx;obtain⟨b,off,e,Z,G⟩:=Y aA;have hv:=(G k aA).2
 rwa [MK,MI F]at hv
end
end Go.Proofs.Ytlahmbhimhmoaaa
