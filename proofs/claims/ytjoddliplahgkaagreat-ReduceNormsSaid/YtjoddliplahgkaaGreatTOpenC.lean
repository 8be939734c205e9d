/- Merged: OpenB, OpenC. -/
import Derived.Test.YtjoddliplahgkaaGreatTJoin
namespace Go.Proofs.YtjoddliplahgkaaGreat
set_option linter.unusedVariables false
set_option linter.unusedSimpArgs false
open Option renaming some → O, none → S
section
set_option maxRecDepth 100000
open Go.ChangeShapes Go.WideShapes Go.ChangeAt Go.RowKit Go.Deep
theorem pV{H:Type}{P:Program}{e:TypeId}{n:Nat}:∀{l:List (DataW H)} {d:DataW H},d∈l->n∈d.weights P e->n∈DataW.weightsAll P e l
 | [],_,h,_=>by cases h
 | x::l,d,h,hn=>by
  simp only[DataW.weightsAll,YW];rcases YV.1 h with rfl|h
  . exact .inl hn
  . exact .inr (pV h hn)
section
variable {H : Type}{enc : TypeId × Value->H}
theorem kT{P:Program}{W:aAB}{I:Bool}{t e:TypeId}(C B:Nat)(ht:P.underlying t=O (.slice e))(hC:P.cellsOf e=C)(hB:P.bytesOf e=B)(a1:0<C){X:Type}[Inhabited X](Rd:Nat->Nat->X->Prop)
 (Z:∀(fuel:Nat)(cs:List Value)(d:DataW H)(pl:List MemPlace)(b off:Nat),DataW.trod enc P W 0 (fun _=>true) I fuel e cs=O (d,pl)->cs.length=C->(∀j,j<C->W.cell? ⟨b,off+j,S⟩=cs[j]?)->(∀n∈d.weights P e,n<=reachBytes)->(∀x∈pl,x.block<W.heap.size)->∃x,Rd b off x)
 {fuel:Nat} {cs:List Value} {d:DataW H} {p:List MemPlace} (h:DataW.trod enc P W 0 (fun _=>true) I fuel t cs=O (d,p)) (hw:∀n∈d.weights P t,n<=reachBytes) (o:∀x∈p,x.block<W.heap.size) :
 ∃A n c,∃xs:List X,cs=[.slice A n c]/\xs.length=n/\n<=c/\n*B<=reachBytes/\(A=S->c=0)/\(0<n->∃b off,A=O ⟨b,off,S⟩/\b<W.heap.size/\∀k,k<n->Rd b (off+k*C) (xs.getD k default)):=by
 rcases open_slice ht h with⟨rfl,z⟩|⟨a,len,cap,m,n,D,Pl,rfl,_,hl,hm,a5,z,hi⟩
 . exact⟨S,0,0,[],rfl,rfl,XU _,by simp,fun _=>rfl,fun h=>absurd h aE⟩
 simp only[ZB]at z;obtain⟨rfl,rfl⟩:=z;simp only[if_true]at a5;subst a5;have a8:DataW.weights P t (DataW.slice ((List.range len).map D) ((List.range (m-len)).map fun j=>D (len+j)))=(((List.range len).map D).length+((List.range (m-len)).map fun j=>D (len+j)).length)*P.bytesOf e::(DataW.weightsAll P e ((List.range len).map D)++DataW.weightsAll P e ((List.range (m-len)).map fun j=>D (len+j))):=by
  simp only[DataW.weights,ht]
 rw[a8]at hw;have F:=hw _ (List.mem_cons_self ..);rw[hB]at F;simp only[YR,List.length_range]at F;rw[hC]at hi o;obtain⟨b,off,spot⟩:=a;have G:len*B<=reachBytes:=YE (Nat.mul_le_mul_right _ aA) F;by_cases a6:0<len;rotate_left
 . obtain rfl:len=0:=aA;exact⟨_,_,_,[],rfl,rfl,hl,G,(fun e=>by cases e),fun h=>absurd h a6⟩
 have s:spot=S:=by
  obtain⟨a0,hc,a7⟩:=hi 0 aA;obtain⟨_,a2,Y⟩:=World.cells?_some hc;have h0:=Y 0 a1;rw[YB aA]at h0;simpa[Addr.add] using World.cell?_spot h0
 subst s;have hb:b<W.heap.size:=o (.cell b off) (YW.2 (.inl (MemPlace.mem_row.2 ⟨0,Nat.mul_pos aA a1,by simp⟩)));have U:∀i:Nat,∃x:X,i<len->Rd b (off+i*C) x:=by
  intro i;by_cases a3:i<len
  . obtain⟨a0,hc,a7⟩:=hi i aA;obtain⟨_,a2,Y⟩:=World.cells?_some hc;have a4:D i∈(List.range len).map D:=List.mem_map.2 ⟨i,by simpa using a3,rfl⟩;obtain⟨x,z⟩:=Z n a0 (D i) (Pl i) b (off+i*C) a7 a2 (fun j hj=>by
     have:=Y j hj;rw[add_plain,add_plain]at this;exact this) (fun k hk=>hw k (List.mem_cons_of_mem _ (List.mem_append_left _ (pV a4 hk)))) (fun x z=>o x (List.mem_append_right _ (List.mem_flatMap.2 ⟨i,by simp;omega,z⟩)))
    exact⟨x,fun _=>z⟩
  exact⟨default,fun h=>absurd h a3⟩
 refine⟨_,_,_,(List.range len).map fun i=>(U i).choose,rfl,by simp,hl,G,(fun e=>by cases e),fun _=>⟨b,off,rfl,hb,fun k hk=>?_⟩⟩;have:=(U k).choose_spec hk;simpa[hk] using this
theorem pI:Tryz.prog.cellsOf 29=1:=by kernel_rfl
theorem N6:Tryz.prog.bytesOf 29=24:=by kernel_rfl
def vL(W:aAB)(b off:Nat)(x:Nd):Prop:=W.cell? ⟨b,off,S⟩=O (.int .i64 x.op)/\W.cell? ⟨b,off+1,S⟩=O (.int .i64 x.a)/\W.cell? ⟨b,off+2,S⟩=O (.int .i64 x.b)
theorem NB{W:aAB}{D:Bool}(fuel:Nat)(cs:List Value)(d:DataW H)(pl:List MemPlace)(b off:Nat)(h:DataW.trod enc Tryz.prog W 0 (fun _=>true) D fuel 46 cs=O (d,pl))(_:cs.length=3)(F:∀j,j<3->W.cell? ⟨b,off+j,S⟩=cs[j]?):∃x,vL W b off x:=by
 obtain⟨o,a,c,rfl⟩:=SY h;exact⟨⟨o,a,c⟩,F 0 aA,F 1 aA,F 2 aA⟩
theorem LM{W:aAB}{A:ZZ}{n c:Nat}{D:List Nd}(F:D.length=n)(G:n<=c)(I:n*24<=reachBytes)(U:A=S->c=0)(Y:0<n->∃b off,A=O ⟨b,off,S⟩/\b<W.heap.size/\∀k,k<n->vL W b (off+k*3) (D.getD k default)):aX W A n c D :=
 ⟨F,G,by simp only[reachBytes]at I;omega,U,fun s=>by
  obtain⟨b,off,e,Z,h⟩:=Y s;exact⟨b,off,e,Z,fun k o=>h k aA⟩⟩
theorem iN{W:aAB}{D:Bool}{fuel:Nat}{cs:List Value}{d:DataW H}{p:List MemPlace}(h:DataW.trod enc Tryz.prog W 0 (fun _=>true) D fuel 29 cs=O (d,p))(s:∀n∈d.weights Tryz.prog 29,n<=reachBytes)(F:∀x∈p,x.block<W.heap.size):∃A n c l,cs=[.slice A n c]/\aX W A n c l:=by
 obtain⟨A,n,c,z,e,I,U,Y,Z,o⟩:=kT 3 24 Tryz.underlying29 AC M3 aE (vL W) (fun f cs d pl b off a1 a2 G _ _=>NB f cs d pl b off a1 a2 G) h s F;exact⟨A,n,c,z,e,LM I U Y Z o⟩
theorem mV{W:aAB}{D:Bool}{fuel:Nat}{cs:List Value}{d:DataW H}{p:List MemPlace}(h:DataW.trod enc Tryz.prog W 0 (fun _=>true) D fuel 47 cs=O (d,p))(hw:∀n∈d.weights Tryz.prog 47,n<=reachBytes)(G:∀x∈p,x.block<W.heap.size):∃A n c l,cs=[.slice A n c]/\fP W A n c l:=by
 obtain⟨A,n,c,xs,e,Z,h2,o,h4,s⟩:=kT 1 24 Tryz.underlying47 pI N6 aE (X:=List Nd) (fun b off l=>∃A n c,W.cell? ⟨b,off,S⟩=O (.slice A n c)/\aX W A n c l) (fun f cs d pl b off a1 a2 I U Y=>by
  obtain⟨A,n,c,l,rfl,ht⟩:=iN a1 U Y;exact⟨l,A,n,c,I 0 aA,ht⟩) h hw G
 refine⟨A,n,c,xs,e,Z,by simp only[reachBytes]at o;omega,fun hn=>?_⟩;obtain⟨b,off,e,z,hk⟩:=s hn;exact⟨b,off,e,z,fun k F=>by
  have:=hk k F;rw[Nat.mul_one]at this;exact this⟩
theorem AP:Tryz.prog.cellsOf 47=1:=by kernel_rfl
theorem MM:Tryz.prog.cellsOf 64=2:=by kernel_rfl
theorem ML:Tryz.prog.bytesOf 64=48:=by kernel_rfl
theorem G5:Tryz.prog.cellsOf 59=1:=by kernel_rfl
theorem H9:Tryz.prog.cellsOf 61=7:=by kernel_rfl
theorem H8:Tryz.prog.bytesOf 61=152:=by kernel_rfl
theorem I3:Tryz.prog.cellsOf 66=3:=by kernel_rfl
theorem I2:Tryz.prog.bytesOf 66=24:=by kernel_rfl
theorem NJ:Tryz.prog.cellsOf 69=2:=by kernel_rfl
theorem NI:Tryz.prog.bytesOf 69=16:=by kernel_rfl
theorem MA:Tryz.prog.cellsOf 26=5:=by kernel_rfl
theorem E6:Tryz.prog.cellsOf 22=1:=by kernel_rfl
theorem CE:Tryz.prog.cellsOf 23=1:=by kernel_rfl
theorem I6:Tryz.prog.cellsOf 24=1:=by kernel_rfl
theorem hI{P:Program}{t:TypeId}{D:Array Field}{ds:List (DataW H)}{j:Nat}{u:TypeId}{d:DataW H}(ht:P.underlying t=O (.struct D))(F:(D.toList.map (·.type))[j]? = O u)(hd:ds[j]? = O d)(I:∀n∈(DataW.agg ds).weights P t,n<=reachBytes):∀n∈d.weights P u,n<=reachBytes:=fun n G=>I n (by
 simp only[DataW.weights,ht];exact DataW.weights_mem_each F hd n G)
theorem NA{W:aAB}{D:Bool}(fuel:Nat)(cs:List Value)(d:DataW H)(pl:List MemPlace)(b off:Nat)(h:DataW.trod enc Tryz.prog W 0 (fun _=>true) D fuel 64 cs=O (d,pl))(hl:cs.length=2)(Y:∀j,j<2->W.cell? ⟨b,off+j,S⟩=cs[j]?)(Z:∀n∈d.weights Tryz.prog 64,n<=reachBytes)(F:∀x∈pl,x.block<W.heap.size):
 ∃x:Ct,∃G n1 c1 I n2 c2,W.cell? ⟨b,off,S⟩=O (.slice G n1 c1)/\W.cell? ⟨b,off+1,S⟩=O (.slice I n2 c2)/\fP W G n1 c1 x.args/\fP W I n2 c2 x.outs:=by
 obtain⟨o,m,_,hd,_,a1,hf⟩:=DataW.trod_struct Tryz.underlying64 h;have U:DataW.trod enc Tryz.prog W 0 (fun _=>true) D m 47 ((cs.drop 0).take (Tryz.prog.cellsOf 47))=o[0]?:=hf 0 _ rfl;have g1:DataW.trod enc Tryz.prog W 0 (fun _=>true) D m 47 ((cs.drop 1).take (Tryz.prog.cellsOf 47))=o[1]?:=hf 1 _ rfl;have a0:o.length=2:=a1;rw[AP]at U g1;simp only[ZB]at hd;obtain⟨rfl,rfl⟩:=hd
 match cs,hl,o,a0,U,g1,Z,F,Y with
 | [c0,c1],_,[y0,y1],_,U,g1,Z,F,Y =>
  obtain⟨G,n1,k1,l1,e1,r1⟩:=mV (d:=y0.1) (p:=y0.2) U (hI (j:=0) Tryz.underlying64 rfl rfl Z) (fun x hx=>F x (by simp[hx]));obtain⟨I,n2,k2,l2,e2,r2⟩:=mV (d:=y1.1) (p:=y1.2) g1 (hI (j:=1) Tryz.underlying64 rfl rfl Z) (fun x hx=>F x (by simp[hx]));have s:c0=.slice G n1 k1:=by simpa using e1
  have z:c1=.slice I n2 k2:=by simpa using e2
  subst s z;exact⟨⟨l1,l2⟩,G,n1,k1,I,n2,k2,Y 0 aA,Y 1 aA,r1,r2⟩
theorem E3{W:aAB}{D:Bool}{fuel:Nat}{cs:List Value}{d:DataW H}{p:List MemPlace}(h:DataW.trod enc Tryz.prog W 0 (fun _=>true) D fuel 59 cs=O (d,p))(Y:∀n∈d.weights Tryz.prog 59,n<=reachBytes)(F:∀x∈p,x.block<W.heap.size):∃A n c l,cs=[.slice A n c]/\vJ W A n c l:=by
 obtain⟨A,n,c,Z,e,G,o,I,s,U⟩:=kT 2 48 Tryz.underlying59 MM ML aE (X:=Ct) _ NA h Y F;exact⟨A,n,c,Z,e,G,by simp only[reachBytes]at I;omega,U⟩
theorem IZ{W:aAB}{D:Bool}(fuel:Nat)(cs:List Value)(d:DataW H)(pl:List MemPlace)(b off:Nat)(h:DataW.trod enc Tryz.prog W 0 (fun _=>true) D fuel 61 cs=O (d,pl))(hl:cs.length=7)(I:∀j,j<7->W.cell? ⟨b,off+j,S⟩=cs[j]?)(Z:∀n∈d.weights Tryz.prog 61,n<=reachBytes)(F:∀x∈pl,x.block<W.heap.size):
 ∃x:En,∃v:jY,(W.cell? ⟨b,off,S⟩=O (.int .i64 x.kind)/\W.cell? ⟨b,off+1,S⟩=O (.slice v.As v.ns v.cs)/\W.cell? ⟨b,off+2,S⟩=O (.slice v.Ap v.np v.cp)/\W.cell? ⟨b,off+3,S⟩=O (.slice v.Ai v.ni v.ci)/\W.cell? ⟨b,off+4,S⟩=O (.slice v.Ac v.nc v.cc)/\W.cell? ⟨b,off+5,S⟩=O (.slice v.At v.nt v.ct)/\W.cell? ⟨b,off+6,S⟩=O (.slice v.Ab v.nb v.cb)/\DQ W v x)/\(Lit.int .i64 x.kind).wf=true:=by
 obtain⟨Y,m,_,hd,_,a8,s⟩:=DataW.trod_struct Tryz.underlying61 h;have z:DataW.trod enc Tryz.prog W 0 (fun _=>true) D m 3 ((cs.drop 0).take (Tryz.prog.cellsOf 3))=Y[0]?:=s 0 _ rfl;have g1:DataW.trod enc Tryz.prog W 0 (fun _=>true) D m 29 ((cs.drop 1).take (Tryz.prog.cellsOf 29))=Y[1]?:=s 1 _ rfl;have g2:DataW.trod enc Tryz.prog W 0 (fun _=>true) D m 47 ((cs.drop 2).take (Tryz.prog.cellsOf 47))=Y[2]?:=s 2 _ rfl;have g3:DataW.trod enc Tryz.prog W 0 (fun _=>true) D m 47 ((cs.drop 3).take (Tryz.prog.cellsOf 47))=Y[3]?:=s 3 _ rfl;have g4:DataW.trod enc Tryz.prog W 0 (fun _=>true) D m 59 ((cs.drop 4).take (Tryz.prog.cellsOf 59))=Y[4]?:=s 4 _ rfl;have g5:DataW.trod enc Tryz.prog W 0 (fun _=>true) D m 29 ((cs.drop 5).take (Tryz.prog.cellsOf 29))=Y[5]?:=s 5 _ rfl;have g6:DataW.trod enc Tryz.prog W 0 (fun _=>true) D m 29 ((cs.drop 6).take (Tryz.prog.cellsOf 29))=Y[6]?:=s 6 _ rfl;have a7:Y.length=7:=a8;rw[lZ]at z;rw[pI]at g1 g5 g6;rw[AP]at g2 g3;rw[G5]at g4;simp only[ZB]at hd;obtain⟨rfl,rfl⟩:=hd
 match cs,hl,Y,a7,z,g1,g2,g3,g4,g5,g6,Z,F,I with
 | [c0,c1,c2,c3,c4,c5,c6],_,[y0,y1,y2,y3,y4,y5,y6],_,z,g1,g2,g3,g4,g5,g6,Z,F,I =>
  have U:=Tryz.underlying61;obtain⟨o,e0,_,wo⟩:=DataW.trod_int Tryz.underlying3 (x:=y0) z;obtain⟨A1,n1,k1,l1,e1,r1⟩:=iN (d:=y1.1) (p:=y1.2) g1 (hI (j:=1) U rfl rfl Z) (fun x G=>F x (by simp[G]));obtain⟨A2,n2,k2,l2,e2,r2⟩:=mV (d:=y2.1) (p:=y2.2) g2 (hI (j:=2) U rfl rfl Z) (fun x G=>F x (by simp[G]));obtain⟨A3,n3,k3,l3,e3,r3⟩:=mV (d:=y3.1) (p:=y3.2) g3 (hI (j:=3) U rfl rfl Z) (fun x G=>F x (by simp[G]));obtain⟨A4,n4,k4,l4,e4,r4⟩:=E3 (d:=y4.1) (p:=y4.2) g4 (hI (j:=4) U rfl rfl Z) (fun x G=>F x (by simp[G]));obtain⟨A5,n5,k5,l5,e5,r5⟩:=iN (d:=y5.1) (p:=y5.2) g5 (hI (j:=5) U rfl rfl Z) (fun x G=>F x (by simp[G]));obtain⟨A6,n6,k6,l6,e6,r6⟩:=iN (d:=y6.1) (p:=y6.2) g6 (hI (j:=6) U rfl rfl Z) (fun x G=>F x (by simp[G]));have a0:c0=.int .i64 o:=by simpa using e0
  have a1:c1=.slice A1 n1 k1:=by simpa using e1
  have a2:c2=.slice A2 n2 k2:=by simpa using e2
  have a3:c3=.slice A3 n3 k3:=by simpa using e3
  have a4:c4=.slice A4 n4 k4:=by simpa using e4
  have a5:c5=.slice A5 n5 k5:=by simpa using e5
  have a6:c6=.slice A6 n6 k6:=by simpa using e6
  subst a0 a1 a2 a3 a4 a5 a6;exact⟨⟨o,l1,l2,l3,l4,l5,l6⟩,⟨A1,n1,k1,A2,n2,k2,A3,n3,k3,A4,n4,k4,A5,n5,k5,A6,n6,k6⟩,⟨I 0 aA,I 1 aA,I 2 aA,I 3 aA,I 4 aA,I 5 aA,I 6 aA,r1,r2,r3,r4,r5,r6⟩,wo⟩
theorem yT{W:aAB}{D:Bool}{fuel:Nat}{cs:List Value}{d:DataW H}{p:List MemPlace}(h:DataW.trod enc Tryz.prog W 0 (fun _=>true) D fuel 23 cs=O (d,p))(hw:∀n∈d.weights Tryz.prog 23,n<=reachBytes)(U:∀x∈p,x.block<W.heap.size):∃A n c l,cs=[.slice A n c]/\BM W A n c l/\∀x∈l,(Lit.int .i64 x.kind).wf=true:=by
 obtain⟨A,n,c,xs,e,o,h2,s,h4,Y⟩:=kT 7 152 Tryz.underlying23 H9 H8 aE (X:=En) _ IZ h hw U;refine⟨A,n,c,xs,e,⟨o,by simp only[reachBytes]at s;omega,fun z=>?_⟩,fun x hx=>?_⟩
 . obtain⟨b,off,e,Z,F⟩:=Y z;refine⟨b,off,e,Z,fun k I=>?_⟩;obtain⟨v,hv,_⟩:=F k I;exact⟨v,hv⟩
 obtain⟨k,F,rfl⟩:=ZL hx;obtain⟨b,off,e,Z,G⟩:=Y aA;obtain⟨v,_,hv⟩:=G k aA
 rwa [YD,YB F]at hv
theorem I0{W:aAB}{D:Bool}(fuel:Nat)(cs:List Value)(d:DataW H)(pl:List MemPlace)(b off:Nat)(h:DataW.trod enc Tryz.prog W 0 (fun _=>true) D fuel 66 cs=O (d,pl))(hl:cs.length=3)(F:∀j,j<3->W.cell? ⟨b,off+j,S⟩=cs[j]?):∃x,vL W b off x:=by
 obtain⟨G,m,_,_,_,s,Y⟩:=DataW.trod_struct Tryz.underlying66 h;have I:DataW.trod enc Tryz.prog W 0 (fun _=>true) D m 3 ((cs.drop 0).take (Tryz.prog.cellsOf 3))=G[0]?:=Y 0 _ rfl;have g1:DataW.trod enc Tryz.prog W 0 (fun _=>true) D m 3 ((cs.drop 1).take (Tryz.prog.cellsOf 3))=G[1]?:=Y 1 _ rfl;have U:DataW.trod enc Tryz.prog W 0 (fun _=>true) D m 3 ((cs.drop 2).take (Tryz.prog.cellsOf 3))=G[2]?:=Y 2 _ rfl;have Z:G.length=3:=s;rw[lZ]at I g1 U
 match cs,hl,G,Z,I,g1,U,F with
 | [c0,c1,c2],_,[y0,y1,y2],_,I,g1,U,F =>
  obtain⟨o,ho,_⟩:=DataW.trod_int Tryz.underlying3 (x:=y0) I;obtain⟨a,ha,_⟩:=DataW.trod_int Tryz.underlying3 (x:=y1) g1;obtain⟨z,hz,_⟩:=DataW.trod_int Tryz.underlying3 (x:=y2) U;simp at ho ha hz;subst ho ha hz;exact⟨⟨o,a,z⟩,F 0 aA,F 1 aA,F 2 aA⟩
theorem CU{W:aAB}{D:Bool}{fuel:Nat}{cs:List Value}{d:DataW H}{p:List MemPlace}(h:DataW.trod enc Tryz.prog W 0 (fun _=>true) D fuel 22 cs=O (d,p))(s:∀n∈d.weights Tryz.prog 22,n<=reachBytes)(F:∀x∈p,x.block<W.heap.size):∃A n c l,cs=[.slice A n c]/\aX W A n c l:=by
 obtain⟨A,n,c,z,e,I,U,Y,Z,o⟩:=kT 3 24 Tryz.underlying22 I3 I2 aE (vL W) (fun f cs d pl b off a1 a2 G _ _=>I0 f cs d pl b off a1 a2 G) h s F;exact⟨A,n,c,z,e,LM I U Y Z o⟩
theorem NC{W:aAB}{D:Bool}(fuel:Nat)(cs:List Value)(d:DataW H)(pl:List MemPlace)(b off:Nat)(h:DataW.trod enc Tryz.prog W 0 (fun _=>true) D fuel 69 cs=O (d,pl))(z:cs.length=2)(G:∀j,j<2->W.cell? ⟨b,off+j,S⟩=cs[j]?):
 ∃x:Int×Int,(W.cell? ⟨b,off,S⟩=O (.int .i64 x.1)/\W.cell? ⟨b,off+1,S⟩=O (.int .i64 x.2))/\(Lit.int .i64 x.1).wf=true/\(Lit.int .i64 x.2).wf=true:=by
 obtain⟨I,m,_,_,_,Y,Z⟩:=DataW.trod_struct Tryz.underlying69 h;have F:DataW.trod enc Tryz.prog W 0 (fun _=>true) D m 3 ((cs.drop 0).take (Tryz.prog.cellsOf 3))=I[0]?:=Z 0 _ rfl;have g1:DataW.trod enc Tryz.prog W 0 (fun _=>true) D m 3 ((cs.drop 1).take (Tryz.prog.cellsOf 3))=I[1]?:=Z 1 _ rfl;have U:I.length=2:=Y;rw[lZ]at F g1
 match cs,z,I,U,F,g1,G with
 | [c0,c1],_,[y0,y1],_,F,g1,G =>
  obtain⟨o,s,_,w0⟩:=DataW.trod_int Tryz.underlying3 (x:=y0) F;obtain⟨a,ha,_,w1⟩:=DataW.trod_int Tryz.underlying3 (x:=y1) g1;simp at s ha;subst s ha;exact⟨(o,a),⟨G 0 aA,G 1 aA⟩,w0,w1⟩
theorem E4{W:aAB}{D:Bool}{fuel:Nat}{cs:List Value}{d:DataW H}{p:List MemPlace}(h:DataW.trod enc Tryz.prog W 0 (fun _=>true) D fuel 24 cs=O (d,p))(hw:∀n∈d.weights Tryz.prog 24,n<=reachBytes)(U:∀x∈p,x.block<W.heap.size):∃A n c l,cs=[.slice A n c]/\GK W A n c l/\(∀p∈l,(Lit.int .i64 p.1).wf=true/\(Lit.int .i64 p.2).wf=true)/\(A=S->c=0):=by
 obtain⟨A,n,c,xs,e,s,h2,z,h4,Y⟩:=kT 2 16 Tryz.underlying24 NJ NI aE (X:=Int×Int) _ (fun f cs d pl b off a1 a2 o _ _=>NC (W:=W) f cs d pl b off a1 a2 o) h hw U;refine⟨A,n,c,xs,e,⟨s,by simp only[reachBytes]at z;omega,fun hn=>?_⟩,fun x hx=>?_,h4⟩
 . obtain⟨b,off,e,Z,F⟩:=Y hn;exact⟨b,off,e,Z,fun k I=>(F k I).1⟩
 obtain⟨k,F,rfl⟩:=ZL hx;obtain⟨b,off,e,Z,G⟩:=Y aA;have hv:=(G k aA).2
 rwa [YD,YB F]at hv
end
end
section
set_option maxRecDepth 100000
open Go.ChangeShapes Go.WideShapes Go.RowKit
variable {H : Type}{enc : TypeId × Value->H}
theorem L9:Tryz.prog.cellsOf 51=2:=by kernel_rfl
theorem L8:Tryz.prog.bytesOf 51=48:=by kernel_rfl
theorem GU:Tryz.prog.cellsOf 27=1:=by kernel_rfl
theorem MB:Tryz.prog.cellsOf 31=8:=by kernel_rfl
def OG(W:aAB)(b off:Nat)(x:List Nd×List Nd):Prop:=∃D n1 c1 F n2 c2,W.cell? ⟨b,off,S⟩=O (.slice D n1 c1)/\W.cell? ⟨b,off+1,S⟩=O (.slice F n2 c2)/\aX W D n1 c1 x.1/\aX W F n2 c2 x.2
theorem M8{W:aAB}{D:Bool}(fuel:Nat)(cs:List Value)(d:DataW H)(pl:List MemPlace)(b off:Nat)(h:DataW.trod enc Tryz.prog W 0 (fun _=>true) D fuel 51 cs=O (d,pl))(hl:cs.length=2)(I:∀j,j<2->W.cell? ⟨b,off+j,S⟩=cs[j]?)(Y:∀n∈d.weights Tryz.prog 51,n<=reachBytes)(F:∀x∈pl,x.block<W.heap.size):∃x,OG W b off x:=by
 obtain⟨Z,m,_,hd,_,a1,hf⟩:=DataW.trod_struct Tryz.underlying51 h;have G:DataW.trod enc Tryz.prog W 0 (fun _=>true) D m 29 ((cs.drop 0).take (Tryz.prog.cellsOf 29))=Z[0]?:=hf 0 _ rfl;have g1:DataW.trod enc Tryz.prog W 0 (fun _=>true) D m 29 ((cs.drop 1).take (Tryz.prog.cellsOf 29))=Z[1]?:=hf 1 _ rfl;have a0:Z.length=2:=a1;rw[pI]at G g1;simp only[ZB]at hd;obtain⟨rfl,rfl⟩:=hd
 match cs,hl,Z,a0,G,g1,Y,F,I with
 | [c0,c1],_,[y0,y1],_,G,g1,Y,F,I =>
  have U:=Tryz.underlying51;obtain⟨A1,n1,k1,l1,e1,r1⟩:=iN (d:=y0.1) (p:=y0.2) G (hI (j:=0) U rfl rfl Y) (fun x z=>F x (by simp[z]));obtain⟨A2,n2,k2,l2,e2,r2⟩:=iN (d:=y1.1) (p:=y1.2) g1 (hI (j:=1) U rfl rfl Y) (fun x z=>F x (by simp[z]));have o:c0=.slice A1 n1 k1:=by simpa using e1
  have s:c1=.slice A2 n2 k2:=by simpa using e2
  subst o s;exact⟨(l1,l2),A1,n1,k1,A2,n2,k2,I 0 aA,I 1 aA,r1,r2⟩
theorem E2{W:aAB}{D:Bool}{fuel:Nat}{cs:List Value}{d:DataW H}{p:List MemPlace}(h:DataW.trod enc Tryz.prog W 0 (fun _=>true) D fuel 27 cs=O (d,p))(hw:∀n∈d.weights Tryz.prog 27,n<=reachBytes)(G:∀x∈p,x.block<W.heap.size):∃A n c bs,cs=[.slice A n c]/\kJ (· < W.heap.size) W A n c bs:=by
 obtain⟨A,n,c,xs,e,s,z,h3,h4,h5⟩:=kT 2 48 Tryz.underlying27 L9 L8 aE (X:=List Nd×List Nd) (OG W) (fun f cs d pl b off a1 a2 Y Z o=>M8 f cs d pl b off a1 a2 Y Z o) h hw G;refine⟨A,n,c,xs,e,s,z,by simp only[reachBytes]at h3;omega,h4,fun hn=>?_⟩;obtain⟨b,off,e,hb,hk⟩:=h5 hn;refine⟨b,off,e,hb,fun k F=>?_⟩;obtain⟨I,n1,c1,U,n2,c2,r1,r2,r3,r4⟩:=hk k F;exact⟨I,n1,c1,U,n2,c2,r1,r2,r3,r4⟩
theorem IY{W:aAB}{D:Bool}{fuel:Nat}{cs:List Value}{d:DataW H}{p:List MemPlace}(hl:cs.length=5)(h:DataW.trod enc Tryz.prog W 0 (fun _=>true) D fuel 26 cs=O (d,p))
 (s:∀n∈d.weights Tryz.prog 26,n<=reachBytes) (G:∀x∈p,x.block<W.heap.size) :
 ∃(F:bR)(bk:Bk),cs=[.int .i64 bk.vars,.slice F.Ao F.no F.co,.slice F.Ae F.ne F.ce,.int .i64 bk.nat,.slice F.Ap F.np F.cp]/\cE W F bk/\(F.Ap=S->F.cp=0):=by
 obtain⟨I,m,_,hd,_,a6,Y⟩:=DataW.trod_struct Tryz.underlying26 h;have g0:DataW.trod enc Tryz.prog W 0 (fun _=>true) D m 3 ((cs.drop 0).take (Tryz.prog.cellsOf 3))=I[0]?:=Y 0 _ rfl;have g1:DataW.trod enc Tryz.prog W 0 (fun _=>true) D m 22 ((cs.drop 1).take (Tryz.prog.cellsOf 22))=I[1]?:=Y 1 _ rfl;have g2:DataW.trod enc Tryz.prog W 0 (fun _=>true) D m 23 ((cs.drop 2).take (Tryz.prog.cellsOf 23))=I[2]?:=Y 2 _ rfl;have g3:DataW.trod enc Tryz.prog W 0 (fun _=>true) D m 3 ((cs.drop 3).take (Tryz.prog.cellsOf 3))=I[3]?:=Y 3 _ rfl;have g4:DataW.trod enc Tryz.prog W 0 (fun _=>true) D m 24 ((cs.drop 4).take (Tryz.prog.cellsOf 24))=I[4]?:=Y 4 _ rfl;have a5:I.length=5:=a6;rw[lZ]at g0 g3;rw[E6]at g1;rw[CE]at g2;rw[I6]at g4;simp only[ZB]at hd;obtain⟨rfl,rfl⟩:=hd
 match cs,hl,I,a5,g0,g1,g2,g3,g4,s,G with
 | [c0,c1,c2,c3,c4],_,[y0,y1,y2,y3,y4],_,g0,g1,g2,g3,g4,s,G =>
  have U:=Tryz.underlying26;obtain⟨o,e0,_,w0⟩:=DataW.trod_int Tryz.underlying3 (x:=y0) g0;obtain⟨A1,n1,k1,l1,e1,r1⟩:=CU (d:=y1.1) (p:=y1.2) g1 (hI (j:=1) U rfl rfl s) (fun x hx=>G x (by simp[hx]));obtain⟨A2,n2,k2,l2,e2,r2,wk⟩:=yT (d:=y2.1) (p:=y2.2) g2 (hI (j:=2) U rfl rfl s) (fun x hx=>G x (by simp[hx]));obtain⟨z,e3,_,w3⟩:=DataW.trod_int Tryz.underlying3 (x:=y3) g3;obtain⟨A4,n4,k4,l4,e4,r4,wp,Z⟩:=E4 (d:=y4.1) (p:=y4.2) g4 (hI (j:=4) U rfl rfl s) (fun x hx=>G x (by simp[hx]));have a0:c0=.int .i64 o:=by simpa using e0
  have a1:c1=.slice A1 n1 k1:=by simpa using e1
  have a2:c2=.slice A2 n2 k2:=by simpa using e2
  have a3:c3=.int .i64 z:=by simpa using e3
  have a4:c4=.slice A4 n4 k4:=by simpa using e4
  subst a0 a1 a2 a3 a4;exact⟨⟨A1,n1,k1,A2,n2,k2,A4,n4,k4⟩,⟨o,l1,l2,z,l4⟩,rfl,⟨r1,r2,r4,w0,w3,wk,wp⟩,Z⟩
def KD(v:bR)(b:Bk)(cA:ZZ)(cn cc:Nat)(A:ZZ)(n c:Nat)(fuel:Int):Value:=.agg #[.int .i64 b.vars,.slice v.Ao v.no v.co,.slice v.Ae v.ne v.ce,.int .i64 b.nat,.slice v.Ap v.np v.cp,.slice cA cn cc,.slice A n c,.int .i64 fuel]
theorem M9{W:aAB}{base:Nat}{D:Bool}{v:Value}{d:DataW H}{p:List MemPlace}(hv:Value.okWide Tryz.prog W .any base 31 v)(h:DataW.Trod enc Tryz.prog W 0 (fun _=>true) D 31 v d p)
 (hw:∀n∈d.weights Tryz.prog 31,n<=reachBytes) (F:∀x∈p,x.block<W.heap.size) :
 ∃(G:bR)(bk:Bk)(cA:ZZ)(cn cc:Nat)(bs:List (List Nd×List Nd))(A:ZZ)(n c:Nat)(l:List Nd)(fuel:Int),v=KD G bk cA cn cc A n c fuel/\cE W G bk/\(G.Ap=S->G.cp=0)/\kJ (· < W.heap.size) W cA cn cc bs/\aX W A n c l/\(Lit.int .i64 fuel).wf=true:=by
 obtain⟨cs,rfl,a1⟩:=okWide_struct Tryz.underlying31 hv;obtain⟨cs⟩:=cs;obtain⟨fuel,I⟩:=h;obtain⟨Y,m,_,hd,_,a3,I⟩:=DataW.trod_struct Tryz.underlying31 I;have hl:cs.length=8:=by simpa using a1.trans MB
 have Z:DataW.trod enc Tryz.prog W 0 (fun _=>true) D m 26 (((Value.cells (.agg ⟨cs⟩)).toList.drop 0).take (Tryz.prog.cellsOf 26))=Y[0]?:=I 0 _ rfl;have g1:DataW.trod enc Tryz.prog W 0 (fun _=>true) D m 27 (((Value.cells (.agg ⟨cs⟩)).toList.drop 5).take (Tryz.prog.cellsOf 27))=Y[1]?:=I 1 _ rfl;have s:DataW.trod enc Tryz.prog W 0 (fun _=>true) D m 29 (((Value.cells (.agg ⟨cs⟩)).toList.drop 6).take (Tryz.prog.cellsOf 29))=Y[2]?:=I 2 _ rfl;have z:DataW.trod enc Tryz.prog W 0 (fun _=>true) D m 3 (((Value.cells (.agg ⟨cs⟩)).toList.drop 7).take (Tryz.prog.cellsOf 3))=Y[3]?:=I 3 _ rfl;have a2:Y.length=4:=a3;rw[MA]at Z;rw[GU]at g1;rw[pI]at s;rw[lZ]at z;simp only[ZB]at hd;obtain⟨rfl,rfl⟩:=hd
 match cs,hl,Y,a2,Z,g1,s,z,hw,F with
 | [c0,c1,c2,c3,c4,c5,c6,c7],_,[y0,y1,y2,y3],_,Z,g1,s,z,hw,F =>
  have U:=Tryz.underlying31;simp only[Value.cells]at Z g1 s z;obtain⟨G,bk,e0,r0,a0⟩:=IY (d:=y0.1) (p:=y0.2) aF Z (hI (j:=0) U rfl rfl hw) (fun x hx=>F x (by simp[hx]));obtain⟨A1,n1,k1,l1,e1,r1⟩:=E2 (d:=y1.1) (p:=y1.2) g1 (hI (j:=1) U rfl rfl hw) (fun x hx=>F x (by simp[hx]));obtain⟨A2,n2,k2,l2,e2,r2⟩:=iN (d:=y2.1) (p:=y2.2) s (hI (j:=2) U rfl rfl hw) (fun x hx=>F x (by simp[hx]));obtain⟨o,e3,_,w3⟩:=DataW.trod_int Tryz.underlying3 (x:=y3) z;simp at e0 e1 e2 e3;obtain⟨rfl,rfl,rfl,rfl,rfl⟩:=e0;subst e1 e2 e3;exact⟨G,bk,A1,n1,k1,l1,A2,n2,k2,l2,o,rfl,r0,a0,r1,r2,w3⟩
end
end Go.Proofs.YtjoddliplahgkaaGreat
