/- Merged: OpenB, OpenC. -/
import Derived.Test.YtjoddliplahgkaaGreatPJoin
namespace Go.Proofs.YtjoddliplahgkaaGreat
set_option linter.unusedVariables false
set_option linter.unusedSimpArgs false
open Option renaming some → O, none → S
section
set_option maxRecDepth 100000
open Go.ChangeShapes Go.WideShapes Go.ChangeAt Go.RowKit Go.Deep
theorem oO {H:Type} {P:Program} {e:TypeId} {n:Nat} : ∀{l:List (DataW H)} {d:DataW H},d ∈ l->n ∈ d.weights P e->n ∈ DataW.weightsAll P e l
 | [],_,h,_=>by cases h
 | x::l,d,h,hn=>by
  simp only[DataW.weightsAll,List.mem_append];rcases List.mem_cons.1 h with rfl | h
  · exact .inl hn
  · exact .inr (oO h hn)
section
variable {H : Type} {enc : TypeId × Value->H}
theorem j8 {P:Program} {W:World} {held:Bool} {t e:TypeId} (C B:Nat) (ht:P.underlying t=O (.slice e)) (hC:P.cellsOf e=C) (hB:P.bytesOf e=B) (hC0:0<C) {X:Type} [Inhabited X] (Rd:Nat->Nat->X->Prop)
 (helem:∀(fuel:Nat) (cs:List Value) (d:DataW H) (pl:List MemPlace) (b off:Nat),DataW.trod enc P W 0 (fun _=>true) held fuel e cs=O (d,pl)->cs.length=C->(∀j,j<C->W.cell? ⟨b,off+j,S⟩=cs[j]?)->(∀n ∈ d.weights P e,n<=reachBytes)->(∀x ∈ pl,x.block<W.heap.size)->∃x,Rd b off x)
 {fuel:Nat} {cs:List Value} {d:DataW H} {p:List MemPlace} (h:DataW.trod enc P W 0 (fun _=>true) held fuel t cs=O (d,p)) (hw:∀n ∈ d.weights P t,n<=reachBytes) (hlt:∀x ∈ p,x.block<W.heap.size) :
 ∃A n c,∃xs:List X,cs=[.slice A n c]/\xs.length=n/\n<=c/\n*B<=reachBytes/\(A=S->c=0)/\(0<n->∃b off,A=O ⟨b,off,S⟩/\b<W.heap.size/\∀k,k<n->Rd b (off+k*C) (xs.getD k default)):=by
 rcases open_slice ht h with⟨rfl,hx⟩ | ⟨a,len,cap,m,n,D,Pl,rfl,_,hl,hm,a7,hx,hi⟩
 · exact⟨S,0,0,[],rfl,rfl,Nat.le_refl _,by simp,fun _=>rfl,fun h=>absurd h aE⟩
 simp only[Prod.mk.injEq] at hx;obtain⟨rfl,rfl⟩:=hx;simp only[if_true] at a7;subst a7;have a9:DataW.weights P t (DataW.slice ((List.range len).map D) ((List.range (m-len)).map fun j=>D (len+j)))=(((List.range len).map D).length+((List.range (m-len)).map fun j=>D (len+j)).length)*P.bytesOf e::(DataW.weightsAll P e ((List.range len).map D)++DataW.weightsAll P e ((List.range (m-len)).map fun j=>D (len+j))):=by
  simp only[DataW.weights,ht]
 rw[a9] at hw;have a0:=hw _ (List.mem_cons_self ..);rw[hB] at a0;simp only[List.length_map,List.length_range] at a0;rw[hC] at hi hlt;obtain⟨b,off,spot⟩:=a;have a1:len*B<=reachBytes:=Nat.le_trans (Nat.mul_le_mul_right _ aA) a0;by_cases hpos:0<len;rotate_left
 · obtain rfl:len=0:=aA;exact⟨_,_,_,[],rfl,rfl,hl,a1,(fun e=>by cases e),fun h=>absurd h hpos⟩
 have a2:spot=S:=by
  obtain⟨cs',hc,a6⟩:=hi 0 aA;obtain⟨_,a8,a5⟩:=World.cells?_some hc;have h0:=a5 0 hC0;rw[List.getElem?_eq_getElem aA] at h0;simpa[Addr.add] using World.cell?_spot h0
 subst a2;have hb:b<W.heap.size:=hlt (.cell b off) (List.mem_append.2 (.inl (MemPlace.mem_row.2 ⟨0,Nat.mul_pos aA hC0,by simp⟩)));have a3:∀i:Nat,∃x:X,i<len->Rd b (off+i*C) x:=by
  intro i;by_cases hil:i<len
  · obtain⟨cs',hc,a6⟩:=hi i aA;obtain⟨_,a8,a5⟩:=World.cells?_some hc;have a4:D i ∈ (List.range len).map D:=List.mem_map.2 ⟨i,by simpa using hil,rfl⟩;obtain⟨x,hx⟩:=helem n cs' (D i) (Pl i) b (off+i*C) a6 a8 (fun j hj=>by
     have:=a5 j hj;rw[add_plain,add_plain] at this;exact this) (fun k hk=>hw k (List.mem_cons_of_mem _ (List.mem_append_left _ (oO a4 hk)))) (fun x hx=>hlt x (List.mem_append_right _ (List.mem_flatMap.2 ⟨i,by simp;omega,hx⟩)))
    exact⟨x,fun _=>hx⟩
  exact⟨default,fun h=>absurd h hil⟩
 refine⟨_,_,_,(List.range len).map fun i=>(a3 i).choose,rfl,by simp,hl,a1,(fun e=>by cases e),fun _=>⟨b,off,rfl,hb,fun k hk => ?_⟩⟩;have:=(a3 k).choose_spec hk;simpa[hk] using this
theorem nX:Tryz.prog.cellsOf 29=1:=by kernel_rfl
theorem KL:Tryz.prog.bytesOf 29=24:=by kernel_rfl
def tA (W:World) (b off:Nat) (x:Nd):Prop:=W.cell? ⟨b,off,S⟩=O (.int .i64 x.op)/\W.cell? ⟨b,off+1,S⟩=O (.int .i64 x.a)/\W.cell? ⟨b,off+2,S⟩=O (.int .i64 x.b)
theorem JP {W:World} {held:Bool} (fuel:Nat) (cs:List Value) (d:DataW H) (pl:List MemPlace) (b off:Nat) (h:DataW.trod enc Tryz.prog W 0 (fun _=>true) held fuel 46 cs=O (d,pl)) (_:cs.length=3) (hc:∀j,j<3->W.cell? ⟨b,off+j,S⟩=cs[j]?) : ∃x,tA W b off x:=by
 obtain⟨o,a,c,rfl⟩:=O7 h;exact⟨⟨o,a,c⟩,hc 0 aA,hc 1 aA,hc 2 aA⟩
theorem IA {W:World} {A:Option Addr} {n c:Nat} {xs:List Nd} (h1:xs.length=n) (h2:n<=c) (h3:n*24<=reachBytes) (h4:A=S->c=0) (h5:0<n->∃b off,A=O ⟨b,off,S⟩/\b<W.heap.size/\∀k,k<n->tA W b (off+k*3) (xs.getD k default)):aY W A n c xs :=
 ⟨h1,h2,by simp only[reachBytes] at h3;omega,h4,fun hn=>by
  obtain⟨b,off,e,hb,hk⟩:=h5 hn;exact⟨b,off,e,hb,fun k hkl=>hk k aA⟩⟩
theorem gX {W:World} {held:Bool} {fuel:Nat} {cs:List Value} {d:DataW H} {p:List MemPlace} (h:DataW.trod enc Tryz.prog W 0 (fun _=>true) held fuel 29 cs=O (d,p)) (hw:∀n ∈ d.weights Tryz.prog 29,n<=reachBytes) (hlt:∀x ∈ p,x.block<W.heap.size) : ∃A n c l,cs=[.slice A n c]/\aY W A n c l:=by
 obtain⟨A,n,c,xs,e,h1,h2,h3,h4,h5⟩:=j8 3 24 Tryz.underlying29 wW JJ aE (tA W) (fun f cs d pl b off a1 a2 a3 _ _=>JP f cs d pl b off a1 a2 a3) h hw hlt;exact⟨A,n,c,xs,e,IA h1 h2 h3 h4 h5⟩
theorem lV {W:World} {held:Bool} {fuel:Nat} {cs:List Value} {d:DataW H} {p:List MemPlace} (h:DataW.trod enc Tryz.prog W 0 (fun _=>true) held fuel 47 cs=O (d,p)) (hw:∀n ∈ d.weights Tryz.prog 47,n<=reachBytes) (hlt:∀x ∈ p,x.block<W.heap.size) : ∃A n c l,cs=[.slice A n c]/\fF W A n c l:=by
 obtain⟨A,n,c,xs,e,h1,h2,h3,h4,h5⟩:=j8 1 24 Tryz.underlying47 nX KL aE (X:=List Nd) (fun b off l=>∃A n c,W.cell? ⟨b,off,S⟩=O (.slice A n c)/\aY W A n c l) (fun f cs d pl b off a1 a2 a3 a4 a5=>by
  obtain⟨A,n,c,l,rfl,ht⟩:=gX a1 a4 a5;exact⟨l,A,n,c,a3 0 aA,ht⟩) h hw hlt
 refine⟨A,n,c,xs,e,h1,by simp only[reachBytes] at h3;omega,fun hn => ?_⟩;obtain⟨b,off,e,hb,hk⟩:=h5 hn;exact⟨b,off,e,hb,fun k hkn=>by
  have:=hk k hkn;rw[Nat.mul_one] at this;exact this⟩
theorem xM:Tryz.prog.cellsOf 47=1:=by kernel_rfl
theorem I3:Tryz.prog.cellsOf 64=2:=by kernel_rfl
theorem I2:Tryz.prog.bytesOf 64=48:=by kernel_rfl
theorem EC:Tryz.prog.cellsOf 59=1:=by kernel_rfl
theorem EM:Tryz.prog.cellsOf 61=7:=by kernel_rfl
theorem EL:Tryz.prog.bytesOf 61=152:=by kernel_rfl
theorem E9:Tryz.prog.cellsOf 66=3:=by kernel_rfl
theorem E8:Tryz.prog.bytesOf 66=24:=by kernel_rfl
theorem JW:Tryz.prog.cellsOf 69=2:=by kernel_rfl
theorem JV:Tryz.prog.bytesOf 69=16:=by kernel_rfl
theorem IT:Tryz.prog.cellsOf 26=5:=by kernel_rfl
theorem CL:Tryz.prog.cellsOf 22=1:=by kernel_rfl
theorem yZ:Tryz.prog.cellsOf 23=1:=by kernel_rfl
theorem FC:Tryz.prog.cellsOf 24=1:=by kernel_rfl
theorem gP {P:Program} {t:TypeId} {fs:Array Field} {ds:List (DataW H)} {j:Nat} {u:TypeId} {d:DataW H} (ht:P.underlying t=O (.struct fs)) (hj:(fs.toList.map (·.type))[j]? = O u) (hd:ds[j]? = O d) (hw:∀n ∈ (DataW.agg ds).weights P t,n<=reachBytes) : ∀n ∈ d.weights P u,n<=reachBytes:=fun n hn=>hw n (by
 simp only[DataW.weights,ht];exact DataW.weights_mem_each hj hd n hn)
theorem JO {W:World} {held:Bool} (fuel:Nat) (cs:List Value) (d:DataW H) (pl:List MemPlace) (b off:Nat) (h:DataW.trod enc Tryz.prog W 0 (fun _=>true) held fuel 64 cs=O (d,pl)) (hl:cs.length=2) (hc:∀j,j<2->W.cell? ⟨b,off+j,S⟩=cs[j]?) (hw:∀n ∈ d.weights Tryz.prog 64,n<=reachBytes) (hlt:∀x ∈ pl,x.block<W.heap.size) :
 ∃x:Ct,∃A1 n1 c1 A2 n2 c2,W.cell? ⟨b,off,S⟩=O (.slice A1 n1 c1)/\W.cell? ⟨b,off+1,S⟩=O (.slice A2 n2 c2)/\fF W A1 n1 c1 x.args/\fF W A2 n2 c2 x.outs:=by
 obtain⟨xs,m,_,hd,_,a0,hf⟩:=DataW.trod_struct Tryz.underlying64 h;have g0:DataW.trod enc Tryz.prog W 0 (fun _=>true) held m 47 ((cs.drop 0).take (Tryz.prog.cellsOf 47))=xs[0]?:=hf 0 _ rfl;have g1:DataW.trod enc Tryz.prog W 0 (fun _=>true) held m 47 ((cs.drop 1).take (Tryz.prog.cellsOf 47))=xs[1]?:=hf 1 _ rfl;have a1:xs.length=2:=a0;rw[xM] at g0 g1;simp only[Prod.mk.injEq] at hd;obtain⟨rfl,rfl⟩:=hd
 match cs,hl,xs,a1,g0,g1,hw,hlt,hc with
 | [c0,c1],_,[y0,y1],_,g0,g1,hw,hlt,hc =>
  obtain⟨A1,n1,k1,l1,e1,r1⟩:=lV (d:=y0.1) (p:=y0.2) g0 (gP (j:=0) Tryz.underlying64 rfl rfl hw) (fun x hx=>hlt x (by simp[hx]));obtain⟨A2,n2,k2,l2,e2,r2⟩:=lV (d:=y1.1) (p:=y1.2) g1 (gP (j:=1) Tryz.underlying64 rfl rfl hw) (fun x hx=>hlt x (by simp[hx]));have a3:c0=.slice A1 n1 k1:=by simpa using e1
  have a2:c1=.slice A2 n2 k2:=by simpa using e2
  subst a3 a2;exact⟨⟨l1,l2⟩,A1,n1,k1,A2,n2,k2,hc 0 aA,hc 1 aA,r1,r2⟩
theorem CI {W:World} {held:Bool} {fuel:Nat} {cs:List Value} {d:DataW H} {p:List MemPlace} (h:DataW.trod enc Tryz.prog W 0 (fun _=>true) held fuel 59 cs=O (d,p)) (hw:∀n ∈ d.weights Tryz.prog 59,n<=reachBytes) (hlt:∀x ∈ p,x.block<W.heap.size) : ∃A n c l,cs=[.slice A n c]/\s8 W A n c l:=by
 obtain⟨A,n,c,xs,e,h1,h2,h3,h4,h5⟩:=j8 2 48 Tryz.underlying59 I3 I2 aE (X:=Ct) _ JO h hw hlt;exact⟨A,n,c,xs,e,h1,by simp only[reachBytes] at h3;omega,h5⟩
theorem E6 {W:World} {held:Bool} (fuel:Nat) (cs:List Value) (d:DataW H) (pl:List MemPlace) (b off:Nat) (h:DataW.trod enc Tryz.prog W 0 (fun _=>true) held fuel 61 cs=O (d,pl)) (hl:cs.length=7) (hc:∀j,j<7->W.cell? ⟨b,off+j,S⟩=cs[j]?) (hw:∀n ∈ d.weights Tryz.prog 61,n<=reachBytes) (hlt:∀x ∈ pl,x.block<W.heap.size) :
 ∃x:En,∃v:jF,(W.cell? ⟨b,off,S⟩=O (.int .i64 x.kind)/\W.cell? ⟨b,off+1,S⟩=O (.slice v.As v.ns v.cs)/\W.cell? ⟨b,off+2,S⟩=O (.slice v.Ap v.np v.cp)/\W.cell? ⟨b,off+3,S⟩=O (.slice v.Ai v.ni v.ci)/\W.cell? ⟨b,off+4,S⟩=O (.slice v.Ac v.nc v.cc)/\W.cell? ⟨b,off+5,S⟩=O (.slice v.At v.nt v.ct)/\W.cell? ⟨b,off+6,S⟩=O (.slice v.Ab v.nb v.cb)/\AL W v x)/\(Lit.int .i64 x.kind).wf=true:=by
 obtain⟨xs,m,_,hd,_,a0,hf⟩:=DataW.trod_struct Tryz.underlying61 h;have g0:DataW.trod enc Tryz.prog W 0 (fun _=>true) held m 3 ((cs.drop 0).take (Tryz.prog.cellsOf 3))=xs[0]?:=hf 0 _ rfl;have g1:DataW.trod enc Tryz.prog W 0 (fun _=>true) held m 29 ((cs.drop 1).take (Tryz.prog.cellsOf 29))=xs[1]?:=hf 1 _ rfl;have g2:DataW.trod enc Tryz.prog W 0 (fun _=>true) held m 47 ((cs.drop 2).take (Tryz.prog.cellsOf 47))=xs[2]?:=hf 2 _ rfl;have g3:DataW.trod enc Tryz.prog W 0 (fun _=>true) held m 47 ((cs.drop 3).take (Tryz.prog.cellsOf 47))=xs[3]?:=hf 3 _ rfl;have g4:DataW.trod enc Tryz.prog W 0 (fun _=>true) held m 59 ((cs.drop 4).take (Tryz.prog.cellsOf 59))=xs[4]?:=hf 4 _ rfl;have g5:DataW.trod enc Tryz.prog W 0 (fun _=>true) held m 29 ((cs.drop 5).take (Tryz.prog.cellsOf 29))=xs[5]?:=hf 5 _ rfl;have g6:DataW.trod enc Tryz.prog W 0 (fun _=>true) held m 29 ((cs.drop 6).take (Tryz.prog.cellsOf 29))=xs[6]?:=hf 6 _ rfl;have a1:xs.length=7:=a0;rw[kX] at g0;rw[nX] at g1 g5 g6;rw[xM] at g2 g3;rw[EC] at g4;simp only[Prod.mk.injEq] at hd;obtain⟨rfl,rfl⟩:=hd
 match cs,hl,xs,a1,g0,g1,g2,g3,g4,g5,g6,hw,hlt,hc with
 | [c0,c1,c2,c3,c4,c5,c6],_,[y0,y1,y2,y3,y4,y5,y6],_,g0,g1,g2,g3,g4,g5,g6,hw,hlt,hc =>
  have U:=Tryz.underlying61;obtain⟨o,e0,_,wo⟩:=DataW.trod_int Tryz.underlying3 (x:=y0) g0;obtain⟨A1,n1,k1,l1,e1,r1⟩:=gX (d:=y1.1) (p:=y1.2) g1 (gP (j:=1) U rfl rfl hw) (fun x hx=>hlt x (by simp[hx]));obtain⟨A2,n2,k2,l2,e2,r2⟩:=lV (d:=y2.1) (p:=y2.2) g2 (gP (j:=2) U rfl rfl hw) (fun x hx=>hlt x (by simp[hx]));obtain⟨A3,n3,k3,l3,e3,r3⟩:=lV (d:=y3.1) (p:=y3.2) g3 (gP (j:=3) U rfl rfl hw) (fun x hx=>hlt x (by simp[hx]));obtain⟨A4,n4,k4,l4,e4,r4⟩:=CI (d:=y4.1) (p:=y4.2) g4 (gP (j:=4) U rfl rfl hw) (fun x hx=>hlt x (by simp[hx]));obtain⟨A5,n5,k5,l5,e5,r5⟩:=gX (d:=y5.1) (p:=y5.2) g5 (gP (j:=5) U rfl rfl hw) (fun x hx=>hlt x (by simp[hx]));obtain⟨A6,n6,k6,l6,e6,r6⟩:=gX (d:=y6.1) (p:=y6.2) g6 (gP (j:=6) U rfl rfl hw) (fun x hx=>hlt x (by simp[hx]));have a8:c0=.int .i64 o:=by simpa using e0
  have a7:c1=.slice A1 n1 k1:=by simpa using e1
  have a6:c2=.slice A2 n2 k2:=by simpa using e2
  have a5:c3=.slice A3 n3 k3:=by simpa using e3
  have a4:c4=.slice A4 n4 k4:=by simpa using e4
  have a3:c5=.slice A5 n5 k5:=by simpa using e5
  have a2:c6=.slice A6 n6 k6:=by simpa using e6
  subst a8 a7 a6 a5 a4 a3 a2;exact⟨⟨o,l1,l2,l3,l4,l5,l6⟩,⟨A1,n1,k1,A2,n2,k2,A3,n3,k3,A4,n4,k4,A5,n5,k5,A6,n6,k6⟩,⟨hc 0 aA,hc 1 aA,hc 2 aA,hc 3 aA,hc 4 aA,hc 5 aA,hc 6 aA,r1,r2,r3,r4,r5,r6⟩,wo⟩
theorem vR {W:World} {held:Bool} {fuel:Nat} {cs:List Value} {d:DataW H} {p:List MemPlace} (h:DataW.trod enc Tryz.prog W 0 (fun _=>true) held fuel 23 cs=O (d,p)) (hw:∀n ∈ d.weights Tryz.prog 23,n<=reachBytes) (hlt:∀x ∈ p,x.block<W.heap.size) : ∃A n c l,cs=[.slice A n c]/\yL W A n c l/\∀x ∈ l,(Lit.int .i64 x.kind).wf=true:=by
 obtain⟨A,n,c,xs,e,h1,h2,h3,h4,h5⟩:=j8 7 152 Tryz.underlying23 EM EL aE (X:=En) _ E6 h hw hlt;refine⟨A,n,c,xs,e,⟨h1,by simp only[reachBytes] at h3;omega,fun hn => ?_⟩,fun x hx => ?_⟩
 · obtain⟨b,off,e,hb,hk⟩:=h5 hn;refine⟨b,off,e,hb,fun k hkn => ?_⟩;obtain⟨v,hv,_⟩:=hk k hkn;exact⟨v,hv⟩
 obtain⟨k,hk,rfl⟩:=List.getElem_of_mem hx;obtain⟨b,off,e,hb,a0⟩:=h5 aA;obtain⟨v,_,hv⟩:=a0 k aA
 rwa [List.getD_eq_getElem?_getD,List.getElem?_eq_getElem hk] at hv
theorem E7 {W:World} {held:Bool} (fuel:Nat) (cs:List Value) (d:DataW H) (pl:List MemPlace) (b off:Nat) (h:DataW.trod enc Tryz.prog W 0 (fun _=>true) held fuel 66 cs=O (d,pl)) (hl:cs.length=3) (hc:∀j,j<3->W.cell? ⟨b,off+j,S⟩=cs[j]?) : ∃x,tA W b off x:=by
 obtain⟨xs,m,_,_,_,a0,hf⟩:=DataW.trod_struct Tryz.underlying66 h;have g0:DataW.trod enc Tryz.prog W 0 (fun _=>true) held m 3 ((cs.drop 0).take (Tryz.prog.cellsOf 3))=xs[0]?:=hf 0 _ rfl;have g1:DataW.trod enc Tryz.prog W 0 (fun _=>true) held m 3 ((cs.drop 1).take (Tryz.prog.cellsOf 3))=xs[1]?:=hf 1 _ rfl;have g2:DataW.trod enc Tryz.prog W 0 (fun _=>true) held m 3 ((cs.drop 2).take (Tryz.prog.cellsOf 3))=xs[2]?:=hf 2 _ rfl;have a1:xs.length=3:=a0;rw[kX] at g0 g1 g2
 match cs,hl,xs,a1,g0,g1,g2,hc with
 | [c0,c1,c2],_,[y0,y1,y2],_,g0,g1,g2,hc =>
  obtain⟨o,ho,_⟩:=DataW.trod_int Tryz.underlying3 (x:=y0) g0;obtain⟨a,ha,_⟩:=DataW.trod_int Tryz.underlying3 (x:=y1) g1;obtain⟨z,hz,_⟩:=DataW.trod_int Tryz.underlying3 (x:=y2) g2;simp at ho ha hz;subst ho ha hz;exact⟨⟨o,a,z⟩,hc 0 aA,hc 1 aA,hc 2 aA⟩
theorem zK {W:World} {held:Bool} {fuel:Nat} {cs:List Value} {d:DataW H} {p:List MemPlace} (h:DataW.trod enc Tryz.prog W 0 (fun _=>true) held fuel 22 cs=O (d,p)) (hw:∀n ∈ d.weights Tryz.prog 22,n<=reachBytes) (hlt:∀x ∈ p,x.block<W.heap.size) : ∃A n c l,cs=[.slice A n c]/\aY W A n c l:=by
 obtain⟨A,n,c,xs,e,h1,h2,h3,h4,h5⟩:=j8 3 24 Tryz.underlying22 E9 E8 aE (tA W) (fun f cs d pl b off a1 a2 a3 _ _=>E7 f cs d pl b off a1 a2 a3) h hw hlt;exact⟨A,n,c,xs,e,IA h1 h2 h3 h4 h5⟩
theorem JQ {W:World} {held:Bool} (fuel:Nat) (cs:List Value) (d:DataW H) (pl:List MemPlace) (b off:Nat) (h:DataW.trod enc Tryz.prog W 0 (fun _=>true) held fuel 69 cs=O (d,pl)) (hl:cs.length=2) (hc:∀j,j<2->W.cell? ⟨b,off+j,S⟩=cs[j]?) :
 ∃x:Int×Int,(W.cell? ⟨b,off,S⟩=O (.int .i64 x.1)/\W.cell? ⟨b,off+1,S⟩=O (.int .i64 x.2))/\(Lit.int .i64 x.1).wf=true/\(Lit.int .i64 x.2).wf=true:=by
 obtain⟨xs,m,_,_,_,a0,hf⟩:=DataW.trod_struct Tryz.underlying69 h;have g0:DataW.trod enc Tryz.prog W 0 (fun _=>true) held m 3 ((cs.drop 0).take (Tryz.prog.cellsOf 3))=xs[0]?:=hf 0 _ rfl;have g1:DataW.trod enc Tryz.prog W 0 (fun _=>true) held m 3 ((cs.drop 1).take (Tryz.prog.cellsOf 3))=xs[1]?:=hf 1 _ rfl;have a1:xs.length=2:=a0;rw[kX] at g0 g1
 match cs,hl,xs,a1,g0,g1,hc with
 | [c0,c1],_,[y0,y1],_,g0,g1,hc =>
  obtain⟨o,ho,_,w0⟩:=DataW.trod_int Tryz.underlying3 (x:=y0) g0;obtain⟨a,ha,_,w1⟩:=DataW.trod_int Tryz.underlying3 (x:=y1) g1;simp at ho ha;subst ho ha;exact⟨(o,a),⟨hc 0 aA,hc 1 aA⟩,w0,w1⟩
theorem CJ {W:World} {held:Bool} {fuel:Nat} {cs:List Value} {d:DataW H} {p:List MemPlace} (h:DataW.trod enc Tryz.prog W 0 (fun _=>true) held fuel 24 cs=O (d,p)) (hw:∀n ∈ d.weights Tryz.prog 24,n<=reachBytes) (hlt:∀x ∈ p,x.block<W.heap.size) : ∃A n c l,cs=[.slice A n c]/\DT W A n c l/\(∀p ∈ l,(Lit.int .i64 p.1).wf=true/\(Lit.int .i64 p.2).wf=true)/\(A=S->c=0):=by
 obtain⟨A,n,c,xs,e,h1,h2,h3,h4,h5⟩:=j8 2 16 Tryz.underlying24 JW JV aE (X:=Int×Int) _ (fun f cs d pl b off a1 a2 a3 _ _=>JQ (W:=W) f cs d pl b off a1 a2 a3) h hw hlt;refine⟨A,n,c,xs,e,⟨h1,by simp only[reachBytes] at h3;omega,fun hn => ?_⟩,fun x hx => ?_,h4⟩
 · obtain⟨b,off,e,hb,hk⟩:=h5 hn;exact⟨b,off,e,hb,fun k hkn=>(hk k hkn).1⟩
 obtain⟨k,hk,rfl⟩:=List.getElem_of_mem hx;obtain⟨b,off,e,hb,a0⟩:=h5 aA;have hv:=(a0 k aA).2
 rwa [List.getD_eq_getElem?_getD,List.getElem?_eq_getElem hk] at hv
end
end
section
set_option maxRecDepth 100000
open Go.ChangeShapes Go.WideShapes Go.RowKit
variable {H : Type} {enc : TypeId × Value->H}
theorem IS:Tryz.prog.cellsOf 51=2:=by kernel_rfl
theorem IR:Tryz.prog.bytesOf 51=48:=by kernel_rfl
theorem D2:Tryz.prog.cellsOf 27=1:=by kernel_rfl
theorem IU:Tryz.prog.cellsOf 31=8:=by kernel_rfl
def KW (W:World) (b off:Nat) (x:List Nd×List Nd):Prop:=∃A1 n1 c1 A2 n2 c2,W.cell? ⟨b,off,S⟩=O (.slice A1 n1 c1)/\W.cell? ⟨b,off+1,S⟩=O (.slice A2 n2 c2)/\aY W A1 n1 c1 x.1/\aY W A2 n2 c2 x.2
theorem JN {W:World} {held:Bool} (fuel:Nat) (cs:List Value) (d:DataW H) (pl:List MemPlace) (b off:Nat) (h:DataW.trod enc Tryz.prog W 0 (fun _=>true) held fuel 51 cs=O (d,pl)) (hl:cs.length=2) (hc:∀j,j<2->W.cell? ⟨b,off+j,S⟩=cs[j]?) (hw:∀n ∈ d.weights Tryz.prog 51,n<=reachBytes) (hlt:∀x ∈ pl,x.block<W.heap.size) : ∃x,KW W b off x:=by
 obtain⟨xs,m,_,hd,_,a0,hf⟩:=DataW.trod_struct Tryz.underlying51 h;have g0:DataW.trod enc Tryz.prog W 0 (fun _=>true) held m 29 ((cs.drop 0).take (Tryz.prog.cellsOf 29))=xs[0]?:=hf 0 _ rfl;have g1:DataW.trod enc Tryz.prog W 0 (fun _=>true) held m 29 ((cs.drop 1).take (Tryz.prog.cellsOf 29))=xs[1]?:=hf 1 _ rfl;have a1:xs.length=2:=a0;rw[nX] at g0 g1;simp only[Prod.mk.injEq] at hd;obtain⟨rfl,rfl⟩:=hd
 match cs,hl,xs,a1,g0,g1,hw,hlt,hc with
 | [c0,c1],_,[y0,y1],_,g0,g1,hw,hlt,hc =>
  have U:=Tryz.underlying51;obtain⟨A1,n1,k1,l1,e1,r1⟩:=gX (d:=y0.1) (p:=y0.2) g0 (gP (j:=0) U rfl rfl hw) (fun x hx=>hlt x (by simp[hx]));obtain⟨A2,n2,k2,l2,e2,r2⟩:=gX (d:=y1.1) (p:=y1.2) g1 (gP (j:=1) U rfl rfl hw) (fun x hx=>hlt x (by simp[hx]));have a3:c0=.slice A1 n1 k1:=by simpa using e1
  have a2:c1=.slice A2 n2 k2:=by simpa using e2
  subst a3 a2;exact⟨(l1,l2),A1,n1,k1,A2,n2,k2,hc 0 aA,hc 1 aA,r1,r2⟩
theorem CH {W:World} {held:Bool} {fuel:Nat} {cs:List Value} {d:DataW H} {p:List MemPlace} (h:DataW.trod enc Tryz.prog W 0 (fun _=>true) held fuel 27 cs=O (d,p)) (hw:∀n ∈ d.weights Tryz.prog 27,n<=reachBytes) (hlt:∀x ∈ p,x.block<W.heap.size) : ∃A n c bs,cs=[.slice A n c]/\jH (· < W.heap.size) W A n c bs:=by
 obtain⟨A,n,c,xs,e,h1,h2,h3,h4,h5⟩:=j8 2 48 Tryz.underlying27 IS IR aE (X:=List Nd×List Nd) (KW W) (fun f cs d pl b off a1 a2 a3 a4 a5=>JN f cs d pl b off a1 a2 a3 a4 a5) h hw hlt;refine⟨A,n,c,xs,e,h1,h2,by simp only[reachBytes] at h3;omega,h4,fun hn => ?_⟩;obtain⟨b,off,e,hb,hk⟩:=h5 hn;refine⟨b,off,e,hb,fun k hkn => ?_⟩;obtain⟨A1,n1,c1,A2,n2,c2,r1,r2,r3,r4⟩:=hk k hkn;exact⟨A1,n1,c1,A2,n2,c2,r1,r2,r3,r4⟩
theorem E5 {W:World} {held:Bool} {fuel:Nat} {cs:List Value} {d:DataW H} {p:List MemPlace} (hl:cs.length=5) (h:DataW.trod enc Tryz.prog W 0 (fun _=>true) held fuel 26 cs=O (d,p))
 (hw:∀n ∈ d.weights Tryz.prog 26,n<=reachBytes) (hlt:∀x ∈ p,x.block<W.heap.size) :
 ∃(bv:bO) (bk:Bk),cs=[.int .i64 bk.vars,.slice bv.Ao bv.no bv.co,.slice bv.Ae bv.ne bv.ce,.int .i64 bk.nat,.slice bv.Ap bv.np bv.cp]/\bX W bv bk/\(bv.Ap=S->bv.cp=0):=by
 obtain⟨xs,m,_,hd,_,a1,hf⟩:=DataW.trod_struct Tryz.underlying26 h;have g0:DataW.trod enc Tryz.prog W 0 (fun _=>true) held m 3 ((cs.drop 0).take (Tryz.prog.cellsOf 3))=xs[0]?:=hf 0 _ rfl;have g1:DataW.trod enc Tryz.prog W 0 (fun _=>true) held m 22 ((cs.drop 1).take (Tryz.prog.cellsOf 22))=xs[1]?:=hf 1 _ rfl;have g2:DataW.trod enc Tryz.prog W 0 (fun _=>true) held m 23 ((cs.drop 2).take (Tryz.prog.cellsOf 23))=xs[2]?:=hf 2 _ rfl;have g3:DataW.trod enc Tryz.prog W 0 (fun _=>true) held m 3 ((cs.drop 3).take (Tryz.prog.cellsOf 3))=xs[3]?:=hf 3 _ rfl;have g4:DataW.trod enc Tryz.prog W 0 (fun _=>true) held m 24 ((cs.drop 4).take (Tryz.prog.cellsOf 24))=xs[4]?:=hf 4 _ rfl;have a2:xs.length=5:=a1;rw[kX] at g0 g3;rw[CL] at g1;rw[yZ] at g2;rw[FC] at g4;simp only[Prod.mk.injEq] at hd;obtain⟨rfl,rfl⟩:=hd
 match cs,hl,xs,a2,g0,g1,g2,g3,g4,hw,hlt with
 | [c0,c1,c2,c3,c4],_,[y0,y1,y2,y3,y4],_,g0,g1,g2,g3,g4,hw,hlt =>
  have U:=Tryz.underlying26;obtain⟨o,e0,_,w0⟩:=DataW.trod_int Tryz.underlying3 (x:=y0) g0;obtain⟨A1,n1,k1,l1,e1,r1⟩:=zK (d:=y1.1) (p:=y1.2) g1 (gP (j:=1) U rfl rfl hw) (fun x hx=>hlt x (by simp[hx]));obtain⟨A2,n2,k2,l2,e2,r2,wk⟩:=vR (d:=y2.1) (p:=y2.2) g2 (gP (j:=2) U rfl rfl hw) (fun x hx=>hlt x (by simp[hx]));obtain⟨z,e3,_,w3⟩:=DataW.trod_int Tryz.underlying3 (x:=y3) g3;obtain⟨A4,n4,k4,l4,e4,r4,wp,a0⟩:=CJ (d:=y4.1) (p:=y4.2) g4 (gP (j:=4) U rfl rfl hw) (fun x hx=>hlt x (by simp[hx]));have a7:c0=.int .i64 o:=by simpa using e0
  have a6:c1=.slice A1 n1 k1:=by simpa using e1
  have a5:c2=.slice A2 n2 k2:=by simpa using e2
  have a4:c3=.int .i64 z:=by simpa using e3
  have a3:c4=.slice A4 n4 k4:=by simpa using e4
  subst a7 a6 a5 a4 a3;exact⟨⟨A1,n1,k1,A2,n2,k2,A4,n4,k4⟩,⟨o,l1,l2,z,l4⟩,rfl,⟨r1,r2,r4,w0,w3,wk,wp⟩,a0⟩
def yP (v:bO) (b:Bk) (cA:Option Addr) (cn cc:Nat) (A:Option Addr) (n c:Nat) (fuel:Int):Value:=.agg #[.int .i64 b.vars,.slice v.Ao v.no v.co,.slice v.Ae v.ne v.ce,.int .i64 b.nat,.slice v.Ap v.np v.cp,.slice cA cn cc,.slice A n c,.int .i64 fuel]
theorem wX {W:World} {base:Nat} {held:Bool} {v:Value} {d:DataW H} {p:List MemPlace} (hv:Value.okWide Tryz.prog W .any base 31 v) (h:DataW.Trod enc Tryz.prog W 0 (fun _=>true) held 31 v d p)
 (hw:∀n ∈ d.weights Tryz.prog 31,n<=reachBytes) (hlt:∀x ∈ p,x.block<W.heap.size) :
 ∃(bv:bO) (bk:Bk) (cA:Option Addr) (cn cc:Nat) (bs:List (List Nd×List Nd)) (A:Option Addr) (n c:Nat) (l:List Nd) (fuel:Int),v=yP bv bk cA cn cc A n c fuel/\bX W bv bk/\(bv.Ap=S->bv.cp=0)/\jH (· < W.heap.size) W cA cn cc bs/\aY W A n c l/\(Lit.int .i64 fuel).wf=true:=by
 obtain⟨cs,rfl,a3⟩:=okWide_struct Tryz.underlying31 hv;obtain⟨cs⟩:=cs;obtain⟨fuel,hf⟩:=h;obtain⟨xs,m,_,hd,_,a1,hf⟩:=DataW.trod_struct Tryz.underlying31 hf;have hl:cs.length=8:=by simpa using a3.trans IU
 have g0:DataW.trod enc Tryz.prog W 0 (fun _=>true) held m 26 (((Value.cells (.agg ⟨cs⟩)).toList.drop 0).take (Tryz.prog.cellsOf 26))=xs[0]?:=hf 0 _ rfl;have g1:DataW.trod enc Tryz.prog W 0 (fun _=>true) held m 27 (((Value.cells (.agg ⟨cs⟩)).toList.drop 5).take (Tryz.prog.cellsOf 27))=xs[1]?:=hf 1 _ rfl;have g2:DataW.trod enc Tryz.prog W 0 (fun _=>true) held m 29 (((Value.cells (.agg ⟨cs⟩)).toList.drop 6).take (Tryz.prog.cellsOf 29))=xs[2]?:=hf 2 _ rfl;have g3:DataW.trod enc Tryz.prog W 0 (fun _=>true) held m 3 (((Value.cells (.agg ⟨cs⟩)).toList.drop 7).take (Tryz.prog.cellsOf 3))=xs[3]?:=hf 3 _ rfl;have a2:xs.length=4:=a1;rw[IT] at g0;rw[D2] at g1;rw[nX] at g2;rw[kX] at g3;simp only[Prod.mk.injEq] at hd;obtain⟨rfl,rfl⟩:=hd
 match cs,hl,xs,a2,g0,g1,g2,g3,hw,hlt with
 | [c0,c1,c2,c3,c4,c5,c6,c7],_,[y0,y1,y2,y3],_,g0,g1,g2,g3,hw,hlt =>
  have U:=Tryz.underlying31;simp only[Value.cells] at g0 g1 g2 g3;obtain⟨bv,bk,e0,r0,a0⟩:=E5 (d:=y0.1) (p:=y0.2) aF g0 (gP (j:=0) U rfl rfl hw) (fun x hx=>hlt x (by simp[hx]));obtain⟨A1,n1,k1,l1,e1,r1⟩:=CH (d:=y1.1) (p:=y1.2) g1 (gP (j:=1) U rfl rfl hw) (fun x hx=>hlt x (by simp[hx]));obtain⟨A2,n2,k2,l2,e2,r2⟩:=gX (d:=y2.1) (p:=y2.2) g2 (gP (j:=2) U rfl rfl hw) (fun x hx=>hlt x (by simp[hx]));obtain⟨o,e3,_,w3⟩:=DataW.trod_int Tryz.underlying3 (x:=y3) g3;simp at e0 e1 e2 e3;obtain⟨rfl,rfl,rfl,rfl,rfl⟩:=e0;subst e1 e2 e3;exact⟨bv,bk,A1,n1,k1,l1,A2,n2,k2,l2,o,rfl,r0,a0,r1,r2,w3⟩
end
end Go.Proofs.YtjoddliplahgkaaGreat
