/- Merged: OpenB, OpenP. -/
import Derived.Test.YtplecfbdchmogaaGreatDJoin
import Derived.Test.YtplecfbdchmogaaGreatDBooks
import Derived.Test.YtplecfbdchmogaaGreatDEnc
namespace Go.Proofs.YtplecfbdchmogaaGreat
open Option renaming some → O, none → S
section
set_option maxRecDepth 100000
open Go.ChangeShapes Go.WideShapes Go.ChangeAt Go.RowKit Go.Deep
theorem nF {H:Type} {P:Program} {e:TypeId} {n:Nat} : ∀ {l:List (DataW H)} {d:DataW H},d ∈ l->n ∈ d.weights P e->n ∈ DataW.weightsAll P e l
 | [],_,h,_=>by cases h
 | x::l,d,h,hn=>by
  simp only [DataW.weightsAll,List.mem_append];rcases List.mem_cons.1 h with rfl | h
  · exact .inl hn
  · exact .inr (nF h hn)
section
variable {H : Type} {enc : TypeId × Value->H}
theorem jT {P:Program} {W:World} {held:Bool} {t e:TypeId} (C B:Nat) (ht:P.underlying t=O (.slice e)) (hC:P.cellsOf e=C) (hB:P.bytesOf e=B) (hC0:0<C) {X:Type} [Inhabited X] (Rd:Nat->Nat->X->Prop)
 (helem:∀ (fuel:Nat) (cs:List Value) (d:DataW H) (pl:List MemPlace) (b off:Nat),DataW.trod enc P W 0 (fun _=>true) held fuel e cs=O (d,pl)->cs.length=C->(∀ j,j<C->W.cell? ⟨b,off+j,S⟩=cs[j]?)->(∀ n ∈ d.weights P e,n<=reachBytes)->(∀ x ∈ pl,x.block<W.heap.size)->∃ x,Rd b off x)
 {fuel:Nat} {cs:List Value} {d:DataW H} {p:List MemPlace} (h:DataW.trod enc P W 0 (fun _=>true) held fuel t cs=O (d,p)) (hw:∀ n ∈ d.weights P t,n<=reachBytes) (hlt:∀ x ∈ p,x.block<W.heap.size) :
 ∃ A n c,∃ xs:List X,cs=[.slice A n c]/\xs.length=n/\n<=c/\n*B<=reachBytes/\(A=S->c=0)/\(0<n->∃ b off,A=O ⟨b,off,S⟩/\b<W.heap.size/\∀ k,k<n->Rd b (off+k*C) (xs.getD k default)):=by
 rcases open_slice ht h with ⟨rfl,hx⟩ | ⟨a,len,cap,m,n,D,Pl,rfl,_,hl,hm,hmm,hx,hi⟩
 · exact ⟨S,0,0,[],rfl,rfl,Nat.le_refl _,by simp,fun _=>rfl,fun h=>absurd h (by decide)⟩
 simp only [Prod.mk.injEq] at hx;obtain ⟨rfl,rfl⟩:=hx;simp only [if_true] at hmm;subst hmm;have hww:DataW.weights P t (DataW.slice ((List.range len).map D) ((List.range (m-len)).map fun j=>D (len+j)))=(((List.range len).map D).length+((List.range (m-len)).map fun j=>D (len+j)).length)*P.bytesOf e::(DataW.weightsAll P e ((List.range len).map D)++DataW.weightsAll P e ((List.range (m-len)).map fun j=>D (len+j))):=by
  simp only [DataW.weights,ht]
 rw [hww] at hw;have hreach:=hw _ (List.mem_cons_self ..);rw [hB] at hreach;simp only [List.length_map,List.length_range] at hreach;rw [hC] at hi hlt;obtain ⟨b,off,spot⟩:=a;have hbytes:len*B<=reachBytes:=Nat.le_trans (Nat.mul_le_mul_right _ aA) hreach;by_cases hpos:0<len;rotate_left
 · obtain rfl:len=0:=aA;exact ⟨_,_,_,[],rfl,rfl,hl,hbytes,(fun e=>by cases e),fun h=>absurd h hpos⟩
 have hspot:spot=S:=by
  obtain ⟨cs',hc,htr⟩:=hi 0 aA;obtain ⟨_,hcl,hat⟩:=World.cells?_some hc;have h0:=hat 0 hC0;rw [List.getElem?_eq_getElem aA] at h0;simpa [Addr.add] using World.cell?_spot h0
 subst hspot;have hb:b<W.heap.size:=hlt (.cell b off) (List.mem_append.2 (.inl (MemPlace.mem_row.2 ⟨0,Nat.mul_pos aA hC0,by simp⟩)));have hrow:∀ i:Nat,∃ x:X,i<len->Rd b (off+i*C) x:=by
  intro i;by_cases hil:i<len
  · obtain ⟨cs',hc,htr⟩:=hi i aA;obtain ⟨_,hcl,hat⟩:=World.cells?_some hc;have hmem:D i ∈ (List.range len).map D:=List.mem_map.2 ⟨i,by simpa using hil,rfl⟩;obtain ⟨x,hx⟩:=helem n cs' (D i) (Pl i) b (off+i*C) htr hcl (fun j hj=>by
     have:=hat j hj;rw [add_plain,add_plain] at this;exact this) (fun k hk=>hw k (List.mem_cons_of_mem _ (List.mem_append_left _ (nF hmem hk)))) (fun x hx=>hlt x (List.mem_append_right _ (List.mem_flatMap.2 ⟨i,by simp;omega,hx⟩)))
    exact ⟨x,fun _=>hx⟩
  exact ⟨default,fun h=>absurd h hil⟩
 refine ⟨_,_,_,(List.range len).map fun i=>(hrow i).choose,rfl,by simp,hl,hbytes,(fun e=>by cases e),fun _=>⟨b,off,rfl,hb,fun k hk => ?_⟩⟩;have:=(hrow k).choose_spec hk;simpa [hk] using this
theorem pL:Tryz.prog.cellsOf 28=1:=by kernel_rfl
theorem E3:Tryz.prog.bytesOf 28=24:=by kernel_rfl
def qP (W:World) (b off:Nat) (x:Nd):Prop:=W.cell? ⟨b,off,S⟩=O (.int .i64 x.op)/\W.cell? ⟨b,off+1,S⟩=O (.int .i64 x.a)/\W.cell? ⟨b,off+2,S⟩=O (.int .i64 x.b)
theorem D9 {W:World} {held:Bool} (fuel:Nat) (cs:List Value) (d:DataW H) (pl:List MemPlace) (b off:Nat) (h:DataW.trod enc Tryz.prog W 0 (fun _=>true) held fuel 53 cs=O (d,pl)) (_:cs.length=3) (hc:∀ j,j<3->W.cell? ⟨b,off+j,S⟩=cs[j]?) : ∃ x,qP W b off x:=by
 obtain ⟨o,a,c,rfl⟩:=JI h;exact ⟨⟨o,a,c⟩,hc 0 aA,hc 1 aA,hc 2 aA⟩
theorem CL {W:World} {A:Option Addr} {n c:Nat} {xs:List Nd} (h1:xs.length=n) (h2:n<=c) (h3:n*24<=reachBytes) (h4:A=S->c=0) (h5:0<n->∃ b off,A=O ⟨b,off,S⟩/\b<W.heap.size/\∀ k,k<n->qP W b (off+k*3) (xs.getD k default)):aQ W A n c xs :=
 ⟨h1,h2,by simp only [reachBytes] at h3;omega,h4,fun hn=>by
  obtain ⟨b,off,e,hb,hk⟩:=h5 hn;exact ⟨b,off,e,hb,fun k hkl=>hk k aA⟩⟩
theorem iQ {W:World} {held:Bool} {fuel:Nat} {cs:List Value} {d:DataW H} {p:List MemPlace} (h:DataW.trod enc Tryz.prog W 0 (fun _=>true) held fuel 28 cs=O (d,p)) (hw:∀ n ∈ d.weights Tryz.prog 28,n<=reachBytes) (hlt:∀ x ∈ p,x.block<W.heap.size) : ∃ A n c l,cs=[.slice A n c]/\aQ W A n c l:=by
 obtain ⟨A,n,c,xs,e,h1,h2,h3,h4,h5⟩:=jT 3 24 Tryz.underlying28 tK DZ (by decide) (qP W) (fun f cs d pl b off a1 a2 a3 _ _=>D9 f cs d pl b off a1 a2 a3) h hw hlt;exact ⟨A,n,c,xs,e,CL h1 h2 h3 h4 h5⟩
theorem k8 {W:World} {held:Bool} {fuel:Nat} {cs:List Value} {d:DataW H} {p:List MemPlace} (h:DataW.trod enc Tryz.prog W 0 (fun _=>true) held fuel 54 cs=O (d,p)) (hw:∀ n ∈ d.weights Tryz.prog 54,n<=reachBytes) (hlt:∀ x ∈ p,x.block<W.heap.size) : ∃ A n c l,cs=[.slice A n c]/\cE W A n c l:=by
 obtain ⟨A,n,c,xs,e,h1,h2,h3,h4,h5⟩:=jT 1 24 Tryz.underlying54 pL E3 (by decide) (X:=List Nd) (fun b off l=>∃ A n c,W.cell? ⟨b,off,S⟩=O (.slice A n c)/\aQ W A n c l) (fun f cs d pl b off a1 a2 a3 a4 a5=>by
  obtain ⟨A,n,c,l,rfl,ht⟩:=iQ a1 a4 a5;exact ⟨l,A,n,c,a3 0 aA,ht⟩) h hw hlt
 refine ⟨A,n,c,xs,e,h1,by simp only [reachBytes] at h3;omega,fun hn => ?_⟩;obtain ⟨b,off,e,hb,hk⟩:=h5 hn;exact ⟨b,off,e,hb,fun k hkn=>by
  have:=hk k hkn;rw [Nat.mul_one] at this;exact this⟩
theorem tX:Tryz.prog.cellsOf 54=1:=by kernel_rfl
theorem C8:Tryz.prog.cellsOf 66=2:=by kernel_rfl
theorem C7:Tryz.prog.bytesOf 66=48:=by kernel_rfl
theorem zE:Tryz.prog.cellsOf 55=1:=by kernel_rfl
theorem zO:Tryz.prog.cellsOf 57=7:=by kernel_rfl
theorem zN:Tryz.prog.bytesOf 57=152:=by kernel_rfl
theorem AE:Tryz.prog.cellsOf 78=3:=by kernel_rfl
theorem AD:Tryz.prog.bytesOf 78=24:=by kernel_rfl
theorem EH:Tryz.prog.cellsOf 68=2:=by kernel_rfl
theorem EG:Tryz.prog.bytesOf 68=16:=by kernel_rfl
theorem CV:Tryz.prog.cellsOf 26=5:=by kernel_rfl
theorem xE:Tryz.prog.cellsOf 22=1:=by kernel_rfl
theorem uN:Tryz.prog.cellsOf 23=1:=by kernel_rfl
theorem AJ:Tryz.prog.cellsOf 24=1:=by kernel_rfl
theorem iH {P:Program} {t:TypeId} {fs:Array Field} {ds:List (DataW H)} {j:Nat} {u:TypeId} {d:DataW H} (ht:P.underlying t=O (.struct fs)) (hj:(fs.toList.map (·.type))[j]? = O u) (hd:ds[j]? = O d) (hw:∀ n ∈ (DataW.agg ds).weights P t,n<=reachBytes) : ∀ n ∈ d.weights P u,n<=reachBytes:=fun n hn=>hw n (by
 simp only [DataW.weights,ht];exact DataW.weights_mem_each hj hd n hn)
theorem D8 {W:World} {held:Bool} (fuel:Nat) (cs:List Value) (d:DataW H) (pl:List MemPlace) (b off:Nat) (h:DataW.trod enc Tryz.prog W 0 (fun _=>true) held fuel 66 cs=O (d,pl)) (hl:cs.length=2) (hc:∀ j,j<2->W.cell? ⟨b,off+j,S⟩=cs[j]?) (hw:∀ n ∈ d.weights Tryz.prog 66,n<=reachBytes) (hlt:∀ x ∈ pl,x.block<W.heap.size) :
 ∃ x:Ct,∃ A1 n1 c1 A2 n2 c2,W.cell? ⟨b,off,S⟩=O (.slice A1 n1 c1)/\W.cell? ⟨b,off+1,S⟩=O (.slice A2 n2 c2)/\cE W A1 n1 c1 x.args/\cE W A2 n2 c2 x.outs:=by
 obtain ⟨xs,m,_,hd,_,hxs,hf⟩:=DataW.trod_struct Tryz.underlying66 h;have g0:DataW.trod enc Tryz.prog W 0 (fun _=>true) held m 54 ((cs.drop 0).take (Tryz.prog.cellsOf 54))=xs[0]?:=hf 0 _ rfl;have g1:DataW.trod enc Tryz.prog W 0 (fun _=>true) held m 54 ((cs.drop 1).take (Tryz.prog.cellsOf 54))=xs[1]?:=hf 1 _ rfl;have hx2:xs.length=2:=hxs;rw [tX] at g0 g1;simp only [Prod.mk.injEq] at hd;obtain ⟨rfl,rfl⟩:=hd
 match cs,hl,xs,hx2,g0,g1,hw,hlt,hc with
 | [c0,c1],_,[y0,y1],_,g0,g1,hw,hlt,hc =>
  obtain ⟨A1,n1,k1,l1,e1,r1⟩:=k8 (d:=y0.1) (p:=y0.2) g0 (iH (j:=0) Tryz.underlying66 rfl rfl hw) (fun x hx=>hlt x (by simp [hx]));obtain ⟨A2,n2,k2,l2,e2,r2⟩:=k8 (d:=y1.1) (p:=y1.2) g1 (iH (j:=1) Tryz.underlying66 rfl rfl hw) (fun x hx=>hlt x (by simp [hx]));have e1':c0=.slice A1 n1 k1:=by simpa using e1
  have e2':c1=.slice A2 n2 k2:=by simpa using e2
  subst e1' e2';exact ⟨⟨l1,l2⟩,A1,n1,k1,A2,n2,k2,hc 0 aA,hc 1 aA,r1,r2⟩
theorem xC {W:World} {held:Bool} {fuel:Nat} {cs:List Value} {d:DataW H} {p:List MemPlace} (h:DataW.trod enc Tryz.prog W 0 (fun _=>true) held fuel 55 cs=O (d,p)) (hw:∀ n ∈ d.weights Tryz.prog 55,n<=reachBytes) (hlt:∀ x ∈ p,x.block<W.heap.size) : ∃ A n c l,cs=[.slice A n c]/\nW W A n c l:=by
 obtain ⟨A,n,c,xs,e,h1,h2,h3,h4,h5⟩:=jT 2 48 Tryz.underlying55 C8 C7 (by decide) (X:=Ct) _ D8 h hw hlt;exact ⟨A,n,c,xs,e,h1,by simp only [reachBytes] at h3;omega,h5⟩
theorem AB {W:World} {held:Bool} (fuel:Nat) (cs:List Value) (d:DataW H) (pl:List MemPlace) (b off:Nat) (h:DataW.trod enc Tryz.prog W 0 (fun _=>true) held fuel 57 cs=O (d,pl)) (hl:cs.length=7) (hc:∀ j,j<7->W.cell? ⟨b,off+j,S⟩=cs[j]?) (hw:∀ n ∈ d.weights Tryz.prog 57,n<=reachBytes) (hlt:∀ x ∈ pl,x.block<W.heap.size) :
 ∃ x:En,∃ v:eQ,(W.cell? ⟨b,off,S⟩=O (.int .i64 x.kind)/\W.cell? ⟨b,off+1,S⟩=O (.slice v.As v.ns v.cs)/\W.cell? ⟨b,off+2,S⟩=O (.slice v.Ap v.np v.cp)/\W.cell? ⟨b,off+3,S⟩=O (.slice v.Ai v.ni v.ci)/\W.cell? ⟨b,off+4,S⟩=O (.slice v.Ac v.nc v.cc)/\W.cell? ⟨b,off+5,S⟩=O (.slice v.At v.nt v.ct)/\W.cell? ⟨b,off+6,S⟩=O (.slice v.Ab v.nb v.cb)/\p9 W v x)/\(Lit.int .i64 x.kind).wf=true:=by
 obtain ⟨xs,m,_,hd,_,hxs,hf⟩:=DataW.trod_struct Tryz.underlying57 h;have g0:DataW.trod enc Tryz.prog W 0 (fun _=>true) held m 3 ((cs.drop 0).take (Tryz.prog.cellsOf 3))=xs[0]?:=hf 0 _ rfl;have g1:DataW.trod enc Tryz.prog W 0 (fun _=>true) held m 28 ((cs.drop 1).take (Tryz.prog.cellsOf 28))=xs[1]?:=hf 1 _ rfl;have g2:DataW.trod enc Tryz.prog W 0 (fun _=>true) held m 54 ((cs.drop 2).take (Tryz.prog.cellsOf 54))=xs[2]?:=hf 2 _ rfl;have g3:DataW.trod enc Tryz.prog W 0 (fun _=>true) held m 54 ((cs.drop 3).take (Tryz.prog.cellsOf 54))=xs[3]?:=hf 3 _ rfl;have g4:DataW.trod enc Tryz.prog W 0 (fun _=>true) held m 55 ((cs.drop 4).take (Tryz.prog.cellsOf 55))=xs[4]?:=hf 4 _ rfl;have g5:DataW.trod enc Tryz.prog W 0 (fun _=>true) held m 28 ((cs.drop 5).take (Tryz.prog.cellsOf 28))=xs[5]?:=hf 5 _ rfl;have g6:DataW.trod enc Tryz.prog W 0 (fun _=>true) held m 28 ((cs.drop 6).take (Tryz.prog.cellsOf 28))=xs[6]?:=hf 6 _ rfl;have hx7:xs.length=7:=hxs;rw [lV] at g0;rw [pL] at g1 g5 g6;rw [tX] at g2 g3;rw [zE] at g4;simp only [Prod.mk.injEq] at hd;obtain ⟨rfl,rfl⟩:=hd
 match cs,hl,xs,hx7,g0,g1,g2,g3,g4,g5,g6,hw,hlt,hc with
 | [c0,c1,c2,c3,c4,c5,c6],_,[y0,y1,y2,y3,y4,y5,y6],_,g0,g1,g2,g3,g4,g5,g6,hw,hlt,hc =>
  have U:=Tryz.underlying57;obtain ⟨o,e0,_,wo⟩:=DataW.trod_int Tryz.underlying3 (x:=y0) g0;obtain ⟨A1,n1,k1,l1,e1,r1⟩:=iQ (d:=y1.1) (p:=y1.2) g1 (iH (j:=1) U rfl rfl hw) (fun x hx=>hlt x (by simp [hx]));obtain ⟨A2,n2,k2,l2,e2,r2⟩:=k8 (d:=y2.1) (p:=y2.2) g2 (iH (j:=2) U rfl rfl hw) (fun x hx=>hlt x (by simp [hx]));obtain ⟨A3,n3,k3,l3,e3,r3⟩:=k8 (d:=y3.1) (p:=y3.2) g3 (iH (j:=3) U rfl rfl hw) (fun x hx=>hlt x (by simp [hx]));obtain ⟨A4,n4,k4,l4,e4,r4⟩:=xC (d:=y4.1) (p:=y4.2) g4 (iH (j:=4) U rfl rfl hw) (fun x hx=>hlt x (by simp [hx]));obtain ⟨A5,n5,k5,l5,e5,r5⟩:=iQ (d:=y5.1) (p:=y5.2) g5 (iH (j:=5) U rfl rfl hw) (fun x hx=>hlt x (by simp [hx]));obtain ⟨A6,n6,k6,l6,e6,r6⟩:=iQ (d:=y6.1) (p:=y6.2) g6 (iH (j:=6) U rfl rfl hw) (fun x hx=>hlt x (by simp [hx]));have e0':c0=.int .i64 o:=by simpa using e0
  have e1':c1=.slice A1 n1 k1:=by simpa using e1
  have e2':c2=.slice A2 n2 k2:=by simpa using e2
  have e3':c3=.slice A3 n3 k3:=by simpa using e3
  have e4':c4=.slice A4 n4 k4:=by simpa using e4
  have e5':c5=.slice A5 n5 k5:=by simpa using e5
  have e6':c6=.slice A6 n6 k6:=by simpa using e6
  subst e0' e1' e2' e3' e4' e5' e6';exact ⟨⟨o,l1,l2,l3,l4,l5,l6⟩,⟨A1,n1,k1,A2,n2,k2,A3,n3,k3,A4,n4,k4,A5,n5,k5,A6,n6,k6⟩,⟨hc 0 aA,hc 1 aA,hc 2 aA,hc 3 aA,hc 4 aA,hc 5 aA,hc 6 aA,r1,r2,r3,r4,r5,r6⟩,wo⟩
theorem sR {W:World} {held:Bool} {fuel:Nat} {cs:List Value} {d:DataW H} {p:List MemPlace} (h:DataW.trod enc Tryz.prog W 0 (fun _=>true) held fuel 23 cs=O (d,p)) (hw:∀ n ∈ d.weights Tryz.prog 23,n<=reachBytes) (hlt:∀ x ∈ p,x.block<W.heap.size) : ∃ A n c l,cs=[.slice A n c]/\qB W A n c l/\∀ x ∈ l,(Lit.int .i64 x.kind).wf=true:=by
 obtain ⟨A,n,c,xs,e,h1,h2,h3,h4,h5⟩:=jT 7 152 Tryz.underlying23 zO zN (by decide) (X:=En) _ AB h hw hlt;refine ⟨A,n,c,xs,e,⟨h1,by simp only [reachBytes] at h3;omega,fun hn => ?_⟩,fun x hx => ?_⟩
 · obtain ⟨b,off,e,hb,hk⟩:=h5 hn;refine ⟨b,off,e,hb,fun k hkn => ?_⟩;obtain ⟨v,hv,_⟩:=hk k hkn;exact ⟨v,hv⟩
 obtain ⟨k,hk,rfl⟩:=List.getElem_of_mem hx;obtain ⟨b,off,e,hb,hkk⟩:=h5 aA;obtain ⟨v,_,hv⟩:=hkk k aA
 rwa [List.getD_eq_getElem?_getD,List.getElem?_eq_getElem hk] at hv
theorem AC {W:World} {held:Bool} (fuel:Nat) (cs:List Value) (d:DataW H) (pl:List MemPlace) (b off:Nat) (h:DataW.trod enc Tryz.prog W 0 (fun _=>true) held fuel 78 cs=O (d,pl)) (hl:cs.length=3) (hc:∀ j,j<3->W.cell? ⟨b,off+j,S⟩=cs[j]?) : ∃ x,qP W b off x:=by
 obtain ⟨xs,m,_,_,_,hxs,hf⟩:=DataW.trod_struct Tryz.underlying78 h;have g0:DataW.trod enc Tryz.prog W 0 (fun _=>true) held m 3 ((cs.drop 0).take (Tryz.prog.cellsOf 3))=xs[0]?:=hf 0 _ rfl;have g1:DataW.trod enc Tryz.prog W 0 (fun _=>true) held m 3 ((cs.drop 1).take (Tryz.prog.cellsOf 3))=xs[1]?:=hf 1 _ rfl;have g2:DataW.trod enc Tryz.prog W 0 (fun _=>true) held m 3 ((cs.drop 2).take (Tryz.prog.cellsOf 3))=xs[2]?:=hf 2 _ rfl;have hx3:xs.length=3:=hxs;rw [lV] at g0 g1 g2
 match cs,hl,xs,hx3,g0,g1,g2,hc with
 | [c0,c1,c2],_,[y0,y1,y2],_,g0,g1,g2,hc =>
  obtain ⟨o,ho,_⟩:=DataW.trod_int Tryz.underlying3 (x:=y0) g0;obtain ⟨a,ha,_⟩:=DataW.trod_int Tryz.underlying3 (x:=y1) g1;obtain ⟨z,hz,_⟩:=DataW.trod_int Tryz.underlying3 (x:=y2) g2;simp at ho ha hz;subst ho ha hz;exact ⟨⟨o,a,z⟩,hc 0 aA,hc 1 aA,hc 2 aA⟩
theorem uV {W:World} {held:Bool} {fuel:Nat} {cs:List Value} {d:DataW H} {p:List MemPlace} (h:DataW.trod enc Tryz.prog W 0 (fun _=>true) held fuel 22 cs=O (d,p)) (hw:∀ n ∈ d.weights Tryz.prog 22,n<=reachBytes) (hlt:∀ x ∈ p,x.block<W.heap.size) : ∃ A n c l,cs=[.slice A n c]/\aQ W A n c l:=by
 obtain ⟨A,n,c,xs,e,h1,h2,h3,h4,h5⟩:=jT 3 24 Tryz.underlying22 AE AD (by decide) (qP W) (fun f cs d pl b off a1 a2 a3 _ _=>AC f cs d pl b off a1 a2 a3) h hw hlt;exact ⟨A,n,c,xs,e,CL h1 h2 h3 h4 h5⟩
theorem EA {W:World} {held:Bool} (fuel:Nat) (cs:List Value) (d:DataW H) (pl:List MemPlace) (b off:Nat) (h:DataW.trod enc Tryz.prog W 0 (fun _=>true) held fuel 68 cs=O (d,pl)) (hl:cs.length=2) (hc:∀ j,j<2->W.cell? ⟨b,off+j,S⟩=cs[j]?) :
 ∃ x:Int×Int,(W.cell? ⟨b,off,S⟩=O (.int .i64 x.1)/\W.cell? ⟨b,off+1,S⟩=O (.int .i64 x.2))/\(Lit.int .i64 x.1).wf=true/\(Lit.int .i64 x.2).wf=true:=by
 obtain ⟨xs,m,_,_,_,hxs,hf⟩:=DataW.trod_struct Tryz.underlying68 h;have g0:DataW.trod enc Tryz.prog W 0 (fun _=>true) held m 3 ((cs.drop 0).take (Tryz.prog.cellsOf 3))=xs[0]?:=hf 0 _ rfl;have g1:DataW.trod enc Tryz.prog W 0 (fun _=>true) held m 3 ((cs.drop 1).take (Tryz.prog.cellsOf 3))=xs[1]?:=hf 1 _ rfl;have hx2:xs.length=2:=hxs;rw [lV] at g0 g1
 match cs,hl,xs,hx2,g0,g1,hc with
 | [c0,c1],_,[y0,y1],_,g0,g1,hc =>
  obtain ⟨o,ho,_,w0⟩:=DataW.trod_int Tryz.underlying3 (x:=y0) g0;obtain ⟨a,ha,_,w1⟩:=DataW.trod_int Tryz.underlying3 (x:=y1) g1;simp at ho ha;subst ho ha;exact ⟨(o,a),⟨hc 0 aA,hc 1 aA⟩,w0,w1⟩
theorem xD {W:World} {held:Bool} {fuel:Nat} {cs:List Value} {d:DataW H} {p:List MemPlace} (h:DataW.trod enc Tryz.prog W 0 (fun _=>true) held fuel 24 cs=O (d,p)) (hw:∀ n ∈ d.weights Tryz.prog 24,n<=reachBytes) (hlt:∀ x ∈ p,x.block<W.heap.size) : ∃ A n c l,cs=[.slice A n c]/\sM W A n c l/\(∀ p ∈ l,(Lit.int .i64 p.1).wf=true/\(Lit.int .i64 p.2).wf=true)/\(A=S->c=0):=by
 obtain ⟨A,n,c,xs,e,h1,h2,h3,h4,h5⟩:=jT 2 16 Tryz.underlying24 EH EG (by decide) (X:=Int×Int) _ (fun f cs d pl b off a1 a2 a3 _ _=>EA (W:=W) f cs d pl b off a1 a2 a3) h hw hlt;refine ⟨A,n,c,xs,e,⟨h1,by simp only [reachBytes] at h3;omega,fun hn => ?_⟩,fun x hx => ?_,h4⟩
 · obtain ⟨b,off,e,hb,hk⟩:=h5 hn;exact ⟨b,off,e,hb,fun k hkn=>(hk k hkn).1⟩
 obtain ⟨k,hk,rfl⟩:=List.getElem_of_mem hx;obtain ⟨b,off,e,hb,hkk⟩:=h5 aA;have hv:=(hkk k aA).2
 rwa [List.getD_eq_getElem?_getD,List.getElem?_eq_getElem hk] at hv
end
end
section
set_option maxRecDepth 100000
open Go.ChangeShapes Go.WideShapes Go.RowKit
variable {H : Type} {enc : TypeId × Value->H}
theorem J3:Tryz.prog.cellsOf 5=1:=by kernel_rfl
theorem J2:Tryz.prog.bytesOf 5=1:=by kernel_rfl
theorem D7 {W:World} {held:Bool} (fuel:Nat) (cs:List Value) (d:DataW H) (pl:List MemPlace) (b off:Nat) (h:DataW.trod enc Tryz.prog W 0 (fun _=>true) held fuel 5 cs=O (d,pl)) (hl:cs.length=1) (hc:∀ j,j<1->W.cell? ⟨b,off+j,S⟩=cs[j]?) : ∃ x:Nat,x<256/\W.cell? ⟨b,off,S⟩=O (.int .u8 (x:Int)):=by
 obtain ⟨o,ho,_,hw⟩:=DataW.trod_int Tryz.underlying5 (x:=(d,pl)) h;subst ho;have e1:IntKind.u8.min=0:=rfl;have e2:IntKind.u8.max=255:=rfl;simp only [Lit.wf,Bool.and_eq_true,decide_eq_true_eq] at hw;refine ⟨o.toNat,by omega,?_⟩;have h0:=hc 0 aA;rw [show ((o.toNat:Nat):Int)=o from by omega];exact h0
theorem xB {W:World} {held:Bool} {fuel:Nat} {cs:List Value} {d:DataW H} {p:List MemPlace} (h:DataW.trod enc Tryz.prog W 0 (fun _=>true) held fuel 37 cs=O (d,p)) (hw:∀ n ∈ d.weights Tryz.prog 37,n<=reachBytes) (hlt:∀ x ∈ p,x.block<W.heap.size) : ∃ A n c l,cs=[.slice A n c]/\gC W A n c l:=by
 obtain ⟨A,n,c,xs,e,h1,h2,h3,h4,h5⟩:=jT 1 1 Tryz.underlying37 J3 J2 (by decide) (X:=Nat) (fun b off x=>x<256/\W.cell? ⟨b,off,S⟩=O (.int .u8 (x:Int))) (fun f cs d pl b off a1 a2 a3 _ _=>D7 f cs d pl b off a1 a2 a3) h hw hlt;refine ⟨A,n,c,xs,e,h1,h2,by simp only [reachBytes] at h3;omega,h4,fun x hx => ?_,fun hn => ?_⟩
 · obtain ⟨k,hk,rfl⟩:=List.getElem_of_mem hx;obtain ⟨b,off,_,_,hkk⟩:=h5 aA;have hv:=(hkk k aA).1
   rwa [List.getD_eq_getElem?_getD,List.getElem?_eq_getElem hk] at hv
 obtain ⟨b,off,e,hb,hk⟩:=h5 hn;refine ⟨b,off,e,hb,fun k hkn => ?_⟩;have:=(hk k hkn).2;rw [Nat.mul_one] at this;exact this
theorem AA {W:World} {base:Nat} {held:Bool} {v:Value} {d:DataW H} {p:List MemPlace} (h:DataW.Trod enc Tryz.prog W 0 (fun _=>true) held 37 v d p) (hv:Value.okWide Tryz.prog W .any base 37 v)
 (hw:∀ n ∈ d.weights Tryz.prog 37,n<=reachBytes) (hlt:∀ x ∈ p,x.block<W.heap.size) : ∃ A n c l,v=.slice A n c/\gC W A n c l:=by
 obtain ⟨a0,len,cap,rfl⟩:=okWide_slice Tryz.underlying37 hv;obtain ⟨fuel,hf⟩:=h;obtain ⟨A,n,c,l,e,h2⟩:=xB hf hw hlt;simp [Value.cells] at e;obtain ⟨rfl,rfl,rfl⟩:=e;exact ⟨a0,len,cap,l,rfl,h2⟩
theorem uY:Tryz.prog.cellsOf 36=7:=by kernel_rfl
def CG (u:gX) (p:Pg):Value:=.agg (cT u p)
theorem z8 {W:World} {held:Bool} {fuel:Nat} {cs:List Value} {d:DataW H} {p:List MemPlace} (hl:cs.length=5) (h:DataW.trod enc Tryz.prog W 0 (fun _=>true) held fuel 26 cs=O (d,p))
 (hw:∀ n ∈ d.weights Tryz.prog 26,n<=reachBytes) (hlt:∀ x ∈ p,x.block<W.heap.size) :
 ∃ (bv:cP) (bk:Bk),cs=[.int .i64 bk.vars,.slice bv.Ao bv.no bv.co,.slice bv.Ae bv.ne bv.ce,.int .i64 bk.nat,.slice bv.Ap bv.np bv.cp]/\bY W bv bk/\(bv.Ap=S->bv.cp=0):=by
 obtain ⟨xs,m,_,hd,_,hxs,hf⟩:=DataW.trod_struct Tryz.underlying26 h;have g0:DataW.trod enc Tryz.prog W 0 (fun _=>true) held m 3 ((cs.drop 0).take (Tryz.prog.cellsOf 3))=xs[0]?:=hf 0 _ rfl;have g1:DataW.trod enc Tryz.prog W 0 (fun _=>true) held m 22 ((cs.drop 1).take (Tryz.prog.cellsOf 22))=xs[1]?:=hf 1 _ rfl;have g2:DataW.trod enc Tryz.prog W 0 (fun _=>true) held m 23 ((cs.drop 2).take (Tryz.prog.cellsOf 23))=xs[2]?:=hf 2 _ rfl;have g3:DataW.trod enc Tryz.prog W 0 (fun _=>true) held m 3 ((cs.drop 3).take (Tryz.prog.cellsOf 3))=xs[3]?:=hf 3 _ rfl;have g4:DataW.trod enc Tryz.prog W 0 (fun _=>true) held m 24 ((cs.drop 4).take (Tryz.prog.cellsOf 24))=xs[4]?:=hf 4 _ rfl;have hx5:xs.length=5:=hxs;rw [lV] at g0 g3;rw [xE] at g1;rw [uN] at g2;rw [AJ] at g4;simp only [Prod.mk.injEq] at hd;obtain ⟨rfl,rfl⟩:=hd
 match cs,hl,xs,hx5,g0,g1,g2,g3,g4,hw,hlt with
 | [c0,c1,c2,c3,c4],_,[y0,y1,y2,y3,y4],_,g0,g1,g2,g3,g4,hw,hlt =>
  have U:=Tryz.underlying26;obtain ⟨o,e0,_,w0⟩:=DataW.trod_int Tryz.underlying3 (x:=y0) g0;obtain ⟨A1,n1,k1,l1,e1,r1⟩:=uV (d:=y1.1) (p:=y1.2) g1 (iH (j:=1) U rfl rfl hw) (fun x hx=>hlt x (by simp [hx]));obtain ⟨A2,n2,k2,l2,e2,r2,wk⟩:=sR (d:=y2.1) (p:=y2.2) g2 (iH (j:=2) U rfl rfl hw) (fun x hx=>hlt x (by simp [hx]));obtain ⟨z,e3,_,w3⟩:=DataW.trod_int Tryz.underlying3 (x:=y3) g3;obtain ⟨A4,n4,k4,l4,e4,r4,wp,hnul⟩:=xD (d:=y4.1) (p:=y4.2) g4 (iH (j:=4) U rfl rfl hw) (fun x hx=>hlt x (by simp [hx]));have e0':c0=.int .i64 o:=by simpa using e0
  have e1':c1=.slice A1 n1 k1:=by simpa using e1
  have e2':c2=.slice A2 n2 k2:=by simpa using e2
  have e3':c3=.int .i64 z:=by simpa using e3
  have e4':c4=.slice A4 n4 k4:=by simpa using e4
  subst e0' e1' e2' e3' e4';exact ⟨⟨A1,n1,k1,A2,n2,k2,A4,n4,k4⟩,⟨o,l1,l2,z,l4⟩,rfl,⟨r1,r2,r4,w0,w3,wk,wp⟩,hnul⟩
theorem EB {W:World} {base:Nat} {held:Bool} {v:Value} {d:DataW H} {p:List MemPlace} (hv:Value.okWide Tryz.prog W .any base 36 v) (h:DataW.Trod enc Tryz.prog W 0 (fun _=>true) held 36 v d p)
 (hw:∀ n ∈ d.weights Tryz.prog 36,n<=reachBytes) (hlt:∀ x ∈ p,x.block<W.heap.size) :
 ∃ u pg,v=CG u pg/\iM W u pg/\(u.bk.Ap=S->u.bk.cp=0):=by
 obtain ⟨cs,rfl,hsz⟩:=okWide_struct Tryz.underlying36 hv;obtain ⟨cs⟩:=cs;obtain ⟨fuel,hf⟩:=h;obtain ⟨xs,m,_,hd,_,hxs,hf⟩:=DataW.trod_struct Tryz.underlying36 hf;have hl:cs.length=7:=by simpa using hsz.trans uY
 have g0:DataW.trod enc Tryz.prog W 0 (fun _=>true) held m 26 (((Value.cells (.agg ⟨cs⟩)).toList.drop 0).take (Tryz.prog.cellsOf 26))=xs[0]?:=hf 0 _ rfl;have g1:DataW.trod enc Tryz.prog W 0 (fun _=>true) held m 28 (((Value.cells (.agg ⟨cs⟩)).toList.drop 5).take (Tryz.prog.cellsOf 28))=xs[1]?:=hf 1 _ rfl;have g2:DataW.trod enc Tryz.prog W 0 (fun _=>true) held m 28 (((Value.cells (.agg ⟨cs⟩)).toList.drop 6).take (Tryz.prog.cellsOf 28))=xs[2]?:=hf 2 _ rfl;have hx3:xs.length=3:=hxs;rw [CV] at g0;rw [pL] at g1 g2;simp only [Prod.mk.injEq] at hd;obtain ⟨rfl,rfl⟩:=hd
 match cs,hl,xs,hx3,g0,g1,g2,hw,hlt with
 | [c0,c1,c2,c3,c4,c5,c6],_,[y0,y1,y2],_,g0,g1,g2,hw,hlt =>
  have U:=Tryz.underlying36;simp only [Value.cells] at g0 g1 g2;obtain ⟨bv,bk,e0,r0,hnul⟩:=z8 (d:=y0.1) (p:=y0.2) (by rfl) g0 (iH (j:=0) U rfl rfl hw) (fun x hx=>hlt x (by simp [hx]));obtain ⟨A1,n1,k1,l1,e1,r1⟩:=iQ (d:=y1.1) (p:=y1.2) g1 (iH (j:=1) U rfl rfl hw) (fun x hx=>hlt x (by simp [hx]));obtain ⟨A2,n2,k2,l2,e2,r2⟩:=iQ (d:=y2.1) (p:=y2.2) g2 (iH (j:=2) U rfl rfl hw) (fun x hx=>hlt x (by simp [hx]));simp at e0 e1 e2;obtain ⟨rfl,rfl,rfl,rfl,rfl⟩:=e0;subst e1 e2;exact ⟨⟨bv,A1,n1,k1,A2,n2,k2⟩,⟨bk,l1,l2⟩,rfl,⟨r0,r1,r2⟩,hnul⟩
end
end Go.Proofs.YtplecfbdchmogaaGreat
