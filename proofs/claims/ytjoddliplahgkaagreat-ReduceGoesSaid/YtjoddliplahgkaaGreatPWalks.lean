/- Merged: Walk2, Walk3, Walk4, Raised, Each. -/
import Derived.Test.YtjoddliplahgkaaGreatPLeafs
import Derived.Deep.RegionHeld3
import Derived.Defers
import Derived.Recover
import Derived.Laws.EntriesVeiled
namespace Go.Proofs.YtjoddliplahgkaaGreat
set_option linter.unusedVariables false
set_option linter.unusedSimpArgs false
open Go.RowKit
open Go.Value renaming int → O, pointer → I, slice → U
open Go.IntKind renaming i64 → X
open Option renaming none → Y, some → Z
open Go.Obj renaming cells → Q
open Go.Lib renaming hid->aB
set_option maxHeartbeats 1000000
set_option maxRecDepth 100000
theorem G2 {l:List Nd} {n:Nd} {ats:List Nd} {k x:Fo} {rest:List Nd} (h:pp [false] l=Z (.cons [] n ats k x,rest)):0<l.length/\bD l 0=n/\eN n=true:=by
 cases l with
 | nil=>simp[eX,fX] at h
 | cons y l =>
  rw[eX] at h;simp only[fX,Option.bind_some] at h;split at h
  · rename_i hok
    simp only[Option.bind_eq_some_iff,Option.some.injEq,Prod.mk.injEq,Fo.cons.injEq] at h;obtain⟨_,_,_,_,_,_,⟨_,e,_⟩,_⟩:=h;subst e;exact⟨by simp,rfl,hok⟩
  · cases h
theorem infoN:(Tryz.prog.info? 46).map (fun i=>(i.zero,i.size,i.bytes))=Z (Z (.agg #[O X 0,O X 0,O X 0]),3,24):=by kernel_rfl
theorem F8 {σ:Type} (C:oC σ) (hG:C.Good) (m:Nat)
 (ih:∀(w:World) (v:Value) (q:Nat) (s:σ) (o:List Nd) (a:Int) (n:Nd) (ats:List Nd) (k:Fo) (rest:List Nd),C.St w v q s o->pp [false] (C.l.drop q)=Z (.cons [] n ats k .nil,rest)->0<=a->a+4*aX k<=1000000000000->C.V.D1 a s n k->o.length+(C.V.E1 a s n ats k).length<=C.M->aX k<m →
  Calls Tryz.prog 146 #[O X a,I (Z ⟨C.H,0,Y⟩),I (Z ⟨C.H+5,0,Y⟩),I (Z ⟨C.H+2,0,Y⟩),I (Z ⟨C.H+1,0,Y⟩),I (Z ⟨C.H+6,0,Y⟩)] w (C.Post w v o (C.l.length-rest.length) (C.V.E1 a s n ats k) (C.V.S1 a s n k) (C.V.G1 a s n k)))
 (w:World) (v:Value) (q:Nat) (s:σ) (o:List Nd) (a:Int) (n:Nd) (ats:List Nd) (k:Fo) (rest:List Nd) (hst:C.St w v q s o) (hpp:pp [false] (C.l.drop q)=Z (.cons [] n ats k .nil,rest)) (ha0:0<=a) (ha1:a+4*aX k<=1000000000000) (hD:C.V.D1 a s n k) (hM:o.length+(C.V.E1 a s n ats k).length<=C.M) (hsz:aX k<=m) (h2:n.op=2) :
 Calls Tryz.prog 146 #[O X a,I (Z ⟨C.H,0,Y⟩),I (Z ⟨C.H+5,0,Y⟩),I (Z ⟨C.H+2,0,Y⟩),I (Z ⟨C.H+1,0,Y⟩),I (Z ⟨C.H+6,0,Y⟩)] w (C.Post w v o (C.l.length-rest.length) (C.V.E1 a s n ats k) (C.V.S1 a s n k) (C.V.G1 a s n k)):=by
 obtain⟨Av,cv,rfl⟩:=hst.own.slice;have HG:=aB hG;have b3:=aB hst;have i2:=aB hpp;have HM:=aB hM;obtain⟨g8,hn,f4⟩:=G2 hpp;rw[List.length_drop] at g8;have hq:q<C.nn:=by have:=hst.tm.len;omega
 have h0:=hst.tm.few;obtain⟨tb,toff,hA,j6,f3⟩:=hst.tm.mem aA;obtain⟨g0,g1,g2⟩:=f3 q (by have:=hst.tm.len;omega);have f7:bD C.l q=n:=by rw[<-hn,mQ];rfl
 rw[f7] at g0 g1 g2;have j7:=hst.size;have j2:C.H+1<w.heap.size:=aA;have j1:C.H+2<w.heap.size:=aA;have j0:C.H+5<w.heap.size:=aA;have j4:=hG.en;have z0:=hst.bt.cell;have z1:=hst.bo.cell;have z2:=hst.bf.cell;have z5:=hst.ba.cell;have f5:=hst.ba.frozen;rw[hA] at z0;have e8:=aB hA;have i3:=aB f4;have j3:(0:Int)<=(q:Int):=aA;have f8:=hD.1;have a8:o.length+(C.V.em s n a).length<=C.M:=by
  simp only[cW.E1,List.length_append] at hM;omega
 have h7:a<=1000000000000:=aA;have i8:=aB f8;have i6:=aB a8;clear f8 a8;clear ih hG hst hpp hD hM hsz ha1 hn f4 hA f3 f7;have j8:(n.op==2)=true:=by simp[h2]
 have H2:=aB h2;clear h2;obtain⟨c8,_,f9,c9,d6⟩:=MW i2.o H2.o;have j5:(q:Int)+1+n.b<=C.nn:=by
  have h1:=congrArg List.length c9;rw[List.length_drop,List.length_append] at h1;have:=b3.o.tm.len;omega
 have g5:=aB c8;have e9:=aB f9;have g6:=aB c9;clear c8 f9 c9;have h4:=b3.o.tm.cap;go_in;go_wp2_with fail;have a3:=(b3.o.goOn HG.o ((q:Int)+1) (q+1) aA).below HG.o (aP _ (Q #[O X n.op,O X n.a,O X n.b] 46));have b4:=HG.o.one _ s _ o n a aG a3.j a3.own (fun k hk=>(a3.hv k hk).1) i3.o i8.o ha0 h7 i6.o;refine b4.mono ?_;rintro e w2 (⟨b5,hm,hj,v',rfl,a0,b0⟩ | ⟨d2,rfl,hm⟩);rotate_left
 · refine⟨rfl,.inr ⟨by simp[cW.G1,d2],rfl,?_⟩⟩;exact (((bE.refl _ _ w).setCell (p:=⟨C.H+5,0,Y⟩) (.inr (.inr rfl)) _).alloc _).trans (hm.mono oC.S_S') (fun g hg=>.inl hg)
 obtain⟨Av',cv',rfl⟩:=a0.slice;have d4:aS w2 w.heap.size 46 #[O X n.op,O X n.a,O X n.b]:=aS.moved (aS.new' (by simp[World.setCell])) hm (oC.S_lt HG.o aA) (fun e=>by have:=b3.o.row _ e;omega);have a1:=a3.called HG.o hm a0 b0 hj;have hB:=fun k h1 h2=>a3.keep HG.o hm (k:=k) h1 h2;have c0:=aS.cell (a3.bt.same (hB _ aA aA));have c1:=aS.cell (a3.bo.same (hB _ aA aA));have c1f:=aS.frozen (a3.bo.same (hB _ aA aA));have cb:=aS.cell d4;have g9:w.heap.size ≠ C.H+1:=aA;rw[e8.o] at c0;have a2:=aB a1;have g4:=aB hm;have g7:=aB d4;have d8:=aB b5;have c3:=aB b0;clear a1 a3 hm d4 b5 hB b4 a0 hj b0 z0 z1 z2 z5 f5 g0 g1 g2;go_wp2_with fail;have b8:aS (w2.setCell ⟨C.H+1,0,Y⟩ (U Av' (o++C.V.em s n a).length cv')) w.heap.size 46 #[O X n.op,O X n.a,O X n.b]:=g7.o.far aG _;have a1:=a2.o;have c5:=((((bE.refl C.S' (Value.slice Av o.length cv).ownBlock w).setCell (p:=⟨C.H+5,0,Y⟩) (.inr (.inr rfl)) (O X ((q:Int)+1))).alloc (Q #[O X n.op,O X n.a,O X n.b] 46)).trans (g4.o.mono oC.S_S') (fun g hg=>.inl hg)).setCell (p:=⟨C.H+1,0,Y⟩) (.inr (.inl rfl)) (U Av' (o++C.V.em s n a).length cv');have a9:fK (U Av o.length cv) (U Av' (o++C.V.em s n a).length cv') w:=fun g hg=>(c3.o g hg).imp id (fun h=>by simp[World.setCell] at h;omega);rw[List.length_append] at b8 a1 c5 a9;clear a2 g7 c0 c1 c1f cb;generalize w2.setCell ⟨C.H+1,0,Y⟩ (U Av' (o.length+(C.V.em s n a).length) cv')=w3 at a1 b8 c5 ⊢;have d0:=a1.bt.cell;have d1:=a1.bo.cell;have d5':w3.cell? ⟨C.H+5,0,Y⟩=Z (O X ((q:Int)+1)):=a1.ba.cell 0;have f6:(Value.slice Av' (o.length+(C.V.em s n a).length) cv').ownBlock ≠ Z w.heap.size:=fun e=>by
  rcases c3.o _ (by rw[List.length_append];exact e) with h | h
  · have:=b3.o.row _ h;omega
  simp[World.setCell] at h;omega
 have e0:=aB f6;clear f6;have db:=b8.cell;rw[e8.o] at d0;have a2:=aB a1;have c6:=aB b8;have e6:=aB c5;have b1:=aB a9;clear a1 b8 c5 a9 g4;obtain⟨h6,h5⟩:=d6;have e1:(0:Int)<=(q:Int)+1:=aA;have e2:(q:Int)+1<=(q:Int)+1+n.b:=aA;have e3:(q:Int)+1+n.b<=(C.c:Int):=aA;have e4:¬ C.c=q+1:=aA;have e5:max ((q:Int)+1+n.b) 0=(q:Int)+1+n.b:=aA;have i9:IntKind.i64.wrap ((q:Int)+1+n.b)=(q:Int)+1+n.b:=IntWalk.i64_in _ aA;have b9:bJ C.R w3.drew (Z ⟨tb,toff+(q+1)*3,Y⟩) (((q:Int)+1+n.b).toNat-(q+1)) (C.c-(q+1)) ats:=by
  have h1:=(a2.o.drew HG.o).tm;rw[e8.o] at h1;exact h1.mid g6.o (by rw[e9.o];omega) aA aA
 have c4:=aB b9;have b7:C.base<=w3.drew.heap.size:=by have:=HG.o.hbase;have:=a2.o.size;simp;omega
 have a7:o.length+(C.V.em s n a).length+(((q:Int)+1+n.b).toNat-(q+1))<=1000000000000:=by
  have h1:=HM.o;have h2:=HG.o.hM;have h3:=e9.o;simp only[cW.E1,List.length_append] at h1;omega
 have i5:=aB b7;have e7:=aB a7;obtain⟨i0,hi,f2,f1,f0⟩:=info_parts infoN;have i7:=aB hi;have i1:=aB f2;have h9:=aB f1;have h8:=aB f0;clear b9 b7 a7 hi f2 f1 f0;have a6:bN w3.drew C.base (U Av' (o.length+(C.V.em s n a).length) cv') (o++C.V.em s n a):=(a2.o.drew HG.o).own;have c2:=aB a6;clear a6;refine wp_region_noPanic ?_;refine fQ 9 (fun w'=>w'.cell? ⟨C.H,0,Y⟩=Z (U (Z ⟨tb,toff,Y⟩) C.nn C.c)/\w'.cell? ⟨C.H+1,0,Y⟩=Z (U Av' (o.length+(C.V.em s n a).length) cv')/\w'.cell? ⟨C.H+5,0,Y⟩=Z (O X ((q:Int)+1))/\w'.cell? ⟨w.heap.size,2,Y⟩=Z (O X n.b)) aF ⟨d0 0,d1 0,d5',db 2⟩ (fun hS0 => ?_);refine bA (i:=0) (v := ?_) rfl aC aC aC aC aC (fun _ _ _ h=>h) (Or.inl ⟨by rfl,?_⟩) aI ?_;rotate_left
 · (intro w hSw;(try dsimp only at hSw);go_simp);all_goals with_reducible rfl
 try simp only[Act.put,List.getElem_toArray,List.getElem_cons_zero,List.getElem_cons_succ,List.setIfInBounds_toArray,List.set_cons_zero,List.set_cons_succ]
 refine bA (i:=1) (v := ?_) rfl aC aC aC aC aC (fun _ _ _ h=>h) (Or.inl ⟨by rfl,?_⟩) aI ?_;rotate_left
 · (intro w hSw;(try dsimp only at hSw);go_simp);all_goals with_reducible rfl
 try simp only[Act.put,List.getElem_toArray,List.getElem_cons_zero,List.getElem_cons_succ,List.setIfInBounds_toArray,List.set_cons_zero,List.set_cons_succ]
 refine bA (i:=2) (v := ?_) rfl aC aC aC aC aC (fun _ _ _ h=>h) (Or.inl ⟨by rfl,?_⟩) aI ?_;rotate_left
 · (intro w hSw;(try dsimp only at hSw);go_simp);all_goals with_reducible rfl
 try simp only[Act.put,List.getElem_toArray,List.getElem_cons_zero,List.getElem_cons_succ,List.setIfInBounds_toArray,List.set_cons_zero,List.set_cons_succ]
 refine bA (i:=3) (v := ?_) rfl aC aC aC aC aC (fun _ _ _ h=>h) (Or.inl ⟨by rfl,?_⟩) aI ?_;rotate_left
 · (intro w hSw;(try dsimp only at hSw);go_simp);all_goals with_reducible rfl
 try simp only[Act.put,List.getElem_toArray,List.getElem_cons_zero,List.getElem_cons_succ,List.setIfInBounds_toArray,List.set_cons_zero,List.set_cons_succ]
 refine bA (i:=4) (v := ?_) rfl aC aC aC aC aC (fun _ _ _ h=>h) (Or.inl ⟨by rfl,?_⟩) aI ?_;rotate_left
 · (intro w hSw;(try dsimp only at hSw);go_simp);all_goals with_reducible rfl
 try simp only[Act.put,List.getElem_toArray,List.getElem_cons_zero,List.getElem_cons_succ,List.setIfInBounds_toArray,List.set_cons_zero,List.set_cons_succ]
 refine bA (i:=5) (v := ?_) rfl aC aC aC aC aC (fun _ _ _ h=>h) (Or.inl ⟨by rfl,?_⟩) aI ?_;rotate_left
 · (intro w hSw;(try dsimp only at hSw);go_simp);all_goals with_reducible rfl
 try simp only[Act.put,List.getElem_toArray,List.getElem_cons_zero,List.getElem_cons_succ,List.setIfInBounds_toArray,List.set_cons_zero,List.set_cons_succ]
 refine bA (i:=6) (v := ?_) rfl aC aC aC aC aC (fun _ _ _ h=>h) (Or.inl ⟨by rfl,?_⟩) aI ?_;rotate_left
 · (intro w hSw;(try dsimp only at hSw);go_simp);all_goals with_reducible rfl
 try simp only[Act.put,List.getElem_toArray,List.getElem_cons_zero,List.getElem_cons_succ,List.setIfInBounds_toArray,List.set_cons_zero,List.set_cons_succ]
 refine bA (i:=7) (v := ?_) rfl aC aC aC aC aC (fun _ _ _ h=>h) (Or.inl ⟨by rfl,?_⟩) aI ?_;rotate_left
 · (intro w hSw;(try dsimp only at hSw);go_simp);all_goals with_reducible rfl
 try simp only[Act.put,List.getElem_toArray,List.getElem_cons_zero,List.getElem_cons_succ,List.setIfInBounds_toArray,List.set_cons_zero,List.set_cons_succ]
 refine bQ (i:=8) aC rfl rfl (fun K8 hK8 => ?_);refine cE (.tmp 23) (.tmp 30) 29 29 rfl C.base i0 Tryz.underlying29 Tryz.underlying29 i7.o i1.o h9.o h8.o (U Av' (o.length+(C.V.em s n a).length) cv') (o++C.V.em s n a) ats aF c2.o aF c4.o (by have:=e7.o;rw[List.length_append];omega) i5.o ?_;intro A' c' w' a0 a4;simp only[List.length_append] at a0 a4;have b2:=fun k hk=>(a2.o.drew HG.o).rowKeep HG.o a4.grown (k:=k) hk;have zb:=(a2.o.drew HG.o).bo.same (b2 _ (.inl ⟨by omega,by omega⟩));have zc:=zb.cell;have zf:=zb.frozen;have g3:w'.cell? ⟨C.H,0,Y⟩=Z (U (Z ⟨tb,toff,Y⟩) C.nn C.c)/\w'.cell? ⟨C.H+1,0,Y⟩=Z (U Av' (o.length+(C.V.em s n a).length) cv')/\w'.cell? ⟨C.H+5,0,Y⟩=Z (O X ((q:Int)+1))/\w'.cell? ⟨w.heap.size,2,Y⟩=Z (O X n.b):=⟨(aQ (b2 _ (.inl ⟨by omega,by omega⟩)) 0).trans (d0 0),zc 0,(aQ (b2 _ (.inl ⟨by omega,by omega⟩)) 0).trans d5',(aQ (b2 _ (.inr ⟨e0.o,c6.o.lt⟩)) 2).trans (db 2)⟩;refine hK8.o _ _ (fun _=>g3) ?_;try simp only[Act.put,List.getElem_toArray,List.getElem_cons_zero,List.getElem_cons_succ,List.setIfInBounds_toArray,List.set_cons_zero,List.set_cons_succ]
 refine bQ (i:=9) aC rfl rfl (fun K9 hK9 => ?_);go_simp;refine hK9.o _ _ (fun h=>absurd rfl h) ?_;refine gK aC (NoPanic.normal ?_) _;have a5:=(a2.o.drew HG.o).laid HG.o a4.grown a0 (fun g hg=>a4.new g hg);have d3:aS (w'.setCell ⟨C.H+1,0,Y⟩ (.slice A' (o.length+(C.V.em s n a).length+(((q:Int)+1+n.b).toNat-(q+1))) c')) w.heap.size 46 #[O X n.op,O X n.a,O X n.b]:=aS.far (aS.same c6.o (b2 _ (.inr ⟨e0.o,c6.o.lt⟩))) aG _;have c7:=(e6.o.drew.trans (bE.of_grown a4.grown) (fun g hg=>b1.o g hg)).setCell (p:=⟨C.H+1,0,Y⟩) (.inr (.inl rfl)) (.slice A' (o.length+(C.V.em s n a).length+(((q:Int)+1+n.b).toNat-(q+1))) c');have b6:fK (U Av o.length cv) (.slice A' (o.length+(C.V.em s n a).length+(((q:Int)+1+n.b).toNat-(q+1))) c') w:=b1.o.trans (fun g hg=>a4.new g hg) e6.o.size;clear zb zc zf g3 b2 a4 a0 a2 c6 e6 b1 e0 hS0 d0 d1 d5' db c4;generalize w'.setCell ⟨C.H+1,0,Y⟩ (.slice A' (o.length+(C.V.em s n a).length+(((q:Int)+1+n.b).toNat-(q+1))) c')=w5 at a5 d3 c7 ⊢;have d5:w5.cell? ⟨C.H+5,0,Y⟩=Z (O X ((q:Int)+1)):=a5.ba.cell 0;have d5f:=a5.ba.frozen;have db:=d3.cell;have c8:dY n.op n.b=0:=by rw[H2.o];rfl
 have d7:=aB a5;have i4:=aB c7;have d9:=aB b6;clear a5 d3 c7 b6;go_wp2_with (go_at_call 133;refine (pT _ _ _ _ ⟨by omega,by omega⟩).mono ?_;rintro e w6 ⟨rfl,rfl⟩)
 refine wp_loop_rounds 1 ?_;rw[rounds_succ];go_wp2_with fail;refine bodyPost_end (results_none rfl _ _ _) rfl (.inl ⟨?_,rfl,?_,_,?_,d9.o⟩)
 · rw[g5.o];simp[cW.G1,cW.G,d8.o]
 · exact (i4.o.setCell (p:=⟨C.H+5,0,Y⟩) (.inr (.inr rfl)) _).alloc _
 have h1:=(d7.o.goOn HG.o ((q:Int)+1+n.b) (C.l.length-rest.length) (by
  have h1:=congrArg List.length g6.o;have h2:=e9.o;have h3:=b3.o.tm.len;rw[List.length_drop,List.length_append] at h1;omega)).below HG.o (aP _ (Q #[O X n.op,O X n.a,O X n.b] 46))
 rw[g5.o];simpa only[cW.E1,cW.S1,cW.E,cW.S,List.append_nil,List.append_assoc] using h1
theorem F7 {σ:Type} (C:oC σ) (hG:C.Good) (m:Nat)
 (ih:∀(w:World) (v:Value) (q:Nat) (s:σ) (o:List Nd) (a:Int) (n:Nd) (ats:List Nd) (k:Fo) (rest:List Nd),C.St w v q s o->pp [false] (C.l.drop q)=Z (.cons [] n ats k .nil,rest)->0<=a->a+4*aX k<=1000000000000->C.V.D1 a s n k->o.length+(C.V.E1 a s n ats k).length<=C.M->aX k<m →
  Calls Tryz.prog 146 #[O X a,I (Z ⟨C.H,0,Y⟩),I (Z ⟨C.H+5,0,Y⟩),I (Z ⟨C.H+2,0,Y⟩),I (Z ⟨C.H+1,0,Y⟩),I (Z ⟨C.H+6,0,Y⟩)] w (C.Post w v o (C.l.length-rest.length) (C.V.E1 a s n ats k) (C.V.S1 a s n k) (C.V.G1 a s n k)))
 (w:World) (v:Value) (q:Nat) (s:σ) (o:List Nd) (a:Int) (n:Nd) (ats:List Nd) (k:Fo) (rest:List Nd) (hst:C.St w v q s o) (hpp:pp [false] (C.l.drop q)=Z (.cons [] n ats k .nil,rest)) (ha0:0<=a) (ha1:a+4*aX k<=1000000000000) (hD:C.V.D1 a s n k) (hM:o.length+(C.V.E1 a s n ats k).length<=C.M) (hsz:aX k<=m) (h2:n.op ≠ 2) :
 Calls Tryz.prog 146 #[O X a,I (Z ⟨C.H,0,Y⟩),I (Z ⟨C.H+5,0,Y⟩),I (Z ⟨C.H+2,0,Y⟩),I (Z ⟨C.H+1,0,Y⟩),I (Z ⟨C.H+6,0,Y⟩)] w (C.Post w v o (C.l.length-rest.length) (C.V.E1 a s n ats k) (C.V.S1 a s n k) (C.V.G1 a s n k)):=by
 obtain⟨Av,cv,rfl⟩:=hst.own.slice;have HI:=aB ih;have HG:=aB hG;have j3:=aB hst;have w1:=aB hpp;have HD:=aB hD;have HM:=aB hM;have r3:=aB hsz;have HA:=aB ha1;obtain⟨t7,hn,o8⟩:=G2 hpp;rw[List.length_drop] at t7;have hq:q<C.nn:=by have:=hst.tm.len;omega
 have v2:=hst.tm.few;obtain⟨tb,toff,hA,q9,o5⟩:=hst.tm.mem aA;obtain⟨g0,g1,g2⟩:=o5 q (by have:=hst.tm.len;omega);have p0:bD C.l q=n:=by rw[<-hn,mQ];rfl
 rw[p0] at g0 g1 g2;have y8:=(hG.hR tb q9).1;have z3:=hst.size;have y3:C.H+1<w.heap.size:=aA;have y2:C.H+2<w.heap.size:=aA;have y1:C.H+5<w.heap.size:=aA;have s4:tb<w.heap.size:=aA;have y7:=hG.en;have z0:=hst.bt.cell;have z1:=hst.bo.cell;have z2:=hst.bf.cell;have z5:=hst.ba.cell;have f5:=hst.ba.frozen;rw[hA] at z0;have r8:=aB hA;have j4:=aB o8;have y4:(0:Int)<=(q:Int):=aA;have p8:=hD.1;have a6:o.length+(C.V.em s n a).length<=C.M:=by
  simp only[cW.E1,List.length_append] at hM;omega
 have v4:a<=1000000000000:=aA;have x6:=aB p8;have x2:=aB a6;clear p8 a6;clear ih hG hst hpp hD hM hsz ha1 hn o8 hA o5 p0;have z4:(n.op==2)=false:=by simp[h2]
 have H2:=aB h2;clear h2;obtain⟨_,e8,p5⟩:=PF w1.o H2.o;have j8:cD n.op n.a n.b=true:=by
  have:=j4.o;simp only[eN,Bool.and_eq_true] at this;exact this.1.1
 obtain⟨y9,l3⟩:=gT j8;obtain⟨k5,p7⟩:=CA j8;have x3:=aB p5;have n9:=aB e8;have r2:C.V.D n.op n.b 0 a (C.V.nx s n a) k:=HD.o.2;have r6:=aB r2;have r0:o.length+((C.V.em s n a).length+(C.V.E n.op n.b 0 a (C.V.nx s n a) k).length)<=C.M:=by
  have h1:=HM.o;rw[e8] at h1;simpa only[cW.E1,List.nil_append,List.length_append] using h1
 have i5:=aB r0;clear e8 p5 r2 r0 j8;have p4:=j3.o.tm.len;have i6:=aB p4;clear p4;go_in;go_wp2_with fail;have a5:=(j3.o.goOn HG.o ((q:Int)+1) (q+1) aA).below HG.o (aP _ (Q #[O X n.op,O X n.a,O X n.b] 46));have g3:=HG.o.one _ s _ o n a aG a5.j a5.own (fun k hk=>(a5.hv k hk).1) j4.o x6.o ha0 v4 x2.o;refine g3.mono ?_;rintro e w2 (⟨g4,hm,hj,v',rfl,a3,c2⟩ | ⟨k9,rfl,hm⟩);rotate_left
 · refine⟨rfl,.inr ⟨by simp[cW.G1,k9],rfl,?_⟩⟩;exact (((bE.refl _ _ w).setCell (p:=⟨C.H+5,0,Y⟩) (.inr (.inr rfl)) _).alloc _).trans (hm.mono oC.S_S') (fun g hg=>.inl hg)
 obtain⟨Av',cv',rfl⟩:=a3.slice;have l2:aS w2 w.heap.size 46 #[O X n.op,O X n.a,O X n.b]:=aS.moved (aS.new' (by simp[World.setCell])) hm (oC.S_lt HG.o aA) (fun e=>by have:=j3.o.row _ e;omega);have f2:=a5.called HG.o hm a3 c2 hj;have hB:=fun k h1 h2=>a5.keep HG.o hm (k:=k) h1 h2;have c1:=aS.cell (a5.bo.same (hB _ aA aA));have c1f:=aS.frozen (a5.bo.same (hB _ aA aA));have cb:=aS.cell l2;have t8:w.heap.size ≠ C.H+1:=aA;have k4:=(((((bE.refl C.S' (Value.slice Av o.length cv).ownBlock w).setCell (p:=⟨C.H+5,0,Y⟩) (.inr (.inr rfl)) (O X ((q:Int)+1))).alloc (Q #[O X n.op,O X n.a,O X n.b] 46)).trans (hm.mono oC.S_S') (fun g hg=>.inl hg)).setCell (p:=⟨C.H+1,0,Y⟩) (.inr (.inl rfl)) (U Av' (o++C.V.em s n a).length cv')).alloc (Q #[O X n.op,O X n.a,O X n.b] 46);have e3:fK (U Av o.length cv) (U Av' (o++C.V.em s n a).length cv') w:=fun g hg=>(c2 g hg).imp id (fun h=>by simp[World.setCell] at h;omega);have e2:(Value.slice Av' (o++C.V.em s n a).length cv').ownBlock ≠ Z w.heap.size:=fun e=>by
  rcases c2 _ e with h | h
  · have:=j3.o.row _ h;omega
  simp[World.setCell] at h;omega
 have d9:=f2.below HG.o (aP _ (Q #[O X n.op,O X n.a,O X n.b] 46));have j1:=(l2.far (p:=⟨C.H+1,0,Y⟩) aG (U Av' (o++C.V.em s n a).length cv')).alloc (Q #[O X n.op,O X n.a,O X n.b] 46);rw[List.length_append] at k4 e3 d9 j1 e2;have l9:=aB d9;have x0:=aB k4;have m8:=aB e3;have m6:=aB e2;have x8:=aB j1;have m4:=aB g4;clear f2 a5 hm l2 g4 hB g3 a3 hj c2 z0 z1 z2 z5 f5 g0 g1 g2 k4 e3 d9 j1 e2;go_wp2_with (go_at_call 133;refine (pT _ _ _ _ ⟨by omega,by omega⟩).mono ?_;rintro e w6 ⟨rfl,rfl⟩)
 clear c1 c1f cb;go_loopw [38] (fun i wr=>∃(F1 F2:Fo) (j q1:Nat) (v1:Value) (s1:σ) (o1:List Nd),Hid (k=F1.app F2)/\Hid (pp (gY n j) (C.l.drop q1)=Z (F2,rest))/\Hid (bF F1=if n.op=12 then 2*j else j)/\(j:Int)<=dY n.op n.b/\i=O X (j:Int)/\q1<=C.nn/\Hid (C.St wr v1 q1 s1 o1)/\Hid (s1=C.V.S n.op n.b 0 a (C.V.nx s n a) F1)/\Hid (o1=o++(C.V.em s n a++C.V.E n.op n.b 0 a (C.V.nx s n a) F1)) ∧
  Hid (aS wr w.heap.size 46 #[O X n.op,O X n.a,O X n.b])/\Hid (bE C.S' (Value.slice Av o.length cv).ownBlock w wr)/\Hid (fK (U Av o.length cv) v1 w)/\Hid (v1.ownBlock ≠ Z w.heap.size)/\Hid (C.V.G n.op n.b 0 a (C.V.nx s n a) F1=true)) (fun i _=>(dY n.op n.b).toNat-(intOf i).toNat)
 case atStart =>
  exact⟨.nil,k,0,q+1,_,_,_,aB rfl,aB (by rw[rI];exact x3.o),aB (by simp[bF]),k5,by go_num,hq,l9,aB rfl,aB (by simp[cW.E]),x8,x0,m8,m6,aB rfl⟩
 case round =>
  obtain⟨F1,F2,j,q1,v1,s1,o1,HK,m0,r5,hj,rfl,y5,a0,b1,i1,f0,i4,b3,c7,n0⟩:=hrel;obtain⟨Av1,cv1,rfl⟩:=a0.o.own.slice;have s3:=a0.o.size;have e1:=a0.o.bo.cell;have e5:wr.cell? ⟨C.H+5,0,Y⟩=Z (O X (q1:Int)):=a0.o.ba.cell 0;have e6:wr.cell? ⟨C.H+6,0,Y⟩=Z (.func (.func 146) #[] #[I (Z ⟨C.H,0,Y⟩),I (Z ⟨C.H+5,0,Y⟩),I (Z ⟨C.H+2,0,Y⟩),I (Z ⟨C.H+1,0,Y⟩),I (Z ⟨C.H+6,0,Y⟩)]):=a0.o.br.cell 0;have eb:=f0.o.cell;have s8:C.H<wr.heap.size:=aA;have s7:C.H+1<wr.heap.size:=aA;have s6:C.H+5<wr.heap.size:=aA;have s5:=f0.o.lt;by_cases hlt:(j:Int)<dY n.op n.b;rotate_left
  · have b5:=m0.o;rw[uF n (i:=j) aA,j9] at b5;simp only[Option.some.injEq,Prod.mk.injEq] at b5;obtain⟨d4,hr⟩:=b5;have f4:C.l.length-rest.length=q1:=by
     rw[<-hr,List.length_drop];have:=i6.o;omega
    have a7:k=F1:=by rw[HK.o,<-d4,jJ]
    have w0:=aB f4;have c8:=aB a7;clear d4 hr f4 a7;go_wp2_with fail;refine bodyPost_end (results_none rfl _ _ _) rfl (.inl ⟨?_,rfl,i4.o,_,?_,b3.o⟩)
    · simp only[cW.G1,m4.o,c8.o,n0.o,Bool.and_self]
    rw[w0.o,c8.o,n9.o,show C.V.S1 a s n F1=s1 from b1.o.symm,show o++C.V.E1 a s n [] F1=o1 by rw[i1.o];simp only[cW.E1,List.nil_append]];exact a0.o
  by_cases h12:n.op=12
  · have l5:(n.op==12)=true:=by simp[h12]
    have v0:(j:Int)<n.b:=by simpa[dY,h12] using hlt
    have b5:=m0.o;rw[uG h12 v0] at b5;obtain⟨s9,y6,F',f7,d4⟩:=PG b5;obtain⟨n1,a1,k1,F'',q2,r1,j7,f3,f9,f6⟩:=t9 f7 aA;obtain⟨n2,a2,k2,F3,q3,h9,t6,t5,o7,f8⟩:=t9 f6 f3;have c3:bF F1=2*j:=by have:=r5.o;rw[if_pos h12] at this;exact this
    have a7:k=F1.app (.cons [bD C.l q1] n1 a1 k1 (.cons [] n2 a2 k2 F3)):=by rw[HK.o,d4,r1,h9];rfl
    have c5:a+aR n.op n.b ((2*j:Nat):Int)=a:=by
     simp only[aR];rw[if_neg aA,if_neg aA];omega
    have c4:a+aR n.op n.b ((2*j+1:Nat):Int)=a+n.b:=by
     simp only[aR];rw[if_neg aA,if_pos aA]
    have j1:n.b<=4:=by
     have:=j4.o;simp only[eN,Bool.and_eq_true] at this;have h1:=this.1.1;rw[aV] at h1;omega
    have v3:C.V.D1 a s1 n1 k1/\C.V.D1 (a+n.b) (C.V.S1 a s1 n1 k1) n2 k2:=by
     have h1:=r6.o;rw[a7,cW.D_app,cW.D_cons,cW.D_cons,c3,Nat.zero_add,c5,c4,<-b1.o] at h1;exact⟨h1.2.1,h1.2.2.1⟩
    obtain⟨h5,p9⟩:=v3;have p1:o1.length+(1+((C.V.E1 a s1 n1 a1 k1).length+(C.V.E1 (a+n.b) (C.V.S1 a s1 n1 k1) n2 a2 k2).length))<=C.M:=by
     have h1:=i5.o;rw[a7,cW.E_app,cW.E_cons,cW.E_cons,c3,Nat.zero_add,c5,c4,<-b1.o] at h1;rw[i1.o];simp only[List.length_append,List.length_nil,List.length_cons] at h1 ⊢;omega
    have j0:aX k1<m/\aX k2<m:=by
     have h1:=r3.o;rw[a7,dO] at h1;simp only[aX] at h1;omega
    have j2:a+4*aX k1<=1000000000000/\a+n.b+4*aX k2<=1000000000000:=by
     have h1:=HA.o;rw[a7,dO] at h1;simp only[aX] at h1;omega
    obtain⟨h4,h3⟩:=j0;obtain⟨h7,h6⟩:=j2;have o9:0<=a+n.b:=aA;have d7:=a0.o.tm;rw[r8.o] at d7;obtain⟨tb',toff',l4,_,g8⟩:=d7.mem aA;injection l4 with l4;injection l4 with hA1 hA2;subst hA1 hA2;obtain⟨t0,t1,t2⟩:=g8 q1 s9;have i9:tb<wr.heap.size:=aA;have e0:=a0.o.bt.cell;rw[r8.o] at e0;have t4:(0:Int)<=(q1:Int):=aA;have t3:(q1:Int)<(C.nn:Int):=by have:=i6.o;omega
    have d3:C.base<=wr.drew.heap.size:=by have:=HG.o.hbase;simp;omega
    have a6:o1.length+1<=5864062014805:=by have:=HG.o.hM;omega
    have r9:IntKind.i64.wrap (a+n.b)=a+n.b:=IntWalk.i64_in _ aA;obtain⟨i0,hi,o4,o3,o2⟩:=info_parts infoN;have x4:=aB hi;have v7:=aB o4;have v6:=aB o3;have v5:=aB o2;have o0:=aB h12;have c8:=aB a7;have b4:=aB c3;have b9:=aB c5;have c9:=aB c4;have n6:=aB h5;have n5:=aB p9;have r4:=aB p1;have n4:=aB h4;have n3:=aB h3;have n8:=aB h7;have n7:=aB h6;have w4:=aB o9;have m2:=aB f9;have w3:=aB o7;have m1:=aB f8;have i7:=aB a6;have i8:=aB d3;have m3:=aB (a0.o.drew HG.o).own;clear hi o4 o3 o2 h12 a7 c3 c5 c4 h5 p9 p1 h4 h3 h7 h6 o9 f9 o7 f8 a6 d3 b5 f7 f6 d4 r1 h9 d7 g8;have k0:=eb 0;have k1':=eb 1;go_wp2_with fail;refine wp_region_noPanic ?_;refine fQ 7 (fun w'=>w'.cell? ⟨C.H,0,Y⟩=Z (U (Z ⟨tb,toff,Y⟩) C.nn C.c)/\w'.cell? ⟨C.H+1,0,Y⟩=Z (U Av1 o1.length cv1)/\w'.cell? ⟨C.H+5,0,Y⟩=Z (O X (q1:Int))/\w'.cell? ⟨tb,toff+q1*3,Y⟩=Z (O X (bD C.l q1).op)/\w'.cell? ⟨tb,toff+q1*3+1,Y⟩=Z (O X (bD C.l q1).a)/\w'.cell? ⟨tb,toff+q1*3+2,Y⟩=Z (O X (bD C.l q1).b)) aF ⟨e0 0,e1 0,e5,t0,t1,t2⟩ (fun hS0 => ?_);refine bA (i:=0) (v := ?_) rfl aC aC aC aC aC (fun _ _ _ h=>h) (Or.inl ⟨by rfl,?_⟩) aI ?_;rotate_left
    · (intro w hSw;(try dsimp only at hSw);go_simp);all_goals with_reducible rfl
    try simp only[Act.put,List.getElem_toArray,List.getElem_cons_zero,List.getElem_cons_succ,List.setIfInBounds_toArray,List.set_cons_zero,List.set_cons_succ]
    refine bA (i:=1) (v := ?_) rfl aC aC aC aC aC (fun _ _ _ h=>h) (Or.inl ⟨by rfl,?_⟩) aI ?_;rotate_left
    · (intro w hSw;(try dsimp only at hSw);go_simp);all_goals with_reducible rfl
    try simp only[Act.put,List.getElem_toArray,List.getElem_cons_zero,List.getElem_cons_succ,List.setIfInBounds_toArray,List.set_cons_zero,List.set_cons_succ]
    refine bA (i:=2) (v := ?_) rfl aC aC aC aC aC (fun _ _ _ h=>h) (Or.inl ⟨by rfl,?_⟩) aI ?_;rotate_left
    · (intro w hSw;(try dsimp only at hSw);go_simp);all_goals with_reducible rfl
    try simp only[Act.put,List.getElem_toArray,List.getElem_cons_zero,List.getElem_cons_succ,List.setIfInBounds_toArray,List.set_cons_zero,List.set_cons_succ]
    refine bA (i:=3) (v := ?_) rfl aC aC aC aC aC (fun _ _ _ h=>h) (Or.inl ⟨by rfl,?_⟩) aI ?_;rotate_left
    · (intro w hSw;(try dsimp only at hSw);go_simp);all_goals with_reducible rfl
    try simp only[Act.put,List.getElem_toArray,List.getElem_cons_zero,List.getElem_cons_succ,List.setIfInBounds_toArray,List.set_cons_zero,List.set_cons_succ]
    refine bA (i:=4) (v := ?_) rfl aC aC aC aC aC (fun _ _ _ h=>h) (Or.inl ⟨by rfl,?_⟩) aI ?_;rotate_left
    · (intro w hSw;(try dsimp only at hSw);go_simp);all_goals with_reducible rfl
    try simp only[Act.put,List.getElem_toArray,List.getElem_cons_zero,List.getElem_cons_succ,List.setIfInBounds_toArray,List.set_cons_zero,List.set_cons_succ]
    refine bQ (i:=5) aC rfl rfl (fun K5 hK5 => ?_);go_simp;have q7:(wr.drew.alloc (Q #[O X (bD C.l q1).op,O X (bD C.l q1).a,O X (bD C.l q1).b] 46)).cell? ⟨C.H,0,Y⟩=Z (U (Z ⟨tb,toff,Y⟩) C.nn C.c)/\(wr.drew.alloc (Q #[O X (bD C.l q1).op,O X (bD C.l q1).a,O X (bD C.l q1).b] 46)).cell? ⟨C.H+1,0,Y⟩=Z (U Av1 o1.length cv1)/\(wr.drew.alloc (Q #[O X (bD C.l q1).op,O X (bD C.l q1).a,O X (bD C.l q1).b] 46)).cell? ⟨C.H+5,0,Y⟩=Z (O X (q1:Int))/\(wr.drew.alloc (Q #[O X (bD C.l q1).op,O X (bD C.l q1).a,O X (bD C.l q1).b] 46)).cell? ⟨tb,toff+q1*3,Y⟩=Z (O X (bD C.l q1).op)/\(wr.drew.alloc (Q #[O X (bD C.l q1).op,O X (bD C.l q1).a,O X (bD C.l q1).b] 46)).cell? ⟨tb,toff+q1*3+1,Y⟩=Z (O X (bD C.l q1).a)/\(wr.drew.alloc (Q #[O X (bD C.l q1).op,O X (bD C.l q1).a,O X (bD C.l q1).b] 46)).cell? ⟨tb,toff+q1*3+2,Y⟩=Z (O X (bD C.l q1).b):=by
     have hc:∀b o,b<wr.heap.size->(wr.drew.alloc (Q #[O X (bD C.l q1).op,O X (bD C.l q1).a,O X (bD C.l q1).b] 46)).cell? ⟨b,o,Y⟩=wr.cell? ⟨b,o,Y⟩:=fun b o hb=>(World.cell?_alloc_lt _ _ _ hb);rw[hc _ _ s8,hc _ _ s7,hc _ _ s6,hc _ _ i9,hc _ _ i9,hc _ _ i9];exact⟨e0 0,e1 0,e5,t0,t1,t2⟩
    refine hK5.o _ _ (fun _=>q7) ?_;try simp only[Act.put,List.getElem_toArray,List.getElem_cons_zero,List.getElem_cons_succ,List.setIfInBounds_toArray,List.set_cons_zero,List.set_cons_succ]
    refine bQ (i:=6) aC rfl rfl (fun K6 hK6 => ?_);refine cQ (.tmp 44) (.tmp 49) 29 rfl C.base i0 Tryz.underlying29 x4.o v7.o v6.o v5.o (U Av1 o1.length cv1) o1 (bD C.l q1) wr.drew aF aF m3.o _ aF aD i7.o i8.o ?_;intro A' c' w' a3 b0;have e4:=fun k hk=>(a0.o.drew HG.o).rowKeep HG.o b0.grown (k:=k) hk;have zb:=(a0.o.drew HG.o).bo.same (e4 _ (.inl ⟨by omega,by omega⟩));have zf:=zb.frozen;have s0:(Value.slice Av1 o1.length cv1).ownBlock ≠ Z tb:=fun e=>(a0.o.hv _ e).2.1 q9;have q6:w'.cell? ⟨C.H,0,Y⟩=Z (U (Z ⟨tb,toff,Y⟩) C.nn C.c)/\w'.cell? ⟨C.H+1,0,Y⟩=Z (U Av1 o1.length cv1)/\w'.cell? ⟨C.H+5,0,Y⟩=Z (O X (q1:Int))/\w'.cell? ⟨tb,toff+q1*3,Y⟩=Z (O X (bD C.l q1).op)/\w'.cell? ⟨tb,toff+q1*3+1,Y⟩=Z (O X (bD C.l q1).a)/\w'.cell? ⟨tb,toff+q1*3+2,Y⟩=Z (O X (bD C.l q1).b):=by
     have hc:=aQ (e4 tb (.inr ⟨s0,i9⟩));rw[hc,hc,hc,aQ (e4 C.H (.inl ⟨by omega,by omega⟩)),aQ (e4 (C.H+1) (.inl ⟨by omega,by omega⟩)),aQ (e4 (C.H+5) (.inl ⟨by omega,by omega⟩))];exact⟨e0 0,e1 0,e5,t0,t1,t2⟩
    refine hK6.o _ _ (fun _=>q6) ?_;try simp only[Act.put,List.getElem_toArray,List.getElem_cons_zero,List.getElem_cons_succ,List.setIfInBounds_toArray,List.set_cons_zero,List.set_cons_succ]
    refine bQ (i:=7) aC rfl rfl (fun K7 hK7 => ?_);go_simp;refine hK7.o _ _ (fun h=>absurd rfl h) ?_;refine gK aC (NoPanic.normal ?_) _;have a4:=(a0.o.drew HG.o).laid HG.o b0.grown a3 (fun g hg=>b0.new g hg);have l1:aS (w'.setCell ⟨C.H+1,0,Y⟩ (U A' (o1.length+1) c')) w.heap.size 46 #[O X n.op,O X n.a,O X n.b]:=aS.far (aS.same (show aS wr.drew _ _ _ from f0.o) (e4 _ (.inr ⟨c7.o,s5⟩))) aG _;have p2:=(i4.o.drew.trans (bE.of_grown b0.grown) (fun g hg=>b3.o g hg)).setCell (p:=⟨C.H+1,0,Y⟩) (.inr (.inl rfl)) (U A' (o1.length+1) c');have g7:fK (U Av o.length cv) (U A' (o1.length+1) c') w:=b3.o.trans (fun g hg=>b0.new g hg) i4.o.size;have g6:(Value.slice A' (o1.length+1) c').ownBlock ≠ Z w.heap.size:=fun e=>by
     rcases b0.new _ e with h | h
     · exact c7.o h
     simp at h;omega
    have c0:=a4.goOn HG.o ((q1:Int)+1) (q1+1) aA;have l0:=l1.far (p:=⟨C.H+5,0,Y⟩) aG (O X ((q1:Int)+1));have k3:=p2.setCell (p:=⟨C.H+5,0,Y⟩) (.inr (.inr rfl)) (O X ((q1:Int)+1));clear zb zf q7 q6 e4 b0 a3 hS0 p2;generalize w'.setCell ⟨C.H+1,0,Y⟩ (U A' (o1.length+1) c')=w6 at a4 l1 c0 l0 k3 ⊢;have d5:w6.cell? ⟨C.H+5,0,Y⟩=Z (O X (q1:Int)):=a4.ba.cell 0;have d5f:=a4.ba.frozen;have d6:(w6.setCell ⟨C.H+5,0,Y⟩ (O X ((q1:Int)+1))).cell? ⟨C.H+6,0,Y⟩=Z (.func (.func 146) #[] #[I (Z ⟨C.H,0,Y⟩),I (Z ⟨C.H+5,0,Y⟩),I (Z ⟨C.H+2,0,Y⟩),I (Z ⟨C.H+1,0,Y⟩),I (Z ⟨C.H+6,0,Y⟩)]):=c0.br.cell 0;have l8:=aB c0;have r7:=aB l0;have m9:=aB k3;have e9:=aB g7;have i2:=aB g6;clear a4 l1 c0 l0 k3 g7 g6 e0 e1 e5 e6 eb t0 t1 t2 k0 k1';go_wp2_with fail;refine (HI.o _ _ (q1+1) s1 _ _ n1 a1 k1 (C.l.drop q2) l8.o m2.o ha0 n8.o n6.o (by have:=r4.o;rw[List.length_append,List.length_singleton];omega) n4.o).mono ?_;rintro e w8 (⟨e7,rfl,b7,v8,a8,a9⟩ | ⟨e7,rfl,b7⟩);rotate_left
    · refine⟨rfl,.inr ⟨?_,rfl,m9.o.trans b7 e9.o⟩⟩;rw[cW.G1,c8.o,cW.G_app,cW.G_cons,b4.o,Nat.zero_add,b9.o,<-b1.o,e7];simp
    rw[List.length_drop,show C.l.length-(C.l.length-q2)=q2 by omega] at a8;have f1:aS w8 w.heap.size 46 #[O X n.op,O X n.a,O X n.b]:=aS.moved r7.o b7 (oC.S'_new HG.o aA) i2.o;have g5:v8.ownBlock ≠ Z w.heap.size:=fun e=>by
     rcases a9 _ e with h | h
     · exact i2.o h
     have:=r7.o.lt;omega
    have d1:=e9.o.trans a9 m9.o.size;have h0:=m9.o.trans b7 e9.o;have p6:w8.cell? ⟨C.H+6,0,Y⟩=Z (.func (.func 146) #[] #[I (Z ⟨C.H,0,Y⟩),I (Z ⟨C.H+5,0,Y⟩),I (Z ⟨C.H+2,0,Y⟩),I (Z ⟨C.H+1,0,Y⟩),I (Z ⟨C.H+6,0,Y⟩)]):=a8.br.cell 0;have pb:=f1.cell;have l7:=aB a8;have j5:=aB f1;have i3:=aB h0;have b8:=aB d1;have c6:=aB g5;clear a8 f1 b7 h0 a9 d1 g5 d5 d5f d6;go_wp2_with fail;refine (HI.o _ _ q2 _ _ _ n2 a2 k2 (C.l.drop q3) l7.o w3.o w4.o n7.o n5.o (by have:=r4.o;rw[List.length_append,List.length_append,List.length_singleton];omega) n3.o).mono ?_;rintro e w9 (⟨k6,rfl,d2,v9,d8,b2⟩ | ⟨k6,rfl,d2⟩);rotate_left
    · refine⟨rfl,.inr ⟨?_,rfl,i3.o.trans d2 b8.o⟩⟩;rw[cW.G1,c8.o,cW.G_app,cW.G_cons,cW.G_cons,b4.o,Nat.zero_add,b9.o,c9.o,<-b1.o,k6];simp
    rw[List.length_drop,show C.l.length-(C.l.length-q3)=q3 by omega] at d8;have q4:aS w9 w.heap.size 46 #[O X n.op,O X n.a,O X n.b]:=aS.moved j5.o d2 (oC.S'_new HG.o aA) c6.o;have b6:v9.ownBlock ≠ Z w.heap.size:=fun e=>by
     rcases b2 _ e with h | h
     · exact c6.o h
     have:=j5.o.lt;omega
    have d0:=b8.o.trans b2 i3.o.size;have g9:=i3.o.trans d2 b8.o;have l6:=aB d8;have x7:=aB q4;have w5:=aB g9;have m7:=aB d0;have m5:=aB b6;clear d8 q4 d2 g9 b2 d0 b6 p6 pb;go_wp2_with fail;go_roundw
    case rel =>
     refine⟨F1.app (.cons [bD C.l q1] n1 a1 k1 (.cons [] n2 a2 k2 .nil)),F3,j+1,q3,v9,_,_,aB (by rw[c8.o,dG];rfl),m1,aB (by rw[bV,b4.o,if_pos o0.o];simp only[bF];omega),by omega,by go_num,by have:=i6.o;omega,l6,aB ?_,aB ?_,x7,w5,m7,m5,aB ?_⟩
     · rw[cW.S_app,cW.S_cons,cW.S_cons,b4.o,Nat.zero_add,b9.o,c9.o,<-b1.o];rfl
     · rw[cW.E_app,cW.E_cons,cW.E_cons,b4.o,Nat.zero_add,b9.o,c9.o,<-b1.o,i1.o];simp only[cW.E,List.append_nil,List.nil_append,List.append_assoc]
     rw[cW.G_app,cW.G_cons,cW.G_cons,b4.o,Nat.zero_add,b9.o,c9.o,<-b1.o,n0.o,e7,k6];rfl
    case measure=>simp[intOf];omega
  have l5:(n.op==12)=false:=by simp[h12]
  have o6:=uH h12 hlt;have b5:=m0.o;rw[o6] at b5;obtain⟨n1,a1,k1,F3,q2,d4,j7,f3,f9,f8⟩:=t9 b5 (by have:=i6.o;omega);have c3:bF F1=j:=by have:=r5.o;rw[if_neg h12] at this;exact this
  have a7:k=F1.app (.cons [] n1 a1 k1 F3):=by rw[HK.o,d4]
  have h8:aR n.op n.b (j:Int)=eO n.op (j:Int):=by simp only[aR,eO,h12,false_and,if_false]
  have h5:C.V.D1 (a+eO n.op (j:Int)) s1 n1 k1:=by
   have h1:=r6.o;rw[a7,cW.D_app,cW.D_cons,c3,Nat.zero_add,h8,<-b1.o] at h1;exact h1.2.1
  have p3:o1.length+(C.V.E1 (a+eO n.op (j:Int)) s1 n1 a1 k1).length<=C.M:=by
   have h1:=i5.o;rw[a7,cW.E_app,cW.E_cons,c3,Nat.zero_add,h8,<-b1.o] at h1;rw[i1.o];simp only[List.length_append,List.length_nil] at h1 ⊢;omega
  have j0:aX k1<m:=by
   have h1:=r3.o;rw[a7,dO] at h1;simp only[aX] at h1;omega
  have q0:=eA j4.o (j:Int);rw[h8] at q0;obtain⟨k8,k7⟩:=q0;have j2:0<=a+eO n.op (j:Int):=aA;have q5:a+eO n.op (j:Int)+4*aX k1<=1000000000000:=by
   have h1:=HA.o;rw[a7,dO] at h1;simp only[aX] at h1;omega
  have o0:=aB h12;have c8:=aB a7;have b4:=aB c3;have j6:=aB h8;have n6:=aB h5;have x1:=aB p3;have x5:=aB j0;have y0:=aB j2;have x9:=aB q5;have m2:=aB f9;have m1:=aB f8;have r9:IntKind.i64.wrap (a+eO n.op (j:Int))=a+eO n.op (j:Int):=IntWalk.i64_in _ aA;clear a7 c3 h8 h5 p3 j0 j2 q5 f9 f8 o6 b5 h12 k8 k7 d4;have k0:=eb 0;have k1':=eb 1;have k2:=eb 2;go_wp2_with fail;refine fQ 6 (fun w'=>w'.cell? ⟨C.H+6,0,Y⟩=Z (.func (.func 146) #[] #[I (Z ⟨C.H,0,Y⟩),I (Z ⟨C.H+5,0,Y⟩),I (Z ⟨C.H+2,0,Y⟩),I (Z ⟨C.H+1,0,Y⟩),I (Z ⟨C.H+6,0,Y⟩)])/\w'.cell? ⟨w.heap.size,0,Y⟩=Z (O X n.op)/\w'.cell? ⟨w.heap.size,1,Y⟩=Z (O X n.a)/\w'.cell? ⟨w.heap.size,2,Y⟩=Z (O X n.b)) aF ⟨e6,k0,k1',k2⟩ (fun hS0 => ?_);refine bA (i:=0) (v := ?_) rfl aC aC aC aC aC (fun _ _ _ h=>h) (Or.inl ⟨by rfl,?_⟩) aI ?_;rotate_left
  · (intro w hSw;(try dsimp only at hSw);go_simp);all_goals with_reducible rfl
  try simp only[Act.put,List.getElem_toArray,List.getElem_cons_zero,List.getElem_cons_succ,List.setIfInBounds_toArray,List.set_cons_zero,List.set_cons_succ]
  refine bA (i:=1) (v := ?_) rfl aC aC aC aC aC (fun _ _ _ h=>h) (Or.inl ⟨by rfl,?_⟩) aI ?_;rotate_left
  · (intro w hSw;(try dsimp only at hSw);go_simp);all_goals with_reducible rfl
  try simp only[Act.put,List.getElem_toArray,List.getElem_cons_zero,List.getElem_cons_succ,List.setIfInBounds_toArray,List.set_cons_zero,List.set_cons_succ]
  refine bA (i:=2) (v := ?_) rfl aC aC aC aC aC (fun _ _ _ h=>h) (Or.inl ⟨by rfl,?_⟩) aI ?_;rotate_left
  · (intro w hSw;(try dsimp only at hSw);go_simp);all_goals with_reducible rfl
  try simp only[Act.put,List.getElem_toArray,List.getElem_cons_zero,List.getElem_cons_succ,List.setIfInBounds_toArray,List.set_cons_zero,List.set_cons_succ]
  refine bA (i:=3) (v := ?_) rfl aC aC aC aC aC (fun _ _ _ h=>h) (Or.inl ⟨by rfl,?_⟩) aI ?_;rotate_left
  · (intro w hSw;(try dsimp only at hSw);go_simp);all_goals with_reducible rfl
  try simp only[Act.put,List.getElem_toArray,List.getElem_cons_zero,List.getElem_cons_succ,List.setIfInBounds_toArray,List.set_cons_zero,List.set_cons_succ]
  refine bQ (i:=4) aC rfl rfl (fun K4 hK4 => ?_);go_simp;go_at_call 143
  refine (rU _ _ _ _ _).mono ?_;rintro e w7 ⟨rfl,rfl⟩;go_wp2_with fail;have q8:(wr.alloc (Q #[O X n.op,O X n.a,O X n.b] 46)).drew.cell? ⟨C.H+6,0,Y⟩=Z (.func (.func 146) #[] #[I (Z ⟨C.H,0,Y⟩),I (Z ⟨C.H+5,0,Y⟩),I (Z ⟨C.H+2,0,Y⟩),I (Z ⟨C.H+1,0,Y⟩),I (Z ⟨C.H+6,0,Y⟩)])/\(wr.alloc (Q #[O X n.op,O X n.a,O X n.b] 46)).drew.cell? ⟨w.heap.size,0,Y⟩=Z (O X n.op)/\(wr.alloc (Q #[O X n.op,O X n.a,O X n.b] 46)).drew.cell? ⟨w.heap.size,1,Y⟩=Z (O X n.a)/\(wr.alloc (Q #[O X n.op,O X n.a,O X n.b] 46)).drew.cell? ⟨w.heap.size,2,Y⟩=Z (O X n.b):=⟨(aS.alloc a0.o.br _).cell 0,(aS.alloc f0.o _).cell 0,(aS.alloc f0.o _).cell 1,(aS.alloc f0.o _).cell 2⟩;refine hK4.o _ _ (fun _=>q8) ?_;try simp only[Act.put,List.getElem_toArray,List.getElem_cons_zero,List.getElem_cons_succ,List.setIfInBounds_toArray,List.set_cons_zero,List.set_cons_succ]
  refine bA (i:=5) (v := ?_) rfl aC aC aC aC aC (fun _ _ _ h=>h) (Or.inl ⟨by rfl,?_⟩) aI ?_;rotate_left
  · (intro w hSw;(try dsimp only at hSw);go_simp);all_goals with_reducible rfl
  try simp only[Act.put,List.getElem_toArray,List.getElem_cons_zero,List.getElem_cons_succ,List.setIfInBounds_toArray,List.set_cons_zero,List.set_cons_succ]
  refine bQ (i:=6) aC rfl rfl (fun K6 hK6 => ?_);go_simp;have a4:=(a0.o.below HG.o (aP _ (Q #[O X n.op,O X n.a,O X n.b] 46))).drew HG.o;refine (HI.o _ _ q1 s1 o1 _ n1 a1 k1 (C.l.drop q2) a4 m2.o y0.o x9.o n6.o x1.o x5.o).mono ?_;rintro e w8 (⟨e7,rfl,b7,v8,a8,a9⟩ | ⟨e7,rfl,b7⟩);rotate_left
  · refine⟨rfl,.inr ⟨?_,rfl,(i4.o.alloc _).drew.trans b7 b3.o⟩⟩;rw[cW.G1,c8.o,cW.G_app,cW.G_cons,b4.o,Nat.zero_add,j6.o,<-b1.o,e7];simp
  refine hK6.o _ _ (fun h=>absurd rfl h) ?_;refine gK aC ?_ _;have f1:aS w8 w.heap.size 46 #[O X n.op,O X n.a,O X n.b]:=aS.moved (show aS (wr.alloc (Q #[O X n.op,O X n.a,O X n.b] 46)).drew _ _ _ from aS.alloc f0.o _) b7 (oC.S'_new HG.o aA) c7.o;have d2:=(i4.o.alloc _).drew.trans b7 b3.o;have s2:w.heap.size+1<=(wr.alloc (Q #[O X n.op,O X n.a,O X n.b] 46)).drew.heap.size:=by simp;omega
  have b2:=b3.o.trans a9 aA;have b6:v8.ownBlock ≠ Z w.heap.size:=fun e=>by
   rcases a9 _ e with h | h
   · exact c7.o h
   omega
  have j5:=aB f1;have i3:=aB d2;have b8:=aB b2;have c6:=aB b6;rw[List.length_drop,show C.l.length-(C.l.length-q2)=q2 by omega] at a8;clear f1 d2 b2 b6 b7 a9 a4 q8;go_wp2_with fail;go_roundw
  case rel =>
   refine⟨F1.app (.cons [] n1 a1 k1 .nil),F3,j+1,q2,v8,_,_,aB (by rw[c8.o,dG];rfl),m1,aB (by rw[bV,b4.o,if_neg o0.o];rfl),by omega,by go_num,by have:=i6.o;omega,aB a8,aB ?_,aB ?_,j5,i3,b8,c6,aB ?_⟩
   · rw[cW.S_app,cW.S_cons,b4.o,Nat.zero_add,j6.o,<-b1.o];rfl
   · rw[cW.E_app,cW.E_cons,b4.o,Nat.zero_add,j6.o,<-b1.o,i1.o];simp only[cW.E,List.append_nil,List.nil_append,List.append_assoc]
   rw[cW.G_app,cW.G_cons,b4.o,Nat.zero_add,j6.o,<-b1.o,n0.o,e7];rfl
  case measure=>simp[intOf];omega
section
theorem rQ {σ:Type} (C:oC σ) (hG:C.Good) : ∀(m:Nat) (w:World) (v:Value) (q:Nat) (s:σ) (o:List Nd) (a:Int) (n:Nd) (ats:List Nd) (k:Fo) (rest:List Nd),C.St w v q s o->pp [false] (C.l.drop q)=Z (.cons [] n ats k .nil,rest)->0<=a->a+4*aX k<=1000000000000->C.V.D1 a s n k->o.length+(C.V.E1 a s n ats k).length<=C.M->aX k<m →
      Calls Tryz.prog 146 #[O X a,I (Z ⟨C.H,0,Y⟩),I (Z ⟨C.H+5,0,Y⟩),I (Z ⟨C.H+2,0,Y⟩),I (Z ⟨C.H+1,0,Y⟩),I (Z ⟨C.H+6,0,Y⟩)] w (C.Post w v o (C.l.length-rest.length) (C.V.E1 a s n ats k) (C.V.S1 a s n k) (C.V.G1 a s n k))
 | 0,_,_,_,_,_,_,_,_,_,_,_,_,_,_,_,_,h=>absurd h aA
 | m+1,w,v,q,s,o,a,n,ats,k,rest,hst,hpp,ha0,ha1,hD,hM,hsz=>by
  by_cases h2:n.op=2
  · exact F8 C hG m (rQ C hG m) w v q s o a n ats k rest hst hpp ha0 ha1 hD hM aA h2
  · exact F7 C hG m (rQ C hG m) w v q s o a n ats k rest hst hpp ha0 ha1 hD hM aA h2
theorem AY (er:Int) (w:World):(Instr.typeAssert (.iface 186 (.agg #[O X er])) 20 186 true).run Tryz.prog w=.ok (.tuple #[.agg #[O X er],.bool true]) w:=by kernel_rfl
theorem DX (w:World):(Instr.typeAssert .nilIface 20 186 true).run Tryz.prog w=.ok (.tuple #[.agg #[O X 0],.bool false]) w:=by kernel_rfl
def v4 (p1 p2:Nat) (er:Int) (w w':World):Prop:=bE (fun k=>k=p1\/k=p2) Y w w'/\aS w' p1 29 #[U Y 0 0]/\aS w' p2 34 #[O X er]
theorem D7 {p1 p2:Nat} {x y:Value} {er:Int} {w:World} (hp:p1 ≠ p2) (h1:aS w p1 29 #[x]) (h2:aS w p2 34 #[y]) (o:Obj) :
 v4 p1 p2 er w (((w.setCell ⟨p1,0,Y⟩ (U Y 0 0)).setCell ⟨p2,0,Y⟩ (O X er)).alloc o).drew:=by
 refine⟨((((bE.refl _ _ w).setCell (p:=⟨p1,0,Y⟩) (.inl rfl) _).setCell (p:=⟨p2,0,Y⟩) (.inr rfl) _).alloc _).drew,?_,?_⟩
 · have:=((h1.set_ 0 (U Y 0 0)).far (p:=⟨p2,0,Y⟩) hp (O X er)).alloc o;exact (by simpa using this:aS (((w.setCell ⟨p1,0,Y⟩ (U Y 0 0)).setCell ⟨p2,0,Y⟩ (O X er)).alloc o) p1 29 #[U Y 0 0])
 have:=((h2.far (p:=⟨p1,0,Y⟩) (Ne.symm hp) (U Y 0 0)).set_ 0 (O X er)).alloc o;exact (by simpa using this:aS (((w.setCell ⟨p1,0,Y⟩ (U Y 0 0)).setCell ⟨p2,0,Y⟩ (O X er)).alloc o) p2 34 #[O X er])
theorem D4 (p1 p2:Nat) (hp:p1 ≠ p2) (x y:Value) (er:Int) (older:List PanicEntry) (w:World) (h1:aS w p1 29 #[x]) (h2:aS w p2 34 #[y]) :
 CallsD Tryz.prog 145 #[I (Z ⟨p1,0,Y⟩),I (Z ⟨p2,0,Y⟩)] (.panicking ({ v:=.iface 186 (.agg #[O X er]),recovered:=false }::older)) w fun e u' w' =>
  e=.returned (.tuple #[])/\u'=.panicking ({ v:=.iface 186 (.agg #[O X er]),recovered:=true }::older)/\v4 p1 p2 er w w':=by
 have c1:=h1.cell;have c2:=h2.cell;have f1:=h1.frozen;have f2:=h2.frozen;refine callsD_of_wpS Tryz.func145 rfl fun c₀ cs hu => ?_;apply wpS_seq;apply wpS_region;simp[wpOpsS,go_sem,recoverD,hu,Tryz.ntmps145,Exit.thenS,AY];apply wpS_seq;apply wpS_region;simp[wpOpsS,go_sem,Exit.thenS];refine wpS_cond (t:=true) (by simp[Act.eval,Array.replicate]) ?_;simp only[if_true];refine wpS_of_wp ?_;simp only[Array.replicate];have a4:=h1.lt;have a3:=h2.lt;have a0:p2 ≠ p1:=Ne.symm hp;have a2:w.heap.size ≠ p1:=aA;have a1:w.heap.size ≠ p2:=aA;go_region
 all_goals
  simp[bodyPostS,results,Tryz.results145,go_sem];exact D7 hp h1 h2 _
theorem D6 (p1 p2:Nat) (w:World) :
 CallsD Tryz.prog 145 #[I (Z ⟨p1,0,Y⟩),I (Z ⟨p2,0,Y⟩)] .returning w fun e u' w' =>
  e=.returned (.tuple #[])/\u'=.returning/\w'=w.alloc (Q #[O X 0] 186):=by
 refine callsD_of_wpS Tryz.func145 rfl fun c₀ cs hu => ?_;apply wpS_seq;apply wpS_region;simp[wpOpsS,go_sem,recoverD,hu,Tryz.ntmps145,Exit.thenS,DX];apply wpS_seq;apply wpS_region;simp[wpOpsS,go_sem,Exit.thenS];refine wpS_cond (t:=false) (by simp[Act.eval,Array.replicate]) ?_;simp only[Bool.false_eq_true,if_false];refine wpS_of_wp (wp_skip ?_);cases c₀
 simp_all [bodyPostS,results,Tryz.results145]
structure mE {σ:Type} (V:cW σ) (fn:FuncId) (caps:Array Value) (J:World->σ->Prop) (KK S:Nat->Prop) (base:Nat) (er:Int) (M:Nat) (R:Nat->Prop) (w:World) (A:Option Addr) (nn c:Nat) (l:List Nd) (v:Value) (s:σ) (o:List Nd):Prop where
 hbase:base<=w.heap.size
 hR:∀b,R b->b<w.heap.size/\¬ S b
 hK:∀b,KK b->b<w.heap.size
 hS:∀b,S b->KK b
 hJ:∀w w' s,J w s->(∀k,KK k->w'.heap[k]? = w.heap[k]?)->J w' s
 hM:M<=1000000000000
 en:∀args w,(callFunc fn args).run Tryz.prog w=.ok (.enter fn args) w
 one:AO Tryz.prog fn caps V J KK S base w.heap.size [{ v:=.iface 186 (.agg #[O X er]),recovered:=false }] M
 tm:bJ R w A nn c l
 own:bN w base v o
 j:J w s
 hv:∀g,v.ownBlock=Z g->¬ KK g/\¬ R g
def tB {σ:Type} (V:cW σ) (J:World->σ->Prop) (S:Nat->Prop) (base:Nat) (er:Int) (w:World) (v:Value) (s:σ) (o:List Nd) (n:Nd) (ats:List Nd) (k:Fo) (e:Ending) (w':World):Prop :=
 bE S v.ownBlock w w'/\((V.G1 0 s n k=true/\J w' (V.S1 0 s n k)/\∃v',e=.returned (.tuple #[v',O X 0])/\bN w' base v' (o++V.E1 0 s n ats k)/\fK v v' w) ∨
  (V.G1 0 s n k=false/\e=.returned (.tuple #[U Y 0 0,O X er])))
section
variable {σ : Type} {V : cW σ} {fn : FuncId} {caps : Array Value} {J : World->σ->Prop} {KK S : Nat->Prop} {base : Nat} {er : Int} {M : Nat} {R : Nat->Prop} {w : World} {A : Option Addr} {nn c : Nat} {l : List Nd} {v : Value} {s : σ} {o : List Nd}
def iQ (V:cW σ) (fn:FuncId) (caps:Array Value) (J:World->σ->Prop) (KK S:Nat->Prop) (base:Nat) (er:Int) (M:Nat) (R:Nat->Prop) (H:Nat) (A:Option Addr) (nn c:Nat) (l:List Nd):oC σ :=
 { H:=H,base:=base,A:=A,nn:=nn,c:=c,l:=l,R:=R,KK:=KK,S:=S,fn:=fn,caps:=caps,J:=J,V:=V,pan:=[{ v:=.iface 186 (.agg #[O X er]),recovered:=false }],M:=M }
theorem mE.good (h:mE V fn caps J KK S base er M R w A nn c l v s o):(iQ V fn caps J KK S base er M R w.heap.size A nn c l).Good :=
 ⟨h.hbase,h.hR,h.hK,h.hS,h.hJ,h.hM,h.en,h.one⟩
def lK (w:World) (A:Option Addr) (nn c:Nat) (v:Value) (fn:FuncId) (caps:Array Value):World :=
 (((((((w.alloc (Q #[U A nn c] 29)).alloc (Q #[v] 29)).alloc (Q #[.func (.func fn) #[] caps] 180)).alloc (Q #[U Y 0 0] 29)).alloc (Q #[O X 0] 34)).alloc (Q #[O X 0] 3)).alloc
  (Q #[.func (.func 146) #[] #[I (Z ⟨w.heap.size,0,Y⟩),I (Z ⟨w.heap.size+5,0,Y⟩),I (Z ⟨w.heap.size+2,0,Y⟩),I (Z ⟨w.heap.size+1,0,Y⟩),I (Z ⟨w.heap.size+6,0,Y⟩)]] 184))
theorem gW (w:World) (A:Option Addr) (nn c:Nat) (v:Value) (fn:FuncId) (caps:Array Value):Below w.heap.size w (lK w A nn c v fn caps) :=
 (((((((Below.refl _ _).alloc aD _).alloc aD _).alloc aG _).alloc aG _).alloc aG _).alloc aG _).alloc aG _
theorem mE.start (h:mE V fn caps J KK S base er M R w A nn c l v s o):(iQ V fn caps J KK S base er M R w.heap.size A nn c l).St (lK w A nn c v fn caps) v 0 s o/\aS (lK w A nn c v fn caps) (w.heap.size+3) 29 #[U Y 0 0]/\aS (lK w A nn c v fn caps) (w.heap.size+4) 34 #[O X 0]:=by
 have hb:=gW w A nn c v fn caps;refine⟨⟨?_,?_,?_,?_,?_,?_,?_,?_,?_⟩,?_,?_⟩
 · exact (((((((aS.new' rfl).alloc _).alloc _).alloc _).alloc _).alloc _).alloc _)
 · exact ((((((aS.new' (by simp[iQ])).alloc _).alloc _).alloc _).alloc _).alloc _)
 · exact (((((aS.new' (by simp[iQ])).alloc _).alloc _).alloc _).alloc _)
 · exact ((aS.new' (by simp[iQ])).alloc _)
 · exact (aS.new' (by simp[iQ]<;>rfl))
 · exact h.tm.keep fun b hR=>⟨hR,fun o=>aQ (hb.block b (h.hR b hR).1) o⟩
 · exact h.own.below hb
 · exact h.hJ _ _ _ h.j fun k hk=>hb.block k (h.hK k hk)
 · intro g hg;exact⟨(h.hv g hg).1,(h.hv g hg).2,.inl (aU h.own hg).2.1⟩
 · exact ((((aS.new' aD).alloc _).alloc _).alloc _)
 exact (((aS.new' aD).alloc _).alloc _)
end
theorem vD {σ:Type} {V:cW σ} {fn:FuncId} {caps:Array Value} {J:World->σ->Prop} {KK S:Nat->Prop} {base:Nat} {er:Int} {M:Nat} {R:Nat->Prop} {w:World} {A:Option Addr} {nn c:Nat} {l:List Nd} {v:Value} {s:σ} {o:List Nd}
 (hin:mE V fn caps J KK S base er M R w A nn c l v s o) {n:Nd} {ats:List Nd} {k:Fo} (hpp:pp [false] l=Z (.cons [] n ats k .nil,[])) (hsz:4*aX k<=1000000000000) (hD:V.D1 0 s n k) (hlen:o.length+(V.E1 0 s n ats k).length<=M) :
 Calls Tryz.prog 136 #[U A nn c,v,.func (.func fn) #[] caps] w (tB V J S base er w v s o n ats k):=by
 obtain⟨Av,cv,rfl⟩:=hin.own.slice;have a0:=aB hin;have b7:=aB hpp;have b6:=aB hsz;have HD:=aB hD;have a9:=aB hlen;clear hin hpp hsz hD hlen;go_enter_defers Tryz.func136,Tryz.ntmps136
 go_wp2_with fail;obtain⟨b0,a8,a7⟩:=a0.o.start;refine (rQ _ a0.o.good (aX k+1) (lK w A nn c (U Av o.length cv) fn caps) _ 0 s o 0 n ats k [] b0 b7.o aA (by have:=b6.o;omega) HD.o a9.o aA).mono ?_;rintro e w8 (⟨hg,rfl,hm,v8,a1,a3⟩ | ⟨hg,rfl,hm⟩);rotate_left
 · have hS:∀j,j=3\/j=4->¬ (iQ V fn caps J KK S base er M R w.heap.size A nn c l).S' (w.heap.size+j):=fun j hj hs=>by
    rcases hs with h | h | h
    · have:=a0.o.hK _ (a0.o.hS _ h);omega
    · simp only[iQ] at h;omega
    simp only[iQ] at h;omega
   have hO:∀j,(Value.slice Av o.length cv).ownBlock ≠ Z (w.heap.size+j):=fun j e=>by have:=(aU a0.o.own e).2.1;omega
   have b3:aS w8 (w.heap.size+1+1+1) 29 #[U Y 0 0]:=a8.moved hm (hS 3 (.inl rfl)) (hO 3);have b4:aS w8 (w.heap.size+1+1+1+1) 34 #[O X 0]:=a7.moved hm (hS 4 (.inr rfl)) (hO 4);refine leaves_cons (f:=145) (args:=#[I (Z ⟨w.heap.size+1+1+1,0,Y⟩),I (Z ⟨w.heap.size+1+1+1+1,0,Y⟩)]) aD (by simp[go_sem]) ?_;refine (D4 (w.heap.size+1+1+1) (w.heap.size+1+1+1+1) aA _ _ er [] w8 b3 b4).mono ?_;rintro e u' wf ⟨rfl,rfl,a4,b5,b2⟩;have q3:wf.cell? ⟨w.heap.size+1+1+1,0,Y⟩=Z (U Y 0 0):=b5.cell 0;have q4:wf.cell? ⟨w.heap.size+1+1+1+1,0,Y⟩=Z (O X er):=b2.cell 0;have HP:Hid (tB V J S base er w (U Av o.length cv) s o n ats k (.returned (.tuple #[U Y 0 0,O X er])) wf):=by
    refine⟨?_,.inr ⟨hg,rfl⟩⟩;have h1:=bE.over (S:=S) (gW w A nn c (U Av o.length cv) fn caps) hm (fun k hk hs=>by
     rcases hs with h | h | h
     · exact h
     · simp only[iQ] at h;omega
     simp only[iQ] at h;omega)
    refine⟨a4.os.trans h1.os,a4.tape.trans h1.tape,a4.output.trans h1.output,Nat.le_trans h1.size a4.size,fun g hg1 hg2 hg3 => ?_⟩;exact (a4.block g (Nat.lt_of_lt_of_le hg1 h1.size) aA aD).trans (h1.block g hg1 hg2 hg3)
   simp[Leaves,settle,results,Tryz.results136,go_sem,q3,q4];exact HP.o
 obtain⟨A8,c8,rfl⟩:=a1.own.slice;have hS:∀j,j=3\/j=4->¬ (iQ V fn caps J KK S base er M R w.heap.size A nn c l).S' (w.heap.size+j):=fun j hj hs=>by
  rcases hs with h | h | h
  · have:=a0.o.hK _ (a0.o.hS _ h);omega
  · simp only[iQ] at h;omega
  simp only[iQ] at h;omega
 have hO:∀j,(Value.slice Av o.length cv).ownBlock ≠ Z (w.heap.size+j):=fun j e=>by have:=(aU a0.o.own e).2.1;omega
 have b3:aS w8 (w.heap.size+1+1+1) 29 #[U Y 0 0]:=a8.moved hm (hS 3 (.inl rfl)) (hO 3);have b4:aS w8 (w.heap.size+1+1+1+1) 34 #[O X 0]:=a7.moved hm (hS 4 (.inr rfl)) (hO 4);have e1:w8.cell? ⟨w.heap.size+1,0,Y⟩=Z (U A8 (o++(iQ V fn caps J KK S base er M R w.heap.size A nn c l).V.E1 0 s n ats k).length c8):=a1.bo.cell 0;have c3:=b3.cell;have c4:=b4.cell;have f3:=b3.frozen;have f4:=b4.frozen;have B3:=aB b3;have B4:=aB b4;have HM:=aB hm;have a5:=aB a1;have b8:=aB a3;have b9:=aB hg;clear b3 b4 hm a1 a3 hg b0 a8 a7 hS hO;go_wp2_with fail;refine leaves_cons (f:=145) (args:=#[I (Z ⟨w.heap.size+1+1+1,0,Y⟩),I (Z ⟨w.heap.size+1+1+1+1,0,Y⟩)]) aD (by simp[go_sem]) ?_;refine (D6 _ _ _).mono ?_;rintro e u' w'' ⟨rfl,rfl,rfl⟩;have r3:=((B3.o.set_ 0 (.slice A8 (o.length+((iQ V fn caps J KK S base er M R w.heap.size A nn c l).V.E1 0 s n ats k).length) c8)).far (p:=⟨w.heap.size+1+1+1+1,0,Y⟩) aD (O X 0)).alloc (Q #[O X 0] 186);have r4:=((B4.o.far (p:=⟨w.heap.size+1+1+1,0,Y⟩) aD (.slice A8 (o.length+((iQ V fn caps J KK S base er M R w.heap.size A nn c l).V.E1 0 s n ats k).length) c8)).set_ 0 (O X 0)).alloc (Q #[O X 0] 186);have a6:∀g,(Value.slice A8 (o.length+(V.E1 0 s n ats k).length) c8).ownBlock=Z g->g<w.heap.size\/w.heap.size+7<=g:=fun g hg=>(a5.o.hv g (by rw[List.length_append];exact hg)).2.2;have a2:bN (((w8.setCell ⟨w.heap.size+1+1+1,0,Y⟩ (.slice A8 (o.length+((iQ V fn caps J KK S base er M R w.heap.size A nn c l).V.E1 0 s n ats k).length) c8)).setCell ⟨w.heap.size+1+1+1+1,0,Y⟩ (O X 0)).alloc (Q #[O X 0] 186)) base (.slice A8 (o.length+((iQ V fn caps J KK S base er M R w.heap.size A nn c l).V.E1 0 s n ats k).length) c8) (o++V.E1 0 s n ats k):=by
  have h1:=a5.o.own;rw[List.length_append] at h1;refine bN.alloc ?_ _;refine ownsRow_setCell_other (ownsRow_setCell_other h1 ?_ _) ?_ _
  · intro e;have:=a6 _ e;simp at this;omega
  intro e;have:=a6 _ e;simp at this;omega
 have b1:=((((bE.over (S:=S) (gW w A nn c (U Av o.length cv) fn caps) HM.o (fun k hk hs=>by
  rcases hs with h | h | h
  · exact h
  · simp only[iQ] at h;omega
  simp only[iQ] at h;omega)).setNew (p:=⟨w.heap.size+1+1+1,0,Y⟩) aG (.slice A8 (o.length+((iQ V fn caps J KK S base er M R w.heap.size A nn c l).V.E1 0 s n ats k).length) c8)).setNew (p:=⟨w.heap.size+1+1+1+1,0,Y⟩) aG (O X 0)).alloc (Q #[O X 0] 186))
 have hj:J (((w8.setCell ⟨w.heap.size+1+1+1,0,Y⟩ (.slice A8 (o.length+((iQ V fn caps J KK S base er M R w.heap.size A nn c l).V.E1 0 s n ats k).length) c8)).setCell ⟨w.heap.size+1+1+1+1,0,Y⟩ (O X 0)).alloc (Q #[O X 0] 186)) (V.S1 0 s n k):=a0.o.hJ _ _ _ a5.o.j (fun g hg=>by
  have h1:=a0.o.hK g hg;have h2:=a5.o.size;simp only[iQ] at h2;rw[Below.heap_alloc _ _ _ (by simp[World.setCell];omega),Below.heap_setCell _ _ _ _ aG,Below.heap_setCell _ _ _ _ aG])
 have a3:fK (U Av o.length cv) (.slice A8 (o.length+((iQ V fn caps J KK S base er M R w.heap.size A nn c l).V.E1 0 s n ats k).length) c8) w:=fun g hg=>(b8.o g (by rw[List.length_append];exact hg)).imp id (fun h=>Nat.le_trans (gW w A nn c (U Av o.length cv) fn caps).size h);have HP:Hid (tB V J S base er w (U Av o.length cv) s o n ats k (.returned (.tuple #[.slice A8 (o.length+((iQ V fn caps J KK S base er M R w.heap.size A nn c l).V.E1 0 s n ats k).length) c8,O X 0])) (((w8.setCell ⟨w.heap.size+1+1+1,0,Y⟩ (.slice A8 (o.length+((iQ V fn caps J KK S base er M R w.heap.size A nn c l).V.E1 0 s n ats k).length) c8)).setCell ⟨w.heap.size+1+1+1+1,0,Y⟩ (O X 0)).alloc (Q #[O X 0] 186))) :=
  ⟨b1,.inl ⟨b9.o,hj,_,rfl,a2,a3⟩⟩
 clear b1 a2 hj a3 a6 c3 c4 f3 f4 e1;generalize (((w8.setCell ⟨w.heap.size+1+1+1,0,Y⟩ (.slice A8 (o.length+((iQ V fn caps J KK S base er M R w.heap.size A nn c l).V.E1 0 s n ats k).length) c8)).setCell ⟨w.heap.size+1+1+1+1,0,Y⟩ (O X 0)).alloc (Q #[O X 0] 186))=wf at r3 r4 HP ⊢;have q3:wf.cell? ⟨w.heap.size+1+1+1,0,Y⟩=Z (.slice A8 (o.length+((iQ V fn caps J KK S base er M R w.heap.size A nn c l).V.E1 0 s n ats k).length) c8):=r3.cell 0;have q4:wf.cell? ⟨w.heap.size+1+1+1+1,0,Y⟩=Z (O X 0):=r4.cell 0;simp[Leaves,settle,results,Tryz.results136,go_sem,q3,q4];exact HP.o
end
def jO (up fr:Int):cW Unit where
 em:=fun _ n a=>if n.op=1/\fr+a<=n.a then [⟨n.op,n.a+up,n.b⟩] else [n]
 nx:=fun _ _ _=>()
 ok:=fun _ n a=>if n.op=1/\fr+a<=n.a then decide (up<=1048576-n.a) else true
 dm:=fun _ _ _=>True
def S5 (pf pb:Nat) (up fr:Int) (w:World) (_:Unit):Prop:=aS w pf 3 #[O X fr]/\aS w pb 3 #[O X up]
def S6 (pf pb:Nat) (k:Nat):Prop:=k=pf\/k=pb
theorem PL {up fr:Int} {n:Nd} {a:Int} (h:¬ (n.op=1/\fr+a<=n.a)):(jO up fr).em () n a=[n]/\(jO up fr).ok () n a=true:=⟨if_neg h,if_neg h⟩
theorem SG {up fr:Int} {n:Nd} {a:Int} (h:n.op=1/\fr+a<=n.a):(jO up fr).em () n a=[⟨n.op,n.a+up,n.b⟩]/\(jO up fr).ok () n a=decide (up<=1048576-n.a):=⟨if_pos h,if_pos h⟩
theorem uC {pf pb:Nat} {up fr:Int} {base:Nat} {pan:List PanicEntry} {w W w':World} {s:Unit} {v:Value} {A':Option Addr} {m c':Nat} {o:List Nd} {n x:Nd} {a:Int} {xs:List Value} (hf:aS w pf 3 #[O X fr]) (hp:aS w pb 3 #[O X up]) (hk:∀k,v.ownBlock=Z k->¬ S6 pf pb k)
 (hb:Below w.heap.size w W) (hown:bN w' base (U A' m c') (o++[x])) (happ:fD W w' base 46 3 v A' m c' xs) (he:(jO up fr).em () n a=[x]) (hok:(jO up fr).ok () n a=true) :
 pF (jO up fr) (S5 pf pb up fr) (fun _=>False) base pan w s v o n a (.returned (U A' m c')) w':=by
 refine .inl ⟨hok,(bE.of_below hb).trans (bE.of_grown happ.grown) (fun g hg=>.inl hg),⟨?_,?_⟩,_,rfl,?_,fun g hg=>(happ.new g hg).imp id (fun h=>Nat.le_trans hb.size h)⟩
 · exact (hf.below hb hf.lt).grown happ.grown (fun e=>hk _ e.symm (.inl rfl))
 · exact (hp.below hb hp.lt).grown happ.grown (fun e=>hk _ e.symm (.inr rfl))
 show bN w' base _ (o++(jO up fr).em () n a);rw[he];exact hown
theorem FH {pf pb:Nat} {up fr:Int} {base H M:Nat} (hpf:pf<H) (hpb:pb<H) (hb:base<=H) (hM:M<=1000000000000) (hup0:0<=up) (hup1:up<=9223372036854775807) (hfr0:0<=fr) (hfr1:fr<=1000000000000) :
 AO Tryz.prog 147 #[I (Z ⟨pf,0,Y⟩),I (Z ⟨pb,0,Y⟩)] (jO up fr) (S5 pf pb up fr) (S6 pf pb) (fun _=>False) base H [{ v:=.iface 186 (.agg #[O X 6]),recovered:=false }] M:=by
 intro w s v o n a hH hj a2 c0 a6 _ d0 c9 a4;obtain⟨Av,cv,rfl⟩:=a2.slice;obtain⟨a7,a8⟩:=hj;have b9:cD n.op n.a n.b=true:=by simp only[eN,Bool.and_eq_true] at a6;exact a6.1.1
 obtain⟨c3,c2⟩:=fM b9;have cf:=a7.cell;have cb:=a8.cell;have c6:pf<w.heap.size:=aA;have c7:pb<w.heap.size:=aA;have c8:base<=w.heap.size:=aA;obtain⟨i0,hi,b8,b7,b6⟩:=info_parts infoN;have b5:=aB hi;have b1:=aB b8;have b0:=aB b7;have a9:=aB b6;have a3:=aB a2;have b3:=aB a7;have b4:=aB a8;have b2:=aB c0;have a5:=aB a4;clear hi b8 b7 b6 a2 a7 a8 c0 a6 b9 a4;show Calls Tryz.prog 147 #[U Av o.length cv,.agg #[O X n.op,O X n.a,O X n.b],O X a,I (Z ⟨pf,0,Y⟩),I (Z ⟨pb,0,Y⟩)] w _;by_cases h1:n.op=1/\fr+a<=n.a
 · have⟨h2,h3⟩:=h1;have c1:(n.op==1)=true:=by simp[h2]
   have c5:IntKind.i64.wrap (fr+a)=fr+a:=IntWalk.i64_in _ aA;obtain⟨he,hk⟩:=SG (up:=up) h1;have HE:=aB he;have HK:=aB hk;clear he hk h1 h2;by_cases h4:up<=1048576-n.a
   · have hl:o.length+1<=1000000000000:=by have:=a5.o;rw[HE.o] at this;simp at this;omega
     have c4:decide (1048576-n.a<up)=false:=by simp;omega
     go_in;go_wp2_with (at_builtin;refine bL rfl (cQ (.tmp 32) (.tmp 34) 29 rfl base i0 Tryz.underlying29 b5.o b1.o b0.o a9.o (U Av o.length cv) o ⟨n.op,n.a+up,n.b⟩ (w.alloc (Q #[O X n.op,O X (n.a+up),O X n.b] 46)) aF aF (a3.o.alloc _) _ aF aD aA aG ?_);intro A' c' w' a0 a1)
     go_ret;exact uC b3.o b4.o b2.o (aP _ _) a0 a1 HE.o (by rw[HK.o];simpa using h4)
   have c4:1048576-n.a<up:=aA;go_in;go_wp2_with fail;exact⟨rfl,.inr ⟨by rw[HK.o];simp;omega,rfl,bE.of_below (aP _ _)⟩⟩
 obtain⟨he,hk⟩:=PL (up:=up) h1;have HE:=aB he;have HK:=aB hk;have hl:o.length+1<=1000000000000:=by have:=a5.o;rw[he] at this;simp at this;omega
 clear he hk;by_cases h2:n.op=1
 · have c1:(n.op==1)=true:=by simp[h2]
   have d1:decide (fr+a<=n.a)=false:=by simp;have:=fun h=>h1 ⟨h2,h⟩;omega
   clear h1 h2;go_in;go_wp2_with (at_builtin;refine bL rfl (cQ (.tmp 32) (.tmp 34) 29 rfl base i0 Tryz.underlying29 b5.o b1.o b0.o a9.o (U Av o.length cv) o n (w.alloc (Q #[O X n.op,O X n.a,O X n.b] 46)) aF aF (a3.o.alloc _) _ aF aD aA aG ?_);intro A' c' w' a0 a1)
   go_ret;exact uC b3.o b4.o b2.o (aP _ _) a0 a1 HE.o HK.o
 have c1:(n.op==1)=false:=by simp[h2]
 clear h1 h2;go_in;go_wp2_with (at_builtin;refine bL rfl (cQ (.tmp 32) (.tmp 34) 29 rfl base i0 Tryz.underlying29 b5.o b1.o b0.o a9.o (U Av o.length cv) o n (w.alloc (Q #[O X n.op,O X n.a,O X n.b] 46)) aF aF (a3.o.alloc _) _ aF aD aA aG ?_);intro A' c' w' a0 a1)
 go_ret;exact uC b3.o b4.o b2.o (aP _ _) a0 a1 HE.o HK.o
def DU (up fr:Int) (base:Nat) (w:World) (v:Value) (o:List Nd) (n:Nd) (ats:List Nd) (k:Fo) (e:Ending) (w':World):Prop :=
 bE (fun _=>False) v.ownBlock w w'/\(((jO up fr).G1 0 () n k=true/\∃v',e=.returned (.tuple #[v',O X 0])/\bN w' base v' (o++(jO up fr).E1 0 () n ats k)/\fK v v' w)\/((jO up fr).G1 0 () n k=false/\e=.returned (.tuple #[U Y 0 0,O X 6])))
theorem M2 (up fr:Int) (pop pb:Int) : ∀(j:Nat) (a:Int) (F:Fo),(jO up fr).D pop pb j a () F
 | _,_,.nil=>trivial
 | j,a,.cons p n at' k x=>by
  rw[cW.D_cons];exact⟨⟨trivial,M2 up fr _ _ _ _ k⟩,M2 up fr pop pb (j+1) a x⟩
theorem oZ {up fr:Int} {base:Nat} {R:Nat->Prop} {w:World} {A:Option Addr} {nn c:Nat} {l:List Nd} {v:Value} {o:List Nd} (hb:base<=w.heap.size) (hR:∀b,R b->b<w.heap.size) (htm:bJ R w A nn c l) (hown:bN w base v o) (hv:∀g,v.ownBlock=Z g->¬ R g)
 {n:Nd} {ats:List Nd} {k:Fo} (hpp:pp [false] l=Z (.cons [] n ats k .nil,[])) (hsz:4*aX k<=1000000000000) (hlen:o.length+((jO up fr).E1 0 () n ats k).length<=1000000000000) (hup0:0<=up) (hup1:up<=9223372036854775807) (hfr0:0<=fr) (hfr1:fr<=1000000000000) :
 Calls Tryz.prog 138 #[v,U A nn c,O X up,O X fr] w (DU up fr base w v o n ats k):=by
 obtain⟨Av,cv,rfl⟩:=hown.slice;have a2:=a7 w (Q #[O X up] 3) (Q #[O X fr] 3);have a4:mE (jO up fr) 147 #[I (Z ⟨w.heap.size+1,0,Y⟩),I (Z ⟨w.heap.size,0,Y⟩)] (S5 (w.heap.size+1) w.heap.size up fr) (S6 (w.heap.size+1) w.heap.size) (fun _=>False) base 6 1000000000000 R ((w.alloc (Q #[O X up] 3)).alloc (Q #[O X fr] 3)) A nn c l (U Av o.length cv) () o:=by
  refine⟨by simp;omega,fun b h=>⟨by have:=hR b h;simp;omega,fun h=>h⟩,fun b h=>by rcases h with h | h<;>subst h<;>simp<;>omega,fun b h=>h.elim,?_,Nat.le_refl _,fun _ _=>by kernel_rfl,FH aD aH aG (Nat.le_refl _) hup0 hup1 hfr0 hfr1,?_,hown.below a2,?_,fun g hg=>⟨fun h => ?_,hv g hg⟩⟩
  · intro w1 w2 s h hk;exact⟨h.1.same (hk _ (.inl rfl)),h.2.same (hk _ (.inr rfl))⟩
  · exact htm.keep fun b h=>⟨h,fun o=>aQ (a2.block b (hR b h)) o⟩
  · exact⟨aS.new' aD,(aS.new _ _ _).alloc _⟩
  have:=(aU hown hg).2.1;rcases h with h | h<;>omega
 have a0:=vD a4 hpp hsz ⟨trivial,M2 up fr _ _ _ _ k⟩ hlen;have HW:=aB a0;have a3:=aB a2;clear a0 a4 a2 htm hown hpp hsz hlen hv hR;go_in;go_wp2_with fail;refine HW.o.mono ?_;rintro e w' ⟨hm,(⟨hg,hj,v',rfl,a1,a5⟩ | ⟨hg,rfl⟩)⟩
 · go_wp2_with fail;go_ret2;exact⟨bE.over a3.o hm (fun _ _ h=>h),.inl ⟨hg,_,rfl,a1,fun g hg=>(a5 g hg).imp id (fun h=>Nat.le_trans a3.o.size h)⟩⟩
 go_wp2_with fail;go_ret2;exact⟨bE.over a3.o hm (fun _ _ h=>h),.inr ⟨hg,rfl⟩⟩
structure IF (τ:Type) where
 an:τ->Int->Int->Bool
 nx:τ->Int->Int->τ
def v5 (P:Program) (mk:FuncId) (mc:Array Value) {τ:Type} (T:IF τ) (J:World->τ->Prop) (S:Nat->Prop) (H:Nat):Prop :=
 ∀(w:World) (t:τ) (v a:Int),H<=w.heap.size->J w t->0<=v->v<=1048576->0<=a->a<=1000000000000 →
  Calls P mk (#[O X v,O X a]++mc) w fun e w'=>e=.returned (.bool (T.an t v a))/\bE S Y w w'/\J w' (T.nx t v a)
def sL {τ:Type} (T:IF τ):cW (Bool×τ) where
 em:=fun _ _ _=>[]
 nx:=fun s n a=>if s.1=true then s else if n.op=1 then (T.an s.2 n.a a,T.nx s.2 n.a a) else s
 ok:=fun _ _ _=>true
 dm:=fun _ _ _=>True
def SN {τ:Type} (pf pm:Nat) (mk:FuncId) (mc:Array Value) (J:World->τ->Prop) (w:World) (s:Bool×τ):Prop:=aS w pf 4 #[.bool s.1]/\aS w pm 172 #[.func (.func mk) #[] mc]/\J w s.2
def TB (pf pm:Nat) (K:Nat->Prop) (k:Nat):Prop:=k=pf\/k=pm\/K k
def QC (pf:Nat) (S:Nat->Prop) (k:Nat):Prop:=k=pf\/S k
theorem BH {τ:Type} {T:IF τ} {pf pm:Nat} {mk:FuncId} {mc:Array Value} {J:World->τ->Prop} {S:Nat->Prop} {base:Nat} {pan:List PanicEntry} {w w':World} {s:Bool×τ} {v:Value} {o:List Nd} {n:Nd} {a:Int} {b:Bool} {t:τ} (hown:bN w base v o) (hv:∀k,v.ownBlock=Z k->¬ QC pf S k) (hm:bE (QC pf S) Y w w') (hf:aS w' pf 4 #[.bool b]) (hp:aS w' pm 172 #[.func (.func mk) #[] mc]) (hj:J w' t) (hn:(sL T).nx s n a=(b,t)) :
 pF (sL T) (SN pf pm mk mc J) (QC pf S) base pan w s v o n a (.returned v) w':=by
 refine .inl ⟨rfl,⟨hm.os,hm.tape,hm.output,hm.size,fun k hk hs _=>hm.block k hk hs aD⟩,?_,_,rfl,?_,fK.refl _ _⟩
 · rw[hn];exact⟨hf,hp,hj⟩
 show bN w' base v (o++[]);rw[List.append_nil];exact hown.moved hm fun g hg=>⟨hv g hg,by simp⟩
theorem BI {τ:Type} {T:IF τ} {pf pm:Nat} {mk:FuncId} {mc:Array Value} {J:World->τ->Prop} {K S:Nat->Prop} {base H:Nat} {pan:List PanicEntry} {w:World} {s:Bool×τ} {v:Value} {o:List Nd} {n:Nd} {a:Int} {b:Bool} {t:τ} {x:Value} (hown:bN w base v o) (hv:∀k,v.ownBlock=Z k->¬ QC pf S k) (hne:pf ≠ pm) (hH:H<=w.heap.size) (hK:∀k,K k->k<H/\k ≠ pf/\k ≠ pm)
 (hJ:∀w w' t,J w t->(∀k,K k->w'.heap[k]? = w.heap[k]?)->J w' t) (hf:aS w pf 4 #[x]) (hp:aS w pm 172 #[.func (.func mk) #[] mc]) (hj:J w t) (hn:(sL T).nx s n a=(b,t)) (ob:Obj) :
 pF (sL T) (SN pf pm mk mc J) (QC pf S) base pan w s v o n a (.returned v) ((w.setCell ⟨pf,0,Y⟩ (.bool b)).alloc ob):=by
 refine BH hown hv (((bE.refl _ _ w).setCell (p:=⟨pf,0,Y⟩) (.inl rfl) _).alloc _) ?_ ((hp.far (p:=⟨pf,0,Y⟩) (Ne.symm hne) _).alloc _) ?_ hn
 · have:=(hf.set_ 0 (.bool b)).alloc ob;simpa using this
 refine hJ _ _ _ hj fun k hk => ?_;have:=hK k hk;rw[Below.heap_alloc _ _ _ (by simp[World.setCell];omega),Below.heap_setCell _ _ _ _ this.2.1]
theorem LR {τ:Type} {T:IF τ} {pf pm:Nat} {mk:FuncId} {mc:Array Value} {J:World->τ->Prop} {K S:Nat->Prop} {base H M:Nat} {pan:List PanicEntry} (hne:pf ≠ pm) (hpf:pf<H) (hpm:pm<H) (hK:∀k,K k->k<H/\k ≠ pf/\k ≠ pm) (hS:∀k,S k->K k)
 (hJ:∀w w' t,J w t->(∀k,K k->w'.heap[k]? = w.heap[k]?)->J w' t) (hen:∀args w,(callFunc mk args).run Tryz.prog w=.ok (.enter mk args) w) (hmet:v5 Tryz.prog mk mc T J S H) :
 AO Tryz.prog 141 #[I (Z ⟨pf,0,Y⟩),I (Z ⟨pm,0,Y⟩)] (sL T) (SN pf pm mk mc J) (TB pf pm K) (QC pf S) base H pan M:=by
 rintro w ⟨f,t⟩ v o n a hH ⟨a2,b0,a9⟩ a1 b7 a4 _ c4 c3 a8;have b6:cD n.op n.a n.b=true:=by simp only[eN,Bool.and_eq_true] at a4;exact a4.1.1
 obtain⟨a6,a5⟩:=fM b6;have cf:=a2.cell;have ff:=a2.frozen;have cm:=b0.cell;have d0:pf<w.heap.size:=aA;have c9:pm<w.heap.size:=aA;have a0:=aB a1;have a3:=aB a2;have b4:=aB b0;have b3:=aB a9;have HK:=aB hK;have HS:=aB hS;have HJ:=aB hJ;have b2:=aB hmet;have b5:∀k,v.ownBlock=Z k->¬ QC pf S k:=fun k hk hs=>b7 k hk (hs.elim .inl fun h=>.inr (.inr (hS k h)));have b1:=aB b5;have c1:Below w.heap.size w (w.alloc (Q #[O X n.op,O X n.a,O X n.b] 46)):=aP _ _;have c2:=aB (hJ _ _ _ a9 (fun k hk=>c1.block k (by have:=(hK k hk).1;omega)));clear a1 a2 b0 a9 b7 a4 b6 a8 hK hS hJ hmet b5 c1;show Calls Tryz.prog 141 #[v,.agg #[O X n.op,O X n.a,O X n.b],O X a,I (Z ⟨pf,0,Y⟩),I (Z ⟨pm,0,Y⟩)] w _;simp only at cf a3 b3 c2;cases f with
 | true =>
  go_in;go_wp2_with fail;go_ret;exact BI a0.o b1.o hne hH HK.o HJ.o a3.o b4.o b3.o rfl _
 | false =>
  by_cases h1:n.op=1
  · have c5:(n.op==1)=true:=by simp[h1]
    have H1:=aB h1;clear h1;go_in;go_wp2_with fail;refine (b2.o (w.alloc (Q #[O X n.op,O X n.a,O X n.b] 46)) t n.a a aG c2.o a6 a5 c4 c3).mono ?_;rintro e w8 ⟨rfl,hm,c0⟩;have a7:∀k,k=pf\/k=pm->¬ S k:=fun k hk hs=>by have:=HK.o k (HS.o k hs);omega
    have b8:aS w8 pf 4 #[.bool false]:=(a3.o.alloc _).moved hm (a7 pf (.inl rfl)) aD;have b9:aS w8 pm 172 #[.func (.func mk) #[] mc]:=(b4.o.alloc _).moved hm (a7 pm (.inr rfl)) aD;have c8:=b8.cell;have f8:=b8.frozen;have B8:=aB b8;have B9:=aB b9;have c6:=aB hm;have c7:=aB c0;clear b8 b9 hm c0 a7 cf ff cm;go_wp2_with fail;go_ret;refine BH a0.o b1.o ((((bE.refl _ _ w).alloc _).trans (c6.o.mono (fun _ h=>.inr h)) (fun g hg=>by cases hg)).setCell (p:=⟨pf,0,Y⟩) (.inl rfl) _) ?_ (B9.o.far (p:=⟨pf,0,Y⟩) (Ne.symm hne) _) ?_ (b:=T.an t n.a a) (t:=T.nx t n.a a) ?_
    · have:=B8.o.set_ 0 (.bool (T.an t n.a a));simpa using this
    · exact HJ.o _ _ _ c7.o fun k hk=>Below.heap_setCell _ _ _ _ (HK.o k hk).2.1
    show (if false=true then (false,t) else if n.op=1 then (T.an t n.a a,T.nx t n.a a) else (false,t))=_;rw[if_neg aD,if_pos H1.o]
  · have c5:(n.op==1)=false:=by simp[h1]
    have H1:=aB h1;clear h1;go_in;go_wp2_with fail;go_ret;refine BI a0.o b1.o hne hH HK.o HJ.o a3.o b4.o b3.o ?_ _;show (if false=true then (false,t) else if n.op=1 then (T.an t n.a a,T.nx t n.a a) else (false,t))=_;rw[if_neg aD,if_neg H1.o]
theorem LP {τ:Type} (T:IF τ) (pop pb:Int) : ∀(j:Nat) (a:Int) (s:Bool×τ) (F:Fo),(sL T).D pop pb j a s F
 | _,_,_,.nil=>trivial
 | j,a,s,.cons p n at' k x=>by
  rw[cW.D_cons];exact⟨⟨trivial,LP T _ _ _ _ _ k⟩,LP T pop pb (j+1) a _ x⟩
theorem LQ {τ:Type} (T:IF τ) (pop pb:Int) : ∀(j:Nat) (a:Int) (s:Bool×τ) (F:Fo),(sL T).G pop pb j a s F=true
 | _,_,_,.nil=>rfl
 | j,a,s,.cons p n at' k x=>by
  rw[cW.G_cons,LQ T pop pb (j+1) a _ x,cW.G1,LQ T _ _ _ _ _ k];rfl
def wM {τ:Type} (T:IF τ) (t:τ) (n:Nd) (k:Fo):Bool×τ:=(sL T).S1 0 (false,t) n k
theorem tG {τ:Type} {T:IF τ} {mk:FuncId} {mc:Array Value} {J:World->τ->Prop} {K S:Nat->Prop} {R:Nat->Prop} {w:World} {A:Option Addr} {nn c:Nat} {l:List Nd} {t:τ} (hR:∀b,R b->b<w.heap.size/\¬ S b) (htm:bJ R w A nn c l) (hK:∀k,K k->k<w.heap.size) (hS:∀k,S k->K k)
 (hJ:∀w w' t,J w t->(∀k,K k->w'.heap[k]? = w.heap[k]?)->J w' t) (hen:∀args w,(callFunc mk args).run Tryz.prog w=.ok (.enter mk args) w) (hmet:v5 Tryz.prog mk mc T J S w.heap.size) (hj:J w t)
 {n:Nd} {ats:List Nd} {k:Fo} (hpp:pp [false] l=Z (.cons [] n ats k .nil,[])) (hsz:4*aX k<=1000000000000) (hlen:((sL T).E1 0 (false,t) n ats k).length<=1000000000000) :
 Calls Tryz.prog 127 #[U A nn c,.func (.func mk) #[] mc] w fun e w'=>e=.returned (.bool (wM T t n k).1)/\bE S Y w w'/\J w' (wM T t n k).2:=by
 have a3:=a7 w (Q #[.func (.func mk) #[] mc] 172) (Q #[.bool false] 4);have a4:mE (sL T) 141 #[I (Z ⟨w.heap.size+1,0,Y⟩),I (Z ⟨w.heap.size,0,Y⟩)] (SN (w.heap.size+1) w.heap.size mk mc J) (TB (w.heap.size+1) w.heap.size K) (QC (w.heap.size+1) S) w.heap.size 6 1000000000000 R ((w.alloc (Q #[.func (.func mk) #[] mc] 172)).alloc (Q #[.bool false] 4)) A nn c l (U Y 0 0) (false,t) []:=by
  refine⟨by simp;omega,fun b h=>⟨by have:=(hR b h).1;simp;omega,fun hs => ?_⟩,fun b h => ?_,fun b h => ?_,?_,Nat.le_refl _,fun _ _=>by kernel_rfl,LR (K:=K) aA aD aH (fun k hk=>by have:=hK k hk;simp;omega) hS hJ hen ?_,?_,bN.nil _ _,?_,fun g hg=>by simp[Value.ownBlock] at hg⟩
  · have:=hR b h;rcases hs with hs | hs
    · omega
    exact this.2 hs
  · rcases h with h | h | h
    · subst h;simp
    · subst h;simp<;>omega
    have:=hK b h;simp;omega
  · rcases h with h | h
    · exact .inl h
    exact .inr (.inr (hS b h))
  · intro w1 w2 s h hk;exact⟨h.1.same (hk _ (.inl rfl)),h.2.1.same (hk _ (.inr (.inl rfl))),hJ _ _ _ h.2.2 fun k h=>hk k (.inr (.inr h))⟩
  · intro w1 t1 v1 a1 h;exact hmet w1 t1 v1 a1 (by simp at h;omega)
  · exact htm.keep fun b h=>⟨h,fun o=>aQ (a3.block b (hR b h).1) o⟩
  exact⟨aS.new' aD,(aS.new _ _ _).alloc _,hJ _ _ _ hj fun k h=>a3.block k (hK k h)⟩
 have a0:=vD a4 hpp hsz ⟨trivial,LP T _ _ _ _ _ k⟩ (by simpa using hlen);have hg:(sL T).G1 0 (false,t) n k=true:=by rw[cW.G1,LQ];rfl
 have HW:=aB a0;have a9:=aB a3;have a8:=aB hg;clear a0 a4 a3 htm hpp hsz hlen hR hg hJ hS hK hmet hj;go_in;go_wp2_with fail;refine HW.o.mono ?_;rintro e w' ⟨hm,(⟨_,⟨hf,hp,hj⟩,v',rfl,a2,a5⟩ | ⟨hg,_⟩)⟩
 · have cf:=hf.cell;have HM:=aB hm;have a6:=aB hj;clear hf hm hj hp a2 a5;go_wp2_with fail;go_ret;refine⟨rfl,bE.over a9.o HM.o (fun k hk hs => ?_),a6.o⟩;rcases hs with hs | hs
   · omega
   exact hs
 rw[a8.o] at hg;cases hg
end Go.Proofs.YtjoddliplahgkaaGreat
