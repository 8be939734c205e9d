/- Merged: Walk2, Walk3, Walk4, Raised, Each. -/
import Derived.Test.YtjoddliplahgkaaGreatTLeafs
import Derived.Deep.RegionHeld3
import Derived.Defers
import Derived.Recover
import Derived.Laws.EntriesVeiled
namespace Go.Proofs.YtjoddliplahgkaaGreat
set_option linter.unusedVariables false
set_option linter.unusedSimpArgs false
open Go.RowKit
open Go.Value renaming int → O, pointer → I, slice → U
open Go.IntKind renaming i64 → X
open Option renaming none → Y, some → Z
open Go.Obj renaming cells → Q
open Go.Lib renaming hid->aB
set_option maxHeartbeats 1000000
set_option maxRecDepth 100000
theorem KV{l:List Nd}{n:Nd}{D:List Nd}{k x:Fo}{rest:List Nd}(h:pp [false] l=Z (.cons [] n D k x,rest)):0<l.length/\bC l 0=n/\eW n=true:=by
 cases l with
 | nil=>simp[fD,gL]at h
 | cons y l =>
  rw[fD]at h;simp only[gL,ZW]at h;split at h
  . rename_i F
    simp only[ZV,YT,ZB,Fo.cons.injEq]at h;obtain⟨_,_,_,_,_,_,⟨_,e,_⟩,_⟩:=h;subst e;exact⟨by simp,rfl,F⟩
  . cases h
theorem infoN:(Tryz.prog.info? 46).map (fun i=>(i.zero,i.size,i.bytes))=Z (Z (.agg #[O X 0,O X 0,O X 0]),3,24):=by kernel_rfl
theorem J2{σ:Type}(C:pL σ)(hG:C.Good)(m:Nat)
 (ih:∀(w:aAB)(v:Value)(q:Nat)(s:σ)(o:List Nd)(a:Int)(n:Nd)(a4:List Nd)(k:Fo)(rest:List Nd),C.St w v q s o->pp [false] (C.l.drop q)=Z (.cons [] n a4 k .nil,rest)->0<=a->a+4*aY k<=1000000000000->C.V.D1 a s n k->o.length+(C.V.E1 a s n a4 k).length<=C.M->aY k<m →
  Calls Tryz.prog 146 #[O X a,I (Z ⟨C.H,0,Y⟩),I (Z ⟨C.H+5,0,Y⟩),I (Z ⟨C.H+2,0,Y⟩),I (Z ⟨C.H+1,0,Y⟩),I (Z ⟨C.H+6,0,Y⟩)] w (C.Post w v o (C.l.length-rest.length) (C.V.E1 a s n a4 k) (C.V.S1 a s n k) (C.V.G1 a s n k)))
 (w:aAB) (v:Value) (q:Nat) (s:σ) (o:List Nd) (a:Int) (n:Nd) (a4:List Nd) (k:Fo) (rest:List Nd) (a1:C.St w v q s o) (e6:pp [false] (C.l.drop q)=Z (.cons [] n a4 k .nil,rest)) (i9:0<=a) (j0:a+4*aY k<=1000000000000) (hD:C.V.D1 a s n k) (hM:o.length+(C.V.E1 a s n a4 k).length<=C.M) (j3:aY k<=m) (h2:n.op=2) :
 Calls Tryz.prog 146 #[O X a,I (Z ⟨C.H,0,Y⟩),I (Z ⟨C.H+5,0,Y⟩),I (Z ⟨C.H+2,0,Y⟩),I (Z ⟨C.H+1,0,Y⟩),I (Z ⟨C.H+6,0,Y⟩)] w (C.Post w v o (C.l.length-rest.length) (C.V.E1 a s n a4 k) (C.V.S1 a s n k) (C.V.G1 a s n k)):=by
 obtain⟨Av,cv,rfl⟩:=a1.own.slice;obtain⟨HG,a7,i1,HM⟩:=aAE hG a1 e6 hM;obtain⟨j2,hn,g6⟩:=KV e6;rw[YS]at j2;have hq:q<C.nn:=by have:=a1.tm.len;omega
 have j7:=a1.tm.few;obtain⟨tb,toff,hA,k2,g7⟩:=a1.tm.mem aA;obtain⟨g0,g1,g2⟩:=g7 q (by have:=a1.tm.len;omega);have g4:bC C.l q=n:=by rw[<-hn,nZ];rfl
 rw[g4]at g0 g1 g2;have k1:=a1.size;have k6:C.H+1<w.heap.size:=aA;have k7:C.H+2<w.heap.size:=aA;have k8:C.H+5<w.heap.size:=aA;have k4:=hG.en;have z0:=a1.bt.cell;have z1:=a1.bo.cell;have z2:=a1.bf.cell;have z5:=a1.ba.cell;have f5:=a1.ba.frozen;rw[hA]at z0;obtain⟨c8,h9⟩:=aAC hA g6;have k5:(0:Int)<=(q:Int):=aA;have g3:=hD.1;have b1:o.length+(C.V.em s n a).length<=C.M:=by
  simp only[cZ.E1,XX]at hM;omega
 have j1:a<=1000000000000:=aA;obtain⟨h4,h6⟩:=aAC g3 b1;clear g3 b1;clear ih hG a1 e6 hD hM j3 j0 hn g6 hA g7 g4;have k0:(n.op==2)=true:=by simp[h2]
 have H2:=aB h2;clear h2;obtain⟨d9,_,f7,d8,f8⟩:=QB i1.o H2.o;have k3:(q:Int)+1+n.b<=C.nn:=by
  have h1:=congrArg List.length d8;rw[YS,XX]at h1;have:=a7.o.tm.len;omega
 obtain⟨e9,c7,e8⟩:=aAF d9 f7 d8;clear d9 f7 d8;have j6:=a7.o.tm.cap;go_in;go_wp2_with fail;have a0:=(a7.o.goOn HG.o ((q:Int)+1) (q+1) aA).below HG.o (aQ _ (Q #[O X n.op,O X n.a,O X n.b] 46));have c6:=HG.o.one _ s _ o n a aG a0.j a0.own (fun k hk=>(a0.hv k hk).1) h9.o h4.o i9 j1 h6.o;refine c6.mono ?_;rintro e w2 (⟨c5,hm,hj,v',rfl,z,b3⟩|⟨f9,rfl,hm⟩);rotate_left
 . refine⟨rfl,.inr ⟨by simp[cZ.G1,f9],rfl,?_⟩⟩;exact (((aZ.refl _ _ w).setCell (p:=⟨C.H+5,0,Y⟩) (.inr (.inr rfl)) _).alloc _).trans (hm.mono pL.S_S') (fun g hg=>.inl hg)
 obtain⟨a3,a5,rfl⟩:=z.slice;have d6:aT w2 w.heap.size 46 #[O X n.op,O X n.a,O X n.b]:=aT.moved (aT.new' (by simp[World.setCell])) hm (pL.S_lt HG.o aA) (fun e=>by have:=a7.o.row _ e;omega);have F:=a0.called HG.o hm z b3 hj;have hB:=fun k h1 h2=>a0.keep HG.o hm (k:=k) h1 h2;have c0:=aT.cell (a0.bt.same (hB _ aA aA));have c1:=aT.cell (a0.bo.same (hB _ aA aA));have i5:=aT.frozen (a0.bo.same (hB _ aA aA));have cb:=aT.cell d6;have j8:w.heap.size≠C.H+1:=aA;rw[c8.o]at c0;have D:=aB F;have f1:=aB hm;have e7:=aB d6;have f3:=aB c5;have b9:=aB b3;clear F a0 hm d6 c5 hB c6 z hj b3 z0 z1 z2 z5 f5 g0 g1 g2;go_wp2_with fail;have b0:aT (w2.setCell ⟨C.H+1,0,Y⟩ (U a3 (o++C.V.em s n a).length a5)) w.heap.size 46 #[O X n.op,O X n.a,O X n.b]:=e7.o.far aG _;have F:=D.o;have b7:=((((aZ.refl C.S' (Value.slice Av o.length cv).ownBlock w).setCell (p:=⟨C.H+5,0,Y⟩) (.inr (.inr rfl)) (O X ((q:Int)+1))).alloc (Q #[O X n.op,O X n.a,O X n.b] 46)).trans (f1.o.mono pL.S_S') (fun g hg=>.inl hg)).setCell (p:=⟨C.H+1,0,Y⟩) (.inr (.inl rfl)) (U a3 (o++C.V.em s n a).length a5);have b4:fX (U Av o.length cv) (U a3 (o++C.V.em s n a).length a5) w:=fun g hg=>(b9.o g hg).imp id (fun h=>by simp[World.setCell]at h;omega);rw[XX]at b0 F b7 b4;clear D e7 c0 c1 i5 cb;generalize w2.setCell ⟨C.H+1,0,Y⟩ (U a3 (o.length+(C.V.em s n a).length) a5)=w3 at F b0 b7 ⊢;have d0:=F.bt.cell;have d1:=F.bo.cell;have d4:w3.cell? ⟨C.H+5,0,Y⟩=Z (O X ((q:Int)+1)):=F.ba.cell 0;have g5:(Value.slice a3 (o.length+(C.V.em s n a).length) a5).ownBlock≠Z w.heap.size:=fun e=>by
  rcases b9.o _ (by rw[XX];exact e) with h|h
  . have:=a7.o.row _ h;omega
  simp[World.setCell]at h;omega
 have d2:=aB g5;clear g5;have db:=b0.cell;rw[c8.o]at d0;obtain⟨D,b6,c9,a9⟩:=aAE F b0 b7 b4;clear F b0 b7 b4 f1;obtain⟨j4,j5⟩:=f8;have e1:(0:Int)<=(q:Int)+1:=aA;have e2:(q:Int)+1<=(q:Int)+1+n.b:=aA;have e3:(q:Int)+1+n.b<=(C.c:Int):=aA;have e4:¬ C.c=q+1:=aA;have e5:max ((q:Int)+1+n.b) 0=(q:Int)+1+n.b:=aA;have k9:IntKind.i64.wrap ((q:Int)+1+n.b)=(q:Int)+1+n.b:=IntWalk.i64_in _ aA;have c2:bF C.R w3.drew (Z ⟨tb,toff+(q+1)*3,Y⟩) (((q:Int)+1+n.b).toNat-(q+1)) (C.c-(q+1)) a4:=by
  have h1:=(D.o.drew HG.o).tm;rw[c8.o]at h1;exact h1.mid e8.o (by rw[c7.o];omega) aA aA
 have b8:=aB c2;have c3:C.base<=w3.drew.heap.size:=by have:=HG.o.hbase;have:=D.o.size;simp;omega
 have b2:o.length+(C.V.em s n a).length+(((q:Int)+1+n.b).toNat-(q+1))<=1000000000000:=by
  have h1:=HM.o;have h2:=HG.o.hM;have h3:=c7.o;simp only[cZ.E1,XX]at h1;omega
 obtain⟨h7,f0⟩:=aAC c3 b2;obtain⟨i0,hi,g8,g9,h0⟩:=info_parts infoN;obtain⟨h5,i2,i3,i4⟩:=aAE hi g8 g9 h0;clear c2 c3 b2 hi g8 g9 h0;have b5:bK w3.drew C.base (U a3 (o.length+(C.V.em s n a).length) a5) (o++C.V.em s n a):=(D.o.drew HG.o).own;have d3:=aB b5;clear b5;refine wp_region_noPanic ?_;refine gF 9 (fun w'=>w'.cell? ⟨C.H,0,Y⟩=Z (U (Z ⟨tb,toff,Y⟩) C.nn C.c)/\w'.cell? ⟨C.H+1,0,Y⟩=Z (U a3 (o.length+(C.V.em s n a).length) a5)/\w'.cell? ⟨C.H+5,0,Y⟩=Z (O X ((q:Int)+1))/\w'.cell? ⟨w.heap.size,2,Y⟩=Z (O X n.b)) aF ⟨d0 0,d1 0,d4,db 2⟩ (fun i8=>?_);refine bA (i:=0) (v:=?_) rfl aC aC aC aC aC (fun _ _ _ h=>h) (Or.inl ⟨by rfl,?_⟩) aI ?_;rotate_left
 . (intro w hSw;(try dsimp only at hSw);go_simp);all_goals with_reducible rfl
 try simp only[Act.put,List.getElem_toArray,List.getElem_cons_zero,List.getElem_cons_succ,List.setIfInBounds_toArray,List.set_cons_zero,List.set_cons_succ]
 refine bA (i:=1) (v:=?_) rfl aC aC aC aC aC (fun _ _ _ h=>h) (Or.inl ⟨by rfl,?_⟩) aI ?_;rotate_left
 . (intro w hSw;(try dsimp only at hSw);go_simp);all_goals with_reducible rfl
 try simp only[Act.put,List.getElem_toArray,List.getElem_cons_zero,List.getElem_cons_succ,List.setIfInBounds_toArray,List.set_cons_zero,List.set_cons_succ]
 refine bA (i:=2) (v:=?_) rfl aC aC aC aC aC (fun _ _ _ h=>h) (Or.inl ⟨by rfl,?_⟩) aI ?_;rotate_left
 . (intro w hSw;(try dsimp only at hSw);go_simp);all_goals with_reducible rfl
 try simp only[Act.put,List.getElem_toArray,List.getElem_cons_zero,List.getElem_cons_succ,List.setIfInBounds_toArray,List.set_cons_zero,List.set_cons_succ]
 refine bA (i:=3) (v:=?_) rfl aC aC aC aC aC (fun _ _ _ h=>h) (Or.inl ⟨by rfl,?_⟩) aI ?_;rotate_left
 . (intro w hSw;(try dsimp only at hSw);go_simp);all_goals with_reducible rfl
 try simp only[Act.put,List.getElem_toArray,List.getElem_cons_zero,List.getElem_cons_succ,List.setIfInBounds_toArray,List.set_cons_zero,List.set_cons_succ]
 refine bA (i:=4) (v:=?_) rfl aC aC aC aC aC (fun _ _ _ h=>h) (Or.inl ⟨by rfl,?_⟩) aI ?_;rotate_left
 . (intro w hSw;(try dsimp only at hSw);go_simp);all_goals with_reducible rfl
 try simp only[Act.put,List.getElem_toArray,List.getElem_cons_zero,List.getElem_cons_succ,List.setIfInBounds_toArray,List.set_cons_zero,List.set_cons_succ]
 refine bA (i:=5) (v:=?_) rfl aC aC aC aC aC (fun _ _ _ h=>h) (Or.inl ⟨by rfl,?_⟩) aI ?_;rotate_left
 . (intro w hSw;(try dsimp only at hSw);go_simp);all_goals with_reducible rfl
 try simp only[Act.put,List.getElem_toArray,List.getElem_cons_zero,List.getElem_cons_succ,List.setIfInBounds_toArray,List.set_cons_zero,List.set_cons_succ]
 refine bA (i:=6) (v:=?_) rfl aC aC aC aC aC (fun _ _ _ h=>h) (Or.inl ⟨by rfl,?_⟩) aI ?_;rotate_left
 . (intro w hSw;(try dsimp only at hSw);go_simp);all_goals with_reducible rfl
 try simp only[Act.put,List.getElem_toArray,List.getElem_cons_zero,List.getElem_cons_succ,List.setIfInBounds_toArray,List.set_cons_zero,List.set_cons_succ]
 refine bA (i:=7) (v:=?_) rfl aC aC aC aC aC (fun _ _ _ h=>h) (Or.inl ⟨by rfl,?_⟩) aI ?_;rotate_left
 . (intro w hSw;(try dsimp only at hSw);go_simp);all_goals with_reducible rfl
 try simp only[Act.put,List.getElem_toArray,List.getElem_cons_zero,List.getElem_cons_succ,List.setIfInBounds_toArray,List.set_cons_zero,List.set_cons_succ]
 refine bV (i:=8) aC rfl rfl (fun K8 i6=>?_);refine bG (.tmp 23) (.tmp 30) 29 29 rfl C.base i0 Tryz.underlying29 Tryz.underlying29 h5.o i2.o i3.o i4.o (U a3 (o.length+(C.V.em s n a).length) a5) (o++C.V.em s n a) a4 aF d3.o aF b8.o (by have:=f0.o;rw[XX];omega) h7.o ?_;intro A' c' w' z a2;simp only[XX]at z a2;have a8:=fun k hk=>(D.o.drew HG.o).rowKeep HG.o a2.grown (k:=k) hk;have zb:=(D.o.drew HG.o).bo.same (a8 _ (.inl ⟨by omega,by omega⟩));have zc:=zb.cell;have zf:=zb.frozen;have f6:w'.cell? ⟨C.H,0,Y⟩=Z (U (Z ⟨tb,toff,Y⟩) C.nn C.c)/\w'.cell? ⟨C.H+1,0,Y⟩=Z (U a3 (o.length+(C.V.em s n a).length) a5)/\w'.cell? ⟨C.H+5,0,Y⟩=Z (O X ((q:Int)+1))/\w'.cell? ⟨w.heap.size,2,Y⟩=Z (O X n.b):=⟨(aP (a8 _ (.inl ⟨by omega,by omega⟩)) 0).trans (d0 0),zc 0,(aP (a8 _ (.inl ⟨by omega,by omega⟩)) 0).trans d4,(aP (a8 _ (.inr ⟨d2.o,b6.o.lt⟩)) 2).trans (db 2)⟩;refine i6.o _ _ (fun _=>f6) ?_;try simp only[Act.put,List.getElem_toArray,List.getElem_cons_zero,List.getElem_cons_succ,List.setIfInBounds_toArray,List.set_cons_zero,List.set_cons_succ]
 refine bV (i:=9) aC rfl rfl (fun K9 i7=>?_);go_simp;refine i7.o _ _ (fun h=>absurd rfl h) ?_;refine gW aC (NoPanic.normal ?_) _;have a6:=(D.o.drew HG.o).laid HG.o a2.grown z (fun g hg=>a2.new g hg);have d7:aT (w'.setCell ⟨C.H+1,0,Y⟩ (.slice A' (o.length+(C.V.em s n a).length+(((q:Int)+1+n.b).toNat-(q+1))) c')) w.heap.size 46 #[O X n.op,O X n.a,O X n.b]:=aT.far (aT.same b6.o (a8 _ (.inr ⟨d2.o,b6.o.lt⟩))) aG _;have e0:=(c9.o.drew.trans (aZ.of_grown a2.grown) (fun g hg=>a9.o g hg)).setCell (p:=⟨C.H+1,0,Y⟩) (.inr (.inl rfl)) (.slice A' (o.length+(C.V.em s n a).length+(((q:Int)+1+n.b).toNat-(q+1))) c');have c4:fX (U Av o.length cv) (.slice A' (o.length+(C.V.em s n a).length+(((q:Int)+1+n.b).toNat-(q+1))) c') w:=a9.o.trans (fun g hg=>a2.new g hg) c9.o.size;clear zb zc zf f6 a8 a2 z D b6 c9 a9 d2 i8 d0 d1 d4 db b8;generalize w'.setCell ⟨C.H+1,0,Y⟩ (.slice A' (o.length+(C.V.em s n a).length+(((q:Int)+1+n.b).toNat-(q+1))) c')=w5 at a6 d7 e0 ⊢;have d5:w5.cell? ⟨C.H+5,0,Y⟩=Z (O X ((q:Int)+1)):=a6.ba.cell 0;have j9:=a6.ba.frozen;have db:=d7.cell;have d9:dU n.op n.b=0:=by rw[H2.o];rfl
 have f4:=aB a6;have h8:=aB e0;have f2:=aB c4;clear a6 d7 e0 c4;go_wp2_with (go_at_call 133;refine (q7 _ _ _ _ ⟨by omega,by omega⟩).mono ?_;rintro e w6 ⟨rfl,rfl⟩)
 refine wp_loop_rounds 1 ?_;rw[rounds_succ];go_wp2_with fail;refine bodyPost_end (results_none rfl _ _ _) rfl (.inl ⟨?_,rfl,?_,_,?_,f2.o⟩)
 . rw[e9.o];simp[cZ.G1,cZ.G,f3.o]
 . exact (h8.o.setCell (p:=⟨C.H+5,0,Y⟩) (.inr (.inr rfl)) _).alloc _
 have h1:=(f4.o.goOn HG.o ((q:Int)+1+n.b) (C.l.length-rest.length) (by
  have h1:=congrArg List.length e8.o;have h2:=c7.o;have h3:=a7.o.tm.len;rw[YS,XX]at h1;omega)).below HG.o (aQ _ (Q #[O X n.op,O X n.a,O X n.b] 46))
 rw[e9.o];simpa only[cZ.E1,cZ.S1,cZ.E,cZ.S,YP,ZU] using h1
theorem J1{σ:Type}(C:pL σ)(hG:C.Good)(m:Nat)
 (ih:∀(w:aAB)(v:Value)(q:Nat)(s:σ)(o:List Nd)(a:Int)(n:Nd)(c7:List Nd)(k:Fo)(rest:List Nd),C.St w v q s o->pp [false] (C.l.drop q)=Z (.cons [] n c7 k .nil,rest)->0<=a->a+4*aY k<=1000000000000->C.V.D1 a s n k->o.length+(C.V.E1 a s n c7 k).length<=C.M->aY k<m →
  Calls Tryz.prog 146 #[O X a,I (Z ⟨C.H,0,Y⟩),I (Z ⟨C.H+5,0,Y⟩),I (Z ⟨C.H+2,0,Y⟩),I (Z ⟨C.H+1,0,Y⟩),I (Z ⟨C.H+6,0,Y⟩)] w (C.Post w v o (C.l.length-rest.length) (C.V.E1 a s n c7 k) (C.V.S1 a s n k) (C.V.G1 a s n k)))
 (w:aAB) (v:Value) (q:Nat) (s:σ) (o:List Nd) (a:Int) (n:Nd) (c7:List Nd) (k:Fo) (rest:List Nd) (a5:C.St w v q s o) (m1:pp [false] (C.l.drop q)=Z (.cons [] n c7 k .nil,rest)) (p8:0<=a) (p9:a+4*aY k<=1000000000000) (hD:C.V.D1 a s n k) (hM:o.length+(C.V.E1 a s n c7 k).length<=C.M) (s6:aY k<=m) (h2:n.op≠2) :
 Calls Tryz.prog 146 #[O X a,I (Z ⟨C.H,0,Y⟩),I (Z ⟨C.H+5,0,Y⟩),I (Z ⟨C.H+2,0,Y⟩),I (Z ⟨C.H+1,0,Y⟩),I (Z ⟨C.H+6,0,Y⟩)] w (C.Post w v o (C.l.length-rest.length) (C.V.E1 a s n c7 k) (C.V.S1 a s n k) (C.V.G1 a s n k)):=by
 obtain⟨Av,cv,rfl⟩:=a5.own.slice;obtain⟨HI,HG,h3,w3,HD,HM,o7,HA⟩:=aAG ih hG a5 m1 hD hM s6 p9;obtain⟨y1,hn,s2⟩:=KV m1;rw[YS]at y1;have hq:q<C.nn:=by have:=a5.tm.len;omega
 have y9:=a5.tm.few;obtain⟨tb,toff,hA,p2,s7⟩:=a5.tm.mem aA;obtain⟨g0,g1,g2⟩:=s7 q (by have:=a5.tm.len;omega);have r9:bC C.l q=n:=by rw[<-hn,nZ];rfl
 rw[r9]at g0 g1 g2;have A6:=(hG.hR tb p2).1;have A4:=a5.size;have B1:C.H+1<w.heap.size:=aA;have B2:C.H+2<w.heap.size:=aA;have B3:C.H+5<w.heap.size:=aA;have z9:tb<w.heap.size:=aA;have A7:=hG.en;have z0:=a5.bt.cell;have z1:=a5.bo.cell;have z2:=a5.bf.cell;have z5:=a5.ba.cell;have f5:=a5.ba.frozen;rw[hA]at z0;obtain⟨m6,h0⟩:=aAC hA s2;have B0:(0:Int)<=(q:Int):=aA;have r1:=hD.1;have b1:o.length+(C.V.em s n a).length<=C.M:=by
  simp only[cZ.E1,XX]at hM;omega
 have x7:a<=1000000000000:=aA;obtain⟨t9,v4⟩:=aAC r1 b1;clear r1 b1;clear ih hG a5 m1 hD hM s6 p9 hn s2 hA s7 r9;have A3:(n.op==2)=false:=by simp[h2]
 have H2:=aB h2;clear h2;obtain⟨_,f2,r3⟩:=S9 w3.o H2.o;have m0:cD n.op n.a n.b=true:=by
  have:=h0.o;simp only[eW,YC]at this;exact this.1.1
 obtain⟨A5,t4⟩:=iF m0;obtain⟨r2,y0⟩:=EW m0;obtain⟨v3,m3⟩:=aAC r3 f2;have o9:C.V.D n.op n.b 0 a (C.V.nx s n a) k:=HD.o.2;have m8:=aB o9;have p1:o.length+((C.V.em s n a).length+(C.V.E n.op n.b 0 a (C.V.nx s n a) k).length)<=C.M:=by
  have h1:=HM.o;rw[f2]at h1;simpa only[cZ.E1,YO,XX] using h1
 have h9:=aB p1;clear f2 r3 o9 p1 m0;have r4:=h3.o.tm.len;have e3:=aB r4;clear r4;go_in;go_wp2_with fail;have a6:=(h3.o.goOn HG.o ((q:Int)+1) (q+1) aA).below HG.o (aQ _ (Q #[O X n.op,O X n.a,O X n.b] 46));have j4:=HG.o.one _ s _ o n a aG a6.j a6.own (fun k hk=>(a6.hv k hk).1) h0.o t9.o p8 x7 v4.o;refine j4.mono ?_;rintro e w2 (⟨j3,hm,hj,v',rfl,a4,d7⟩|⟨q5,rfl,hm⟩);rotate_left
 . refine⟨rfl,.inr ⟨by simp[cZ.G1,q5],rfl,?_⟩⟩;exact (((aZ.refl _ _ w).setCell (p:=⟨C.H+5,0,Y⟩) (.inr (.inr rfl)) _).alloc _).trans (hm.mono pL.S_S') (fun g hg=>.inl hg)
 obtain⟨g7,h4,rfl⟩:=a4.slice;have l4:aT w2 w.heap.size 46 #[O X n.op,O X n.a,O X n.b]:=aT.moved (aT.new' (by simp[World.setCell])) hm (pL.S_lt HG.o aA) (fun e=>by have:=h3.o.row _ e;omega);have j9:=a6.called HG.o hm a4 d7 hj;have hB:=fun k h1 h2=>a6.keep HG.o hm (k:=k) h1 h2;have c1:=aT.cell (a6.bo.same (hB _ aA aA));have x2:=aT.frozen (a6.bo.same (hB _ aA aA));have cb:=aT.cell l4;have z3:w.heap.size≠C.H+1:=aA;have l8:=(((((aZ.refl C.S' (Value.slice Av o.length cv).ownBlock w).setCell (p:=⟨C.H+5,0,Y⟩) (.inr (.inr rfl)) (O X ((q:Int)+1))).alloc (Q #[O X n.op,O X n.a,O X n.b] 46)).trans (hm.mono pL.S_S') (fun g hg=>.inl hg)).setCell (p:=⟨C.H+1,0,Y⟩) (.inr (.inl rfl)) (U g7 (o++C.V.em s n a).length h4)).alloc (Q #[O X n.op,O X n.a,O X n.b] 46);have f4:fX (U Av o.length cv) (U g7 (o++C.V.em s n a).length h4) w:=fun g hg=>(d7 g hg).imp id (fun h=>by simp[World.setCell]at h;omega);have f8:(Value.slice g7 (o++C.V.em s n a).length h4).ownBlock≠Z w.heap.size:=fun e=>by
  rcases d7 _ e with h|h
  . have:=h3.o.row _ h;omega
  simp[World.setCell]at h;omega
 have g4:=j9.below HG.o (aQ _ (Q #[O X n.op,O X n.a,O X n.b] 46));have h6:=(l4.far (p:=⟨C.H+1,0,Y⟩) aG (U g7 (o++C.V.em s n a).length h4)).alloc (Q #[O X n.op,O X n.a,O X n.b] 46);rw[XX]at l8 f4 g4 h6 f8;have o3:=aB g4;have v6:=aB l8;have n6:=aB f4;have n8:=aB f8;have t7:=aB h6;have o0:=aB j3;clear j9 a6 hm l4 j3 hB j4 a4 hj d7 z0 z1 z2 z5 f5 g0 g1 g2 l8 f4 g4 h6 f8;go_wp2_with (go_at_call 133;refine (q7 _ _ _ _ ⟨by omega,by omega⟩).mono ?_;rintro e w6 ⟨rfl,rfl⟩)
 clear c1 x2 cb;go_loopw [38] (fun i wr=>∃(F1 F2:Fo)(j F:Nat)(v1:Value)(s1:σ)(o1:List Nd),Hid (k=F1.app F2)/\Hid (pp (iO n j) (C.l.drop F)=Z (F2,rest))/\Hid (bE F1=if n.op=12 then 2*j else j)/\(j:Int)<=dU n.op n.b/\i=O X (j:Int)/\F<=C.nn/\Hid (C.St wr v1 F s1 o1)/\Hid (s1=C.V.S n.op n.b 0 a (C.V.nx s n a) F1)/\Hid (o1=o++(C.V.em s n a++C.V.E n.op n.b 0 a (C.V.nx s n a) F1)) ∧
  Hid (aT wr w.heap.size 46 #[O X n.op,O X n.a,O X n.b])/\Hid (aZ C.S' (Value.slice Av o.length cv).ownBlock w wr)/\Hid (fX (U Av o.length cv) v1 w)/\Hid (v1.ownBlock≠Z w.heap.size)/\Hid (C.V.G n.op n.b 0 a (C.V.nx s n a) F1=true)) (fun i _=>(dU n.op n.b).toNat-(intOf i).toNat)
 case atStart =>
  exact⟨.nil,k,0,q+1,_,_,_,aB rfl,aB (by rw[tB];exact v3.o),aB (by simp[bE]),r2,by go_num,hq,o3,aB rfl,aB (by simp[cZ.E]),t7,v6,n6,n8,aB rfl⟩
 case round =>
  obtain⟨F1,F2,j,F,v1,s1,o1,HK,l1,n0,hj,rfl,A9,z,a3,e9,c6,e4,b6,d1,k6⟩:=hrel;obtain⟨e2,f0,rfl⟩:=z.o.own.slice;have A0:=z.o.size;have e1:=z.o.bo.cell;have e5:wr.cell? ⟨C.H+5,0,Y⟩=Z (O X (F:Int)):=z.o.ba.cell 0;have e6:wr.cell? ⟨C.H+6,0,Y⟩=Z (.func (.func 146) #[] #[I (Z ⟨C.H,0,Y⟩),I (Z ⟨C.H+5,0,Y⟩),I (Z ⟨C.H+2,0,Y⟩),I (Z ⟨C.H+1,0,Y⟩),I (Z ⟨C.H+6,0,Y⟩)]):=z.o.br.cell 0;have eb:=c6.o.cell;have y3:C.H<wr.heap.size:=aA;have y4:C.H+1<wr.heap.size:=aA;have y5:C.H+5<wr.heap.size:=aA;have y6:=c6.o.lt;by_cases r5:(j:Int)<dU n.op n.b;rotate_left
  . have b4:=l1.o;rw[wX n (i:=j) aA,kU]at b4;simp only[YT,ZB]at b4;obtain⟨c3,hr⟩:=b4;have j7:C.l.length-rest.length=F:=by
     rw[<-hr,YS];have:=e3.o;omega
    have a0:k=F1:=by rw[HK.o,<-c3,iK]
    obtain⟨w4,b8⟩:=aAC j7 a0;clear c3 hr j7 a0;go_wp2_with fail;refine bodyPost_end (results_none rfl _ _ _) rfl (.inl ⟨?_,rfl,e4.o,_,?_,b6.o⟩)
    . simp only[cZ.G1,o0.o,b8.o,k6.o,Bool.and_self]
    rw[w4.o,b8.o,m3.o,show C.V.S1 a s n F1=s1 from a3.o.symm,show o++C.V.E1 a s n [] F1=o1 by rw[e9.o];simp only[cZ.E1,YO]];exact z.o
  by_cases a9:n.op=12
  . have o8:(n.op==12)=true:=by simp[a9]
    have x9:(j:Int)<n.b:=by simpa[dU,a9] using r5
    have b4:=l1.o;rw[wY a9 x9]at b4;obtain⟨y2,A8,F',j5,c3⟩:=TA b4;obtain⟨n1,a1,k1,A2,q2,p0,s4,j8,f9,j6⟩:=wQ j5 aA;obtain⟨n2,a2,k2,F3,q3,i2,z4,z6,s3,g3⟩:=wQ j6 j8;have b9:bE F1=2*j:=by have:=n0.o;rw[XP a9]at this;exact this
    have a0:k=F1.app (.cons [bC C.l F] n1 a1 k1 (.cons [] n2 a2 k2 F3)):=by rw[HK.o,c3,p0,i2];rfl
    have d3:a+aR n.op n.b ((2*j:Nat):Int)=a:=by
     simp only[aR];rw[XN aA,XN aA];omega
    have d4:a+aR n.op n.b ((2*j+1:Nat):Int)=a+n.b:=by
     simp only[aR];rw[XN aA,XP aA]
    have h6:n.b<=4:=by
     have:=h0.o;simp only[eW,YC]at this;have h1:=this.1.1;rw[aV]at h1;omega
    have x8:C.V.D1 a s1 n1 k1/\C.V.D1 (a+n.b) (C.V.S1 a s1 n1 k1) n2 k2:=by
     have h1:=m8.o;rw[a0,cZ.D_app,cZ.D_cons,cZ.D_cons,b9,YH,d3,d4,<-a3.o]at h1;exact⟨h1.2.1,h1.2.2.1⟩
    obtain⟨f3,r0⟩:=x8;have r8:o1.length+(1+((C.V.E1 a s1 n1 a1 k1).length+(C.V.E1 (a+n.b) (C.V.S1 a s1 n1 k1) n2 a2 k2).length))<=C.M:=by
     have h1:=h9.o;rw[a0,cZ.E_app,cZ.E_cons,cZ.E_cons,b9,YH,d3,d4,<-a3.o]at h1;rw[e9.o];simp only[XX,ZD,YA]at h1 ⊢;omega
    have h7:aY k1<m/\aY k2<m:=by
     have h1:=o7.o;rw[a0,dQ]at h1;simp only[aY]at h1;omega
    have h5:a+4*aY k1<=1000000000000/\a+n.b+4*aY k2<=1000000000000:=by
     have h1:=HA.o;rw[a0,dQ]at h1;simp only[aY]at h1;omega
    obtain⟨i5,i6⟩:=h7;obtain⟨i3,i4⟩:=h5;have s0:0<=a+n.b:=aA;have g6:=z.o.tm;rw[m6.o]at g6;obtain⟨B4,toff',l2,_,i9⟩:=g6.mem aA;injection l2 with l2;injection l2 with hA1 hA2;subst hA1 hA2;obtain⟨t0,t1,t2⟩:=i9 F y2;have h8:tb<wr.heap.size:=aA;have e0:=z.o.bt.cell;rw[m6.o]at e0;have z7:(0:Int)<=(F:Int):=aA;have z8:(F:Int)<(C.nn:Int):=by have:=e3.o;omega
    have hbase:C.base<=wr.drew.heap.size:=by have:=HG.o.hbase;simp;omega
    have b1:o1.length+1<=5864062014805:=by have:=HG.o.hM;omega
    have y8:IntKind.i64.wrap (a+n.b)=a+n.b:=IntWalk.i64_in _ aA;obtain⟨i0,hi,s8,s9,t3⟩:=info_parts infoN;obtain⟨v2,w5,x0,x1,k3,b8,a8,c0⟩:=aAG hi s8 s9 t3 a9 a0 b9 d3;obtain⟨d0,k5,m9,n5,n3,n4,m4,m5⟩:=aAG d4 f3 r0 r8 i5 i6 i3 i4;obtain⟨w0,k9,w1,l0,k7,k4,o2⟩:=aAI s0 f9 s3 g3 b1 hbase (z.o.drew HG.o).own;clear hi s8 s9 t3 a9 a0 b9 d3 d4 f3 r0 r8 i5 i6 i3 i4 s0 f9 s3 g3 b1 hbase b4 j5 j6 c3 p0 i2 g6 i9;have k0:=eb 0;have m2:=eb 1;go_wp2_with fail;refine wp_region_noPanic ?_;refine gF 7 (fun w'=>w'.cell? ⟨C.H,0,Y⟩=Z (U (Z ⟨tb,toff,Y⟩) C.nn C.c)/\w'.cell? ⟨C.H+1,0,Y⟩=Z (U e2 o1.length f0)/\w'.cell? ⟨C.H+5,0,Y⟩=Z (O X (F:Int))/\w'.cell? ⟨tb,toff+F*3,Y⟩=Z (O X (bC C.l F).op)/\w'.cell? ⟨tb,toff+F*3+1,Y⟩=Z (O X (bC C.l F).a)/\w'.cell? ⟨tb,toff+F*3+2,Y⟩=Z (O X (bC C.l F).b)) aF ⟨e0 0,e1 0,e5,t0,t1,t2⟩ (fun p3=>?_);refine bA (i:=0) (v:=?_) rfl aC aC aC aC aC (fun _ _ _ h=>h) (Or.inl ⟨by rfl,?_⟩) aI ?_;rotate_left
    . (intro w hSw;(try dsimp only at hSw);go_simp);all_goals with_reducible rfl
    try simp only[Act.put,List.getElem_toArray,List.getElem_cons_zero,List.getElem_cons_succ,List.setIfInBounds_toArray,List.set_cons_zero,List.set_cons_succ]
    refine bA (i:=1) (v:=?_) rfl aC aC aC aC aC (fun _ _ _ h=>h) (Or.inl ⟨by rfl,?_⟩) aI ?_;rotate_left
    . (intro w hSw;(try dsimp only at hSw);go_simp);all_goals with_reducible rfl
    try simp only[Act.put,List.getElem_toArray,List.getElem_cons_zero,List.getElem_cons_succ,List.setIfInBounds_toArray,List.set_cons_zero,List.set_cons_succ]
    refine bA (i:=2) (v:=?_) rfl aC aC aC aC aC (fun _ _ _ h=>h) (Or.inl ⟨by rfl,?_⟩) aI ?_;rotate_left
    . (intro w hSw;(try dsimp only at hSw);go_simp);all_goals with_reducible rfl
    try simp only[Act.put,List.getElem_toArray,List.getElem_cons_zero,List.getElem_cons_succ,List.setIfInBounds_toArray,List.set_cons_zero,List.set_cons_succ]
    refine bA (i:=3) (v:=?_) rfl aC aC aC aC aC (fun _ _ _ h=>h) (Or.inl ⟨by rfl,?_⟩) aI ?_;rotate_left
    . (intro w hSw;(try dsimp only at hSw);go_simp);all_goals with_reducible rfl
    try simp only[Act.put,List.getElem_toArray,List.getElem_cons_zero,List.getElem_cons_succ,List.setIfInBounds_toArray,List.set_cons_zero,List.set_cons_succ]
    refine bA (i:=4) (v:=?_) rfl aC aC aC aC aC (fun _ _ _ h=>h) (Or.inl ⟨by rfl,?_⟩) aI ?_;rotate_left
    . (intro w hSw;(try dsimp only at hSw);go_simp);all_goals with_reducible rfl
    try simp only[Act.put,List.getElem_toArray,List.getElem_cons_zero,List.getElem_cons_succ,List.setIfInBounds_toArray,List.set_cons_zero,List.set_cons_succ]
    refine bV (i:=5) aC rfl rfl (fun K5 x5=>?_);go_simp;have p5:(wr.drew.alloc (Q #[O X (bC C.l F).op,O X (bC C.l F).a,O X (bC C.l F).b] 46)).cell? ⟨C.H,0,Y⟩=Z (U (Z ⟨tb,toff,Y⟩) C.nn C.c)/\(wr.drew.alloc (Q #[O X (bC C.l F).op,O X (bC C.l F).a,O X (bC C.l F).b] 46)).cell? ⟨C.H+1,0,Y⟩=Z (U e2 o1.length f0)/\(wr.drew.alloc (Q #[O X (bC C.l F).op,O X (bC C.l F).a,O X (bC C.l F).b] 46)).cell? ⟨C.H+5,0,Y⟩=Z (O X (F:Int))/\(wr.drew.alloc (Q #[O X (bC C.l F).op,O X (bC C.l F).a,O X (bC C.l F).b] 46)).cell? ⟨tb,toff+F*3,Y⟩=Z (O X (bC C.l F).op)/\(wr.drew.alloc (Q #[O X (bC C.l F).op,O X (bC C.l F).a,O X (bC C.l F).b] 46)).cell? ⟨tb,toff+F*3+1,Y⟩=Z (O X (bC C.l F).a)/\(wr.drew.alloc (Q #[O X (bC C.l F).op,O X (bC C.l F).a,O X (bC C.l F).b] 46)).cell? ⟨tb,toff+F*3+2,Y⟩=Z (O X (bC C.l F).b):=by
     have hc:∀b o,b<wr.heap.size->(wr.drew.alloc (Q #[O X (bC C.l F).op,O X (bC C.l F).a,O X (bC C.l F).b] 46)).cell? ⟨b,o,Y⟩=wr.cell? ⟨b,o,Y⟩:=fun b o hb=>(World.cell?_alloc_lt _ _ _ hb);rw[hc _ _ y3,hc _ _ y4,hc _ _ y5,hc _ _ h8,hc _ _ h8,hc _ _ h8];exact⟨e0 0,e1 0,e5,t0,t1,t2⟩
    refine x5.o _ _ (fun _=>p5) ?_;try simp only[Act.put,List.getElem_toArray,List.getElem_cons_zero,List.getElem_cons_succ,List.setIfInBounds_toArray,List.set_cons_zero,List.set_cons_succ]
    refine bV (i:=6) aC rfl rfl (fun K6 l3=>?_);refine cM (.tmp 44) (.tmp 49) 29 rfl C.base i0 Tryz.underlying29 v2.o w5.o x0.o x1.o (U e2 o1.length f0) o1 (bC C.l F) wr.drew aF aF o2.o _ aF aD k7.o k4.o ?_;intro A' c' w' a4 b0;have c9:=fun k hk=>(z.o.drew HG.o).rowKeep HG.o b0.grown (k:=k) hk;have zb:=(z.o.drew HG.o).bo.same (c9 _ (.inl ⟨by omega,by omega⟩));have zf:=zb.frozen;have y7:(Value.slice e2 o1.length f0).ownBlock≠Z tb:=fun e=>(z.o.hv _ e).2.1 p2;have p7:w'.cell? ⟨C.H,0,Y⟩=Z (U (Z ⟨tb,toff,Y⟩) C.nn C.c)/\w'.cell? ⟨C.H+1,0,Y⟩=Z (U e2 o1.length f0)/\w'.cell? ⟨C.H+5,0,Y⟩=Z (O X (F:Int))/\w'.cell? ⟨tb,toff+F*3,Y⟩=Z (O X (bC C.l F).op)/\w'.cell? ⟨tb,toff+F*3+1,Y⟩=Z (O X (bC C.l F).a)/\w'.cell? ⟨tb,toff+F*3+2,Y⟩=Z (O X (bC C.l F).b):=by
     have hc:=aP (c9 tb (.inr ⟨y7,h8⟩));rw[hc,hc,hc,aP (c9 C.H (.inl ⟨by omega,by omega⟩)),aP (c9 (C.H+1) (.inl ⟨by omega,by omega⟩)),aP (c9 (C.H+5) (.inl ⟨by omega,by omega⟩))];exact⟨e0 0,e1 0,e5,t0,t1,t2⟩
    refine l3.o _ _ (fun _=>p7) ?_;try simp only[Act.put,List.getElem_toArray,List.getElem_cons_zero,List.getElem_cons_succ,List.setIfInBounds_toArray,List.set_cons_zero,List.set_cons_succ]
    refine bV (i:=7) aC rfl rfl (fun K7 x6=>?_);go_simp;refine x6.o _ _ (fun h=>absurd rfl h) ?_;refine gW aC (NoPanic.normal ?_) _;have a7:=(z.o.drew HG.o).laid HG.o b0.grown a4 (fun g hg=>b0.new g hg);have l5:aT (w'.setCell ⟨C.H+1,0,Y⟩ (U A' (o1.length+1) c')) w.heap.size 46 #[O X n.op,O X n.a,O X n.b]:=aT.far (aT.same (show aT wr.drew _ _ _ from c6.o) (c9 _ (.inr ⟨d1.o,y6⟩))) aG _;have r7:=(e4.o.drew.trans (aZ.of_grown b0.grown) (fun g hg=>b6.o g hg)).setCell (p:=⟨C.H+1,0,Y⟩) (.inr (.inl rfl)) (U A' (o1.length+1) c');have j0:fX (U Av o.length cv) (U A' (o1.length+1) c') w:=b6.o.trans (fun g hg=>b0.new g hg) e4.o.size;have j1:(Value.slice A' (o1.length+1) c').ownBlock≠Z w.heap.size:=fun e=>by
     rcases b0.new _ e with h|h
     . exact d1.o h
     simp at h;omega
    have d8:=a7.goOn HG.o ((F:Int)+1) (F+1) aA;have l6:=l5.far (p:=⟨C.H+5,0,Y⟩) aG (O X ((F:Int)+1));have l9:=r7.setCell (p:=⟨C.H+5,0,Y⟩) (.inr (.inr rfl)) (O X ((F:Int)+1));clear zb zf p5 p7 c9 b0 a4 p3 r7;generalize w'.setCell ⟨C.H+1,0,Y⟩ (U A' (o1.length+1) c')=w6 at a7 l5 d8 l6 l9 ⊢;have d5:w6.cell? ⟨C.H+5,0,Y⟩=Z (O X (F:Int)):=a7.ba.cell 0;have x3:=a7.ba.frozen;have d6:(w6.setCell ⟨C.H+5,0,Y⟩ (O X ((F:Int)+1))).cell? ⟨C.H+6,0,Y⟩=Z (.func (.func 146) #[] #[I (Z ⟨C.H,0,Y⟩),I (Z ⟨C.H+5,0,Y⟩),I (Z ⟨C.H+2,0,Y⟩),I (Z ⟨C.H+1,0,Y⟩),I (Z ⟨C.H+6,0,Y⟩)]):=d8.br.cell 0;have o4:=aB d8;have m7:=aB l6;have k8:=aB l9;have e8:=aB j0;have i1:=aB j1;clear a7 l5 d8 l6 l9 j0 j1 e0 e1 e5 e6 eb t0 t1 t2 k0 m2;go_wp2_with fail;refine (HI.o _ _ (F+1) s1 _ _ n1 a1 k1 (C.l.drop q2) o4.o k9.o p8 m4.o k5.o (by have:=n5.o;rw[XX,List.length_singleton];omega) n3.o).mono ?_;rintro e w8 (⟨c8,rfl,b2,v8,b5,b3⟩|⟨c8,rfl,b2⟩);rotate_left
    . refine⟨rfl,.inr ⟨?_,rfl,k8.o.trans b2 e8.o⟩⟩;rw[cZ.G1,b8.o,cZ.G_app,cZ.G_cons,a8.o,YH,c0.o,<-a3.o,c8];simp
    rw[YS,show C.l.length-(C.l.length-q2)=q2 by omega]at b5;have d9:aT w8 w.heap.size 46 #[O X n.op,O X n.a,O X n.b]:=aT.moved m7.o b2 (pL.S'_new HG.o aA) i1.o;have j2:v8.ownBlock≠Z w.heap.size:=fun e=>by
     rcases b3 _ e with h|h
     . exact i1.o h
     have:=m7.o.lt;omega
    have f6:=e8.o.trans b3 k8.o.size;have i7:=k8.o.trans b2 e8.o;have p6:w8.cell? ⟨C.H+6,0,Y⟩=Z (.func (.func 146) #[] #[I (Z ⟨C.H,0,Y⟩),I (Z ⟨C.H+5,0,Y⟩),I (Z ⟨C.H+2,0,Y⟩),I (Z ⟨C.H+1,0,Y⟩),I (Z ⟨C.H+6,0,Y⟩)]):=b5.br.cell 0;have pb:=d9.cell;have o5:=aB b5;have g9:=aB d9;have e7:=aB i7;have c2:=aB f6;have d2:=aB j2;clear b5 d9 b2 i7 b3 f6 j2 d5 x3 d6;go_wp2_with fail;refine (HI.o _ _ q2 _ _ _ n2 a2 k2 (C.l.drop q3) o5.o w1.o w0.o m5.o m9.o (by have:=n5.o;rw[XX,XX,List.length_singleton];omega) n4.o).mono ?_;rintro e w9 (⟨l7,rfl,c4,v9,g5,b7⟩|⟨l7,rfl,c4⟩);rotate_left
    . refine⟨rfl,.inr ⟨?_,rfl,e7.o.trans c4 c2.o⟩⟩;rw[cZ.G1,b8.o,cZ.G_app,cZ.G_cons,cZ.G_cons,a8.o,YH,c0.o,d0.o,<-a3.o,l7];simp
    rw[YS,show C.l.length-(C.l.length-q3)=q3 by omega]at g5;have q4:aT w9 w.heap.size 46 #[O X n.op,O X n.a,O X n.b]:=aT.moved g9.o c4 (pL.S'_new HG.o aA) d2.o;have c5:v9.ownBlock≠Z w.heap.size:=fun e=>by
     rcases b7 _ e with h|h
     . exact d2.o h
     have:=g9.o.lt;omega
    have f7:=c2.o.trans b7 e7.o.size;have i8:=e7.o.trans c4 c2.o;obtain⟨o6,t8,v7,n7,n9⟩:=aAD g5 q4 i8 f7 c5;clear g5 q4 c4 i8 b7 f7 c5 p6 pb;go_wp2_with fail;go_roundw
    case rel =>
     refine⟨F1.app (.cons [bC C.l F] n1 a1 k1 (.cons [] n2 a2 k2 .nil)),F3,j+1,q3,v9,_,_,aB (by rw[b8.o,cV];rfl),l0,aB (by rw[bN,a8.o,XP k3.o];simp only[bE];omega),by omega,by go_num,by have:=e3.o;omega,o6,aB ?_,aB ?_,t8,v7,n7,n9,aB ?_⟩
     . rw[cZ.S_app,cZ.S_cons,cZ.S_cons,a8.o,YH,c0.o,d0.o,<-a3.o];rfl
     . rw[cZ.E_app,cZ.E_cons,cZ.E_cons,a8.o,YH,c0.o,d0.o,<-a3.o,e9.o];simp only[cZ.E,YP,YO,ZU]
     rw[cZ.G_app,cZ.G_cons,cZ.G_cons,a8.o,YH,c0.o,d0.o,<-a3.o,k6.o,c8,l7];rfl
    case measure=>simp[intOf];omega
  have o8:(n.op==12)=false:=by simp[a9]
  have s5:=wZ a9 r5;have b4:=l1.o;rw[s5]at b4;obtain⟨n1,a1,k1,F3,q2,c3,s4,j8,f9,g3⟩:=wQ b4 (by have:=e3.o;omega);have b9:bE F1=j:=by have:=n0.o;rw[XN a9]at this;exact this
  have a0:k=F1.app (.cons [] n1 a1 k1 F3):=by rw[HK.o,c3]
  have f1:aR n.op n.b (j:Int)=eZ n.op (j:Int):=by simp only[aR,eZ,a9,false_and,if_false]
  have f3:C.V.D1 (a+eZ n.op (j:Int)) s1 n1 k1:=by
   have h1:=m8.o;rw[a0,cZ.D_app,cZ.D_cons,b9,YH,f1,<-a3.o]at h1;exact h1.2.1
  have r6:o1.length+(C.V.E1 (a+eZ n.op (j:Int)) s1 n1 a1 k1).length<=C.M:=by
   have h1:=h9.o;rw[a0,cZ.E_app,cZ.E_cons,b9,YH,f1,<-a3.o]at h1;rw[e9.o];simp only[XX,ZD]at h1 ⊢;omega
  have h7:aY k1<m:=by
   have h1:=o7.o;rw[a0,dQ]at h1;simp only[aY]at h1;omega
  have q6:=dY h0.o (j:Int);rw[f1]at q6;obtain⟨q8,q9⟩:=q6;have h5:0<=a+eZ n.op (j:Int):=aA;have q0:a+eZ n.op (j:Int)+4*aY k1<=1000000000000:=by
   have h1:=HA.o;rw[a0,dQ]at h1;simp only[aY]at h1;omega
  obtain⟨k3,b8,a8,g8,k5,v5,v0,t5⟩:=aAG a9 a0 b9 f1 f3 r6 h7 h5;obtain⟨t6,k9,l0⟩:=aAF q0 f9 g3;have y8:IntKind.i64.wrap (a+eZ n.op (j:Int))=a+eZ n.op (j:Int):=IntWalk.i64_in _ aA;clear a0 b9 f1 f3 r6 h7 h5 q0 f9 g3 s5 b4 a9 q8 q9 c3;have k0:=eb 0;have m2:=eb 1;have k2:=eb 2;go_wp2_with fail;refine gF 6 (fun w'=>w'.cell? ⟨C.H+6,0,Y⟩=Z (.func (.func 146) #[] #[I (Z ⟨C.H,0,Y⟩),I (Z ⟨C.H+5,0,Y⟩),I (Z ⟨C.H+2,0,Y⟩),I (Z ⟨C.H+1,0,Y⟩),I (Z ⟨C.H+6,0,Y⟩)])/\w'.cell? ⟨w.heap.size,0,Y⟩=Z (O X n.op)/\w'.cell? ⟨w.heap.size,1,Y⟩=Z (O X n.a)/\w'.cell? ⟨w.heap.size,2,Y⟩=Z (O X n.b)) aF ⟨e6,k0,m2,k2⟩ (fun p3=>?_);refine bA (i:=0) (v:=?_) rfl aC aC aC aC aC (fun _ _ _ h=>h) (Or.inl ⟨by rfl,?_⟩) aI ?_;rotate_left
  . (intro w hSw;(try dsimp only at hSw);go_simp);all_goals with_reducible rfl
  try simp only[Act.put,List.getElem_toArray,List.getElem_cons_zero,List.getElem_cons_succ,List.setIfInBounds_toArray,List.set_cons_zero,List.set_cons_succ]
  refine bA (i:=1) (v:=?_) rfl aC aC aC aC aC (fun _ _ _ h=>h) (Or.inl ⟨by rfl,?_⟩) aI ?_;rotate_left
  . (intro w hSw;(try dsimp only at hSw);go_simp);all_goals with_reducible rfl
  try simp only[Act.put,List.getElem_toArray,List.getElem_cons_zero,List.getElem_cons_succ,List.setIfInBounds_toArray,List.set_cons_zero,List.set_cons_succ]
  refine bA (i:=2) (v:=?_) rfl aC aC aC aC aC (fun _ _ _ h=>h) (Or.inl ⟨by rfl,?_⟩) aI ?_;rotate_left
  . (intro w hSw;(try dsimp only at hSw);go_simp);all_goals with_reducible rfl
  try simp only[Act.put,List.getElem_toArray,List.getElem_cons_zero,List.getElem_cons_succ,List.setIfInBounds_toArray,List.set_cons_zero,List.set_cons_succ]
  refine bA (i:=3) (v:=?_) rfl aC aC aC aC aC (fun _ _ _ h=>h) (Or.inl ⟨by rfl,?_⟩) aI ?_;rotate_left
  . (intro w hSw;(try dsimp only at hSw);go_simp);all_goals with_reducible rfl
  try simp only[Act.put,List.getElem_toArray,List.getElem_cons_zero,List.getElem_cons_succ,List.setIfInBounds_toArray,List.set_cons_zero,List.set_cons_succ]
  refine bV (i:=4) aC rfl rfl (fun K4 x4=>?_);go_simp;go_at_call 143
  refine (tP _ _ _ _ _).mono ?_;rintro e w7 ⟨rfl,rfl⟩;go_wp2_with fail;have p4:(wr.alloc (Q #[O X n.op,O X n.a,O X n.b] 46)).drew.cell? ⟨C.H+6,0,Y⟩=Z (.func (.func 146) #[] #[I (Z ⟨C.H,0,Y⟩),I (Z ⟨C.H+5,0,Y⟩),I (Z ⟨C.H+2,0,Y⟩),I (Z ⟨C.H+1,0,Y⟩),I (Z ⟨C.H+6,0,Y⟩)])/\(wr.alloc (Q #[O X n.op,O X n.a,O X n.b] 46)).drew.cell? ⟨w.heap.size,0,Y⟩=Z (O X n.op)/\(wr.alloc (Q #[O X n.op,O X n.a,O X n.b] 46)).drew.cell? ⟨w.heap.size,1,Y⟩=Z (O X n.a)/\(wr.alloc (Q #[O X n.op,O X n.a,O X n.b] 46)).drew.cell? ⟨w.heap.size,2,Y⟩=Z (O X n.b):=⟨(aT.alloc z.o.br _).cell 0,(aT.alloc c6.o _).cell 0,(aT.alloc c6.o _).cell 1,(aT.alloc c6.o _).cell 2⟩;refine x4.o _ _ (fun _=>p4) ?_;try simp only[Act.put,List.getElem_toArray,List.getElem_cons_zero,List.getElem_cons_succ,List.setIfInBounds_toArray,List.set_cons_zero,List.set_cons_succ]
  refine bA (i:=5) (v:=?_) rfl aC aC aC aC aC (fun _ _ _ h=>h) (Or.inl ⟨by rfl,?_⟩) aI ?_;rotate_left
  . (intro w hSw;(try dsimp only at hSw);go_simp);all_goals with_reducible rfl
  try simp only[Act.put,List.getElem_toArray,List.getElem_cons_zero,List.getElem_cons_succ,List.setIfInBounds_toArray,List.set_cons_zero,List.set_cons_succ]
  refine bV (i:=6) aC rfl rfl (fun K6 l3=>?_);go_simp;have a7:=(z.o.below HG.o (aQ _ (Q #[O X n.op,O X n.a,O X n.b] 46))).drew HG.o;refine (HI.o _ _ F s1 o1 _ n1 a1 k1 (C.l.drop q2) a7 k9.o t5.o t6.o k5.o v5.o v0.o).mono ?_;rintro e w8 (⟨c8,rfl,b2,v8,b5,b3⟩|⟨c8,rfl,b2⟩);rotate_left
  . refine⟨rfl,.inr ⟨?_,rfl,(e4.o.alloc _).drew.trans b2 b6.o⟩⟩;rw[cZ.G1,b8.o,cZ.G_app,cZ.G_cons,a8.o,YH,g8.o,<-a3.o,c8];simp
  refine l3.o _ _ (fun h=>absurd rfl h) ?_;refine gW aC ?_ _;have d9:aT w8 w.heap.size 46 #[O X n.op,O X n.a,O X n.b]:=aT.moved (show aT (wr.alloc (Q #[O X n.op,O X n.a,O X n.b] 46)).drew _ _ _ from aT.alloc c6.o _) b2 (pL.S'_new HG.o aA) d1.o;have c4:=(e4.o.alloc _).drew.trans b2 b6.o;have A1:w.heap.size+1<=(wr.alloc (Q #[O X n.op,O X n.a,O X n.b] 46)).drew.heap.size:=by simp;omega
  have b7:=b6.o.trans b3 aA;have c5:v8.ownBlock≠Z w.heap.size:=fun e=>by
   rcases b3 _ e with h|h
   . exact d1.o h
   omega
  obtain⟨g9,e7,c2,d2⟩:=aAE d9 c4 b7 c5;rw[YS,show C.l.length-(C.l.length-q2)=q2 by omega]at b5;clear d9 c4 b7 c5 b2 b3 a7 p4;go_wp2_with fail;go_roundw
  case rel =>
   refine⟨F1.app (.cons [] n1 a1 k1 .nil),F3,j+1,q2,v8,_,_,aB (by rw[b8.o,cV];rfl),l0,aB (by rw[bN,a8.o,XN k3.o];rfl),by omega,by go_num,by have:=e3.o;omega,aB b5,aB ?_,aB ?_,g9,e7,c2,d2,aB ?_⟩
   . rw[cZ.S_app,cZ.S_cons,a8.o,YH,g8.o,<-a3.o];rfl
   . rw[cZ.E_app,cZ.E_cons,a8.o,YH,g8.o,<-a3.o,e9.o];simp only[cZ.E,YP,YO,ZU]
   rw[cZ.G_app,cZ.G_cons,a8.o,YH,g8.o,<-a3.o,k6.o,c8];rfl
  case measure=>simp[intOf];omega
section
theorem tJ{σ:Type}(C:pL σ)(F:C.Good):∀(m:Nat)(w:aAB)(v:Value)(q:Nat)(s:σ)(o:List Nd)(a:Int)(n:Nd)(D:List Nd)(k:Fo)(rest:List Nd),C.St w v q s o->pp [false] (C.l.drop q)=Z (.cons [] n D k .nil,rest)->0<=a->a+4*aY k<=1000000000000->C.V.D1 a s n k->o.length+(C.V.E1 a s n D k).length<=C.M->aY k<m →
      Calls Tryz.prog 146 #[O X a,I (Z ⟨C.H,0,Y⟩),I (Z ⟨C.H+5,0,Y⟩),I (Z ⟨C.H+2,0,Y⟩),I (Z ⟨C.H+1,0,Y⟩),I (Z ⟨C.H+6,0,Y⟩)] w (C.Post w v o (C.l.length-rest.length) (C.V.E1 a s n D k) (C.V.S1 a s n k) (C.V.G1 a s n k))
 | 0,_,_,_,_,_,_,_,_,_,_,_,_,_,_,_,_,h=>absurd h aA
 | m+1,w,v,q,s,o,a,n,D,k,rest,hst,hpp,ha0,ha1,hD,hM,hsz=>by
  by_cases G:n.op=2
  . exact J2 C F m (tJ C F m) w v q s o a n D k rest hst hpp ha0 ha1 hD hM aA G
  . exact J1 C F m (tJ C F m) w v q s o a n D k rest hst hpp ha0 ha1 hD hM aA G
theorem D6(er:Int)(w:aAB):(Instr.typeAssert (.iface 186 (.agg #[O X er])) 20 186 true).run Tryz.prog w=.ok (.tuple #[.agg #[O X er],.bool true]) w:=by kernel_rfl
theorem GP(w:aAB):(Instr.typeAssert .nilIface 20 186 true).run Tryz.prog w=.ok (.tuple #[.agg #[O X 0],.bool false]) w:=by kernel_rfl
def zA(D F:Nat)(er:Int)(w w':aAB):Prop:=aZ (fun k=>k=D\/k=F) Y w w'/\aT w' D 29 #[U Y 0 0]/\aT w' F 34 #[O X er]
theorem GY{D F:Nat}{x y:Value}{er:Int}{w:aAB}(G:D≠F)(h:aT w D 29 #[x])(z:aT w F 34 #[y])(o:Obj):
 zA D F er w (((w.setCell ⟨D,0,Y⟩ (U Y 0 0)).setCell ⟨F,0,Y⟩ (O X er)).alloc o).drew:=by
 refine⟨((((aZ.refl _ _ w).setCell (p:=⟨D,0,Y⟩) (.inl rfl) _).setCell (p:=⟨F,0,Y⟩) (.inr rfl) _).alloc _).drew,?_,?_⟩
 . have:=((h.set_ 0 (U Y 0 0)).far (p:=⟨F,0,Y⟩) G (O X er)).alloc o;exact (by simpa using this:aT (((w.setCell ⟨D,0,Y⟩ (U Y 0 0)).setCell ⟨F,0,Y⟩ (O X er)).alloc o) D 29 #[U Y 0 0])
 have:=((z.far (p:=⟨D,0,Y⟩) (Ne.symm G) (U Y 0 0)).set_ 0 (O X er)).alloc o;exact (by simpa using this:aT (((w.setCell ⟨D,0,Y⟩ (U Y 0 0)).setCell ⟨F,0,Y⟩ (O X er)).alloc o) F 34 #[O X er])
theorem GW(F G:Nat)(hp:F≠G)(x y:Value)(er:Int)(D:List PanicEntry)(w:aAB)(h:aT w F 29 #[x])(z:aT w G 34 #[y]):
 CallsD Tryz.prog 145 #[I (Z ⟨F,0,Y⟩),I (Z ⟨G,0,Y⟩)] (.panicking ({ v:=.iface 186 (.agg #[O X er]),recovered:=false }::D)) w fun e u' w' =>
  e=.returned (.tuple #[])/\u'=.panicking ({ v:=.iface 186 (.agg #[O X er]),recovered:=true }::D)/\zA F G er w w':=by
 have c1:=h.cell;have c2:=z.cell;have f1:=h.frozen;have f2:=z.frozen;refine callsD_of_wpS Tryz.func145 rfl fun c₀ cs hu=>?_;apply wpS_seq;apply wpS_region;simp[wpOpsS,go_sem,recoverD,hu,Tryz.ntmps145,Exit.thenS,D6];apply wpS_seq;apply wpS_region;simp[wpOpsS,go_sem,Exit.thenS];refine wpS_cond (t:=true) (by simp[Act.eval,Array.replicate]) ?_;simp only[if_true];refine wpS_of_wp ?_;simp only[Array.replicate];have a0:=h.lt;have a1:=z.lt;have a4:G≠F:=Ne.symm hp;have a2:w.heap.size≠F:=aA;have a3:w.heap.size≠G:=aA;go_region
 all_goals
  simp[bodyPostS,results,Tryz.results145,go_sem];exact GY hp h z _
theorem GX(G h:Nat)(w:aAB):
 CallsD Tryz.prog 145 #[I (Z ⟨G,0,Y⟩),I (Z ⟨h,0,Y⟩)] .returning w fun e z w' =>
  e=.returned (.tuple #[])/\z=.returning/\w'=w.alloc (Q #[O X 0] 186):=by
 refine callsD_of_wpS Tryz.func145 rfl fun D cs F=>?_;apply wpS_seq;apply wpS_region;simp[wpOpsS,go_sem,recoverD,F,Tryz.ntmps145,Exit.thenS,GP];apply wpS_seq;apply wpS_region;simp[wpOpsS,go_sem,Exit.thenS];refine wpS_cond (t:=false) (by simp[Act.eval,Array.replicate]) ?_;simp only[Bool.false_eq_true,if_false];refine wpS_of_wp (wp_skip ?_);cases D
 simp_all [bodyPostS,results,Tryz.results145]
structure nK {σ:Type} (V:cZ σ) (fn:FuncId) (caps:Array Value) (J:World->σ->Prop) (KK S:Nat->Prop) (base:Nat) (er:Int) (M:Nat) (R:Nat->Prop) (w:aAB) (A:ZZ) (nn c:Nat) (l:List Nd) (v:Value) (s:σ) (o:List Nd):Prop where
 hbase:base<=w.heap.size
 hR:∀b,R b->b<w.heap.size/\¬ S b
 hK:∀b,KK b->b<w.heap.size
 hS:∀b,S b->KK b
 hJ:∀w w' s,J w s->(∀k,KK k->w'.heap[k]? = w.heap[k]?)->J w' s
 hM:M<=1000000000000
 en:∀args w,(callFunc fn args).run Tryz.prog w=.ok (.enter fn args) w
 one:DT Tryz.prog fn caps V J KK S base w.heap.size [{ v:=.iface 186 (.agg #[O X er]),recovered:=false }] M
 tm:bF R w A nn c l
 own:bK w base v o
 j:J w s
 hv:∀g,v.ownBlock=Z g->¬ KK g/\¬ R g
def vN{σ:Type}(V:cZ σ)(J:World->σ->Prop)(S:Nat->Prop)(base:Nat)(er:Int)(w:aAB)(v:Value)(s:σ)(o:List Nd)(n:Nd)(D:List Nd)(k:Fo)(e:Ending)(w':aAB):Prop :=
 aZ S v.ownBlock w w'/\((V.G1 0 s n k=true/\J w' (V.S1 0 s n k)/\∃F,e=.returned (.tuple #[F,O X 0])/\bK w' base F (o++V.E1 0 s n D k)/\fX v F w) ∨
  (V.G1 0 s n k=false/\e=.returned (.tuple #[U Y 0 0,O X er])))
section
variable {σ : Type}{V : cZ σ}{fn : FuncId}{caps : Array Value}{J : World->σ->Prop}{KK S : Nat->Prop}{base : Nat}{er : Int}{M : Nat}{R : Nat->Prop}{w : aAB}{A : ZZ}{nn c : Nat}{l : List Nd}{v : Value}{s : σ}{o : List Nd}
def jB(V:cZ σ)(fn:FuncId)(caps:Array Value)(J:World->σ->Prop)(KK S:Nat->Prop)(base:Nat)(er:Int)(M:Nat)(R:Nat->Prop)(H:Nat)(A:ZZ)(nn c:Nat)(l:List Nd):pL σ :=
 { H:=H,base:=base,A:=A,nn:=nn,c:=c,l:=l,R:=R,KK:=KK,S:=S,fn:=fn,caps:=caps,J:=J,V:=V,pan:=[{ v:=.iface 186 (.agg #[O X er]),recovered:=false }],M:=M }
theorem nK.good(h:nK V fn caps J KK S base er M R w A nn c l v s o):(jB V fn caps J KK S base er M R w.heap.size A nn c l).Good :=
 ⟨h.hbase,h.hR,h.hK,h.hS,h.hJ,h.hM,h.en,h.one⟩
def mJ(w:aAB)(A:ZZ)(nn c:Nat)(v:Value)(fn:FuncId)(caps:Array Value):World :=
 (((((((w.alloc (Q #[U A nn c] 29)).alloc (Q #[v] 29)).alloc (Q #[.func (.func fn) #[] caps] 180)).alloc (Q #[U Y 0 0] 29)).alloc (Q #[O X 0] 34)).alloc (Q #[O X 0] 3)).alloc
  (Q #[.func (.func 146) #[] #[I (Z ⟨w.heap.size,0,Y⟩),I (Z ⟨w.heap.size+5,0,Y⟩),I (Z ⟨w.heap.size+2,0,Y⟩),I (Z ⟨w.heap.size+1,0,Y⟩),I (Z ⟨w.heap.size+6,0,Y⟩)]] 184))
theorem iM(w:aAB)(A:ZZ)(nn c:Nat)(v:Value)(fn:FuncId)(caps:Array Value):ZY w (mJ w A nn c v fn caps) :=
 (((((((XS _ _).alloc aD _).alloc aD _).alloc aG _).alloc aG _).alloc aG _).alloc aG _).alloc aG _
theorem nK.start(h:nK V fn caps J KK S base er M R w A nn c l v s o):(jB V fn caps J KK S base er M R w.heap.size A nn c l).St (mJ w A nn c v fn caps) v 0 s o/\aT (mJ w A nn c v fn caps) (w.heap.size+3) 29 #[U Y 0 0]/\aT (mJ w A nn c v fn caps) (w.heap.size+4) 34 #[O X 0]:=by
 have D:=iM w A nn c v fn caps;refine⟨⟨?_,?_,?_,?_,?_,?_,?_,?_,?_⟩,?_,?_⟩
 . exact (((((((aT.new' rfl).alloc _).alloc _).alloc _).alloc _).alloc _).alloc _)
 . exact ((((((aT.new' (by simp[jB])).alloc _).alloc _).alloc _).alloc _).alloc _)
 . exact (((((aT.new' (by simp[jB])).alloc _).alloc _).alloc _).alloc _)
 . exact ((aT.new' (by simp[jB])).alloc _)
 . exact (aT.new' (by simp[jB]<;>rfl))
 . exact h.tm.keep fun b hR=>⟨hR,fun o=>aP (D.block b (h.hR b hR).1) o⟩
 . exact h.own.below D
 . exact h.hJ _ _ _ h.j fun k G=>D.block k (h.hK k G)
 . intro g F;exact⟨(h.hv g F).1,(h.hv g F).2,.inl (aS h.own F).2.1⟩
 . exact ((((aT.new' aD).alloc _).alloc _).alloc _)
 exact (((aT.new' aD).alloc _).alloc _)
end
theorem yG{σ:Type}{V:cZ σ}{fn:FuncId}{caps:Array Value}{J:World->σ->Prop}{KK S:Nat->Prop}{base:Nat}{er:Int}{M:Nat}{R:Nat->Prop}{w:aAB}{A:ZZ}{nn c:Nat}{l:List Nd}{v:Value}{s:σ}{o:List Nd}
 (a5:nK V fn caps J KK S base er M R w A nn c l v s o) {n:Nd} {D:List Nd} {k:Fo} (b2:pp [false] l=Z (.cons [] n D k .nil,[])) (b6:4*aY k<=1000000000000) (hD:V.D1 0 s n k) (a3:o.length+(V.E1 0 s n D k).length<=M) :
 Calls Tryz.prog 136 #[U A nn c,v,.func (.func fn) #[] caps] w (vN V J S base er w v s o n D k):=by
 obtain⟨Av,cv,rfl⟩:=a5.own.slice;obtain⟨F,b9,c0,HD,a9⟩:=aAD a5 b2 b6 hD a3;clear a5 b2 b6 hD a3;go_enter_defers Tryz.func136,Tryz.ntmps136
 go_wp2_with fail;obtain⟨b5,a6,a7⟩:=F.o.start;refine (tJ _ F.o.good (aY k+1) (mJ w A nn c (U Av o.length cv) fn caps) _ 0 s o 0 n D k [] b5 b9.o aA (by have:=c0.o;omega) HD.o a9.o aA).mono ?_;rintro e w8 (⟨hg,rfl,hm,v8,G,a1⟩|⟨hg,rfl,hm⟩);rotate_left
 . have hS:∀j,j=3\/j=4->¬ (jB V fn caps J KK S base er M R w.heap.size A nn c l).S' (w.heap.size+j):=fun j hj hs=>by
    rcases hs with h|h|h
    . have:=F.o.hK _ (F.o.hS _ h);omega
    . simp only[jB]at h;omega
    simp only[jB]at h;omega
   have hO:∀j,(Value.slice Av o.length cv).ownBlock≠Z (w.heap.size+j):=fun j e=>by have:=(aS F.o.own e).2.1;omega
   have b3:aT w8 (w.heap.size+1+1+1) 29 #[U Y 0 0]:=a6.moved hm (hS 3 (.inl rfl)) (hO 3);have b4:aT w8 (w.heap.size+1+1+1+1) 34 #[O X 0]:=a7.moved hm (hS 4 (.inr rfl)) (hO 4);refine leaves_cons (f:=145) (args:=#[I (Z ⟨w.heap.size+1+1+1,0,Y⟩),I (Z ⟨w.heap.size+1+1+1+1,0,Y⟩)]) aD (by simp[go_sem]) ?_;refine (GW (w.heap.size+1+1+1) (w.heap.size+1+1+1+1) aA _ _ er [] w8 b3 b4).mono ?_;rintro e u' wf ⟨rfl,rfl,a0,c1,c2⟩;have q3:wf.cell? ⟨w.heap.size+1+1+1,0,Y⟩=Z (U Y 0 0):=c1.cell 0;have q4:wf.cell? ⟨w.heap.size+1+1+1+1,0,Y⟩=Z (O X er):=c2.cell 0;have HP:Hid (vN V J S base er w (U Av o.length cv) s o n D k (.returned (.tuple #[U Y 0 0,O X er])) wf):=by
    refine⟨?_,.inr ⟨hg,rfl⟩⟩;have h1:=aZ.over (S:=S) (iM w A nn c (U Av o.length cv) fn caps) hm (fun k hk hs=>by
     rcases hs with h|h|h
     . exact h
     . simp only[jB]at h;omega
     simp only[jB]at h;omega)
    refine⟨a0.os.trans h1.os,a0.tape.trans h1.tape,a0.output.trans h1.output,YE h1.size a0.size,fun g b1 c5 c6=>?_⟩;exact (a0.block g (XT b1 h1.size) aA aD).trans (h1.block g b1 c5 c6)
   simp[Leaves,settle,results,Tryz.results136,go_sem,q3,q4];exact HP.o
 obtain⟨z,c8,rfl⟩:=G.own.slice;have hS:∀j,j=3\/j=4->¬ (jB V fn caps J KK S base er M R w.heap.size A nn c l).S' (w.heap.size+j):=fun j hj hs=>by
  rcases hs with h|h|h
  . have:=F.o.hK _ (F.o.hS _ h);omega
  . simp only[jB]at h;omega
  simp only[jB]at h;omega
 have hO:∀j,(Value.slice Av o.length cv).ownBlock≠Z (w.heap.size+j):=fun j e=>by have:=(aS F.o.own e).2.1;omega
 have b3:aT w8 (w.heap.size+1+1+1) 29 #[U Y 0 0]:=a6.moved hm (hS 3 (.inl rfl)) (hO 3);have b4:aT w8 (w.heap.size+1+1+1+1) 34 #[O X 0]:=a7.moved hm (hS 4 (.inr rfl)) (hO 4);have e1:w8.cell? ⟨w.heap.size+1,0,Y⟩=Z (U z (o++(jB V fn caps J KK S base er M R w.heap.size A nn c l).V.E1 0 s n D k).length c8):=G.bo.cell 0;have c3:=b3.cell;have c4:=b4.cell;have f3:=b3.frozen;have f4:=b4.frozen;have B3:=aB b3;have B4:=aB b4;have HM:=aB hm;have a2:=aB G;have b8:=aB a1;have b7:=aB hg;clear b3 b4 hm G a1 hg b5 a6 a7 hS hO;go_wp2_with fail;refine leaves_cons (f:=145) (args:=#[I (Z ⟨w.heap.size+1+1+1,0,Y⟩),I (Z ⟨w.heap.size+1+1+1+1,0,Y⟩)]) aD (by simp[go_sem]) ?_;refine (GX _ _ _).mono ?_;rintro e u' c7 ⟨rfl,rfl,rfl⟩;have r3:=((B3.o.set_ 0 (.slice z (o.length+((jB V fn caps J KK S base er M R w.heap.size A nn c l).V.E1 0 s n D k).length) c8)).far (p:=⟨w.heap.size+1+1+1+1,0,Y⟩) aD (O X 0)).alloc (Q #[O X 0] 186);have r4:=((B4.o.far (p:=⟨w.heap.size+1+1+1,0,Y⟩) aD (.slice z (o.length+((jB V fn caps J KK S base er M R w.heap.size A nn c l).V.E1 0 s n D k).length) c8)).set_ 0 (O X 0)).alloc (Q #[O X 0] 186);have a8:∀g,(Value.slice z (o.length+(V.E1 0 s n D k).length) c8).ownBlock=Z g->g<w.heap.size\/w.heap.size+7<=g:=fun g hg=>(a2.o.hv g (by rw[XX];exact hg)).2.2;have a4:bK (((w8.setCell ⟨w.heap.size+1+1+1,0,Y⟩ (.slice z (o.length+((jB V fn caps J KK S base er M R w.heap.size A nn c l).V.E1 0 s n D k).length) c8)).setCell ⟨w.heap.size+1+1+1+1,0,Y⟩ (O X 0)).alloc (Q #[O X 0] 186)) base (.slice z (o.length+((jB V fn caps J KK S base er M R w.heap.size A nn c l).V.E1 0 s n D k).length) c8) (o++V.E1 0 s n D k):=by
  have h1:=a2.o.own;rw[XX]at h1;refine bK.alloc ?_ _;refine ownsRow_setCell_other (ownsRow_setCell_other h1 ?_ _) ?_ _
  . intro e;have:=a8 _ e;simp at this;omega
  intro e;have:=a8 _ e;simp at this;omega
 have b0:=((((aZ.over (S:=S) (iM w A nn c (U Av o.length cv) fn caps) HM.o (fun k hk hs=>by
  rcases hs with h|h|h
  . exact h
  . simp only[jB]at h;omega
  simp only[jB]at h;omega)).setNew (p:=⟨w.heap.size+1+1+1,0,Y⟩) aG (.slice z (o.length+((jB V fn caps J KK S base er M R w.heap.size A nn c l).V.E1 0 s n D k).length) c8)).setNew (p:=⟨w.heap.size+1+1+1+1,0,Y⟩) aG (O X 0)).alloc (Q #[O X 0] 186))
 have hj:J (((w8.setCell ⟨w.heap.size+1+1+1,0,Y⟩ (.slice z (o.length+((jB V fn caps J KK S base er M R w.heap.size A nn c l).V.E1 0 s n D k).length) c8)).setCell ⟨w.heap.size+1+1+1+1,0,Y⟩ (O X 0)).alloc (Q #[O X 0] 186)) (V.S1 0 s n k):=F.o.hJ _ _ _ a2.o.j (fun g hg=>by
  have h1:=F.o.hK g hg;have h2:=a2.o.size;simp only[jB]at h2;rw[Below.heap_alloc _ _ _ (by simp[World.setCell];omega),XZ _ _ _ _ aG,XZ _ _ _ _ aG])
 have a1:fX (U Av o.length cv) (.slice z (o.length+((jB V fn caps J KK S base er M R w.heap.size A nn c l).V.E1 0 s n D k).length) c8) w:=fun g hg=>(b8.o g (by rw[XX];exact hg)).imp id (fun h=>YE (iM w A nn c (U Av o.length cv) fn caps).size h);have HP:Hid (vN V J S base er w (U Av o.length cv) s o n D k (.returned (.tuple #[.slice z (o.length+((jB V fn caps J KK S base er M R w.heap.size A nn c l).V.E1 0 s n D k).length) c8,O X 0])) (((w8.setCell ⟨w.heap.size+1+1+1,0,Y⟩ (.slice z (o.length+((jB V fn caps J KK S base er M R w.heap.size A nn c l).V.E1 0 s n D k).length) c8)).setCell ⟨w.heap.size+1+1+1+1,0,Y⟩ (O X 0)).alloc (Q #[O X 0] 186))) :=
  ⟨b0,.inl ⟨b7.o,hj,_,rfl,a4,a1⟩⟩
 clear b0 a4 hj a1 a8 c3 c4 f3 f4 e1;generalize (((w8.setCell ⟨w.heap.size+1+1+1,0,Y⟩ (.slice z (o.length+((jB V fn caps J KK S base er M R w.heap.size A nn c l).V.E1 0 s n D k).length) c8)).setCell ⟨w.heap.size+1+1+1+1,0,Y⟩ (O X 0)).alloc (Q #[O X 0] 186))=wf at r3 r4 HP ⊢;have q3:wf.cell? ⟨w.heap.size+1+1+1,0,Y⟩=Z (.slice z (o.length+((jB V fn caps J KK S base er M R w.heap.size A nn c l).V.E1 0 s n D k).length) c8):=r3.cell 0;have q4:wf.cell? ⟨w.heap.size+1+1+1+1,0,Y⟩=Z (O X 0):=r4.cell 0;simp[Leaves,settle,results,Tryz.results136,go_sem,q3,q4];exact HP.o
end
def jT(up fr:Int):cZ Unit where
 em:=fun _ n a=>if n.op=1/\fr+a<=n.a then [⟨n.op,n.a+up,n.b⟩] else [n]
 nx:=fun _ _ _=>()
 ok:=fun _ n a=>if n.op=1/\fr+a<=n.a then decide (up<=1048576-n.a) else true
 dm:=fun _ _ _=>True
def W8(pf D:Nat)(up fr:Int)(w:aAB)(_:Unit):Prop:=aT w pf 3 #[O X fr]/\aT w D 3 #[O X up]
def XA(pf D:Nat)(k:Nat):Prop:=k=pf\/k=D
theorem TF{up fr:Int}{n:Nd}{a:Int}(h:¬ (n.op=1/\fr+a<=n.a)):(jT up fr).em () n a=[n]/\(jT up fr).ok () n a=true:=⟨XN h,XN h⟩
theorem V9{up fr:Int}{n:Nd}{a:Int}(h:n.op=1/\fr+a<=n.a):(jT up fr).em () n a=[⟨n.op,n.a+up,n.b⟩]/\(jT up fr).ok () n a=decide (up<=1048576-n.a):=⟨XP h,XP h⟩
theorem wU{pf pb:Nat}{up fr:Int}{base:Nat}{pan:List PanicEntry}{w W w':aAB}{s:Unit}{v:Value}{z:ZZ}{m c':Nat}{o:List Nd}{n x:Nd}{a:Int}{xs:List Value}(hf:aT w pf 3 #[O X fr])(hp:aT w pb 3 #[O X up])(hk:∀k,v.ownBlock=Z k->¬ XA pf pb k)
 (G:ZY w W) (F:bK w' base (U z m c') (o++[x])) (D:fO W w' base 46 3 v z m c' xs) (he:(jT up fr).em () n a=[x]) (a0:(jT up fr).ok () n a=true) :
 qN (jT up fr) (W8 pf pb up fr) (fun _=>False) base pan w s v o n a (.returned (U z m c')) w':=by
 refine .inl ⟨a0,(aZ.of_below G).trans (aZ.of_grown D.grown) (fun g hg=>.inl hg),⟨?_,?_⟩,_,rfl,?_,fun g hg=>(D.new g hg).imp id (fun h=>YE G.size h)⟩
 . exact (hf.below G hf.lt).grown D.grown (fun e=>hk _ e.symm (.inl rfl))
 . exact (hp.below G hp.lt).grown D.grown (fun e=>hk _ e.symm (.inr rfl))
 show bK w' base _ (o++(jT up fr).em () n a);rw[he];exact F
theorem JA{pf pb:Nat}{up fr:Int}{base H M:Nat}(d3:pf<H)(d2:pb<H)(hb:base<=H)(hM:M<=1000000000000)(c4:0<=up)(c5:up<=9223372036854775807)(c0:0<=fr)(c1:fr<=1000000000000):
 DT Tryz.prog 147 #[I (Z ⟨pf,0,Y⟩),I (Z ⟨pb,0,Y⟩)] (jT up fr) (W8 pf pb up fr) (XA pf pb) (fun _=>False) base H [{ v:=.iface 186 (.agg #[O X 6]),recovered:=false }] M:=by
 intro w s v o n a hH hj z b4 b2 _ c7 c8 a1;obtain⟨Av,cv,rfl⟩:=z.slice;obtain⟨b1,b0⟩:=hj;have b5:cD n.op n.a n.b=true:=by simp only[eW,YC]at b2;exact b2.1.1
 obtain⟨c2,c3⟩:=fZ b5;have cf:=b1.cell;have cb:=b0.cell;have d1:pf<w.heap.size:=aA;have d0:pb<w.heap.size:=aA;have c9:base<=w.heap.size:=aA;obtain⟨i0,hi,b6,b7,b8⟩:=info_parts infoN;obtain⟨a2,a6,a7,a9,G,a4,a3,a5⟩:=aAG hi b6 b7 b8 z b1 b0 b4;have a0:=aB a1;clear hi b6 b7 b8 z b1 b0 b4 b2 b5 a1;show Calls Tryz.prog 147 #[U Av o.length cv,.agg #[O X n.op,O X n.a,O X n.b],O X a,I (Z ⟨pf,0,Y⟩),I (Z ⟨pb,0,Y⟩)] w _;by_cases h1:n.op=1/\fr+a<=n.a
 . have⟨h2,h3⟩:=h1;have b3:(n.op==1)=true:=by simp[h2]
   have d4:IntKind.i64.wrap (fr+a)=fr+a:=IntWalk.i64_in _ aA;obtain⟨he,hk⟩:=V9 (up:=up) h1;obtain⟨HE,HK⟩:=aAC he hk;clear he hk h1 h2;by_cases h4:up<=1048576-n.a
   . have hl:o.length+1<=1000000000000:=by have:=a0.o;rw[HE.o]at this;simp at this;omega
     have b9:decide (1048576-n.a<up)=false:=by simp;omega
     go_in;go_wp2_with (at_builtin;refine a8 rfl (cM (.tmp 32) (.tmp 34) 29 rfl base i0 Tryz.underlying29 a2.o a6.o a7.o a9.o (U Av o.length cv) o ⟨n.op,n.a+up,n.b⟩ (w.alloc (Q #[O X n.op,O X (n.a+up),O X n.b] 46)) aF aF (G.o.alloc _) _ aF aD aA aG ?_);intro A' c' w' D F)
     go_ret;exact wU a4.o a3.o a5.o (aQ _ _) D F HE.o (by rw[HK.o];simpa using h4)
   have b9:1048576-n.a<up:=aA;go_in;go_wp2_with fail;exact⟨rfl,.inr ⟨by rw[HK.o];simp;omega,rfl,aZ.of_below (aQ _ _)⟩⟩
 obtain⟨he,hk⟩:=TF (up:=up) h1;obtain⟨HE,HK⟩:=aAC he hk;have hl:o.length+1<=1000000000000:=by have:=a0.o;rw[he]at this;simp at this;omega
 clear he hk;by_cases h2:n.op=1
 . have b3:(n.op==1)=true:=by simp[h2]
   have c6:decide (fr+a<=n.a)=false:=by simp;have:=fun h=>h1 ⟨h2,h⟩;omega
   clear h1 h2;go_in;go_wp2_with (at_builtin;refine a8 rfl (cM (.tmp 32) (.tmp 34) 29 rfl base i0 Tryz.underlying29 a2.o a6.o a7.o a9.o (U Av o.length cv) o n (w.alloc (Q #[O X n.op,O X n.a,O X n.b] 46)) aF aF (G.o.alloc _) _ aF aD aA aG ?_);intro A' c' w' D F)
   go_ret;exact wU a4.o a3.o a5.o (aQ _ _) D F HE.o HK.o
 have b3:(n.op==1)=false:=by simp[h2]
 clear h1 h2;go_in;go_wp2_with (at_builtin;refine a8 rfl (cM (.tmp 32) (.tmp 34) 29 rfl base i0 Tryz.underlying29 a2.o a6.o a7.o a9.o (U Av o.length cv) o n (w.alloc (Q #[O X n.op,O X n.a,O X n.b] 46)) aF aF (G.o.alloc _) _ aF aD aA aG ?_);intro A' c' w' D F)
 go_ret;exact wU a4.o a3.o a5.o (aQ _ _) D F HE.o HK.o
def GL(up fr:Int)(base:Nat)(w:aAB)(v:Value)(o:List Nd)(n:Nd)(D:List Nd)(k:Fo)(e:Ending)(w':aAB):Prop :=
 aZ (fun _=>False) v.ownBlock w w'/\(((jT up fr).G1 0 () n k=true/\∃F,e=.returned (.tuple #[F,O X 0])/\bK w' base F (o++(jT up fr).E1 0 () n D k)/\fX v F w)\/((jT up fr).G1 0 () n k=false/\e=.returned (.tuple #[U Y 0 0,O X 6])))
theorem QG(up fr:Int)(G h:Int):∀(j:Nat)(a:Int)(F:Fo),(jT up fr).D G h j a () F
 | _,_,.nil=>trivial
 | j,a,.cons p n at' k x=>by
  rw[cZ.D_cons];exact⟨⟨trivial,QG up fr _ _ _ _ k⟩,QG up fr G h (j+1) a x⟩
theorem kW{up fr:Int}{base:Nat}{R:Nat->Prop}{w:aAB}{A:ZZ}{nn c:Nat}{l:List Nd}{v:Value}{o:List Nd}(hb:base<=w.heap.size)(hR:∀b,R b->b<w.heap.size)(a9:bF R w A nn c l)(D:bK w base v o)(hv:∀g,v.ownBlock=Z g->¬ R g)
 {n:Nd} {a2:List Nd} {k:Fo} (a7:pp [false] l=Z (.cons [] n a2 k .nil,[])) (a8:4*aY k<=1000000000000) (a0:o.length+((jT up fr).E1 0 () n a2 k).length<=1000000000000) (b0:0<=up) (b1:up<=9223372036854775807) (a4:0<=fr) (a5:fr<=1000000000000) :
 Calls Tryz.prog 138 #[v,U A nn c,O X up,O X fr] w (GL up fr base w v o n a2 k):=by
 obtain⟨Av,cv,rfl⟩:=D.slice;have G:=bS w (Q #[O X up] 3) (Q #[O X fr] 3);have a6:nK (jT up fr) 147 #[I (Z ⟨w.heap.size+1,0,Y⟩),I (Z ⟨w.heap.size,0,Y⟩)] (W8 (w.heap.size+1) w.heap.size up fr) (XA (w.heap.size+1) w.heap.size) (fun _=>False) base 6 1000000000000 R ((w.alloc (Q #[O X up] 3)).alloc (Q #[O X fr] 3)) A nn c l (U Av o.length cv) () o:=by
  refine⟨by simp;omega,fun b h=>⟨by have:=hR b h;simp;omega,fun h=>h⟩,fun b h=>by rcases h with h|h<;>subst h<;>simp<;>omega,fun b h=>h.elim,?_,XU _,fun _ _=>by kernel_rfl,JA aD aH aG (XU _) b0 b1 a4 a5,?_,D.below G,?_,fun g z=>⟨fun h=>?_,hv g z⟩⟩
  . intro w1 w2 s h hk;exact⟨h.1.same (hk _ (.inl rfl)),h.2.same (hk _ (.inr rfl))⟩
  . exact a9.keep fun b h=>⟨h,fun o=>aP (G.block b (hR b h)) o⟩
  . exact⟨aT.new' aD,(aT.new _ _ _).alloc _⟩
  have:=(aS D z).2.1;rcases h with h|h<;>omega
 have F:=yG a6 a7 a8 ⟨trivial,QG up fr _ _ _ _ k⟩ a0;obtain⟨HW,a1⟩:=aAC F G;clear F a6 G a9 D a7 a8 a0 hv hR;go_in;go_wp2_with fail;refine HW.o.mono ?_;rintro e w' ⟨hm,(⟨z,hj,v',rfl,a3,b2⟩|⟨z,rfl⟩)⟩
 . go_wp2_with fail;go_ret2;exact⟨aZ.over a1.o hm (fun _ _ h=>h),.inl ⟨z,_,rfl,a3,fun g z=>(b2 g z).imp id (fun h=>YE a1.o.size h)⟩⟩
 go_wp2_with fail;go_ret2;exact⟨aZ.over a1.o hm (fun _ _ h=>h),.inr ⟨z,rfl⟩⟩
structure LT (τ:Type) where
 an:τ->Int->Int->Bool
 nx:τ->Int->Int->τ
def zC(P:Program)(F:FuncId)(D:Array Value){τ:Type}(T:LT τ)(J:World->τ->Prop)(S:Nat->Prop)(H:Nat):Prop :=
 ∀(w:aAB)(t:τ)(v a:Int),H<=w.heap.size->J w t->0<=v->v<=1048576->0<=a->a<=1000000000000 →
  Calls P F (#[O X v,O X a]++D) w fun e w'=>e=.returned (.bool (T.an t v a))/\aZ S Y w w'/\J w' (T.nx t v a)
def uQ{τ:Type}(T:LT τ):cZ (Bool×τ) where
 em:=fun _ _ _=>[]
 nx:=fun s n a=>if s.1=true then s else if n.op=1 then (T.an s.2 n.a a,T.nx s.2 n.a a) else s
 ok:=fun _ _ _=>true
 dm:=fun _ _ _=>True
def WJ{τ:Type}(pf G:Nat)(F:FuncId)(D:Array Value)(J:World->τ->Prop)(w:aAB)(s:Bool×τ):Prop:=aT w pf 4 #[.bool s.1]/\aT w G 172 #[.func (.func F) #[] D]/\J w s.2
def XI(pf D:Nat)(K:Nat->Prop)(k:Nat):Prop:=k=pf\/k=D\/K k
def T6(pf:Nat)(S:Nat->Prop)(k:Nat):Prop:=k=pf\/S k
theorem EG{τ:Type}{T:LT τ}{pf z:Nat}{h:FuncId}{G:Array Value}{J:World->τ->Prop}{S:Nat->Prop}{base:Nat}{pan:List PanicEntry}{w w':aAB}{s:Bool×τ}{v:Value}{o:List Nd}{n:Nd}{a:Int}{b:Bool}{t:τ}(F:bK w base v o)(hv:∀k,v.ownBlock=Z k->¬ T6 pf S k)(D:aZ (T6 pf S) Y w w')(hf:aT w' pf 4 #[.bool b])(hp:aT w' z 172 #[.func (.func h) #[] G])(hj:J w' t)(hn:(uQ T).nx s n a=(b,t)):
 qN (uQ T) (WJ pf z h G J) (T6 pf S) base pan w s v o n a (.returned v) w':=by
 refine .inl ⟨rfl,⟨D.os,D.tape,D.output,D.size,fun k hk hs _=>D.block k hk hs aD⟩,?_,_,rfl,?_,fX.refl _ _⟩
 . rw[hn];exact⟨hf,hp,hj⟩
 show bK w' base v (o++[]);rw[YP];exact F.moved D fun g hg=>⟨hv g hg,by simp⟩
theorem EH{τ:Type}{T:LT τ}{pf F:Nat}{z:FuncId}{h:Array Value}{J:World->τ->Prop}{K S:Nat->Prop}{base H:Nat}{pan:List PanicEntry}{w:aAB}{s:Bool×τ}{v:Value}{o:List Nd}{n:Nd}{a:Int}{b:Bool}{t:τ}{x:Value}(D:bK w base v o)(hv:∀k,v.ownBlock=Z k->¬ T6 pf S k)(G:pf≠F)(hH:H<=w.heap.size)(hK:∀k,K k->k<H/\k≠pf/\k≠F)
 (hJ:∀w w' t,J w t->(∀k,K k->w'.heap[k]? = w.heap[k]?)->J w' t) (hf:aT w pf 4 #[x]) (hp:aT w F 172 #[.func (.func z) #[] h]) (hj:J w t) (hn:(uQ T).nx s n a=(b,t)) (ob:Obj) :
 qN (uQ T) (WJ pf F z h J) (T6 pf S) base pan w s v o n a (.returned v) ((w.setCell ⟨pf,0,Y⟩ (.bool b)).alloc ob):=by
 refine EG D hv (((aZ.refl _ _ w).setCell (p:=⟨pf,0,Y⟩) (.inl rfl) _).alloc _) ?_ ((hp.far (p:=⟨pf,0,Y⟩) (Ne.symm G) _).alloc _) ?_ hn
 . have:=(hf.set_ 0 (.bool b)).alloc ob;simpa using this
 refine hJ _ _ _ hj fun k hk=>?_;have:=hK k hk;rw[Below.heap_alloc _ _ _ (by simp[World.setCell];omega),XZ _ _ _ _ this.2.1]
theorem O4{τ:Type}{T:LT τ}{pf F:Nat}{mk:FuncId}{mc:Array Value}{J:World->τ->Prop}{K S:Nat->Prop}{base H M:Nat}{pan:List PanicEntry}(a8:pf≠F)(d1:pf<H)(d2:F<H)(hK:∀k,K k->k<H/\k≠pf/\k≠F)(hS:∀k,S k->K k)
 (hJ:∀w w' t,J w t->(∀k,K k->w'.heap[k]? = w.heap[k]?)->J w' t) (c7:∀args w,(callFunc mk args).run Tryz.prog w=.ok (.enter mk args) w) (a0:zC Tryz.prog mk mc T J S H) :
 DT Tryz.prog 141 #[I (Z ⟨pf,0,Y⟩),I (Z ⟨F,0,Y⟩)] (uQ T) (WJ pf F mk mc J) (XI pf F K) (T6 pf S) base H pan M:=by
 rintro w ⟨f,t⟩ v o n a hH ⟨z,a5,a6⟩ a1 b4 a9 _ c5 c6 b5;have c0:cD n.op n.a n.b=true:=by simp only[eW,YC]at a9;exact a9.1.1
 obtain⟨b6,b7⟩:=fZ c0;have cf:=z.cell;have ff:=z.frozen;have cm:=a5.cell;have c9:pf<w.heap.size:=aA;have d0:F<w.heap.size:=aA;have D:=aB a1;have G:=aB z;have a2:=aB a5;have a3:=aB a6;have HK:=aB hK;have HS:=aB hS;have HJ:=aB hJ;have b1:=aB a0;have c1:∀k,v.ownBlock=Z k->¬ T6 pf S k:=fun k hk hs=>b4 k hk (hs.elim .inl fun h=>.inr (.inr (hS k h)));have a4:=aB c1;have b2:ZY w (w.alloc (Q #[O X n.op,O X n.a,O X n.b] 46)):=aQ _ _;have b0:=aB (hJ _ _ _ a6 (fun k hk=>b2.block k (by have:=(hK k hk).1;omega)));clear a1 z a5 a6 b4 a9 c0 b5 hK hS hJ a0 c1 b2;show Calls Tryz.prog 141 #[v,.agg #[O X n.op,O X n.a,O X n.b],O X a,I (Z ⟨pf,0,Y⟩),I (Z ⟨F,0,Y⟩)] w _;simp only at cf G a3 b0;cases f with
 | true =>
  go_in;go_wp2_with fail;go_ret;exact EH D.o a4.o a8 hH HK.o HJ.o G.o a2.o a3.o rfl _
 | false =>
  by_cases h1:n.op=1
  . have c4:(n.op==1)=true:=by simp[h1]
    have H1:=aB h1;clear h1;go_in;go_wp2_with fail;refine (b1.o (w.alloc (Q #[O X n.op,O X n.a,O X n.b] 46)) t n.a a aG b0.o b6 b7 c5 c6).mono ?_;rintro e w8 ⟨rfl,hm,b3⟩;have a7:∀k,k=pf\/k=F->¬ S k:=fun k hk hs=>by have:=HK.o k (HS.o k hs);omega
    have b8:aT w8 pf 4 #[.bool false]:=(G.o.alloc _).moved hm (a7 pf (.inl rfl)) aD;have b9:aT w8 F 172 #[.func (.func mk) #[] mc]:=(a2.o.alloc _).moved hm (a7 F (.inr rfl)) aD;have c8:=b8.cell;have f8:=b8.frozen;obtain⟨B8,B9,c3,c2⟩:=aAE b8 b9 hm b3;clear b8 b9 hm b3 a7 cf ff cm;go_wp2_with fail;go_ret;refine EG D.o a4.o ((((aZ.refl _ _ w).alloc _).trans (c3.o.mono (fun _ h=>.inr h)) (fun g hg=>by cases hg)).setCell (p:=⟨pf,0,Y⟩) (.inl rfl) _) ?_ (B9.o.far (p:=⟨pf,0,Y⟩) (Ne.symm a8) _) ?_ (b:=T.an t n.a a) (t:=T.nx t n.a a) ?_
    . have:=B8.o.set_ 0 (.bool (T.an t n.a a));simpa using this
    . exact HJ.o _ _ _ c2.o fun k hk=>XZ _ _ _ _ (HK.o k hk).2.1
    show (if false=true then (false,t) else if n.op=1 then (T.an t n.a a,T.nx t n.a a) else (false,t))=_;rw[XN aD,XP H1.o]
  . have c4:(n.op==1)=false:=by simp[h1]
    have H1:=aB h1;clear h1;go_in;go_wp2_with fail;go_ret;refine EH D.o a4.o a8 hH HK.o HJ.o G.o a2.o a3.o ?_ _;show (if false=true then (false,t) else if n.op=1 then (T.an t n.a a,T.nx t n.a a) else (false,t))=_;rw[XN aD,XN H1.o]
theorem O2{τ:Type}(T:LT τ)(G h:Int):∀(j:Nat)(a:Int)(s:Bool×τ)(F:Fo),(uQ T).D G h j a s F
 | _,_,_,.nil=>trivial
 | j,a,s,.cons p n at' k x=>by
  rw[cZ.D_cons];exact⟨⟨trivial,O2 T _ _ _ _ _ k⟩,O2 T G h (j+1) a _ x⟩
theorem O3{τ:Type}(T:LT τ)(D h:Int):∀(j:Nat)(a:Int)(s:Bool×τ)(F:Fo),(uQ T).G D h j a s F=true
 | _,_,_,.nil=>rfl
 | j,a,s,.cons p n at' k x=>by
  rw[cZ.G_cons,O3 T D h (j+1) a _ x,cZ.G1,O3 T _ _ _ _ _ k];rfl
def zS{τ:Type}(T:LT τ)(t:τ)(n:Nd)(k:Fo):Bool×τ:=(uQ T).S1 0 (false,t) n k
theorem vT{τ:Type}{T:LT τ}{mk:FuncId}{mc:Array Value}{J:World->τ->Prop}{K S:Nat->Prop}{R:Nat->Prop}{w:aAB}{A:ZZ}{nn c:Nat}{l:List Nd}{t:τ}(hR:∀b,R b->b<w.heap.size/\¬ S b)(a7:bF R w A nn c l)(hK:∀k,K k->k<w.heap.size)(hS:∀k,S k->K k)
 (hJ:∀w w' t,J w t->(∀k,K k->w'.heap[k]? = w.heap[k]?)->J w' t) (b1:∀args w,(callFunc mk args).run Tryz.prog w=.ok (.enter mk args) w) (a0:zC Tryz.prog mk mc T J S w.heap.size) (hj:J w t)
 {n:Nd} {a3:List Nd} {k:Fo} (a5:pp [false] l=Z (.cons [] n a3 k .nil,[])) (a6:4*aY k<=1000000000000) (z:((uQ T).E1 0 (false,t) n a3 k).length<=1000000000000) :
 Calls Tryz.prog 127 #[U A nn c,.func (.func mk) #[] mc] w fun e w'=>e=.returned (.bool (zS T t n k).1)/\aZ S Y w w'/\J w' (zS T t n k).2:=by
 have F:=bS w (Q #[.func (.func mk) #[] mc] 172) (Q #[.bool false] 4);have a4:nK (uQ T) 141 #[I (Z ⟨w.heap.size+1,0,Y⟩),I (Z ⟨w.heap.size,0,Y⟩)] (WJ (w.heap.size+1) w.heap.size mk mc J) (XI (w.heap.size+1) w.heap.size K) (T6 (w.heap.size+1) S) w.heap.size 6 1000000000000 R ((w.alloc (Q #[.func (.func mk) #[] mc] 172)).alloc (Q #[.bool false] 4)) A nn c l (U Y 0 0) (false,t) []:=by
  refine⟨by simp;omega,fun b h=>⟨by have:=(hR b h).1;simp;omega,fun G=>?_⟩,fun b h=>?_,fun b h=>?_,?_,XU _,fun _ _=>by kernel_rfl,O4 (K:=K) aA aD aH (fun k hk=>by have:=hK k hk;simp;omega) hS hJ b1 ?_,?_,bK.nil _ _,?_,fun g hg=>by simp[Value.ownBlock]at hg⟩
  . have:=hR b h;rcases G with G|G
    . omega
    exact this.2 G
  . rcases h with h|h|h
    . subst h;simp
    . subst h;simp<;>omega
    have:=hK b h;simp;omega
  . rcases h with h|h
    . exact .inl h
    exact .inr (.inr (hS b h))
  . intro w1 w2 s h hk;exact⟨h.1.same (hk _ (.inl rfl)),h.2.1.same (hk _ (.inr (.inl rfl))),hJ _ _ _ h.2.2 fun k h=>hk k (.inr (.inr h))⟩
  . intro w1 t1 v1 a1 h;exact a0 w1 t1 v1 a1 (by simp at h;omega)
  . exact a7.keep fun b h=>⟨h,fun o=>aP (F.block b (hR b h).1) o⟩
  exact⟨aT.new' aD,(aT.new _ _ _).alloc _,hJ _ _ _ hj fun k h=>F.block k (hK k h)⟩
 have D:=yG a4 a5 a6 ⟨trivial,O2 T _ _ _ _ _ k⟩ (by simpa using z);have hg:(uQ T).G1 0 (false,t) n k=true:=by rw[cZ.G1,O3];rfl
 obtain⟨HW,a8,a9⟩:=aAF D F hg;clear D a4 F a7 a5 a6 z hR hg hJ hS hK a0 hj;go_in;go_wp2_with fail;refine HW.o.mono ?_;rintro e w' ⟨hm,(⟨_,⟨hf,hp,hj⟩,v',rfl,a2,b2⟩|⟨hg,_⟩)⟩
 . have cf:=hf.cell;obtain⟨HM,b0⟩:=aAC hm hj;clear hf hm hj hp a2 b2;go_wp2_with fail;go_ret;refine⟨rfl,aZ.over a8.o HM.o (fun k hk G=>?_),b0.o⟩;rcases G with G|G
   . omega
   exact G
 rw[a9.o]at hg;cases hg
end Go.Proofs.YtjoddliplahgkaaGreat
