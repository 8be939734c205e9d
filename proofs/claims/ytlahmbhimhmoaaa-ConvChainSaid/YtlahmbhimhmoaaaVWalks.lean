/- Merged: Walk2, Walk3, Walk4, Raised, Each. -/
import Derived.Test.YtlahmbhimhmoaaaVLeafs
import Derived.Deep.RegionHeld3
import Derived.Defers
import Derived.Recover
import Derived.Laws.EntriesVeiled
namespace Go.Proofs.Ytlahmbhimhmoaaa
set_option linter.unusedVariables false
set_option linter.unusedSimpArgs false
open Go.RowKit
open Go.Value renaming int → O, pointer → I, slice → U
open Go.IntKind renaming i64 → X
open Option renaming none → Y, some → Z
open Go.Obj renaming cells → Q
open Go.Lib renaming hid->aB
set_option maxHeartbeats 1000000
set_option maxRecDepth 100000
theorem AG{l:List Nd}{n:Nd}{D:List Nd}{k x:Fo}{rest:List Nd}(h:pp [false] l=Z (.cons [] n D k x,rest)):0<l.length/\bB l 0=n/\eU n=true:=by
 cases l with
 | nil=>simp[cZ,dU]at h
 | cons y l =>
  rw[cZ]at h;simp only[dU,Option.bind_some]at h;split at h
  . rename_i F
    simp only[NV,MS,MZ,Fo.cons.injEq]at h;obtain⟨_,_,_,_,_,_,⟨_,e,_⟩,_⟩:=h;subst e;exact⟨by simp,rfl,F⟩
  . cases h
theorem zZ:(Try.prog.info? 42).map (fun i=>(i.zero,i.size,i.bytes))=Z (Z (.agg #[O X 0,O X 0,O X 0]),3,24):=by kernel_rfl
theorem zC{σ:Type}(C:kD σ)(hG:C.Good)(m:Nat)
 (ih:∀(w:OE)(v:Value)(q:Nat)(s:σ)(o:List Nd)(a:Int)(n:Nd)(a5:List Nd)(k:Fo)(rest:List Nd),C.St w v q s o->pp [false] (C.l.drop q)=Z (.cons [] n a5 k .nil,rest)->0<=a->a+4*bS k<=1000000000000->C.V.D1 a s n k->o.length+(C.V.E1 a s n a5 k).length<=C.M->bS k<m →
  Calls Try.prog 90 #[O X a,I (Z ⟨C.H,0,Y⟩),I (Z ⟨C.H+5,0,Y⟩),I (Z ⟨C.H+2,0,Y⟩),I (Z ⟨C.H+1,0,Y⟩),I (Z ⟨C.H+6,0,Y⟩)] w (C.Post w v o (C.l.length-rest.length) (C.V.E1 a s n a5 k) (C.V.S1 a s n k) (C.V.G1 a s n k)))
 (w:OE) (v:Value) (q:Nat) (s:σ) (o:List Nd) (a:Int) (n:Nd) (a5:List Nd) (k:Fo) (rest:List Nd) (a1:C.St w v q s o) (f0:pp [false] (C.l.drop q)=Z (.cons [] n a5 k .nil,rest)) (j6:0<=a) (g4:a+4*bS k<=1000000000000) (hD:C.V.D1 a s n k) (hM:o.length+(C.V.E1 a s n a5 k).length<=C.M) (h4:bS k<=m) (h2:n.op=2) :
 Calls Try.prog 90 #[O X a,I (Z ⟨C.H,0,Y⟩),I (Z ⟨C.H+5,0,Y⟩),I (Z ⟨C.H+2,0,Y⟩),I (Z ⟨C.H+1,0,Y⟩),I (Z ⟨C.H+6,0,Y⟩)] w (C.Post w v o (C.l.length-rest.length) (C.V.E1 a s n a5 k) (C.V.S1 a s n k) (C.V.G1 a s n k)):=by
 obtain⟨Av,cv,rfl⟩:=a1.own.slice;obtain⟨HI,HG,a9,i6,HD,HM,l3,HA⟩:=OH ih hG a1 f0 hD hM h4 g4;obtain⟨j8,hn,h0⟩:=AG f0;rw[NC]at j8;have hq:q<C.nn:=by have:=a1.tm.len;omega
 have k3:=a1.tm.few;obtain⟨tb,toff,hA,j4,h5⟩:=a1.tm.mem aA;obtain⟨g0,g1,g2⟩:=h5 q (by have:=a1.tm.len;omega);have e9:bB C.l q=n:=by rw[<-hn,jN];rfl
 rw[e9]at g0 g1 g2;have l8:=(hG.hR tb j4).1;have l6:=a1.size;have m5:C.H<w.heap.size:=aA;have m6:C.H+1<w.heap.size:=aA;have m7:C.H+2<w.heap.size:=aA;have m8:C.H+5<w.heap.size:=aA;have m9:C.H+6<w.heap.size:=aA;have l1:tb<w.heap.size:=aA;have l9:=hG.en;have z0:=a1.bt.cell;have z1:=a1.bo.cell;have z2:=a1.bf.cell;have z5:=a1.ba.cell;have z6:=a1.br.cell;have f5:=a1.ba.frozen;rw[hA]at z0;obtain⟨d4,HN,i5⟩:=OK hA e9 h0;have m4:(0:Int)<=(q:Int):=aA;have g8:=hD.1;have b4:o.length+(C.V.em s n a).length<=C.M:=by
  simp only[bT.E1,MG]at hM;omega
 have j7:a<=1000000000000:=aA;obtain⟨h9,i2⟩:=OF g8 b4;clear g8 b4;clear ih hG a1 f0 hD hM h4 g4 hn h0 hA h5 e9;have l5:(n.op==2)=true:=by simp[h2]
 have H2:=aB h2;clear h2;obtain⟨e7,_,g5,e6,g6⟩:=E7 i6.o H2.o;have l7:(q:Int)+1+n.b<=C.nn:=by
  have h1:=congrArg List.length e6;rw[NC,MG]at h1;have:=a9.o.tm.len;omega
 obtain⟨f3,d3,f2⟩:=OK e7 g5 e6;clear e7 g5 e6;have k2:=a9.o.tm.cap;go_in;go_wp2_with fail;have D:=(a9.o.goOn HG.o ((q:Int)+1) (q+1) aA).below HG.o (aQ _ (Q #[O X n.op,O X n.a,O X n.b] 42));have d2:=HG.o.one _ s _ o n a aG D.j D.own (fun k hk=>(D.hv k hk).1) i5.o h9.o j6 j7 i2.o;refine d2.mono ?_;rintro e w2 (⟨c9,hm,hj,v',rfl,a0,b6⟩|⟨g7,rfl,hm⟩);rotate_left
 . refine⟨rfl,.inr ⟨by simp[bT.G1,g7],rfl,?_⟩⟩;exact (((aS.refl _ _ w).setCell (p:=⟨C.H+5,0,Y⟩) (.inr (.inr rfl)) _).alloc _).trans (hm.mono kD.S_S') (fun g hg=>.inl hg)
 obtain⟨a4,a8,rfl⟩:=a0.slice;have e0:aW w2 w.heap.size 42 #[O X n.op,O X n.a,O X n.b]:=aW.moved (aW.new' (by simp[World.setCell])) hm (kD.S_lt HG.o aA) (fun e=>by have:=a9.o.row _ e;omega);have F:=D.called HG.o hm a0 b6 hj;have hB:=fun k h1 h2=>D.keep HG.o hm (k:=k) h1 h2;have c0:=aW.cell (D.bt.same (hB _ aA aA));have c1:=aW.cell (D.bo.same (hB _ aA aA));have j0:=aW.frozen (D.bo.same (hB _ aA aA));have c5:=aW.cell (D.ba.same (hB _ aA aA));have cb:=aW.cell e0;have l0:w.heap.size+1<=w2.heap.size:=by have:=hm.size;simpa using this
 have m3:w.heap.size<w2.heap.size:=aA;have m0:C.H<w2.heap.size:=aA;have m1:C.H+1<w2.heap.size:=aA;have m2:C.H+5<w2.heap.size:=aA;have k6:w.heap.size≠C.H+1:=aA;have k7:C.H+1≠w.heap.size:=aA;rw[d4.o]at c0;have z:=aB F;have j9:=aB D;have f6:=aB hm;have f1:=aB e0;have f8:=aB c9;have c4:=aB b6;clear F D hm e0 c9 hB d2 a0 hj b6 z0 z1 z2 z5 z6 f5 g0 g1 g2;go_wp2_with fail;have b2:aW (w2.setCell ⟨C.H+1,0,Y⟩ (U a4 (o++C.V.em s n a).length a8)) w.heap.size 42 #[O X n.op,O X n.a,O X n.b]:=f1.o.far aG _;have F:=z.o;have c2:=((((aS.refl C.S' (Value.slice Av o.length cv).ownBlock w).setCell (p:=⟨C.H+5,0,Y⟩) (.inr (.inr rfl)) (O X ((q:Int)+1))).alloc (Q #[O X n.op,O X n.a,O X n.b] 42)).trans (f6.o.mono kD.S_S') (fun g hg=>.inl hg)).setCell (p:=⟨C.H+1,0,Y⟩) (.inr (.inl rfl)) (U a4 (o++C.V.em s n a).length a8);have b7:dD (U Av o.length cv) (U a4 (o++C.V.em s n a).length a8) w:=fun g hg=>(c4.o g hg).imp id (fun h=>by simp[World.setCell]at h;omega);rw[MG]at b2 F c2 b7;clear z f1 c0 c1 j0 c5 cb;generalize w2.setCell ⟨C.H+1,0,Y⟩ (U a4 (o.length+(C.V.em s n a).length) a8)=w3 at F b2 c2 ⊢;have d0:=F.bt.cell;have d1:=F.bo.cell;have j1:=F.bo.frozen;have d9:w3.cell? ⟨C.H+5,0,Y⟩=Z (O X ((q:Int)+1)):=F.ba.cell 0;have g9:(Value.slice a4 (o.length+(C.V.em s n a).length) a8).ownBlock≠Z w.heap.size:=fun e=>by
  rcases c4.o _ (by rw[MG];exact e) with h|h
  . have:=a9.o.row _ h;omega
  simp[World.setCell]at h;omega
 have d7:=aB g9;clear g9;have db:=b2.cell;rw[d4.o]at d0;obtain⟨z,b9,d6,b1⟩:=OI F b2 c2 b7;clear F b2 c2 b7 f6;obtain⟨k0,k1⟩:=g6;have e1:(0:Int)<=(q:Int)+1:=aA;have e2:(q:Int)+1<=(q:Int)+1+n.b:=aA;have e3:(q:Int)+1+n.b<=(C.c:Int):=aA;have e4:¬ C.c=q+1:=aA;have e5:max ((q:Int)+1+n.b) 0=(q:Int)+1+n.b:=aA;have n0:IntKind.i64.wrap ((q:Int)+1+n.b)=(q:Int)+1+n.b:=IntWalk.i64_in _ aA;have c6:a6 C.R w3.drew (Z ⟨tb,toff+(q+1)*3,Y⟩) (((q:Int)+1+n.b).toNat-(q+1)) (C.c-(q+1)) a5:=by
  have h1:=(z.o.drew HG.o).tm;rw[d4.o]at h1;exact h1.mid f2.o (by rw[d3.o];omega) aA aA
 have c3:=aB c6;have c7:C.base<=w3.drew.heap.size:=by have:=HG.o.hbase;have:=z.o.size;simp;omega
 have b5:o.length+(C.V.em s n a).length+(((q:Int)+1+n.b).toNat-(q+1))<=1000000000000:=by
  have h1:=HM.o;have h2:=HG.o.hM;have h3:=d3.o;simp only[bT.E1,MG]at h1;omega
 obtain⟨i3,f4⟩:=OF c7 b5;obtain⟨i0,hi,h6,h7,h8⟩:=info_parts zZ;obtain⟨i1,i7,i8,i9⟩:=OI hi h6 h7 h8;clear c6 c7 b5 hi h6 h7 h8;have b8:bG w3.drew C.base (U a4 (o.length+(C.V.em s n a).length) a8) (o++C.V.em s n a):=(z.o.drew HG.o).own;have d8:=aB b8;clear b8;refine wp_region_noPanic ?_;refine fW 9 (fun w'=>w'.cell? ⟨C.H,0,Y⟩=Z (U (Z ⟨tb,toff,Y⟩) C.nn C.c)/\w'.cell? ⟨C.H+1,0,Y⟩=Z (U a4 (o.length+(C.V.em s n a).length) a8)/\w'.cell? ⟨C.H+5,0,Y⟩=Z (O X ((q:Int)+1))/\w'.cell? ⟨w.heap.size,2,Y⟩=Z (O X n.b)) aF ⟨d0 0,d1 0,d9,db 2⟩ (fun j5=>?_);refine a7 (i:=0) (v:=?_) rfl aC aC aC aC aC (fun _ _ _ h=>h) (Or.inl ⟨by rfl,?_⟩) aI ?_;rotate_left
 . (intro w hSw;(try dsimp only at hSw);go_simp);all_goals with_reducible rfl
 try simp only[Act.put,List.getElem_toArray,List.getElem_cons_zero,List.getElem_cons_succ,List.setIfInBounds_toArray,List.set_cons_zero,List.set_cons_succ]
 refine a7 (i:=1) (v:=?_) rfl aC aC aC aC aC (fun _ _ _ h=>h) (Or.inl ⟨by rfl,?_⟩) aI ?_;rotate_left
 . (intro w hSw;(try dsimp only at hSw);go_simp);all_goals with_reducible rfl
 try simp only[Act.put,List.getElem_toArray,List.getElem_cons_zero,List.getElem_cons_succ,List.setIfInBounds_toArray,List.set_cons_zero,List.set_cons_succ]
 refine a7 (i:=2) (v:=?_) rfl aC aC aC aC aC (fun _ _ _ h=>h) (Or.inl ⟨by rfl,?_⟩) aI ?_;rotate_left
 . (intro w hSw;(try dsimp only at hSw);go_simp);all_goals with_reducible rfl
 try simp only[Act.put,List.getElem_toArray,List.getElem_cons_zero,List.getElem_cons_succ,List.setIfInBounds_toArray,List.set_cons_zero,List.set_cons_succ]
 refine a7 (i:=3) (v:=?_) rfl aC aC aC aC aC (fun _ _ _ h=>h) (Or.inl ⟨by rfl,?_⟩) aI ?_;rotate_left
 . (intro w hSw;(try dsimp only at hSw);go_simp);all_goals with_reducible rfl
 try simp only[Act.put,List.getElem_toArray,List.getElem_cons_zero,List.getElem_cons_succ,List.setIfInBounds_toArray,List.set_cons_zero,List.set_cons_succ]
 refine a7 (i:=4) (v:=?_) rfl aC aC aC aC aC (fun _ _ _ h=>h) (Or.inl ⟨by rfl,?_⟩) aI ?_;rotate_left
 . (intro w hSw;(try dsimp only at hSw);go_simp);all_goals with_reducible rfl
 try simp only[Act.put,List.getElem_toArray,List.getElem_cons_zero,List.getElem_cons_succ,List.setIfInBounds_toArray,List.set_cons_zero,List.set_cons_succ]
 refine a7 (i:=5) (v:=?_) rfl aC aC aC aC aC (fun _ _ _ h=>h) (Or.inl ⟨by rfl,?_⟩) aI ?_;rotate_left
 . (intro w hSw;(try dsimp only at hSw);go_simp);all_goals with_reducible rfl
 try simp only[Act.put,List.getElem_toArray,List.getElem_cons_zero,List.getElem_cons_succ,List.setIfInBounds_toArray,List.set_cons_zero,List.set_cons_succ]
 refine a7 (i:=6) (v:=?_) rfl aC aC aC aC aC (fun _ _ _ h=>h) (Or.inl ⟨by rfl,?_⟩) aI ?_;rotate_left
 . (intro w hSw;(try dsimp only at hSw);go_simp);all_goals with_reducible rfl
 try simp only[Act.put,List.getElem_toArray,List.getElem_cons_zero,List.getElem_cons_succ,List.setIfInBounds_toArray,List.set_cons_zero,List.set_cons_succ]
 refine a7 (i:=7) (v:=?_) rfl aC aC aC aC aC (fun _ _ _ h=>h) (Or.inl ⟨by rfl,?_⟩) aI ?_;rotate_left
 . (intro w hSw;(try dsimp only at hSw);go_simp);all_goals with_reducible rfl
 try simp only[Act.put,List.getElem_toArray,List.getElem_cons_zero,List.getElem_cons_succ,List.setIfInBounds_toArray,List.set_cons_zero,List.set_cons_succ]
 refine bW (i:=8) aC rfl rfl (fun K8 j2=>?_);refine cT (.tmp 23) (.tmp 30) 29 29 rfl C.base i0 Try.underlying29 Try.underlying29 i1.o i7.o i8.o i9.o (U a4 (o.length+(C.V.em s n a).length) a8) (o++C.V.em s n a) a5 aF d8.o aF c3.o (by have:=f4.o;rw[MG];omega) i3.o ?_;intro A' c' w' a0 a2;simp only[MG]at a0 a2;have b0:=fun k hk=>(z.o.drew HG.o).rowKeep HG.o a2.grown (k:=k) hk;have zb:=(z.o.drew HG.o).bo.same (b0 _ (.inl ⟨by omega,by omega⟩));have zc:=zb.cell;have zf:=zb.frozen;have g3:w'.cell? ⟨C.H,0,Y⟩=Z (U (Z ⟨tb,toff,Y⟩) C.nn C.c)/\w'.cell? ⟨C.H+1,0,Y⟩=Z (U a4 (o.length+(C.V.em s n a).length) a8)/\w'.cell? ⟨C.H+5,0,Y⟩=Z (O X ((q:Int)+1))/\w'.cell? ⟨w.heap.size,2,Y⟩=Z (O X n.b):=⟨(aP (b0 _ (.inl ⟨by omega,by omega⟩)) 0).trans (d0 0),zc 0,(aP (b0 _ (.inl ⟨by omega,by omega⟩)) 0).trans d9,(aP (b0 _ (.inr ⟨d7.o,b9.o.lt⟩)) 2).trans (db 2)⟩;refine j2.o _ _ (fun _=>g3) ?_;try simp only[Act.put,List.getElem_toArray,List.getElem_cons_zero,List.getElem_cons_succ,List.setIfInBounds_toArray,List.set_cons_zero,List.set_cons_succ]
 refine bW (i:=9) aC rfl rfl (fun K9 j3=>?_);go_simp;refine j3.o _ _ (fun h=>absurd rfl h) ?_;refine gV aC (NoPanic.normal ?_) _;have a3:=(z.o.drew HG.o).laid HG.o a2.grown a0 (fun g hg=>a2.new g hg);have b3:aW (w'.setCell ⟨C.H+1,0,Y⟩ (.slice A' (o.length+(C.V.em s n a).length+(((q:Int)+1+n.b).toNat-(q+1))) c')) w.heap.size 42 #[O X n.op,O X n.a,O X n.b]:=aW.far (aW.same b9.o (b0 _ (.inr ⟨d7.o,b9.o.lt⟩))) aG _;have e8:=(d6.o.drew.trans (aS.of_grown a2.grown) (fun g hg=>b1.o g hg)).setCell (p:=⟨C.H+1,0,Y⟩) (.inr (.inl rfl)) (.slice A' (o.length+(C.V.em s n a).length+(((q:Int)+1+n.b).toNat-(q+1))) c');have c8:dD (U Av o.length cv) (.slice A' (o.length+(C.V.em s n a).length+(((q:Int)+1+n.b).toNat-(q+1))) c') w:=b1.o.trans (fun g hg=>a2.new g hg) d6.o.size;clear zb zc zf g3 b0 a2 a0 z b9 d6 b1 d7 j5 d0 d1 j1 d9 db c3;generalize w'.setCell ⟨C.H+1,0,Y⟩ (.slice A' (o.length+(C.V.em s n a).length+(((q:Int)+1+n.b).toNat-(q+1))) c')=w5 at a3 b3 e8 ⊢;have d5:w5.cell? ⟨C.H+5,0,Y⟩=Z (O X ((q:Int)+1)):=a3.ba.cell 0;have l4:=a3.ba.frozen;have db:=b3.cell;have k4:C.H+5<w5.heap.size:=a3.ba.lt;have k5:w.heap.size<w5.heap.size:=b3.lt;have k8:w.heap.size≠C.H+5:=aA;have k9:C.H+5≠w.heap.size:=aA;have e7:cK n.op n.b=0:=by rw[H2.o];rfl
 have f9:=aB a3;have l2:=aB b3;have i4:=aB e8;have f7:=aB c8;clear a3 b3 e8 c8;go_wp2_with (go_at_call 62;refine (lG _ _ _ _ ⟨by omega,by omega⟩).mono ?_;rintro e w6 ⟨rfl,rfl⟩)
 refine wp_loop_rounds 1 ?_;rw[rounds_succ];go_wp2_with fail;refine bodyPost_end (results_none rfl _ _ _) rfl (.inl ⟨?_,rfl,?_,_,?_,f7.o⟩)
 . rw[f3.o];simp[bT.G1,bT.G,f8.o]
 . exact (i4.o.setCell (p:=⟨C.H+5,0,Y⟩) (.inr (.inr rfl)) _).alloc _
 have h1:=(f9.o.goOn HG.o ((q:Int)+1+n.b) (C.l.length-rest.length) (by
  have h1:=congrArg List.length f2.o;have h2:=d3.o;have h3:=a9.o.tm.len;rw[NC,MG]at h1;omega)).below HG.o (aQ _ (Q #[O X n.op,O X n.a,O X n.b] 42))
 rw[f3.o];simpa only[bT.E1,bT.S1,bT.E,bT.S,NF,NU] using h1
theorem zB{σ:Type}(C:kD σ)(hG:C.Good)(m:Nat)
 (ih:∀(w:OE)(v:Value)(q:Nat)(s:σ)(o:List Nd)(a:Int)(n:Nd)(c8:List Nd)(k:Fo)(rest:List Nd),C.St w v q s o->pp [false] (C.l.drop q)=Z (.cons [] n c8 k .nil,rest)->0<=a->a+4*bS k<=1000000000000->C.V.D1 a s n k->o.length+(C.V.E1 a s n c8 k).length<=C.M->bS k<m →
  Calls Try.prog 90 #[O X a,I (Z ⟨C.H,0,Y⟩),I (Z ⟨C.H+5,0,Y⟩),I (Z ⟨C.H+2,0,Y⟩),I (Z ⟨C.H+1,0,Y⟩),I (Z ⟨C.H+6,0,Y⟩)] w (C.Post w v o (C.l.length-rest.length) (C.V.E1 a s n c8 k) (C.V.S1 a s n k) (C.V.G1 a s n k)))
 (w:OE) (v:Value) (q:Nat) (s:σ) (o:List Nd) (a:Int) (n:Nd) (c8:List Nd) (k:Fo) (rest:List Nd) (a4:C.St w v q s o) (m5:pp [false] (C.l.drop q)=Z (.cons [] n c8 k .nil,rest)) (q4:0<=a) (q5:a+4*bS k<=1000000000000) (hD:C.V.D1 a s n k) (hM:o.length+(C.V.E1 a s n c8 k).length<=C.M) (s7:bS k<=m) (h2:n.op≠2) :
 Calls Try.prog 90 #[O X a,I (Z ⟨C.H,0,Y⟩),I (Z ⟨C.H+5,0,Y⟩),I (Z ⟨C.H+2,0,Y⟩),I (Z ⟨C.H+1,0,Y⟩),I (Z ⟨C.H+6,0,Y⟩)] w (C.Post w v o (C.l.length-rest.length) (C.V.E1 a s n c8 k) (C.V.S1 a s n k) (C.V.G1 a s n k)):=by
 obtain⟨Av,cv,rfl⟩:=a4.own.slice;obtain⟨HI,HG,h4,w4,HD,HM,p1,HA⟩:=OH ih hG a4 m5 hD hM s7 q5;obtain⟨y4,hn,s3⟩:=AG m5;rw[NC]at y4;have hq:q<C.nn:=by have:=a4.tm.len;omega
 have z9:=a4.tm.few;obtain⟨tb,toff,hA,p7,s8⟩:=a4.tm.mem aA;obtain⟨g0,g1,g2⟩:=s8 q (by have:=a4.tm.len;omega);have m3:bB C.l q=n:=by rw[<-hn,jN];rfl
 rw[m3]at g0 g1 g2;have B4:=(hG.hR tb p7).1;have B2:=a4.size;have C3:C.H<w.heap.size:=aA;have C4:C.H+1<w.heap.size:=aA;have C5:C.H+2<w.heap.size:=aA;have C6:C.H+5<w.heap.size:=aA;have C7:C.H+6<w.heap.size:=aA;have A7:tb<w.heap.size:=aA;have B5:=hG.en;have z0:=a4.bt.cell;have z1:=a4.bo.cell;have z2:=a4.bf.cell;have z5:=a4.ba.cell;have z6:=a4.br.cell;have f5:=a4.ba.frozen;rw[hA]at z0;obtain⟨n0,HN,h3⟩:=OK hA m3 s3;have C0:(0:Int)<=(q:Int):=aA;have r3:=hD.1;have b2:o.length+(C.V.em s n a).length<=C.M:=by
  simp only[bT.E1,MG]at hM;omega
 have y0:a<=1000000000000:=aA;obtain⟨v0,v5⟩:=OF r3 b2;clear r3 b2;clear ih hG a4 m5 hD hM s7 q5 hn s3 hA s8 m3;have B1:(n.op==2)=false:=by simp[h2]
 have H2:=aB h2;clear h2;obtain⟨_,f3,r5⟩:=G9 w4.o H2.o;have m4:bR n.op n.a n.b=true:=by
  have:=h3.o;simp only[eU,ME]at this;exact this.1.1
 obtain⟨B3,t5⟩:=fS m4;obtain⟨r4,y3⟩:=vE m4;obtain⟨v4,m7⟩:=OF r5 f3;have p3:C.V.D n.op n.b 0 a (C.V.nx s n a) k:=HD.o.2;have n4:=aB p3;have p5:o.length+((C.V.em s n a).length+(C.V.E n.op n.b 0 a (C.V.nx s n a) k).length)<=C.M:=by
  have h1:=HM.o;rw[f3]at h1;simpa only[bT.E1,MY,MG] using h1
 have i1:=aB p5;clear f3 r5 p3 p5 m4;have r6:=h4.o.tm.len;have e4:=aB r6;clear r6;go_in;go_wp2_with fail;have a6:=(h4.o.goOn HG.o ((q:Int)+1) (q+1) aA).below HG.o (aQ _ (Q #[O X n.op,O X n.a,O X n.b] 42));have j5:=HG.o.one _ s _ o n a aG a6.j a6.own (fun k hk=>(a6.hv k hk).1) h3.o v0.o q4 y0 v5.o;refine j5.mono ?_;rintro e w2 (⟨j4,hm,hj,v',rfl,a5,d8⟩|⟨q8,rfl,hm⟩);rotate_left
 . refine⟨rfl,.inr ⟨by simp[bT.G1,q8],rfl,?_⟩⟩;exact (((aS.refl _ _ w).setCell (p:=⟨C.H+5,0,Y⟩) (.inr (.inr rfl)) _).alloc _).trans (hm.mono kD.S_S') (fun g hg=>.inl hg)
 obtain⟨g8,h5,rfl⟩:=a5.slice;have l7:aW w2 w.heap.size 42 #[O X n.op,O X n.a,O X n.b]:=aW.moved (aW.new' (by simp[World.setCell])) hm (kD.S_lt HG.o aA) (fun e=>by have:=h4.o.row _ e;omega);have k4:=a6.called HG.o hm a5 d8 hj;have hB:=fun k h1 h2=>a6.keep HG.o hm (k:=k) h1 h2;have c1:=aW.cell (a6.bo.same (hB _ aA aA));have x3:=aW.frozen (a6.bo.same (hB _ aA aA));have cb:=aW.cell l7;have A6:w.heap.size+1<=w2.heap.size:=by have:=hm.size;simpa using this
 have B7:w.heap.size<w2.heap.size:=aA;have B6:C.H+1<w2.heap.size:=aA;have A0:w.heap.size≠C.H+1:=aA;have A1:C.H+1≠w.heap.size:=aA;have m1:=(((((aS.refl C.S' (Value.slice Av o.length cv).ownBlock w).setCell (p:=⟨C.H+5,0,Y⟩) (.inr (.inr rfl)) (O X ((q:Int)+1))).alloc (Q #[O X n.op,O X n.a,O X n.b] 42)).trans (hm.mono kD.S_S') (fun g hg=>.inl hg)).setCell (p:=⟨C.H+1,0,Y⟩) (.inr (.inl rfl)) (U g8 (o++C.V.em s n a).length h5)).alloc (Q #[O X n.op,O X n.a,O X n.b] 42);have f6:dD (U Av o.length cv) (U g8 (o++C.V.em s n a).length h5) w:=fun g hg=>(d8 g hg).imp id (fun h=>by simp[World.setCell]at h;omega);have f9:(Value.slice g8 (o++C.V.em s n a).length h5).ownBlock≠Z w.heap.size:=fun e=>by
  rcases d8 _ e with h|h
  . have:=h4.o.row _ h;omega
  simp[World.setCell]at h;omega
 have g5:=k4.below HG.o (aQ _ (Q #[O X n.op,O X n.a,O X n.b] 42));have h7:=(l7.far (p:=⟨C.H+1,0,Y⟩) aG (U g8 (o++C.V.em s n a).length h5)).alloc (Q #[O X n.op,O X n.a,O X n.b] 42);rw[MG]at m1 f6 g5 h7 f9;have o7:=aB g5;have v7:=aB m1;have o0:=aB f6;have o3:=aB f9;have t8:=aB h7;have o5:=aB j4;clear k4 a6 hm l7 j4 hB j5 a5 hj d8 z0 z1 z2 z5 z6 f5 g0 g1 g2 m1 f6 g5 h7 f9;go_wp2_with (go_at_call 62;refine (lG _ _ _ _ ⟨by omega,by omega⟩).mono ?_;rintro e w6 ⟨rfl,rfl⟩)
 clear c1 x3 cb;go_loopw [38] (fun i wr=>∃(F1 F2:Fo)(j F:Nat)(v1:Value)(s1:σ)(o1:List Nd),Hid (k=F1.app F2)/\Hid (pp (eQ n j) (C.l.drop F)=Z (F2,rest))/\Hid (bQ F1=if n.op=12 then 2*j else j)/\(j:Int)<=cK n.op n.b/\i=O X (j:Int)/\F<=C.nn/\Hid (C.St wr v1 F s1 o1)/\Hid (s1=C.V.S n.op n.b 0 a (C.V.nx s n a) F1)/\Hid (o1=o++(C.V.em s n a++C.V.E n.op n.b 0 a (C.V.nx s n a) F1)) ∧
  Hid (aW wr w.heap.size 42 #[O X n.op,O X n.a,O X n.b])/\Hid (aS C.S' (Value.slice Av o.length cv).ownBlock w wr)/\Hid (dD (U Av o.length cv) v1 w)/\Hid (v1.ownBlock≠Z w.heap.size)/\Hid (C.V.G n.op n.b 0 a (C.V.nx s n a) F1=true)) (fun i _=>(cK n.op n.b).toNat-(intOf i).toNat)
 case atStart =>
  exact⟨.nil,k,0,q+1,_,_,_,aB rfl,aB (by rw[mT];exact v4.o),aB (by simp[bQ]),r4,by go_num,hq,o7,aB rfl,aB (by simp[bT.E]),t8,v7,o0,o3,aB rfl⟩
 case round =>
  obtain⟨F1,F2,j,F,v1,s1,o1,HK,l3,n6,hj,rfl,B9,z,a3,f0,c7,e7,b7,d2,k8⟩:=hrel;obtain⟨e3,f1,rfl⟩:=z.o.own.slice;have A8:=z.o.size;have e1:=z.o.bo.cell;have x5:=z.o.bo.frozen;have e5:wr.cell? ⟨C.H+5,0,Y⟩=Z (O X (F:Int)):=z.o.ba.cell 0;have x6:=z.o.ba.frozen;have e6:wr.cell? ⟨C.H+6,0,Y⟩=Z (.func (.func 90) #[] #[I (Z ⟨C.H,0,Y⟩),I (Z ⟨C.H+5,0,Y⟩),I (Z ⟨C.H+2,0,Y⟩),I (Z ⟨C.H+1,0,Y⟩),I (Z ⟨C.H+6,0,Y⟩)]):=z.o.br.cell 0;have eb:=c7.o.cell;have y6:C.H<wr.heap.size:=aA;have y7:C.H+1<wr.heap.size:=aA;have y8:C.H+5<wr.heap.size:=aA;have C2:C.H+6<wr.heap.size:=aA;have y9:=c7.o.lt;have k3:=z.o.row;have z8:=aB k3;clear k3;by_cases r7:(j:Int)<cK n.op n.b;rotate_left
  . have b5:=l3.o;rw[pV n (i:=j) aA,iB]at b5;simp only[MS,MZ]at b5;obtain⟨c4,hr⟩:=b5;have j8:C.l.length-rest.length=F:=by
     rw[<-hr,NC];have:=e4.o;omega
    have a0:k=F1:=by rw[HK.o,<-c4,nW]
    obtain⟨w5,b9⟩:=OF j8 a0;clear c4 hr j8 a0;go_wp2_with fail;refine bodyPost_end (results_none rfl _ _ _) rfl (.inl ⟨?_,rfl,e7.o,_,?_,b7.o⟩)
    . simp only[bT.G1,o5.o,b9.o,k8.o,Bool.and_self]
    rw[w5.o,b9.o,m7.o,show C.V.S1 a s n F1=s1 from a3.o.symm,show o++C.V.E1 a s n [] F1=o1 by rw[f0.o];simp only[bT.E1,MY]];exact z.o
  by_cases b0:n.op=12
  . have p2:(n.op==12)=true:=by simp[b0]
    have y2:(j:Int)<n.b:=by simpa[cK,b0] using r7
    have b5:=l3.o;rw[pW b0 y2]at b5;obtain⟨y5,B8,F',j6,c4⟩:=H5 b5;obtain⟨n1,a1,k1,B0,q2,p4,s5,j9,g3,j7⟩:=pQ j6 aA;obtain⟨n2,a2,k2,F3,q3,i3,A2,A3,s4,g4⟩:=pQ j7 j9;have c0:bQ F1=2*j:=by have:=n6.o;rw[LZ b0]at this;exact this
    have a0:k=F1.app (.cons [bB C.l F] n1 a1 k1 (.cons [] n2 a2 k2 F3)):=by rw[HK.o,c4,p4,i3];rfl
    have d4:a+aR n.op n.b ((2*j:Nat):Int)=a:=by
     simp only[aR];rw[aN aA,aN aA];omega
    have d7:a+aR n.op n.b ((2*j+1:Nat):Int)=a+n.b:=by
     simp only[aR];rw[aN aA,LZ aA]
    have h7:n.b<=4:=by
     have:=h3.o;simp only[eU,ME]at this;have h1:=this.1.1;rw[bI]at h1;omega
    have y1:C.V.D1 a s1 n1 k1/\C.V.D1 (a+n.b) (C.V.S1 a s1 n1 k1) n2 k2:=by
     have h1:=n4.o;rw[a0,bT.D_app,bT.D_cons,bT.D_cons,c0,ML,d4,d7,<-a3.o]at h1;exact⟨h1.2.1,h1.2.2.1⟩
    obtain⟨f4,r2⟩:=y1;have s0:o1.length+(1+((C.V.E1 a s1 n1 a1 k1).length+(C.V.E1 (a+n.b) (C.V.S1 a s1 n1 k1) n2 a2 k2).length))<=C.M:=by
     have h1:=i1.o;rw[a0,bT.E_app,bT.E_cons,bT.E_cons,c0,ML,d4,d7,<-a3.o]at h1;rw[f0.o];simp only[MG,NJ,MN]at h1 ⊢;omega
    have h8:bS k1<m/\bS k2<m:=by
     have h1:=p1.o;rw[a0,iF]at h1;simp only[bS]at h1;omega
    have h6:a+4*bS k1<=1000000000000/\a+n.b+4*bS k2<=1000000000000:=by
     have h1:=HA.o;rw[a0,iF]at h1;simp only[bS]at h1;omega
    obtain⟨i6,i7⟩:=h8;obtain⟨i4,i5⟩:=h6;have s2:0<=a+n.b:=aA;have g7:=z.o.tm;rw[n0.o]at g7;obtain⟨C8,toff',l4,_,j0⟩:=g7.mem aA;injection l4 with l4;injection l4 with hA1 hA2;subst hA1 hA2;obtain⟨t0,t1,t2⟩:=j0 F y5;have h9:tb<wr.heap.size:=aA;have e0:=z.o.bt.cell;rw[n0.o]at e0;have A4:(0:Int)<=(F:Int):=aA;have A5:(F:Int)<(C.nn:Int):=by have:=e4.o;omega
    have C1:F<C.nn:=aA;have hbase:C.base<=wr.drew.heap.size:=by have:=HG.o.hbase;simp;omega
    have b2:o1.length+1<=5864062014805:=by have:=HG.o.hM;omega
    have z4:IntKind.i64.wrap (a+n.b)=a+n.b:=IntWalk.i64_in _ aA;obtain⟨i0,hi,s9,t3,t4⟩:=info_parts zZ;obtain⟨v3,x0,x1,x2,k5,b9,a9,c2⟩:=OH hi s9 t3 t4 b0 a0 c0 d4;obtain⟨d1,k7,n5,n9,n7,n8,m8,m9⟩:=OH d7 f4 r2 s0 i6 i7 i4 i5;obtain⟨w1,l1,w3,l2,k9,k6,o6⟩:=OL s2 g3 s4 g4 b2 hbase (z.o.drew HG.o).own;clear hi s9 t3 t4 b0 a0 c0 d4 d7 f4 r2 s0 i6 i7 i4 i5 s2 g3 s4 g4 b2 hbase b5 j6 j7 c4 p4 i3 g7 j0;have k0:=eb 0;have m6:=eb 1;have z7:=eb 2;go_wp2_with fail;refine wp_region_noPanic ?_;refine fW 7 (fun w'=>w'.cell? ⟨C.H,0,Y⟩=Z (U (Z ⟨tb,toff,Y⟩) C.nn C.c)/\w'.cell? ⟨C.H+1,0,Y⟩=Z (U e3 o1.length f1)/\w'.cell? ⟨C.H+5,0,Y⟩=Z (O X (F:Int))/\w'.cell? ⟨tb,toff+F*3,Y⟩=Z (O X (bB C.l F).op)/\w'.cell? ⟨tb,toff+F*3+1,Y⟩=Z (O X (bB C.l F).a)/\w'.cell? ⟨tb,toff+F*3+2,Y⟩=Z (O X (bB C.l F).b)) aF ⟨e0 0,e1 0,e5,t0,t1,t2⟩ (fun p8=>?_);refine a7 (i:=0) (v:=?_) rfl aC aC aC aC aC (fun _ _ _ h=>h) (Or.inl ⟨by rfl,?_⟩) aI ?_;rotate_left
    . (intro w hSw;(try dsimp only at hSw);go_simp);all_goals with_reducible rfl
    try simp only[Act.put,List.getElem_toArray,List.getElem_cons_zero,List.getElem_cons_succ,List.setIfInBounds_toArray,List.set_cons_zero,List.set_cons_succ]
    refine a7 (i:=1) (v:=?_) rfl aC aC aC aC aC (fun _ _ _ h=>h) (Or.inl ⟨by rfl,?_⟩) aI ?_;rotate_left
    . (intro w hSw;(try dsimp only at hSw);go_simp);all_goals with_reducible rfl
    try simp only[Act.put,List.getElem_toArray,List.getElem_cons_zero,List.getElem_cons_succ,List.setIfInBounds_toArray,List.set_cons_zero,List.set_cons_succ]
    refine a7 (i:=2) (v:=?_) rfl aC aC aC aC aC (fun _ _ _ h=>h) (Or.inl ⟨by rfl,?_⟩) aI ?_;rotate_left
    . (intro w hSw;(try dsimp only at hSw);go_simp);all_goals with_reducible rfl
    try simp only[Act.put,List.getElem_toArray,List.getElem_cons_zero,List.getElem_cons_succ,List.setIfInBounds_toArray,List.set_cons_zero,List.set_cons_succ]
    refine a7 (i:=3) (v:=?_) rfl aC aC aC aC aC (fun _ _ _ h=>h) (Or.inl ⟨by rfl,?_⟩) aI ?_;rotate_left
    . (intro w hSw;(try dsimp only at hSw);go_simp);all_goals with_reducible rfl
    try simp only[Act.put,List.getElem_toArray,List.getElem_cons_zero,List.getElem_cons_succ,List.setIfInBounds_toArray,List.set_cons_zero,List.set_cons_succ]
    refine a7 (i:=4) (v:=?_) rfl aC aC aC aC aC (fun _ _ _ h=>h) (Or.inl ⟨by rfl,?_⟩) aI ?_;rotate_left
    . (intro w hSw;(try dsimp only at hSw);go_simp);all_goals with_reducible rfl
    try simp only[Act.put,List.getElem_toArray,List.getElem_cons_zero,List.getElem_cons_succ,List.setIfInBounds_toArray,List.set_cons_zero,List.set_cons_succ]
    refine bW (i:=5) aC rfl rfl (fun K5 x8=>?_);go_simp;have q0:(wr.drew.alloc (Q #[O X (bB C.l F).op,O X (bB C.l F).a,O X (bB C.l F).b] 42)).cell? ⟨C.H,0,Y⟩=Z (U (Z ⟨tb,toff,Y⟩) C.nn C.c)/\(wr.drew.alloc (Q #[O X (bB C.l F).op,O X (bB C.l F).a,O X (bB C.l F).b] 42)).cell? ⟨C.H+1,0,Y⟩=Z (U e3 o1.length f1)/\(wr.drew.alloc (Q #[O X (bB C.l F).op,O X (bB C.l F).a,O X (bB C.l F).b] 42)).cell? ⟨C.H+5,0,Y⟩=Z (O X (F:Int))/\(wr.drew.alloc (Q #[O X (bB C.l F).op,O X (bB C.l F).a,O X (bB C.l F).b] 42)).cell? ⟨tb,toff+F*3,Y⟩=Z (O X (bB C.l F).op)/\(wr.drew.alloc (Q #[O X (bB C.l F).op,O X (bB C.l F).a,O X (bB C.l F).b] 42)).cell? ⟨tb,toff+F*3+1,Y⟩=Z (O X (bB C.l F).a)/\(wr.drew.alloc (Q #[O X (bB C.l F).op,O X (bB C.l F).a,O X (bB C.l F).b] 42)).cell? ⟨tb,toff+F*3+2,Y⟩=Z (O X (bB C.l F).b):=by
     have hc:∀b o,b<wr.heap.size->(wr.drew.alloc (Q #[O X (bB C.l F).op,O X (bB C.l F).a,O X (bB C.l F).b] 42)).cell? ⟨b,o,Y⟩=wr.cell? ⟨b,o,Y⟩:=fun b o hb=>(World.cell?_alloc_lt _ _ _ hb);rw[hc _ _ y6,hc _ _ y7,hc _ _ y8,hc _ _ h9,hc _ _ h9,hc _ _ h9];exact⟨e0 0,e1 0,e5,t0,t1,t2⟩
    refine x8.o _ _ (fun _=>q0) ?_;try simp only[Act.put,List.getElem_toArray,List.getElem_cons_zero,List.getElem_cons_succ,List.setIfInBounds_toArray,List.set_cons_zero,List.set_cons_succ]
    refine bW (i:=6) aC rfl rfl (fun K6 l5=>?_);refine cH (.tmp 44) (.tmp 49) 29 rfl C.base i0 Try.underlying29 v3.o x0.o x1.o x2.o (U e3 o1.length f1) o1 (bB C.l F) wr.drew aF aF o6.o _ aF aD k9.o k6.o ?_;intro A' c' w' a5 b1;have d0:=fun k hk=>(z.o.drew HG.o).rowKeep HG.o b1.grown (k:=k) hk;have zb:=(z.o.drew HG.o).bo.same (d0 _ (.inl ⟨by omega,by omega⟩));have zf:=zb.frozen;have z3:(Value.slice e3 o1.length f1).ownBlock≠Z tb:=fun e=>(z.o.hv _ e).2.1 p7;have l6:w'.cell? ⟨C.H,0,Y⟩=Z (U (Z ⟨tb,toff,Y⟩) C.nn C.c)/\w'.cell? ⟨C.H+1,0,Y⟩=Z (U e3 o1.length f1)/\w'.cell? ⟨C.H+5,0,Y⟩=Z (O X (F:Int))/\w'.cell? ⟨tb,toff+F*3,Y⟩=Z (O X (bB C.l F).op)/\w'.cell? ⟨tb,toff+F*3+1,Y⟩=Z (O X (bB C.l F).a)/\w'.cell? ⟨tb,toff+F*3+2,Y⟩=Z (O X (bB C.l F).b):=by
     have hc:=aP (d0 tb (.inr ⟨z3,h9⟩));rw[hc,hc,hc,aP (d0 C.H (.inl ⟨by omega,by omega⟩)),aP (d0 (C.H+1) (.inl ⟨by omega,by omega⟩)),aP (d0 (C.H+5) (.inl ⟨by omega,by omega⟩))];exact⟨e0 0,e1 0,e5,t0,t1,t2⟩
    have zc:=l6.2.1;refine l5.o _ _ (fun _=>l6) ?_;try simp only[Act.put,List.getElem_toArray,List.getElem_cons_zero,List.getElem_cons_succ,List.setIfInBounds_toArray,List.set_cons_zero,List.set_cons_succ]
    refine bW (i:=7) aC rfl rfl (fun K7 x9=>?_);go_simp;refine x9.o _ _ (fun h=>absurd rfl h) ?_;refine gV aC (NoPanic.normal ?_) _;have a8:=(z.o.drew HG.o).laid HG.o b1.grown a5 (fun g hg=>b1.new g hg);have l8:aW (w'.setCell ⟨C.H+1,0,Y⟩ (U A' (o1.length+1) c')) w.heap.size 42 #[O X n.op,O X n.a,O X n.b]:=aW.far (aW.same (show aW wr.drew _ _ _ from c7.o) (d0 _ (.inr ⟨d2.o,y9⟩))) aG _;have r9:=(e7.o.drew.trans (aS.of_grown b1.grown) (fun g hg=>b7.o g hg)).setCell (p:=⟨C.H+1,0,Y⟩) (.inr (.inl rfl)) (U A' (o1.length+1) c');have j1:dD (U Av o.length cv) (U A' (o1.length+1) c') w:=b7.o.trans (fun g hg=>b1.new g hg) e7.o.size;have j2:(Value.slice A' (o1.length+1) c').ownBlock≠Z w.heap.size:=fun e=>by
     rcases b1.new _ e with h|h
     . exact d2.o h
     simp at h;omega
    have d9:=a8.goOn HG.o ((F:Int)+1) (F+1) aA;have l9:=l8.far (p:=⟨C.H+5,0,Y⟩) aG (O X ((F:Int)+1));have m2:=r9.setCell (p:=⟨C.H+5,0,Y⟩) (.inr (.inr rfl)) (O X ((F:Int)+1));clear zb zc zf q0 l6 d0 b1 a5 p8 r9;generalize w'.setCell ⟨C.H+1,0,Y⟩ (U A' (o1.length+1) c')=w6 at a8 l8 d9 l9 m2 ⊢;have d5:w6.cell? ⟨C.H+5,0,Y⟩=Z (O X (F:Int)):=a8.ba.cell 0;have x4:=a8.ba.frozen;have d6:(w6.setCell ⟨C.H+5,0,Y⟩ (O X ((F:Int)+1))).cell? ⟨C.H+6,0,Y⟩=Z (.func (.func 90) #[] #[I (Z ⟨C.H,0,Y⟩),I (Z ⟨C.H+5,0,Y⟩),I (Z ⟨C.H+2,0,Y⟩),I (Z ⟨C.H+1,0,Y⟩),I (Z ⟨C.H+6,0,Y⟩)]):=d9.br.cell 0;have o8:=aB d9;have n3:=aB l9;have l0:=aB m2;have e9:=aB j1;have i2:=aB j2;clear a8 l8 d9 l9 m2 j1 j2 e0 e1 x5 e5 x6 e6 eb t0 t1 t2 k0 m6 z7;go_wp2_with fail;refine (HI.o _ _ (F+1) s1 _ _ n1 a1 k1 (C.l.drop q2) o8.o l1.o q4 m8.o k7.o (by have:=n9.o;rw[MG,List.length_singleton];omega) n7.o).mono ?_;rintro e w8 (⟨c9,rfl,b3,v8,b6,b4⟩|⟨c9,rfl,b3⟩);rotate_left
    . refine⟨rfl,.inr ⟨?_,rfl,l0.o.trans b3 e9.o⟩⟩;rw[bT.G1,b9.o,bT.G_app,bT.G_cons,a9.o,ML,c2.o,<-a3.o,c9];simp
    rw[NC,show C.l.length-(C.l.length-q2)=q2 by omega]at b6;have e2:aW w8 w.heap.size 42 #[O X n.op,O X n.a,O X n.b]:=aW.moved n3.o b3 (kD.S'_new HG.o aA) i2.o;have j3:v8.ownBlock≠Z w.heap.size:=fun e=>by
     rcases b4 _ e with h|h
     . exact i2.o h
     have:=n3.o.lt;omega
    have f7:=e9.o.trans b4 l0.o.size;have i8:=l0.o.trans b3 e9.o;have p6:w8.cell? ⟨C.H+6,0,Y⟩=Z (.func (.func 90) #[] #[I (Z ⟨C.H,0,Y⟩),I (Z ⟨C.H+5,0,Y⟩),I (Z ⟨C.H+2,0,Y⟩),I (Z ⟨C.H+1,0,Y⟩),I (Z ⟨C.H+6,0,Y⟩)]):=b6.br.cell 0;have pb:=e2.cell;have o9:=aB b6;have h0:=aB e2;have e8:=aB i8;have c3:=aB f7;have d3:=aB j3;clear b6 e2 b3 i8 b4 f7 j3 d5 x4 d6;go_wp2_with fail;refine (HI.o _ _ q2 _ _ _ n2 a2 k2 (C.l.drop q3) o9.o w3.o w1.o m9.o n5.o (by have:=n9.o;rw[MG,MG,List.length_singleton];omega) n8.o).mono ?_;rintro e w9 (⟨m0,rfl,c5,v9,g6,b8⟩|⟨m0,rfl,c5⟩);rotate_left
    . refine⟨rfl,.inr ⟨?_,rfl,e8.o.trans c5 c3.o⟩⟩;rw[bT.G1,b9.o,bT.G_app,bT.G_cons,bT.G_cons,a9.o,ML,c2.o,d1.o,<-a3.o,m0];simp
    rw[NC,show C.l.length-(C.l.length-q3)=q3 by omega]at g6;have q7:aW w9 w.heap.size 42 #[O X n.op,O X n.a,O X n.b]:=aW.moved h0.o c5 (kD.S'_new HG.o aA) d3.o;have c6:v9.ownBlock≠Z w.heap.size:=fun e=>by
     rcases b8 _ e with h|h
     . exact d3.o h
     have:=h0.o.lt;omega
    have f8:=c3.o.trans b8 e8.o.size;have i9:=e8.o.trans c5 c3.o;obtain⟨p0,t9,w0,o2,o4⟩:=OG g6 q7 i9 f8 c6;clear g6 q7 c5 i9 b8 f8 c6 p6 pb;go_wp2_with fail;go_roundw
    case rel =>
     refine⟨F1.app (.cons [bB C.l F] n1 a1 k1 (.cons [] n2 a2 k2 .nil)),F3,j+1,q3,v9,_,_,aB (by rw[b9.o,fH];rfl),l2,aB (by rw[eF,a9.o,LZ k5.o];simp only[bQ];omega),by omega,by go_num,by have:=e4.o;omega,p0,aB ?_,aB ?_,t9,w0,o2,o4,aB ?_⟩
     . rw[bT.S_app,bT.S_cons,bT.S_cons,a9.o,ML,c2.o,d1.o,<-a3.o];rfl
     . rw[bT.E_app,bT.E_cons,bT.E_cons,a9.o,ML,c2.o,d1.o,<-a3.o,f0.o];simp only[bT.E,NF,MY,NU]
     rw[bT.G_app,bT.G_cons,bT.G_cons,a9.o,ML,c2.o,d1.o,<-a3.o,k8.o,c9,m0];rfl
    case measure=>simp[intOf];omega
  have p2:(n.op==12)=false:=by simp[b0]
  have s6:=pX b0 r7;have b5:=l3.o;rw[s6]at b5;obtain⟨n1,a1,k1,F3,q2,c4,s5,j9,g3,g4⟩:=pQ b5 (by have:=e4.o;omega);have c0:bQ F1=j:=by have:=n6.o;rw[aN b0]at this;exact this
  have a0:k=F1.app (.cons [] n1 a1 k1 F3):=by rw[HK.o,c4]
  have f2:aR n.op n.b (j:Int)=cO n.op (j:Int):=by simp only[aR,cO,b0,false_and,if_false]
  have f4:C.V.D1 (a+cO n.op (j:Int)) s1 n1 k1:=by
   have h1:=n4.o;rw[a0,bT.D_app,bT.D_cons,c0,ML,f2,<-a3.o]at h1;exact h1.2.1
  have r8:o1.length+(C.V.E1 (a+cO n.op (j:Int)) s1 n1 a1 k1).length<=C.M:=by
   have h1:=i1.o;rw[a0,bT.E_app,bT.E_cons,c0,ML,f2,<-a3.o]at h1;rw[f0.o];simp only[MG,NJ]at h1 ⊢;omega
  have h8:bS k1<m:=by
   have h1:=p1.o;rw[a0,iF]at h1;simp only[bS]at h1;omega
  have q9:=eN h3.o (j:Int);rw[f2]at q9;obtain⟨r0,r1⟩:=q9;have h6:0<=a+cO n.op (j:Int):=aA;have q6:a+cO n.op (j:Int)+4*bS k1<=1000000000000:=by
   have h1:=HA.o;rw[a0,iF]at h1;simp only[bS]at h1;omega
  obtain⟨k5,b9,a9,g9,k7,v6,v2,t6⟩:=OH b0 a0 c0 f2 f4 r8 h8 h6;obtain⟨t7,l1,l2⟩:=OK q6 g3 g4;have z4:IntKind.i64.wrap (a+cO n.op (j:Int))=a+cO n.op (j:Int):=IntWalk.i64_in _ aA;clear a0 c0 f2 f4 r8 h8 h6 q6 g3 g4 s6 b5 b0 r0 r1 c4;have k0:=eb 0;have m6:=eb 1;have k2:=eb 2;go_wp2_with fail;refine fW 6 (fun w'=>w'.cell? ⟨C.H+6,0,Y⟩=Z (.func (.func 90) #[] #[I (Z ⟨C.H,0,Y⟩),I (Z ⟨C.H+5,0,Y⟩),I (Z ⟨C.H+2,0,Y⟩),I (Z ⟨C.H+1,0,Y⟩),I (Z ⟨C.H+6,0,Y⟩)])/\w'.cell? ⟨w.heap.size,0,Y⟩=Z (O X n.op)/\w'.cell? ⟨w.heap.size,1,Y⟩=Z (O X n.a)/\w'.cell? ⟨w.heap.size,2,Y⟩=Z (O X n.b)) aF ⟨e6,k0,m6,k2⟩ (fun p8=>?_);refine a7 (i:=0) (v:=?_) rfl aC aC aC aC aC (fun _ _ _ h=>h) (Or.inl ⟨by rfl,?_⟩) aI ?_;rotate_left
  . (intro w hSw;(try dsimp only at hSw);go_simp);all_goals with_reducible rfl
  try simp only[Act.put,List.getElem_toArray,List.getElem_cons_zero,List.getElem_cons_succ,List.setIfInBounds_toArray,List.set_cons_zero,List.set_cons_succ]
  refine a7 (i:=1) (v:=?_) rfl aC aC aC aC aC (fun _ _ _ h=>h) (Or.inl ⟨by rfl,?_⟩) aI ?_;rotate_left
  . (intro w hSw;(try dsimp only at hSw);go_simp);all_goals with_reducible rfl
  try simp only[Act.put,List.getElem_toArray,List.getElem_cons_zero,List.getElem_cons_succ,List.setIfInBounds_toArray,List.set_cons_zero,List.set_cons_succ]
  refine a7 (i:=2) (v:=?_) rfl aC aC aC aC aC (fun _ _ _ h=>h) (Or.inl ⟨by rfl,?_⟩) aI ?_;rotate_left
  . (intro w hSw;(try dsimp only at hSw);go_simp);all_goals with_reducible rfl
  try simp only[Act.put,List.getElem_toArray,List.getElem_cons_zero,List.getElem_cons_succ,List.setIfInBounds_toArray,List.set_cons_zero,List.set_cons_succ]
  refine a7 (i:=3) (v:=?_) rfl aC aC aC aC aC (fun _ _ _ h=>h) (Or.inl ⟨by rfl,?_⟩) aI ?_;rotate_left
  . (intro w hSw;(try dsimp only at hSw);go_simp);all_goals with_reducible rfl
  try simp only[Act.put,List.getElem_toArray,List.getElem_cons_zero,List.getElem_cons_succ,List.setIfInBounds_toArray,List.set_cons_zero,List.set_cons_succ]
  refine bW (i:=4) aC rfl rfl (fun K4 x7=>?_);go_simp;go_at_call 84
  refine (nH _ _ _ _ _).mono ?_;rintro e w7 ⟨rfl,rfl⟩;go_wp2_with fail;have p9:(wr.alloc (Q #[O X n.op,O X n.a,O X n.b] 42)).drew.cell? ⟨C.H+6,0,Y⟩=Z (.func (.func 90) #[] #[I (Z ⟨C.H,0,Y⟩),I (Z ⟨C.H+5,0,Y⟩),I (Z ⟨C.H+2,0,Y⟩),I (Z ⟨C.H+1,0,Y⟩),I (Z ⟨C.H+6,0,Y⟩)])/\(wr.alloc (Q #[O X n.op,O X n.a,O X n.b] 42)).drew.cell? ⟨w.heap.size,0,Y⟩=Z (O X n.op)/\(wr.alloc (Q #[O X n.op,O X n.a,O X n.b] 42)).drew.cell? ⟨w.heap.size,1,Y⟩=Z (O X n.a)/\(wr.alloc (Q #[O X n.op,O X n.a,O X n.b] 42)).drew.cell? ⟨w.heap.size,2,Y⟩=Z (O X n.b):=⟨(aW.alloc z.o.br _).cell 0,(aW.alloc c7.o _).cell 0,(aW.alloc c7.o _).cell 1,(aW.alloc c7.o _).cell 2⟩;refine x7.o _ _ (fun _=>p9) ?_;try simp only[Act.put,List.getElem_toArray,List.getElem_cons_zero,List.getElem_cons_succ,List.setIfInBounds_toArray,List.set_cons_zero,List.set_cons_succ]
  refine a7 (i:=5) (v:=?_) rfl aC aC aC aC aC (fun _ _ _ h=>h) (Or.inl ⟨by rfl,?_⟩) aI ?_;rotate_left
  . (intro w hSw;(try dsimp only at hSw);go_simp);all_goals with_reducible rfl
  try simp only[Act.put,List.getElem_toArray,List.getElem_cons_zero,List.getElem_cons_succ,List.setIfInBounds_toArray,List.set_cons_zero,List.set_cons_succ]
  refine bW (i:=6) aC rfl rfl (fun K6 l5=>?_);go_simp;have a8:=(z.o.below HG.o (aQ _ (Q #[O X n.op,O X n.a,O X n.b] 42))).drew HG.o;refine (HI.o _ _ F s1 o1 _ n1 a1 k1 (C.l.drop q2) a8 l1.o t6.o t7.o k7.o v6.o v2.o).mono ?_;rintro e w8 (⟨c9,rfl,b3,v8,b6,b4⟩|⟨c9,rfl,b3⟩);rotate_left
  . refine⟨rfl,.inr ⟨?_,rfl,(e7.o.alloc _).drew.trans b3 b7.o⟩⟩;rw[bT.G1,b9.o,bT.G_app,bT.G_cons,a9.o,ML,g9.o,<-a3.o,c9];simp
  refine l5.o _ _ (fun h=>absurd rfl h) ?_;refine gV aC ?_ _;have e2:aW w8 w.heap.size 42 #[O X n.op,O X n.a,O X n.b]:=aW.moved (show aW (wr.alloc (Q #[O X n.op,O X n.a,O X n.b] 42)).drew _ _ _ from aW.alloc c7.o _) b3 (kD.S'_new HG.o aA) d2.o;have c5:=(e7.o.alloc _).drew.trans b3 b7.o;have A9:w.heap.size+1<=(wr.alloc (Q #[O X n.op,O X n.a,O X n.b] 42)).drew.heap.size:=by simp;omega
  have b8:=b7.o.trans b4 aA;have c6:v8.ownBlock≠Z w.heap.size:=fun e=>by
   rcases b4 _ e with h|h
   . exact d2.o h
   omega
  obtain⟨h0,e8,c3,d3⟩:=OI e2 c5 b8 c6;rw[NC,show C.l.length-(C.l.length-q2)=q2 by omega]at b6;clear e2 c5 b8 c6 b3 b4 a8 p9;go_wp2_with fail;go_roundw
  case rel =>
   refine⟨F1.app (.cons [] n1 a1 k1 .nil),F3,j+1,q2,v8,_,_,aB (by rw[b9.o,fH];rfl),l2,aB (by rw[eF,a9.o,aN k5.o];rfl),by omega,by go_num,by have:=e4.o;omega,aB b6,aB ?_,aB ?_,h0,e8,c3,d3,aB ?_⟩
   . rw[bT.S_app,bT.S_cons,a9.o,ML,g9.o,<-a3.o];rfl
   . rw[bT.E_app,bT.E_cons,a9.o,ML,g9.o,<-a3.o,f0.o];simp only[bT.E,NF,MY,NU]
   rw[bT.G_app,bT.G_cons,a9.o,ML,g9.o,<-a3.o,k8.o,c9];rfl
  case measure=>simp[intOf];omega
section
theorem nB{σ:Type}(C:kD σ)(F:C.Good):∀(m:Nat)(w:OE)(v:Value)(q:Nat)(s:σ)(o:List Nd)(a:Int)(n:Nd)(D:List Nd)(k:Fo)(rest:List Nd),C.St w v q s o->pp [false] (C.l.drop q)=Z (.cons [] n D k .nil,rest)->0<=a->a+4*bS k<=1000000000000->C.V.D1 a s n k->o.length+(C.V.E1 a s n D k).length<=C.M->bS k<m →
      Calls Try.prog 90 #[O X a,I (Z ⟨C.H,0,Y⟩),I (Z ⟨C.H+5,0,Y⟩),I (Z ⟨C.H+2,0,Y⟩),I (Z ⟨C.H+1,0,Y⟩),I (Z ⟨C.H+6,0,Y⟩)] w (C.Post w v o (C.l.length-rest.length) (C.V.E1 a s n D k) (C.V.S1 a s n k) (C.V.G1 a s n k))
 | 0,_,_,_,_,_,_,_,_,_,_,_,_,_,_,_,_,h=>absurd h aA
 | m+1,w,v,q,s,o,a,n,D,k,rest,hst,hpp,ha0,ha1,hD,hM,hsz=>by
  by_cases G:n.op=2
  . exact zC C F m (nB C F m) w v q s o a n D k rest hst hpp ha0 ha1 hD hM aA G
  . exact zB C F m (nB C F m) w v q s o a n D k rest hst hpp ha0 ha1 hD hM aA G
theorem uD(er:Int)(w:OE):(Instr.typeAssert (.iface 151 (.agg #[O X er])) 20 151 true).run Try.prog w=.ok (.tuple #[.agg #[O X er],.bool true]) w:=by kernel_rfl
theorem wX(w:OE):(Instr.typeAssert .nilIface 20 151 true).run Try.prog w=.ok (.tuple #[.agg #[O X 0],.bool false]) w:=by kernel_rfl
def q8(D F:Nat)(er:Int)(w w':OE):Prop:=aS (fun k=>k=D\/k=F) Y w w'/\aW w' D 29 #[U Y 0 0]/\aW w' F 34 #[O X er]
theorem xD{D F:Nat}{x y:Value}{er:Int}{w:OE}(G:D≠F)(h:aW w D 29 #[x])(z:aW w F 34 #[y])(o:Obj):
 q8 D F er w (((w.setCell ⟨D,0,Y⟩ (U Y 0 0)).setCell ⟨F,0,Y⟩ (O X er)).alloc o).drew:=by
 refine⟨((((aS.refl _ _ w).setCell (p:=⟨D,0,Y⟩) (.inl rfl) _).setCell (p:=⟨F,0,Y⟩) (.inr rfl) _).alloc _).drew,?_,?_⟩
 . have:=((h.set_ 0 (U Y 0 0)).far (p:=⟨F,0,Y⟩) G (O X er)).alloc o;exact (by simpa using this:aW (((w.setCell ⟨D,0,Y⟩ (U Y 0 0)).setCell ⟨F,0,Y⟩ (O X er)).alloc o) D 29 #[U Y 0 0])
 have:=((z.far (p:=⟨D,0,Y⟩) (Ne.symm G) (U Y 0 0)).set_ 0 (O X er)).alloc o;exact (by simpa using this:aW (((w.setCell ⟨D,0,Y⟩ (U Y 0 0)).setCell ⟨F,0,Y⟩ (O X er)).alloc o) F 34 #[O X er])
theorem xB(F G:Nat)(hp:F≠G)(x y:Value)(er:Int)(D:List PanicEntry)(w:OE)(h:aW w F 29 #[x])(z:aW w G 34 #[y]):
 CallsD Try.prog 89 #[I (Z ⟨F,0,Y⟩),I (Z ⟨G,0,Y⟩)] (.panicking ({ v:=.iface 151 (.agg #[O X er]),recovered:=false }::D)) w fun e u' w' =>
  e=.returned (.tuple #[])/\u'=.panicking ({ v:=.iface 151 (.agg #[O X er]),recovered:=true }::D)/\q8 F G er w w':=by
 have c1:=h.cell;have c2:=z.cell;have f1:=h.frozen;have f2:=z.frozen;refine callsD_of_wpS Try.func89 rfl fun c₀ cs hu=>?_;apply wpS_seq;apply wpS_region;simp[wpOpsS,go_sem,recoverD,hu,Try.ntmps89,Exit.thenS,uD];apply wpS_seq;apply wpS_region;simp[wpOpsS,go_sem,Exit.thenS];refine wpS_cond (t:=true) (by simp[Act.eval,Array.replicate]) ?_;simp only[if_true];refine wpS_of_wp ?_;simp only[Array.replicate];have a0:=h.lt;have a1:=z.lt;have a4:G≠F:=Ne.symm hp;have a2:w.heap.size≠F:=aA;have a3:w.heap.size≠G:=aA;go_region
 all_goals
  simp[bodyPostS,results,Try.results89,go_sem];exact xD hp h z _
theorem xC(G h:Nat)(w:OE):
 CallsD Try.prog 89 #[I (Z ⟨G,0,Y⟩),I (Z ⟨h,0,Y⟩)] .returning w fun e z w' =>
  e=.returned (.tuple #[])/\z=.returning/\w'=w.alloc (Q #[O X 0] 151):=by
 refine callsD_of_wpS Try.func89 rfl fun D cs F=>?_;apply wpS_seq;apply wpS_region;simp[wpOpsS,go_sem,recoverD,F,Try.ntmps89,Exit.thenS,wX];apply wpS_seq;apply wpS_region;simp[wpOpsS,go_sem,Exit.thenS];refine wpS_cond (t:=false) (by simp[Act.eval,Array.replicate]) ?_;simp only[Bool.false_eq_true,if_false];refine wpS_of_wp (wp_skip ?_);cases D
 simp_all [bodyPostS,results,Try.results89]
structure jC {σ:Type} (V:bT σ) (fn:FuncId) (caps:Array Value) (J:World->σ->Prop) (KK S:Nat->Prop) (base:Nat) (er:Int) (M:Nat) (R:Nat->Prop) (w:OE) (A:OC) (nn c:Nat) (l:List Nd) (v:Value) (s:σ) (o:List Nd):Prop where
 hbase:base<=w.heap.size
 hR:∀b,R b->b<w.heap.size/\¬ S b
 hK:∀b,KK b->b<w.heap.size
 hS:∀b,S b->KK b
 hJ:∀w w' s,J w s->(∀k,KK k->w'.heap[k]? = w.heap[k]?)->J w' s
 hM:M<=1000000000000
 en:∀args w,(callFunc fn args).run Try.prog w=.ok (.enter fn args) w
 one:tW Try.prog fn caps V J KK S base w.heap.size [{ v:=.iface 151 (.agg #[O X er]),recovered:=false }] M
 tm:a6 R w A nn c l
 own:bG w base v o
 j:J w s
 hv:∀g,v.ownBlock=Z g->¬ KK g/\¬ R g
def oK{σ:Type}(V:bT σ)(J:World->σ->Prop)(S:Nat->Prop)(base:Nat)(er:Int)(w:OE)(v:Value)(s:σ)(o:List Nd)(n:Nd)(D:List Nd)(k:Fo)(e:Ending)(w':OE):Prop :=
 aS S v.ownBlock w w'/\((V.G1 0 s n k=true/\J w' (V.S1 0 s n k)/\∃F,e=.returned (.tuple #[F,O X 0])/\bG w' base F (o++V.E1 0 s n D k)/\dD v F w) ∨
  (V.G1 0 s n k=false/\e=.returned (.tuple #[U Y 0 0,O X er])))
section
variable {σ : Type}{V : bT σ}{fn : FuncId}{caps : Array Value}{J : World->σ->Prop}{KK S : Nat->Prop}{base : Nat}{er : Int}{M : Nat}{R : Nat->Prop}{w : OE}{A : OC}{nn c : Nat}{l : List Nd}{v : Value}{s : σ}{o : List Nd}
def fF(V:bT σ)(fn:FuncId)(caps:Array Value)(J:World->σ->Prop)(KK S:Nat->Prop)(base:Nat)(er:Int)(M:Nat)(R:Nat->Prop)(H:Nat)(A:OC)(nn c:Nat)(l:List Nd):kD σ :=
 { H:=H,base:=base,A:=A,nn:=nn,c:=c,l:=l,R:=R,KK:=KK,S:=S,fn:=fn,caps:=caps,J:=J,V:=V,pan:=[{ v:=.iface 151 (.agg #[O X er]),recovered:=false }],M:=M }
theorem jC.good(h:jC V fn caps J KK S base er M R w A nn c l v s o):(fF V fn caps J KK S base er M R w.heap.size A nn c l).Good :=
 ⟨h.hbase,h.hR,h.hK,h.hS,h.hJ,h.hM,h.en,h.one⟩
def iR(w:OE)(A:OC)(nn c:Nat)(v:Value)(fn:FuncId)(caps:Array Value):World :=
 (((((((w.alloc (Q #[U A nn c] 29)).alloc (Q #[v] 29)).alloc (Q #[.func (.func fn) #[] caps] 129)).alloc (Q #[U Y 0 0] 29)).alloc (Q #[O X 0] 34)).alloc (Q #[O X 0] 3)).alloc
  (Q #[.func (.func 90) #[] #[I (Z ⟨w.heap.size,0,Y⟩),I (Z ⟨w.heap.size+5,0,Y⟩),I (Z ⟨w.heap.size+2,0,Y⟩),I (Z ⟨w.heap.size+1,0,Y⟩),I (Z ⟨w.heap.size+6,0,Y⟩)]] 142))
theorem eM(w:OE)(A:OC)(nn c:Nat)(v:Value)(fn:FuncId)(caps:Array Value):OB w (iR w A nn c v fn caps) :=
 (((((((MC _ _).alloc aD _).alloc aD _).alloc aG _).alloc aG _).alloc aG _).alloc aG _).alloc aG _
theorem jC.start(h:jC V fn caps J KK S base er M R w A nn c l v s o):(fF V fn caps J KK S base er M R w.heap.size A nn c l).St (iR w A nn c v fn caps) v 0 s o/\aW (iR w A nn c v fn caps) (w.heap.size+3) 29 #[U Y 0 0]/\aW (iR w A nn c v fn caps) (w.heap.size+4) 34 #[O X 0]:=by
 have D:=eM w A nn c v fn caps;refine⟨⟨?_,?_,?_,?_,?_,?_,?_,?_,?_⟩,?_,?_⟩
 . exact (((((((aW.new' rfl).alloc _).alloc _).alloc _).alloc _).alloc _).alloc _)
 . exact ((((((aW.new' (by simp[fF])).alloc _).alloc _).alloc _).alloc _).alloc _)
 . exact (((((aW.new' (by simp[fF])).alloc _).alloc _).alloc _).alloc _)
 . exact ((aW.new' (by simp[fF])).alloc _)
 . exact (aW.new' (by simp[fF]<;>rfl))
 . exact h.tm.keep fun b hR=>⟨hR,fun o=>aP (D.block b (h.hR b hR).1) o⟩
 . exact h.own.below D
 . exact h.hJ _ _ _ h.j fun k G=>D.block k (h.hK k G)
 . intro g F;exact⟨(h.hv g F).1,(h.hv g F).2,.inl (aV h.own F).2.1⟩
 . exact ((((aW.new' aD).alloc _).alloc _).alloc _)
 exact (((aW.new' aD).alloc _).alloc _)
end
theorem qF{σ:Type}{V:bT σ}{fn:FuncId}{caps:Array Value}{J:World->σ->Prop}{KK S:Nat->Prop}{base:Nat}{er:Int}{M:Nat}{R:Nat->Prop}{w:OE}{A:OC}{nn c:Nat}{l:List Nd}{v:Value}{s:σ}{o:List Nd}
 (a5:jC V fn caps J KK S base er M R w A nn c l v s o) {n:Nd} {D:List Nd} {k:Fo} (b2:pp [false] l=Z (.cons [] n D k .nil,[])) (b6:4*bS k<=1000000000000) (hD:V.D1 0 s n k) (a3:o.length+(V.E1 0 s n D k).length<=M) :
 Calls Try.prog 71 #[U A nn c,v,.func (.func fn) #[] caps] w (oK V J S base er w v s o n D k):=by
 obtain⟨Av,cv,rfl⟩:=a5.own.slice;have c7:∀(fn:Fn)(first cap:Array Value)(w:OE),(Instr.makeFunc fn first cap).run Try.prog w=.ok (.func fn first cap) w:=fun _ _ _ _=>rfl;obtain⟨F,b9,c0,HD,a9⟩:=OG a5 b2 b6 hD a3;clear a5 b2 b6 hD a3;go_enter_defers Try.func71,Try.ntmps71
 go_wp2_with fail;obtain⟨b5,a6,a7⟩:=F.o.start;refine (nB _ F.o.good (bS k+1) (iR w A nn c (U Av o.length cv) fn caps) _ 0 s o 0 n D k [] b5 b9.o aA (by have:=c0.o;omega) HD.o a9.o aA).mono ?_;rintro e w8 (⟨hg,rfl,hm,v8,G,a1⟩|⟨hg,rfl,hm⟩);rotate_left
 . have hS:∀j,j=3\/j=4->¬ (fF V fn caps J KK S base er M R w.heap.size A nn c l).S' (w.heap.size+j):=fun j hj hs=>by
    rcases hs with h|h|h
    . have:=F.o.hK _ (F.o.hS _ h);omega
    . simp only[fF]at h;omega
    simp only[fF]at h;omega
   have hO:∀j,(Value.slice Av o.length cv).ownBlock≠Z (w.heap.size+j):=fun j e=>by have:=(aV F.o.own e).2.1;omega
   have b3:aW w8 (w.heap.size+1+1+1) 29 #[U Y 0 0]:=a6.moved hm (hS 3 (.inl rfl)) (hO 3);have b4:aW w8 (w.heap.size+1+1+1+1) 34 #[O X 0]:=a7.moved hm (hS 4 (.inr rfl)) (hO 4);refine leaves_cons (f:=89) (args:=#[I (Z ⟨w.heap.size+1+1+1,0,Y⟩),I (Z ⟨w.heap.size+1+1+1+1,0,Y⟩)]) aD (by simp[go_sem]) ?_;refine (xB (w.heap.size+1+1+1) (w.heap.size+1+1+1+1) aA _ _ er [] w8 b3 b4).mono ?_;rintro e u' wf ⟨rfl,rfl,a0,c1,c2⟩;have q3:wf.cell? ⟨w.heap.size+1+1+1,0,Y⟩=Z (U Y 0 0):=c1.cell 0;have q4:wf.cell? ⟨w.heap.size+1+1+1+1,0,Y⟩=Z (O X er):=c2.cell 0;have HP:Hid (oK V J S base er w (U Av o.length cv) s o n D k (.returned (.tuple #[U Y 0 0,O X er])) wf):=by
    refine⟨?_,.inr ⟨hg,rfl⟩⟩;have h1:=aS.over (S:=S) (eM w A nn c (U Av o.length cv) fn caps) hm (fun k hk hs=>by
     rcases hs with h|h|h
     . exact h
     . simp only[fF]at h;omega
     simp only[fF]at h;omega)
    refine⟨a0.os.trans h1.os,a0.tape.trans h1.tape,a0.output.trans h1.output,MO h1.size a0.size,fun g b1 c5 c6=>?_⟩;exact (a0.block g (MD b1 h1.size) aA aD).trans (h1.block g b1 c5 c6)
   simp[Leaves,settle,results,Try.results71,go_sem,q3,q4];exact HP.o
 obtain⟨z,c8,rfl⟩:=G.own.slice;have hS:∀j,j=3\/j=4->¬ (fF V fn caps J KK S base er M R w.heap.size A nn c l).S' (w.heap.size+j):=fun j hj hs=>by
  rcases hs with h|h|h
  . have:=F.o.hK _ (F.o.hS _ h);omega
  . simp only[fF]at h;omega
  simp only[fF]at h;omega
 have hO:∀j,(Value.slice Av o.length cv).ownBlock≠Z (w.heap.size+j):=fun j e=>by have:=(aV F.o.own e).2.1;omega
 have b3:aW w8 (w.heap.size+1+1+1) 29 #[U Y 0 0]:=a6.moved hm (hS 3 (.inl rfl)) (hO 3);have b4:aW w8 (w.heap.size+1+1+1+1) 34 #[O X 0]:=a7.moved hm (hS 4 (.inr rfl)) (hO 4);have e1:w8.cell? ⟨w.heap.size+1,0,Y⟩=Z (U z (o++(fF V fn caps J KK S base er M R w.heap.size A nn c l).V.E1 0 s n D k).length c8):=G.bo.cell 0;have c3:=b3.cell;have c4:=b4.cell;have f3:=b3.frozen;have f4:=b4.frozen;have B3:=aB b3;have B4:=aB b4;have HM:=aB hm;have a2:=aB G;have b8:=aB a1;have b7:=aB hg;clear b3 b4 hm G a1 hg b5 a6 a7 hS hO;go_wp2_with fail;refine leaves_cons (f:=89) (args:=#[I (Z ⟨w.heap.size+1+1+1,0,Y⟩),I (Z ⟨w.heap.size+1+1+1+1,0,Y⟩)]) aD (by simp[go_sem]) ?_;refine (xC _ _ _).mono ?_;rintro e u' c9 ⟨rfl,rfl,rfl⟩;have r3:=((B3.o.set_ 0 (.slice z (o.length+((fF V fn caps J KK S base er M R w.heap.size A nn c l).V.E1 0 s n D k).length) c8)).far (p:=⟨w.heap.size+1+1+1+1,0,Y⟩) aD (O X 0)).alloc (Q #[O X 0] 151);have r4:=((B4.o.far (p:=⟨w.heap.size+1+1+1,0,Y⟩) aD (.slice z (o.length+((fF V fn caps J KK S base er M R w.heap.size A nn c l).V.E1 0 s n D k).length) c8)).set_ 0 (O X 0)).alloc (Q #[O X 0] 151);have a8:∀g,(Value.slice z (o.length+(V.E1 0 s n D k).length) c8).ownBlock=Z g->g<w.heap.size\/w.heap.size+7<=g:=fun g hg=>(a2.o.hv g (by rw[MG];exact hg)).2.2;have a4:bG (((w8.setCell ⟨w.heap.size+1+1+1,0,Y⟩ (.slice z (o.length+((fF V fn caps J KK S base er M R w.heap.size A nn c l).V.E1 0 s n D k).length) c8)).setCell ⟨w.heap.size+1+1+1+1,0,Y⟩ (O X 0)).alloc (Q #[O X 0] 151)) base (.slice z (o.length+((fF V fn caps J KK S base er M R w.heap.size A nn c l).V.E1 0 s n D k).length) c8) (o++V.E1 0 s n D k):=by
  have h1:=a2.o.own;rw[MG]at h1;refine bG.alloc ?_ _;refine ownsRow_setCell_other (ownsRow_setCell_other h1 ?_ _) ?_ _
  . intro e;have:=a8 _ e;simp at this;omega
  intro e;have:=a8 _ e;simp at this;omega
 have b0:=((((aS.over (S:=S) (eM w A nn c (U Av o.length cv) fn caps) HM.o (fun k hk hs=>by
  rcases hs with h|h|h
  . exact h
  . simp only[fF]at h;omega
  simp only[fF]at h;omega)).setNew (p:=⟨w.heap.size+1+1+1,0,Y⟩) aG (.slice z (o.length+((fF V fn caps J KK S base er M R w.heap.size A nn c l).V.E1 0 s n D k).length) c8)).setNew (p:=⟨w.heap.size+1+1+1+1,0,Y⟩) aG (O X 0)).alloc (Q #[O X 0] 151))
 have hj:J (((w8.setCell ⟨w.heap.size+1+1+1,0,Y⟩ (.slice z (o.length+((fF V fn caps J KK S base er M R w.heap.size A nn c l).V.E1 0 s n D k).length) c8)).setCell ⟨w.heap.size+1+1+1+1,0,Y⟩ (O X 0)).alloc (Q #[O X 0] 151)) (V.S1 0 s n k):=F.o.hJ _ _ _ a2.o.j (fun g hg=>by
  have h1:=F.o.hK g hg;have h2:=a2.o.size;simp only[fF]at h2;rw[Below.heap_alloc _ _ _ (by simp[World.setCell];omega),MH _ _ _ _ aG,MH _ _ _ _ aG])
 have a1:dD (U Av o.length cv) (.slice z (o.length+((fF V fn caps J KK S base er M R w.heap.size A nn c l).V.E1 0 s n D k).length) c8) w:=fun g hg=>(b8.o g (by rw[MG];exact hg)).imp id (fun h=>MO (eM w A nn c (U Av o.length cv) fn caps).size h);have HP:Hid (oK V J S base er w (U Av o.length cv) s o n D k (.returned (.tuple #[.slice z (o.length+((fF V fn caps J KK S base er M R w.heap.size A nn c l).V.E1 0 s n D k).length) c8,O X 0])) (((w8.setCell ⟨w.heap.size+1+1+1,0,Y⟩ (.slice z (o.length+((fF V fn caps J KK S base er M R w.heap.size A nn c l).V.E1 0 s n D k).length) c8)).setCell ⟨w.heap.size+1+1+1+1,0,Y⟩ (O X 0)).alloc (Q #[O X 0] 151))) :=
  ⟨b0,.inl ⟨b7.o,hj,_,rfl,a4,a1⟩⟩
 clear b0 a4 hj a1 a8 c3 c4 f3 f4 e1;generalize (((w8.setCell ⟨w.heap.size+1+1+1,0,Y⟩ (.slice z (o.length+((fF V fn caps J KK S base er M R w.heap.size A nn c l).V.E1 0 s n D k).length) c8)).setCell ⟨w.heap.size+1+1+1+1,0,Y⟩ (O X 0)).alloc (Q #[O X 0] 151))=wf at r3 r4 HP ⊢;have q3:wf.cell? ⟨w.heap.size+1+1+1,0,Y⟩=Z (.slice z (o.length+((fF V fn caps J KK S base er M R w.heap.size A nn c l).V.E1 0 s n D k).length) c8):=r3.cell 0;have q4:wf.cell? ⟨w.heap.size+1+1+1+1,0,Y⟩=Z (O X 0):=r4.cell 0;simp[Leaves,settle,results,Try.results71,go_sem,q3,q4];exact HP.o
end
def fX(up fr:Int):bT Unit where
 em:=fun _ n a=>if n.op=1/\fr+a<=n.a then [⟨n.op,n.a+up,n.b⟩] else [n]
 nx:=fun _ _ _=>()
 ok:=fun _ n a=>if n.op=1/\fr+a<=n.a then decide (up<=1048576-n.a) else true
 dm:=fun _ _ _=>True
def LK(pf D:Nat)(up fr:Int)(w:OE)(_:Unit):Prop:=aW w pf 3 #[O X fr]/\aW w D 3 #[O X up]
def LL(pf D:Nat)(k:Nat):Prop:=k=pf\/k=D
theorem IC{up fr:Int}{n:Nd}{a:Int}(h:¬ (n.op=1/\fr+a<=n.a)):(fX up fr).em () n a=[n]/\(fX up fr).ok () n a=true:=⟨aN h,aN h⟩
theorem KN{up fr:Int}{n:Nd}{a:Int}(h:n.op=1/\fr+a<=n.a):(fX up fr).em () n a=[⟨n.op,n.a+up,n.b⟩]/\(fX up fr).ok () n a=decide (up<=1048576-n.a):=⟨LZ h,LZ h⟩
theorem pT{pf pb:Nat}{up fr:Int}{base:Nat}{pan:List PanicEntry}{w W w':OE}{s:Unit}{v:Value}{z:OC}{m c':Nat}{o:List Nd}{n x:Nd}{a:Int}{xs:List Value}(hf:aW w pf 3 #[O X fr])(hp:aW w pb 3 #[O X up])(hk:∀k,v.ownBlock=Z k->¬ LL pf pb k)
 (G:OB w W) (F:bG w' base (U z m c') (o++[x])) (D:eE W w' base 42 3 v z m c' xs) (he:(fX up fr).em () n a=[x]) (a0:(fX up fr).ok () n a=true) :
 kW (fX up fr) (LK pf pb up fr) (fun _=>False) base pan w s v o n a (.returned (U z m c')) w':=by
 refine .inl ⟨a0,(aS.of_below G).trans (aS.of_grown D.grown) (fun g hg=>.inl hg),⟨?_,?_⟩,_,rfl,?_,fun g hg=>(D.new g hg).imp id (fun h=>MO G.size h)⟩
 . exact (hf.below G hf.lt).grown D.grown (fun e=>hk _ e.symm (.inl rfl))
 . exact (hp.below G hp.lt).grown D.grown (fun e=>hk _ e.symm (.inr rfl))
 show bG w' base _ (o++(fX up fr).em () n a);rw[he];exact F
theorem yR{pf pb:Nat}{up fr:Int}{base H M:Nat}(d2:pf<H)(d1:pb<H)(hb:base<=H)(hM:M<=1000000000000)(c3:0<=up)(c4:up<=9223372036854775807)(b9:0<=fr)(c0:fr<=1000000000000):
 tW Try.prog 100 #[I (Z ⟨pf,0,Y⟩),I (Z ⟨pb,0,Y⟩)] (fX up fr) (LK pf pb up fr) (LL pf pb) (fun _=>False) base H [{ v:=.iface 151 (.agg #[O X 6]),recovered:=false }] M:=by
 intro w s v o n a hH hj z b3 b1 _ c6 c7 a1;obtain⟨Av,cv,rfl⟩:=z.slice;obtain⟨b0,a9⟩:=hj;have b4:bR n.op n.a n.b=true:=by simp only[eU,ME]at b1;exact b1.1.1
 obtain⟨c1,c2⟩:=gQ b4;have cf:=b0.cell;have cb:=a9.cell;have d0:pf<w.heap.size:=aA;have c9:pb<w.heap.size:=aA;have c8:base<=w.heap.size:=aA;obtain⟨i0,hi,b5,b6,b7⟩:=info_parts zZ;obtain⟨a2,a6,a7,a8,G,a4,a3,a5⟩:=OH hi b5 b6 b7 z b0 a9 b3;have a0:=aB a1;clear hi b5 b6 b7 z b0 a9 b3 b1 b4 a1;show Calls Try.prog 100 #[U Av o.length cv,.agg #[O X n.op,O X n.a,O X n.b],O X a,I (Z ⟨pf,0,Y⟩),I (Z ⟨pb,0,Y⟩)] w _;by_cases h1:n.op=1/\fr+a<=n.a
 . have⟨h2,h3⟩:=h1;have b2:(n.op==1)=true:=by simp[h2]
   have d3:IntKind.i64.wrap (fr+a)=fr+a:=IntWalk.i64_in _ aA;obtain⟨he,hk⟩:=KN (up:=up) h1;obtain⟨HE,HK,H1⟩:=OK he hk h1;clear he hk h1 h2;by_cases h4:up<=1048576-n.a
   . have hl:o.length+1<=1000000000000:=by have:=a0.o;rw[HE.o]at this;simp at this;omega
     have b8:decide (1048576-n.a<up)=false:=by simp;omega
     go_in;go_wp2_with (at_builtin;refine bL rfl (cH (.tmp 32) (.tmp 34) 29 rfl base i0 Try.underlying29 a2.o a6.o a7.o a8.o (U Av o.length cv) o ⟨n.op,n.a+up,n.b⟩ (w.alloc (Q #[O X n.op,O X (n.a+up),O X n.b] 42)) aF aF (G.o.alloc _) _ aF aD aA aG ?_);intro A' c' w' D F)
     go_ret;exact pT a4.o a3.o a5.o (aQ _ _) D F HE.o (by rw[HK.o];simpa using h4)
   have b8:1048576-n.a<up:=aA;go_in;go_wp2_with fail;exact⟨rfl,.inr ⟨by rw[HK.o];simp;omega,rfl,aS.of_below (aQ _ _)⟩⟩
 obtain⟨he,hk⟩:=IC (up:=up) h1;obtain⟨HE,HK⟩:=OF he hk;have hl:o.length+1<=1000000000000:=by have:=a0.o;rw[he]at this;simp at this;omega
 clear he hk;by_cases h2:n.op=1
 . have b2:(n.op==1)=true:=by simp[h2]
   have c5:decide (fr+a<=n.a)=false:=by simp;have:=fun h=>h1 ⟨h2,h⟩;omega
   clear h1 h2;go_in;go_wp2_with (at_builtin;refine bL rfl (cH (.tmp 32) (.tmp 34) 29 rfl base i0 Try.underlying29 a2.o a6.o a7.o a8.o (U Av o.length cv) o n (w.alloc (Q #[O X n.op,O X n.a,O X n.b] 42)) aF aF (G.o.alloc _) _ aF aD aA aG ?_);intro A' c' w' D F)
   go_ret;exact pT a4.o a3.o a5.o (aQ _ _) D F HE.o HK.o
 have b2:(n.op==1)=false:=by simp[h2]
 clear h1 h2;go_in;go_wp2_with (at_builtin;refine bL rfl (cH (.tmp 32) (.tmp 34) 29 rfl base i0 Try.underlying29 a2.o a6.o a7.o a8.o (U Av o.length cv) o n (w.alloc (Q #[O X n.op,O X n.a,O X n.b] 42)) aF aF (G.o.alloc _) _ aF aD aA aG ?_);intro A' c' w' D F)
 go_ret;exact pT a4.o a3.o a5.o (aQ _ _) D F HE.o HK.o
def wU(up fr:Int)(base:Nat)(w:OE)(v:Value)(o:List Nd)(n:Nd)(D:List Nd)(k:Fo)(e:Ending)(w':OE):Prop :=
 aS (fun _=>False) v.ownBlock w w'/\(((fX up fr).G1 0 () n k=true/\∃F,e=.returned (.tuple #[F,O X 0])/\bG w' base F (o++(fX up fr).E1 0 () n D k)/\dD v F w)\/((fX up fr).G1 0 () n k=false/\e=.returned (.tuple #[U Y 0 0,O X 6])))
theorem FB(up fr:Int)(G h:Int):∀(j:Nat)(a:Int)(F:Fo),(fX up fr).D G h j a () F
 | _,_,.nil=>trivial
 | j,a,.cons p n at' k x=>by
  rw[bT.D_cons];exact⟨⟨trivial,FB up fr _ _ _ _ k⟩,FB up fr G h (j+1) a x⟩
theorem gS{up fr:Int}{base:Nat}{R:Nat->Prop}{w:OE}{A:OC}{nn c:Nat}{l:List Nd}{v:Value}{o:List Nd}(hb:base<=w.heap.size)(hR:∀b,R b->b<w.heap.size)(b0:a6 R w A nn c l)(D:bG w base v o)(hv:∀g,v.ownBlock=Z g->¬ R g)
 {n:Nd} {a2:List Nd} {k:Fo} (a8:pp [false] l=Z (.cons [] n a2 k .nil,[])) (a9:4*bS k<=1000000000000) (a0:o.length+((fX up fr).E1 0 () n a2 k).length<=1000000000000) (b1:0<=up) (b2:up<=9223372036854775807) (a4:0<=fr) (a5:fr<=1000000000000) :
 Calls Try.prog 88 #[v,U A nn c,O X up,O X fr] w (wU up fr base w v o n a2 k):=by
 obtain⟨Av,cv,rfl⟩:=D.slice;have b4:∀(fn:Fn)(first cap:Array Value)(w:OE),(Instr.makeFunc fn first cap).run Try.prog w=.ok (.func fn first cap) w:=fun _ _ _ _=>rfl;have G:=cB w (Q #[O X up] 3) (Q #[O X fr] 3);have a7:jC (fX up fr) 100 #[I (Z ⟨w.heap.size+1,0,Y⟩),I (Z ⟨w.heap.size,0,Y⟩)] (LK (w.heap.size+1) w.heap.size up fr) (LL (w.heap.size+1) w.heap.size) (fun _=>False) base 6 1000000000000 R ((w.alloc (Q #[O X up] 3)).alloc (Q #[O X fr] 3)) A nn c l (U Av o.length cv) () o:=by
  refine⟨by simp;omega,fun b h=>⟨by have:=hR b h;simp;omega,fun h=>h⟩,fun b h=>by rcases h with h|h<;>subst h<;>simp<;>omega,fun b h=>h.elim,?_,MF _,fun _ _=>by kernel_rfl,yR aD aH aG (MF _) b1 b2 a4 a5,?_,D.below G,?_,fun g z=>⟨fun h=>?_,hv g z⟩⟩
  . intro w1 w2 s h hk;exact⟨h.1.same (hk _ (.inl rfl)),h.2.same (hk _ (.inr rfl))⟩
  . exact b0.keep fun b h=>⟨h,fun o=>aP (G.block b (hR b h)) o⟩
  . exact⟨aW.new' aD,(aW.new _ _ _).alloc _⟩
  have:=(aV D z).2.1;rcases h with h|h<;>omega
 have F:=qF a7 a8 a9 ⟨trivial,FB up fr _ _ _ _ k⟩ a0;obtain⟨HW,a1⟩:=OF F G;clear F a7 G b0 D a8 a9 a0 hv hR;go_in;go_wp2_with fail;refine HW.o.mono ?_;rintro e w' ⟨hm,(⟨z,hj,v',rfl,a3,b3⟩|⟨z,rfl⟩)⟩
 . go_wp2_with fail;go_ret2;exact⟨aS.over a1.o hm (fun _ _ h=>h),.inl ⟨z,_,rfl,a3,fun g z=>(b3 g z).imp id (fun h=>MO a1.o.size h)⟩⟩
 go_wp2_with fail;go_ret2;exact⟨aS.over a1.o hm (fun _ _ h=>h),.inr ⟨z,rfl⟩⟩
structure AT (τ:Type) where
 an:τ->Int->Int->Bool
 nx:τ->Int->Int->τ
def q9(P:Program)(F:FuncId)(D:Array Value){τ:Type}(T:AT τ)(J:World->τ->Prop)(S:Nat->Prop)(H:Nat):Prop :=
 ∀(w:OE)(t:τ)(v a:Int),H<=w.heap.size->J w t->0<=v->v<=1048576->0<=a->a<=1000000000000 →
  Calls P F (#[O X v,O X a]++D) w fun e w'=>e=.returned (.bool (T.an t v a))/\aS S Y w w'/\J w' (T.nx t v a)
def nY{τ:Type}(T:AT τ):bT (Bool×τ) where
 em:=fun _ _ _=>[]
 nx:=fun s n a=>if s.1=true then s else if n.op=1 then (T.an s.2 n.a a,T.nx s.2 n.a a) else s
 ok:=fun _ _ _=>true
 dm:=fun _ _ _=>True
def KX{τ:Type}(pf G:Nat)(F:FuncId)(D:Array Value)(J:World->τ->Prop)(w:OE)(s:Bool×τ):Prop:=aW w pf 4 #[.bool s.1]/\aW w G 104 #[.func (.func F) #[] D]/\J w s.2
def LS(pf D:Nat)(K:Nat->Prop)(k:Nat):Prop:=k=pf\/k=D\/K k
def IV(pf:Nat)(S:Nat->Prop)(k:Nat):Prop:=k=pf\/S k
theorem uQ{τ:Type}{T:AT τ}{pf z:Nat}{h:FuncId}{G:Array Value}{J:World->τ->Prop}{S:Nat->Prop}{base:Nat}{pan:List PanicEntry}{w w':OE}{s:Bool×τ}{v:Value}{o:List Nd}{n:Nd}{a:Int}{b:Bool}{t:τ}(F:bG w base v o)(hv:∀k,v.ownBlock=Z k->¬ IV pf S k)(D:aS (IV pf S) Y w w')(hf:aW w' pf 4 #[.bool b])(hp:aW w' z 104 #[.func (.func h) #[] G])(hj:J w' t)(hn:(nY T).nx s n a=(b,t)):
 kW (nY T) (KX pf z h G J) (IV pf S) base pan w s v o n a (.returned v) w':=by
 refine .inl ⟨rfl,⟨D.os,D.tape,D.output,D.size,fun k hk hs _=>D.block k hk hs aD⟩,?_,_,rfl,?_,dD.refl _ _⟩
 . rw[hn];exact⟨hf,hp,hj⟩
 show bG w' base v (o++[]);rw[NF];exact F.moved D fun g hg=>⟨hv g hg,by simp⟩
theorem uR{τ:Type}{T:AT τ}{pf F:Nat}{z:FuncId}{h:Array Value}{J:World->τ->Prop}{K S:Nat->Prop}{base H:Nat}{pan:List PanicEntry}{w:OE}{s:Bool×τ}{v:Value}{o:List Nd}{n:Nd}{a:Int}{b:Bool}{t:τ}{x:Value}(D:bG w base v o)(hv:∀k,v.ownBlock=Z k->¬ IV pf S k)(G:pf≠F)(hH:H<=w.heap.size)(hK:∀k,K k->k<H/\k≠pf/\k≠F)
 (hJ:∀w w' t,J w t->(∀k,K k->w'.heap[k]? = w.heap[k]?)->J w' t) (hf:aW w pf 4 #[x]) (hp:aW w F 104 #[.func (.func z) #[] h]) (hj:J w t) (hn:(nY T).nx s n a=(b,t)) (ob:Obj) :
 kW (nY T) (KX pf F z h J) (IV pf S) base pan w s v o n a (.returned v) ((w.setCell ⟨pf,0,Y⟩ (.bool b)).alloc ob):=by
 refine uQ D hv (((aS.refl _ _ w).setCell (p:=⟨pf,0,Y⟩) (.inl rfl) _).alloc _) ?_ ((hp.far (p:=⟨pf,0,Y⟩) (Ne.symm G) _).alloc _) ?_ hn
 . have:=(hf.set_ 0 (.bool b)).alloc ob;simpa using this
 refine hJ _ _ _ hj fun k hk=>?_;have:=hK k hk;rw[Below.heap_alloc _ _ _ (by simp[World.setCell];omega),MH _ _ _ _ this.2.1]
theorem EC{τ:Type}{T:AT τ}{pf F:Nat}{mk:FuncId}{mc:Array Value}{J:World->τ->Prop}{K S:Nat->Prop}{base H M:Nat}{pan:List PanicEntry}(a9:pf≠F)(d3:pf<H)(d4:F<H)(hK:∀k,K k->k<H/\k≠pf/\k≠F)(hS:∀k,S k->K k)
 (hJ:∀w w' t,J w t->(∀k,K k->w'.heap[k]? = w.heap[k]?)->J w' t) (c9:∀args w,(callFunc mk args).run Try.prog w=.ok (.enter mk args) w) (a0:q9 Try.prog mk mc T J S H) :
 tW Try.prog 72 #[I (Z ⟨pf,0,Y⟩),I (Z ⟨F,0,Y⟩)] (nY T) (KX pf F mk mc J) (LS pf F K) (IV pf S) base H pan M:=by
 rintro w ⟨f,t⟩ v o n a hH ⟨z,a5,a6⟩ a1 a7 b0 _ c5 c6 b5;have c0:bR n.op n.a n.b=true:=by simp only[eU,ME]at b0;exact b0.1.1
 obtain⟨b6,b7⟩:=gQ c0;have cf:=z.cell;have ff:=z.frozen;have cm:=a5.cell;have d1:pf<w.heap.size:=aA;have d2:F<w.heap.size:=aA;have D:=aB a1;have G:=aB z;have a2:=aB a5;have a3:=aB a6;have c7:=aB a7;have HK:=aB hK;have HS:=aB hS;have HJ:=aB hJ;have b2:=aB a0;have c1:∀k,v.ownBlock=Z k->¬ IV pf S k:=fun k hk hs=>a7 k hk (hs.elim .inl fun h=>.inr (.inr (hS k h)));have a4:=aB c1;have b3:OB w (w.alloc (Q #[O X n.op,O X n.a,O X n.b] 42)):=aQ _ _;have b1:=aB (hJ _ _ _ a6 (fun k hk=>b3.block k (by have:=(hK k hk).1;omega)));clear a1 z a5 a6 a7 b0 c0 b5 hK hS hJ a0 c1 b3;show Calls Try.prog 72 #[v,.agg #[O X n.op,O X n.a,O X n.b],O X a,I (Z ⟨pf,0,Y⟩),I (Z ⟨F,0,Y⟩)] w _;simp only at cf G a3 b1;cases f with
 | true =>
  go_in;go_wp2_with fail;go_ret;exact uR D.o a4.o a9 hH HK.o HJ.o G.o a2.o a3.o rfl _
 | false =>
  by_cases h1:n.op=1
  . have c4:(n.op==1)=true:=by simp[h1]
    have H1:=aB h1;clear h1;go_in;go_wp2_with fail;refine (b2.o (w.alloc (Q #[O X n.op,O X n.a,O X n.b] 42)) t n.a a aG b1.o b6 b7 c5 c6).mono ?_;rintro e w8 ⟨rfl,hm,b4⟩;have a8:∀k,k=pf\/k=F->¬ S k:=fun k hk hs=>by have:=HK.o k (HS.o k hs);omega
    have b8:aW w8 pf 4 #[.bool false]:=(G.o.alloc _).moved hm (a8 pf (.inl rfl)) aD;have b9:aW w8 F 104 #[.func (.func mk) #[] mc]:=(a2.o.alloc _).moved hm (a8 F (.inr rfl)) aD;have c8:=b8.cell;have f8:=b8.frozen;have d0:pf<w8.heap.size:=b8.lt;obtain⟨B8,B9,c3,c2⟩:=OI b8 b9 hm b4;clear b8 b9 hm b4 a8 cf ff cm;go_wp2_with fail;go_ret;refine uQ D.o a4.o ((((aS.refl _ _ w).alloc _).trans (c3.o.mono (fun _ h=>.inr h)) (fun g hg=>by cases hg)).setCell (p:=⟨pf,0,Y⟩) (.inl rfl) _) ?_ (B9.o.far (p:=⟨pf,0,Y⟩) (Ne.symm a9) _) ?_ (b:=T.an t n.a a) (t:=T.nx t n.a a) ?_
    . have:=B8.o.set_ 0 (.bool (T.an t n.a a));simpa using this
    . exact HJ.o _ _ _ c2.o fun k hk=>MH _ _ _ _ (HK.o k hk).2.1
    show (if false=true then (false,t) else if n.op=1 then (T.an t n.a a,T.nx t n.a a) else (false,t))=_;rw[aN aD,LZ H1.o]
  . have c4:(n.op==1)=false:=by simp[h1]
    have H1:=aB h1;clear h1;go_in;go_wp2_with fail;go_ret;refine uR D.o a4.o a9 hH HK.o HJ.o G.o a2.o a3.o ?_ _;show (if false=true then (false,t) else if n.op=1 then (T.an t n.a a,T.nx t n.a a) else (false,t))=_;rw[aN aD,aN H1.o]
theorem EA{τ:Type}(T:AT τ)(G h:Int):∀(j:Nat)(a:Int)(s:Bool×τ)(F:Fo),(nY T).D G h j a s F
 | _,_,_,.nil=>trivial
 | j,a,s,.cons p n at' k x=>by
  rw[bT.D_cons];exact⟨⟨trivial,EA T _ _ _ _ _ k⟩,EA T G h (j+1) a _ x⟩
theorem EB{τ:Type}(T:AT τ)(D h:Int):∀(j:Nat)(a:Int)(s:Bool×τ)(F:Fo),(nY T).G D h j a s F=true
 | _,_,_,.nil=>rfl
 | j,a,s,.cons p n at' k x=>by
  rw[bT.G_cons,EB T D h (j+1) a _ x,bT.G1,EB T _ _ _ _ _ k];rfl
def rJ{τ:Type}(T:AT τ)(t:τ)(n:Nd)(k:Fo):Bool×τ:=(nY T).S1 0 (false,t) n k
theorem oW{τ:Type}{T:AT τ}{mk:FuncId}{mc:Array Value}{J:World->τ->Prop}{K S:Nat->Prop}{R:Nat->Prop}{w:OE}{A:OC}{nn c:Nat}{l:List Nd}{t:τ}(hR:∀b,R b->b<w.heap.size/\¬ S b)(a8:a6 R w A nn c l)(hK:∀k,K k->k<w.heap.size)(hS:∀k,S k->K k)
 (hJ:∀w w' t,J w t->(∀k,K k->w'.heap[k]? = w.heap[k]?)->J w' t) (b2:∀args w,(callFunc mk args).run Try.prog w=.ok (.enter mk args) w) (a0:q9 Try.prog mk mc T J S w.heap.size) (hj:J w t)
 {n:Nd} {a3:List Nd} {k:Fo} (a5:pp [false] l=Z (.cons [] n a3 k .nil,[])) (a7:4*bS k<=1000000000000) (z:((nY T).E1 0 (false,t) n a3 k).length<=1000000000000) :
 Calls Try.prog 52 #[U A nn c,.func (.func mk) #[] mc] w fun e w'=>e=.returned (.bool (rJ T t n k).1)/\aS S Y w w'/\J w' (rJ T t n k).2:=by
 have b4:∀(fn:Fn)(first cap:Array Value)(w:OE),(Instr.makeFunc fn first cap).run Try.prog w=.ok (.func fn first cap) w:=fun _ _ _ _=>rfl;have F:=cB w (Q #[.func (.func mk) #[] mc] 104) (Q #[.bool false] 4);have a4:jC (nY T) 72 #[I (Z ⟨w.heap.size+1,0,Y⟩),I (Z ⟨w.heap.size,0,Y⟩)] (KX (w.heap.size+1) w.heap.size mk mc J) (LS (w.heap.size+1) w.heap.size K) (IV (w.heap.size+1) S) w.heap.size 6 1000000000000 R ((w.alloc (Q #[.func (.func mk) #[] mc] 104)).alloc (Q #[.bool false] 4)) A nn c l (U Y 0 0) (false,t) []:=by
  refine⟨by simp;omega,fun b h=>⟨by have:=(hR b h).1;simp;omega,fun G=>?_⟩,fun b h=>?_,fun b h=>?_,?_,MF _,fun _ _=>by kernel_rfl,EC (K:=K) aA aD aH (fun k hk=>by have:=hK k hk;simp;omega) hS hJ b2 ?_,?_,bG.nil _ _,?_,fun g hg=>by simp[Value.ownBlock]at hg⟩
  . have:=hR b h;rcases G with G|G
    . omega
    exact this.2 G
  . rcases h with h|h|h
    . subst h;simp
    . subst h;simp<;>omega
    have:=hK b h;simp;omega
  . rcases h with h|h
    . exact .inl h
    exact .inr (.inr (hS b h))
  . intro w1 w2 s h hk;exact⟨h.1.same (hk _ (.inl rfl)),h.2.1.same (hk _ (.inr (.inl rfl))),hJ _ _ _ h.2.2 fun k h=>hk k (.inr (.inr h))⟩
  . intro w1 t1 v1 a1 h;exact a0 w1 t1 v1 a1 (by simp at h;omega)
  . exact a8.keep fun b h=>⟨h,fun o=>aP (F.block b (hR b h).1) o⟩
  exact⟨aW.new' aD,(aW.new _ _ _).alloc _,hJ _ _ _ hj fun k h=>F.block k (hK k h)⟩
 have D:=qF a4 a5 a7 ⟨trivial,EA T _ _ _ _ _ k⟩ (by simpa using z);have hg:(nY T).G1 0 (false,t) n k=true:=by rw[bT.G1,EB];rfl
 obtain⟨HW,a9,b0,HJ,HS⟩:=OG D F hg hJ hS;clear D a4 F a8 a5 a7 z hR hg hJ hS hK a0 hj;go_in;go_wp2_with fail;refine HW.o.mono ?_;rintro e w' ⟨hm,(⟨_,⟨hf,hp,hj⟩,v',rfl,a2,b3⟩|⟨hg,_⟩)⟩
 . have cf:=hf.cell;obtain⟨HF,HM,b1⟩:=OK hf hm hj;clear hf hm hj hp a2 b3;go_wp2_with fail;go_ret;refine⟨rfl,aS.over a9.o HM.o (fun k hk G=>?_),b1.o⟩;rcases G with G|G
   . omega
   exact G
 rw[b0.o]at hg;cases hg
end Go.Proofs.Ytlahmbhimhmoaaa
