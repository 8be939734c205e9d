/- Merged: Walk2, Walk3, Walk4, Raised, Each. -/
import Derived.Test.YtplecfbdchmogaaGreatProg
import Derived.Test.YtplecfbdchmogaaGreatDBase
import Derived.Test.YtplecfbdchmogaaGreatDLeafs
import Derived.WalkKit
import Derived.WalkLawsBesides
import Derived.WalkSpells
import Derived.Lib.Hide
import Derived.Deep.RegionHeld3
import Derived.Defers
import Derived.Recover
import Derived.Laws.EntriesVeiled
namespace Go.Proofs.YtplecfbdchmogaaGreat
open Go.Value renaming int → O, pointer → I, slice → U
open Go.IntKind renaming i64 → X
open Option renaming none → Y, some → Z
open Go.Obj renaming cells → Q
open Go.Lib (hid)
set_option maxHeartbeats 1000000
set_option maxRecDepth 100000
set_option linter.unusedSimpArgs false
section
open Go.RowKit
theorem CB {l:List Nd} {n:Nd} {ats:List Nd} {k x:Fo} {rest:List Nd} (h:pp [false] l=Z (.cons [] n ats k x,rest)):0<l.length/\aL l 0=n/\iC n=true:=by
 cases l with
 | nil=>simp [eG,fW] at h
 | cons y l =>
  rw [eG] at h;simp only [fW,Option.bind_some] at h;split at h
  · rename_i hok
    simp only [Option.bind_eq_some_iff,Option.some.injEq,Prod.mk.injEq,Fo.cons.injEq] at h;obtain ⟨_,_,_,_,_,_,⟨_,e,_⟩,_⟩:=h;subst e;exact ⟨by simp,rfl,hok⟩
  · cases h
theorem infoN:(Tryz.prog.info? 53).map (fun i=>(i.zero,i.size,i.bytes))=Z (Z (.agg #[O X 0,O X 0,O X 0]),3,24):=by kernel_rfl
theorem BH {σ:Type} (C:m4 σ) (hG:C.Good) (m:Nat)
 (ih:∀ (w:World) (v:Value) (q:Nat) (s:σ) (o:List Nd) (a:Int) (n:Nd) (ats:List Nd) (k:Fo) (rest:List Nd),C.St w v q s o->pp [false] (C.l.drop q)=Z (.cons [] n ats k .nil,rest)->0<=a->a+4*bN k<=1000000000000->C.V.D1 a s n k->o.length+(C.V.E1 a s n ats k).length<=C.M->bN k<m →
  Calls Tryz.prog 147 #[O X a,I (Z ⟨C.H,0,Y⟩),I (Z ⟨C.H+5,0,Y⟩),I (Z ⟨C.H+2,0,Y⟩),I (Z ⟨C.H+1,0,Y⟩),I (Z ⟨C.H+6,0,Y⟩)] w (C.Post w v o (C.l.length-rest.length) (C.V.E1 a s n ats k) (C.V.S1 a s n k) (C.V.G1 a s n k)))
 (w:World) (v:Value) (q:Nat) (s:σ) (o:List Nd) (a:Int) (n:Nd) (ats:List Nd) (k:Fo) (rest:List Nd) (hst:C.St w v q s o) (hpp:pp [false] (C.l.drop q)=Z (.cons [] n ats k .nil,rest)) (ha0:0<=a) (ha1:a+4*bN k<=1000000000000) (hD:C.V.D1 a s n k) (hM:o.length+(C.V.E1 a s n ats k).length<=C.M) (hsz:bN k<=m) (h2:n.op=2) :
 Calls Tryz.prog 147 #[O X a,I (Z ⟨C.H,0,Y⟩),I (Z ⟨C.H+5,0,Y⟩),I (Z ⟨C.H+2,0,Y⟩),I (Z ⟨C.H+1,0,Y⟩),I (Z ⟨C.H+6,0,Y⟩)] w (C.Post w v o (C.l.length-rest.length) (C.V.E1 a s n ats k) (C.V.S1 a s n k) (C.V.G1 a s n k)):=by
 obtain ⟨Av,cv,rfl⟩:=hst.own.slice;have HI:=hid ih;have HG:=hid hG;have HST:=hid hst;have HPP:=hid hpp;have HD:=hid hD;have HM:=hid hM;have HSZ:=hid hsz;have HA:=hid ha1;obtain ⟨hq0,hn,hok⟩:=CB hpp;rw [List.length_drop] at hq0;have hq:q<C.nn:=by have:=hst.tm.len;omega
 have hfew:=hst.tm.few;obtain ⟨tb,toff,hA,hRb,htm⟩:=hst.tm.mem aA;obtain ⟨g0,g1,g2⟩:=htm q (by have:=hst.tm.len;omega);have hn':aL C.l q=n:=by rw [<-hn,oL];rfl
 rw [hn'] at g0 g1 g2;have hbl:=(hG.hR tb hRb).1;have hHs:=hst.size;have hs0:C.H<w.heap.size:=aA;have hs1:C.H+1<w.heap.size:=aA;have hs2:C.H+2<w.heap.size:=aA;have hs5:C.H+5<w.heap.size:=aA;have hs6:C.H+6<w.heap.size:=aA;have hst':tb<w.heap.size:=aA;have hen:=hG.en;have z0:=hst.bt.cell;have z1:=hst.bo.cell;have z2:=hst.bf.cell;have z5:=hst.ba.cell;have z6:=hst.br.cell;have f5:=hst.ba.frozen;rw [hA] at z0;have HAe:=hid hA;have HN:=hid hn';have HOK:=hid hok;have hq2:(0:Int)<=(q:Int):=aA;have hdm:=hD.1;have hlen1:o.length+(C.V.em s n a).length<=C.M:=by
  simp only [dK.E1,List.length_append] at hM;omega
 have ha2:a<=1000000000000:=aA;have HDM:=hid hdm;have HL1:=hid hlen1;clear hdm hlen1;clear ih hG hst hpp hD hM hsz ha1 hn hok hA htm hn';have h2b:(n.op==2)=true:=by simp [h2]
 have H2:=hid h2;clear h2;obtain ⟨hk0,_,hal,hdr,hb1'⟩:=G5 HPP.o H2.o;have hb1:(q:Int)+1+n.b<=C.nn:=by
  have h1:=congrArg List.length hdr;rw [List.length_drop,List.length_append] at h1;have:=HST.o.tm.len;omega
 have HK0:=hid hk0;have HAL:=hid hal;have HDR:=hid hdr;clear hk0 hal hdr;have hcap:=HST.o.tm.cap;go_in;go_wp2_with fail
 have hst1:=(HST.o.goOn HG.o ((q:Int)+1) (q+1) aA).below HG.o (aB _ (Q #[O X n.op,O X n.a,O X n.b] 53));have hone:=HG.o.one _ s _ o n a (by simp;omega) hst1.j hst1.own (fun k hk=>(hst1.hv k hk).1) HOK.o HDM.o ha0 ha2 HL1.o;refine hone.mono ?_;rintro e w2 (⟨hok1,hm,hj,v',rfl,hown',hnew⟩ | ⟨hbad,rfl,hm⟩);rotate_left
 · refine ⟨rfl,.inr ⟨by simp [dK.G1,hbad],rfl,?_⟩⟩;exact (((aG.refl _ _ w).setCell (p:=⟨C.H+5,0,Y⟩) (.inr (.inr rfl)) _).alloc _).trans (hm.mono m4.S_S') (fun g hg=>.inl hg)
 obtain ⟨Av',cv',rfl⟩:=hown'.slice;have hb2:aE w2 w.heap.size 53 #[O X n.op,O X n.a,O X n.b]:=aE.moved (aE.new' (by simp [World.setCell])) hm (m4.S_lt HG.o aA) (fun e=>by have:=HST.o.row _ e;omega);have hst3:=hst1.called HG.o hm hown' hnew hj;have hB:=fun k h1 h2=>hst1.keep HG.o hm (k:=k) h1 h2;have c0:=aE.cell (hst1.bt.same (hB _ aA aA));have c1:=aE.cell (hst1.bo.same (hB _ aA aA));have c1f:=aE.frozen (hst1.bo.same (hB _ aA aA));have c5:=aE.cell (hst1.ba.same (hB _ aA aA));have cb:=aE.cell hb2;have hs2':w.heap.size+1<=w2.heap.size:=by have:=hm.size;simpa using this
 have hlb:w.heap.size<w2.heap.size:=aA;have hl0:C.H<w2.heap.size:=aA;have hl1:C.H+1<w2.heap.size:=aA;have hl5:C.H+5<w2.heap.size:=aA;have hne1:w.heap.size ≠ C.H+1:=aA;have hne2:C.H+1 ≠ w.heap.size:=aA;rw [HAe.o] at c0;have HST3:=hid hst3;have HST1:=hid hst1;have HM2:=hid hm;have HB2:=hid hb2;have HOK1:=hid hok1;have HNEW:=hid hnew;clear hst3 hst1 hm hb2 hok1 hB hone hown' hj hnew z0 z1 z2 z5 z6 f5 g0 g1 g2;go_wp2_with fail
 have hb3:aE (w2.setCell ⟨C.H+1,0,Y⟩ (U Av' (o++C.V.em s n a).length cv')) w.heap.size 53 #[O X n.op,O X n.a,O X n.b]:=HB2.o.far (by simp;omega) _;have hst3:=HST3.o;have hm3:=((((aG.refl C.S' (Value.slice Av o.length cv).ownBlock w).setCell (p:=⟨C.H+5,0,Y⟩) (.inr (.inr rfl)) (O X ((q:Int)+1))).alloc (Q #[O X n.op,O X n.a,O X n.b] 53)).trans (HM2.o.mono m4.S_S') (fun g hg=>.inl hg)).setCell (p:=⟨C.H+1,0,Y⟩) (.inr (.inl rfl)) (U Av' (o++C.V.em s n a).length cv');have hnr3:fS (U Av o.length cv) (U Av' (o++C.V.em s n a).length cv') w:=fun g hg=>(HNEW.o g hg).imp id (fun h=>by simp [World.setCell] at h;omega);rw [List.length_append] at hb3 hst3 hm3 hnr3;clear HST3 HB2 c0 c1 c1f c5 cb;generalize w2.setCell ⟨C.H+1,0,Y⟩ (U Av' (o.length+(C.V.em s n a).length) cv')=w3 at hst3 hb3 hm3 ⊢;have d0:=hst3.bt.cell;have d1:=hst3.bo.cell;have d1f:=hst3.bo.frozen;have d5':w3.cell? ⟨C.H+5,0,Y⟩=Z (O X ((q:Int)+1)):=hst3.ba.cell 0;have hnr:(Value.slice Av' (o.length+(C.V.em s n a).length) cv').ownBlock ≠ Z w.heap.size:=fun e=>by
  rcases HNEW.o _ (by rw [List.length_append];exact e) with h | h
  · have:=HST.o.row _ h;omega
  simp [World.setCell] at h;omega
 have HNR:=hid hnr;clear hnr;have db:=hb3.cell;rw [HAe.o] at d0;have HST3:=hid hst3;have HB3:=hid hb3;have HM3:=hid hm3;have HNR3:=hid hnr3;clear hst3 hb3 hm3 hnr3 HM2;obtain ⟨hb1a,hb1b⟩:=hb1';have e1:(0:Int)<=(q:Int)+1:=aA;have e2:(q:Int)+1<=(q:Int)+1+n.b:=aA;have e3:(q:Int)+1+n.b<=(C.c:Int):=aA;have e4:¬ C.c=q+1:=aA;have e5:max ((q:Int)+1+n.b) 0=(q:Int)+1+n.b:=aA;have hw1:IntKind.i64.wrap ((q:Int)+1+n.b)=(q:Int)+1+n.b:=IntWalk.i64_in _ aA;have hats:bJ C.R w3.drew (Z ⟨tb,toff+(q+1)*3,Y⟩) (((q:Int)+1+n.b).toNat-(q+1)) (C.c-(q+1)) ats:=by
  have h1:=(HST3.o.drew HG.o).tm;rw [HAe.o] at h1;exact h1.mid HDR.o (by rw [HAL.o];omega) aA aA
 have HATS:=hid hats;have hlb2:C.base<=w3.drew.heap.size:=by have:=HG.o.hbase;have:=HST3.o.size;simp;omega
 have hlen2:o.length+(C.V.em s n a).length+(((q:Int)+1+n.b).toNat-(q+1))<=1000000000000:=by
  have h1:=HM.o;have h2:=HG.o.hM;have h3:=HAL.o;simp only [dK.E1,List.length_append] at h1;omega
 have HLB:=hid hlb2;have HLEN:=hid hlen2;obtain ⟨i0,hi,hy0,hy1,hy2⟩:=info_parts infoN;have HI0:=hid hi;have HY0:=hid hy0;have HY1:=hid hy1;have HY2:=hid hy2;clear hats hlb2 hlen2 hi hy0 hy1 hy2;have hown3:cI w3.drew C.base (U Av' (o.length+(C.V.em s n a).length) cv') (o++C.V.em s n a):=(HST3.o.drew HG.o).own;have HOWN3:=hid hown3;clear hown3;refine wp_region_noPanic ?_;refine kA 9 (fun w'=>w'.cell? ⟨C.H,0,Y⟩=Z (U (Z ⟨tb,toff,Y⟩) C.nn C.c)/\w'.cell? ⟨C.H+1,0,Y⟩=Z (U Av' (o.length+(C.V.em s n a).length) cv')/\w'.cell? ⟨C.H+5,0,Y⟩=Z (O X ((q:Int)+1))/\w'.cell? ⟨w.heap.size,2,Y⟩=Z (O X n.b)) (by rfl) ⟨d0 0,d1 0,d5',db 2⟩ (fun hS0 => ?_);refine bE (i:=0) (v := ?_) rfl (by kernel_rfl) (by kernel_rfl) (by kernel_rfl) (by kernel_rfl) (by kernel_rfl) (fun _ _ _ h=>h) (Or.inl ⟨by rfl,?_⟩) (by assumption) ?_;rotate_left
 · (intro w hSw;(try dsimp only at hSw);go_simp);all_goals with_reducible rfl
 try simp only [Act.put,List.getElem_toArray,List.getElem_cons_zero,List.getElem_cons_succ,List.setIfInBounds_toArray,List.set_cons_zero,List.set_cons_succ]
 refine bE (i:=1) (v := ?_) rfl (by kernel_rfl) (by kernel_rfl) (by kernel_rfl) (by kernel_rfl) (by kernel_rfl) (fun _ _ _ h=>h) (Or.inl ⟨by rfl,?_⟩) (by assumption) ?_;rotate_left
 · (intro w hSw;(try dsimp only at hSw);go_simp);all_goals with_reducible rfl
 try simp only [Act.put,List.getElem_toArray,List.getElem_cons_zero,List.getElem_cons_succ,List.setIfInBounds_toArray,List.set_cons_zero,List.set_cons_succ]
 refine bE (i:=2) (v := ?_) rfl (by kernel_rfl) (by kernel_rfl) (by kernel_rfl) (by kernel_rfl) (by kernel_rfl) (fun _ _ _ h=>h) (Or.inl ⟨by rfl,?_⟩) (by assumption) ?_;rotate_left
 · (intro w hSw;(try dsimp only at hSw);go_simp);all_goals with_reducible rfl
 try simp only [Act.put,List.getElem_toArray,List.getElem_cons_zero,List.getElem_cons_succ,List.setIfInBounds_toArray,List.set_cons_zero,List.set_cons_succ]
 refine bE (i:=3) (v := ?_) rfl (by kernel_rfl) (by kernel_rfl) (by kernel_rfl) (by kernel_rfl) (by kernel_rfl) (fun _ _ _ h=>h) (Or.inl ⟨by rfl,?_⟩) (by assumption) ?_;rotate_left
 · (intro w hSw;(try dsimp only at hSw);go_simp);all_goals with_reducible rfl
 try simp only [Act.put,List.getElem_toArray,List.getElem_cons_zero,List.getElem_cons_succ,List.setIfInBounds_toArray,List.set_cons_zero,List.set_cons_succ]
 refine bE (i:=4) (v := ?_) rfl (by kernel_rfl) (by kernel_rfl) (by kernel_rfl) (by kernel_rfl) (by kernel_rfl) (fun _ _ _ h=>h) (Or.inl ⟨by rfl,?_⟩) (by assumption) ?_;rotate_left
 · (intro w hSw;(try dsimp only at hSw);go_simp);all_goals with_reducible rfl
 try simp only [Act.put,List.getElem_toArray,List.getElem_cons_zero,List.getElem_cons_succ,List.setIfInBounds_toArray,List.set_cons_zero,List.set_cons_succ]
 refine bE (i:=5) (v := ?_) rfl (by kernel_rfl) (by kernel_rfl) (by kernel_rfl) (by kernel_rfl) (by kernel_rfl) (fun _ _ _ h=>h) (Or.inl ⟨by rfl,?_⟩) (by assumption) ?_;rotate_left
 · (intro w hSw;(try dsimp only at hSw);go_simp);all_goals with_reducible rfl
 try simp only [Act.put,List.getElem_toArray,List.getElem_cons_zero,List.getElem_cons_succ,List.setIfInBounds_toArray,List.set_cons_zero,List.set_cons_succ]
 refine bE (i:=6) (v := ?_) rfl (by kernel_rfl) (by kernel_rfl) (by kernel_rfl) (by kernel_rfl) (by kernel_rfl) (fun _ _ _ h=>h) (Or.inl ⟨by rfl,?_⟩) (by assumption) ?_;rotate_left
 · (intro w hSw;(try dsimp only at hSw);go_simp);all_goals with_reducible rfl
 try simp only [Act.put,List.getElem_toArray,List.getElem_cons_zero,List.getElem_cons_succ,List.setIfInBounds_toArray,List.set_cons_zero,List.set_cons_succ]
 refine bE (i:=7) (v := ?_) rfl (by kernel_rfl) (by kernel_rfl) (by kernel_rfl) (by kernel_rfl) (by kernel_rfl) (fun _ _ _ h=>h) (Or.inl ⟨by rfl,?_⟩) (by assumption) ?_;rotate_left
 · (intro w hSw;(try dsimp only at hSw);go_simp);all_goals with_reducible rfl
 try simp only [Act.put,List.getElem_toArray,List.getElem_cons_zero,List.getElem_cons_succ,List.setIfInBounds_toArray,List.set_cons_zero,List.set_cons_succ]
 refine eX (i:=8) (by kernel_rfl) rfl rfl (fun K8 hK8 => ?_);refine fL (.tmp 23) (.tmp 30) 28 28 rfl C.base i0 Tryz.underlying28 Tryz.underlying28 HI0.o HY0.o HY1.o HY2.o (U Av' (o.length+(C.V.em s n a).length) cv') (o++C.V.em s n a) ats (by rfl) HOWN3.o (by rfl) HATS.o (by have:=HLEN.o;rw [List.length_append];omega) HLB.o ?_;intro A' c' w' hown' happ;simp only [List.length_append] at hown' happ;have hgk:=fun k hk=>(HST3.o.drew HG.o).rowKeep HG.o happ.grown (k:=k) hk;have zb:=(HST3.o.drew HG.o).bo.same (hgk _ (.inl ⟨by omega,by omega⟩));have zc:=zb.cell;have zf:=zb.frozen;have hS4:w'.cell? ⟨C.H,0,Y⟩=Z (U (Z ⟨tb,toff,Y⟩) C.nn C.c)/\w'.cell? ⟨C.H+1,0,Y⟩=Z (U Av' (o.length+(C.V.em s n a).length) cv')/\w'.cell? ⟨C.H+5,0,Y⟩=Z (O X ((q:Int)+1))/\w'.cell? ⟨w.heap.size,2,Y⟩=Z (O X n.b):=⟨(aF (hgk _ (.inl ⟨by omega,by omega⟩)) 0).trans (d0 0),zc 0,(aF (hgk _ (.inl ⟨by omega,by omega⟩)) 0).trans d5',(aF (hgk _ (.inr ⟨HNR.o,HB3.o.lt⟩)) 2).trans (db 2)⟩;refine hK8.o _ _ (fun _=>hS4) ?_;try simp only [Act.put,List.getElem_toArray,List.getElem_cons_zero,List.getElem_cons_succ,List.setIfInBounds_toArray,List.set_cons_zero,List.set_cons_succ]
 refine eX (i:=9) (by kernel_rfl) rfl rfl (fun K9 hK9 => ?_);go_simp;refine hK9.o _ _ (fun h=>absurd rfl h) ?_;refine lF (by kernel_rfl) (NoPanic.normal ?_) _;have hst5:=(HST3.o.drew HG.o).laid HG.o happ.grown hown' (fun g hg=>happ.new g hg);have hb5:aE (w'.setCell ⟨C.H+1,0,Y⟩ (.slice A' (o.length+(C.V.em s n a).length+(((q:Int)+1+n.b).toNat-(q+1))) c')) w.heap.size 53 #[O X n.op,O X n.a,O X n.b]:=aE.far (aE.same HB3.o (hgk _ (.inr ⟨HNR.o,HB3.o.lt⟩))) (by simp;omega) _;have hm5:=(HM3.o.drew.trans (aG.of_grown happ.grown) (fun g hg=>HNR3.o g hg)).setCell (p:=⟨C.H+1,0,Y⟩) (.inr (.inl rfl)) (.slice A' (o.length+(C.V.em s n a).length+(((q:Int)+1+n.b).toNat-(q+1))) c');have hnr5:fS (U Av o.length cv) (.slice A' (o.length+(C.V.em s n a).length+(((q:Int)+1+n.b).toNat-(q+1))) c') w:=HNR3.o.trans (fun g hg=>happ.new g hg) HM3.o.size;clear zb zc zf hS4 hgk happ hown' HST3 HB3 HM3 HNR3 HNR hS0 d0 d1 d1f d5' db HATS;generalize w'.setCell ⟨C.H+1,0,Y⟩ (.slice A' (o.length+(C.V.em s n a).length+(((q:Int)+1+n.b).toNat-(q+1))) c')=w5 at hst5 hb5 hm5 ⊢;have d5:w5.cell? ⟨C.H+5,0,Y⟩=Z (O X ((q:Int)+1)):=hst5.ba.cell 0;have d5f:=hst5.ba.frozen;have db:=hb5.cell;have hl5':C.H+5<w5.heap.size:=hst5.ba.lt;have hlb5:w.heap.size<w5.heap.size:=hb5.lt;have hne3:w.heap.size ≠ C.H+5:=aA;have hne4:C.H+5 ≠ w.heap.size:=aA;have hk0:eI n.op n.b=0:=by rw [H2.o];rfl
 have HST5:=hid hst5;have HB5:=hid hb5;have HM5:=hid hm5;have HNR5:=hid hnr5;clear hst5 hb5 hm5 hnr5;go_wp2_with (go_at_call 137;refine (rJ _ _ _ _ ⟨by omega,by omega⟩).mono ?_;rintro e w6 ⟨rfl,rfl⟩)
 refine wp_loop_rounds 1 ?_;rw [rounds_succ];go_wp2_with fail
 refine bodyPost_end (results_none rfl _ _ _) rfl (.inl ⟨?_,rfl,?_,_,?_,HNR5.o⟩)
 · rw [HK0.o];simp [dK.G1,dK.G,HOK1.o]
 · exact (HM5.o.setCell (p:=⟨C.H+5,0,Y⟩) (.inr (.inr rfl)) _).alloc _
 have h1:=(HST5.o.goOn HG.o ((q:Int)+1+n.b) (C.l.length-rest.length) (by
  have h1:=congrArg List.length HDR.o;have h2:=HAL.o;have h3:=HST.o.tm.len;rw [List.length_drop,List.length_append] at h1;omega)).below HG.o (aB _ (Q #[O X n.op,O X n.a,O X n.b] 53))
 rw [HK0.o];simpa only [dK.E1,dK.S1,dK.E,dK.S,List.append_nil,List.append_assoc] using h1
end
section
open Go.RowKit
theorem BG {σ:Type} (C:m4 σ) (hG:C.Good) (m:Nat)
 (ih:∀ (w:World) (v:Value) (q:Nat) (s:σ) (o:List Nd) (a:Int) (n:Nd) (ats:List Nd) (k:Fo) (rest:List Nd),C.St w v q s o->pp [false] (C.l.drop q)=Z (.cons [] n ats k .nil,rest)->0<=a->a+4*bN k<=1000000000000->C.V.D1 a s n k->o.length+(C.V.E1 a s n ats k).length<=C.M->bN k<m →
  Calls Tryz.prog 147 #[O X a,I (Z ⟨C.H,0,Y⟩),I (Z ⟨C.H+5,0,Y⟩),I (Z ⟨C.H+2,0,Y⟩),I (Z ⟨C.H+1,0,Y⟩),I (Z ⟨C.H+6,0,Y⟩)] w (C.Post w v o (C.l.length-rest.length) (C.V.E1 a s n ats k) (C.V.S1 a s n k) (C.V.G1 a s n k)))
 (w:World) (v:Value) (q:Nat) (s:σ) (o:List Nd) (a:Int) (n:Nd) (ats:List Nd) (k:Fo) (rest:List Nd) (hst:C.St w v q s o) (hpp:pp [false] (C.l.drop q)=Z (.cons [] n ats k .nil,rest)) (ha0:0<=a) (ha1:a+4*bN k<=1000000000000) (hD:C.V.D1 a s n k) (hM:o.length+(C.V.E1 a s n ats k).length<=C.M) (hsz:bN k<=m) (h2:n.op ≠ 2) :
 Calls Tryz.prog 147 #[O X a,I (Z ⟨C.H,0,Y⟩),I (Z ⟨C.H+5,0,Y⟩),I (Z ⟨C.H+2,0,Y⟩),I (Z ⟨C.H+1,0,Y⟩),I (Z ⟨C.H+6,0,Y⟩)] w (C.Post w v o (C.l.length-rest.length) (C.V.E1 a s n ats k) (C.V.S1 a s n k) (C.V.G1 a s n k)):=by
 obtain ⟨Av,cv,rfl⟩:=hst.own.slice;have HI:=hid ih;have HG:=hid hG;have HST:=hid hst;have HPP:=hid hpp;have HD:=hid hD;have HM:=hid hM;have HSZ:=hid hsz;have HA:=hid ha1;obtain ⟨hq0,hn,hok⟩:=CB hpp;rw [List.length_drop] at hq0;have hq:q<C.nn:=by have:=hst.tm.len;omega
 have hfew:=hst.tm.few;obtain ⟨tb,toff,hA,hRb,htm⟩:=hst.tm.mem aA;obtain ⟨g0,g1,g2⟩:=htm q (by have:=hst.tm.len;omega);have hn':aL C.l q=n:=by rw [<-hn,oL];rfl
 rw [hn'] at g0 g1 g2;have hbl:=(hG.hR tb hRb).1;have hHs:=hst.size;have hs0:C.H<w.heap.size:=aA;have hs1:C.H+1<w.heap.size:=aA;have hs2:C.H+2<w.heap.size:=aA;have hs5:C.H+5<w.heap.size:=aA;have hs6:C.H+6<w.heap.size:=aA;have hst':tb<w.heap.size:=aA;have hen:=hG.en;have z0:=hst.bt.cell;have z1:=hst.bo.cell;have z2:=hst.bf.cell;have z5:=hst.ba.cell;have z6:=hst.br.cell;have f5:=hst.ba.frozen;rw [hA] at z0;have HAe:=hid hA;have HN:=hid hn';have HOK:=hid hok;have hq2:(0:Int)<=(q:Int):=aA;have hdm:=hD.1;have hlen1:o.length+(C.V.em s n a).length<=C.M:=by
  simp only [dK.E1,List.length_append] at hM;omega
 have ha2:a<=1000000000000:=aA;have HDM:=hid hdm;have HL1:=hid hlen1;clear hdm hlen1;clear ih hG hst hpp hD hM hsz ha1 hn hok hA htm hn';have h2b:(n.op==2)=false:=by simp [h2]
 have H2:=hid h2;clear h2;obtain ⟨_,hats,hkp⟩:=JP HPP.o H2.o;have hpl:bQ n.op n.a n.b=true:=by
  have:=HOK.o;simp only [iC,Bool.and_eq_true] at this;exact this.1.1
 obtain ⟨hb0,hb1000⟩:=kP hpl;obtain ⟨hkd0,hkd18⟩:=wT hpl;have HKP:=hid hkp;have HATS:=hid hats;have hD2:C.V.D n.op n.b 0 a (C.V.nx s n a) k:=HD.o.2;have HD2:=hid hD2;have hM2:o.length+((C.V.em s n a).length+(C.V.E n.op n.b 0 a (C.V.nx s n a) k).length)<=C.M:=by
  have h1:=HM.o;rw [hats] at h1;simpa only [dK.E1,List.nil_append,List.length_append] using h1
 have HM2':=hid hM2;clear hats hkp hD2 hM2 hpl;have hlq:=HST.o.tm.len;have HLQ:=hid hlq;clear hlq;go_in;go_wp2_with fail
 have hst1:=(HST.o.goOn HG.o ((q:Int)+1) (q+1) aA).below HG.o (aB _ (Q #[O X n.op,O X n.a,O X n.b] 53));have hone:=HG.o.one _ s _ o n a (by simp;omega) hst1.j hst1.own (fun k hk=>(hst1.hv k hk).1) HOK.o HDM.o ha0 ha2 HL1.o;refine hone.mono ?_;rintro e w2 (⟨hok1,hm,hj,v',rfl,hown',hnew⟩ | ⟨hbad,rfl,hm⟩);rotate_left
 · refine ⟨rfl,.inr ⟨by simp [dK.G1,hbad],rfl,?_⟩⟩;exact (((aG.refl _ _ w).setCell (p:=⟨C.H+5,0,Y⟩) (.inr (.inr rfl)) _).alloc _).trans (hm.mono m4.S_S') (fun g hg=>.inl hg)
 obtain ⟨Av',cv',rfl⟩:=hown'.slice;have hb2:aE w2 w.heap.size 53 #[O X n.op,O X n.a,O X n.b]:=aE.moved (aE.new' (by simp [World.setCell])) hm (m4.S_lt HG.o aA) (fun e=>by have:=HST.o.row _ e;omega);have hst3:=hst1.called HG.o hm hown' hnew hj;have hB:=fun k h1 h2=>hst1.keep HG.o hm (k:=k) h1 h2;have c1:=aE.cell (hst1.bo.same (hB _ aA aA));have c1f:=aE.frozen (hst1.bo.same (hB _ aA aA));have cb:=aE.cell hb2;have hs2':w.heap.size+1<=w2.heap.size:=by have:=hm.size;simpa using this
 have hlb:w.heap.size<w2.heap.size:=aA;have hl1:C.H+1<w2.heap.size:=aA;have hne1:w.heap.size ≠ C.H+1:=aA;have hne2:C.H+1 ≠ w.heap.size:=aA;have hm3:=(((((aG.refl C.S' (Value.slice Av o.length cv).ownBlock w).setCell (p:=⟨C.H+5,0,Y⟩) (.inr (.inr rfl)) (O X ((q:Int)+1))).alloc (Q #[O X n.op,O X n.a,O X n.b] 53)).trans (hm.mono m4.S_S') (fun g hg=>.inl hg)).setCell (p:=⟨C.H+1,0,Y⟩) (.inr (.inl rfl)) (U Av' (o++C.V.em s n a).length cv')).alloc (Q #[O X n.op,O X n.a,O X n.b] 53);have hnr3:fS (U Av o.length cv) (U Av' (o++C.V.em s n a).length cv') w:=fun g hg=>(hnew g hg).imp id (fun h=>by simp [World.setCell] at h;omega);have hns4:(Value.slice Av' (o++C.V.em s n a).length cv').ownBlock ≠ Z w.heap.size:=fun e=>by
  rcases hnew _ e with h | h
  · have:=HST.o.row _ h;omega
  simp [World.setCell] at h;omega
 have hst4:=hst3.below HG.o (aB _ (Q #[O X n.op,O X n.a,O X n.b] 53));have hb4:=(hb2.far (p:=⟨C.H+1,0,Y⟩) (by simp;omega) (U Av' (o++C.V.em s n a).length cv')).alloc (Q #[O X n.op,O X n.a,O X n.b] 53);rw [List.length_append] at hm3 hnr3 hst4 hb4 hns4;have HST4:=hid hst4;have HM4:=hid hm3;have HNR4:=hid hnr3;have HNS4:=hid hns4;have HB4:=hid hb4;have HOK1:=hid hok1;clear hst3 hst1 hm hb2 hok1 hB hone hown' hj hnew z0 z1 z2 z5 z6 f5 g0 g1 g2 hm3 hnr3 hst4 hb4 hns4;go_wp2_with (go_at_call 137;refine (rJ _ _ _ _ ⟨by omega,by omega⟩).mono ?_;rintro e w6 ⟨rfl,rfl⟩)
 clear c1 c1f cb;go_loopw [38] (fun i wr=>∃ (F1 F2:Fo) (j q1:Nat) (v1:Value) (s1:σ) (o1:List Nd),Hid (k=F1.app F2)/\Hid (pp (iB n j) (C.l.drop q1)=Z (F2,rest))/\Hid (dL F1=if n.op=12 then 2*j else j)/\(j:Int)<=eI n.op n.b/\i=O X (j:Int)/\q1<=C.nn/\Hid (C.St wr v1 q1 s1 o1)/\Hid (s1=C.V.S n.op n.b 0 a (C.V.nx s n a) F1)/\Hid (o1=o++(C.V.em s n a++C.V.E n.op n.b 0 a (C.V.nx s n a) F1)) ∧
  Hid (aE wr w.heap.size 53 #[O X n.op,O X n.a,O X n.b])/\Hid (aG C.S' (Value.slice Av o.length cv).ownBlock w wr)/\Hid (fS (U Av o.length cv) v1 w)/\Hid (v1.ownBlock ≠ Z w.heap.size)/\Hid (C.V.G n.op n.b 0 a (C.V.nx s n a) F1=true)) (fun i _=>(eI n.op n.b).toNat-(intOf i).toNat)
 case atStart =>
  exact ⟨.nil,k,0,q+1,_,_,_,hid rfl,hid (by rw [tV];exact HKP.o),hid (by simp [dL]),hkd0,by go_num,hq,HST4,hid rfl,hid (by simp [dK.E]),HB4,HM4,HNR4,HNS4,hid rfl⟩
 case round =>
  obtain ⟨F1,F2,j,q1,v1,s1,o1,HK,HPK,HFL,hj,rfl,hq1,HST5,HS1,HO1,HB5,HM5,HNR5,HNRB,HG1⟩:=hrel;obtain ⟨Av1,cv1,rfl⟩:=HST5.o.own.slice;have hsz5:=HST5.o.size;have e1:=HST5.o.bo.cell;have e1f:=HST5.o.bo.frozen;have e5:wr.cell? ⟨C.H+5,0,Y⟩=Z (O X (q1:Int)):=HST5.o.ba.cell 0;have e5f:=HST5.o.ba.frozen;have e6:wr.cell? ⟨C.H+6,0,Y⟩=Z (.func (.func 147) #[] #[I (Z ⟨C.H,0,Y⟩),I (Z ⟨C.H+5,0,Y⟩),I (Z ⟨C.H+2,0,Y⟩),I (Z ⟨C.H+1,0,Y⟩),I (Z ⟨C.H+6,0,Y⟩)]):=HST5.o.br.cell 0;have eb:=HB5.o.cell;have hr0:C.H<wr.heap.size:=aA;have hr1:C.H+1<wr.heap.size:=aA;have hr5:C.H+5<wr.heap.size:=aA;have hr6:C.H+6<wr.heap.size:=aA;have hrb:=HB5.o.lt;have hrow:=HST5.o.row;have HROW:=hid hrow;clear hrow;by_cases hlt:(j:Int)<eI n.op n.b;rotate_left
  · have hpk:=HPK.o;rw [xX n (i:=j) aA,kG] at hpk;simp only [Option.some.injEq,Prod.mk.injEq] at hpk;obtain ⟨hF2,hr⟩:=hpk;have hq1':C.l.length-rest.length=q1:=by
     rw [<-hr,List.length_drop];have:=HLQ.o;omega
    have hkF:k=F1:=by rw [HK.o,<-hF2,uG]
    have HQ1:=hid hq1';have HKF:=hid hkF;clear hF2 hr hq1' hkF;go_wp2_with fail
    refine bodyPost_end (results_none rfl _ _ _) rfl (.inl ⟨?_,rfl,HM5.o,_,?_,HNR5.o⟩)
    · simp only [dK.G1,HOK1.o,HKF.o,HG1.o,Bool.and_self]
    rw [HQ1.o,HKF.o,HATS.o,show C.V.S1 a s n F1=s1 from HS1.o.symm,show o++C.V.E1 a s n [] F1=o1 by rw [HO1.o];simp only [dK.E1,List.nil_append]];exact HST5.o
  by_cases h12:n.op=12
  · have h12b:(n.op==12)=true:=by simp [h12]
    have hjb:(j:Int)<n.b:=by simpa [eI,h12] using hlt
    have hpk:=HPK.o;rw [xY h12 hjb] at hpk;obtain ⟨hql,hof,F',hpk',hF2⟩:=JQ hpk;obtain ⟨n1,a1,k1,F'',q2,hF',hq12,hq2l,hp1,hpk2⟩:=rR hpk' aA;obtain ⟨n2,a2,k2,F3,q3,hF'',hq23,hq3l,hp2,hp3⟩:=rR hpk2 hq2l;have hfj:dL F1=2*j:=by have:=HFL.o;rw [if_pos h12] at this;exact this
    have hkF:k=F1.app (.cons [aL C.l q1] n1 a1 k1 (.cons [] n2 a2 k2 F3)):=by rw [HK.o,hF2,hF',hF''];rfl
    have hab1:a+aS n.op n.b ((2*j:Nat):Int)=a:=by
     simp only [aS];rw [if_neg aA,if_neg aA];omega
    have hab2:a+aS n.op n.b ((2*j+1:Nat):Int)=a+n.b:=by
     simp only [aS];rw [if_neg aA,if_pos aA]
    have hb4:n.b<=4:=by
     have:=HOK.o;simp only [iC,Bool.and_eq_true] at this;have h1:=this.1.1;rw [aD] at h1;omega
    have hdd:C.V.D1 a s1 n1 k1/\C.V.D1 (a+n.b) (C.V.S1 a s1 n1 k1) n2 k2:=by
     have h1:=HD2.o;rw [hkF,dK.D_app,dK.D_cons,dK.D_cons,hfj,Nat.zero_add,hab1,hab2,<-HS1.o] at h1;exact ⟨h1.2.1,h1.2.2.1⟩
    obtain ⟨hd1,hd2⟩:=hdd;have hmm:o1.length+(1+((C.V.E1 a s1 n1 a1 k1).length+(C.V.E1 (a+n.b) (C.V.S1 a s1 n1 k1) n2 a2 k2).length))<=C.M:=by
     have h1:=HM2'.o;rw [hkF,dK.E_app,dK.E_cons,dK.E_cons,hfj,Nat.zero_add,hab1,hab2,<-HS1.o] at h1;rw [HO1.o];simp only [List.length_append,List.length_nil,List.length_cons] at h1 ⊢;omega
    have hfs:bN k1<m/\bN k2<m:=by
     have h1:=HSZ.o;rw [hkF,gZ] at h1;simp only [bN] at h1;omega
    have hax:a+4*bN k1<=1000000000000/\a+n.b+4*bN k2<=1000000000000:=by
     have h1:=HA.o;rw [hkF,gZ] at h1;simp only [bN] at h1;omega
    obtain ⟨hfs1,hfs2⟩:=hfs;obtain ⟨hax1,hax2⟩:=hax;have hnn:0<=a+n.b:=aA;have htmr:=HST5.o.tm;rw [HAe.o] at htmr;obtain ⟨tb',toff',hAA,_,hmem⟩:=htmr.mem aA;injection hAA with hAA;injection hAA with hA1 hA2;subst hA1 hA2;obtain ⟨t0,t1,t2⟩:=hmem q1 hql;have htl:tb<wr.heap.size:=aA;have e0:=HST5.o.bt.cell;rw [HAe.o] at e0;have hqi0:(0:Int)<=(q1:Int):=aA;have hqi1:(q1:Int)<(C.nn:Int):=by have:=HLQ.o;omega
    have hqn:q1<C.nn:=aA;have hbase:C.base<=wr.drew.heap.size:=by have:=HG.o.hbase;simp;omega
    have hlen1:o1.length+1<=5864062014805:=by have:=HG.o.hM;omega
    have hw1:IntKind.i64.wrap (a+n.b)=a+n.b:=IntWalk.i64_in _ aA;obtain ⟨i0,hi,hy0,hy1,hy2⟩:=info_parts infoN;have HI0:=hid hi;have HY0:=hid hy0;have HY1:=hid hy1;have HY2:=hid hy2;have H12:=hid h12;have HKF:=hid hkF;have HFJ:=hid hfj;have HAB1:=hid hab1;have HAB2:=hid hab2;have HD1:=hid hd1;have HD2':=hid hd2;have HMM:=hid hmm;have HFS1:=hid hfs1;have HFS2:=hid hfs2;have HAX1:=hid hax1;have HAX2:=hid hax2;have HNN:=hid hnn;have HP1:=hid hp1;have HP2:=hid hp2;have HP3:=hid hp3;have HLEN1:=hid hlen1;have HBASE:=hid hbase;have HOWN:=hid (HST5.o.drew HG.o).own;clear hi hy0 hy1 hy2 h12 hkF hfj hab1 hab2 hd1 hd2 hmm hfs1 hfs2 hax1 hax2 hnn hp1 hp2 hp3 hlen1 hbase hpk hpk' hpk2 hF2 hF' hF'' htmr hmem;have k0:=eb 0;have k1':=eb 1;have k2':=eb 2;go_wp2_with fail
    refine wp_region_noPanic ?_;refine kA 7 (fun w'=>w'.cell? ⟨C.H,0,Y⟩=Z (U (Z ⟨tb,toff,Y⟩) C.nn C.c)/\w'.cell? ⟨C.H+1,0,Y⟩=Z (U Av1 o1.length cv1)/\w'.cell? ⟨C.H+5,0,Y⟩=Z (O X (q1:Int))/\w'.cell? ⟨tb,toff+q1*3,Y⟩=Z (O X (aL C.l q1).op)/\w'.cell? ⟨tb,toff+q1*3+1,Y⟩=Z (O X (aL C.l q1).a)/\w'.cell? ⟨tb,toff+q1*3+2,Y⟩=Z (O X (aL C.l q1).b)) (by rfl) ⟨e0 0,e1 0,e5,t0,t1,t2⟩ (fun hS0 => ?_);refine bE (i:=0) (v := ?_) rfl (by kernel_rfl) (by kernel_rfl) (by kernel_rfl) (by kernel_rfl) (by kernel_rfl) (fun _ _ _ h=>h) (Or.inl ⟨by rfl,?_⟩) (by assumption) ?_;rotate_left
    · (intro w hSw;(try dsimp only at hSw);go_simp);all_goals with_reducible rfl
    try simp only [Act.put,List.getElem_toArray,List.getElem_cons_zero,List.getElem_cons_succ,List.setIfInBounds_toArray,List.set_cons_zero,List.set_cons_succ]
    refine bE (i:=1) (v := ?_) rfl (by kernel_rfl) (by kernel_rfl) (by kernel_rfl) (by kernel_rfl) (by kernel_rfl) (fun _ _ _ h=>h) (Or.inl ⟨by rfl,?_⟩) (by assumption) ?_;rotate_left
    · (intro w hSw;(try dsimp only at hSw);go_simp);all_goals with_reducible rfl
    try simp only [Act.put,List.getElem_toArray,List.getElem_cons_zero,List.getElem_cons_succ,List.setIfInBounds_toArray,List.set_cons_zero,List.set_cons_succ]
    refine bE (i:=2) (v := ?_) rfl (by kernel_rfl) (by kernel_rfl) (by kernel_rfl) (by kernel_rfl) (by kernel_rfl) (fun _ _ _ h=>h) (Or.inl ⟨by rfl,?_⟩) (by assumption) ?_;rotate_left
    · (intro w hSw;(try dsimp only at hSw);go_simp);all_goals with_reducible rfl
    try simp only [Act.put,List.getElem_toArray,List.getElem_cons_zero,List.getElem_cons_succ,List.setIfInBounds_toArray,List.set_cons_zero,List.set_cons_succ]
    refine bE (i:=3) (v := ?_) rfl (by kernel_rfl) (by kernel_rfl) (by kernel_rfl) (by kernel_rfl) (by kernel_rfl) (fun _ _ _ h=>h) (Or.inl ⟨by rfl,?_⟩) (by assumption) ?_;rotate_left
    · (intro w hSw;(try dsimp only at hSw);go_simp);all_goals with_reducible rfl
    try simp only [Act.put,List.getElem_toArray,List.getElem_cons_zero,List.getElem_cons_succ,List.setIfInBounds_toArray,List.set_cons_zero,List.set_cons_succ]
    refine bE (i:=4) (v := ?_) rfl (by kernel_rfl) (by kernel_rfl) (by kernel_rfl) (by kernel_rfl) (by kernel_rfl) (fun _ _ _ h=>h) (Or.inl ⟨by rfl,?_⟩) (by assumption) ?_;rotate_left
    · (intro w hSw;(try dsimp only at hSw);go_simp);all_goals with_reducible rfl
    try simp only [Act.put,List.getElem_toArray,List.getElem_cons_zero,List.getElem_cons_succ,List.setIfInBounds_toArray,List.set_cons_zero,List.set_cons_succ]
    refine eX (i:=5) (by kernel_rfl) rfl rfl (fun K5 hK5 => ?_);go_simp;have hS5:(wr.drew.alloc (Q #[O X (aL C.l q1).op,O X (aL C.l q1).a,O X (aL C.l q1).b] 53)).cell? ⟨C.H,0,Y⟩=Z (U (Z ⟨tb,toff,Y⟩) C.nn C.c)/\(wr.drew.alloc (Q #[O X (aL C.l q1).op,O X (aL C.l q1).a,O X (aL C.l q1).b] 53)).cell? ⟨C.H+1,0,Y⟩=Z (U Av1 o1.length cv1)/\(wr.drew.alloc (Q #[O X (aL C.l q1).op,O X (aL C.l q1).a,O X (aL C.l q1).b] 53)).cell? ⟨C.H+5,0,Y⟩=Z (O X (q1:Int))/\(wr.drew.alloc (Q #[O X (aL C.l q1).op,O X (aL C.l q1).a,O X (aL C.l q1).b] 53)).cell? ⟨tb,toff+q1*3,Y⟩=Z (O X (aL C.l q1).op)/\(wr.drew.alloc (Q #[O X (aL C.l q1).op,O X (aL C.l q1).a,O X (aL C.l q1).b] 53)).cell? ⟨tb,toff+q1*3+1,Y⟩=Z (O X (aL C.l q1).a)/\(wr.drew.alloc (Q #[O X (aL C.l q1).op,O X (aL C.l q1).a,O X (aL C.l q1).b] 53)).cell? ⟨tb,toff+q1*3+2,Y⟩=Z (O X (aL C.l q1).b):=by
     have hc:∀ b o,b<wr.heap.size->(wr.drew.alloc (Q #[O X (aL C.l q1).op,O X (aL C.l q1).a,O X (aL C.l q1).b] 53)).cell? ⟨b,o,Y⟩=wr.cell? ⟨b,o,Y⟩:=fun b o hb=>(World.cell?_alloc_lt _ _ _ hb);rw [hc _ _ hr0,hc _ _ hr1,hc _ _ hr5,hc _ _ htl,hc _ _ htl,hc _ _ htl];exact ⟨e0 0,e1 0,e5,t0,t1,t2⟩
    refine hK5.o _ _ (fun _=>hS5) ?_;try simp only [Act.put,List.getElem_toArray,List.getElem_cons_zero,List.getElem_cons_succ,List.setIfInBounds_toArray,List.set_cons_zero,List.set_cons_succ]
    refine eX (i:=6) (by kernel_rfl) rfl rfl (fun K6 hK6 => ?_);refine cS (.tmp 44) (.tmp 49) 28 rfl C.base i0 Tryz.underlying28 HI0.o HY0.o HY1.o HY2.o (U Av1 o1.length cv1) o1 (aL C.l q1) wr.drew (by rfl) (by rfl) HOWN.o _ (by rfl) (by simp) HLEN1.o HBASE.o ?_;intro A' c' w' hown' happ;have hgk:=fun k hk=>(HST5.o.drew HG.o).rowKeep HG.o happ.grown (k:=k) hk;have zb:=(HST5.o.drew HG.o).bo.same (hgk _ (.inl ⟨by omega,by omega⟩));have zf:=zb.frozen;have htb:(Value.slice Av1 o1.length cv1).ownBlock ≠ Z tb:=fun e=>(HST5.o.hv _ e).2.1 hRb;have hS6:w'.cell? ⟨C.H,0,Y⟩=Z (U (Z ⟨tb,toff,Y⟩) C.nn C.c)/\w'.cell? ⟨C.H+1,0,Y⟩=Z (U Av1 o1.length cv1)/\w'.cell? ⟨C.H+5,0,Y⟩=Z (O X (q1:Int))/\w'.cell? ⟨tb,toff+q1*3,Y⟩=Z (O X (aL C.l q1).op)/\w'.cell? ⟨tb,toff+q1*3+1,Y⟩=Z (O X (aL C.l q1).a)/\w'.cell? ⟨tb,toff+q1*3+2,Y⟩=Z (O X (aL C.l q1).b):=by
     have hc:=aF (hgk tb (.inr ⟨htb,htl⟩));rw [hc,hc,hc,aF (hgk C.H (.inl ⟨by omega,by omega⟩)),aF (hgk (C.H+1) (.inl ⟨by omega,by omega⟩)),aF (hgk (C.H+5) (.inl ⟨by omega,by omega⟩))];exact ⟨e0 0,e1 0,e5,t0,t1,t2⟩
    have zc:=hS6.2.1;refine hK6.o _ _ (fun _=>hS6) ?_;try simp only [Act.put,List.getElem_toArray,List.getElem_cons_zero,List.getElem_cons_succ,List.setIfInBounds_toArray,List.set_cons_zero,List.set_cons_succ]
    refine eX (i:=7) (by kernel_rfl) rfl rfl (fun K7 hK7 => ?_);go_simp;refine hK7.o _ _ (fun h=>absurd rfl h) ?_;refine lF (by kernel_rfl) (NoPanic.normal ?_) _;have hst6:=(HST5.o.drew HG.o).laid HG.o happ.grown hown' (fun g hg=>happ.new g hg);have hb6:aE (w'.setCell ⟨C.H+1,0,Y⟩ (U A' (o1.length+1) c')) w.heap.size 53 #[O X n.op,O X n.a,O X n.b]:=aE.far (aE.same (show aE wr.drew _ _ _ from HB5.o) (hgk _ (.inr ⟨HNRB.o,hrb⟩))) (by simp;omega) _;have hm6:=(HM5.o.drew.trans (aG.of_grown happ.grown) (fun g hg=>HNR5.o g hg)).setCell (p:=⟨C.H+1,0,Y⟩) (.inr (.inl rfl)) (U A' (o1.length+1) c');have hnr6:fS (U Av o.length cv) (U A' (o1.length+1) c') w:=HNR5.o.trans (fun g hg=>happ.new g hg) HM5.o.size;have hns6:(Value.slice A' (o1.length+1) c').ownBlock ≠ Z w.heap.size:=fun e=>by
     rcases happ.new _ e with h | h
     · exact HNRB.o h
     simp at h;omega
    have hst7:=hst6.goOn HG.o ((q1:Int)+1) (q1+1) aA;have hb7:=hb6.far (p:=⟨C.H+5,0,Y⟩) (by simp;omega) (O X ((q1:Int)+1));have hm7:=hm6.setCell (p:=⟨C.H+5,0,Y⟩) (.inr (.inr rfl)) (O X ((q1:Int)+1));clear zb zc zf hS5 hS6 hgk happ hown' hS0 hm6;generalize w'.setCell ⟨C.H+1,0,Y⟩ (U A' (o1.length+1) c')=w6 at hst6 hb6 hst7 hb7 hm7 ⊢;have d5:w6.cell? ⟨C.H+5,0,Y⟩=Z (O X (q1:Int)):=hst6.ba.cell 0;have d5f:=hst6.ba.frozen;have d6:(w6.setCell ⟨C.H+5,0,Y⟩ (O X ((q1:Int)+1))).cell? ⟨C.H+6,0,Y⟩=Z (.func (.func 147) #[] #[I (Z ⟨C.H,0,Y⟩),I (Z ⟨C.H+5,0,Y⟩),I (Z ⟨C.H+2,0,Y⟩),I (Z ⟨C.H+1,0,Y⟩),I (Z ⟨C.H+6,0,Y⟩)]):=hst7.br.cell 0;have HST7:=hid hst7;have HB7:=hid hb7;have HM7:=hid hm7;have HNR7:=hid hnr6;have HNS7:=hid hns6;clear hst6 hb6 hst7 hb7 hm7 hnr6 hns6 e0 e1 e1f e5 e5f e6 eb t0 t1 t2 k0 k1' k2';go_wp2_with fail
    refine (HI.o _ _ (q1+1) s1 _ _ n1 a1 k1 (C.l.drop q2) HST7.o HP1.o ha0 HAX1.o HD1.o (by have:=HMM.o;rw [List.length_append,List.length_singleton];omega) HFS1.o).mono ?_;rintro e w8 (⟨hg8,rfl,hm8,v8,hst8,hnr8⟩ | ⟨hg8,rfl,hm8⟩);rotate_left
    · refine ⟨rfl,.inr ⟨?_,rfl,HM7.o.trans hm8 HNR7.o⟩⟩;rw [dK.G1,HKF.o,dK.G_app,dK.G_cons,HFJ.o,Nat.zero_add,HAB1.o,<-HS1.o,hg8];simp
    rw [List.length_drop,show C.l.length-(C.l.length-q2)=q2 by omega] at hst8;have hb8:aE w8 w.heap.size 53 #[O X n.op,O X n.a,O X n.b]:=aE.moved HB7.o hm8 (m4.S'_new HG.o aA) HNS7.o;have hns8:v8.ownBlock ≠ Z w.heap.size:=fun e=>by
     rcases hnr8 _ e with h | h
     · exact HNS7.o h
     have:=HB7.o.lt;omega
    have hnr8':=HNR7.o.trans hnr8 HM7.o.size;have hm8':=HM7.o.trans hm8 HNR7.o;have p6:w8.cell? ⟨C.H+6,0,Y⟩=Z (.func (.func 147) #[] #[I (Z ⟨C.H,0,Y⟩),I (Z ⟨C.H+5,0,Y⟩),I (Z ⟨C.H+2,0,Y⟩),I (Z ⟨C.H+1,0,Y⟩),I (Z ⟨C.H+6,0,Y⟩)]):=hst8.br.cell 0;have pb:=hb8.cell;have HST8:=hid hst8;have HB8:=hid hb8;have HM8:=hid hm8';have HNR8:=hid hnr8';have HNS8:=hid hns8;clear hst8 hb8 hm8 hm8' hnr8 hnr8' hns8 d5 d5f d6;go_wp2_with fail
    refine (HI.o _ _ q2 _ _ _ n2 a2 k2 (C.l.drop q3) HST8.o HP2.o HNN.o HAX2.o HD2'.o (by have:=HMM.o;rw [List.length_append,List.length_append,List.length_singleton];omega) HFS2.o).mono ?_;rintro e w9 (⟨hg9,rfl,hm9,v9,hst9,hnr9⟩ | ⟨hg9,rfl,hm9⟩);rotate_left
    · refine ⟨rfl,.inr ⟨?_,rfl,HM8.o.trans hm9 HNR8.o⟩⟩;rw [dK.G1,HKF.o,dK.G_app,dK.G_cons,dK.G_cons,HFJ.o,Nat.zero_add,HAB1.o,HAB2.o,<-HS1.o,hg9];simp
    rw [List.length_drop,show C.l.length-(C.l.length-q3)=q3 by omega] at hst9;have hb9:aE w9 w.heap.size 53 #[O X n.op,O X n.a,O X n.b]:=aE.moved HB8.o hm9 (m4.S'_new HG.o aA) HNS8.o;have hns9:v9.ownBlock ≠ Z w.heap.size:=fun e=>by
     rcases hnr9 _ e with h | h
     · exact HNS8.o h
     have:=HB8.o.lt;omega
    have hnr9':=HNR8.o.trans hnr9 HM8.o.size;have hm9':=HM8.o.trans hm9 HNR8.o;have HST9:=hid hst9;have HB9:=hid hb9;have HM9:=hid hm9';have HNR9:=hid hnr9';have HNS9:=hid hns9;clear hst9 hb9 hm9 hm9' hnr9 hnr9' hns9 p6 pb;go_wp2_with fail
    go_roundw
    case rel =>
     refine ⟨F1.app (.cons [aL C.l q1] n1 a1 k1 (.cons [] n2 a2 k2 .nil)),F3,j+1,q3,v9,_,_,hid (by rw [HKF.o,gY];rfl),HP3,hid (by rw [fC,HFJ.o,if_pos H12.o];simp only [dL];omega),by omega,by go_num,by have:=HLQ.o;omega,HST9,hid ?_,hid ?_,HB9,HM9,HNR9,HNS9,hid ?_⟩
     · rw [dK.S_app,dK.S_cons,dK.S_cons,HFJ.o,Nat.zero_add,HAB1.o,HAB2.o,<-HS1.o];rfl
     · rw [dK.E_app,dK.E_cons,dK.E_cons,HFJ.o,Nat.zero_add,HAB1.o,HAB2.o,<-HS1.o,HO1.o];simp only [dK.E,List.append_nil,List.nil_append,List.append_assoc]
     rw [dK.G_app,dK.G_cons,dK.G_cons,HFJ.o,Nat.zero_add,HAB1.o,HAB2.o,<-HS1.o,HG1.o,hg8,hg9];rfl
    case measure=>simp [intOf];omega
  have h12b:(n.op==12)=false:=by simp [h12]
  have hre:=xZ h12 hlt;have hpk:=HPK.o;rw [hre] at hpk;obtain ⟨n1,a1,k1,F3,q2,hF2,hq12,hq2l,hp1,hp3⟩:=rR hpk (by have:=HLQ.o;omega);have hfj:dL F1=j:=by have:=HFL.o;rw [if_neg h12] at this;exact this
  have hkF:k=F1.app (.cons [] n1 a1 k1 F3):=by rw [HK.o,hF2]
  have hab:aS n.op n.b (j:Int)=eR n.op (j:Int):=by simp only [aS,eR,h12,false_and,if_false]
  have hd1:C.V.D1 (a+eR n.op (j:Int)) s1 n1 k1:=by
   have h1:=HD2.o;rw [hkF,dK.D_app,dK.D_cons,hfj,Nat.zero_add,hab,<-HS1.o] at h1;exact h1.2.1
  have hm1:o1.length+(C.V.E1 (a+eR n.op (j:Int)) s1 n1 a1 k1).length<=C.M:=by
   have h1:=HM2'.o;rw [hkF,dK.E_app,dK.E_cons,hfj,Nat.zero_add,hab,<-HS1.o] at h1;rw [HO1.o];simp only [List.length_append,List.length_nil] at h1 ⊢;omega
  have hfs:bN k1<m:=by
   have h1:=HSZ.o;rw [hkF,gZ] at h1;simp only [bN] at h1;omega
  have hbd:=qT HOK.o (j:Int);rw [hab] at hbd;obtain ⟨hbd0,hbd4⟩:=hbd;have hax:0<=a+eR n.op (j:Int):=aA;have hay:a+eR n.op (j:Int)+4*bN k1<=1000000000000:=by
   have h1:=HA.o;rw [hkF,gZ] at h1;simp only [bN] at h1;omega
  have H12:=hid h12;have HKF:=hid hkF;have HFJ:=hid hfj;have HAB:=hid hab;have HD1:=hid hd1;have HM1:=hid hm1;have HFS:=hid hfs;have HAX:=hid hax;have HAY:=hid hay;have HP1:=hid hp1;have HP3:=hid hp3;have hw1:IntKind.i64.wrap (a+eR n.op (j:Int))=a+eR n.op (j:Int):=IntWalk.i64_in _ aA;clear hkF hfj hab hd1 hm1 hfs hax hay hp1 hp3 hre hpk h12 hbd0 hbd4 hF2;have k0:=eb 0;have k1':=eb 1;have k2:=eb 2;go_wp2_with fail
  refine kA 6 (fun w'=>w'.cell? ⟨C.H+6,0,Y⟩=Z (.func (.func 147) #[] #[I (Z ⟨C.H,0,Y⟩),I (Z ⟨C.H+5,0,Y⟩),I (Z ⟨C.H+2,0,Y⟩),I (Z ⟨C.H+1,0,Y⟩),I (Z ⟨C.H+6,0,Y⟩)])/\w'.cell? ⟨w.heap.size,0,Y⟩=Z (O X n.op)/\w'.cell? ⟨w.heap.size,1,Y⟩=Z (O X n.a)/\w'.cell? ⟨w.heap.size,2,Y⟩=Z (O X n.b)) (by rfl) ⟨e6,k0,k1',k2⟩ (fun hS0 => ?_);refine bE (i:=0) (v := ?_) rfl (by kernel_rfl) (by kernel_rfl) (by kernel_rfl) (by kernel_rfl) (by kernel_rfl) (fun _ _ _ h=>h) (Or.inl ⟨by rfl,?_⟩) (by assumption) ?_;rotate_left
  · (intro w hSw;(try dsimp only at hSw);go_simp);all_goals with_reducible rfl
  try simp only [Act.put,List.getElem_toArray,List.getElem_cons_zero,List.getElem_cons_succ,List.setIfInBounds_toArray,List.set_cons_zero,List.set_cons_succ]
  refine bE (i:=1) (v := ?_) rfl (by kernel_rfl) (by kernel_rfl) (by kernel_rfl) (by kernel_rfl) (by kernel_rfl) (fun _ _ _ h=>h) (Or.inl ⟨by rfl,?_⟩) (by assumption) ?_;rotate_left
  · (intro w hSw;(try dsimp only at hSw);go_simp);all_goals with_reducible rfl
  try simp only [Act.put,List.getElem_toArray,List.getElem_cons_zero,List.getElem_cons_succ,List.setIfInBounds_toArray,List.set_cons_zero,List.set_cons_succ]
  refine bE (i:=2) (v := ?_) rfl (by kernel_rfl) (by kernel_rfl) (by kernel_rfl) (by kernel_rfl) (by kernel_rfl) (fun _ _ _ h=>h) (Or.inl ⟨by rfl,?_⟩) (by assumption) ?_;rotate_left
  · (intro w hSw;(try dsimp only at hSw);go_simp);all_goals with_reducible rfl
  try simp only [Act.put,List.getElem_toArray,List.getElem_cons_zero,List.getElem_cons_succ,List.setIfInBounds_toArray,List.set_cons_zero,List.set_cons_succ]
  refine bE (i:=3) (v := ?_) rfl (by kernel_rfl) (by kernel_rfl) (by kernel_rfl) (by kernel_rfl) (by kernel_rfl) (fun _ _ _ h=>h) (Or.inl ⟨by rfl,?_⟩) (by assumption) ?_;rotate_left
  · (intro w hSw;(try dsimp only at hSw);go_simp);all_goals with_reducible rfl
  try simp only [Act.put,List.getElem_toArray,List.getElem_cons_zero,List.getElem_cons_succ,List.setIfInBounds_toArray,List.set_cons_zero,List.set_cons_succ]
  refine eX (i:=4) (by kernel_rfl) rfl rfl (fun K4 hK4 => ?_);go_simp;go_at_call 148
  refine (vU _ _ _ _ _).mono ?_;rintro e w7 ⟨rfl,rfl⟩;go_wp2_with fail
  have hS4:(wr.alloc (Q #[O X n.op,O X n.a,O X n.b] 53)).drew.cell? ⟨C.H+6,0,Y⟩=Z (.func (.func 147) #[] #[I (Z ⟨C.H,0,Y⟩),I (Z ⟨C.H+5,0,Y⟩),I (Z ⟨C.H+2,0,Y⟩),I (Z ⟨C.H+1,0,Y⟩),I (Z ⟨C.H+6,0,Y⟩)])/\(wr.alloc (Q #[O X n.op,O X n.a,O X n.b] 53)).drew.cell? ⟨w.heap.size,0,Y⟩=Z (O X n.op)/\(wr.alloc (Q #[O X n.op,O X n.a,O X n.b] 53)).drew.cell? ⟨w.heap.size,1,Y⟩=Z (O X n.a)/\(wr.alloc (Q #[O X n.op,O X n.a,O X n.b] 53)).drew.cell? ⟨w.heap.size,2,Y⟩=Z (O X n.b):=⟨(aE.alloc HST5.o.br _).cell 0,(aE.alloc HB5.o _).cell 0,(aE.alloc HB5.o _).cell 1,(aE.alloc HB5.o _).cell 2⟩;refine hK4.o _ _ (fun _=>hS4) ?_;try simp only [Act.put,List.getElem_toArray,List.getElem_cons_zero,List.getElem_cons_succ,List.setIfInBounds_toArray,List.set_cons_zero,List.set_cons_succ]
  refine bE (i:=5) (v := ?_) rfl (by kernel_rfl) (by kernel_rfl) (by kernel_rfl) (by kernel_rfl) (by kernel_rfl) (fun _ _ _ h=>h) (Or.inl ⟨by rfl,?_⟩) (by assumption) ?_;rotate_left
  · (intro w hSw;(try dsimp only at hSw);go_simp);all_goals with_reducible rfl
  try simp only [Act.put,List.getElem_toArray,List.getElem_cons_zero,List.getElem_cons_succ,List.setIfInBounds_toArray,List.set_cons_zero,List.set_cons_succ]
  refine eX (i:=6) (by kernel_rfl) rfl rfl (fun K6 hK6 => ?_);go_simp;have hst6:=(HST5.o.below HG.o (aB _ (Q #[O X n.op,O X n.a,O X n.b] 53))).drew HG.o;refine (HI.o _ _ q1 s1 o1 _ n1 a1 k1 (C.l.drop q2) hst6 HP1.o HAX.o HAY.o HD1.o HM1.o HFS.o).mono ?_;rintro e w8 (⟨hg8,rfl,hm8,v8,hst8,hnr8⟩ | ⟨hg8,rfl,hm8⟩);rotate_left
  · refine ⟨rfl,.inr ⟨?_,rfl,(HM5.o.alloc _).drew.trans hm8 HNR5.o⟩⟩;rw [dK.G1,HKF.o,dK.G_app,dK.G_cons,HFJ.o,Nat.zero_add,HAB.o,<-HS1.o,hg8];simp
  refine hK6.o _ _ (fun h=>absurd rfl h) ?_;refine lF (by kernel_rfl) ?_ _;have hb8:aE w8 w.heap.size 53 #[O X n.op,O X n.a,O X n.b]:=aE.moved (show aE (wr.alloc (Q #[O X n.op,O X n.a,O X n.b] 53)).drew _ _ _ from aE.alloc HB5.o _) hm8 (m4.S'_new HG.o aA) HNRB.o;have hm9:=(HM5.o.alloc _).drew.trans hm8 HNR5.o;have hsz8:w.heap.size+1<=(wr.alloc (Q #[O X n.op,O X n.a,O X n.b] 53)).drew.heap.size:=by simp;omega
  have hnr9:=HNR5.o.trans hnr8 aA;have hns9:v8.ownBlock ≠ Z w.heap.size:=fun e=>by
   rcases hnr8 _ e with h | h
   · exact HNRB.o h
   omega
  have HB8:=hid hb8;have HM8:=hid hm9;have HNR8:=hid hnr9;have HNS8:=hid hns9;rw [List.length_drop,show C.l.length-(C.l.length-q2)=q2 by omega] at hst8;clear hb8 hm9 hnr9 hns9 hm8 hnr8 hst6 hS4;go_wp2_with fail
  go_roundw
  case rel =>
   refine ⟨F1.app (.cons [] n1 a1 k1 .nil),F3,j+1,q2,v8,_,_,hid (by rw [HKF.o,gY];rfl),HP3,hid (by rw [fC,HFJ.o,if_neg H12.o];rfl),by omega,by go_num,by have:=HLQ.o;omega,hid hst8,hid ?_,hid ?_,HB8,HM8,HNR8,HNS8,hid ?_⟩
   · rw [dK.S_app,dK.S_cons,HFJ.o,Nat.zero_add,HAB.o,<-HS1.o];rfl
   · rw [dK.E_app,dK.E_cons,HFJ.o,Nat.zero_add,HAB.o,<-HS1.o,HO1.o];simp only [dK.E,List.append_nil,List.nil_append,List.append_assoc]
   rw [dK.G_app,dK.G_cons,HFJ.o,Nat.zero_add,HAB.o,<-HS1.o,HG1.o,hg8];rfl
  case measure=>simp [intOf];omega
end
section
open Go.RowKit
theorem pM {σ:Type} (C:m4 σ) (hG:C.Good) : ∀ (m:Nat) (w:World) (v:Value) (q:Nat) (s:σ) (o:List Nd) (a:Int) (n:Nd) (ats:List Nd) (k:Fo) (rest:List Nd),C.St w v q s o->pp [false] (C.l.drop q)=Z (.cons [] n ats k .nil,rest)->0<=a->a+4*bN k<=1000000000000->C.V.D1 a s n k->o.length+(C.V.E1 a s n ats k).length<=C.M->bN k<m →
      Calls Tryz.prog 147 #[O X a,I (Z ⟨C.H,0,Y⟩),I (Z ⟨C.H+5,0,Y⟩),I (Z ⟨C.H+2,0,Y⟩),I (Z ⟨C.H+1,0,Y⟩),I (Z ⟨C.H+6,0,Y⟩)] w (C.Post w v o (C.l.length-rest.length) (C.V.E1 a s n ats k) (C.V.S1 a s n k) (C.V.G1 a s n k))
 | 0,_,_,_,_,_,_,_,_,_,_,_,_,_,_,_,_,h=>absurd h aA
 | m+1,w,v,q,s,o,a,n,ats,k,rest,hst,hpp,ha0,ha1,hD,hM,hsz=>by
  by_cases h2:n.op=2
  · exact BH C hG m (pM C hG m) w v q s o a n ats k rest hst hpp ha0 ha1 hD hM aA h2
  · exact BG C hG m (pM C hG m) w v q s o a n ats k rest hst hpp ha0 ha1 hD hM aA h2
theorem vS (er:Int) (w:World):(Instr.typeAssert (.iface 188 (.agg #[O X er])) 20 188 true).run Tryz.prog w=.ok (.tuple #[.agg #[O X er],.bool true]) w:=by kernel_rfl
theorem yS (w:World):(Instr.typeAssert .nilIface 20 188 true).run Tryz.prog w=.ok (.tuple #[.agg #[O X 0],.bool false]) w:=by kernel_rfl
def sZ (p1 p2:Nat) (er:Int) (w w':World):Prop:=aG (fun k=>k=p1\/k=p2) Y w w'/\aE w' p1 28 #[U Y 0 0]/\aE w' p2 31 #[O X er]
theorem zB {p1 p2:Nat} {x y:Value} {er:Int} {w:World} (hp:p1 ≠ p2) (h1:aE w p1 28 #[x]) (h2:aE w p2 31 #[y]) (o:Obj) :
 sZ p1 p2 er w (((w.setCell ⟨p1,0,Y⟩ (U Y 0 0)).setCell ⟨p2,0,Y⟩ (O X er)).alloc o).drew:=by
 refine ⟨((((aG.refl _ _ w).setCell (p:=⟨p1,0,Y⟩) (.inl rfl) _).setCell (p:=⟨p2,0,Y⟩) (.inr rfl) _).alloc _).drew,?_,?_⟩
 · have:=((h1.set_ 0 (U Y 0 0)).far (p:=⟨p2,0,Y⟩) hp (O X er)).alloc o;exact (by simpa using this:aE (((w.setCell ⟨p1,0,Y⟩ (U Y 0 0)).setCell ⟨p2,0,Y⟩ (O X er)).alloc o) p1 28 #[U Y 0 0])
 have:=((h2.far (p:=⟨p1,0,Y⟩) (Ne.symm hp) (U Y 0 0)).set_ 0 (O X er)).alloc o;exact (by simpa using this:aE (((w.setCell ⟨p1,0,Y⟩ (U Y 0 0)).setCell ⟨p2,0,Y⟩ (O X er)).alloc o) p2 31 #[O X er])
theorem y9 (p1 p2:Nat) (hp:p1 ≠ p2) (x y:Value) (er:Int) (older:List PanicEntry) (w:World) (h1:aE w p1 28 #[x]) (h2:aE w p2 31 #[y]) :
 CallsD Tryz.prog 146 #[I (Z ⟨p1,0,Y⟩),I (Z ⟨p2,0,Y⟩)] (.panicking ({ v:=.iface 188 (.agg #[O X er]),recovered:=false }::older)) w fun e u' w' =>
  e=.returned (.tuple #[])/\u'=.panicking ({ v:=.iface 188 (.agg #[O X er]),recovered:=true }::older)/\sZ p1 p2 er w w':=by
 have c1:=h1.cell;have c2:=h2.cell;have f1:=h1.frozen;have f2:=h2.frozen;refine callsD_of_wpS Tryz.func146 rfl fun c₀ cs hu => ?_;apply wpS_seq;apply wpS_region;simp [wpOpsS,go_sem,recoverD,hu,Tryz.ntmps146,Exit.thenS,vS];apply wpS_seq;apply wpS_region;simp [wpOpsS,go_sem,Exit.thenS];refine wpS_cond (t:=true) (by simp [Act.eval,Array.replicate]) ?_;simp only [if_true];refine wpS_of_wp ?_;simp only [Array.replicate];have hl1:=h1.lt;have hl2:=h2.lt;have hp':p2 ≠ p1:=Ne.symm hp;have hn1:w.heap.size ≠ p1:=aA;have hn2:w.heap.size ≠ p2:=aA;go_region
 all_goals
  simp [bodyPostS,results,Tryz.results146,go_sem];exact zB hp h1 h2 _
theorem zA (p1 p2:Nat) (w:World) :
 CallsD Tryz.prog 146 #[I (Z ⟨p1,0,Y⟩),I (Z ⟨p2,0,Y⟩)] .returning w fun e u' w' =>
  e=.returned (.tuple #[])/\u'=.returning/\w'=w.alloc (Q #[O X 0] 188):=by
 refine callsD_of_wpS Tryz.func146 rfl fun c₀ cs hu => ?_;apply wpS_seq;apply wpS_region;simp [wpOpsS,go_sem,recoverD,hu,Tryz.ntmps146,Exit.thenS,yS];apply wpS_seq;apply wpS_region;simp [wpOpsS,go_sem,Exit.thenS];refine wpS_cond (t:=false) (by simp [Act.eval,Array.replicate]) ?_;simp only [Bool.false_eq_true,if_false];refine wpS_of_wp (wp_skip ?_);cases c₀
 simp_all [bodyPostS,results,Tryz.results146]
structure oX {σ:Type} (V:dK σ) (fn:FuncId) (caps:Array Value) (J:World->σ->Prop) (KK S:Nat->Prop) (base:Nat) (er:Int) (M:Nat) (R:Nat->Prop) (w:World) (A:Option Addr) (nn c:Nat) (l:List Nd) (v:Value) (s:σ) (o:List Nd):Prop where
 hbase:base<=w.heap.size
 hR:∀ b,R b->b<w.heap.size/\¬ S b
 hK:∀ b,KK b->b<w.heap.size
 hS:∀ b,S b->KK b
 hJ:∀ w w' s,J w s->(∀ k,KK k->w'.heap[k]? = w.heap[k]?)->J w' s
 hM:M<=1000000000000
 en:∀ args w,(callFunc fn args).run Tryz.prog w=.ok (.enter fn args) w
 one:FF Tryz.prog fn caps V J KK S base w.heap.size [{ v:=.iface 188 (.agg #[O X er]),recovered:=false }] M
 tm:bJ R w A nn c l
 own:cI w base v o
 j:J w s
 hv:∀ g,v.ownBlock=Z g->¬ KK g/\¬ R g
def qQ {σ:Type} (V:dK σ) (J:World->σ->Prop) (S:Nat->Prop) (base:Nat) (er:Int) (w:World) (v:Value) (s:σ) (o:List Nd) (n:Nd) (ats:List Nd) (k:Fo) (e:Ending) (w':World):Prop :=
 aG S v.ownBlock w w'/\((V.G1 0 s n k=true/\J w' (V.S1 0 s n k)/\∃ v',e=.returned (.tuple #[v',O X 0])/\cI w' base v' (o++V.E1 0 s n ats k)/\fS v v' w) ∨
  (V.G1 0 s n k=false/\e=.returned (.tuple #[U Y 0 0,O X er])))
section
variable {σ : Type} {V : dK σ} {fn : FuncId} {caps : Array Value} {J : World->σ->Prop} {KK S : Nat->Prop} {base : Nat} {er : Int} {M : Nat} {R : Nat->Prop} {w : World} {A : Option Addr} {nn c : Nat} {l : List Nd} {v : Value} {s : σ} {o : List Nd}
def iK (V:dK σ) (fn:FuncId) (caps:Array Value) (J:World->σ->Prop) (KK S:Nat->Prop) (base:Nat) (er:Int) (M:Nat) (R:Nat->Prop) (H:Nat) (A:Option Addr) (nn c:Nat) (l:List Nd):m4 σ :=
 { H:=H,base:=base,A:=A,nn:=nn,c:=c,l:=l,R:=R,KK:=KK,S:=S,fn:=fn,caps:=caps,J:=J,V:=V,pan:=[{ v:=.iface 188 (.agg #[O X er]),recovered:=false }],M:=M }
theorem oX.good (h:oX V fn caps J KK S base er M R w A nn c l v s o):(iK V fn caps J KK S base er M R w.heap.size A nn c l).Good :=
 ⟨h.hbase,h.hR,h.hK,h.hS,h.hJ,h.hM,h.en,h.one⟩
def kS (w:World) (A:Option Addr) (nn c:Nat) (v:Value) (fn:FuncId) (caps:Array Value):World :=
 (((((((w.alloc (Q #[U A nn c] 28)).alloc (Q #[v] 28)).alloc (Q #[.func (.func fn) #[] caps] 181)).alloc (Q #[U Y 0 0] 28)).alloc (Q #[O X 0] 31)).alloc (Q #[O X 0] 3)).alloc
  (Q #[.func (.func 147) #[] #[I (Z ⟨w.heap.size,0,Y⟩),I (Z ⟨w.heap.size+5,0,Y⟩),I (Z ⟨w.heap.size+2,0,Y⟩),I (Z ⟨w.heap.size+1,0,Y⟩),I (Z ⟨w.heap.size+6,0,Y⟩)]] 190))
theorem gQ (w:World) (A:Option Addr) (nn c:Nat) (v:Value) (fn:FuncId) (caps:Array Value):Below w.heap.size w (kS w A nn c v fn caps) :=
 (((((((Below.refl _ _).alloc (by simp) _).alloc (by simp) _).alloc (by simp;omega) _).alloc (by simp;omega) _).alloc (by simp;omega) _).alloc (by simp;omega) _).alloc (by simp;omega) _
theorem oX.start (h:oX V fn caps J KK S base er M R w A nn c l v s o):(iK V fn caps J KK S base er M R w.heap.size A nn c l).St (kS w A nn c v fn caps) v 0 s o/\aE (kS w A nn c v fn caps) (w.heap.size+3) 28 #[U Y 0 0]/\aE (kS w A nn c v fn caps) (w.heap.size+4) 31 #[O X 0]:=by
 have hb:=gQ w A nn c v fn caps;refine ⟨⟨?_,?_,?_,?_,?_,?_,?_,?_,?_⟩,?_,?_⟩
 · exact (((((((aE.new' rfl).alloc _).alloc _).alloc _).alloc _).alloc _).alloc _)
 · exact ((((((aE.new' (by simp [iK])).alloc _).alloc _).alloc _).alloc _).alloc _)
 · exact (((((aE.new' (by simp [iK])).alloc _).alloc _).alloc _).alloc _)
 · exact ((aE.new' (by simp [iK])).alloc _)
 · exact (aE.new' (by simp [iK]<;>rfl))
 · exact h.tm.keep fun b hR=>⟨hR,fun o=>aF (hb.block b (h.hR b hR).1) o⟩
 · exact h.own.below hb
 · exact h.hJ _ _ _ h.j fun k hk=>hb.block k (h.hK k hk)
 · intro g hg;exact ⟨(h.hv g hg).1,(h.hv g hg).2,.inl (aC h.own hg).2.1⟩
 · exact ((((aE.new' (by simp)).alloc _).alloc _).alloc _)
 exact (((aE.new' (by simp)).alloc _).alloc _)
end
theorem ID {σ:Type} {V:dK σ} {fn:FuncId} {caps:Array Value} {J:World->σ->Prop} {KK S:Nat->Prop} {base:Nat} {er:Int} {M:Nat} {R:Nat->Prop} {w:World} {A:Option Addr} {nn c:Nat} {l:List Nd} {v:Value} {s:σ} {o:List Nd}
 (hin:oX V fn caps J KK S base er M R w A nn c l v s o) {n:Nd} {ats:List Nd} {k:Fo} (hpp:pp [false] l=Z (.cons [] n ats k .nil,[])) (hsz:4*bN k<=1000000000000) (hD:V.D1 0 s n k) (hlen:o.length+(V.E1 0 s n ats k).length<=M) :
 Calls Tryz.prog 138 #[U A nn c,v,.func (.func fn) #[] caps] w (qQ V J S base er w v s o n ats k):=by
 obtain ⟨Av,cv,rfl⟩:=hin.own.slice;have hmf:∀ (fn:Fn) (first cap:Array Value) (w:World),(Instr.makeFunc fn first cap).run Tryz.prog w=.ok (.func fn first cap) w:=fun _ _ _ _=>rfl;have HIN:=hid hin;have HPP:=hid hpp;have HSZ:=hid hsz;have HD:=hid hD;have HLEN:=hid hlen;clear hin hpp hsz hD hlen;go_enter_defers Tryz.func138,Tryz.ntmps138
 go_wp2_with fail
 obtain ⟨hst,hk3,hk4⟩:=HIN.o.start;refine (pM _ HIN.o.good (bN k+1) (kS w A nn c (U Av o.length cv) fn caps) _ 0 s o 0 n ats k [] hst HPP.o aA (by have:=HSZ.o;omega) HD.o HLEN.o aA).mono ?_;rintro e w8 (⟨hg,rfl,hm,v8,hst8,hnr⟩ | ⟨hg,rfl,hm⟩);rotate_left
 · have hS:∀ j,j=3\/j=4->¬ (iK V fn caps J KK S base er M R w.heap.size A nn c l).S' (w.heap.size+j):=fun j hj hs=>by
    rcases hs with h | h | h
    · have:=HIN.o.hK _ (HIN.o.hS _ h);omega
    · simp only [iK] at h;omega
    simp only [iK] at h;omega
   have hO:∀ j,(Value.slice Av o.length cv).ownBlock ≠ Z (w.heap.size+j):=fun j e=>by have:=(aC HIN.o.own e).2.1;omega
   have b3:aE w8 (w.heap.size+1+1+1) 28 #[U Y 0 0]:=hk3.moved hm (hS 3 (.inl rfl)) (hO 3);have b4:aE w8 (w.heap.size+1+1+1+1) 31 #[O X 0]:=hk4.moved hm (hS 4 (.inr rfl)) (hO 4);refine leaves_cons (f:=146) (args:=#[I (Z ⟨w.heap.size+1+1+1,0,Y⟩),I (Z ⟨w.heap.size+1+1+1+1,0,Y⟩)]) (by simp) (by simp [go_sem]) ?_;refine (y9 (w.heap.size+1+1+1) (w.heap.size+1+1+1+1) aA _ _ er [] w8 b3 b4).mono ?_;rintro e u' wf ⟨rfl,rfl,hc1,hc3,hc4⟩;have q3:wf.cell? ⟨w.heap.size+1+1+1,0,Y⟩=Z (U Y 0 0):=hc3.cell 0;have q4:wf.cell? ⟨w.heap.size+1+1+1+1,0,Y⟩=Z (O X er):=hc4.cell 0;have HP:Hid (qQ V J S base er w (U Av o.length cv) s o n ats k (.returned (.tuple #[U Y 0 0,O X er])) wf):=by
    refine ⟨?_,.inr ⟨hg,rfl⟩⟩;have h1:=aG.over (S:=S) (gQ w A nn c (U Av o.length cv) fn caps) hm (fun k hk hs=>by
     rcases hs with h | h | h
     · exact h
     · simp only [iK] at h;omega
     simp only [iK] at h;omega)
    refine ⟨hc1.os.trans h1.os,hc1.tape.trans h1.tape,hc1.output.trans h1.output,Nat.le_trans h1.size hc1.size,fun g hg1 hg2 hg3 => ?_⟩;exact (hc1.block g (Nat.lt_of_lt_of_le hg1 h1.size) aA (by simp)).trans (h1.block g hg1 hg2 hg3)
   simp [Leaves,settle,results,Tryz.results138,go_sem,q3,q4];exact HP.o
 obtain ⟨A8,c8,rfl⟩:=hst8.own.slice;have hS:∀ j,j=3\/j=4->¬ (iK V fn caps J KK S base er M R w.heap.size A nn c l).S' (w.heap.size+j):=fun j hj hs=>by
  rcases hs with h | h | h
  · have:=HIN.o.hK _ (HIN.o.hS _ h);omega
  · simp only [iK] at h;omega
  simp only [iK] at h;omega
 have hO:∀ j,(Value.slice Av o.length cv).ownBlock ≠ Z (w.heap.size+j):=fun j e=>by have:=(aC HIN.o.own e).2.1;omega
 have b3:aE w8 (w.heap.size+1+1+1) 28 #[U Y 0 0]:=hk3.moved hm (hS 3 (.inl rfl)) (hO 3);have b4:aE w8 (w.heap.size+1+1+1+1) 31 #[O X 0]:=hk4.moved hm (hS 4 (.inr rfl)) (hO 4);have e1:w8.cell? ⟨w.heap.size+1,0,Y⟩=Z (U A8 (o++(iK V fn caps J KK S base er M R w.heap.size A nn c l).V.E1 0 s n ats k).length c8):=hst8.bo.cell 0;have c3:=b3.cell;have c4:=b4.cell;have f3:=b3.frozen;have f4:=b4.frozen;have B3:=hid b3;have B4:=hid b4;have HM:=hid hm;have HS8:=hid hst8;have HNR:=hid hnr;have HGG:=hid hg;clear b3 b4 hm hst8 hnr hg hst hk3 hk4 hS hO;go_wp2_with fail
 refine leaves_cons (f:=146) (args:=#[I (Z ⟨w.heap.size+1+1+1,0,Y⟩),I (Z ⟨w.heap.size+1+1+1+1,0,Y⟩)]) (by simp) (by simp [go_sem]) ?_;refine (zA _ _ _).mono ?_;rintro e u' w'' ⟨rfl,rfl,rfl⟩;have r3:=((B3.o.set_ 0 (.slice A8 (o.length+((iK V fn caps J KK S base er M R w.heap.size A nn c l).V.E1 0 s n ats k).length) c8)).far (p:=⟨w.heap.size+1+1+1+1,0,Y⟩) (by simp) (O X 0)).alloc (Q #[O X 0] 188);have r4:=((B4.o.far (p:=⟨w.heap.size+1+1+1,0,Y⟩) (by simp) (.slice A8 (o.length+((iK V fn caps J KK S base er M R w.heap.size A nn c l).V.E1 0 s n ats k).length) c8)).set_ 0 (O X 0)).alloc (Q #[O X 0] 188);have hno:∀ g,(Value.slice A8 (o.length+(V.E1 0 s n ats k).length) c8).ownBlock=Z g->g<w.heap.size\/w.heap.size+7<=g:=fun g hg=>(HS8.o.hv g (by rw [List.length_append];exact hg)).2.2;have hown:cI (((w8.setCell ⟨w.heap.size+1+1+1,0,Y⟩ (.slice A8 (o.length+((iK V fn caps J KK S base er M R w.heap.size A nn c l).V.E1 0 s n ats k).length) c8)).setCell ⟨w.heap.size+1+1+1+1,0,Y⟩ (O X 0)).alloc (Q #[O X 0] 188)) base (.slice A8 (o.length+((iK V fn caps J KK S base er M R w.heap.size A nn c l).V.E1 0 s n ats k).length) c8) (o++V.E1 0 s n ats k):=by
  have h1:=HS8.o.own;rw [List.length_append] at h1;refine cI.alloc ?_ _;refine ownsRow_setCell_other (ownsRow_setCell_other h1 ?_ _) ?_ _
  · intro e;have:=hno _ e;simp at this;omega
  intro e;have:=hno _ e;simp at this;omega
 have hfm:=((((aG.over (S:=S) (gQ w A nn c (U Av o.length cv) fn caps) HM.o (fun k hk hs=>by
  rcases hs with h | h | h
  · exact h
  · simp only [iK] at h;omega
  simp only [iK] at h;omega)).setNew (p:=⟨w.heap.size+1+1+1,0,Y⟩) (by simp;omega) (.slice A8 (o.length+((iK V fn caps J KK S base er M R w.heap.size A nn c l).V.E1 0 s n ats k).length) c8)).setNew (p:=⟨w.heap.size+1+1+1+1,0,Y⟩) (by simp;omega) (O X 0)).alloc (Q #[O X 0] 188))
 have hj:J (((w8.setCell ⟨w.heap.size+1+1+1,0,Y⟩ (.slice A8 (o.length+((iK V fn caps J KK S base er M R w.heap.size A nn c l).V.E1 0 s n ats k).length) c8)).setCell ⟨w.heap.size+1+1+1+1,0,Y⟩ (O X 0)).alloc (Q #[O X 0] 188)) (V.S1 0 s n k):=HIN.o.hJ _ _ _ HS8.o.j (fun g hg=>by
  have h1:=HIN.o.hK g hg;have h2:=HS8.o.size;simp only [iK] at h2;rw [Below.heap_alloc _ _ _ (by simp [World.setCell];omega),Below.heap_setCell _ _ _ _ (by simp;omega),Below.heap_setCell _ _ _ _ (by simp;omega)])
 have hnr:fS (U Av o.length cv) (.slice A8 (o.length+((iK V fn caps J KK S base er M R w.heap.size A nn c l).V.E1 0 s n ats k).length) c8) w:=fun g hg=>(HNR.o g (by rw [List.length_append];exact hg)).imp id (fun h=>Nat.le_trans (gQ w A nn c (U Av o.length cv) fn caps).size h);have HP:Hid (qQ V J S base er w (U Av o.length cv) s o n ats k (.returned (.tuple #[.slice A8 (o.length+((iK V fn caps J KK S base er M R w.heap.size A nn c l).V.E1 0 s n ats k).length) c8,O X 0])) (((w8.setCell ⟨w.heap.size+1+1+1,0,Y⟩ (.slice A8 (o.length+((iK V fn caps J KK S base er M R w.heap.size A nn c l).V.E1 0 s n ats k).length) c8)).setCell ⟨w.heap.size+1+1+1+1,0,Y⟩ (O X 0)).alloc (Q #[O X 0] 188))) :=
  ⟨hfm,.inl ⟨HGG.o,hj,_,rfl,hown,hnr⟩⟩
 clear hfm hown hj hnr hno c3 c4 f3 f4 e1;generalize (((w8.setCell ⟨w.heap.size+1+1+1,0,Y⟩ (.slice A8 (o.length+((iK V fn caps J KK S base er M R w.heap.size A nn c l).V.E1 0 s n ats k).length) c8)).setCell ⟨w.heap.size+1+1+1+1,0,Y⟩ (O X 0)).alloc (Q #[O X 0] 188))=wf at r3 r4 HP ⊢;have q3:wf.cell? ⟨w.heap.size+1+1+1,0,Y⟩=Z (.slice A8 (o.length+((iK V fn caps J KK S base er M R w.heap.size A nn c l).V.E1 0 s n ats k).length) c8):=r3.cell 0;have q4:wf.cell? ⟨w.heap.size+1+1+1+1,0,Y⟩=Z (O X 0):=r4.cell 0;simp [Leaves,settle,results,Tryz.results138,go_sem,q3,q4];exact HP.o
end
section
open Go.RowKit
def MH (up fr:Int):dK Unit where
 em:=fun _ n a=>if n.op=1/\fr+a<=n.a then [⟨n.op,n.a+up,n.b⟩] else [n]
 nx:=fun _ _ _=>()
 ok:=fun _ n a=>if n.op=1/\fr+a<=n.a then decide (up<=1048576-n.a) else true
 dm:=fun _ _ _=>True
end
section
open Go.RowKit
structure FB (τ:Type) where
 an:τ->Int->Int->Bool
 nx:τ->Int->Int->τ
def BO (P:Program) (mk:FuncId) (mc:Array Value) {τ:Type} (T:FB τ) (J:World->τ->Prop) (S:Nat->Prop) (H:Nat):Prop :=
 ∀ (w:World) (t:τ) (v a:Int),H<=w.heap.size->J w t->0<=v->v<=1048576->0<=a->a<=1000000000000 →
  Calls P mk (#[O X v,O X a]++mc) w fun e w'=>e=.returned (.bool (T.an t v a))/\aG S Y w w'/\J w' (T.nx t v a)
def sO {τ:Type} (T:FB τ):dK (Bool×τ) where
 em:=fun _ _ _=>[]
 nx:=fun s n a=>if s.1=true then s else if n.op=1 then (T.an s.2 n.a a,T.nx s.2 n.a a) else s
 ok:=fun _ _ _=>true
 dm:=fun _ _ _=>True
def L1 {τ:Type} (pf pm:Nat) (mk:FuncId) (mc:Array Value) (J:World->τ->Prop) (w:World) (s:Bool×τ):Prop:=aE w pf 4 #[.bool s.1]/\aE w pm 164 #[.func (.func mk) #[] mc]/\J w s.2
def MF (pf pm:Nat) (K:Nat->Prop) (k:Nat):Prop:=k=pf\/k=pm\/K k
def KF (pf:Nat) (S:Nat->Prop) (k:Nat):Prop:=k=pf\/S k
theorem wA {τ:Type} {T:FB τ} {pf pm:Nat} {mk:FuncId} {mc:Array Value} {J:World->τ->Prop} {S:Nat->Prop} {base:Nat} {pan:List PanicEntry} {w w':World} {s:Bool×τ} {v:Value} {o:List Nd} {n:Nd} {a:Int} {b:Bool} {t:τ} (hown:cI w base v o) (hv:∀ k,v.ownBlock=Z k->¬ KF pf S k) (hm:aG (KF pf S) Y w w') (hf:aE w' pf 4 #[.bool b]) (hp:aE w' pm 164 #[.func (.func mk) #[] mc]) (hj:J w' t) (hn:(sO T).nx s n a=(b,t)) :
 uF (sO T) (L1 pf pm mk mc J) (KF pf S) base pan w s v o n a (.returned v) w':=by
 refine .inl ⟨rfl,⟨hm.os,hm.tape,hm.output,hm.size,fun k hk hs _=>hm.block k hk hs (by simp)⟩,?_,_,rfl,?_,fS.refl _ _⟩
 · rw [hn];exact ⟨hf,hp,hj⟩
 show cI w' base v (o++[]);rw [List.append_nil];exact hown.moved hm fun g hg=>⟨hv g hg,by simp⟩
theorem wB {τ:Type} {T:FB τ} {pf pm:Nat} {mk:FuncId} {mc:Array Value} {J:World->τ->Prop} {K S:Nat->Prop} {base H:Nat} {pan:List PanicEntry} {w:World} {s:Bool×τ} {v:Value} {o:List Nd} {n:Nd} {a:Int} {b:Bool} {t:τ} {x:Value} (hown:cI w base v o) (hv:∀ k,v.ownBlock=Z k->¬ KF pf S k) (hne:pf ≠ pm) (hH:H<=w.heap.size) (hK:∀ k,K k->k<H/\k ≠ pf/\k ≠ pm)
 (hJ:∀ w w' t,J w t->(∀ k,K k->w'.heap[k]? = w.heap[k]?)->J w' t) (hf:aE w pf 4 #[x]) (hp:aE w pm 164 #[.func (.func mk) #[] mc]) (hj:J w t) (hn:(sO T).nx s n a=(b,t)) (ob:Obj) :
 uF (sO T) (L1 pf pm mk mc J) (KF pf S) base pan w s v o n a (.returned v) ((w.setCell ⟨pf,0,Y⟩ (.bool b)).alloc ob):=by
 refine wA hown hv (((aG.refl _ _ w).setCell (p:=⟨pf,0,Y⟩) (.inl rfl) _).alloc _) ?_ ((hp.far (p:=⟨pf,0,Y⟩) (Ne.symm hne) _).alloc _) ?_ hn
 · have:=(hf.set_ 0 (.bool b)).alloc ob;simpa using this
 refine hJ _ _ _ hj fun k hk => ?_;have:=hK k hk;rw [Below.heap_alloc _ _ _ (by simp [World.setCell];omega),Below.heap_setCell _ _ _ _ this.2.1]
theorem FV {τ:Type} {T:FB τ} {pf pm:Nat} {mk:FuncId} {mc:Array Value} {J:World->τ->Prop} {K S:Nat->Prop} {base H M:Nat} {pan:List PanicEntry} (hne:pf ≠ pm) (hpf:pf<H) (hpm:pm<H) (hK:∀ k,K k->k<H/\k ≠ pf/\k ≠ pm) (hS:∀ k,S k->K k)
 (hJ:∀ w w' t,J w t->(∀ k,K k->w'.heap[k]? = w.heap[k]?)->J w' t) (hen:∀ args w,(callFunc mk args).run Tryz.prog w=.ok (.enter mk args) w) (hmet:BO Tryz.prog mk mc T J S H) :
 FF Tryz.prog 139 #[I (Z ⟨pf,0,Y⟩),I (Z ⟨pm,0,Y⟩)] (sO T) (L1 pf pm mk mc J) (MF pf pm K) (KF pf S) base H pan M:=by
 rintro w ⟨f,t⟩ v o n a hH ⟨hjf,hjm,hjt⟩ hown hkk hok _ ha0 ha1 hlen;have hpl:bQ n.op n.a n.b=true:=by simp only [iC,Bool.and_eq_true] at hok;exact hok.1.1
 obtain ⟨hna0,hna1⟩:=oO hpl;have cf:=hjf.cell;have ff:=hjf.frozen;have cm:=hjm.cell;have hlf:pf<w.heap.size:=aA;have hlm:pm<w.heap.size:=aA;have HOWN:=hid hown;have HJF:=hid hjf;have HJM:=hid hjm;have HJT:=hid hjt;have HKK:=hid hkk;have HK:=hid hK;have HS:=hid hS;have HJ:=hid hJ;have HMET:=hid hmet;have hvs:∀ k,v.ownBlock=Z k->¬ KF pf S k:=fun k hk hs=>hkk k hk (hs.elim .inl fun h=>.inr (.inr (hS k h)));have HVS:=hid hvs;have hba:Below w.heap.size w (w.alloc (Q #[O X n.op,O X n.a,O X n.b] 53)):=aB _ _;have HJA:=hid (hJ _ _ _ hjt (fun k hk=>hba.block k (by have:=(hK k hk).1;omega)));clear hown hjf hjm hjt hkk hok hpl hlen hK hS hJ hmet hvs hba;show Calls Tryz.prog 139 #[v,.agg #[O X n.op,O X n.a,O X n.b],O X a,I (Z ⟨pf,0,Y⟩),I (Z ⟨pm,0,Y⟩)] w _;simp only at cf HJF HJT HJA;cases f with
 | true =>
  go_in;go_wp2_with fail
  go_ret;exact wB HOWN.o HVS.o hne hH HK.o HJ.o HJF.o HJM.o HJT.o rfl _
 | false =>
  by_cases h1:n.op=1
  · have h1b:(n.op==1)=true:=by simp [h1]
    have H1:=hid h1;clear h1;go_in;go_wp2_with fail
    refine (HMET.o (w.alloc (Q #[O X n.op,O X n.a,O X n.b] 53)) t n.a a (by simp;omega) HJA.o hna0 hna1 ha0 ha1).mono ?_;rintro e w8 ⟨rfl,hm,hj8⟩;have hnS:∀ k,k=pf\/k=pm->¬ S k:=fun k hk hs=>by have:=HK.o k (HS.o k hs);omega
    have b8:aE w8 pf 4 #[.bool false]:=(HJF.o.alloc _).moved hm (hnS pf (.inl rfl)) (by simp);have b9:aE w8 pm 164 #[.func (.func mk) #[] mc]:=(HJM.o.alloc _).moved hm (hnS pm (.inr rfl)) (by simp);have c8:=b8.cell;have f8:=b8.frozen;have hl8:pf<w8.heap.size:=b8.lt;have B8:=hid b8;have B9:=hid b9;have HM8:=hid hm;have HJ8:=hid hj8;clear b8 b9 hm hj8 hnS cf ff cm;go_wp2_with fail
    go_ret;refine wA HOWN.o HVS.o ((((aG.refl _ _ w).alloc _).trans (HM8.o.mono (fun _ h=>.inr h)) (fun g hg=>by cases hg)).setCell (p:=⟨pf,0,Y⟩) (.inl rfl) _) ?_ (B9.o.far (p:=⟨pf,0,Y⟩) (Ne.symm hne) _) ?_ (b:=T.an t n.a a) (t:=T.nx t n.a a) ?_
    · have:=B8.o.set_ 0 (.bool (T.an t n.a a));simpa using this
    · exact HJ.o _ _ _ HJ8.o fun k hk=>Below.heap_setCell _ _ _ _ (HK.o k hk).2.1
    show (if false=true then (false,t) else if n.op=1 then (T.an t n.a a,T.nx t n.a a) else (false,t))=_;rw [if_neg (by simp),if_pos H1.o]
  · have h1b:(n.op==1)=false:=by simp [h1]
    have H1:=hid h1;clear h1;go_in;go_wp2_with fail
    go_ret;refine wB HOWN.o HVS.o hne hH HK.o HJ.o HJF.o HJM.o HJT.o ?_ _;show (if false=true then (false,t) else if n.op=1 then (T.an t n.a a,T.nx t n.a a) else (false,t))=_;rw [if_neg (by simp),if_neg H1.o]
theorem FS {τ:Type} (T:FB τ) (pop pb:Int) : ∀ (j:Nat) (a:Int) (s:Bool×τ) (F:Fo),(sO T).D pop pb j a s F
 | _,_,_,.nil=>trivial
 | j,a,s,.cons p n at' k x=>by
  rw [dK.D_cons];exact ⟨⟨trivial,FS T _ _ _ _ _ k⟩,FS T pop pb (j+1) a _ x⟩
theorem FT {τ:Type} (T:FB τ) (pop pb:Int) : ∀ (j:Nat) (a:Int) (s:Bool×τ) (F:Fo),(sO T).G pop pb j a s F=true
 | _,_,_,.nil=>rfl
 | j,a,s,.cons p n at' k x=>by
  rw [dK.G_cons,FT T pop pb (j+1) a _ x,dK.G1,FT T _ _ _ _ _ k];rfl
def BP {τ:Type} (T:FB τ) (t:τ) (n:Nd) (k:Fo):Bool×τ:=(sO T).S1 0 (false,t) n k
theorem FX {τ:Type} {T:FB τ} {mk:FuncId} {mc:Array Value} {J:World->τ->Prop} {K S:Nat->Prop} {R:Nat->Prop} {w:World} {A:Option Addr} {nn c:Nat} {l:List Nd} {t:τ} (hR:∀ b,R b->b<w.heap.size/\¬ S b) (htm:bJ R w A nn c l) (hK:∀ k,K k->k<w.heap.size) (hS:∀ k,S k->K k)
 (hJ:∀ w w' t,J w t->(∀ k,K k->w'.heap[k]? = w.heap[k]?)->J w' t) (hen:∀ args w,(callFunc mk args).run Tryz.prog w=.ok (.enter mk args) w) (hmet:BO Tryz.prog mk mc T J S w.heap.size) (hj:J w t)
 {n:Nd} {ats:List Nd} {k:Fo} (hpp:pp [false] l=Z (.cons [] n ats k .nil,[])) (hsz:4*bN k<=1000000000000) (hlen:((sO T).E1 0 (false,t) n ats k).length<=1000000000000) :
 Calls Tryz.prog 120 #[U A nn c,.func (.func mk) #[] mc] w fun e w'=>e=.returned (.bool (BP T t n k).1)/\aG S Y w w'/\J w' (BP T t n k).2:=by
 have hmf:∀ (fn:Fn) (first cap:Array Value) (w:World),(Instr.makeFunc fn first cap).run Tryz.prog w=.ok (.func fn first cap) w:=fun _ _ _ _=>rfl;have hb2:=dS w (Q #[.func (.func mk) #[] mc] 164) (Q #[.bool false] 4);have hin:oX (sO T) 139 #[I (Z ⟨w.heap.size+1,0,Y⟩),I (Z ⟨w.heap.size,0,Y⟩)] (L1 (w.heap.size+1) w.heap.size mk mc J) (MF (w.heap.size+1) w.heap.size K) (KF (w.heap.size+1) S) w.heap.size 6 1000000000000 R ((w.alloc (Q #[.func (.func mk) #[] mc] 164)).alloc (Q #[.bool false] 4)) A nn c l (U Y 0 0) (false,t) []:=by
  refine ⟨by simp;omega,fun b h=>⟨by have:=(hR b h).1;simp;omega,fun hs => ?_⟩,fun b h => ?_,fun b h => ?_,?_,Nat.le_refl _,fun _ _=>by kernel_rfl,FV (K:=K) aA (by simp) (by simp<;>omega) (fun k hk=>by have:=hK k hk;simp;omega) hS hJ hen ?_,?_,cI.nil _ _,?_,fun g hg=>by simp [Value.ownBlock] at hg⟩
  · have:=hR b h;rcases hs with hs | hs
    · omega
    exact this.2 hs
  · rcases h with h | h | h
    · subst h;simp
    · subst h;simp<;>omega
    have:=hK b h;simp;omega
  · rcases h with h | h
    · exact .inl h
    exact .inr (.inr (hS b h))
  · intro w1 w2 s h hk;exact ⟨h.1.same (hk _ (.inl rfl)),h.2.1.same (hk _ (.inr (.inl rfl))),hJ _ _ _ h.2.2 fun k h=>hk k (.inr (.inr h))⟩
  · intro w1 t1 v1 a1 h;exact hmet w1 t1 v1 a1 (by simp at h;omega)
  · exact htm.keep fun b h=>⟨h,fun o=>aF (hb2.block b (hR b h).1) o⟩
  exact ⟨aE.new' (by simp),(aE.new _ _ _).alloc _,hJ _ _ _ hj fun k h=>hb2.block k (hK k h)⟩
 have hwalk:=ID hin hpp hsz ⟨trivial,FS T _ _ _ _ _ k⟩ (by simpa using hlen);have hg:(sO T).G1 0 (false,t) n k=true:=by rw [dK.G1,FT];rfl
 have HW:=hid hwalk;have HB2:=hid hb2;have HG1:=hid hg;have HJ:=hid hJ;have HS:=hid hS;clear hwalk hin hb2 htm hpp hsz hlen hR hg hJ hS hK hmet hj;go_in;go_wp2_with fail
 refine HW.o.mono ?_;rintro e w' ⟨hm,(⟨_,⟨hf,hp,hj⟩,v',rfl,hown',hnr⟩ | ⟨hg,_⟩)⟩
 · have cf:=hf.cell;have HF:=hid hf;have HM:=hid hm;have HJ':=hid hj;clear hf hm hj hp hown' hnr;go_wp2_with fail
   go_ret;refine ⟨rfl,aG.over HB2.o HM.o (fun k hk hs => ?_),HJ'.o⟩;rcases hs with hs | hs
   · omega
   exact hs
 rw [HG1.o] at hg;cases hg
end
end Go.Proofs.YtplecfbdchmogaaGreat
