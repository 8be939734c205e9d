/- SameRows, SameEntry, SameBook of the reference, at what reads alike: true. -/
import Derived.Test.YtplecfbdchmogaaGreatDShort2
import Derived.Test.YtplecfbdchmogaaGreatDBooks
import Derived.Test.YtplecfbdchmogaaGreatDSame
import Derived.Deep.QuietTactic
import Derived.BigQuiet
namespace Go.Proofs.YtplecfbdchmogaaGreat
open Go.Value renaming int → O, slice → Y
open Go.IntKind renaming i64 → X
open Option renaming none → Z, some → I
open Go.Obj renaming cells → J
open Go.Lib (hid)
set_option maxHeartbeats 8000000
set_option maxRecDepth 100000
set_option linter.unusedVariables false
set_option linter.unusedSimpArgs false
open Go.RowKit
theorem nW.both {w:World} {A:Option Addr} {n c:Nat} {cs:List Ct} (h:nW w A n c cs) {k:Nat} (hk:k<n) : ∃ b off,A=I ⟨b,off,Z⟩ ∧ b<w.heap.size ∧ ∃ A1 n1 c1 A2 n2 c2,w.cell? ⟨b,off+k*2,Z⟩=I (Y A1 n1 c1) ∧ w.cell? ⟨b,off+k*2+1,Z⟩=I (Y A2 n2 c2) ∧ cE w A1 n1 c1 (cs.getD k default).args ∧ cE w A2 n2 c2 (cs.getD k default).outs:=by
 obtain ⟨b,off,e,hb,hm⟩:=h.mem (by omega);exact ⟨b,off,e,hb,hm k hk⟩
theorem DW (a b c:Int) (w:World):(binOp .neq 78 (.agg #[O X a,O X b,O X c]) (.agg #[O X a,O X b,O X c])).run Tryz.prog w=.ok (.bool false) w:=by
 simp [go_sem]
theorem GR (a b:Int) (w:World):(binOp .neq 68 (.agg #[O X a,O X b]) (.agg #[O X a,O X b])).run Tryz.prog w=.ok (.bool false) w:=by
 simp [go_sem]
theorem sW {w:World} {A A':Option Addr} {n c n' c':Nat} {l:List (List Nd)} (h:cE w A n c l) (h':cE w A' n' c' l) :
 Calls Tryz.prog 133 #[Y A n c,Y A' n' c'] w (fT true w):=by
 have hf:=h.few;obtain rfl:n=n':=by rw [← h.len,← h'.len]
 have HR:=hid h;have HR':=hid h';clear h h';go_in;go_wp2_with fail
 go_loopw [5] (fun i wr=>∃ k:Nat,k ≤ n ∧ i=O X k ∧ Hid (Below w.heap.size w wr)) (fun i _=>n-(intOf i).toNat)
 case atStart=>exact ⟨0,Nat.zero_le _,rfl,hid (Below.refl _ _)⟩
 case round =>
  obtain ⟨k,hk,rfl,hbw⟩:=hrel;by_cases hlt:k<n;rotate_left
  · have y1:decide ((k:Int)<(n:Int))=false:=decide_eq_false (by omega);have y2:decide (k<n)=false:=decide_eq_false hlt;go_wp2_with fail
    go_ret;exact ⟨rfl,hbw.out⟩
  have y1:decide ((k:Int)<(n:Int))=true:=decide_eq_true (by omega);have y2:decide (k<n)=true:=decide_eq_true hlt;obtain ⟨b,off,Ax,nx,cx,rfl,hb,g0,tx⟩:=HR.out.at_ hlt;obtain ⟨b',off',Ay,ny,cy,rfl,hb',g0',ty⟩:=HR'.out.at_ hlt;have HBd:=hid (aK hbw.out 1);have HD0:=hid ((HBd.out.cell (p:=⟨b,off+k,Z⟩) hb).trans g0);have HD1:=hid ((HBd.out.cell (p:=⟨b',off'+k,Z⟩) hb').trans g0');have HX:=hid (fun (w':World) (hh:Below w.heap.size w w')=>(hh.cell (p:=⟨b,off+k,Z⟩) hb).trans g0);have HY:=hid (fun (w':World) (hh:Below w.heap.size w w')=>(hh.cell (p:=⟨b',off'+k,Z⟩) hb').trans g0');have HS:=hid (jY wr.drew (tx.below HBd.out) (ty.below HBd.out));rw [decide_eq_true rfl] at HS;clear g0 g0' tx ty;go_wp2_with fail
  refine wp_region_held_drew (S:=(fun w'=>w'.cell? ⟨b,off+k,Z⟩=I (Y Ax nx cx) ∧ w'.cell? ⟨b',off'+k,Z⟩=I (Y Ay ny cy))) (by kernel_rfl) ?_ (fun hHeld => ?_)
  · (try dsimp only);exact ⟨HD0.out,HD1.out⟩
  refine tq 0 hHeld ?_;try simp only [p7]
  refine tq 1 hHeld ?_;try simp only [p7]
  refine tq 2 hHeld ?_;try simp only [p7]
  refine tq 3 hHeld ?_;try simp only [p7]
  refine tq 4 hHeld ?_;try simp only [p7]
  refine tq 5 hHeld ?_;try simp only [p7]
  refine tq 6 hHeld ?_;try simp only [p7]
  refine tq 7 hHeld ?_;try simp only [p7]
  refine r1 8 fun K hK => ?_;go_simp;go_at_call 23
  refine (HS.out).mono ?_;rintro e9 w9 ⟨rfl,m9,hw9⟩;have HB9:Hid (Below w.heap.size w w9):=hid (by rw [hw9];exact aK HBd.out m9);have HD09:=hid (HX.out w9 HB9.out);have HD19:=hid (HY.out w9 HB9.out);clear hw9;go_wp2_with fail
  refine hK.out _ _ (by exact ⟨HD09.out,HD19.out⟩) fun hHeld => ?_;clear hK K;try simp only [p7]
  refine tq 9 hHeld ?_;try simp only [p7]
  refine wpAnyH_done (by kernel_rfl) ?_ _;go_wp2_with fail
  go_roundw
  case rel=>exact ⟨k+1,by omega,by go_num,HB9⟩
  case measure=>simp [intOf];omega
theorem sA {w:World} {v u:eQ} {x:En} (h:p9 w v x) (h':p9 w u x) :
 Calls Tryz.prog 113 #[.agg #[O X x.kind,Y v.As v.ns v.cs,Y v.Ap v.np v.cp,Y v.Ai v.ni v.ci,Y v.Ac v.nc v.cc,Y v.At v.nt v.ct,Y v.Ab v.nb v.cb],.agg #[O X x.kind,Y u.As u.ns u.cs,Y u.Ap u.np u.cp,Y u.Ai u.ni u.ci,Y u.Ac u.nc u.cc,Y u.At u.nt u.ct,Y u.Ab u.nb u.cb]] w (fT true w):=by
 have HT:=hid (fun (w':World) (hh:Below w.heap.size w w') (A A':Option Addr) (n c n' c':Nat) (l:List Nd) (t1:aQ w A n c l) (t2:aQ w A' n' c' l)=>(jY w' (t1.below hh) (t2.below hh)).mono (fun e w'' ⟨h1,m,h2⟩=>(⟨by rw [decide_eq_true rfl] at h1;exact h1,by rw [h2];exact aK (Below.refl _ _) m⟩:fT true w' e w'')));have HRW:=hid (fun (w':World) (hh:Below w.heap.size w w') (A A':Option Addr) (n c n' c':Nat) (l:List (List Nd)) (t1:cE w A n c l) (t2:cE w A' n' c' l)=>sW (t1.below hh) (t2.below hh));have C1:=hid (fun w' hh=>HT.out w' hh _ _ _ _ _ _ _ h.sort h'.sort);have C2:=hid (fun w' hh=>HRW.out w' hh _ _ _ _ _ _ _ h.params h'.params);have C3:=hid (fun w' hh=>HRW.out w' hh _ _ _ _ _ _ _ h.indices h'.indices);have C4:=hid (fun w' hh=>HT.out w' hh _ _ _ _ _ _ _ h.type h'.type);have C5:=hid (fun w' hh=>HT.out w' hh _ _ _ _ _ _ _ h.body h'.body);have hnc:v.nc=u.nc:=by rw [← h.ctors.len,← h'.ctors.len]
 have hfew:=h.ctors.few;have HCT:=hid h.ctors;have HCT':=hid h'.ctors;have HB0:=hid (aB w (J #[O X x.kind,Y v.As v.ns v.cs,Y v.Ap v.np v.cp,Y v.Ai v.ni v.ci,Y v.Ac v.nc v.cc,Y v.At v.nt v.ct,Y v.Ab v.nb v.cb] 57));have HB1:=hid (HB0.out.alloc HB0.out.size (J #[O X x.kind,Y u.As u.ns u.cs,Y u.Ap u.np u.cp,Y u.Ai u.ni u.ci,Y u.Ac u.nc u.cc,Y u.At u.nt u.ct,Y u.Ab u.nb u.cb] 57));have HK1:Hid (aE ((w.alloc (J #[O X x.kind,Y v.As v.ns v.cs,Y v.Ap v.np v.cp,Y v.Ai v.ni v.ci,Y v.Ac v.nc v.cc,Y v.At v.nt v.ct,Y v.Ab v.nb v.cb] 57)).alloc (J #[O X x.kind,Y u.As u.ns u.cs,Y u.Ap u.np u.cp,Y u.Ai u.ni u.ci,Y u.Ac u.nc u.cc,Y u.At u.nt u.ct,Y u.Ab u.nb u.cb] 57)) w.heap.size 57 #[O X x.kind,Y v.As v.ns v.cs,Y v.Ap v.np v.cp,Y v.Ai v.ni v.ci,Y v.Ac v.nc v.cc,Y v.At v.nt v.ct,Y v.Ab v.nb v.cb]):=hid ((aE.new w 57 #[O X x.kind,Y v.As v.ns v.cs,Y v.Ap v.np v.cp,Y v.Ai v.ni v.ci,Y v.Ac v.nc v.cc,Y v.At v.nt v.ct,Y v.Ab v.nb v.cb]).alloc _);have HK2:Hid (aE ((w.alloc (J #[O X x.kind,Y v.As v.ns v.cs,Y v.Ap v.np v.cp,Y v.Ai v.ni v.ci,Y v.Ac v.nc v.cc,Y v.At v.nt v.ct,Y v.Ab v.nb v.cb] 57)).alloc (J #[O X x.kind,Y u.As u.ns u.cs,Y u.Ap u.np u.cp,Y u.Ai u.ni u.ci,Y u.Ac u.nc u.cc,Y u.At u.nt u.ct,Y u.Ab u.nb u.cb] 57)) (w.heap.size+1) 57 #[O X x.kind,Y u.As u.ns u.cs,Y u.Ap u.np u.cp,Y u.Ai u.ni u.ci,Y u.Ac u.nc u.cc,Y u.At u.nt u.ct,Y u.Ab u.nb u.cb]):=hid (aE.new' (by simp));obtain ⟨As,ns,cs,Ap,np,cp,Ai,ni,ci,Ac,nc,cc,At,nt,ct,Ab,nb,cb⟩:=v;obtain ⟨As',ns',cs',Ap',np',cp',Ai',ni',ci',Ac',nc',cc',At',nt',ct',Ab',nb',cb'⟩:=u;simp only at hnc hfew HCT HCT' HB0 HB1 HK1 HK2 C1 C2 C3 C4 C5 ⊢;subst hnc;clear h h' HT;generalize x.kind=kd at *;have z1:=aE.cell HK1.out;have z2:=aE.cell HK2.out;go_in;go_wp2_with fail
 refine (C1.out _ HB1.out).mono ?_;rintro e w3 ⟨rfl,hd⟩;have HB3:=cN HB1 hd;have HK13:=gJ HK1 hd;have HK23:=gJ HK2 hd;clear hd z1 z2;have z1:=aE.cell HK13.out;have z2:=aE.cell HK23.out;go_wp2_with fail
 refine (C2.out _ HB3.out).mono ?_;rintro e w4 ⟨rfl,hd⟩;have HB4:=cN HB3 hd;have HK14:=gJ HK13 hd;have HK24:=gJ HK23 hd;clear hd z1 z2;have z1:=aE.cell HK14.out;have z2:=aE.cell HK24.out;go_wp2_with fail
 refine (C3.out _ HB4.out).mono ?_;rintro e w5 ⟨rfl,hd⟩;have HB5:=cN HB4 hd;have HK15:=gJ HK14 hd;have HK25:=gJ HK24 hd;clear hd z1 z2;have z1:=aE.cell HK15.out;have z2:=aE.cell HK25.out;go_wp2_with fail
 refine (C4.out _ HB5.out).mono ?_;rintro e w6 ⟨rfl,hd⟩;have HB6:=cN HB5 hd;have HK16:=gJ HK15 hd;have HK26:=gJ HK25 hd;clear hd z1 z2;have z1:=aE.cell HK16.out;have z2:=aE.cell HK26.out;go_wp2_with fail
 refine (C5.out _ HB6.out).mono ?_;rintro e w7 ⟨rfl,hd⟩;have HB7:=cN HB6 hd;have HK17:=gJ HK16 hd;have HK27:=gJ HK26 hd;clear hd z1 z2;have z1:=aE.cell HK17.out;have z2:=aE.cell HK27.out;go_wp2_with fail
 clear z1 z2;go_loopw [5] (fun iv wr=>∃ i:Nat,iv=O X (i:Int) ∧ i ≤ nc ∧ Hid (aE wr w.heap.size 57 #[O X kd,Y As ns cs,Y Ap np cp,Y Ai ni ci,Y Ac nc cc,Y At nt ct,Y Ab nb cb]) ∧ Hid (aE wr (w.heap.size+1) 57 #[O X kd,Y As' ns' cs',Y Ap' np' cp',Y Ai' ni' ci',Y Ac' nc cc',Y At' nt' ct',Y Ab' nb' cb']) ∧ Hid (Below w.heap.size w wr)) (fun i _=>nc-(intOf i).toNat)
 case atStart=>exact ⟨0,rfl,by omega,HK17,HK27,HB7⟩
 case round =>
  clear HK1 HK2 HB0 HB1 HB3 HK13 HK23 HB4 HK14 HK24 HB5 HK15 HK25 HB6 HK16 HK26 HB7 HK17 HK27;obtain ⟨i,rfl,hi,hk1,hk2,hbw⟩:=hrel;have z1:=aE.cell hk1.out;have z2:=aE.cell hk2.out;have hl2:=hk2.out.lt;by_cases hlt:i<nc;rotate_left
  · have y1:decide ((i:Int)<(nc:Int))=false:=decide_eq_false (by omega);have y2:decide (i<nc)=false:=decide_eq_false hlt;go_wp2_with fail
    go_ret;exact ⟨rfl,hbw.out⟩
  have y1:decide ((i:Int)<(nc:Int))=true:=decide_eq_true (by omega);have y2:decide (i<nc)=true:=decide_eq_true hlt;obtain ⟨b,o,rfl,hb,A1,n1,c1,A2,n2,c2,g0,g1,t1,t2⟩:=HCT.out.both hlt;obtain ⟨b',o',rfl,hb',A1',n1',c1',A2',n2',c2',g0',g1',t1',t2'⟩:=HCT'.out.both hlt;have HG:=hid (fun (w':World) (hh:Below w.heap.size w w')=>And.intro ((hh.cell (p:=⟨b,o+i*2,Z⟩) hb).trans g0) (And.intro ((hh.cell (p:=⟨b,o+i*2+1,Z⟩) hb).trans g1) (And.intro ((hh.cell (p:=⟨b',o'+i*2,Z⟩) hb').trans g0') ((hh.cell (p:=⟨b',o'+i*2+1,Z⟩) hb').trans g1'))));have D1:=hid (fun w' hh=>HRW.out w' hh _ _ _ _ _ _ _ t1 t1');have D2:=hid (fun w' hh=>HRW.out w' hh _ _ _ _ _ _ _ t2 t2');have HBd:=hid (aK hbw.out 1);have HKd:=hid (hk1.out.drewN 1);have HKK:=hid (hk2.out.drewN 1);have HKKd:=HKK;have HGd:=hid (HG.out _ HBd.out);clear g0 g1 g0' g1' t1 t2 t1' t2';go_wp2_with fail
  refine wp_region_held_drew (S:=(fun w'=>w'.cell? ⟨w.heap.size,4,Z⟩=I (Y (I ⟨b,o,Z⟩) nc cc) ∧ w'.cell? ⟨w.heap.size+1,4,Z⟩=I (Y (I ⟨b',o',Z⟩) nc cc') ∧ w'.cell? ⟨b,o+i*2,Z⟩=I (Y A1 n1 c1) ∧ w'.cell? ⟨b,o+i*2+1,Z⟩=I (Y A2 n2 c2) ∧ w'.cell? ⟨b',o'+i*2,Z⟩=I (Y A1' n1' c1') ∧ w'.cell? ⟨b',o'+i*2+1,Z⟩=I (Y A2' n2' c2'))) (by kernel_rfl) ?_ (fun hHeld => ?_)
  · (try dsimp only);exact ⟨HKd.out.cell 4,HKKd.out.cell 4,HGd.out.1,HGd.out.2.1,HGd.out.2.2.1,HGd.out.2.2.2⟩
  refine tq 0 hHeld ?_;try simp only [p7]
  refine tq 1 hHeld ?_;try simp only [p7]
  refine tq 2 hHeld ?_;try simp only [p7]
  refine tq 3 hHeld ?_;try simp only [p7]
  refine tq 4 hHeld ?_;try simp only [p7]
  refine tq 5 hHeld ?_;try simp only [p7]
  refine tq 6 hHeld ?_;try simp only [p7]
  refine tq 7 hHeld ?_;try simp only [p7]
  refine tq 8 hHeld ?_;try simp only [p7]
  refine tq 9 hHeld ?_;try simp only [p7]
  refine tq 10 hHeld ?_;try simp only [p7]
  refine tq 11 hHeld ?_;try simp only [p7]
  refine r1 12 fun K hK => ?_;go_simp;go_at_call 133
  refine (D1.out wr.drew HBd.out).mono ?_;rintro e8 w8 ⟨rfl,hd8⟩;have HB8:=cN HBd hd8;have HK8:=gJ HKd hd8;have HKK8:=gJ HKKd hd8;have HG8:=hid (HG.out _ HB8.out);clear hd8;go_wp2_with fail
  refine hK.out _ _ (by exact ⟨HK8.out.cell 4,HKK8.out.cell 4,HG8.out.1,HG8.out.2.1,HG8.out.2.2.1,HG8.out.2.2.2⟩) fun hHeld => ?_;clear hK K;try simp only [p7]
  refine tq 13 hHeld ?_;try simp only [p7]
  refine tq 14 hHeld ?_;try simp only [p7]
  refine tq 15 hHeld ?_;try simp only [p7]
  refine tq 16 hHeld ?_;try simp only [p7]
  refine tq 17 hHeld ?_;try simp only [p7]
  refine tq 18 hHeld ?_;try simp only [p7]
  refine tq 19 hHeld ?_;try simp only [p7]
  refine tq 20 hHeld ?_;try simp only [p7]
  refine tq 21 hHeld ?_;try simp only [p7]
  refine tq 22 hHeld ?_;try simp only [p7]
  refine tq 23 hHeld ?_;try simp only [p7]
  refine tq 24 hHeld ?_;try simp only [p7]
  refine tq 25 hHeld ?_;try simp only [p7]
  refine tq 26 hHeld ?_;try simp only [p7]
  refine r1 27 fun K hK => ?_;go_simp;go_at_call 133
  refine (D2.out w8 HB8.out).mono ?_;rintro e9 w9 ⟨rfl,hd9⟩;have HB9:=cN HB8 hd9;have HK9:=gJ HK8 hd9;have HKK9:=gJ HKK8 hd9;have HG9:=hid (HG.out _ HB9.out);clear hd9;go_wp2_with fail
  refine hK.out _ _ (by exact ⟨HK9.out.cell 4,HKK9.out.cell 4,HG9.out.1,HG9.out.2.1,HG9.out.2.2.1,HG9.out.2.2.2⟩) fun hHeld => ?_;clear hK K;try simp only [p7]
  refine tq 28 hHeld ?_;try simp only [p7]
  refine tq 29 hHeld ?_;try simp only [p7]
  refine wpAnyH_done (by kernel_rfl) ?_ _;go_wp2_with fail
  go_roundw
  case rel=>exact ⟨i+1,by go_num,by omega,HK9,HKK9,HB9⟩
  case measure=>simp [intOf];omega
theorem sU {w:World} {v u:cP} {b:Bk} (h:bY w v b) (h':bY w u b) :
 Calls Tryz.prog 61 #[.agg #[O X b.vars,Y v.Ao v.no v.co,Y v.Ae v.ne v.ce,O X b.nat,Y v.Ap v.np v.cp],.agg #[O X b.vars,Y u.Ao u.no u.co,Y u.Ae u.ne u.ce,O X b.nat,Y u.Ap u.np u.cp]] w (fT true w):=by
 have hno:v.no=u.no:=by rw [← h.orders.len,← h'.orders.len]
 have hne:v.ne=u.ne:=by rw [← h.entries.len,← h'.entries.len]
 have hnp:v.np=u.np:=by rw [← h.prims.len,← h'.prims.len]
 have f1:=h.orders.few;have f2:=h.entries.few;have f3:=h.prims.few;have HO:=hid h.orders;have HO':=hid h'.orders;have HE:=hid h.entries;have HE':=hid h'.entries;have HP:=hid h.prims;have HP':=hid h'.prims;have HB0:=hid (aB w (J #[O X b.vars,Y v.Ao v.no v.co,Y v.Ae v.ne v.ce,O X b.nat,Y v.Ap v.np v.cp] 26));have HB1:=hid (HB0.out.alloc HB0.out.size (J #[O X b.vars,Y u.Ao u.no u.co,Y u.Ae u.ne u.ce,O X b.nat,Y u.Ap u.np u.cp] 26));have HK1:Hid (aE ((w.alloc (J #[O X b.vars,Y v.Ao v.no v.co,Y v.Ae v.ne v.ce,O X b.nat,Y v.Ap v.np v.cp] 26)).alloc (J #[O X b.vars,Y u.Ao u.no u.co,Y u.Ae u.ne u.ce,O X b.nat,Y u.Ap u.np u.cp] 26)) w.heap.size 26 #[O X b.vars,Y v.Ao v.no v.co,Y v.Ae v.ne v.ce,O X b.nat,Y v.Ap v.np v.cp]):=hid ((aE.new w 26 #[O X b.vars,Y v.Ao v.no v.co,Y v.Ae v.ne v.ce,O X b.nat,Y v.Ap v.np v.cp]).alloc _);have HK2:Hid (aE ((w.alloc (J #[O X b.vars,Y v.Ao v.no v.co,Y v.Ae v.ne v.ce,O X b.nat,Y v.Ap v.np v.cp] 26)).alloc (J #[O X b.vars,Y u.Ao u.no u.co,Y u.Ae u.ne u.ce,O X b.nat,Y u.Ap u.np u.cp] 26)) (w.heap.size+1) 26 #[O X b.vars,Y u.Ao u.no u.co,Y u.Ae u.ne u.ce,O X b.nat,Y u.Ap u.np u.cp]):=hid (aE.new' (by simp));obtain ⟨Ao,no,co,Ae,ne,ce,Ap,np,cp⟩:=v;obtain ⟨Ao',no',co',Ae',ne',ce',Ap',np',cp'⟩:=u;simp only at hno hne hnp f1 f2 f3 HO HO' HE HE' HP HP' HB0 HB1 HK1 HK2 ⊢;subst hno;subst hne;subst hnp;clear h h';obtain ⟨os,hos⟩ : ∃ o,o=b.orders:=⟨_,rfl⟩;obtain ⟨es,hes⟩ : ∃ o,o=b.entries:=⟨_,rfl⟩;obtain ⟨ps,hps⟩ : ∃ o,o=b.prims:=⟨_,rfl⟩;rw [← hos] at HO HO';rw [← hes] at HE HE';rw [← hps] at HP HP';clear hos hes hps;generalize b.vars=bv at *;generalize b.nat=bn at *;have z1:=aE.cell HK1.out;have z2:=aE.cell HK2.out;go_in;go_wp2_with fail
 clear z1 z2;go_loopw [5] (fun iv wr=>∃ i:Nat,iv=O X (i:Int) ∧ i ≤ no ∧ Hid (aE wr w.heap.size 26 #[O X bv,Y Ao no co,Y Ae ne ce,O X bn,Y Ap np cp]) ∧ Hid (aE wr (w.heap.size+1) 26 #[O X bv,Y Ao' no co',Y Ae' ne ce',O X bn,Y Ap' np cp']) ∧ Hid (Below w.heap.size w wr)) (fun i _=>no-(intOf i).toNat)
 case atStart=>exact ⟨0,rfl,by omega,HK1,HK2,HB1⟩
 case round =>
  clear HK1 HK2 HB0 HB1;obtain ⟨i,rfl,hi,hk1,hk2,hbw⟩:=hrel;have z1:=aE.cell hk1.out;have z2:=aE.cell hk2.out;by_cases hlt:i<no
  · have y1:decide ((i:Int)<(no:Int))=true:=decide_eq_true (by omega);have y2:decide (i<no)=true:=decide_eq_true hlt;obtain ⟨b1,o1,rfl,hb1,g0,g1,g2⟩:=HO.out.at_ hlt;obtain ⟨b2,o2,rfl,hb2,g0',g1',g2'⟩:=HO'.out.at_ hlt;have HG:=hid (fun (w':World) (hh:Below w.heap.size w w')=>And.intro ((hh.cell (p:=⟨b1,o1+i*3,Z⟩) hb1).trans g0) (And.intro ((hh.cell (p:=⟨b1,o1+i*3+1,Z⟩) hb1).trans g1) (And.intro ((hh.cell (p:=⟨b1,o1+i*3+2,Z⟩) hb1).trans g2) (And.intro ((hh.cell (p:=⟨b2,o2+i*3,Z⟩) hb2).trans g0') (And.intro ((hh.cell (p:=⟨b2,o2+i*3+1,Z⟩) hb2).trans g1') ((hh.cell (p:=⟨b2,o2+i*3+2,Z⟩) hb2).trans g2'))))));have hnq:=DW (aL os i).op (aL os i).a (aL os i).b;have HBd:=hid (aK hbw.out 1);have HKd:=hid (hk1.out.drewN 1);have HKKd:=hid (hk2.out.drewN 1);have HGd:=hid (HG.out _ HBd.out);clear g0 g1 g2 g0' g1' g2';generalize aL os i=nd at *;go_wp2_with fail
    refine wp_region_held_drew (S:=(fun w'=>w'.cell? ⟨w.heap.size,1,Z⟩=I (Y (I ⟨b1,o1,Z⟩) no co) ∧ w'.cell? ⟨w.heap.size+1,1,Z⟩=I (Y (I ⟨b2,o2,Z⟩) no co') ∧ w'.cell? ⟨b1,o1+i*3,Z⟩=I (O X nd.op) ∧ w'.cell? ⟨b1,o1+i*3+1,Z⟩=I (O X nd.a) ∧ w'.cell? ⟨b1,o1+i*3+2,Z⟩=I (O X nd.b) ∧ w'.cell? ⟨b2,o2+i*3,Z⟩=I (O X nd.op) ∧ w'.cell? ⟨b2,o2+i*3+1,Z⟩=I (O X nd.a) ∧ w'.cell? ⟨b2,o2+i*3+2,Z⟩=I (O X nd.b))) (by kernel_rfl) ?_ (fun hHeld => ?_)
    · (try dsimp only);exact ⟨HKd.out.cell 1,HKKd.out.cell 1,HGd.out.1,HGd.out.2.1,HGd.out.2.2.1,HGd.out.2.2.2.1,HGd.out.2.2.2.2.1,HGd.out.2.2.2.2.2⟩
    refine tq 0 hHeld ?_;try simp only [p7]
    refine tq 1 hHeld ?_;try simp only [p7]
    refine tq 2 hHeld ?_;try simp only [p7]
    refine tq 3 hHeld ?_;try simp only [p7]
    refine tq 4 hHeld ?_;try simp only [p7]
    refine tq 5 hHeld ?_;try simp only [p7]
    refine tq 6 hHeld ?_;try simp only [p7]
    refine tq 7 hHeld ?_;try simp only [p7]
    refine tq 8 hHeld ?_;try simp only [p7]
    refine tq 9 hHeld ?_;try simp only [p7]
    refine tq 10 hHeld ?_;try simp only [p7]
    refine wpAnyH_done (by kernel_rfl) ?_ _;go_wp2_with fail
    go_roundw
    case rel=>exact ⟨i+1,by go_num,by omega,HKd,HKKd,HBd⟩
    case measure=>simp [intOf];omega
  have y1:decide ((i:Int)<(no:Int))=false:=decide_eq_false (by omega);have y2:decide (i<no)=false:=decide_eq_false hlt;obtain ⟨wo,rfl⟩ : ∃ wo:World,wo=wr:=⟨_,rfl⟩;go_wp2_with fail
  clear z1 z2;go_loopw [6] (fun iv wr=>∃ i:Nat,iv=O X (i:Int) ∧ i ≤ ne ∧ Hid (aE wr w.heap.size 26 #[O X bv,Y Ao no co,Y Ae ne ce,O X bn,Y Ap np cp]) ∧ Hid (aE wr (w.heap.size+1) 26 #[O X bv,Y Ao' no co',Y Ae' ne ce',O X bn,Y Ap' np cp']) ∧ Hid (Below w.heap.size w wr)) (fun i _=>ne-(intOf i).toNat)
  case atStart=>exact ⟨0,rfl,by omega,hk1,hk2,hbw⟩
  case round =>
   clear hk1 hk2 hbw;obtain ⟨j,rfl,hj,hk1,hk2,hbw⟩:=hrel;have z1:=aE.cell hk1.out;have z2:=aE.cell hk2.out;have hl2:=hk2.out.lt;by_cases hlt:j<ne
   · have y3:decide ((j:Int)<(ne:Int))=true:=decide_eq_true (by omega);have y4:decide (j<ne)=true:=decide_eq_true hlt;obtain ⟨b1,o1,rfl,hb1,e1,c0,c1,c2,c3,c4,c5,c6,hc⟩:=HE.out.at_ hlt;obtain ⟨b2,o2,rfl,hb2,e2,c0',c1',c2',c3',c4',c5',c6',hc'⟩:=HE'.out.at_ hlt;have HG:=hid (fun (w':World) (hh:Below w.heap.size w w')=>(⟨⟨(hh.cell (p:=⟨b1,o1+j*7,Z⟩) hb1).trans c0,(hh.cell (p:=⟨b1,o1+j*7+1,Z⟩) hb1).trans c1,(hh.cell (p:=⟨b1,o1+j*7+2,Z⟩) hb1).trans c2,(hh.cell (p:=⟨b1,o1+j*7+3,Z⟩) hb1).trans c3,(hh.cell (p:=⟨b1,o1+j*7+4,Z⟩) hb1).trans c4,(hh.cell (p:=⟨b1,o1+j*7+5,Z⟩) hb1).trans c5,(hh.cell (p:=⟨b1,o1+j*7+6,Z⟩) hb1).trans c6⟩,⟨(hh.cell (p:=⟨b2,o2+j*7,Z⟩) hb2).trans c0',(hh.cell (p:=⟨b2,o2+j*7+1,Z⟩) hb2).trans c1',(hh.cell (p:=⟨b2,o2+j*7+2,Z⟩) hb2).trans c2',(hh.cell (p:=⟨b2,o2+j*7+3,Z⟩) hb2).trans c3',(hh.cell (p:=⟨b2,o2+j*7+4,Z⟩) hb2).trans c4',(hh.cell (p:=⟨b2,o2+j*7+5,Z⟩) hb2).trans c5',(hh.cell (p:=⟨b2,o2+j*7+6,Z⟩) hb2).trans c6'⟩⟩:(w'.cell? ⟨b1,o1+j*7,Z⟩=I (O X (es.getD j default).kind) ∧ w'.cell? ⟨b1,o1+j*7+1,Z⟩=I (Y e1.As e1.ns e1.cs) ∧ w'.cell? ⟨b1,o1+j*7+2,Z⟩=I (Y e1.Ap e1.np e1.cp) ∧ w'.cell? ⟨b1,o1+j*7+3,Z⟩=I (Y e1.Ai e1.ni e1.ci) ∧ w'.cell? ⟨b1,o1+j*7+4,Z⟩=I (Y e1.Ac e1.nc e1.cc) ∧ w'.cell? ⟨b1,o1+j*7+5,Z⟩=I (Y e1.At e1.nt e1.ct) ∧ w'.cell? ⟨b1,o1+j*7+6,Z⟩=I (Y e1.Ab e1.nb e1.cb)) ∧ (w'.cell? ⟨b2,o2+j*7,Z⟩=I (O X (es.getD j default).kind) ∧ w'.cell? ⟨b2,o2+j*7+1,Z⟩=I (Y e2.As e2.ns e2.cs) ∧ w'.cell? ⟨b2,o2+j*7+2,Z⟩=I (Y e2.Ap e2.np e2.cp) ∧ w'.cell? ⟨b2,o2+j*7+3,Z⟩=I (Y e2.Ai e2.ni e2.ci) ∧ w'.cell? ⟨b2,o2+j*7+4,Z⟩=I (Y e2.Ac e2.nc e2.cc) ∧ w'.cell? ⟨b2,o2+j*7+5,Z⟩=I (Y e2.At e2.nt e2.ct) ∧ w'.cell? ⟨b2,o2+j*7+6,Z⟩=I (Y e2.Ab e2.nb e2.cb))));have HC:=hid (fun (w':World) (hh:Below w.heap.size w w')=>sA (hc.below hh) (hc'.below hh));have HBd:=hid (aK hbw.out 1);have HKd:=hid (hk1.out.drewN 1);have HKKd:=hid (hk2.out.drewN 1);have HGd:=hid (HG.out _ HBd.out);clear c0 c1 c2 c3 c4 c5 c6 c0' c1' c2' c3' c4' c5' c6' hc hc';generalize es.getD j default=x at *;go_wp2_with fail
     refine wp_region_held_drew (S:=(fun w'=>w'.cell? ⟨w.heap.size,2,Z⟩=I (Y (I ⟨b1,o1,Z⟩) ne ce) ∧ w'.cell? ⟨w.heap.size+1,2,Z⟩=I (Y (I ⟨b2,o2,Z⟩) ne ce') ∧ w'.cell? ⟨b1,o1+j*7,Z⟩=I (O X x.kind) ∧ w'.cell? ⟨b1,o1+j*7+1,Z⟩=I (Y e1.As e1.ns e1.cs) ∧ w'.cell? ⟨b1,o1+j*7+2,Z⟩=I (Y e1.Ap e1.np e1.cp) ∧ w'.cell? ⟨b1,o1+j*7+3,Z⟩=I (Y e1.Ai e1.ni e1.ci) ∧ w'.cell? ⟨b1,o1+j*7+4,Z⟩=I (Y e1.Ac e1.nc e1.cc) ∧ w'.cell? ⟨b1,o1+j*7+5,Z⟩=I (Y e1.At e1.nt e1.ct) ∧ w'.cell? ⟨b1,o1+j*7+6,Z⟩=I (Y e1.Ab e1.nb e1.cb) ∧ w'.cell? ⟨b2,o2+j*7,Z⟩=I (O X x.kind) ∧ w'.cell? ⟨b2,o2+j*7+1,Z⟩=I (Y e2.As e2.ns e2.cs) ∧ w'.cell? ⟨b2,o2+j*7+2,Z⟩=I (Y e2.Ap e2.np e2.cp) ∧ w'.cell? ⟨b2,o2+j*7+3,Z⟩=I (Y e2.Ai e2.ni e2.ci) ∧ w'.cell? ⟨b2,o2+j*7+4,Z⟩=I (Y e2.Ac e2.nc e2.cc) ∧ w'.cell? ⟨b2,o2+j*7+5,Z⟩=I (Y e2.At e2.nt e2.ct) ∧ w'.cell? ⟨b2,o2+j*7+6,Z⟩=I (Y e2.Ab e2.nb e2.cb))) (by kernel_rfl) ?_ (fun hHeld => ?_)
     · (try dsimp only);exact ⟨HKd.out.cell 2,HKKd.out.cell 2,HGd.out.1.1,HGd.out.1.2.1,HGd.out.1.2.2.1,HGd.out.1.2.2.2.1,HGd.out.1.2.2.2.2.1,HGd.out.1.2.2.2.2.2.1,HGd.out.1.2.2.2.2.2.2,HGd.out.2.1,HGd.out.2.2.1,HGd.out.2.2.2.1,HGd.out.2.2.2.2.1,HGd.out.2.2.2.2.2.1,HGd.out.2.2.2.2.2.2.1,HGd.out.2.2.2.2.2.2.2⟩
     refine tq 0 hHeld ?_;try simp only [p7]
     refine tq 1 hHeld ?_;try simp only [p7]
     refine tq 2 hHeld ?_;try simp only [p7]
     refine tq 3 hHeld ?_;try simp only [p7]
     refine tq 4 hHeld ?_;try simp only [p7]
     refine tq 5 hHeld ?_;try simp only [p7]
     refine tq 6 hHeld ?_;try simp only [p7]
     refine tq 7 hHeld ?_;try simp only [p7]
     refine tq 8 hHeld ?_;try simp only [p7]
     refine tq 9 hHeld ?_;try simp only [p7]
     refine r1 10 fun K hK => ?_;go_simp;go_at_call 113
     refine (HC.out wr.drew HBd.out).mono ?_;rintro e9 w9 ⟨rfl,hd9⟩;have HB9:=cN HBd hd9;have HK9:=gJ HKd hd9;have HKK9:=gJ HKKd hd9;have HG9:=hid (HG.out _ HB9.out);clear hd9;go_wp2_with fail
     refine hK.out _ _ (by exact ⟨HK9.out.cell 2,HKK9.out.cell 2,HG9.out.1.1,HG9.out.1.2.1,HG9.out.1.2.2.1,HG9.out.1.2.2.2.1,HG9.out.1.2.2.2.2.1,HG9.out.1.2.2.2.2.2.1,HG9.out.1.2.2.2.2.2.2,HG9.out.2.1,HG9.out.2.2.1,HG9.out.2.2.2.1,HG9.out.2.2.2.2.1,HG9.out.2.2.2.2.2.1,HG9.out.2.2.2.2.2.2.1,HG9.out.2.2.2.2.2.2.2⟩) fun hHeld => ?_;clear hK K;try simp only [p7]
     refine tq 11 hHeld ?_;try simp only [p7]
     refine wpAnyH_done (by kernel_rfl) ?_ _;go_wp2_with fail
     go_roundw
     case rel=>exact ⟨j+1,by go_num,by omega,HK9,HKK9,HB9⟩
     case measure=>simp [intOf];omega
   have y3:decide ((j:Int)<(ne:Int))=false:=decide_eq_false (by omega);have y4:decide (j<ne)=false:=decide_eq_false hlt;obtain ⟨wq,rfl⟩ : ∃ wo:World,wo=wr:=⟨_,rfl⟩;go_wp2_with fail
   clear z1 z2;go_loopw [7] (fun iv wr=>∃ i:Nat,iv=O X (i:Int) ∧ i ≤ np ∧ Hid (aE wr w.heap.size 26 #[O X bv,Y Ao no co,Y Ae ne ce,O X bn,Y Ap np cp]) ∧ Hid (aE wr (w.heap.size+1) 26 #[O X bv,Y Ao' no co',Y Ae' ne ce',O X bn,Y Ap' np cp']) ∧ Hid (Below w.heap.size w wr)) (fun i _=>np-(intOf i).toNat)
   case atStart=>exact ⟨0,rfl,by omega,hk1,hk2,hbw⟩
   case round =>
    clear hk1 hk2 hbw;obtain ⟨k,rfl,hk,hk1,hk2,hbw⟩:=hrel;have z1:=aE.cell hk1.out;have z2:=aE.cell hk2.out;by_cases hlt:k<np
    · have y5:decide ((k:Int)<(np:Int))=true:=decide_eq_true (by omega);have y6:decide (k<np)=true:=decide_eq_true hlt;obtain ⟨b1,o1,rfl,hb1,hm1⟩:=HP.out.mem (by omega);obtain ⟨b2,o2,rfl,hb2,hm2⟩:=HP'.out.mem (by omega);obtain ⟨g0,g1⟩:=hm1 k hlt;obtain ⟨g0',g1'⟩:=hm2 k hlt;have HG:=hid (fun (w':World) (hh:Below w.heap.size w w')=>And.intro ((hh.cell (p:=⟨b1,o1+k*2,Z⟩) hb1).trans g0) (And.intro ((hh.cell (p:=⟨b1,o1+k*2+1,Z⟩) hb1).trans g1) (And.intro ((hh.cell (p:=⟨b2,o2+k*2,Z⟩) hb2).trans g0') ((hh.cell (p:=⟨b2,o2+k*2+1,Z⟩) hb2).trans g1'))));have hnq:=GR (ps.getD k (0,0)).1 (ps.getD k (0,0)).2;have HBd:=hid (aK hbw.out 1);have HKd:=hid (hk1.out.drewN 1);have HKKd:=hid (hk2.out.drewN 1);have HGd:=hid (HG.out _ HBd.out);clear g0 g1 g0' g1' hm1 hm2;generalize ps.getD k (0,0)=p at *;go_wp2_with fail
      refine wp_region_held_drew (S:=(fun w'=>w'.cell? ⟨w.heap.size,4,Z⟩=I (Y (I ⟨b1,o1,Z⟩) np cp) ∧ w'.cell? ⟨w.heap.size+1,4,Z⟩=I (Y (I ⟨b2,o2,Z⟩) np cp') ∧ w'.cell? ⟨b1,o1+k*2,Z⟩=I (O X p.1) ∧ w'.cell? ⟨b1,o1+k*2+1,Z⟩=I (O X p.2) ∧ w'.cell? ⟨b2,o2+k*2,Z⟩=I (O X p.1) ∧ w'.cell? ⟨b2,o2+k*2+1,Z⟩=I (O X p.2))) (by kernel_rfl) ?_ (fun hHeld => ?_)
      · (try dsimp only);exact ⟨HKd.out.cell 4,HKKd.out.cell 4,HGd.out.1,HGd.out.2.1,HGd.out.2.2.1,HGd.out.2.2.2⟩
      refine tq 0 hHeld ?_;try simp only [p7]
      refine tq 1 hHeld ?_;try simp only [p7]
      refine tq 2 hHeld ?_;try simp only [p7]
      refine tq 3 hHeld ?_;try simp only [p7]
      refine tq 4 hHeld ?_;try simp only [p7]
      refine tq 5 hHeld ?_;try simp only [p7]
      refine tq 6 hHeld ?_;try simp only [p7]
      refine tq 7 hHeld ?_;try simp only [p7]
      refine tq 8 hHeld ?_;try simp only [p7]
      refine tq 9 hHeld ?_;try simp only [p7]
      refine tq 10 hHeld ?_;try simp only [p7]
      refine wpAnyH_done (by kernel_rfl) ?_ _;go_wp2_with fail
      go_roundw
      case rel=>exact ⟨k+1,by go_num,by omega,HKd,HKKd,HBd⟩
      case measure=>simp [intOf];omega
    have y5:decide ((k:Int)<(np:Int))=false:=decide_eq_false (by omega);have y6:decide (k<np)=false:=decide_eq_false hlt;go_wp2_with fail
    go_ret;exact ⟨rfl,hbw.out⟩
end Go.Proofs.YtplecfbdchmogaaGreat
