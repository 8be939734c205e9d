/- Merged: WhF, WhO, WhI, NmA. -/
import Derived.Test.YtjoddliplahgkaaGreatTWhD
namespace Go.Proofs.YtjoddliplahgkaaGreat
set_option linter.unusedVariables false
set_option linter.unusedSimpArgs false
open Go.RowKit
open Go.Value renaming int → O, slice → X, pointer → J
open Go.IntKind renaming i64 → S
open Option renaming none → Y, some → Z
open Go.Obj renaming cells → I
variable {b:Bk}{cv:aAA}{c n:Nat}{A:ZZ}{w:aAB}
section
open Go.Lib renaming hid->aB
set_option maxHeartbeats 4000000
set_option maxRecDepth 100000
inductive RQ
 | bad (e:Int)
 | done (l:List Nd) (k:Nat)
def UH(g:Nat)(v:bR)(b:Bk)(cA:ZZ)(cn cc:Nat)(r:RQ)(w:aAB)(e:Ending)(w':aAB):Prop:=aZ (fun q=>q=g) Y w w'/\((∃z,r=.bad z/\e=.panicked (nJ z))\/∃l k A n c,r=.done l k/\e=.returned (X A n c)/\bK w' w.heap.size (X A n c) l/\aT w' g 76 (zB v b cA cn cc k))
def sA(r:RQ)(w:aAB)(e:Ending)(w':aAB):Prop:=ZY w w'/\((∃z,r=.bad z/\e=.returned (.tuple #[X Y 0 0,O S 0,O S z]))\/∃l k A n c,r=.done l k/\e=.returned (.tuple #[X A n c,O S (k:Int),O S 0])/\bK w' w.heap.size (X A n c) l)
def eR(fuel:Int):Nat:=(min (max fuel 0) 100000).toNat
theorem EB{v:bR}{cA:ZZ}{cn cc:Nat}(hb:cE w v b)(b4:jU (· < w.heap.size) w cA cn cc cv)(fuel:Int){fid:FuncId}{p:Nat}{r:RQ}(e8:∀(args:Array Value)(w:aAB),(callFunc fid args).run Tryz.prog w=.ok (.enter fid args) w)(a6:∀(g:Nat)(W:aAB),ZY w W->yO w g v b cA cn cc cv (eR fuel) W->Calls Tryz.prog fid #[J (Z ⟨g,0,Y⟩),J (Z ⟨p,0,Y⟩)] W (UH g v b cA cn cc r W)):
 Calls Tryz.prog 58 #[.agg #[O S b.vars,X v.Ao v.no v.co,X v.Ae v.ne v.ce,O S b.nat,X v.Ap v.np v.cp],X cA cn cc,X A n c,O S fuel,.func (.func fid) #[] #[J (Z ⟨p,0,Y⟩)]] w (sA r w):=by
 obtain⟨W4,a0⟩:=aAJ ((((w.alloc (I #[O S b.vars,X v.Ao v.no v.co,X v.Ae v.ne v.ce,O S b.nat,X v.Ap v.np v.cp] 26)).alloc (I #[X Y 0 0] 29)).alloc (I #[O S 0] 3)).alloc (I #[O S 0] 34));have b3:ZY w W4:=by rw[a0];exact (((aQ w _).alloc aD _).alloc aH _).alloc aH _
 have e6:W4.heap.size=w.heap.size+4:=by rw[a0];simp
 have k0:aT W4 w.heap.size 26 #[O S b.vars,X v.Ao v.no v.co,X v.Ae v.ne v.ce,O S b.nat,X v.Ap v.np v.cp]:=by rw[a0];exact (((aT.new _ _ _).alloc _).alloc _).alloc _
 have k1:aT W4 (w.heap.size+1) 29 #[X Y 0 0]:=by rw[a0];exact ((aT.new' aD).alloc _).alloc _
 have k2:aT W4 (w.heap.size+2) 3 #[O S 0]:=by rw[a0];exact (aT.new' aD).alloc _
 have k3:aT W4 (w.heap.size+3) 34 #[O S 0]:=by rw[a0];exact aT.new' aD
 obtain⟨e0,d2,d3⟩:=aAF a0.symm k0 k1;have d4:Hid (aT W4 (w.heap.size+1+1) 3 #[O S 0]):=aB k2;have d5:Hid (aT W4 (w.heap.size+1+1+1) 34 #[O S 0]):=aB k3;obtain⟨F,hF⟩:=aAJ (eR fuel);have b2:min (max fuel 0) 100000=(F:Int):=by unfold eR at hF;omega
 have e1:F<=100000:=aA;rw[<-hF]at a6;obtain⟨mx,a9⟩:∃mx:Int,mx=(if fuel<0 then 0 else fuel):=⟨_,rfl⟩;have b5:(if 100000<mx then 100000 else mx)=(F:Int):=by rw[a9,<-b2];split<;>split<;>omega
 obtain⟨b1,b0⟩:=aAC a9 b5;obtain⟨w6,a7⟩:=aAJ (W4.alloc (I #[O S b.vars,X v.Ao v.no v.co,X v.Ae v.ne v.ce,O S b.nat,X v.Ap v.np v.cp,X cA cn cc,O S (F:Int)] 76));have a4:ZY W4 w6:=by rw[a7];exact aQ _ _
 obtain⟨g,hg⟩:=aAJ (w.heap.size+4);have b6:aT w6 g 76 #[O S b.vars,X v.Ao v.no v.co,X v.Ae v.ne v.ce,O S b.nat,X v.Ap v.np v.cp,X cA cn cc,O S (F:Int)]:=by rw[a7];exact aT.new' aA
 have U:ZY w w6:=b3.trans (a4.mono aA);have d7:Hid (yO w g v b cA cn cc cv F w6):=aB ⟨U,b6,by omega,b4.keep fun q hq=>⟨⟨XT hq U.size,by omega⟩,fun o=>U.cell (p:=⟨q,o,Y⟩) hq⟩⟩;have e7:w6.heap.size=w.heap.size+5:=by rw[a7];simp;omega
 obtain⟨a3,d9⟩:=aAC U (a6 g w6 U d7.o);have b8:w.heap.size+1<W4.heap.size:=aA;have b9:w.heap.size+1+1<W4.heap.size:=aA;have c0:w.heap.size+1+1+1<W4.heap.size:=aA;obtain⟨L1,L2,L3⟩:=aAF (d3.o.below a4 b8) (d4.o.below a4 b9) (d5.o.below a4 c0);have l1:w.heap.size+1<w6.heap.size:=aA;have l2:w.heap.size+1+1<w6.heap.size:=aA;have l3:w.heap.size+1+1+1<w6.heap.size:=aA;have e9:w.heap.size+1+1+1<g:=aA;clear hb b4 b3 a0 k0 k1 k2 k3 a4 b6 U a6 hF b2 e1 a9 b5;go_enter_defers Tryz.func58,Tryz.ntmps58
 go_upto_region 2 with fail
 rw[e0.o];have z0:=aT.cell d2.o;go_upto_region 3 with fail
 rw[<-b1.o,b0.o,<-hg,<-a7];clear a7 z0 e6 e7 hg b1 b0;go_wp2_with fail;refine (d9.o).mono ?_;rintro e w7 ⟨a5,h7⟩;obtain⟨K1,K2,K3⟩:=aAF (L1.o.moved a5 aA aD) (L2.o.moved a5 aA aD) (L3.o.moved a5 aA aD);have a8:Hid (ZY w w7):=aB (a3.o.trans (a5.to_below a3.o.size (fun k h=>by omega) (fun _ e=>by cases e)));clear a5;rcases h7 with⟨z,hz,rfl⟩|⟨l,k,D,s,G,hd,rfl,c4,b7⟩
 . have HZ:=aB hz;clear hz;go_wp2_with fail;unfold nJ;refine leaves_cons (f:=103) (args:=#[J (Z ⟨w.heap.size+1,0,Y⟩),J (Z ⟨w.heap.size+1+1,0,Y⟩),J (Z ⟨w.heap.size+1+1+1,0,Y⟩)]) aD (by simp[go_sem]) ?_;refine (wF (w.heap.size+1) (w.heap.size+1+1) (w.heap.size+1+1+1) aA aA aA _ _ _ z [] w7 K1.o K2.o K3.o).mono ?_;rintro e u' wf ⟨rfl,rfl,e2,e3,e4,e5⟩;have q1:wf.cell? ⟨w.heap.size+1,0,Y⟩=Z (X Y 0 0):=e3.cell 0;have q2:wf.cell? ⟨w.heap.size+1+1,0,Y⟩=Z (O S 0):=e4.cell 0;have q3:wf.cell? ⟨w.heap.size+1+1+1,0,Y⟩=Z (O S z):=e5.cell 0;have HP:Hid (sA r w (.returned (.tuple #[X Y 0 0,O S 0,O S z])) wf):=aB ⟨a8.o.trans (e2.to_below a8.o.size (fun k h=>by omega) (fun _ e=>by cases e)),.inl ⟨z,HZ.o,rfl⟩⟩;simp[Leaves,settle,results,Tryz.results58,go_sem,q1,q2,q3];exact HP.o
 obtain⟨HD,d8,d6⟩:=aAF hd c4 b7;have c1:=K1.o.cell;have f1:=K1.o.frozen;clear hd c4 b7;go_upto_region 4 with fail
 obtain⟨w9,a1⟩:=aAJ (w7.setCell ⟨w.heap.size+1,0,Y⟩ (X D s G));have m9:ZY w w9:=by rw[a1];exact a8.o.setCell aH _
 have m1:aT w9 (w.heap.size+1) 29 #[X D s G]:=by rw[a1];simpa using K1.o.set_ 0 (X D s G)
 have m2:aT w9 (w.heap.size+1+1) 3 #[O S 0]:=by rw[a1];exact K2.o.far (p:=⟨w.heap.size+1,0,Y⟩) aD _
 have m3:aT w9 (w.heap.size+1+1+1) 34 #[O S 0]:=by rw[a1];exact K3.o.far (p:=⟨w.heap.size+1,0,Y⟩) aH _
 have mg:aT w9 g 76 #[O S b.vars,X v.Ao v.no v.co,X v.Ae v.ne v.ce,O S b.nat,X v.Ap v.np v.cp,X cA cn cc,O S (k:Int)]:=by rw[a1];exact d6.o.far (p:=⟨w.heap.size+1,0,Y⟩) aH _
 have mt:bK w9 w6.heap.size (X D s G) l:=by rw[a1];exact d8.o.setCell (a:=⟨w.heap.size+1,0,Y⟩) (show w.heap.size+1<w6.heap.size by omega) _
 rw[<-a1];clear a1 c1 f1;have c1:=m1.cell;have c2:=m2.cell;have c3:=m3.cell;have cg:=mg.cell;have f1:=m1.frozen;have f2:=m2.frozen;have f3:=m3.frozen;obtain⟨WF,a2⟩:=aAJ (((w9.setCell ⟨w.heap.size+1,0,Y⟩ (X D s G)).setCell ⟨w.heap.size+1+1,0,Y⟩ (O S (k:Int))).setCell ⟨w.heap.size+1+1+1,0,Y⟩ (O S 0)).drew;have c5:aT (w9.setCell ⟨w.heap.size+1,0,Y⟩ (X D s G)) (w.heap.size+1) 29 #[X D s G]:=by simpa using m1.set_ 0 (X D s G)
 have c6:aT (w9.setCell ⟨w.heap.size+1,0,Y⟩ (X D s G)) (w.heap.size+1+1) 3 #[O S 0]:=m2.far (p:=⟨w.heap.size+1,0,Y⟩) aH _;have c8:aT (w9.setCell ⟨w.heap.size+1,0,Y⟩ (X D s G)) (w.heap.size+1+1+1) 34 #[O S 0]:=m3.far (p:=⟨w.heap.size+1,0,Y⟩) aH _;have c9:aT ((w9.setCell ⟨w.heap.size+1,0,Y⟩ (X D s G)).setCell ⟨w.heap.size+1+1,0,Y⟩ (O S (k:Int))) (w.heap.size+1) 29 #[X D s G]:=c5.far (p:=⟨w.heap.size+1+1,0,Y⟩) aH _;have d0:aT ((w9.setCell ⟨w.heap.size+1,0,Y⟩ (X D s G)).setCell ⟨w.heap.size+1+1,0,Y⟩ (O S (k:Int))) (w.heap.size+1+1) 3 #[O S (k:Int)]:=by simpa using c6.set_ 0 (O S (k:Int))
 have d1:aT ((w9.setCell ⟨w.heap.size+1,0,Y⟩ (X D s G)).setCell ⟨w.heap.size+1+1,0,Y⟩ (O S (k:Int))) (w.heap.size+1+1+1) 34 #[O S 0]:=c8.far (p:=⟨w.heap.size+1+1,0,Y⟩) aH _;have X1:Hid (aT WF (w.heap.size+1) 29 #[X D s G]):=aB (by rw[a2];exact (c9.far (p:=⟨w.heap.size+1+1+1,0,Y⟩) aH _));have X2:Hid (aT WF (w.heap.size+1+1) 3 #[O S (k:Int)]):=aB (by rw[a2];exact (d0.far (p:=⟨w.heap.size+1+1+1,0,Y⟩) aH _));have X3:Hid (aT WF (w.heap.size+1+1+1) 34 #[O S 0]):=aB (by rw[a2];exact (by simpa using d1.set_ 0 (O S 0):aT (((w9.setCell ⟨w.heap.size+1,0,Y⟩ (X D s G)).setCell ⟨w.heap.size+1+1,0,Y⟩ (O S (k:Int))).setCell ⟨w.heap.size+1+1+1,0,Y⟩ (O S 0)) (w.heap.size+1+1+1) 34 #[O S 0]));have XB:Hid (ZY w WF):=aB (by rw[a2];exact aU (((m9.setCell (p:=⟨w.heap.size+1,0,Y⟩) aH _).setCell (p:=⟨w.heap.size+1+1,0,Y⟩) aH _).setCell (p:=⟨w.heap.size+1+1+1,0,Y⟩) aH _) 1);have XO:Hid (bK WF w.heap.size (X D s G) l):=aB (by rw[a2];exact gN ((((mt.setCell (a:=⟨w.heap.size+1,0,Y⟩) (show w.heap.size+1<w6.heap.size by omega) _).setCell (a:=⟨w.heap.size+1+1,0,Y⟩) (show w.heap.size+1+1<w6.heap.size by omega) _).setCell (a:=⟨w.heap.size+1+1+1,0,Y⟩) (show w.heap.size+1+1+1<w6.heap.size by omega) _).drewN 1) a3.o.size);clear c5 c6 c8 c9 d0 d1 m1 m2 m3 mt m9 mg;go_region
 go_wp2_with fail;rw[<-a2];clear a2;refine leaves_cons (f:=103) (args:=#[J (Z ⟨w.heap.size+1,0,Y⟩),J (Z ⟨w.heap.size+1+1,0,Y⟩),J (Z ⟨w.heap.size+1+1+1,0,Y⟩)]) aD (by simp[go_sem]) ?_;refine (wG _ _ _ _).mono ?_;rintro e u' f0 ⟨rfl,rfl,rfl⟩;have q1:(WF.alloc (I #[O S 0] 72)).cell? ⟨w.heap.size+1,0,Y⟩=Z (X D s G):=(X1.o.alloc _).cell 0;have q2:(WF.alloc (I #[O S 0] 72)).cell? ⟨w.heap.size+1+1,0,Y⟩=Z (O S (k:Int)):=(X2.o.alloc _).cell 0;have q3:(WF.alloc (I #[O S 0] 72)).cell? ⟨w.heap.size+1+1+1,0,Y⟩=Z (O S 0):=(X3.o.alloc _).cell 0;have HP:Hid (sA r w (.returned (.tuple #[X D s G,O S (k:Int),O S 0])) (WF.alloc (I #[O S 0] 72))):=aB ⟨XB.o.alloc XB.o.size _,.inr ⟨l,k,D,s,G,HD.o,rfl,XO.o.alloc _⟩⟩;generalize (WF.alloc (I #[O S 0] 72))=wz at HP q1 q2 q3 ⊢;simp[Leaves,settle,results,Tryz.results58,go_sem,q1,q2,q3];exact HP.o
theorem sA.base{r:RQ}{G w':aAB}{e:Ending}(h:sA r G e w')(F:ZY w G):sA r w e w':=by
 obtain⟨U,D⟩:=h;refine⟨F.trans (U.mono F.size),?_⟩;rcases D with D|⟨l,k,A,n,c,o,s,z⟩
 . exact .inl D
 exact .inr ⟨l,k,A,n,c,o,s,gN z F.size⟩
def RK:R4->RQ
 | .bad z=>.bad z
 | .done y k=>.done (aW (gA y)) k
def TU(b:Bk)(cv:aAA)(x:TT)(F:Nat):RQ:=RK (kI b cv F (bX x) 4096)
theorem G6{w0:aAB}{g:Nat}{v:bR}{cA:ZZ}{cn cc:Nat}(hr:bU b=0)(hb:cE w0 v b)(hc:gG b cv)(a7:(cv.length:Int)<=990000){F:Nat}(hF:F<=100000)(hw:yO w0 g v b cA cn cc cv F w){p:Nat}{x:TT}(hp:aT w p 29 #[X A n c])(ht:aX w A n c (aW x))(hx:bO b (cv.length:Int) x):
 Calls Tryz.prog 59 #[J (Z ⟨g,0,Y⟩),J (Z ⟨p,0,Y⟩)] w (UH g v b cA cn cc (TU b cv x F) w):=by
 have c9:=eY hx;have b3:bL x<=4096:=hx.few;have b5:=aB (fR ht hx);have a9:=qH hr hc (F*4097+dA (bX x)+1) F (bX x) 4096 (lQ hx) aA aA aA;obtain⟨r,a0⟩:=aAJ (kI b cv F (bX x) 4096);have a4:=aB (fun (W:aAB) (hB:ZY w W) (A4 B4:ZZ) (n4 c4 m4 d4:Nat) (h9:fL w.heap.size W (bX x) A4 n4 c4 B4 m4 d4)=>zP (w0:=w0) (g:=g) (cA:=cA) (cn:=cn) (cc:=cc) hr hb hc a7 (F*4097+dA (bX x)+1) _ (XU _) W (bX x) A4 B4 n4 c4 m4 d4 w.heap.size F 4096 (hw.below hB) hw.lt hB.size h9 (lQ hx) aA aA aA a9.1);have e9:mK b cv (F*4097+dA (bX x)+1) F (bX x) 4096=r:=a0.symm;rw[e9]at a4;have HQ:Hid (TU b cv x F=RK r):=aB (congrArg RK a0.symm);have b6:=aB (fun (y:Fc) (k:Nat) (h:r=.done y k)=>rZ hr hc (n:=F) (m:=k) (f:=bX x) (y:=y) (room:=4096) (lQ hx) aA aA (a0.symm.trans h));have zp:=hp.cell;have c6:=hw.lt;generalize TU b cv x F=rr at *;clear hr hb hc a7 hw hp ht hx c9 b3;go_in;go_wp2_with fail;refine (b5.o).mono ?_;rintro e w2 ⟨a5,A2,n2,c2,B2,m2,d2,rfl,a8⟩;obtain⟨a2,b4⟩:=aAC a5 a8;clear a5 a8;go_wp2_with fail;refine (a4.o w2 a2.o A2 B2 n2 c2 m2 d2 b4.o).mono ?_;rintro e w3 ⟨b1,h3⟩;have G:Hid (aZ (fun q=>q=g) Y w w3):=aB ((aZ.of_below a2.o).trans (row':=Y) b1 (fun _ e=>by cases e));clear b1;rcases h3 with⟨z,hz,rfl⟩|⟨y,k,A3,n3,c3,B3,m3,d3,hd,rfl,s,b0⟩
 . have HE:Hid (rr=.bad z):=aB (HQ.o.trans (congrArg RK hz));clear hz;go_wp2_with fail;exact⟨rfl,G.o,.inl ⟨z,HE.o,rfl⟩⟩
 have HE:Hid (rr=.done (aW (gA y)) k):=aB (HQ.o.trans (congrArg RK hd));have D:=aB (b6.o y k hd);have a1:dA y<=4096:=by have:=D.o.2.1;omega
 have c8:=s.len.2;have c5:=dM.argsLen D.o.1 a1;obtain⟨b7,c1,a3⟩:=aAF (s.read (g:=g) c6 aA) a1 b0;clear hd s b0 a1 c8 c5;go_wp2_with fail;refine (nR b7.o D.o.1).mono ?_;rintro e w4 ⟨U,h4⟩;rcases h4 with⟨_,A7,n7,c7,rfl,_,b2⟩|⟨a6,rfl⟩;rotate_left
 . exact absurd a6 (by have:=c1.o;omega)
 have b9:Hid (aZ (fun q=>q=g) Y w w4):=aB (G.o.trans (row':=Y) (aZ.of_below U) (fun _ e=>by cases e));obtain⟨b8,c0⟩:=aAC (a3.o.below U a3.o.lt) (gN b2 G.o.size);clear U b2;go_wp2_with fail;go_ret;exact⟨b9.o,.inr ⟨_,k,A7,n7,c7,HE.o,rfl,c0.o,b8.o⟩⟩
theorem BY{v:bR}{cA:ZZ}{cn cc:Nat}(hr:bU b=0)(hb:cE w v b)(hc:gG b cv)(h:(cv.length:Int)<=990000)(s:jU (· < w.heap.size) w cA cn cc cv){x:TT}(ht:aX w A n c (aW x))(hx:bO b (cv.length:Int) x)(fuel:Int):
 Calls Tryz.prog 32 #[.agg #[O S b.vars,X v.Ao v.no v.co,X v.Ae v.ne v.ce,O S b.nat,X v.Ap v.np v.cp],X cA cn cc,X A n c,O S fuel] w (sA (TU b cv x (eR fuel)) w):=by
 obtain⟨w1,F⟩:=aAJ ((w.alloc (I #[O S b.vars,X v.Ao v.no v.co,X v.Ae v.ne v.ce,O S b.nat,X v.Ap v.np v.cp] 26)).alloc (I #[X A n c] 29));have D:ZY w w1:=by rw[F];exact bS _ _ _
 have k0:aT w1 w.heap.size 26 #[O S b.vars,X v.Ao v.no v.co,X v.Ae v.ne v.ce,O S b.nat,X v.Ap v.np v.cp]:=by rw[F];exact (aT.new _ _ _).alloc _
 have k1:aT w1 (w.heap.size+1) 29 #[X A n c]:=by rw[F];exact aT.new' aD
 have z0:=k0.cell;have z1:=k1.cell;have a2:w.heap.size+1<w1.heap.size:=k1.lt;have U:eR fuel<=100000:=by unfold eR;omega
 obtain⟨a0,a1⟩:=aAC D (EB (A:=A) (n:=n) (c:=c) (hb.below D) (s.keep fun q hq=>⟨XT hq D.size,fun o=>D.cell (p:=⟨q,o,Y⟩) hq⟩) fuel (fid:=59) (p:=w.heap.size+1) (r:=TU b cv x (eR fuel)) (fun _ _=>by kernel_rfl) (fun g W hB hM=>G6 hr (hb.below D) hc h U hM (k1.below hB a2) (ht.below (D.trans (hB.mono D.size))) hx));clear hr hb hc h s ht hx D k0 k1 U;generalize TU b cv x (eR fuel)=rr at *;go_in;go_upto_region 1 with fail
 rw[<-F];clear F;go_wp2_with fail;refine (a1.o).mono ?_;rintro e w2 h2;have h3:=h2.base a0.o;clear h2;obtain⟨G,h4⟩:=h3;rcases h4 with⟨z,hz,rfl⟩|⟨l,k,A7,n7,c7,hd,rfl,ho⟩
 . have HP:Hid (sA rr w (.returned (.tuple #[X Y 0 0,O S 0,O S z])) w2):=aB ⟨G,.inl ⟨z,hz,rfl⟩⟩;clear hz G;go_wp2_with fail;go_ret3
   exact HP.o
 have HP:Hid (sA rr w (.returned (.tuple #[X A7 n7 c7,O S (k:Int),O S 0])) w2):=aB ⟨G,.inr ⟨l,k,A7,n7,c7,hd,rfl,ho⟩⟩;clear hd G ho;go_wp2_with fail;go_ret3
 exact HP.o
end
section
theorem CR{D:List (List Nd)->Nat->TT->uO}{cvs:Nat->List (List Nd)}{e:Int}:∀(L:List TT)(i n:Nat),(∀(j:Nat)(y:TT)(k:Nat),L[j]? = Z y->k<=n->D (cvs (i+j)) k y≠.bad e/\∀z m,D (cvs (i+j)) k y=.done z m->m<=k)->fV D cvs i L n≠.bad e
 | [],_,_,_,h=>by cases h
 | x::r,i,n,H,h=>by
  simp only[fV]at h;obtain⟨F,G⟩:=H 0 x n rfl (XU _);simp only[YF]at F G;cases hx:D (cvs i) n x with
  | bad U =>
   rw[hx]at h F;injection h with h;exact F (by rw[h])
  | done y k =>
   rw[hx]at h;simp only at h;have hk:=G y k hx;have ih:=CR (e:=e) r (i+1) k (fun j z s hz o=>by
    have:=H (j+1) z s (by simpa using hz) aA
    rwa [show i+(j+1)=i+1+j from by omega]at this)
   cases hr:fV D cvs (i+1) r k with
   | bad U =>
    rw[hr]at h ih;injection h with h;exact ih (by rw[h])
   | done ys l=>rw[hr]at h;cases h
set_option maxRecDepth 20000 in
theorem sU{b:Bk}(o:bU b=0):∀(g:Nat)(cv:aAA)(n:Nat)(x:TT),GI b cv n x->n*4097+bL x<g->jS b g cv n x≠.bad 99/\∀k,jS b (g+k) cv n x=jS b g cv n x
 | 0,cv,n,x,_,h=>absurd h aA
 | g+1,cv,n,x,hQ,hg=>by
  obtain⟨hc,hx,hB⟩:=hQ;have a8:=eY hx;have a7:bL x<=4096:=hx.few;have a5:=(qH o hc (n*4097+dA (bX x)+1) n (bX x) 4096 (lQ hx) aA (YI _) aA).1;have G:∀k,jS b (g+k+1) cv n x=match kI b cv n (bX x) 4096 with
   | .bad e=>.bad e
   | .done f n1=>EZ (jS b (g+k)) cv f n1:=fun k=>rfl
  cases hw:kI b cv n (bX x) 4096 with
  | bad e =>
   have h0:=G 0;rw[hw]at h0;refine⟨fun h=>?_,fun k=>?_⟩
   . rw[show g+1=g+0+1 from rfl,h0]at h;injection h with h;subst h;exact a5 hw
   . have U:=G k;rw[hw]at U;rw[show g+1+k=g+k+1 from by omega,U,show g+1=g+0+1 from rfl,h0]
  | done f n1 =>
   obtain⟨q1,q2,q3,q4,q5,q6⟩:=DM o hc hx hB hw;have hK:∀(j:Nat)(y:TT)(k:Nat),(bH f.1.2.2)[j]? = Z y->k<=n1->GI b (eI cv f.1.1 (0+j)) k y/\k*4097+bL y<g:=fun j y k hy U=>by
    rw[YH];obtain⟨a1,a2⟩:=KP hc q1 q4 q5 hy;have:k*4097<=n1*4097:=Nat.mul_le_mul_right _ U;exact⟨a1.mono U,by omega⟩
   have hA:∀(j:Nat)(y:TT)(k:Nat),f.2[j]? = Z y->k<=n1->GI b cv k y/\k*4097+bL y<g:=fun j y k hy U=>by
    obtain⟨a1,a2⟩:=J7 hc q1 q5 hy;have:k*4097<=n1*4097:=Nat.mul_le_mul_right _ U;exact⟨a1.mono U,by omega⟩
   have a0:∀k,EZ (jS b (g+k)) cv f n1=EZ (jS b g) cv f n1:=by
    intro k;unfold EZ;have e1:fV (jS b (g+k)) (eI cv f.1.1) 0 (bH f.1.2.2) n1=fV (jS b g) (eI cv f.1.1) 0 (bH f.1.2.2) n1:=sV _ _ _ fun j y F hy D=>by
     obtain⟨c1,c2⟩:=hK j y F hy D;exact⟨(sU o g _ F y c1 c2).2 k,fun z m s=>(jI o _ _ _ _ c1 z m s).2⟩
    rw[e1];cases hks:fV (jS b g) (eI cv f.1.1) 0 (bH f.1.2.2) n1 with
    | bad e=>rfl
    | done ks n2 =>
     simp only;have k2:=(rC (b:=b) (bH f.1.2.2) 0 n1 (fun j z F hz D z' m' s=>jI o g _ _ _ (hK j z F hz D).1 z' m' s) ks n2 hks).2.1;have e2:fV (jS b (g+k)) (fun _=>cv) 0 f.2 n2=fV (jS b g) (fun _=>cv) 0 f.2 n2:=sV _ _ _ fun j y F hy D=>by
      obtain⟨c1,c2⟩:=hA j y F hy aA;exact⟨(sU o g _ F y c1 c2).2 k,fun z m s=>(jI o _ _ _ _ c1 z m s).2⟩
     rw[e2]
   have a6:EZ (jS b g) cv f n1≠.bad 99:=by
    unfold EZ;have a3:fV (jS b g) (eI cv f.1.1) 0 (bH f.1.2.2) n1≠.bad 99:=CR _ _ _ fun j y F hy D=>by
     obtain⟨c1,c2⟩:=hK j y F hy D;exact⟨(sU o g _ F y c1 c2).1,fun z m s=>(jI o _ _ _ _ c1 z m s).2⟩
    cases hks:fV (jS b g) (eI cv f.1.1) 0 (bH f.1.2.2) n1 with
    | bad e =>
     rw[hks]at a3;exact fun h=>a3 (by injection h with h;rw[h])
    | done ks n2 =>
     simp only;have k2:=(rC (b:=b) (bH f.1.2.2) 0 n1 (fun j z F hz D z' m' s=>jI o g _ _ _ (hK j z F hz D).1 z' m' s) ks n2 hks).2.1;have a4:fV (jS b g) (fun _=>cv) 0 f.2 n2≠.bad 99:=CR _ _ _ fun j y F hy D=>by
      obtain⟨c1,c2⟩:=hA j y F hy aA;exact⟨(sU o g _ F y c1 c2).1,fun z m s=>(jI o _ _ _ _ c1 z m s).2⟩
     cases has:fV (jS b g) (fun _=>cv) 0 f.2 n2 with
     | bad e =>
      rw[has]at a4;exact fun h=>a4 (by injection h with h;rw[h])
     | done rs n3 =>
      simp only;split
      . exact fun h=>(by injection h with h;cases h)
      . split
        . exact fun h=>(by injection h with h;cases h)
        exact fun h=>(by cases h)
   have h0:=G 0;rw[hw]at h0;simp only[YF]at h0;refine⟨by rw[h0];exact a6,fun k=>?_⟩;have U:=G k;rw[hw]at U;simp only at U;rw[show g+1+k=g+k+1 from by omega,U,h0];exact a0 k
def UX(b:Bk)(cv:aAA)(n:Nat)(x:TT):uO:=jS b (n*4097+bL x+1) cv n x
theorem SW(F:bU b=0){m:Nat}{x y:TT}(D:GI b cv n x)(h:UX b cv n x=.done y m):bO b (cv.length:Int) y/\m<=n:=jI F _ cv n x D y m h
end

section
open Go.Lib renaming hid->aB
set_option maxHeartbeats 4000000
set_option maxRecDepth 100000
theorem IG:(Tryz.prog.info? 51).map (fun i=>(i.zero,i.size,i.bytes))=Z (Z (.agg #[X Y 0 0,X Y 0 0]),2,48):=by kernel_rfl
theorem MF(U:n<=c)(D:A=Y->c=0):
 Calls Tryz.prog 107 #[X A n c] w (fun e w'=>e=.returned (X A n n)/\w'=w):=by
 have G:(n:Int)<=(c:Int):=aA;have F:(0:Int)<=(n:Int):=aA;cases A with
 | none =>
  obtain rfl:c=0:=D rfl;obtain rfl:n=0:=aA;clear D;go_in;go_wp2_with fail;go_ret;exact⟨rfl,rfl⟩
 | some a =>
  clear D;go_in;go_wp2_with fail;go_ret;exact⟨rfl,rfl⟩
def fT:List Value->List Value
 | []=>[]
 | x::xs=>x::X Y 0 0::fT xs
theorem wP:∀D,(fT D).length=D.length*2
 | []=>rfl
 | x::D=>by simp only[fT,YA,wP D];omega
theorem wO:∀(D:List Value)(x:Value),fT (D++[x])=fT D++[x,X Y 0 0]
 | [],x=>rfl
 | y::ys,x=>by simp only[ZM,fT,wO ys x]
theorem o6:∀(D:List Value)(k:Nat),k<D.length->(fT D)[k*2]? = D[k]?/\(fT D)[k*2+1]? = Z (X Y 0 0)
 | [],k,h=>by simp at h
 | x::D,0,_=>⟨rfl,rfl⟩
 | x::D,k+1,h=>by
  have:=o6 D k (by simpa using h);rw[show (k+1)*2=k*2+2 from by omega];simpa[fT] using this
def pY(n:Nd):Nat:=if n.op=4\/n.op=5 then 1 else if n.op=12 then n.b.toNat else 0
def UC(k:Nat)(w:aAB)(e:Ending)(w':aAB):Prop:=ZY w w'/\∃A c D,e=.returned (X A k c)/\D.length=k/\(∀x∈D,∃F n1 c1,x=Value.slice F n1 c1)/\w'.ownsRow w.heap.size 51 2 (X A k c) k (fT D)
theorem q9{g:Nat}{t:TypeId}{x y:Value}(h:aT w g t #[x,y]):∀D,Z (⟨g,0,Y⟩:Addr)=Z D->∀j u,([x,y]:List Value)[j]? = Z u->w.cell? (D.add j)=Z u:=by
 intro D e j u G;injection e with e;subst e;have F:(⟨g,0,Y⟩:Addr).add j=⟨g,j,Y⟩:=by unfold Addr.add;split<;>simp_all
 rw[F,h.cell];simpa using G
theorem tN{b:Int}(i:Nat):aR 12 b ((2*i:Nat):Int)=0:=by
 unfold aR;rw[XN aA,XN aA]
theorem GZ{free:Int}(h0:0<=free)(h1:free<=990000){t:TT}{Ak:ZZ}{nk ck:Nat}(ht:aX w A n c (aW t))(ft:bO b free t)(hk:fG (· < w.heap.size) w Ak nk ck ((bH t.2.2).map aW)):
 Calls Tryz.prog 106 #[X A n c,X Ak nk ck] w (UC (pY t.1) w):=by
 obtain⟨i0,hi,e8,e9,f0⟩:=info_parts IG;obtain⟨b2,b4,b5,b6⟩:=aAE hi e8 e9 f0;clear hi e8 e9 f0;have g6:0<n:=by rw[<-ht.len];exact iH t
 obtain⟨bs,os,rfl,h3,c0,c5,a5⟩:=ht.at_ g6;simp only[YU,YF]at c0 c5 a5;rw[show bC (aW t) 0=t.1 from rfl]at c0 c5 a5;have U:=hk.len;rw[YR]at U;obtain⟨so,a9⟩:=aAJ t.1.op;obtain⟨sb,a7⟩:=aAJ t.1.b;rw[<-a9]at c0;rw[<-a7]at a5;obtain⟨HK,f3⟩:=aAC hk ft;obtain⟨b0,G⟩:=aAJ (pY t.1);rw[<-G];unfold pY at G;rw[<-a9,<-a7]at G;obtain⟨a0,d3,g1⟩:=aAF G a9 a7;clear c5 G a9 a7 ht hk;by_cases z:so=4\/so=5
 . have g5:nk=2:=by
    obtain⟨p,q,hk⟩:=kQ ft.okt (by rw[<-d3.o];omega);rw[hk]at U;simpa using U.symm
   subst g5;obtain⟨bb,oo,rfl,b9,hm⟩:=HK.o.mem aA;obtain⟨F,n1,c1,c6,_⟩:=hm 0 aA;simp only[YF]at c6;have HR:Hid (b0=1):=aB (by rw[a0.o,XP z]);have d2:Hid ((w.alloc (I #[X F n1 c1,X Y 0 0] 51)).ownsRow w.heap.size 51 2 (X Y 0 0) 0 []):=aB (ZE _ _ _ _);have b3:=aB (aT.new w 51 #[X F n1 c1,X Y 0 0]);have a3:=aB (q9 b3.o);clear hm U ft;go_in;rcases z with rfl|rfl
   . go_wp2_with (at_builtin;refine a8 rfl (bW (.tmp 14) (.tmp 19) 27 rfl w.heap.size 51 i0 _ 2 48 Tryz.underlying27 b2.o b4.o b5.o b6.o rfl aE (X Y 0 0) 0 [] aF d2.o (Z ⟨w.heap.size,0,Y⟩) 1 1 [X F n1 c1,X Y 0 0] aF rfl (fun e=>by cases e) a3.o (by simp[Value.oneCell']) aJ aA aD ?_);intro A4 c4 w4 D)
     go_ret;rw[HR.o];exact⟨(aQ w _).grown D.grown aD (fun g hg=>by cases hg),A4,c4,[X F n1 c1],rfl,rfl,(fun x h=>by rw[ZK.1 h];exact⟨_,_,_,rfl⟩),D.own⟩
   go_wp2_with (at_builtin;refine a8 rfl (bW (.tmp 14) (.tmp 19) 27 rfl w.heap.size 51 i0 _ 2 48 Tryz.underlying27 b2.o b4.o b5.o b6.o rfl aE (X Y 0 0) 0 [] aF d2.o (Z ⟨w.heap.size,0,Y⟩) 1 1 [X F n1 c1,X Y 0 0] aF rfl (fun e=>by cases e) a3.o (by simp[Value.oneCell']) aJ aA aD ?_);intro A4 c4 w4 D)
   go_ret;rw[HR.o];exact⟨(aQ w _).grown D.grown aD (fun g hg=>by cases hg),A4,c4,[X F n1 c1],rfl,rfl,(fun x h=>by rw[ZK.1 h];exact⟨_,_,_,rfl⟩),D.own⟩
 have d4:(so==4)=false:=by rw[XY];omega
 have d5:(so==5)=false:=by rw[XY];omega
 by_cases a2:so=12;rotate_left
 . have h2:(so==12)=false:=by rw[XY];omega
   have HR:Hid (b0=0):=aB (by rw[a0.o,XN z,XN a2]);clear z a2 U ft;go_in;go_wp2_with fail;go_ret;rw[HR.o];exact⟨XS _ _,Y,0,[],rfl,rfl,(fun x h=>by cases h),ZE _ _ _ _⟩
 have b7:t.1.op=12:=d3.o.symm.trans a2;obtain⟨p1,p2,p3,p4,p5⟩:=fN ft.okt b7;rw[<-g1.o]at p1 p2 p5;obtain⟨nb,e6⟩:∃nb:Nat,sb=(nb:Int):=⟨sb.toNat,by omega⟩;have g8:nb<=4:=aA;have g7:nk=2*nb:=aA;have HR:Hid (b0=nb):=aB (by rw[a0.o,XN z,XP a2];omega);rw[e6]at a5;have f5:=aB g7;have d0:Hid (∀(i:Nat),i<nb->∀W,ZY w W->∃F n1 c1,(∀bb oo,Ak=Z ⟨bb,oo,Y⟩->W.cell? ⟨bb,oo+2*i,Y⟩=Z (X F n1 c1))/\Calls Tryz.prog 114 #[X F n1 c1,O S (i:Int),O S 0] W (lP (aW (jD (eM t (2*i)) (i:Int)),0) W)):=aB (fun i hi W hB=>by
  have e0:=jR (x:=t) (i:=2*i) aA;have d8:=f3.o.kid0 e0 (by rw[b7];exact tN i);obtain⟨bb,oo,hA,b9,hm⟩:=HK.o.mem aA;obtain⟨F,n1,c1,c6,e7⟩:=hm (2*i) aA;have e2:((bH t.2.2).map aW).getD (2*i) []=aW (eM t (2*i)):=by
   rw[YD,List.getElem?_map,e0];rfl
  rw[e2]at e7;refine⟨F,n1,c1,fun g9 h6 e=>?_,?_⟩
  . rw[hA]at e;injection e with e;injection e with e3 e4;subst e3 e4;exact (hB.cell (p:=⟨bb,oo+2*i,Y⟩) b9).trans c6
  have hl:=PS (bF.keep e7 (R':=(· < W.heap.size)) fun q hq=>⟨XT hq hB.size,fun o=>hB.cell (p:=⟨q,o,Y⟩) hq⟩) (i:Int) 0 aA;rw[(tH d8 (up:=(i:Int)) aA aA).2]at hl;exact hl)
 obtain⟨bb,oo,rfl,b9,_⟩:=HK.o.mem aA;subst a2;clear z d4 d5 U ft b7 p1 p2 p3 p4 p5 e6;go_in;go_wp2_with fail;go_loopw [5,27] (fun ov iv wr=>∃(i c1:Nat)(F:ZZ)(xs:List Value),i<=nb/\iv=O S (i:Int)/\ov=X F i c1/\Hid (xs.length=i)/\Hid (∀x∈xs,∃F n1 c1,x=Value.slice F n1 c1)/\Hid (wr.ownsRow w.heap.size 51 2 (X F i c1) i (fT xs))/\Hid (ZY w wr)) (fun _ iv _=>nb-(intOf iv).toNat)
 case atStart=>exact⟨0,0,Y,[],by omega,rfl,rfl,aB rfl,aB (fun x h=>by cases h),aB (ZE _ _ _ _),aB (XS _ _)⟩
 case round =>
  obtain⟨i,c1,F,xs,hi,rfl,rfl,c7,c8,a1,a4⟩:=hrel;by_cases a6:i<nb;rotate_left
  . have d9:i=nb:=aA;have e1:decide ((i:Int)<(nb:Int))=false:=XQ aA;have e2:decide (i<nb)=false:=XQ a6;have f9:Hid (b0=i):=aB (HR.o.trans d9.symm);clear d9 a6;go_wp2_with fail;go_ret;rw[f9.o];exact⟨a4.o,F,c1,xs,rfl,c7.o,c8.o,a1.o⟩
  have e1:decide ((i:Int)<(nb:Int))=true:=XR aA;have e2:decide (i<nb)=true:=XR a6;obtain⟨s,hs⟩:∃s,s=2*i:=⟨_,rfl⟩;have h5:IntKind.i64.wrap (2*(i:Int))=(s:Int):=by rw[XV];omega
  have h4:s<nk:=by have:=f5.o;omega
  obtain⟨A2,n2,c2,d7,e5⟩:=d0.o i a6 wr a4.o;have d6:=d7 bb oo rfl;rw[<-hs]at d6;have f4:=aB e5;have g3:=aB c7.o;have g4:=aB c8.o;have f8:=aB a1.o;have f2:=aB a4.o;clear d7 e5 c7 c8 a1 a4 hs;go_wp2_with fail;refine (f4.o).mono ?_;rintro e w2 ⟨b8,A3,n3,c3,rfl,_⟩;have c9:=bY f2 b8;have f6:=aB (bI f8.o b8);clear b8 d6;simp only;go_wp2_with fail;refine jQ.mono ?_;rintro e w3 ⟨rfl,rfl⟩;have b1:=aB (c9.o.alloc c9.o.size (I #[X A3 n3 c3,X Y 0 0] 51));have d1:=aB (bI f6.o (aQ w3 (I #[X A3 n3 c3,X Y 0 0] 51)));have b3:=aB (aT.new w3 51 #[X A3 n3 c3,X Y 0 0]);have a3:=aB (q9 b3.o);go_wp2_with (at_builtin;refine a8 rfl (bW (.tmp 30) (.tmp 42) 27 rfl w.heap.size 51 i0 _ 2 48 Tryz.underlying27 b2.o b4.o b5.o b6.o rfl aE (X F i c1) i (fT xs) aF d1.o (Z ⟨w3.heap.size,0,Y⟩) 1 1 [X A3 n3 c3,X Y 0 0] aF rfl (fun e=>by cases e) a3.o (by simp[Value.oneCell']) aJ aA b1.o.size ?_);intro A4 c4 w4 D)
  have f7:Hid (w4.ownsRow w.heap.size 51 2 (X A4 (i+1) c4) (i+1) (fT (xs++[X A3 n3 c3]))):=aB (by rw[wO];exact D.own);have f1:Hid (ZY w w4):=aB (b1.o.grown D.grown b1.o.size (fun g hg=>(aS d1.o hg).1));have g2:Hid ((xs++[Value.slice A3 n3 c3]).length=i+1):=aB (by rw[XX,g3.o];rfl);have g0:Hid (∀x∈xs++[Value.slice A3 n3 c3],∃F n1 c1,x=Value.slice F n1 c1):=aB (fun x h=>by
   rcases YW.1 h with h|h
   . exact g4.o x h
   rw[ZK.1 h];exact⟨_,_,_,rfl⟩)
  clear D;go_roundw
  case rel=>exact⟨i+1,c4,A4,xs++[X A3 n3 c3],by omega,by go_num,rfl,g2,g0,f7,f1⟩
  case measure=>simp[intOf];omega
end
end Go.Proofs.YtjoddliplahgkaaGreat
