/- core: run, Whnf. -/
import Derived.Test.YtjoddliplahgkaaGreatPWhD
namespace Go.Proofs.YtjoddliplahgkaaGreat
set_option linter.unusedVariables false
set_option linter.unusedSimpArgs false
open Go.RowKit
open Go.Value renaming int → O, slice → X, pointer → Z
open Go.IntKind renaming i64 → S
open Option renaming none → Y
open Go.Obj renaming cells → I
open Go.Lib renaming hid->aB
set_option maxHeartbeats 4000000
set_option maxRecDepth 100000
inductive P4
 | bad (e:Int)
 | done (l:List Nd) (k:Nat)
def RT (g:Nat) (v:bO) (b:Bk) (cA:Option Addr) (cn cc:Nat) (r:P4) (w:World) (e:Ending) (w':World):Prop:=bE (fun q=>q=g) Y w w'/\((∃z,r=.bad z/\e=.panicked (oG z))\/∃l k A n c,r=.done l k/\e=.returned (X A n c)/\bN w' w.heap.size (X A n c) l/\aS w' g 76 (N7 v b cA cn cc k))
def vK (r:P4) (w:World) (e:Ending) (w':World):Prop:=Below w.heap.size w w'/\((∃z,r=.bad z/\e=.returned (.tuple #[X Y 0 0,O S 0,O S z]))\/∃l k A n c,r=.done l k/\e=.returned (.tuple #[X A n c,O S (k:Int),O S 0])/\bN w' w.heap.size (X A n c) l)
def gZ (fuel:Int):Nat:=(min (max fuel 0) 100000).toNat
theorem LM {w:World} {v:bO} {b:Bk} {cA:Option Addr} {cn cc:Nat} {cv:List (List Nd)} (hb:bX w v b) (hcw:jI (· < w.heap.size) w cA cn cc cv) {A:Option Addr} {n c:Nat} (fuel:Int) {fid:FuncId} {p:Nat} {r:P4} (hen:∀(args:Array Value) (w:World),(callFunc fid args).run Tryz.prog w=.ok (.enter fid args) w) (hone:∀(g:Nat) (W:World),Below w.heap.size w W->AN w g v b cA cn cc cv (gZ fuel) W->Calls Tryz.prog fid #[Z (some ⟨g,0,Y⟩),Z (some ⟨p,0,Y⟩)] W (RT g v b cA cn cc r W)) :
 Calls Tryz.prog 58 #[.agg #[O S b.vars,X v.Ao v.no v.co,X v.Ae v.ne v.ce,O S b.nat,X v.Ap v.np v.cp],X cA cn cc,X A n c,O S fuel,.func (.func fid) #[] #[Z (some ⟨p,0,Y⟩)]] w (vK r w):=by
 obtain⟨W4,a2⟩ : ∃W4:World,W4=(((w.alloc (I #[O S b.vars,X v.Ao v.no v.co,X v.Ae v.ne v.ce,O S b.nat,X v.Ap v.np v.cp] 26)).alloc (I #[X Y 0 0] 29)).alloc (I #[O S 0] 3)).alloc (I #[O S 0] 34):=⟨_,rfl⟩;have b7:Below w.heap.size w W4:=by rw[a2];exact (((aP w _).alloc aD _).alloc aH _).alloc aH _
 have c5:W4.heap.size=w.heap.size+4:=by rw[a2];simp
 have k0:aS W4 w.heap.size 26 #[O S b.vars,X v.Ao v.no v.co,X v.Ae v.ne v.ce,O S b.nat,X v.Ap v.np v.cp]:=by rw[a2];exact (((aS.new _ _ _).alloc _).alloc _).alloc _
 have k1:aS W4 (w.heap.size+1) 29 #[X Y 0 0]:=by rw[a2];exact ((aS.new' aD).alloc _).alloc _
 have k2:aS W4 (w.heap.size+2) 3 #[O S 0]:=by rw[a2];exact (aS.new' aD).alloc _
 have k3:aS W4 (w.heap.size+3) 34 #[O S 0]:=by rw[a2];exact aS.new' aD
 have d2:=aB a2.symm;have e0:=aB k0;have d9:=aB k1;have d8:Hid (aS W4 (w.heap.size+1+1) 3 #[O S 0]):=aB k2;have d7:Hid (aS W4 (w.heap.size+1+1+1) 34 #[O S 0]):=aB k3;obtain⟨F,hF⟩ : ∃F:Nat,F=gZ fuel:=⟨_,rfl⟩;have b8:min (max fuel 0) 100000=(F:Int):=by unfold gZ at hF;omega
 have d1:F<=100000:=aA;rw[<-hF] at hone;obtain⟨mx,a8⟩ : ∃mx:Int,mx=(if fuel<0 then 0 else fuel):=⟨_,rfl⟩;have b6:(if 100000<mx then 100000 else mx)=(F:Int):=by rw[a8,<-b8];split<;>split<;>omega
 have b9:=aB a8;have c0:=aB b6;obtain⟨w6,a5⟩ : ∃w6:World,w6=W4.alloc (I #[O S b.vars,X v.Ao v.no v.co,X v.Ae v.ne v.ce,O S b.nat,X v.Ap v.np v.cp,X cA cn cc,O S (F:Int)] 76):=⟨_,rfl⟩;have a7:Below W4.heap.size W4 w6:=by rw[a5];exact aP _ _
 obtain⟨g,hg⟩ : ∃g,g=w.heap.size+4:=⟨_,rfl⟩;have b5:aS w6 g 76 #[O S b.vars,X v.Ao v.no v.co,X v.Ae v.ne v.ce,O S b.nat,X v.Ap v.np v.cp,X cA cn cc,O S (F:Int)]:=by rw[a5];exact aS.new' aA
 have a0:Below w.heap.size w w6:=b7.trans (a7.mono aA);have d5:Hid (AN w g v b cA cn cc cv F w6):=aB ⟨a0,b5,by omega,hcw.keep fun q hq=>⟨⟨Nat.lt_of_lt_of_le hq a0.size,by omega⟩,fun o=>a0.cell (p:=⟨q,o,Y⟩) hq⟩⟩;have c4:w6.heap.size=w.heap.size+5:=by rw[a5];simp;omega
 have a4:=aB a0;have d3:=aB (hone g w6 a0 d5.o);have b1:w.heap.size+1<W4.heap.size:=aA;have b0:w.heap.size+1+1<W4.heap.size:=aA;have a9:w.heap.size+1+1+1<W4.heap.size:=aA;have L1:=aB (d9.o.below a7 b1);have L2:=aB (d8.o.below a7 b0);have L3:=aB (d7.o.below a7 a9);have l1:w.heap.size+1<w6.heap.size:=aA;have l2:w.heap.size+1+1<w6.heap.size:=aA;have l3:w.heap.size+1+1+1<w6.heap.size:=aA;have e1:w.heap.size+1+1+1<g:=aA;clear hb hcw b7 a2 k0 k1 k2 k3 a7 b5 a0 hone hF b8 d1 a8 b6;go_enter_defers Tryz.func58,Tryz.ntmps58
 go_upto_region 2 with fail
 rw[d2.o];have z0:=aS.cell e0.o;go_upto_region 3 with fail
 rw[<-b9.o,c0.o,<-hg,<-a5];clear a5 z0 c5 c4 hg b9 c0;go_wp2_with fail;refine (d3.o).mono ?_;rintro e w7 ⟨a6,h7⟩;have K1:=aB (L1.o.moved a6 aA aD);have K2:=aB (L2.o.moved a6 aA aD);have K3:=aB (L3.o.moved a6 aA aD);have b2:Hid (Below w.heap.size w w7):=aB (a4.o.trans (a6.to_below a4.o.size (fun k h=>by omega) (fun _ e=>by cases e)));clear a6;rcases h7 with⟨z,hz,rfl⟩ | ⟨l,k,A7,n7,c7,hd,rfl,b3,b4⟩
 · have HZ:=aB hz;clear hz;go_wp2_with fail;unfold oG;refine leaves_cons (f:=103) (args:=#[Z (some ⟨w.heap.size+1,0,Y⟩),Z (some ⟨w.heap.size+1+1,0,Y⟩),Z (some ⟨w.heap.size+1+1+1,0,Y⟩)]) aD (by simp[go_sem]) ?_;refine (tT (w.heap.size+1) (w.heap.size+1+1) (w.heap.size+1+1+1) aA aA aA _ _ _ z [] w7 K1.o K2.o K3.o).mono ?_;rintro e u' wf ⟨rfl,rfl,d0,c9,c8,c6⟩;have q1:wf.cell? ⟨w.heap.size+1,0,Y⟩=some (X Y 0 0):=c9.cell 0;have q2:wf.cell? ⟨w.heap.size+1+1,0,Y⟩=some (O S 0):=c8.cell 0;have q3:wf.cell? ⟨w.heap.size+1+1+1,0,Y⟩=some (O S z):=c6.cell 0;have HP:Hid (vK r w (.returned (.tuple #[X Y 0 0,O S 0,O S z])) wf):=aB ⟨b2.o.trans (d0.to_below b2.o.size (fun k h=>by omega) (fun _ e=>by cases e)),.inl ⟨z,HZ.o,rfl⟩⟩;simp[Leaves,settle,results,Tryz.results58,go_sem,q1,q2,q3];exact HP.o
 have HD:=aB hd;have d4:=aB b3;have d6:=aB b4;have c1:=K1.o.cell;have f1:=K1.o.frozen;clear hd b3 b4;go_upto_region 4 with fail
 obtain⟨w9,a1⟩ : ∃w9:World,w9=w7.setCell ⟨w.heap.size+1,0,Y⟩ (X A7 n7 c7):=⟨_,rfl⟩;have m9:Below w.heap.size w w9:=by rw[a1];exact b2.o.setCell aH _
 have m1:aS w9 (w.heap.size+1) 29 #[X A7 n7 c7]:=by rw[a1];simpa using K1.o.set_ 0 (X A7 n7 c7)
 have m2:aS w9 (w.heap.size+1+1) 3 #[O S 0]:=by rw[a1];exact K2.o.far (p:=⟨w.heap.size+1,0,Y⟩) aD _
 have m3:aS w9 (w.heap.size+1+1+1) 34 #[O S 0]:=by rw[a1];exact K3.o.far (p:=⟨w.heap.size+1,0,Y⟩) aH _
 have mg:aS w9 g 76 #[O S b.vars,X v.Ao v.no v.co,X v.Ae v.ne v.ce,O S b.nat,X v.Ap v.np v.cp,X cA cn cc,O S (k:Int)]:=by rw[a1];exact d6.o.far (p:=⟨w.heap.size+1,0,Y⟩) aH _
 have mt:bN w9 w6.heap.size (X A7 n7 c7) l:=by rw[a1];exact d4.o.setCell (a:=⟨w.heap.size+1,0,Y⟩) (show w.heap.size+1<w6.heap.size by omega) _
 rw[<-a1];clear a1 c1 f1;have c1:=m1.cell;have c2:=m2.cell;have c3:=m3.cell;have cg:=mg.cell;have f1:=m1.frozen;have f2:=m2.frozen;have f3:=m3.frozen;obtain⟨WF,a3⟩ : ∃WF:World,WF=(((w9.setCell ⟨w.heap.size+1,0,Y⟩ (X A7 n7 c7)).setCell ⟨w.heap.size+1+1,0,Y⟩ (O S (k:Int))).setCell ⟨w.heap.size+1+1+1,0,Y⟩ (O S 0)).drew:=⟨_,rfl⟩;have x51:aS (w9.setCell ⟨w.heap.size+1,0,Y⟩ (X A7 n7 c7)) (w.heap.size+1) 29 #[X A7 n7 c7]:=by simpa using m1.set_ 0 (X A7 n7 c7)
 have x52:aS (w9.setCell ⟨w.heap.size+1,0,Y⟩ (X A7 n7 c7)) (w.heap.size+1+1) 3 #[O S 0]:=m2.far (p:=⟨w.heap.size+1,0,Y⟩) aH _;have x53:aS (w9.setCell ⟨w.heap.size+1,0,Y⟩ (X A7 n7 c7)) (w.heap.size+1+1+1) 34 #[O S 0]:=m3.far (p:=⟨w.heap.size+1,0,Y⟩) aH _;have x61:aS ((w9.setCell ⟨w.heap.size+1,0,Y⟩ (X A7 n7 c7)).setCell ⟨w.heap.size+1+1,0,Y⟩ (O S (k:Int))) (w.heap.size+1) 29 #[X A7 n7 c7]:=x51.far (p:=⟨w.heap.size+1+1,0,Y⟩) aH _;have x62:aS ((w9.setCell ⟨w.heap.size+1,0,Y⟩ (X A7 n7 c7)).setCell ⟨w.heap.size+1+1,0,Y⟩ (O S (k:Int))) (w.heap.size+1+1) 3 #[O S (k:Int)]:=by simpa using x52.set_ 0 (O S (k:Int))
 have x63:aS ((w9.setCell ⟨w.heap.size+1,0,Y⟩ (X A7 n7 c7)).setCell ⟨w.heap.size+1+1,0,Y⟩ (O S (k:Int))) (w.heap.size+1+1+1) 34 #[O S 0]:=x53.far (p:=⟨w.heap.size+1+1,0,Y⟩) aH _;have X1:Hid (aS WF (w.heap.size+1) 29 #[X A7 n7 c7]):=aB (by rw[a3];exact (x61.far (p:=⟨w.heap.size+1+1+1,0,Y⟩) aH _));have X2:Hid (aS WF (w.heap.size+1+1) 3 #[O S (k:Int)]):=aB (by rw[a3];exact (x62.far (p:=⟨w.heap.size+1+1+1,0,Y⟩) aH _));have X3:Hid (aS WF (w.heap.size+1+1+1) 34 #[O S 0]):=aB (by rw[a3];exact (by simpa using x63.set_ 0 (O S 0):aS (((w9.setCell ⟨w.heap.size+1,0,Y⟩ (X A7 n7 c7)).setCell ⟨w.heap.size+1+1,0,Y⟩ (O S (k:Int))).setCell ⟨w.heap.size+1+1+1,0,Y⟩ (O S 0)) (w.heap.size+1+1+1) 34 #[O S 0]));have XB:Hid (Below w.heap.size w WF):=aB (by rw[a3];exact aT (((m9.setCell (p:=⟨w.heap.size+1,0,Y⟩) aH _).setCell (p:=⟨w.heap.size+1+1,0,Y⟩) aH _).setCell (p:=⟨w.heap.size+1+1+1,0,Y⟩) aH _) 1);have XO:Hid (bN WF w.heap.size (X A7 n7 c7) l):=aB (by rw[a3];exact iA ((((mt.setCell (a:=⟨w.heap.size+1,0,Y⟩) (show w.heap.size+1<w6.heap.size by omega) _).setCell (a:=⟨w.heap.size+1+1,0,Y⟩) (show w.heap.size+1+1<w6.heap.size by omega) _).setCell (a:=⟨w.heap.size+1+1+1,0,Y⟩) (show w.heap.size+1+1+1<w6.heap.size by omega) _).drewN 1) a4.o.size);clear x51 x52 x53 x61 x62 x63 m1 m2 m3 mt m9 mg;go_region
 go_wp2_with fail;rw[<-a3];clear a3;refine leaves_cons (f:=103) (args:=#[Z (some ⟨w.heap.size+1,0,Y⟩),Z (some ⟨w.heap.size+1+1,0,Y⟩),Z (some ⟨w.heap.size+1+1+1,0,Y⟩)]) aD (by simp[go_sem]) ?_;refine (tU _ _ _ _).mono ?_;rintro e u' w'' ⟨rfl,rfl,rfl⟩;have q1:(WF.alloc (I #[O S 0] 72)).cell? ⟨w.heap.size+1,0,Y⟩=some (X A7 n7 c7):=(X1.o.alloc _).cell 0;have q2:(WF.alloc (I #[O S 0] 72)).cell? ⟨w.heap.size+1+1,0,Y⟩=some (O S (k:Int)):=(X2.o.alloc _).cell 0;have q3:(WF.alloc (I #[O S 0] 72)).cell? ⟨w.heap.size+1+1+1,0,Y⟩=some (O S 0):=(X3.o.alloc _).cell 0;have HP:Hid (vK r w (.returned (.tuple #[X A7 n7 c7,O S (k:Int),O S 0])) (WF.alloc (I #[O S 0] 72))):=aB ⟨XB.o.alloc XB.o.size _,.inr ⟨l,k,A7,n7,c7,HD.o,rfl,XO.o.alloc _⟩⟩;generalize (WF.alloc (I #[O S 0] 72))=wz at HP q1 q2 q3 ⊢;simp[Leaves,settle,results,Tryz.results58,go_sem,q1,q2,q3];exact HP.o
theorem vK.base {r:P4} {w w1 w':World} {e:Ending} (h:vK r w1 e w') (hb:Below w.heap.size w w1):vK r w e w':=by
 obtain⟨h1,h2⟩:=h;refine⟨hb.trans (h1.mono hb.size),?_⟩;rcases h2 with h2 | ⟨l,k,A,n,c,h3,h4,h5⟩
 · exact .inl h2
 exact .inr ⟨l,k,A,n,c,h3,h4,iA h5 hb.size⟩
def F9:P8->P4
 | .bad z=>.bad z
 | .done y k=>.done (aW (fI y)) k
def N5 (b:Bk) (cv:List (List Nd)) (x:TT) (F:Nat):P4:=F9 (oA b cv F (bU x) 4096)
theorem ED {w0:World} {g:Nat} {v:bO} {b:Bk} {cA:Option Addr} {cn cc:Nat} {cv:List (List Nd)} (hr:bP b=0) (hb:bX w0 v b) (hc:fR b cv) (hcl:(cv.length:Int)<=990000) {F:Nat} (hF:F<=100000) {w:World} (hw:AN w0 g v b cA cn cc cv F w) {p:Nat} {A:Option Addr} {n c:Nat} {x:TT} (hp:aS w p 29 #[X A n c]) (ht:aY w A n c (aW x)) (hx:bR b (cv.length:Int) x) :
 Calls Tryz.prog 59 #[Z (some ⟨g,0,Y⟩),Z (some ⟨p,0,Y⟩)] w (RT g v b cA cn cc (N5 b cv x F) w):=by
 have b7:=dJ hx;have a1:bI x<=4096:=hx.few;have d1:=aB (fP ht hx);have a3:=vF hr hc (F*4097+dK (bU x)+1) F (bU x) 4096 (kI hx) aA aA aA;obtain⟨r,a2⟩ : ∃r,r=oA b cv F (bU x) 4096:=⟨_,rfl⟩;have b4:=aB (fun (W:World) (hB:Below w.heap.size w W) (A4 B4:Option Addr) (n4 c4 m4 d4:Nat) (h9:fE w.heap.size W (bU x) A4 n4 c4 B4 m4 d4)=>I5 (w0:=w0) (g:=g) (cA:=cA) (cn:=cn) (cc:=cc) hr hb hc hcl (F*4097+dK (bU x)+1) _ (Nat.le_refl _) W (bU x) A4 B4 n4 c4 m4 d4 w.heap.size F 4096 (hw.below hB) hw.lt hB.size h9 (kI hx) aA aA aA a3.1);have e9:mD b cv (F*4097+dK (bU x)+1) F (bU x) 4096=r:=a2.symm;rw[e9] at b4;have HQ:Hid (N5 b cv x F=F9 r):=aB (congrArg F9 a2.symm);have d0:=aB (fun (y:Fc) (k:Nat) (h:r=.done y k)=>ID hr hc (n:=F) (m:=k) (f:=bU x) (y:=y) (room:=4096) (kI hx) aA aA (a2.symm.trans h));have zp:=hp.cell;have b9:=hw.lt;generalize N5 b cv x F=rr at *;clear hr hb hc hcl hw hp ht hx b7 a1;go_in;go_wp2_with fail;refine (d1.o).mono ?_;rintro e w2 ⟨b3,A2,n2,c2,B2,m2,d2,rfl,b2⟩;have b6:=aB b3;have d5:=aB b2;clear b3 b2;go_wp2_with fail;refine (b4.o w2 b6.o A2 B2 n2 c2 m2 d2 d5.o).mono ?_;rintro e w3 ⟨b0,h3⟩;have a7:Hid (bE (fun q=>q=g) Y w w3):=aB ((bE.of_below b6.o).trans (row':=Y) b0 (fun _ e=>by cases e));clear b0;rcases h3 with⟨z,hz,rfl⟩ | ⟨y,k,A3,n3,c3,B3,m3,d3,hd,rfl,a4,b1⟩
 · have HE:Hid (rr=.bad z):=aB (HQ.o.trans (congrArg F9 hz));clear hz;go_wp2_with fail;exact⟨rfl,a7.o,.inl ⟨z,HE.o,rfl⟩⟩
 have HE:Hid (rr=.done (aW (fI y)) k):=aB (HQ.o.trans (congrArg F9 hd));have a8:=aB (d0.o y k hd);have a0:dK y<=4096:=by have:=a8.o.2.1;omega
 have b8:=a4.len.2;have c0:=eH.argsLen a8.o.1 a0;have c9:=aB (a4.read (g:=g) b9 aA);have c1:=aB a0;have b5:=aB b1;clear hd a4 b1 a0 b8 c0;go_wp2_with fail;refine (pN c9.o a8.o.1).mono ?_;rintro e w4 ⟨a6,h4⟩;rcases h4 with⟨_,A7,n7,c7,rfl,_,a9⟩ | ⟨a5,rfl⟩;rotate_left
 · exact absurd a5 (by have:=c1.o;omega)
 have c6:Hid (bE (fun q=>q=g) Y w w4):=aB (a7.o.trans (row':=Y) (bE.of_below a6) (fun _ e=>by cases e));have c8:=aB (b5.o.below a6 b5.o.lt);have c5:=aB (iA a9 a7.o.size);clear a6 a9;go_wp2_with fail;go_ret;exact⟨c6.o,.inr ⟨_,k,A7,n7,c7,HE.o,rfl,c5.o,c8.o⟩⟩
theorem yU {w:World} {v:bO} {b:Bk} {cA:Option Addr} {cn cc:Nat} {cv:List (List Nd)} (hr:bP b=0) (hb:bX w v b) (hc:fR b cv) (hcl:(cv.length:Int)<=990000) (hcw:jI (· < w.heap.size) w cA cn cc cv) {A:Option Addr} {n c:Nat} {x:TT} (ht:aY w A n c (aW x)) (hx:bR b (cv.length:Int) x) (fuel:Int) :
 Calls Tryz.prog 32 #[.agg #[O S b.vars,X v.Ao v.no v.co,X v.Ae v.ne v.ce,O S b.nat,X v.Ap v.np v.cp],X cA cn cc,X A n c,O S fuel] w (vK (N5 b cv x (gZ fuel)) w):=by
 obtain⟨w1,a1⟩ : ∃w1:World,w1=(w.alloc (I #[O S b.vars,X v.Ao v.no v.co,X v.Ae v.ne v.ce,O S b.nat,X v.Ap v.np v.cp] 26)).alloc (I #[X A n c] 29):=⟨_,rfl⟩;have a0:Below w.heap.size w w1:=by rw[a1];exact a7 _ _ _
 have k0:aS w1 w.heap.size 26 #[O S b.vars,X v.Ao v.no v.co,X v.Ae v.ne v.ce,O S b.nat,X v.Ap v.np v.cp]:=by rw[a1];exact (aS.new _ _ _).alloc _
 have k1:aS w1 (w.heap.size+1) 29 #[X A n c]:=by rw[a1];exact aS.new' aD
 have z0:=k0.cell;have z1:=k1.cell;have a4:w.heap.size+1<w1.heap.size:=k1.lt;have a3:gZ fuel<=100000:=by unfold gZ;omega
 have a6:=aB a0;have a5:=aB (LM (A:=A) (n:=n) (c:=c) (hb.below a0) (hcw.keep fun q hq=>⟨Nat.lt_of_lt_of_le hq a0.size,fun o=>a0.cell (p:=⟨q,o,Y⟩) hq⟩) fuel (fid:=59) (p:=w.heap.size+1) (r:=N5 b cv x (gZ fuel)) (fun _ _=>by kernel_rfl) (fun g W hB hM=>ED hr (hb.below a0) hc hcl a3 hM (k1.below hB a4) (ht.below (a0.trans (hB.mono a0.size))) hx));clear hr hb hc hcl hcw ht hx a0 k0 k1 a3;generalize N5 b cv x (gZ fuel)=rr at *;go_in;go_upto_region 1 with fail
 rw[<-a1];clear a1;go_wp2_with fail;refine (a5.o).mono ?_;rintro e w2 h2;have h3:=h2.base a6.o;clear h2;obtain⟨a2,h4⟩:=h3;rcases h4 with⟨z,hz,rfl⟩ | ⟨l,k,A7,n7,c7,hd,rfl,ho⟩
 · have HP:Hid (vK rr w (.returned (.tuple #[X Y 0 0,O S 0,O S z])) w2):=aB ⟨a2,.inl ⟨z,hz,rfl⟩⟩;clear hz a2;go_wp2_with fail;go_ret3
   exact HP.o
 have HP:Hid (vK rr w (.returned (.tuple #[X A7 n7 c7,O S (k:Int),O S 0])) w2):=aB ⟨a2,.inr ⟨l,k,A7,n7,c7,hd,rfl,ho⟩⟩;clear hd a2 ho;go_wp2_with fail;go_ret3
 exact HP.o
end Go.Proofs.YtjoddliplahgkaaGreat
