/- Merged: WhD, WhF. -/
import Derived.Test.YtlahmbhimhmoaaaVWhZ
namespace Go.Proofs.Ytlahmbhimhmoaaa
set_option linter.unusedVariables false
set_option linter.unusedSimpArgs false
open Go.RowKit
open Go.Value renaming int → O, slice → X, pointer → Z
open Go.IntKind renaming i64 → S
open Option renaming none → Y, some → I
open Go.Obj renaming cells → J
variable {w:OE}
section
theorem nT(D:Int)(w:OE):(Instr.typeAssert (.iface 131 (.agg #[O S D])) 20 131 true).run Try.prog w=.ok (.tuple #[.agg #[O S D],.bool true]) w:=by kernel_rfl
theorem pD(w:OE):(Instr.typeAssert .nilIface 20 131 true).run Try.prog w=.ok (.tuple #[.agg #[O S 0],.bool false]) w:=by kernel_rfl
def pC(D F G:Nat)(U:Int)(w w':OE):Prop:=aS (fun k=>k=D\/k=F\/k=G) Y w w'/\aW w' D 29 #[X Y 0 0]/\aW w' F 3 #[O S 0]/\aW w' G 34 #[O S U]
theorem yB{D F G:Nat}{x y z:Value}{U:Int}(h:D≠F)(s:D≠G)(a0:F≠G)(h1:aW w D 29 #[x])(h2:aW w F 3 #[y])(h3:aW w G 34 #[z])(o:Obj):
 pC D F G U w ((((w.setCell ⟨D,0,Y⟩ (X Y 0 0)).setCell ⟨F,0,Y⟩ (O S 0)).setCell ⟨G,0,Y⟩ (O S U)).alloc o).drew:=by
 refine⟨(((((aS.refl _ _ w).setCell (p:=⟨D,0,Y⟩) (.inl rfl) _).setCell (p:=⟨F,0,Y⟩) (.inr (.inl rfl)) _).setCell (p:=⟨G,0,Y⟩) (.inr (.inr rfl)) _).alloc _).drew,?_,?_,?_⟩
 . have:=(((h1.set_ 0 (X Y 0 0)).far (p:=⟨F,0,Y⟩) h (O S 0)).far (p:=⟨G,0,Y⟩) s (O S U)).alloc o;exact (by simpa using this:aW ((((w.setCell ⟨D,0,Y⟩ (X Y 0 0)).setCell ⟨F,0,Y⟩ (O S 0)).setCell ⟨G,0,Y⟩ (O S U)).alloc o) D 29 #[X Y 0 0])
 . have:=(((h2.far (p:=⟨D,0,Y⟩) (Ne.symm h) (X Y 0 0)).set_ 0 (O S 0)).far (p:=⟨G,0,Y⟩) a0 (O S U)).alloc o;exact (by simpa using this:aW ((((w.setCell ⟨D,0,Y⟩ (X Y 0 0)).setCell ⟨F,0,Y⟩ (O S 0)).setCell ⟨G,0,Y⟩ (O S U)).alloc o) F 3 #[O S 0])
 have:=(((h3.far (p:=⟨D,0,Y⟩) (Ne.symm s) (X Y 0 0)).far (p:=⟨F,0,Y⟩) (Ne.symm a0) (O S 0)).set_ 0 (O S U)).alloc o;exact (by simpa using this:aW ((((w.setCell ⟨D,0,Y⟩ (X Y 0 0)).setCell ⟨F,0,Y⟩ (O S 0)).setCell ⟨G,0,Y⟩ (O S U)).alloc o) G 34 #[O S U])
theorem pE(F G U:Nat)(h:F≠G)(o:F≠U)(s:G≠U)(x y z:Value)(er:Int)(D:List PanicEntry)(w:OE)(h1:aW w F 29 #[x])(h2:aW w G 3 #[y])(h3:aW w U 34 #[z]):
 CallsD Try.prog 73 #[Z (I ⟨F,0,Y⟩),Z (I ⟨G,0,Y⟩),Z (I ⟨U,0,Y⟩)] (.panicking ({ v:=.iface 131 (.agg #[O S er]),recovered:=false }::D)) w fun e u' w' =>
  e=.returned (.tuple #[])/\u'=.panicking ({ v:=.iface 131 (.agg #[O S er]),recovered:=true }::D)/\pC F G U er w w':=by
 have c1:=h1.cell;have c2:=h2.cell;have c3:=h3.cell;have f1:=h1.frozen;have f2:=h2.frozen;have f3:=h3.frozen;refine callsD_of_wpS Try.func73 rfl fun c₀ cs hu=>?_;apply wpS_seq;apply wpS_region;simp[wpOpsS,go_sem,recoverD,hu,Try.ntmps73,Exit.thenS,nT];apply wpS_seq;apply wpS_region;simp[wpOpsS,go_sem,Exit.thenS];refine wpS_cond (t:=true) (by simp[Act.eval,Array.replicate]) ?_;simp only[if_true];refine wpS_of_wp ?_;simp only[Array.replicate];have a3:=h1.lt;have a4:=h2.lt;have a5:=h3.lt;have a0:G≠F:=Ne.symm h;have a1:U≠F:=Ne.symm o;have a2:U≠G:=Ne.symm s;have a6:w.heap.size≠F:=aA;have a7:w.heap.size≠G:=aA;have a8:w.heap.size≠U:=aA;go_region
 all_goals
  simp[bodyPostS,results,Try.results73,go_sem];exact yB h o s h1 h2 h3 _
theorem pF(G U h:Nat)(w:OE):
 CallsD Try.prog 73 #[Z (I ⟨G,0,Y⟩),Z (I ⟨U,0,Y⟩),Z (I ⟨h,0,Y⟩)] .returning w fun e o w' =>
  e=.returned (.tuple #[])/\o=.returning/\w'=w.alloc (J #[O S 0] 131):=by
 refine callsD_of_wpS Try.func73 rfl fun D cs F=>?_;apply wpS_seq;apply wpS_region;simp[wpOpsS,go_sem,recoverD,F,Try.ntmps73,Exit.thenS,pD];apply wpS_seq;apply wpS_region;simp[wpOpsS,go_sem,Exit.thenS];refine wpS_cond (t:=false) (by simp[Act.eval,Array.replicate]) ?_;simp only[Bool.false_eq_true,if_false];refine wpS_of_wp (wp_skip ?_);cases D
 simp_all [bodyPostS,results,Try.results73]
end
section
open Go.Lib renaming hid->aB
set_option maxHeartbeats 4000000
set_option maxRecDepth 100000
inductive I9
 | bad (e:Int)
 | done (l:List Nd) (k:Nat)
def J8(g:Nat)(v:bA)(b:Bk)(cA:OC)(cn cc:Nat)(r:I9)(w:OE)(e:Ending)(w':OE):Prop:=aS (fun q=>q=g) Y w w'/\((∃z,r=.bad z/\e=.panicked (nE z))\/∃l k A n c,r=.done l k/\e=.returned (X A n c)/\bG w' w.heap.size (X A n c) l/\aW w' g 134 (FZ v b cA cn cc k))
def sN(r:I9)(w:OE)(e:Ending)(w':OE):Prop:=OB w w'/\((∃z,r=.bad z/\e=.returned (.tuple #[X Y 0 0,O S 0,O S z]))\/∃l k A n c,r=.done l k/\e=.returned (.tuple #[X A n c,O S (k:Int),O S 0])/\bG w' w.heap.size (X A n c) l)
def bU(fuel:Int):Nat:=(min (max fuel 0) 100000).toNat
theorem D0{v:bA}{b:Bk}{cA:OC}{cn cc:Nat}{cv:OD}(hb:bO w v b)(b4:oI (· < w.heap.size) w cA cn cc cv){A:OC}{n c:Nat}(fuel:Int){fid:FuncId}{p:Nat}{r:I9}(f7:∀(args:Array Value)(w:OE),(callFunc fid args).run Try.prog w=.ok (.enter fid args) w)(a6:∀(g:Nat)(W:OE),OB w W->wS w g v b cA cn cc cv (bU fuel) W->Calls Try.prog fid #[Z (I ⟨g,0,Y⟩),Z (I ⟨p,0,Y⟩)] W (J8 g v b cA cn cc r W)):
 Calls Try.prog 55 #[.agg #[O S b.vars,X v.Ao v.no v.co,X v.Ae v.ne v.ce,O S b.nat,X v.Ap v.np v.cp],X cA cn cc,X A n c,O S fuel,.func (.func fid) #[] #[Z (I ⟨p,0,Y⟩)]] w (sN r w):=by
 have g0:∀(fn:Fn)(first cap:Array Value)(w:OE),(Instr.makeFunc fn first cap).run Try.prog w=.ok (.func fn first cap) w:=fun _ _ _ _=>rfl;obtain⟨W4,a1⟩:=OM ((((w.alloc (J #[O S b.vars,X v.Ao v.no v.co,X v.Ae v.ne v.ce,O S b.nat,X v.Ap v.np v.cp] 26)).alloc (J #[X Y 0 0] 29)).alloc (J #[O S 0] 3)).alloc (J #[O S 0] 34));have a9:OB w W4:=by rw[a1];exact (((aQ w _).alloc aD _).alloc aH _).alloc aH _
 have e9:W4.heap.size=w.heap.size+4:=by rw[a1];simp
 have k0:aW W4 w.heap.size 26 #[O S b.vars,X v.Ao v.no v.co,X v.Ae v.ne v.ce,O S b.nat,X v.Ap v.np v.cp]:=by rw[a1];exact (((aW.new _ _ _).alloc _).alloc _).alloc _
 have k1:aW W4 (w.heap.size+1) 29 #[X Y 0 0]:=by rw[a1];exact ((aW.new' aD).alloc _).alloc _
 have k2:aW W4 (w.heap.size+2) 3 #[O S 0]:=by rw[a1];exact (aW.new' aD).alloc _
 have k3:aW W4 (w.heap.size+3) 34 #[O S 0]:=by rw[a1];exact aW.new' aD
 obtain⟨f4,e3,d5,d6⟩:=OI a9 a1.symm k0 k1;have d7:Hid (aW W4 (w.heap.size+1+1) 3 #[O S 0]):=aB k2;have d8:Hid (aW W4 (w.heap.size+1+1+1) 34 #[O S 0]):=aB k3;have f9:w.heap.size<W4.heap.size:=aA;obtain⟨F,hF⟩:=OM (bU fuel);have b3:min (max fuel 0) 100000=(F:Int):=by unfold bU at hF;omega
 have e4:F<=100000:=aA;rw[<-hF]at a6;obtain⟨mx,b0⟩:∃mx:Int,mx=(if fuel<0 then 0 else fuel):=⟨_,rfl⟩;have b5:(if 100000<mx then 100000 else mx)=(F:Int):=by rw[b0,<-b3];split<;>split<;>omega
 obtain⟨b2,b1⟩:=OF b0 b5;obtain⟨w6,a7⟩:=OM (W4.alloc (J #[O S b.vars,X v.Ao v.no v.co,X v.Ae v.ne v.ce,O S b.nat,X v.Ap v.np v.cp,X cA cn cc,O S (F:Int)] 134));have a5:OB W4 w6:=by rw[a7];exact aQ _ _
 obtain⟨g,hg⟩:=OM (w.heap.size+4);have b6:aW w6 g 134 #[O S b.vars,X v.Ao v.no v.co,X v.Ae v.ne v.ce,O S b.nat,X v.Ap v.np v.cp,X cA cn cc,O S (F:Int)]:=by rw[a7];exact aW.new' aA
 have U:OB w w6:=a9.trans (a5.mono aA);have e0:Hid (wS w g v b cA cn cc cv F w6):=aB ⟨U,b6,by omega,b4.keep fun q hq=>⟨⟨MD hq U.size,by omega⟩,fun o=>U.cell (p:=⟨q,o,Y⟩) hq⟩⟩;have f0:w6.heap.size=w.heap.size+5:=by rw[a7];simp;omega
 obtain⟨a4,e2⟩:=OF U (a6 g w6 U e0.o);have b8:w.heap.size+1<W4.heap.size:=aA;have b9:w.heap.size+1+1<W4.heap.size:=aA;have c0:w.heap.size+1+1+1<W4.heap.size:=aA;obtain⟨L1,L2,L3⟩:=OK (d6.o.below a5 b8) (d7.o.below a5 b9) (d8.o.below a5 c0);have l1:w.heap.size+1<w6.heap.size:=aA;have l2:w.heap.size+1+1<w6.heap.size:=aA;have l3:w.heap.size+1+1+1<w6.heap.size:=aA;have f8:w.heap.size+1+1+1<g:=aA;clear hb b4 a9 a1 k0 k1 k2 k3 a5 b6 U a6 hF b3 e4 b0 b5;go_enter_defers Try.func55,Try.ntmps55
 go_upto_region 2 with fail
 rw[e3.o];have z0:=aW.cell d5.o;go_upto_region 3 with fail
 rw[<-b2.o,b1.o,<-hg,<-a7];clear a7 z0 e9 f0 hg b2 b1;go_wp2_with fail;refine (e2.o).mono ?_;rintro e w7 ⟨a3,h7⟩;obtain⟨f5,K1,K2,K3⟩:=OI a3 (L1.o.moved a3 aA aD) (L2.o.moved a3 aA aD) (L3.o.moved a3 aA aD);have a8:Hid (OB w w7):=aB (a4.o.trans (a3.to_below a4.o.size (fun k h=>by omega) (fun _ e=>by cases e)));have g4:=a3.size;clear a3;rcases h7 with⟨z,hz,rfl⟩|⟨l,k,D,s,G,hd,rfl,c8,b7⟩
 . have HZ:=aB hz;clear hz;go_wp2_with fail;unfold nE;refine leaves_cons (f:=73) (args:=#[Z (I ⟨w.heap.size+1,0,Y⟩),Z (I ⟨w.heap.size+1+1,0,Y⟩),Z (I ⟨w.heap.size+1+1+1,0,Y⟩)]) aD (by simp[go_sem]) ?_;refine (pE (w.heap.size+1) (w.heap.size+1+1) (w.heap.size+1+1+1) aA aA aA _ _ _ z [] w7 K1.o K2.o K3.o).mono ?_;rintro e u' wf ⟨rfl,rfl,e5,e6,e7,e8⟩;have q1:wf.cell? ⟨w.heap.size+1,0,Y⟩=I (X Y 0 0):=e6.cell 0;have q2:wf.cell? ⟨w.heap.size+1+1,0,Y⟩=I (O S 0):=e7.cell 0;have q3:wf.cell? ⟨w.heap.size+1+1+1,0,Y⟩=I (O S z):=e8.cell 0;have HP:Hid (sN r w (.returned (.tuple #[X Y 0 0,O S 0,O S z])) wf):=aB ⟨a8.o.trans (e5.to_below a8.o.size (fun k h=>by omega) (fun _ e=>by cases e)),.inl ⟨z,HZ.o,rfl⟩⟩;simp[Leaves,settle,results,Try.results55,go_sem,q1,q2,q3];exact HP.o
 obtain⟨HD,e1,d9⟩:=OK hd c8 b7;have c1:=K1.o.cell;have f1:=K1.o.frozen;have t1:w.heap.size+1<w7.heap.size:=aA;clear hd c8 b7;go_upto_region 4 with fail
 obtain⟨w9,a0⟩:=OM (w7.setCell ⟨w.heap.size+1,0,Y⟩ (X D s G));have m9:OB w w9:=by rw[a0];exact a8.o.setCell aH _
 have m1:aW w9 (w.heap.size+1) 29 #[X D s G]:=by rw[a0];simpa using K1.o.set_ 0 (X D s G)
 have m2:aW w9 (w.heap.size+1+1) 3 #[O S 0]:=by rw[a0];exact K2.o.far (p:=⟨w.heap.size+1,0,Y⟩) aD _
 have m3:aW w9 (w.heap.size+1+1+1) 34 #[O S 0]:=by rw[a0];exact K3.o.far (p:=⟨w.heap.size+1,0,Y⟩) aH _
 have mg:aW w9 g 134 #[O S b.vars,X v.Ao v.no v.co,X v.Ae v.ne v.ce,O S b.nat,X v.Ap v.np v.cp,X cA cn cc,O S (k:Int)]:=by rw[a0];exact d9.o.far (p:=⟨w.heap.size+1,0,Y⟩) aH _
 have mt:bG w9 w6.heap.size (X D s G) l:=by rw[a0];exact e1.o.setCell (a:=⟨w.heap.size+1,0,Y⟩) (show w.heap.size+1<w6.heap.size by omega) _
 have g5:w9.heap.size=w7.heap.size:=by rw[a0];exact dI _ _ _ _
 rw[<-a0];clear a0 c1 f1 t1;have c1:=m1.cell;have c2:=m2.cell;have c3:=m3.cell;have cg:=mg.cell;have f1:=m1.frozen;have f2:=m2.frozen;have f3:=m3.frozen;have c4:g≠w.heap.size+1:=aA;have c5:g≠w.heap.size+1+1:=aA;have c6:g≠w.heap.size+1+1+1:=aA;have g1:w.heap.size+1≠g:=Ne.symm c4;have g2:w.heap.size+1+1≠g:=Ne.symm c5;have g3:w.heap.size+1+1+1≠g:=Ne.symm c6;have t1:w.heap.size+1<w9.heap.size:=m1.lt;have t2:w.heap.size+1+1<w9.heap.size:=m2.lt;have t3:w.heap.size+1+1+1<w9.heap.size:=m3.lt;obtain⟨M1,M2,M3,f6,M9⟩:=OG m1 m2 m3 mt m9;obtain⟨WF,a2⟩:=OM (((w9.setCell ⟨w.heap.size+1,0,Y⟩ (X D s G)).setCell ⟨w.heap.size+1+1,0,Y⟩ (O S (k:Int))).setCell ⟨w.heap.size+1+1+1,0,Y⟩ (O S 0)).drew;have c9:aW (w9.setCell ⟨w.heap.size+1,0,Y⟩ (X D s G)) (w.heap.size+1) 29 #[X D s G]:=by simpa using m1.set_ 0 (X D s G)
 have d0:aW (w9.setCell ⟨w.heap.size+1,0,Y⟩ (X D s G)) (w.heap.size+1+1) 3 #[O S 0]:=m2.far (p:=⟨w.heap.size+1,0,Y⟩) aH _;have d1:aW (w9.setCell ⟨w.heap.size+1,0,Y⟩ (X D s G)) (w.heap.size+1+1+1) 34 #[O S 0]:=m3.far (p:=⟨w.heap.size+1,0,Y⟩) aH _;have d2:aW ((w9.setCell ⟨w.heap.size+1,0,Y⟩ (X D s G)).setCell ⟨w.heap.size+1+1,0,Y⟩ (O S (k:Int))) (w.heap.size+1) 29 #[X D s G]:=c9.far (p:=⟨w.heap.size+1+1,0,Y⟩) aH _;have d3:aW ((w9.setCell ⟨w.heap.size+1,0,Y⟩ (X D s G)).setCell ⟨w.heap.size+1+1,0,Y⟩ (O S (k:Int))) (w.heap.size+1+1) 3 #[O S (k:Int)]:=by simpa using d0.set_ 0 (O S (k:Int))
 have d4:aW ((w9.setCell ⟨w.heap.size+1,0,Y⟩ (X D s G)).setCell ⟨w.heap.size+1+1,0,Y⟩ (O S (k:Int))) (w.heap.size+1+1+1) 34 #[O S 0]:=d1.far (p:=⟨w.heap.size+1+1,0,Y⟩) aH _;have X1:Hid (aW WF (w.heap.size+1) 29 #[X D s G]):=aB (by rw[a2];exact (d2.far (p:=⟨w.heap.size+1+1+1,0,Y⟩) aH _));have X2:Hid (aW WF (w.heap.size+1+1) 3 #[O S (k:Int)]):=aB (by rw[a2];exact (d3.far (p:=⟨w.heap.size+1+1+1,0,Y⟩) aH _));have X3:Hid (aW WF (w.heap.size+1+1+1) 34 #[O S 0]):=aB (by rw[a2];exact (by simpa using d4.set_ 0 (O S 0):aW (((w9.setCell ⟨w.heap.size+1,0,Y⟩ (X D s G)).setCell ⟨w.heap.size+1+1,0,Y⟩ (O S (k:Int))).setCell ⟨w.heap.size+1+1+1,0,Y⟩ (O S 0)) (w.heap.size+1+1+1) 34 #[O S 0]));have XB:Hid (OB w WF):=aB (by rw[a2];exact aU (((m9.setCell (p:=⟨w.heap.size+1,0,Y⟩) aH _).setCell (p:=⟨w.heap.size+1+1,0,Y⟩) aH _).setCell (p:=⟨w.heap.size+1+1+1,0,Y⟩) aH _) 1);have XO:Hid (bG WF w.heap.size (X D s G) l):=aB (by rw[a2];exact iI ((((mt.setCell (a:=⟨w.heap.size+1,0,Y⟩) (show w.heap.size+1<w6.heap.size by omega) _).setCell (a:=⟨w.heap.size+1+1,0,Y⟩) (show w.heap.size+1+1<w6.heap.size by omega) _).setCell (a:=⟨w.heap.size+1+1+1,0,Y⟩) (show w.heap.size+1+1+1<w6.heap.size by omega) _).drewN 1) a4.o.size);clear c9 d0 d1 d2 d3 d4 m1 m2 m3 mt m9 mg;go_region
 go_wp2_with fail;rw[<-a2];clear a2;refine leaves_cons (f:=73) (args:=#[Z (I ⟨w.heap.size+1,0,Y⟩),Z (I ⟨w.heap.size+1+1,0,Y⟩),Z (I ⟨w.heap.size+1+1+1,0,Y⟩)]) aD (by simp[go_sem]) ?_;refine (pF _ _ _ _).mono ?_;rintro e u' g6 ⟨rfl,rfl,rfl⟩;have q1:(WF.alloc (J #[O S 0] 131)).cell? ⟨w.heap.size+1,0,Y⟩=I (X D s G):=(X1.o.alloc _).cell 0;have q2:(WF.alloc (J #[O S 0] 131)).cell? ⟨w.heap.size+1+1,0,Y⟩=I (O S (k:Int)):=(X2.o.alloc _).cell 0;have q3:(WF.alloc (J #[O S 0] 131)).cell? ⟨w.heap.size+1+1+1,0,Y⟩=I (O S 0):=(X3.o.alloc _).cell 0;have HP:Hid (sN r w (.returned (.tuple #[X D s G,O S (k:Int),O S 0])) (WF.alloc (J #[O S 0] 131))):=aB ⟨XB.o.alloc XB.o.size _,.inr ⟨l,k,D,s,G,HD.o,rfl,XO.o.alloc _⟩⟩;generalize (WF.alloc (J #[O S 0] 131))=wz at HP q1 q2 q3 ⊢;simp[Leaves,settle,results,Try.results55,go_sem,q1,q2,q3];exact HP.o
theorem sN.base{r:I9}{G w':OE}{e:Ending}(h:sN r G e w')(F:OB w G):sN r w e w':=by
 obtain⟨U,D⟩:=h;refine⟨F.trans (U.mono F.size),?_⟩;rcases D with D|⟨l,k,A,n,c,o,s,z⟩
 . exact .inl D
 exact .inr ⟨l,k,A,n,c,o,s,iI z F.size⟩
def zD:IQ->I9
 | .bad z=>.bad z
 | .done y k=>.done (aT (eR y)) k
def DD(b:Bk)(cv:OD)(x:TT)(F:Nat):I9:=zD (kS b cv F (cV x) 4096)
theorem xM{w0:OE}{g:Nat}{v:bA}{b:Bk}{cA:OC}{cn cc:Nat}{cv:OD}(hr:bD b=0)(hb:bO w0 v b)(hc:fA b cv)(a7:(cv.length:Int)<=990000){F:Nat}(hF:F<=100000)(hw:wS w0 g v b cA cn cc cv F w){p:Nat}{A:OC}{n c:Nat}{x:TT}(hp:aW w p 29 #[X A n c])(ht:aX w A n c (aT x))(hx:bJ b (cv.length:Int) x):
 Calls Try.prog 56 #[Z (I ⟨g,0,Y⟩),Z (I ⟨p,0,Y⟩)] w (J8 g v b cA cn cc (DD b cv x F) w):=by
 have c9:=eO hx;have b3:bZ x<=4096:=hx.few;have b5:=aB (eT ht hx);have a9:=qL hr hc (F*4097+cJ (cV x)+1) F (cV x) 4096 (nK hx) aA aA aA;obtain⟨r,a0⟩:=OM (kS b cv F (cV x) 4096);have a4:=aB (fun (W:OE) (hB:OB w W) (A4 B4:OC) (n4 c4 m4 d4:Nat) (h9:dM w.heap.size W (cV x) A4 n4 c4 B4 m4 d4)=>BT (w0:=w0) (g:=g) (cA:=cA) (cn:=cn) (cc:=cc) hr hb hc a7 (F*4097+cJ (cV x)+1) _ (MF _) W (cV x) A4 B4 n4 c4 m4 d4 w.heap.size F 4096 (hw.below hB) hw.lt hB.size h9 (nK hx) aA aA aA a9.1);have e9:i9 b cv (F*4097+cJ (cV x)+1) F (cV x) 4096=r:=a0.symm;rw[e9]at a4;have HQ:Hid (DD b cv x F=zD r):=aB (congrArg zD a0.symm);have b6:=aB (fun (y:Fc) (k:Nat) (h:r=.done y k)=>lR hr hc (n:=F) (m:=k) (f:=cV x) (y:=y) (room:=4096) (nK hx) aA aA (a0.symm.trans h));have zp:=hp.cell;have d0:=hp.lt;have c6:=hw.lt;generalize DD b cv x F=rr at *;clear hr hb hc a7 hw hp ht hx c9 b3;go_in;go_wp2_with fail;refine (b5.o).mono ?_;rintro e w2 ⟨a5,A2,n2,c2,B2,m2,d2,rfl,a8⟩;obtain⟨a2,b4⟩:=OF a5 a8;clear a5 a8;go_wp2_with fail;refine (a4.o w2 a2.o A2 B2 n2 c2 m2 d2 b4.o).mono ?_;rintro e w3 ⟨b1,h3⟩;have G:Hid (aS (fun q=>q=g) Y w w3):=aB ((aS.of_below a2.o).trans (row':=Y) b1 (fun _ e=>by cases e));clear b1;rcases h3 with⟨z,hz,rfl⟩|⟨y,k,A3,n3,c3,B3,m3,d3,hd,rfl,s,b0⟩
 . have HE:Hid (rr=.bad z):=aB (HQ.o.trans (congrArg zD hz));clear hz;go_wp2_with fail;exact⟨rfl,G.o,.inl ⟨z,HE.o,rfl⟩⟩
 have HE:Hid (rr=.done (aT (eR y)) k):=aB (HQ.o.trans (congrArg zD hd));have D:=aB (b6.o y k hd);have a1:cJ y<=4096:=by have:=D.o.2.1;omega
 have c8:=s.len.2;have c5:=cG.argsLen D.o.1 a1;obtain⟨b7,c1,a3⟩:=OK (s.read (g:=g) c6 aA) a1 b0;clear hd s b0 a1 c8 c5;go_wp2_with fail;refine (uY b7.o D.o.1).mono ?_;rintro e w4 ⟨U,h4⟩;rcases h4 with⟨_,A7,n7,c7,rfl,_,b2⟩|⟨a6,rfl⟩;rotate_left
 . exact absurd a6 (by have:=c1.o;omega)
 have b9:Hid (aS (fun q=>q=g) Y w w4):=aB (G.o.trans (row':=Y) (aS.of_below U) (fun _ e=>by cases e));obtain⟨b8,c0⟩:=OF (a3.o.below U a3.o.lt) (iI b2 G.o.size);clear U b2;go_wp2_with fail;go_ret;exact⟨b9.o,.inr ⟨_,k,A7,n7,c7,HE.o,rfl,c0.o,b8.o⟩⟩
theorem sX{v:bA}{b:Bk}{cA:OC}{cn cc:Nat}{cv:OD}(hr:bD b=0)(hb:bO w v b)(hc:fA b cv)(h:(cv.length:Int)<=990000)(s:oI (· < w.heap.size) w cA cn cc cv){A:OC}{n c:Nat}{x:TT}(ht:aX w A n c (aT x))(hx:bJ b (cv.length:Int) x)(fuel:Int):
 Calls Try.prog 43 #[.agg #[O S b.vars,X v.Ao v.no v.co,X v.Ae v.ne v.ce,O S b.nat,X v.Ap v.np v.cp],X cA cn cc,X A n c,O S fuel] w (sN (DD b cv x (bU fuel)) w):=by
 have a3:∀(fn:Fn)(first cap:Array Value)(w:OE),(Instr.makeFunc fn first cap).run Try.prog w=.ok (.func fn first cap) w:=fun _ _ _ _=>rfl;obtain⟨w1,F⟩:=OM ((w.alloc (J #[O S b.vars,X v.Ao v.no v.co,X v.Ae v.ne v.ce,O S b.nat,X v.Ap v.np v.cp] 26)).alloc (J #[X A n c] 29));have D:OB w w1:=by rw[F];exact cB _ _ _
 have k0:aW w1 w.heap.size 26 #[O S b.vars,X v.Ao v.no v.co,X v.Ae v.ne v.ce,O S b.nat,X v.Ap v.np v.cp]:=by rw[F];exact (aW.new _ _ _).alloc _
 have k1:aW w1 (w.heap.size+1) 29 #[X A n c]:=by rw[F];exact aW.new' aD
 have z0:=k0.cell;have z1:=k1.cell;have a2:w.heap.size+1<w1.heap.size:=k1.lt;have U:bU fuel<=100000:=by unfold bU;omega
 obtain⟨a0,a1⟩:=OF D (D0 (A:=A) (n:=n) (c:=c) (hb.below D) (s.keep fun q hq=>⟨MD hq D.size,fun o=>D.cell (p:=⟨q,o,Y⟩) hq⟩) fuel (fid:=56) (p:=w.heap.size+1) (r:=DD b cv x (bU fuel)) (fun _ _=>by kernel_rfl) (fun g W hB hM=>xM hr (hb.below D) hc h U hM (k1.below hB a2) (ht.below (D.trans (hB.mono D.size))) hx));clear hr hb hc h s ht hx D k0 k1 U;generalize DD b cv x (bU fuel)=rr at *;go_in;go_upto_region 1 with fail
 rw[<-F];clear F;go_wp2_with fail;refine (a1.o).mono ?_;rintro e w2 h2;have h3:=h2.base a0.o;clear h2;obtain⟨G,h4⟩:=h3;rcases h4 with⟨z,hz,rfl⟩|⟨l,k,A7,n7,c7,hd,rfl,ho⟩
 . have HP:Hid (sN rr w (.returned (.tuple #[X Y 0 0,O S 0,O S z])) w2):=aB ⟨G,.inl ⟨z,hz,rfl⟩⟩;clear hz G;go_wp2_with fail;go_ret3
   exact HP.o
 have HP:Hid (sN rr w (.returned (.tuple #[X A7 n7 c7,O S (k:Int),O S 0])) w2):=aB ⟨G,.inr ⟨l,k,A7,n7,c7,hd,rfl,ho⟩⟩;clear hd G ho;go_wp2_with fail;go_ret3
 exact HP.o
end
end Go.Proofs.Ytlahmbhimhmoaaa
