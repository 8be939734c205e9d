/- Merged: SenseI, SenseJ. -/
import Derived.Test.YtjllmblbbgojbaaGreatWSenseH
import Derived.Test.YtjllmblbbgojbaaGreatWWalks
import Derived.Test.YtjllmblbbgojbaaGreatWRowsD
namespace Go.Proofs.YtjllmblbbgojbaaGreat
open Go.Value renaming int → O, slice → Y, pointer → I
open Go.IntKind renaming i64 → S
open Option renaming none → X, some → J
open Go.Obj renaming cells → Z
section
set_option linter.unusedSimpArgs false
open Go.RowKit
theorem H7 {w0:World} {g:Nat} {v:aZ} {b:Bk} (hr:bY b=0) (hb:bM w0 v b) : ∀ d,NC w0 g v b d/\M5 w0 g v b d
 | 0=>⟨fun _ _ _ _ _ _ h=>absurd h aA,fun _ _ _ _ _ _ _ _ _ _ h=>absurd h aA⟩
 | d+1=>by
  obtain ⟨h1,h2⟩:=H7 hr hb d;have e1:=CO hr hb h1 h2;exact ⟨e1,CP hr e1 h2⟩
theorem wS (er:Int) (w:World):(Instr.typeAssert (.iface 54 (.agg #[O S er])) 20 54 true).run Tryz.prog w=.ok (.tuple #[.agg #[O S er],.bool true]) w:=by kernel_rfl
theorem zQ (w:World):(Instr.typeAssert .nilIface 20 54 true).run Tryz.prog w=.ok (.tuple #[.agg #[O S 0],.bool false]) w:=by kernel_rfl
def GN (p1 p2 p3:Nat) (er:Int) (w w':World):Prop:=aG (fun k=>k=p1\/k=p2\/k=p3) X w w'/\aD w' p1 28 #[Y X 0 0]/\aD w' p2 3 #[O S 0]/\aD w' p3 31 #[O S er]
theorem MG {p1 p2 p3:Nat} {x y z:Value} {er:Int} {w:World} (h12:p1 ≠ p2) (h13:p1 ≠ p3) (h23:p2 ≠ p3) (h1:aD w p1 28 #[x]) (h2:aD w p2 3 #[y]) (h3:aD w p3 31 #[z]) (o:Obj) :
 GN p1 p2 p3 er w ((((w.setCell ⟨p1,0,X⟩ (Y X 0 0)).setCell ⟨p2,0,X⟩ (O S 0)).setCell ⟨p3,0,X⟩ (O S er)).alloc o).drew:=by
 refine ⟨(((((aG.refl _ _ w).setCell (p:=⟨p1,0,X⟩) (.inl rfl) _).setCell (p:=⟨p2,0,X⟩) (.inr (.inl rfl)) _).setCell (p:=⟨p3,0,X⟩) (.inr (.inr rfl)) _).alloc _).drew,?_,?_,?_⟩
 · have:=(((h1.set_ 0 (Y X 0 0)).far (p:=⟨p2,0,X⟩) h12 (O S 0)).far (p:=⟨p3,0,X⟩) h13 (O S er)).alloc o;exact (by simpa using this:aD ((((w.setCell ⟨p1,0,X⟩ (Y X 0 0)).setCell ⟨p2,0,X⟩ (O S 0)).setCell ⟨p3,0,X⟩ (O S er)).alloc o) p1 28 #[Y X 0 0])
 · have:=(((h2.far (p:=⟨p1,0,X⟩) (Ne.symm h12) (Y X 0 0)).set_ 0 (O S 0)).far (p:=⟨p3,0,X⟩) h23 (O S er)).alloc o;exact (by simpa using this:aD ((((w.setCell ⟨p1,0,X⟩ (Y X 0 0)).setCell ⟨p2,0,X⟩ (O S 0)).setCell ⟨p3,0,X⟩ (O S er)).alloc o) p2 3 #[O S 0])
 have:=(((h3.far (p:=⟨p1,0,X⟩) (Ne.symm h13) (Y X 0 0)).far (p:=⟨p2,0,X⟩) (Ne.symm h23) (O S 0)).set_ 0 (O S er)).alloc o;exact (by simpa using this:aD ((((w.setCell ⟨p1,0,X⟩ (Y X 0 0)).setCell ⟨p2,0,X⟩ (O S 0)).setCell ⟨p3,0,X⟩ (O S er)).alloc o) p3 31 #[O S er])
theorem zR (p1 p2 p3:Nat) (h12:p1 ≠ p2) (h13:p1 ≠ p3) (h23:p2 ≠ p3) (x y z:Value) (er:Int) (older:List PanicEntry) (w:World) (h1:aD w p1 28 #[x]) (h2:aD w p2 3 #[y]) (h3:aD w p3 31 #[z]) :
 CallsD Tryz.prog 22 #[I (J ⟨p1,0,X⟩),I (J ⟨p2,0,X⟩),I (J ⟨p3,0,X⟩)] (.panicking ({ v:=.iface 54 (.agg #[O S er]),recovered:=false }::older)) w fun e u' w' =>
  e=.returned (.tuple #[])/\u'=.panicking ({ v:=.iface 54 (.agg #[O S er]),recovered:=true }::older)/\GN p1 p2 p3 er w w':=by
 have c1:=h1.cell;have c2:=h2.cell;have c3:=h3.cell;have f1:=h1.frozen;have f2:=h2.frozen;have f3:=h3.frozen;refine callsD_of_wpS Tryz.func22 rfl fun c₀ cs hu => ?_;apply wpS_seq;apply wpS_region;simp [wpOpsS,go_sem,recoverD,hu,Tryz.ntmps22,Exit.thenS,wS];apply wpS_seq;apply wpS_region;simp [wpOpsS,go_sem,Exit.thenS];refine wpS_cond (t:=true) (by simp [Act.eval,Array.replicate]) ?_;simp only [if_true];refine wpS_of_wp ?_;simp only [Array.replicate];have hl1:=h1.lt;have hl2:=h2.lt;have hl3:=h3.lt;have h21:p2 ≠ p1:=Ne.symm h12;have h31:p3 ≠ p1:=Ne.symm h13;have h32:p3 ≠ p2:=Ne.symm h23;have hn1:w.heap.size ≠ p1:=aA;have hn2:w.heap.size ≠ p2:=aA;have hn3:w.heap.size ≠ p3:=aA;go_region
 all_goals
  simp [bodyPostS,results,Tryz.results22,go_sem];exact MG h12 h13 h23 h1 h2 h3 _
theorem zS (p1 p2 p3:Nat) (w:World) :
 CallsD Tryz.prog 22 #[I (J ⟨p1,0,X⟩),I (J ⟨p2,0,X⟩),I (J ⟨p3,0,X⟩)] .returning w fun e u' w' =>
  e=.returned (.tuple #[])/\u'=.returning/\w'=w.alloc (Z #[O S 0] 54):=by
 refine callsD_of_wpS Tryz.func22 rfl fun c₀ cs hu => ?_;apply wpS_seq;apply wpS_region;simp [wpOpsS,go_sem,recoverD,hu,Tryz.ntmps22,Exit.thenS,zQ];apply wpS_seq;apply wpS_region;simp [wpOpsS,go_sem,Exit.thenS];refine wpS_cond (t:=false) (by simp [Act.eval,Array.replicate]) ?_;simp only [Bool.false_eq_true,if_false];refine wpS_of_wp (wp_skip ?_);cases c₀
 simp_all [bodyPostS,results,Tryz.results22]
end
section
open Go.Lib (hid)
set_option maxHeartbeats 8000000
set_option maxRecDepth 100000
set_option linter.unusedVariables false
set_option linter.unusedSimpArgs false
open Go.RowKit
def jD (b:Bk) (l:List Nd) (fuel:Int):List Nd×Int×Int:=if eM b 0 l ≠ 0 then ([],0,eM b 0 l) else match eO b ((min (max fuel 0) 100000).toNat+1) (min (max fuel 0) 100000).toNat (dX l) with
 | .ok y f=>(aJ y,(f:Int),0)
 | .er z=>([],0,z)
def C2 (q:List Nd×Int×Int) (w:World) (e:Ending) (w':World):Prop:=Below w.heap.size w w'/\∃ A n c,e=.returned (.tuple #[Y A n c,O S q.2.1,O S q.2.2])/\bA (AF w w') w' A n c q.1
theorem lH {q:List Nd×Int×Int} {w w':World} {z:Int} (hq:q=([],0,z)) (hb:Below w.heap.size w w'):C2 q w (.returned (.tuple #[Y X 0 0,O S 0,O S z])) w':=by
 subst hq;exact ⟨hb,X,0,0,rfl,rfl,Nat.le_refl _,by decide,fun _=>rfl,fun h=>absurd h (by decide)⟩
theorem sN {w:World} {v:aZ} {b:Bk} (hb:bM w v b) {A:Option Addr} {n c:Nat} {l:List Nd} (ht:aP w A n c l) :
 Calls Tryz.prog 7 #[.agg #[O S b.vars,Y v.Ao v.no v.co,Y v.Ae v.ne v.ce,O S b.nat,Y v.Ap v.np v.cp],Y A n c] w (fun e w'=>e=.returned (.tuple #[.bool (decide (eM b 0 l=0)&&cJ (dX l)),O S (eM b 0 l)])/\Below w.heap.size w w'):=by
 have hb0:=aB w (Z #[O S b.vars,Y v.Ao v.no v.co,Y v.Ae v.ne v.ce,O S b.nat,Y v.Ap v.np v.cp] 26);have hFI:=x9 (hb.below hb0) 0 (ht.below hb0);obtain ⟨z,hz⟩ : ∃ z,z=eM b 0 l:=⟨_,rfl⟩;rw [<-hz] at hFI ⊢;have HFI:=hid hFI;have HB0:=hid hb0;have hs0:=hb0.size;by_cases h0:z=0
 · subst h0;obtain ⟨e1,e2⟩:=kP hz.symm;have HIV:=hid (fun (w':World) (h:Below w.heap.size w w')=>oS (bU (dX l)) w' A n c (dX l) (by rw [<-e1];exact ht.below h) e2.rt (Nat.le_refl _));clear hFI hb0 hb ht hz e1 e2;go_in;go_wp2_with fail
   refine (HFI.o).mono ?_;rintro e w2 ⟨rfl,hb2⟩;have HB2:=hid (HB0.o.trans (hb2.mono hs0));clear hb2;go_wp2_with fail
   refine (HIV.o w2 HB2.o).mono ?_;rintro e w3 ⟨rfl,hb3⟩;have HB3:=cO HB2 hb3;clear hb3;go_wp2_with fail
   go_ret2;exact ⟨by simp,HB3.o⟩
 have u0:(z != 0)=true:=by simpa using h0
 have hd:decide (z=0)=false:=decide_eq_false h0;rw [hd,Bool.false_and];clear hFI hb0 hb ht hz h0 hd;go_in;go_wp2_with fail
 refine (HFI.o).mono ?_;rintro e w2 ⟨rfl,hb2⟩;have HB2:=hid (HB0.o.trans (hb2.mono hs0));clear hb2;go_wp2_with fail
 go_ret2;exact ⟨rfl,HB2.o⟩
theorem lT {w:World} {v:aZ} {b:Bk} (hb:bM w v b) {A:Option Addr} {n c:Nat} {l:List Nd} (fuel:Int) (ht:aP w A n c l) :
 Calls Tryz.prog 9 #[.agg #[O S b.vars,Y v.Ao v.no v.co,Y v.Ae v.ne v.ce,O S b.nat,Y v.Ap v.np v.cp],Y A n c,O S fuel] w (C2 (jD b l fuel) w):=by
 have hmf:∀ (fn:Fn) (first cap:Array Value) (w:World),(Instr.makeFunc fn first cap).run Tryz.prog w=.ok (.func fn first cap) w:=fun _ _ _ _=>rfl;obtain ⟨W4,hW4⟩ : ∃ W4:World,W4=(((w.alloc (Z #[O S b.vars,Y v.Ao v.no v.co,Y v.Ae v.ne v.ce,O S b.nat,Y v.Ap v.np v.cp] 26)).alloc (Z #[Y X 0 0] 28)).alloc (Z #[O S 0] 3)).alloc (Z #[O S 0] 31):=⟨_,rfl⟩;have hb4:Below w.heap.size w W4:=by rw [hW4];exact (((aB w _).alloc (by simp) _).alloc (by simp;omega) _).alloc (by simp;omega) _
 have hs4:W4.heap.size=w.heap.size+4:=by rw [hW4];simp
 have k0:aD W4 w.heap.size 26 #[O S b.vars,Y v.Ao v.no v.co,Y v.Ae v.ne v.ce,O S b.nat,Y v.Ap v.np v.cp]:=by rw [hW4];exact (((aD.new _ _ _).alloc _).alloc _).alloc _
 have k1:aD W4 (w.heap.size+1) 28 #[Y X 0 0]:=by rw [hW4];exact ((aD.new' (by simp)).alloc _).alloc _
 have k2:aD W4 (w.heap.size+2) 3 #[O S 0]:=by rw [hW4];exact (aD.new' (by simp)).alloc _
 have k3:aD W4 (w.heap.size+3) 31 #[O S 0]:=by rw [hW4];exact aD.new' (by simp)
 have hFI:=x9 (hb.below hb4) 0 (ht.below hb4);obtain ⟨z,hz⟩ : ∃ z,z=eM b 0 l:=⟨_,rfl⟩;rw [<-hz] at hFI;have HFI:=hid hFI;have HB4:=hid hb4;have HW4:=hid hW4.symm;have HK0:=hid k0;have HK1:=hid k1;have HK2:=hid k2;have HK3:=hid k3;by_cases h0:z=0;rotate_left
 · have u0:(z != 0)=true:=by simpa using h0
   have HQ:Hid (jD b l fuel=([],0,z)):=hid (by unfold jD;rw [<-hz,if_pos h0]);clear hFI hb ht hz h0 hb4 hW4 k0 k1 k2 k3;go_enter_defers Tryz.func9,Tryz.ntmps9
   go_upto_region 1 with fail
   rw [HW4.o];have z0:=aD.cell HK0.o;go_wp2_with fail
   refine (HFI.o).mono ?_;rintro e w5 ⟨rfl,hb5⟩;have hb5':=HB4.o.trans (hb5.mono aA);have HB5:=hid hb5';have K1:=hid (HK1.o.below hb5 aA);have K2:Hid (aD w5 (w.heap.size+1+1) 3 #[O S 0]):=hid (HK2.o.below hb5 aA);have K3:Hid (aD w5 (w.heap.size+1+1+1) 31 #[O S 0]):=hid (HK3.o.below hb5 aA);have c1:=K1.o.cell;have c2:=K2.o.cell;have c3:=K3.o.cell;have f1:=K1.o.frozen;have f2:=K2.o.frozen;have f3:=K3.o.frozen;clear hb5 hb5' z0 HK0 HK1 HK2 HK3 HFI;go_wp2_with fail
   have r1:aD (((w5.setCell ⟨w.heap.size+1,0,X⟩ (Y X 0 0)).setCell ⟨w.heap.size+1+1,0,X⟩ (O S 0)).setCell ⟨w.heap.size+1+1+1,0,X⟩ (O S z)) (w.heap.size+1) 28 #[Y X 0 0]:=((K1.o.set_ 0 (Y X 0 0)).far (p:=⟨w.heap.size+1+1,0,X⟩) (by simp<;>omega) (O S 0)).far (p:=⟨w.heap.size+1+1+1,0,X⟩) (by simp<;>omega) (O S z);have r2:aD (((w5.setCell ⟨w.heap.size+1,0,X⟩ (Y X 0 0)).setCell ⟨w.heap.size+1+1,0,X⟩ (O S 0)).setCell ⟨w.heap.size+1+1+1,0,X⟩ (O S z)) (w.heap.size+1+1) 3 #[O S 0]:=((K2.o.far (p:=⟨w.heap.size+1,0,X⟩) (by simp<;>omega) (Y X 0 0)).set_ 0 (O S 0)).far (p:=⟨w.heap.size+1+1+1,0,X⟩) (by simp<;>omega) (O S z);have r3:aD (((w5.setCell ⟨w.heap.size+1,0,X⟩ (Y X 0 0)).setCell ⟨w.heap.size+1+1,0,X⟩ (O S 0)).setCell ⟨w.heap.size+1+1+1,0,X⟩ (O S z)) (w.heap.size+1+1+1) 31 #[O S z]:=((K3.o.far (p:=⟨w.heap.size+1,0,X⟩) (by simp<;>omega) (Y X 0 0)).far (p:=⟨w.heap.size+1+1,0,X⟩) (by simp<;>omega) (O S 0)).set_ 0 (O S z);have hbf:Below w.heap.size w (((w5.setCell ⟨w.heap.size+1,0,X⟩ (Y X 0 0)).setCell ⟨w.heap.size+1+1,0,X⟩ (O S 0)).setCell ⟨w.heap.size+1+1+1,0,X⟩ (O S z)):=((HB5.o.setCell (by simp<;>omega) _).setCell (by simp<;>omega) _).setCell (by simp<;>omega) _;have HP:=hid (lH HQ.o hbf);clear hbf c1 c2 c3 f1 f2 f3 K1 K2 K3;generalize (((w5.setCell ⟨w.heap.size+1,0,X⟩ (Y X 0 0)).setCell ⟨w.heap.size+1+1,0,X⟩ (O S 0)).setCell ⟨w.heap.size+1+1+1,0,X⟩ (O S z))=wf at r1 r2 r3 HP ⊢;have q1:wf.cell? ⟨w.heap.size+1,0,X⟩=J (Y X 0 0):=r1.cell 0;have q2:wf.cell? ⟨w.heap.size+1+1,0,X⟩=J (O S 0):=r2.cell 0;have q3:wf.cell? ⟨w.heap.size+1+1+1,0,X⟩=J (O S z):=r3.cell 0;simp [bodyPostD,Leaves,settle,results,Tryz.results9,go_sem,q1,q2,q3];exact HP.o
 subst h0;obtain ⟨F,hF⟩ : ∃ F:Nat,F=(min (max fuel 0) 100000).toNat:=⟨_,rfl⟩;have hFi:min (max fuel 0) 100000=(F:Int):=aA;have hF1:F<=100000:=aA;obtain ⟨e1,e2⟩:=kP hz.symm;have HQ:Hid (jD b l fuel=match eO b (F+1) F (dX l) with
  | .ok y f=>(aJ y,(f:Int),0)
  | .er z=>([],0,z)):=hid (by unfold jD;rw [if_neg (by rw [<-hz];simp),<-hF])
 have hrt:bY b=0:=(rD hz.symm).1;have HEV:=hid (fun (g:Nat)=>(H7 (w0:=w) (g:=g) hrt hb (F+1)).1);obtain ⟨mx,hmx⟩ : ∃ mx:Int,mx=(if fuel<0 then 0 else fuel):=⟨_,rfl⟩;have hfx:(if 100000<mx then 100000 else mx)=(F:Int):=by rw [hmx,<-hFi];split<;>split<;>omega
 have HMX:=hid hmx;have HFX:=hid hfx;have HTX:Hid (aP w A n c (aJ (dX l))):=hid (by rw [<-e1];exact ht);have HE1:=hid e1;have HE2:=hid e2;have HTM:=hid (fun (w':World) (h:Below w.heap.size w w')=>ht.below h);have HRT:=hid hrt;clear hFI hb hz hb4 hW4 k0 k1 k2 k3 hFi hF hfx hmx e1 e2 ht hrt;go_enter_defers Tryz.func9,Tryz.ntmps9
 go_upto_region 1 with fail
 rw [HW4.o];have z0:=aD.cell HK0.o;go_wp2_with fail
 refine (HFI.o).mono ?_;rintro e w5 ⟨rfl,hb5⟩;have hs5:=hb5.size;have hb5':=HB4.o.trans (hb5.mono aA);have HB5:=hid hb5';have z5:=aD.cell (HK0.o.below hb5 aA);have K1:=hid (HK1.o.below hb5 aA);have K2:Hid (aD w5 (w.heap.size+1+1) 3 #[O S 0]):=hid (HK2.o.below hb5 aA);have K3:Hid (aD w5 (w.heap.size+1+1+1) 31 #[O S 0]):=hid (HK3.o.below hb5 aA);clear hb5 hb5' z0 HK0 HK1 HK2 HK3 HFI;go_upto_region 6 with fail
 rw [<-HMX.o,HFX.o];clear HMX;obtain ⟨w6,hw6⟩ : ∃ w6:World,w6=w5.alloc (Z #[O S b.vars,Y v.Ao v.no v.co,Y v.Ae v.ne v.ce,O S b.nat,Y v.Ap v.np v.cp,O S (F:Int)] 58):=⟨_,rfl⟩;have hb6:Below w5.heap.size w5 w6:=by rw [hw6];exact aB _ _
 have hk6:aD w6 w5.heap.size 58 #[O S b.vars,Y v.Ao v.no v.co,Y v.Ae v.ne v.ce,O S b.nat,Y v.Ap v.np v.cp,O S (F:Int)]:=by rw [hw6];exact aD.new _ _ _
 rw [<-hw6];have hs6:=hb6.size;have hw5s:w.heap.size+4<=w5.heap.size:=aA;have HW6:Hid (vJ w w5.heap.size v b F w6):=hid ⟨HB5.o.trans (hb6.mono HB5.o.size),hk6,HB5.o.size⟩;obtain ⟨g,hg⟩ : ∃ g,g=w5.heap.size:=⟨_,rfl⟩;rw [<-hg] at HW6 hw5s ⊢;have HX6:=hid (bA.toG HTX.o HW6.o);have HB6:=hid HW6.o.bel;have K1:=hid (K1.o.below hb6 K1.o.lt);have K2:=hid (K2.o.below hb6 K2.o.lt);have K3:=hid (K3.o.below hb6 K3.o.lt);have hg6:=HW6.o.lt;generalize dX l=x at HX6 HE2 HQ;have HC:=hid (HEV.o g w6 F A n c x aA hF1 HW6.o HX6.o HE2.o);clear hw6 hb6 hk6 hg z5 HFX HE1 HTX hs6;cases hE:eO b (F+1) F x with
 | er z =>
  rw [hE] at HC HQ;simp only at HQ;clear hE;go_wp2_with fail
  refine (HC.o).mono ?_;rintro e w7 ⟨hm7,he7⟩;simp only at he7;subst he7;unfold C3;have k1:=K1.o.moved hm7 aA (by simp);have k2:=K2.o.moved hm7 aA (by simp);have k3:=K3.o.moved hm7 aA (by simp);have hb7:Below w.heap.size w w7:=HB6.o.trans (hm7.to_below (by have:=HB6.o.size;omega) (fun k h=>by omega) (fun _ e=>by cases e));refine leaves_cons (f:=22) (args:=#[I (J ⟨w.heap.size+1,0,X⟩),I (J ⟨w.heap.size+1+1,0,X⟩),I (J ⟨w.heap.size+1+1+1,0,X⟩)]) (by simp) (by simp [go_sem]) ?_;refine (zR (w.heap.size+1) (w.heap.size+1+1) (w.heap.size+1+1+1) aA aA aA _ _ _ z [] w7 k1 k2 k3).mono ?_;rintro e u' wf ⟨rfl,rfl,hc1,hc2,hc3,hc4⟩;have q1:wf.cell? ⟨w.heap.size+1,0,X⟩=J (Y X 0 0):=hc2.cell 0;have q2:wf.cell? ⟨w.heap.size+1+1,0,X⟩=J (O S 0):=hc3.cell 0;have q3:wf.cell? ⟨w.heap.size+1+1+1,0,X⟩=J (O S z):=hc4.cell 0;have HP:=hid (lH HQ.o (hb7.trans (hc1.to_below (by have:=hb7.size;omega) (fun k h=>by omega) (fun _ e=>by cases e))));simp [Leaves,settle,results,Tryz.results9,go_sem,q1,q2,q3];exact HP.o
 | ok y f' =>
  rw [hE] at HC HQ;simp only at HQ;clear hE;go_wp2_with fail
  refine (HC.o).mono ?_;rintro e w7 ⟨hm7,A7,n7,c7,rfl,hw7,ht7⟩;have hb7:Below w.heap.size w w7:=HB6.o.trans (hm7.to_below (by have:=HB6.o.size;omega) (fun k h=>by omega) (fun _ e=>by cases e));have HCL:=hid (tQ ht7.gv);have HW7:=hid hw7;have hs7:=hm7.size;have k1:=K1.o.moved hm7 aA (by simp);have k2:=K2.o.moved hm7 aA (by simp);have k3:=K3.o.moved hm7 aA (by simp);have KK1:=hid k1;have KK2:=hid k2;have KK3:=hid k3;have HB7:=hid hb7;clear hm7 hw7 ht7 k1 k2 k3 hb7;go_wp2_with fail
  refine (HCL.o).mono ?_;rintro e w8 ⟨hb8,A8,n8,c8,rfl,ht8⟩;have R1:=hid (KK1.o.below hb8 KK1.o.lt);have R2:=hid (KK2.o.below hb8 KK2.o.lt);have R3:=hid (KK3.o.below hb8 KK3.o.lt);have RG5:=hid (HW7.o.blk.below hb8 HW7.o.lt);have HT8:=hid ht8;have hs8:=hb8.size;have HB8:=cO HB7 hb8;have c1:=R1.o.cell;have c2:=R2.o.cell;have c3:=R3.o.cell;have cg:=RG5.o.cell;have f1:=R1.o.frozen;have f2:=R2.o.frozen;have f3:=R3.o.frozen;have hlt1:=R1.o.lt;have hne1:g ≠ w.heap.size+1:=aA;have hne2:g ≠ w.heap.size+1+1:=aA;have hne3:g ≠ w.heap.size+1+1+1:=aA;clear hb8 ht8;go_upto_region 7 with fail
  obtain ⟨w9,hw9⟩ : ∃ w9:World,w9=w8.setCell ⟨w.heap.size+1,0,X⟩ (Y A8 n8 c8):=⟨_,rfl⟩;have m9:Below w.heap.size w w9:=by rw [hw9];exact HB8.o.setCell (by simp<;>omega) _
  have m1:aD w9 (w.heap.size+1) 28 #[Y A8 n8 c8]:=by rw [hw9];simpa using R1.o.set_ 0 (Y A8 n8 c8)
  have m2:aD w9 (w.heap.size+1+1) 3 #[O S 0]:=by rw [hw9];exact R2.o.far (p:=⟨w.heap.size+1,0,X⟩) (by simp) _
  have m3:aD w9 (w.heap.size+1+1+1) 31 #[O S 0]:=by rw [hw9];exact R3.o.far (p:=⟨w.heap.size+1,0,X⟩) (by simp<;>omega) _
  have mg:aD w9 g 58 #[O S b.vars,Y v.Ao v.no v.co,Y v.Ae v.ne v.ce,O S b.nat,Y v.Ap v.np v.cp,O S (f':Int)]:=by rw [hw9];exact RG5.o.far (p:=⟨w.heap.size+1,0,X⟩) (by simp<;>omega) _
  have mt:bA (fun q=>w7.heap.size<=q/\q<w9.heap.size) w9 A8 n8 c8 (aJ y):=HT8.o.keep fun q hq=>⟨⟨hq.1,by rw [hw9];simpa [World.setCell] using hq.2⟩,fun o=>by rw [hw9];exact aH (Below.heap_setCell _ _ _ _ (by have:=hq.1;simp<;>omega)) o⟩;have mq:∀ q o:Nat,q ≠ w.heap.size+1->True:=fun _ _ _=>trivial;have MNQ:Hid (∀ q,w7.heap.size<=q/\q<w9.heap.size->q ≠ w.heap.size+1/\q ≠ w.heap.size+1+1/\q ≠ w.heap.size+1+1+1):=hid (fun q hq=>by omega);have hw77:w.heap.size<=w7.heap.size:=HB7.o.size;have hn1:w.heap.size+1 ≠ g:=Ne.symm hne1;have hn2:w.heap.size+1+1 ≠ g:=Ne.symm hne2;have hn3:w.heap.size+1+1+1 ≠ g:=Ne.symm hne3;rw [<-hw9];clear hw9 c1 c2 c3 cg f1 f2 f3;have c1:=m1.cell;have c2:=m2.cell;have c3:=m3.cell;have cg:=mg.cell;have f1:=m1.frozen;have f2:=m2.frozen;have f3:=m3.frozen;have M1:=hid m1;have M2:=hid m2;have M3:=hid m3;have MT:=hid mt;have M9:=hid m9
  -- LAST
  have x51:aD (w9.setCell ⟨w.heap.size+1,0,X⟩ (Y A8 n8 c8)) (w.heap.size+1) 28 #[Y A8 n8 c8]:=by simpa using m1.set_ 0 (Y A8 n8 c8)
  have x52:aD (w9.setCell ⟨w.heap.size+1,0,X⟩ (Y A8 n8 c8)) (w.heap.size+1+1) 3 #[O S 0]:=m2.far (p:=⟨w.heap.size+1,0,X⟩) (by simp<;>omega) _;have x53:aD (w9.setCell ⟨w.heap.size+1,0,X⟩ (Y A8 n8 c8)) (w.heap.size+1+1+1) 31 #[O S 0]:=m3.far (p:=⟨w.heap.size+1,0,X⟩) (by simp<;>omega) _;have x5g:aD (w9.setCell ⟨w.heap.size+1,0,X⟩ (Y A8 n8 c8)) g 58 #[O S b.vars,Y v.Ao v.no v.co,Y v.Ae v.ne v.ce,O S b.nat,Y v.Ap v.np v.cp,O S (f':Int)]:=mg.far (p:=⟨w.heap.size+1,0,X⟩) (by simp<;>omega) _;have x61:aD ((w9.setCell ⟨w.heap.size+1,0,X⟩ (Y A8 n8 c8)).setCell ⟨w.heap.size+1+1,0,X⟩ (O S (f':Int))) (w.heap.size+1) 28 #[Y A8 n8 c8]:=x51.far (p:=⟨w.heap.size+1+1,0,X⟩) (by simp<;>omega) _;have x62:aD ((w9.setCell ⟨w.heap.size+1,0,X⟩ (Y A8 n8 c8)).setCell ⟨w.heap.size+1+1,0,X⟩ (O S (f':Int))) (w.heap.size+1+1) 3 #[O S (f':Int)]:=by simpa using x52.set_ 0 (O S (f':Int))
  have x63:aD ((w9.setCell ⟨w.heap.size+1,0,X⟩ (Y A8 n8 c8)).setCell ⟨w.heap.size+1+1,0,X⟩ (O S (f':Int))) (w.heap.size+1+1+1) 31 #[O S 0]:=x53.far (p:=⟨w.heap.size+1+1,0,X⟩) (by simp<;>omega) _;have x6g:aD ((w9.setCell ⟨w.heap.size+1,0,X⟩ (Y A8 n8 c8)).setCell ⟨w.heap.size+1+1,0,X⟩ (O S (f':Int))) g 58 #[O S b.vars,Y v.Ao v.no v.co,Y v.Ae v.ne v.ce,O S b.nat,Y v.Ap v.np v.cp,O S (f':Int)]:=x5g.far (p:=⟨w.heap.size+1+1,0,X⟩) (by simp<;>omega) _;have x71:aD (((w9.setCell ⟨w.heap.size+1,0,X⟩ (Y A8 n8 c8)).setCell ⟨w.heap.size+1+1,0,X⟩ (O S (f':Int))).setCell ⟨w.heap.size+1+1+1,0,X⟩ (O S 0)) (w.heap.size+1) 28 #[Y A8 n8 c8]:=x61.far (p:=⟨w.heap.size+1+1+1,0,X⟩) (by simp<;>omega) _;have x72:aD (((w9.setCell ⟨w.heap.size+1,0,X⟩ (Y A8 n8 c8)).setCell ⟨w.heap.size+1+1,0,X⟩ (O S (f':Int))).setCell ⟨w.heap.size+1+1+1,0,X⟩ (O S 0)) (w.heap.size+1+1) 3 #[O S (f':Int)]:=x62.far (p:=⟨w.heap.size+1+1+1,0,X⟩) (by simp<;>omega) _;have x73:aD (((w9.setCell ⟨w.heap.size+1,0,X⟩ (Y A8 n8 c8)).setCell ⟨w.heap.size+1+1,0,X⟩ (O S (f':Int))).setCell ⟨w.heap.size+1+1+1,0,X⟩ (O S 0)) (w.heap.size+1+1+1) 31 #[O S 0]:=by simpa using x63.set_ 0 (O S 0)
  have x7g:aD (((w9.setCell ⟨w.heap.size+1,0,X⟩ (Y A8 n8 c8)).setCell ⟨w.heap.size+1+1,0,X⟩ (O S (f':Int))).setCell ⟨w.heap.size+1+1+1,0,X⟩ (O S 0)) g 58 #[O S b.vars,Y v.Ao v.no v.co,Y v.Ae v.ne v.ce,O S b.nat,Y v.Ap v.np v.cp,O S (f':Int)]:=x6g.far (p:=⟨w.heap.size+1+1+1,0,X⟩) (by simp<;>omega) _;have hbf:Below w.heap.size w (((w9.setCell ⟨w.heap.size+1,0,X⟩ (Y A8 n8 c8)).setCell ⟨w.heap.size+1+1,0,X⟩ (O S (f':Int))).setCell ⟨w.heap.size+1+1+1,0,X⟩ (O S 0)):=((m9.setCell (by simp<;>omega) _).setCell (by simp<;>omega) _).setCell (by simp<;>omega) _;have X51:=hid x51;have X5g:=hid x5g;have X61:=hid x61;have X6g:=hid x6g;have X7g:=hid x7g;have X71:=hid x71;have X72:=hid x72;have X73:=hid x73;have HBF:=hid hbf;have hsz:(((w9.setCell ⟨w.heap.size+1,0,X⟩ (Y A8 n8 c8)).setCell ⟨w.heap.size+1+1,0,X⟩ (O S (f':Int))).setCell ⟨w.heap.size+1+1+1,0,X⟩ (O S 0)).heap.size=w9.heap.size:=by simp [World.setCell]
  have HT7:Hid (bA (AF w (((w9.setCell ⟨w.heap.size+1,0,X⟩ (Y A8 n8 c8)).setCell ⟨w.heap.size+1+1,0,X⟩ (O S (f':Int))).setCell ⟨w.heap.size+1+1+1,0,X⟩ (O S 0))) (((w9.setCell ⟨w.heap.size+1,0,X⟩ (Y A8 n8 c8)).setCell ⟨w.heap.size+1+1,0,X⟩ (O S (f':Int))).setCell ⟨w.heap.size+1+1+1,0,X⟩ (O S 0)) A8 n8 c8 (aJ y)):=hid (mt.keep fun q hq=>⟨⟨Nat.le_trans hw77 hq.1,by rw [hsz];exact hq.2⟩,fun o=>aH ((Below.heap_setCell _ _ _ _ (MNQ.o q hq).2.2).trans ((Below.heap_setCell _ _ _ _ (MNQ.o q hq).2.1).trans (Below.heap_setCell _ _ _ _ (MNQ.o q hq).1))) o⟩);clear x51 x52 x53 x5g x61 x62 x63 x6g x71 x72 x73 x7g hbf hsz m1 m2 m3 mt m9 mg mq;go_region
  go_wp2_with fail
  refine leaves_cons (f:=22) (args:=#[I (J ⟨w.heap.size+1,0,X⟩),I (J ⟨w.heap.size+1+1,0,X⟩),I (J ⟨w.heap.size+1+1+1,0,X⟩)]) (by simp) (by simp [go_sem]) ?_;refine (zS _ _ _ _).mono ?_;rintro e u' w'' ⟨rfl,rfl,rfl⟩;generalize (((w9.setCell ⟨w.heap.size+1,0,X⟩ (Y A8 n8 c8)).setCell ⟨w.heap.size+1+1,0,X⟩ (O S (f':Int))).setCell ⟨w.heap.size+1+1+1,0,X⟩ (O S 0))=wf at HBF X71 X72 X73 HT7 ⊢;have r1:=X71.o.alloc (Z #[O S 0] 54);have r2:=X72.o.alloc (Z #[O S 0] 54);have r3:=X73.o.alloc (Z #[O S 0] 54);have hb9:=aB wf (Z #[O S 0] 54);have HP:Hid (C2 (jD b l fuel) w (.returned (.tuple #[Y A8 n8 c8,O S (f':Int),O S 0])) (wf.drew.alloc (Z #[O S 0] 54))):=hid (by
   rw [HQ.o];exact ⟨aI (HBF.o.trans (hb9.mono HBF.o.size)) 1,A8,n8,c8,rfl,(HT7.o.keep fun q hq=>⟨⟨hq.1,Nat.lt_of_lt_of_le hq.2 hb9.size⟩,fun o=>hb9.cell (p:=⟨q,o,X⟩) hq.2⟩)⟩)
  have q1:(wf.drew.alloc (Z #[O S 0] 54)).cell? ⟨w.heap.size+1,0,X⟩=J (Y A8 n8 c8):=r1.cell 0;have q2:(wf.drew.alloc (Z #[O S 0] 54)).cell? ⟨w.heap.size+1+1,0,X⟩=J (O S (f':Int)):=r2.cell 0;have q3:(wf.drew.alloc (Z #[O S 0] 54)).cell? ⟨w.heap.size+1+1+1,0,X⟩=J (O S 0):=r3.cell 0;generalize (wf.drew.alloc (Z #[O S 0] 54))=wz at HP q1 q2 q3 ⊢;simp [Leaves,settle,results,Tryz.results9,go_sem,q1,q2,q3];exact HP.o
  -- END
end
end Go.Proofs.YtjllmblbbgojbaaGreat
