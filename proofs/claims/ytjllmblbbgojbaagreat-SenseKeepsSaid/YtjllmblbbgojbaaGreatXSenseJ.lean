/- Merged: SenseI, SenseJ. -/
import Derived.Test.YtjllmblbbgojbaaGreatXSenseH
namespace Go.Proofs.YtjllmblbbgojbaaGreat
set_option linter.unusedVariables false
set_option linter.unusedSimpArgs false
open Go.RowKit
open Go.Value renaming int → O, slice → Y, pointer → I
open Go.IntKind renaming i64 → S
open Option renaming none → X, some → J
open Go.Obj renaming cells → Z
section
theorem J1 {w0:World} {g:Nat} {v:bN} {b:Bk} (hr:cT b=0) (hb:bV w0 v b) : ∀d,PA w0 g v b d/\O3 w0 g v b d
 | 0=>⟨fun _ _ _ _ _ _ h=>absurd h aA,fun _ _ _ _ _ _ _ _ _ _ h=>absurd h aA⟩
 | d+1=>by
  obtain⟨h1,h2⟩:=J1 hr hb d;have e1:=DX hr hb h1 h2;exact⟨e1,DY hr e1 h2⟩
theorem yE (er:Int) (w:World):(Instr.typeAssert (.iface 54 (.agg #[O S er])) 20 54 true).run Tryz.prog w=.ok (.tuple #[.agg #[O S er],.bool true]) w:=by kernel_rfl
theorem AZ (w:World):(Instr.typeAssert .nilIface 20 54 true).run Tryz.prog w=.ok (.tuple #[.agg #[O S 0],.bool false]) w:=by kernel_rfl
def I5 (p1 p2 p3:Nat) (er:Int) (w w':World):Prop:=aW (fun k=>k=p1\/k=p2\/k=p3) X w w'/\aS w' p1 28 #[Y X 0 0]/\aS w' p2 3 #[O S 0]/\aS w' p3 31 #[O S er]
theorem OC {p1 p2 p3:Nat} {x y z:Value} {er:Int} {w:World} (h12:p1 ≠ p2) (h13:p1 ≠ p3) (h23:p2 ≠ p3) (h1:aS w p1 28 #[x]) (h2:aS w p2 3 #[y]) (h3:aS w p3 31 #[z]) (o:Obj) :
 I5 p1 p2 p3 er w ((((w.setCell ⟨p1,0,X⟩ (Y X 0 0)).setCell ⟨p2,0,X⟩ (O S 0)).setCell ⟨p3,0,X⟩ (O S er)).alloc o).drew:=by
 refine⟨(((((aW.refl _ _ w).setCell (p:=⟨p1,0,X⟩) (.inl rfl) _).setCell (p:=⟨p2,0,X⟩) (.inr (.inl rfl)) _).setCell (p:=⟨p3,0,X⟩) (.inr (.inr rfl)) _).alloc _).drew,?_,?_,?_⟩
 · have:=(((h1.set_ 0 (Y X 0 0)).far (p:=⟨p2,0,X⟩) h12 (O S 0)).far (p:=⟨p3,0,X⟩) h13 (O S er)).alloc o;exact (by simpa using this:aS ((((w.setCell ⟨p1,0,X⟩ (Y X 0 0)).setCell ⟨p2,0,X⟩ (O S 0)).setCell ⟨p3,0,X⟩ (O S er)).alloc o) p1 28 #[Y X 0 0])
 · have:=(((h2.far (p:=⟨p1,0,X⟩) (Ne.symm h12) (Y X 0 0)).set_ 0 (O S 0)).far (p:=⟨p3,0,X⟩) h23 (O S er)).alloc o;exact (by simpa using this:aS ((((w.setCell ⟨p1,0,X⟩ (Y X 0 0)).setCell ⟨p2,0,X⟩ (O S 0)).setCell ⟨p3,0,X⟩ (O S er)).alloc o) p2 3 #[O S 0])
 have:=(((h3.far (p:=⟨p1,0,X⟩) (Ne.symm h13) (Y X 0 0)).far (p:=⟨p2,0,X⟩) (Ne.symm h23) (O S 0)).set_ 0 (O S er)).alloc o;exact (by simpa using this:aS ((((w.setCell ⟨p1,0,X⟩ (Y X 0 0)).setCell ⟨p2,0,X⟩ (O S 0)).setCell ⟨p3,0,X⟩ (O S er)).alloc o) p3 31 #[O S er])
theorem BA (p1 p2 p3:Nat) (h12:p1 ≠ p2) (h13:p1 ≠ p3) (h23:p2 ≠ p3) (x y z:Value) (er:Int) (older:List PanicEntry) (w:World) (h1:aS w p1 28 #[x]) (h2:aS w p2 3 #[y]) (h3:aS w p3 31 #[z]) :
 CallsD Tryz.prog 22 #[I (J ⟨p1,0,X⟩),I (J ⟨p2,0,X⟩),I (J ⟨p3,0,X⟩)] (.panicking ({ v:=.iface 54 (.agg #[O S er]),recovered:=false }::older)) w fun e u' w' =>
  e=.returned (.tuple #[])/\u'=.panicking ({ v:=.iface 54 (.agg #[O S er]),recovered:=true }::older)/\I5 p1 p2 p3 er w w':=by
 have c1:=h1.cell;have c2:=h2.cell;have c3:=h3.cell;have f1:=h1.frozen;have f2:=h2.frozen;have f3:=h3.frozen;refine callsD_of_wpS Tryz.func22 rfl fun c₀ cs hu => ?_;apply wpS_seq;apply wpS_region;simp[wpOpsS,go_sem,recoverD,hu,Tryz.ntmps22,Exit.thenS,yE];apply wpS_seq;apply wpS_region;simp[wpOpsS,go_sem,Exit.thenS];refine wpS_cond (t:=true) (by simp[Act.eval,Array.replicate]) ?_;simp only[if_true];refine wpS_of_wp ?_;simp only[Array.replicate];have hl1:=h1.lt;have hl2:=h2.lt;have hl3:=h3.lt;have h21:p2 ≠ p1:=Ne.symm h12;have h31:p3 ≠ p1:=Ne.symm h13;have h32:p3 ≠ p2:=Ne.symm h23;have hn1:w.heap.size ≠ p1:=aA;have hn2:w.heap.size ≠ p2:=aA;have hn3:w.heap.size ≠ p3:=aA;go_region
 all_goals
  simp[bodyPostS,results,Tryz.results22,go_sem];exact OC h12 h13 h23 h1 h2 h3 _
theorem BB (p1 p2 p3:Nat) (w:World) :
 CallsD Tryz.prog 22 #[I (J ⟨p1,0,X⟩),I (J ⟨p2,0,X⟩),I (J ⟨p3,0,X⟩)] .returning w fun e u' w' =>
  e=.returned (.tuple #[])/\u'=.returning/\w'=w.alloc (Z #[O S 0] 54):=by
 refine callsD_of_wpS Tryz.func22 rfl fun c₀ cs hu => ?_;apply wpS_seq;apply wpS_region;simp[wpOpsS,go_sem,recoverD,hu,Tryz.ntmps22,Exit.thenS,AZ];apply wpS_seq;apply wpS_region;simp[wpOpsS,go_sem,Exit.thenS];refine wpS_cond (t:=false) (by simp[Act.eval,Array.replicate]) ?_;simp only[Bool.false_eq_true,if_false];refine wpS_of_wp (wp_skip ?_);cases c₀
 simp_all [bodyPostS,results,Tryz.results22]
end
section
open Go.Lib renaming hid->aB
set_option maxHeartbeats 8000000
set_option maxRecDepth 100000
def jL (b:Bk) (l:List Nd) (fuel:Int):List Nd×Int×Int:=if fT b 0 l ≠ 0 then ([],0,fT b 0 l) else match fO b ((min (max fuel 0) 100000).toNat+1) (min (max fuel 0) 100000).toNat (eY l) with
 | .ok y f=>(aY y,(f:Int),0)
 | .er z=>([],0,z)
def EF (q:List Nd×Int×Int) (w:World) (e:Ending) (w':World):Prop:=Below w.heap.size w w'/\∃A n c,e=.returned (.tuple #[Y A n c,O S q.2.1,O S q.2.2])/\bP (F5 w w') w' A n c q.1
def yR (q:List Nd×Int×Int) (w:World) (e:Ending) (w':World):Prop:=Below w.heap.size w w'/\∃A n c,e=.returned (.tuple #[Y A n c,O S q.2.1,O S q.2.2])/\bR w' w.heap.size (Y A n c) q.1/\q.1.length<=5864062014805
theorem yR.p {q:List Nd×Int×Int} {w w':World} {e:Ending} (h:yR q w e w'):EF q w e w':=by
 obtain⟨hb,A,n,c,rfl,ho,hl⟩:=h;exact⟨hb,A,n,c,rfl,kI ho hl⟩
theorem vD {q:List Nd×Int×Int} {w w':World} {z:Int} (hq:q=([],0,z)) (hb:Below w.heap.size w w'):yR q w (.returned (.tuple #[Y X 0 0,O S 0,O S z])) w':=by
 subst hq;exact⟨hb,X,0,0,rfl,bR.nil _ _,Nat.zero_le _⟩
theorem KR {w:World} {B B':Nat} {v:Value} {l:List Nd} (h:bR w B v l) (hB:B'<=B):bR w B' v l:=by
 refine⟨h.1,?_⟩;rcases h.2 with h2 | ⟨g,cap,cur,h2,h3,h4⟩
 · exact .inl h2
 exact .inr ⟨g,cap,cur,h2,Nat.le_trans hB h3,h4⟩
theorem vE {q:List Nd×Int×Int} {w w':World} {z:Int} (hq:q=([],0,z)) (hb:Below w.heap.size w w'):EF q w (.returned (.tuple #[Y X 0 0,O S 0,O S z])) w':=by
 subst hq;exact⟨hb,X,0,0,rfl,rfl,Nat.le_refl _,by decide,fun _=>rfl,fun h=>absurd h aE⟩
theorem D6 {w:World} {v:bN} {b:Bk} (hb:bV w v b) {A:Option Addr} {n c:Nat} {l:List Nd} (ht:bB w A n c l) :
 Calls Tryz.prog 7 #[.agg #[O S b.vars,Y v.Ao v.no v.co,Y v.Ae v.ne v.ce,O S b.nat,Y v.Ap v.np v.cp],Y A n c] w (fun e w'=>e=.returned (.tuple #[.bool (decide (fT b 0 l=0)&&dC (eY l)),O S (fT b 0 l)])/\Below w.heap.size w w'):=by
 have hb0:=aP w (Z #[O S b.vars,Y v.Ao v.no v.co,Y v.Ae v.ne v.ce,O S b.nat,Y v.Ap v.np v.cp] 26);have hFI:=zM (hb.below hb0) 0 (ht.below hb0);obtain⟨z,hz⟩ : ∃z,z=fT b 0 l:=⟨_,rfl⟩;rw[<-hz] at hFI ⊢;have HFI:=aB hFI;have HB0:=aB hb0;have hs0:=hb0.size;by_cases h0:z=0
 · subst h0;obtain⟨e1,e2⟩:=lO hz.symm;have HIV:=aB (fun (w':World) (h:Below w.heap.size w w')=>pQ (cL (eY l)) w' A n c (eY l) (by rw[<-e1];exact ht.below h) e2.rt (Nat.le_refl _));clear hFI hb0 hb ht hz e1 e2;go_in;go_wp2_with fail;refine (HFI.o).mono ?_;rintro e w2 ⟨rfl,hb2⟩;have HB2:=aB (HB0.o.trans (hb2.mono hs0));clear hb2;go_wp2_with fail;refine (HIV.o w2 HB2.o).mono ?_;rintro e w3 ⟨rfl,hb3⟩;have HB3:=dA HB2 hb3;clear hb3;go_wp2_with fail;go_ret2;exact⟨by simp,HB3.o⟩
 have u0:(z != 0)=true:=by simpa using h0
 have hd:decide (z=0)=false:=decide_eq_false h0;rw[hd,Bool.false_and];clear hFI hb0 hb ht hz h0 hd;go_in;go_wp2_with fail;refine (HFI.o).mono ?_;rintro e w2 ⟨rfl,hb2⟩;have HB2:=aB (HB0.o.trans (hb2.mono hs0));clear hb2;go_wp2_with fail;go_ret2;exact⟨rfl,HB2.o⟩
theorem tI {w:World} {v:bN} {b:Bk} (hb:bV w v b) {A:Option Addr} {n c:Nat} {l:List Nd} (fuel:Int) (ht:bB w A n c l) :
 Calls Tryz.prog 9 #[.agg #[O S b.vars,Y v.Ao v.no v.co,Y v.Ae v.ne v.ce,O S b.nat,Y v.Ap v.np v.cp],Y A n c,O S fuel] w (yR (jL b l fuel) w):=by
 obtain⟨W4,hW4⟩ : ∃W4:World,W4=(((w.alloc (Z #[O S b.vars,Y v.Ao v.no v.co,Y v.Ae v.ne v.ce,O S b.nat,Y v.Ap v.np v.cp] 26)).alloc (Z #[Y X 0 0] 28)).alloc (Z #[O S 0] 3)).alloc (Z #[O S 0] 31):=⟨_,rfl⟩;have hb4:Below w.heap.size w W4:=by rw[hW4];exact (((aP w _).alloc aD _).alloc aG _).alloc aG _
 have hs4:W4.heap.size=w.heap.size+4:=by rw[hW4];simp
 have k0:aS W4 w.heap.size 26 #[O S b.vars,Y v.Ao v.no v.co,Y v.Ae v.ne v.ce,O S b.nat,Y v.Ap v.np v.cp]:=by rw[hW4];exact (((aS.new _ _ _).alloc _).alloc _).alloc _
 have k1:aS W4 (w.heap.size+1) 28 #[Y X 0 0]:=by rw[hW4];exact ((aS.new' aD).alloc _).alloc _
 have k2:aS W4 (w.heap.size+2) 3 #[O S 0]:=by rw[hW4];exact (aS.new' aD).alloc _
 have k3:aS W4 (w.heap.size+3) 31 #[O S 0]:=by rw[hW4];exact aS.new' aD
 have hFI:=zM (hb.below hb4) 0 (ht.below hb4);obtain⟨z,hz⟩ : ∃z,z=fT b 0 l:=⟨_,rfl⟩;rw[<-hz] at hFI;have HFI:=aB hFI;have HB4:=aB hb4;have HW4:=aB hW4.symm;have HK0:=aB k0;have HK1:=aB k1;have HK2:=aB k2;have HK3:=aB k3;by_cases h0:z=0;rotate_left
 · have u0:(z != 0)=true:=by simpa using h0
   have HQ:Hid (jL b l fuel=([],0,z)):=aB (by unfold jL;rw[<-hz,if_pos h0]);clear hFI hb ht hz h0 hb4 hW4 k0 k1 k2 k3;go_enter_defers Tryz.func9,Tryz.ntmps9
   go_upto_region 1 with fail
   rw[HW4.o];have z0:=aS.cell HK0.o;go_wp2_with fail;refine (HFI.o).mono ?_;rintro e w5 ⟨rfl,hb5⟩;have hb5':=HB4.o.trans (hb5.mono aA);have HB5:=aB hb5';have K1:=aB (HK1.o.below hb5 aA);have K2:Hid (aS w5 (w.heap.size+1+1) 3 #[O S 0]):=aB (HK2.o.below hb5 aA);have K3:Hid (aS w5 (w.heap.size+1+1+1) 31 #[O S 0]):=aB (HK3.o.below hb5 aA);have c1:=K1.o.cell;have c2:=K2.o.cell;have c3:=K3.o.cell;have f1:=K1.o.frozen;have f2:=K2.o.frozen;have f3:=K3.o.frozen;clear hb5 hb5' z0 HK0 HK1 HK2 HK3 HFI;go_wp2_with fail;have r1:aS (((w5.setCell ⟨w.heap.size+1,0,X⟩ (Y X 0 0)).setCell ⟨w.heap.size+1+1,0,X⟩ (O S 0)).setCell ⟨w.heap.size+1+1+1,0,X⟩ (O S z)) (w.heap.size+1) 28 #[Y X 0 0]:=((K1.o.set_ 0 (Y X 0 0)).far (p:=⟨w.heap.size+1+1,0,X⟩) aH (O S 0)).far (p:=⟨w.heap.size+1+1+1,0,X⟩) aH (O S z);have r2:aS (((w5.setCell ⟨w.heap.size+1,0,X⟩ (Y X 0 0)).setCell ⟨w.heap.size+1+1,0,X⟩ (O S 0)).setCell ⟨w.heap.size+1+1+1,0,X⟩ (O S z)) (w.heap.size+1+1) 3 #[O S 0]:=((K2.o.far (p:=⟨w.heap.size+1,0,X⟩) aH (Y X 0 0)).set_ 0 (O S 0)).far (p:=⟨w.heap.size+1+1+1,0,X⟩) aH (O S z);have r3:aS (((w5.setCell ⟨w.heap.size+1,0,X⟩ (Y X 0 0)).setCell ⟨w.heap.size+1+1,0,X⟩ (O S 0)).setCell ⟨w.heap.size+1+1+1,0,X⟩ (O S z)) (w.heap.size+1+1+1) 31 #[O S z]:=((K3.o.far (p:=⟨w.heap.size+1,0,X⟩) aH (Y X 0 0)).far (p:=⟨w.heap.size+1+1,0,X⟩) aH (O S 0)).set_ 0 (O S z);have hbf:Below w.heap.size w (((w5.setCell ⟨w.heap.size+1,0,X⟩ (Y X 0 0)).setCell ⟨w.heap.size+1+1,0,X⟩ (O S 0)).setCell ⟨w.heap.size+1+1+1,0,X⟩ (O S z)):=((HB5.o.setCell aH _).setCell aH _).setCell aH _;have HP:=aB (vD HQ.o hbf);clear hbf c1 c2 c3 f1 f2 f3 K1 K2 K3;generalize (((w5.setCell ⟨w.heap.size+1,0,X⟩ (Y X 0 0)).setCell ⟨w.heap.size+1+1,0,X⟩ (O S 0)).setCell ⟨w.heap.size+1+1+1,0,X⟩ (O S z))=wf at r1 r2 r3 HP ⊢;have q1:wf.cell? ⟨w.heap.size+1,0,X⟩=J (Y X 0 0):=r1.cell 0;have q2:wf.cell? ⟨w.heap.size+1+1,0,X⟩=J (O S 0):=r2.cell 0;have q3:wf.cell? ⟨w.heap.size+1+1+1,0,X⟩=J (O S z):=r3.cell 0;simp[bodyPostD,Leaves,settle,results,Tryz.results9,go_sem,q1,q2,q3];exact HP.o
 subst h0;obtain⟨F,hF⟩ : ∃F:Nat,F=(min (max fuel 0) 100000).toNat:=⟨_,rfl⟩;have hFi:min (max fuel 0) 100000=(F:Int):=aA;have hF1:F<=100000:=aA;obtain⟨e1,e2⟩:=lO hz.symm;have HQ:Hid (jL b l fuel=match fO b (F+1) F (eY l) with
  | .ok y f=>(aY y,(f:Int),0)
  | .er z=>([],0,z)):=aB (by unfold jL;rw[if_neg (by rw[<-hz];simp),<-hF])
 have hrt:cT b=0:=(sE hz.symm).1;have HEV:=aB (fun (g:Nat)=>(J1 (w0:=w) (g:=g) hrt hb (F+1)).1);obtain⟨mx,hmx⟩ : ∃mx:Int,mx=(if fuel<0 then 0 else fuel):=⟨_,rfl⟩;have hfx:(if 100000<mx then 100000 else mx)=(F:Int):=by rw[hmx,<-hFi];split<;>split<;>omega
 have HMX:=aB hmx;have HFX:=aB hfx;have HTX:Hid (bB w A n c (aY (eY l))):=aB (by rw[<-e1];exact ht);have HE2:=aB e2;clear hFI hb hz hb4 hW4 k0 k1 k2 k3 hFi hF hfx hmx e1 e2 ht hrt;go_enter_defers Tryz.func9,Tryz.ntmps9
 go_upto_region 1 with fail
 rw[HW4.o];have z0:=aS.cell HK0.o;go_wp2_with fail;refine (HFI.o).mono ?_;rintro e w5 ⟨rfl,hb5⟩;have hs5:=hb5.size;have hb5':=HB4.o.trans (hb5.mono aA);have HB5:=aB hb5';have z5:=aS.cell (HK0.o.below hb5 aA);have K1:=aB (HK1.o.below hb5 aA);have K2:Hid (aS w5 (w.heap.size+1+1) 3 #[O S 0]):=aB (HK2.o.below hb5 aA);have K3:Hid (aS w5 (w.heap.size+1+1+1) 31 #[O S 0]):=aB (HK3.o.below hb5 aA);clear hb5 hb5' z0 HK0 HK1 HK2 HK3 HFI;go_upto_region 6 with fail
 rw[<-HMX.o,HFX.o];clear HMX;obtain⟨w6,hw6⟩ : ∃w6:World,w6=w5.alloc (Z #[O S b.vars,Y v.Ao v.no v.co,Y v.Ae v.ne v.ce,O S b.nat,Y v.Ap v.np v.cp,O S (F:Int)] 58):=⟨_,rfl⟩;have hb6:Below w5.heap.size w5 w6:=by rw[hw6];exact aP _ _
 have hk6:aS w6 w5.heap.size 58 #[O S b.vars,Y v.Ao v.no v.co,Y v.Ae v.ne v.ce,O S b.nat,Y v.Ap v.np v.cp,O S (F:Int)]:=by rw[hw6];exact aS.new _ _ _
 rw[<-hw6];have hw5s:w.heap.size+4<=w5.heap.size:=aA;have HW6:Hid (wT w w5.heap.size v b F w6):=aB ⟨HB5.o.trans (hb6.mono HB5.o.size),hk6,HB5.o.size⟩;obtain⟨g,hg⟩ : ∃g,g=w5.heap.size:=⟨_,rfl⟩;rw[<-hg] at HW6 hw5s ⊢;have HX6:=aB (bP.toG HTX.o HW6.o);have HB6:=aB HW6.o.bel;have K1:=aB (K1.o.below hb6 K1.o.lt);have K2:=aB (K2.o.below hb6 K2.o.lt);have K3:=aB (K3.o.below hb6 K3.o.lt);have hg6:=HW6.o.lt;generalize eY l=x at HX6 HE2 HQ;have HC:=aB (HEV.o g w6 F A n c x aA hF1 HW6.o HX6.o HE2.o);clear hw6 hb6 hk6 hg z5 HFX HTX;cases hE:fO b (F+1) F x with
 | er z =>
  rw[hE] at HC HQ;simp only at HQ;clear hE;go_wp2_with fail;refine (HC.o).mono ?_;rintro e w7 ⟨hm7,he7⟩;simp only at he7;subst he7;unfold EG;have k1:=K1.o.moved hm7 aA aD;have k2:=K2.o.moved hm7 aA aD;have k3:=K3.o.moved hm7 aA aD;have hb7:Below w.heap.size w w7:=HB6.o.trans (hm7.to_below (by have:=HB6.o.size;omega) (fun k h=>by omega) (fun _ e=>by cases e));refine leaves_cons (f:=22) (args:=#[I (J ⟨w.heap.size+1,0,X⟩),I (J ⟨w.heap.size+1+1,0,X⟩),I (J ⟨w.heap.size+1+1+1,0,X⟩)]) aD (by simp[go_sem]) ?_;refine (BA (w.heap.size+1) (w.heap.size+1+1) (w.heap.size+1+1+1) aA aA aA _ _ _ z [] w7 k1 k2 k3).mono ?_;rintro e u' wf ⟨rfl,rfl,hc1,hc2,hc3,hc4⟩;have q1:wf.cell? ⟨w.heap.size+1,0,X⟩=J (Y X 0 0):=hc2.cell 0;have q2:wf.cell? ⟨w.heap.size+1+1,0,X⟩=J (O S 0):=hc3.cell 0;have q3:wf.cell? ⟨w.heap.size+1+1+1,0,X⟩=J (O S z):=hc4.cell 0;have HP:=aB (vD HQ.o (hb7.trans (hc1.to_below (by have:=hb7.size;omega) (fun k h=>by omega) (fun _ e=>by cases e))));simp[Leaves,settle,results,Tryz.results9,go_sem,q1,q2,q3];exact HP.o
 | ok y f' =>
  rw[hE] at HC HQ;simp only at HQ;clear hE;go_wp2_with fail;refine (HC.o).mono ?_;rintro e w7 ⟨hm7,A7,n7,c7,rfl,hw7,ht7⟩;have hb7:Below w.heap.size w w7:=HB6.o.trans (hm7.to_below (by have:=HB6.o.size;omega) (fun k h=>by omega) (fun _ e=>by cases e));have HCL:=aB (uY ht7.gv);have HW7:=aB hw7;have hs7:=hm7.size;have k1:=K1.o.moved hm7 aA aD;have k2:=K2.o.moved hm7 aA aD;have k3:=K3.o.moved hm7 aA aD;have KK1:=aB k1;have KK2:=aB k2;have KK3:=aB k3;have HB7:=aB hb7;clear hm7 hw7 ht7 k1 k2 k3 hb7;go_wp2_with fail;refine (HCL.o).mono ?_;rintro e w8 ⟨hb8,A8,n8,c8,rfl,ht8,hl8⟩;have R1:=aB (KK1.o.below hb8 KK1.o.lt);have R2:=aB (KK2.o.below hb8 KK2.o.lt);have R3:=aB (KK3.o.below hb8 KK3.o.lt);have RG5:=aB (HW7.o.blk.below hb8 HW7.o.lt);have HT8:=aB ht8;have HL8:=aB hl8;have HB8:=dA HB7 hb8;have c1:=R1.o.cell;have c2:=R2.o.cell;have c3:=R3.o.cell;have cg:=RG5.o.cell;have f1:=R1.o.frozen;have f2:=R2.o.frozen;have f3:=R3.o.frozen;have hne1:g ≠ w.heap.size+1:=aA;clear hb8 ht8 hl8;go_upto_region 7 with fail
  obtain⟨w9,hw9⟩ : ∃w9:World,w9=w8.setCell ⟨w.heap.size+1,0,X⟩ (Y A8 n8 c8):=⟨_,rfl⟩;have m9:Below w.heap.size w w9:=by rw[hw9];exact HB8.o.setCell aH _
  have m1:aS w9 (w.heap.size+1) 28 #[Y A8 n8 c8]:=by rw[hw9];simpa using R1.o.set_ 0 (Y A8 n8 c8)
  have m2:aS w9 (w.heap.size+1+1) 3 #[O S 0]:=by rw[hw9];exact R2.o.far (p:=⟨w.heap.size+1,0,X⟩) aD _
  have m3:aS w9 (w.heap.size+1+1+1) 31 #[O S 0]:=by rw[hw9];exact R3.o.far (p:=⟨w.heap.size+1,0,X⟩) aH _
  have mg:aS w9 g 58 #[O S b.vars,Y v.Ao v.no v.co,Y v.Ae v.ne v.ce,O S b.nat,Y v.Ap v.np v.cp,O S (f':Int)]:=by rw[hw9];exact RG5.o.far (p:=⟨w.heap.size+1,0,X⟩) aH _
  have mt:bR w9 w7.heap.size (Y A8 n8 c8) (aY y):=by rw[hw9];exact HT8.o.setCell aH _
  have hw77:w.heap.size<=w7.heap.size:=HB7.o.size;rw[<-hw9];clear hw9 c1 c2 c3 cg f1 f2 f3;have c1:=m1.cell;have c2:=m2.cell;have c3:=m3.cell;have cg:=mg.cell;have f1:=m1.frozen;have f2:=m2.frozen;have f3:=m3.frozen
  -- LAST
  have x51:aS (w9.setCell ⟨w.heap.size+1,0,X⟩ (Y A8 n8 c8)) (w.heap.size+1) 28 #[Y A8 n8 c8]:=by simpa using m1.set_ 0 (Y A8 n8 c8)
  have x52:aS (w9.setCell ⟨w.heap.size+1,0,X⟩ (Y A8 n8 c8)) (w.heap.size+1+1) 3 #[O S 0]:=m2.far (p:=⟨w.heap.size+1,0,X⟩) aH _;have x53:aS (w9.setCell ⟨w.heap.size+1,0,X⟩ (Y A8 n8 c8)) (w.heap.size+1+1+1) 31 #[O S 0]:=m3.far (p:=⟨w.heap.size+1,0,X⟩) aH _;have x61:aS ((w9.setCell ⟨w.heap.size+1,0,X⟩ (Y A8 n8 c8)).setCell ⟨w.heap.size+1+1,0,X⟩ (O S (f':Int))) (w.heap.size+1) 28 #[Y A8 n8 c8]:=x51.far (p:=⟨w.heap.size+1+1,0,X⟩) aH _;have x62:aS ((w9.setCell ⟨w.heap.size+1,0,X⟩ (Y A8 n8 c8)).setCell ⟨w.heap.size+1+1,0,X⟩ (O S (f':Int))) (w.heap.size+1+1) 3 #[O S (f':Int)]:=by simpa using x52.set_ 0 (O S (f':Int))
  have x63:aS ((w9.setCell ⟨w.heap.size+1,0,X⟩ (Y A8 n8 c8)).setCell ⟨w.heap.size+1+1,0,X⟩ (O S (f':Int))) (w.heap.size+1+1+1) 31 #[O S 0]:=x53.far (p:=⟨w.heap.size+1+1,0,X⟩) aH _;have x71:aS (((w9.setCell ⟨w.heap.size+1,0,X⟩ (Y A8 n8 c8)).setCell ⟨w.heap.size+1+1,0,X⟩ (O S (f':Int))).setCell ⟨w.heap.size+1+1+1,0,X⟩ (O S 0)) (w.heap.size+1) 28 #[Y A8 n8 c8]:=x61.far (p:=⟨w.heap.size+1+1+1,0,X⟩) aH _;have x72:aS (((w9.setCell ⟨w.heap.size+1,0,X⟩ (Y A8 n8 c8)).setCell ⟨w.heap.size+1+1,0,X⟩ (O S (f':Int))).setCell ⟨w.heap.size+1+1+1,0,X⟩ (O S 0)) (w.heap.size+1+1) 3 #[O S (f':Int)]:=x62.far (p:=⟨w.heap.size+1+1+1,0,X⟩) aH _;have x73:aS (((w9.setCell ⟨w.heap.size+1,0,X⟩ (Y A8 n8 c8)).setCell ⟨w.heap.size+1+1,0,X⟩ (O S (f':Int))).setCell ⟨w.heap.size+1+1+1,0,X⟩ (O S 0)) (w.heap.size+1+1+1) 31 #[O S 0]:=by simpa using x63.set_ 0 (O S 0)
  have hbf:Below w.heap.size w (((w9.setCell ⟨w.heap.size+1,0,X⟩ (Y A8 n8 c8)).setCell ⟨w.heap.size+1+1,0,X⟩ (O S (f':Int))).setCell ⟨w.heap.size+1+1+1,0,X⟩ (O S 0)):=((m9.setCell aH _).setCell aH _).setCell aH _;have X71:=aB x71;have X72:=aB x72;have X73:=aB x73;have HBF:=aB hbf;have HT7:Hid (bR (((w9.setCell ⟨w.heap.size+1,0,X⟩ (Y A8 n8 c8)).setCell ⟨w.heap.size+1+1,0,X⟩ (O S (f':Int))).setCell ⟨w.heap.size+1+1+1,0,X⟩ (O S 0)) w7.heap.size (Y A8 n8 c8) (aY y)):=aB (((mt.setCell aH _).setCell aH _).setCell aH _);clear x51 x52 x53 x61 x62 x63 x71 x72 x73 hbf m1 m2 m3 mt m9 mg;go_region
  go_wp2_with fail;refine leaves_cons (f:=22) (args:=#[I (J ⟨w.heap.size+1,0,X⟩),I (J ⟨w.heap.size+1+1,0,X⟩),I (J ⟨w.heap.size+1+1+1,0,X⟩)]) aD (by simp[go_sem]) ?_;refine (BB _ _ _ _).mono ?_;rintro e u' w'' ⟨rfl,rfl,rfl⟩;generalize (((w9.setCell ⟨w.heap.size+1,0,X⟩ (Y A8 n8 c8)).setCell ⟨w.heap.size+1+1,0,X⟩ (O S (f':Int))).setCell ⟨w.heap.size+1+1+1,0,X⟩ (O S 0))=wf at HBF X71 X72 X73 HT7 ⊢;have r1:=X71.o.alloc (Z #[O S 0] 54);have r2:=X72.o.alloc (Z #[O S 0] 54);have r3:=X73.o.alloc (Z #[O S 0] 54);have hb9:=aP wf (Z #[O S 0] 54);have HP:Hid (yR (jL b l fuel) w (.returned (.tuple #[Y A8 n8 c8,O S (f':Int),O S 0])) (wf.drew.alloc (Z #[O S 0] 54))):=aB (by
   rw[HQ.o];exact⟨aV (HBF.o.trans (hb9.mono HBF.o.size)) 1,A8,n8,c8,rfl,KR ((HT7.o.alloc (Z #[O S 0] 54)).drewN 1) hw77,HL8.o⟩)
  have q1:(wf.drew.alloc (Z #[O S 0] 54)).cell? ⟨w.heap.size+1,0,X⟩=J (Y A8 n8 c8):=r1.cell 0;have q2:(wf.drew.alloc (Z #[O S 0] 54)).cell? ⟨w.heap.size+1+1,0,X⟩=J (O S (f':Int)):=r2.cell 0;have q3:(wf.drew.alloc (Z #[O S 0] 54)).cell? ⟨w.heap.size+1+1+1,0,X⟩=J (O S 0):=r3.cell 0;generalize (wf.drew.alloc (Z #[O S 0] 54))=wz at HP q1 q2 q3 ⊢;simp[Leaves,settle,results,Tryz.results9,go_sem,q1,q2,q3];exact HP.o
  -- END
theorem qG {w:World} {v:bN} {b:Bk} (hb:bV w v b) {A:Option Addr} {n c:Nat} {l:List Nd} (fuel:Int) (ht:bB w A n c l) :
 Calls Tryz.prog 9 #[.agg #[O S b.vars,Y v.Ao v.no v.co,Y v.Ae v.ne v.ce,O S b.nat,Y v.Ap v.np v.cp],Y A n c,O S fuel] w (EF (jL b l fuel) w) :=
 (tI hb fuel ht).mono fun _ _ h=>h.p
end
end Go.Proofs.YtjllmblbbgojbaaGreat
