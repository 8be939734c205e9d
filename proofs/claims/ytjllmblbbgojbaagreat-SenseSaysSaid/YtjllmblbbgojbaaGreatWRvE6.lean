/- Merged: RvE, RvE6. -/
import Derived.Test.YtjllmblbbgojbaaGreatWRvT
import Derived.Test.YtjllmblbbgojbaaGreatWRvV
import Derived.Test.YtjllmblbbgojbaaGreatWRvU
namespace Go.Proofs.YtjllmblbbgojbaaGreat
open Go.Value renaming int → O, slice → Z, pointer → E, agg → D
open Go.IntKind renaming i64 → Y
open Option renaming none → I
open Go.Obj renaming cells → J
section
open Go.Lib (hid)
set_option maxHeartbeats 8000000
set_option maxRecDepth 100000
set_option linter.unusedVariables false
set_option linter.unusedSimpArgs false
open Go.RowKit
def qD (w0:World) (g:Nat) (v:aZ) (b:Bk) (d:Nat):Prop:=∀ (w:World) (f:Nat) (R:Nat->Prop) (t:fZ) (x:TT),f<d->f<=100000->gY w0 g v b f 0 w->gX g w R->cQ R w t x->bR b 0 x →
 Calls Tryz.prog 26 #[E (some ⟨g,0,I⟩),D (dE t x.1)] w (xG w0 g v b R w (eO b d f x))
def s7 (w0:World) (g:Nat) (v:aZ) (b:Bk) (d:Nat):Prop:=∀ (w:World) (f:Nat) (R:Nat->Prop) (t:fZ) (x:TT) (s:fZ) (a:TT),f<d->f<=100000->gY w0 g v b f 0 w->gX g w R->cQ R w t x->cQ R w s a->jZ b x->jZ b a →
 Calls Tryz.prog 47 #[E (some ⟨g,0,I⟩),D (dE t x.1),D (dE s a.1)] w (xG w0 g v b R w (fB b d f x a))
structure sW (w0:World) (g:Nat) (v:aZ) (b:Bk) (w V0:World) (X:Array Value) (f:Nat) (z:Int) (W:World):Prop where
 st:gY w0 g v b f z W
 mv:aG (fun q=>q=g) I w W
 sz:V0.heap.size<=W.heap.size
 x:aD W w.heap.size 49 X
 r:aD W (w.heap.size+1) 49 #[O Y 0,O Y 0,O Y 0,Z I 0 0,Z I 0 0,Z I 0 0]
section
variable {w0 w V0 W W' : World} {g f f' : Nat} {z z' : Int} {v : aZ} {b : Bk} {X : Array Value} {R : Nat->Prop} {t : fZ} {y : TT}
theorem sW.below (h:sW w0 g v b w V0 X f z W) (hb:Below W.heap.size W W'):sW w0 g v b w V0 X f z W':=⟨h.st.below hb,h.mv.trans (row':=I) (aG.of_below hb) (fun _ e=>by cases e),Nat.le_trans h.sz hb.size,h.x.below hb h.x.lt,h.r.below hb h.r.lt⟩
theorem sW.call (h:sW w0 g v b w V0 X f z W) (hgl:g<w.heap.size) (hm:aG (fun q=>q=g) I W W') (hs:gY w0 g v b f' z' W'):sW w0 g v b w V0 X f' z' W':=⟨hs,h.mv.trans (row':=I) hm (fun _ e=>by cases e),Nat.le_trans h.sz hm.size,h.x.movedO aA hm,h.r.movedO aA hm⟩
theorem cQ.mix2 (h:cQ (aK (aK R V0 W) W W') W' t y) (h1:V0.heap.size<=W.heap.size) (h2:W.heap.size<=W'.heap.size):cQ (aK R V0 W') W' t y:=h.keep fun q hq=>⟨hq.idem h1 h2 (Nat.le_refl _),fun _=>rfl⟩
theorem cQ.mix1 (h:cQ (aK R W W') W' t y) (h1:V0.heap.size<=W.heap.size):cQ (aK R V0 W') W' t y:=h.keep fun q hq=>⟨hq.to h1 (Nat.le_refl _),fun _=>rfl⟩
theorem cQ.inl (h:cQ R W t y):cQ (aK R V0 W) W t y:=h.keep fun q hq=>⟨Or.inl hq,fun _=>rfl⟩
theorem cQ.mixB (h:cQ (aK R V0 W) W t y) (hR:gX g w R) (hw:w.heap.size<=W.heap.size) (hb:Below W.heap.size W W'):cQ (aK R V0 W') W' t y:=h.keep fun q hq=>⟨hq.to (Nat.le_refl _) hb.size,fun o=>hb.cell (p:=⟨q,o,I⟩) (show q<W.heap.size from aK.lt2 hR hw hq)⟩
theorem cQ.mixM (h:cQ (aK R V0 W) W t y) (hR:gX g w R) (hg:g<V0.heap.size) (hw:w.heap.size<=W.heap.size) (hm:aG (fun q=>q=g) I W W'):cQ (aK R V0 W') W' t y:=h.keep fun q hq=>⟨hq.to (Nat.le_refl _) hm.size,fun o=>aH (hm.block q (aK.lt2 hR hw hq) (gX.mixed hR hg hw q hq).2 (by simp)) o⟩
theorem sW.fin {r:RV} (h:sW w0 g v b w V0 X f z W) (hR:gX g w R) (hgl:g<w.heap.size) (hV:V0.heap.size=w.heap.size+2) (ht:cQ (aK R V0 W) W t y)
 (hr:match r with | .ok y0 f'=>y=y0/\gY w0 g v b f' 0 W | .er z=>z ≠ 0/\∃ f',gY w0 g v b f' z W) :
 xG w0 g v b R w r (.returned (D (dE t y.1))) ((((((W.setCell ⟨w.heap.size+1,0,I⟩ (O Y y.1.op)).setCell ⟨w.heap.size+1,1,I⟩ (O Y y.1.a)).setCell ⟨w.heap.size+1,2,I⟩ (O Y y.1.b)).setCell ⟨w.heap.size+1,3,I⟩ (Z t.Ak t.nk t.ck)).setCell ⟨w.heap.size+1,4,I⟩ (Z t.Aa t.na t.ca)).setCell ⟨w.heap.size+1,5,I⟩ (Z t.Af t.nf t.cf)) :=
 eD hR hgl aA aA h.mv ht hr
end
theorem bJ {w:World} {g:Nat} {c0 c1 c2 c3 c4 c5:Value} {tmps:Array Value} (h:aD w g 49 #[c0,c1,c2,c3,c4,c5]) (ht:tmps.getD 4 undef=E (some ⟨g,0,I⟩)) :
 (results Tryz.f26 tmps).run Tryz.prog w=.ok (D #[c0,c1,c2,c3,c4,c5]) w:=by
 have hc:=h.cell;have ht':tmps[4]?.getD undef=E (some ⟨g,0,I⟩):=by rw [<-ht];simp
 simp [results,Tryz.results26,go_sem,ht',hc]
theorem dI {w:World} {g:Nat} {c0 c1 c2 c3 c4 c5:Value} {tmps:Array Value} (h:aD w g 49 #[c0,c1,c2,c3,c4,c5]) (ht:tmps.getD 6 undef=E (some ⟨g,0,I⟩)) :
 (results Tryz.f47 tmps).run Tryz.prog w=.ok (D #[c0,c1,c2,c3,c4,c5]) w:=by
 have hc:=h.cell;have ht':tmps[6]?.getD undef=E (some ⟨g,0,I⟩):=by rw [<-ht];simp
 simp [results,Tryz.results47,go_sem,ht',hc]
theorem pH {w0 w:World} {g f:Nat} {z:Int} {v:aZ} {b:Bk} (hs:gY w0 g v b f z w) (hz:z ≠ 0) (t:fZ) (n:Nd) :
 Calls Tryz.prog 26 #[E (some ⟨g,0,I⟩),D (dE t n)] w (fun e w'=>Below w.heap.size w w'/\e=.returned (D (dE t n))):=by
 obtain ⟨xo,xa,xb⟩:=n;obtain ⟨xA,xn,xc,xB,xm,xd,xC,xp,xe⟩:=t;have hb:=(aB w (J #[O Y xo,O Y xa,O Y xb,Z xA xn xc,Z xB xm xd,Z xC xp xe] 49)).trans ((aB (w.alloc (J #[O Y xo,O Y xa,O Y xb,Z xA xn xc,Z xB xm xd,Z xC xp xe] 49)) (J #[O Y xo,O Y xa,O Y xb,Z xA xn xc,Z xB xm xd,Z xC xp xe] 49)).mono (aB _ _).size);have hs2:=hs.below ((aB w (J #[O Y xo,O Y xa,O Y xb,Z xA xn xc,Z xB xm xd,Z xC xp xe] 49)).trans ((aB (w.alloc (J #[O Y xo,O Y xa,O Y xb,Z xA xn xc,Z xB xm xd,Z xC xp xe] 49)) (J #[O Y 0,O Y 0,O Y 0,Z I 0 0,Z I 0 0,Z I 0 0] 49)).mono (aB _ _).size));have zg:=aD.cell hs2.blk;have HB:=hid hb;have de:(z != 0)=true:=by simpa using hz
 clear hs hz hb;show Calls Tryz.prog 26 #[E (some ⟨g,0,I⟩),D #[O Y xo,O Y xa,O Y xb,Z xA xn xc,Z xB xm xd,Z xC xp xe]] w _;go_in;go_wp2_with fail
 refine bodyPost_ret (v:=D #[O Y xo,O Y xa,O Y xb,Z xA xn xc,Z xB xm xd,Z xC xp xe]) ?_ rfl ?_
 · exact bJ (g:=w.heap.size+1) (aD.new' (by simp)) (by simp)
 exact ⟨HB.o,rfl⟩
theorem lQ {w0 w:World} {g f:Nat} {z:Int} {v:aZ} {b:Bk} (hs:gY w0 g v b f z w) (hz:z ≠ 0) (t s:fZ) (n m:Nd) :
 Calls Tryz.prog 47 #[E (some ⟨g,0,I⟩),D (dE t n),D (dE s m)] w (fun e w'=>Below w.heap.size w w'/\e=.returned (D (dE t n))):=by
 obtain ⟨xo,xa,xb⟩:=n;obtain ⟨xA,xn,xc,xB,xm,xd,xC,xp,xe⟩:=t;obtain ⟨uo,ua,ub⟩:=m;obtain ⟨uA,un,uc,uB,um,ud,uC,up,ue⟩:=s;have hb1:=aS w (J #[O Y xo,O Y xa,O Y xb,Z xA xn xc,Z xB xm xd,Z xC xp xe] 49) (J #[O Y uo,O Y ua,O Y ub,Z uA un uc,Z uB um ud,Z uC up ue] 49);have hb:=hb1.alloc hb1.size (J #[O Y xo,O Y xa,O Y xb,Z xA xn xc,Z xB xm xd,Z xC xp xe] 49);have hs2:=hs.below (hb1.alloc hb1.size (J #[O Y 0,O Y 0,O Y 0,Z I 0 0,Z I 0 0,Z I 0 0] 49));have zg:=aD.cell hs2.blk;have HB:=hid hb;have de:(z != 0)=true:=by simpa using hz
 clear hs hz hb hb1;show Calls Tryz.prog 47 #[E (some ⟨g,0,I⟩),D #[O Y xo,O Y xa,O Y xb,Z xA xn xc,Z xB xm xd,Z xC xp xe],D #[O Y uo,O Y ua,O Y ub,Z uA un uc,Z uB um ud,Z uC up ue]] w _;go_in;go_wp2_with fail
 refine bodyPost_ret (v:=D #[O Y xo,O Y xa,O Y xb,Z xA xn xc,Z xB xm xd,Z xC xp xe]) ?_ rfl ?_
 · exact dI (g:=w.heap.size+1+1) (aD.new' (by simp)) (by simp)
 exact ⟨HB.o,rfl⟩
theorem FU {w0:World} {g:Nat} {v:aZ} {b:Bk} {d:Nat} (hr:bY b=0) (hb:bM w0 v b) (H:qD w0 g v b d) (HG:s7 w0 g v b d) {w:World} {m:Nat} {R:Nat->Prop} {t:fZ} {x:TT} (hmd:m<d) (hm1:m<=100000) (hw:gY w0 g v b (m+1) 0 w) (hR:gX g w R) (ht:cQ R w t x) (fx:bR b 0 x) (hv:cJ x=true) (hop:True) :
 Calls Tryz.prog 26 #[E (some ⟨g,0,I⟩),D (dE t x.1)] w (xG w0 g v b R w (eO b (d+1) (m+1) x)):=by
 obtain ⟨⟨xo,xa,xb⟩,xat,xk⟩:=x;obtain ⟨xA,xn,xc,xB,xm,xd,xC,xp,xe⟩:=t;have hres:eO b (d+1) (m+1) ((⟨xo,xa,xb⟩:Nd),xat,xk)=.ok ((⟨xo,xa,xb⟩:Nd),xat,xk) m:=by rw [gZ];simp only [iC,hv,if_true]
 obtain ⟨res,hr0⟩ : ∃ r,r=eO b (d+1) (m+1) ((⟨xo,xa,xb⟩:Nd),xat,xk):=⟨_,rfl⟩;rw [<-hr0] at hres ⊢;have HRZ:=hid hres;clear hres hr0 hop;obtain ⟨F,hF⟩ : ∃ F:Int,F=((m+1:Nat):Int):=⟨_,rfl⟩;have f0:decide (F=0)=false:=decide_eq_false aA;have f0':(F==0)=false:=by rw [beq_eq_false_iff_ne];omega
 have f1:IntKind.i64.wrap (F-1)=(m:Int):=by rw [IntKind.wrap_i64];omega
 have hgl:=hw.lt;have hba:=aS w (J #[O Y xo,O Y xa,O Y xb,Z xA xn xc,Z xB xm xd,Z xC xp xe] 49) (J #[O Y 0,O Y 0,O Y 0,Z I 0 0,Z I 0 0,Z I 0 0] 49);have hw1:=hw.below hba;have zg:=aD.cell hw1.blk;have zgf:=aD.frozen hw1.blk;rw [<-hF] at zg;obtain ⟨hw2,hm2⟩:=hw.fuel m;have hsz:(w.setCell ⟨g,5,I⟩ (O Y (m:Int))).heap.size=w.heap.size:=by simp
 have hbb:=aS (w.setCell ⟨g,5,I⟩ (O Y (m:Int))) (J #[O Y xo,O Y xa,O Y xb,Z xA xn xc,Z xB xm xd,Z xC xp xe] 49) (J #[O Y 0,O Y 0,O Y 0,Z I 0 0,Z I 0 0,Z I 0 0] 49);have hmv:=hm2.trans (row':=I) (aG.of_below (S:=fun q=>q=g) (row:=I) hbb) (fun _ e=>by cases e);have HIV:=hid (jV (hR.moved hmv.size).lt (ht.movedO hR hmv) fx.rt);obtain ⟨V0,hV0⟩ : ∃ V0:World,V0.heap.size=w.heap.size+2:=⟨((w.alloc (J #[O Y xo,O Y xa,O Y xb,Z xA xn xc,Z xB xm xd,Z xC xp xe] 49)).alloc (J #[O Y 0,O Y 0,O Y 0,Z I 0 0,Z I 0 0,Z I 0 0] 49)),by simp⟩;have HV0:=hid hV0;have HA1:Hid (sW w0 g v b w V0 #[O Y xo,O Y xa,O Y xb,Z xA xn xc,Z xB xm xd,Z xC xp xe] m 0 (((w.setCell ⟨g,5,I⟩ (O Y (m:Int))).alloc (J #[O Y xo,O Y xa,O Y xb,Z xA xn xc,Z xB xm xd,Z xC xp xe] 49)).alloc (J #[O Y 0,O Y 0,O Y 0,Z I 0 0,Z I 0 0,Z I 0 0] 49))):=hid ⟨hw2.below hbb,hmv,by rw [hV0];simp,(aD.new' hsz.symm).alloc _,aD.new' (by simp)⟩;have HRO:=hid hR;have HL:=hid hgl;have HT:=hid ht;have HFX:=hid fx;have HFT:=hid (eW (b:=b) hr d);have HH:=hid H;have HHG:=hid HG;rw [hv] at HIV;clear hw hw1 hw2 hm2 hmv hba hbb hsz hF hR ht fx hv H HG hV0 hr;show Calls Tryz.prog 26 #[E (some ⟨g,0,I⟩),D #[O Y xo,O Y xa,O Y xb,Z xA xn xc,Z xB xm xd,Z xC xp xe]] w _;go_in;go_wp2_with fail
 refine (HIV.o).mono ?_;rintro e w2 ⟨rfl,hb2⟩;have HA:=hid (HA1.o.below hb2);have zx:=aD.cell HA.o.x;clear hb2 zg zgf f0 f0' f1 HA1 HIV;have zz:=aD.cell HA.o.r;have zf:=aD.frozen HA.o.r;go_wp2_with fail
 refine bodyPost_ret (v:=D #[O Y xo,O Y xa,O Y xb,Z xA xn xc,Z xB xm xd,Z xC xp xe]) ?_ rfl ?_
 · exact bJ (g:=w.heap.size+1) (aW HA.o.r _ _ _ _ _ _) (by simp)
 rw [HRZ.o];exact HA.o.fin (t:=⟨xA,xn,xc,xB,xm,xd,xC,xp,xe⟩) (y:=((⟨xo,xa,xb⟩:Nd),xat,xk)) HRO.o HL.o HV0.o (cQ.inl (HT.o.movedO HRO.o HA.o.mv)) ⟨rfl,HA.o.st⟩
theorem CF {w0:World} {g:Nat} {v:aZ} {b:Bk} {w:World} {R:Nat->Prop} {t:fZ} {x:TT} (hw:gY w0 g v b 0 0 w) (hR:gX g w R) :
 Calls Tryz.prog 26 #[E (some ⟨g,0,I⟩),D (dE t x.1)] w (xG w0 g v b R w (.er 10)):=by
 obtain ⟨⟨xo,xa,xb⟩,xat,xk⟩:=x;obtain ⟨xA,xn,xc,xB,xm,xd,xC,xp,xe⟩:=t;have hgl:=hw.lt;have hba:=aS w (J #[O Y xo,O Y xa,O Y xb,Z xA xn xc,Z xB xm xd,Z xC xp xe] 49) (J #[O Y 0,O Y 0,O Y 0,Z I 0 0,Z I 0 0,Z I 0 0] 49);have hw1:=hw.below hba;have zg:=aD.cell hw1.blk;obtain ⟨V0,hV0⟩ : ∃ V0:World,V0.heap.size=w.heap.size+2:=⟨((w.alloc (J #[O Y xo,O Y xa,O Y xb,Z xA xn xc,Z xB xm xd,Z xC xp xe] 49)).alloc (J #[O Y 0,O Y 0,O Y 0,Z I 0 0,Z I 0 0,Z I 0 0] 49)),by simp⟩;have HV0:=hid hV0;have HA:Hid (sW w0 g v b w V0 #[O Y xo,O Y xa,O Y xb,Z xA xn xc,Z xB xm xd,Z xC xp xe] 0 0 ((w.alloc (J #[O Y xo,O Y xa,O Y xb,Z xA xn xc,Z xB xm xd,Z xC xp xe] 49)).alloc (J #[O Y 0,O Y 0,O Y 0,Z I 0 0,Z I 0 0,Z I 0 0] 49))):=hid ⟨hw1,aG.of_below hba,by rw [hV0];simp,(aD.new _ _ _).alloc _,aD.new' (by simp)⟩;have HRO:=hid hR;have HL:=hid hgl;obtain ⟨res,hres⟩ : ∃ r,r=RV.er 10:=⟨_,rfl⟩;rw [<-hres];have HRZ:=hid hres;clear hw hw1 hba hR hV0 hres;show Calls Tryz.prog 26 #[E (some ⟨g,0,I⟩),D #[O Y xo,O Y xa,O Y xb,Z xA xn xc,Z xB xm xd,Z xC xp xe]] w _;go_in;go_wp2_with fail
 refine (fQ HA.o.st 10 (by decide) (aK R V0 ((w.alloc (J #[O Y xo,O Y xa,O Y xb,Z xA xn xc,Z xB xm xd,Z xC xp xe] 49)).alloc (J #[O Y 0,O Y 0,O Y 0,Z I 0 0,Z I 0 0,Z I 0 0] 49)))).mono ?_;rintro e w9 ⟨hm9,⟨yA,yn,yc,yB,ym,yd,yC,yp,ye⟩,⟨⟨yo,ya,yb⟩,yat,yk⟩,rfl,ht9,hr9⟩;have HZ9:=hid (HA.o.r.movedO (by have:=HL.o;omega) hm9);have HM9:=hid (HA.o.mv.trans (row':=I) hm9 (fun _ e=>by cases e));have HT9:=hid (cQ.mix2 ht9 HA.o.sz hm9.size);have HR9:=hid hr9;have zz:=aD.cell HZ9.o;have zf:=aD.frozen HZ9.o;clear hm9 ht9 hr9;go_wp2_with fail
 refine bodyPost_ret (v:=D #[O Y yo,O Y ya,O Y yb,Z yA yn yc,Z yB ym yd,Z yC yp ye]) ?_ rfl ?_
 · exact bJ (g:=w.heap.size+1) (aW HZ9.o _ _ _ _ _ _) (by simp)
 rw [HRZ.o];exact eD (V:=V0) (t:=⟨yA,yn,yc,yB,ym,yd,yC,yp,ye⟩) (y:=((⟨yo,ya,yb⟩:Nd),yat,yk)) HRO.o HL.o aA (by have:=HV0.o;omega) HM9.o HT9.o HR9.o
end
section
open Go.Lib (hid)
open Go.RowKit
set_option linter.unusedSimpArgs false in
set_option linter.unusedVariables false in
set_option maxRecDepth 100000 in
set_option maxHeartbeats 8000000 in
theorem FR {w0:World} {g:Nat} {v:aZ} {b:Bk} {d:Nat} (hr:bY b=0) (hb:bM w0 v b) (H:qD w0 g v b d) (HG:s7 w0 g v b d) {w:World} {m:Nat} {R:Nat->Prop} {t:fZ} {x:TT} (hmd:m<d) (hm1:m<=100000) (hw:gY w0 g v b (m+1) 0 w) (hR:gX g w R) (ht:cQ R w t x) (fx:bR b 0 x) (hv:cJ x=false) (hop:x.1.op=6) :
 Calls Tryz.prog 26 #[E (some ⟨g,0,I⟩),D (dE t x.1)] w (xG w0 g v b R w (eO b (d+1) (m+1) x)):=by
 obtain ⟨p,q,hk⟩:=jP fx.okt (.inl hop);have hz:∀ k:Int,aC x.1.op x.1.b k=0:=dS aA aA aA aA;have fp:bR b 0 p:=fx.kid0 (i:=0) (by rw [hk];rfl) (hz _);have fq:bR b 0 q:=fx.kid0 (i:=1) (by rw [hk];rfl) (hz _);have hres:eO b (d+1) (m+1) x=(eO b d m p).bind fun g f1=>(eO b d f1 q).bind fun a f2=>fB b d f2 g a:=by
  rw [gZ];simp only [iC,hv,Bool.false_eq_true,if_false];rw [if_neg aA,if_neg aA,if_neg aA,hk]
 have hnk:=ht.nk;rw [hk] at hnk;obtain ⟨bkp,okp,⟨pA,pn,pc,pB,pm,pd,pC,pp,pe⟩,hAp,hRp,hcp,htp⟩:=ht.kid (j:=0) (by rw [hnk];simp);rw [show cT x.2.2 0=p from by unfold cT;rw [hk];rfl] at hcp htp;obtain ⟨bkq,okq,⟨qA,qn,qc,qB,qm,qd,qC,qp,qe⟩,hAq,hRq,hcq,htq⟩:=ht.kid (j:=1) (by rw [hnk];simp);rw [show cT x.2.2 1=q from by unfold cT;rw [hk];rfl] at hcq htq;obtain ⟨rfl,rfl⟩:bkp=bkq/\okp=okq:=by rw [hAp] at hAq;injection hAq with e;injection e with e1 e2;exact ⟨e1,e2⟩
 rw [Nat.zero_mul,Nat.add_zero] at hcp;rw [Nat.one_mul] at hcq;have HCp:=hid hcp;have HTp:=hid htp;have HRp:=hid hRp;have HCq:=hid hcq;have HTq:=hid htq;have HRq:=hid hRq;have HFP:=hid fp;have HFQ:=hid fq;have HA0:=hid hAp;obtain ⟨res,hr0⟩ : ∃ r,r=eO b (d+1) (m+1) x:=⟨_,rfl⟩;rw [<-hr0] at hres ⊢;have HRES:=hid hres;clear hres hr0 hAq hcp hcq htp htq hRp hRq fp fq hk hz;obtain ⟨⟨xo,xa,xb⟩,xat,xk⟩:=x;obtain ⟨xA,xn,xc,xB,xm,xd,xC,xp,xe⟩:=t;simp only at hop hnk HA0;have HOP:=hid hop;have HNK:=hid hnk;clear hAp hnk hop;obtain ⟨F,hF⟩ : ∃ F:Int,F=((m+1:Nat):Int):=⟨_,rfl⟩;have f0:decide (F=0)=false:=decide_eq_false aA;have f0':(F==0)=false:=by rw [beq_eq_false_iff_ne];omega
 have f1:IntKind.i64.wrap (F-1)=(m:Int):=by rw [IntKind.wrap_i64];omega
 have hgl:=hw.lt;have hba:=aS w (J #[O Y xo,O Y xa,O Y xb,Z xA xn xc,Z xB xm xd,Z xC xp xe] 49) (J #[O Y 0,O Y 0,O Y 0,Z I 0 0,Z I 0 0,Z I 0 0] 49);have hw1:=hw.below hba;have zg:=aD.cell hw1.blk;have zgf:=aD.frozen hw1.blk;rw [<-hF] at zg;obtain ⟨hw2,hm2⟩:=hw.fuel m;have hsz:(w.setCell ⟨g,5,I⟩ (O Y (m:Int))).heap.size=w.heap.size:=by simp
 have hbb:=aS (w.setCell ⟨g,5,I⟩ (O Y (m:Int))) (J #[O Y xo,O Y xa,O Y xb,Z xA xn xc,Z xB xm xd,Z xC xp xe] 49) (J #[O Y 0,O Y 0,O Y 0,Z I 0 0,Z I 0 0,Z I 0 0] 49);have hmv:=hm2.trans (row':=I) (aG.of_below (S:=fun q=>q=g) (row:=I) hbb) (fun _ e=>by cases e);have HIV:=hid (jV (hR.moved hmv.size).lt (ht.movedO hR hmv) fx.rt);obtain ⟨V0,hV0⟩ : ∃ V0:World,V0.heap.size=w.heap.size+2:=⟨((w.alloc (J #[O Y xo,O Y xa,O Y xb,Z xA xn xc,Z xB xm xd,Z xC xp xe] 49)).alloc (J #[O Y 0,O Y 0,O Y 0,Z I 0 0,Z I 0 0,Z I 0 0] 49)),by simp⟩;have HV0:=hid hV0;have HA1:Hid (sW w0 g v b w V0 #[O Y xo,O Y xa,O Y xb,Z xA xn xc,Z xB xm xd,Z xC xp xe] m 0 (((w.setCell ⟨g,5,I⟩ (O Y (m:Int))).alloc (J #[O Y xo,O Y xa,O Y xb,Z xA xn xc,Z xB xm xd,Z xC xp xe] 49)).alloc (J #[O Y 0,O Y 0,O Y 0,Z I 0 0,Z I 0 0,Z I 0 0] 49))):=hid ⟨hw2.below hbb,hmv,by rw [hV0];simp,(aD.new' hsz.symm).alloc _,aD.new' (by simp)⟩;have HRO:=hid hR;have HL:=hid hgl;have HT:=hid ht;have HFX:=hid fx;have HFT:=hid (eW (b:=b) hr d);have HH:=hid H;have HHG:=hid HG;rw [hv] at HIV;clear hw hw1 hw2 hm2 hmv hba hbb hsz hF hR ht fx hv H HG hV0 hr;show Calls Tryz.prog 26 #[E (some ⟨g,0,I⟩),D #[O Y xo,O Y xa,O Y xb,Z xA xn xc,Z xB xm xd,Z xC xp xe]] w _;go_in;go_wp2_with fail
 refine (HIV.o).mono ?_;rintro e w2 ⟨rfl,hb2⟩;have HA:=hid (HA1.o.below hb2);have zx:=aD.cell HA.o.x;clear hb2 zg zgf f0 f0' f1 HA1 HIV;obtain rfl:=HOP.o;obtain rfl:xA=some ⟨bkp,okp,I⟩:=HA0.o;obtain rfl:xn=2:=HNK.o;have HTX:=hid HT.o;obtain ⟨po,pa,pb,pat,pk,rfl⟩ : ∃ o a b c k,p=((⟨o,a,b⟩:Nd),c,k):=⟨p.1.op,p.1.a,p.1.b,p.2.1,p.2.2,rfl⟩;obtain ⟨qo,qa,qb,qat,qk,rfl⟩ : ∃ o a b c k,q=((⟨o,a,b⟩:Nd),c,k):=⟨q.1.op,q.1.a,q.1.b,q.2.1,q.2.2,rfl⟩;have zkp:=HCp.o.movedO (HRO.o _ HRp.o).1 (HRO.o _ HRp.o).2 HA.o.mv;obtain ⟨p0,p1,p2,p3,p4,p5⟩:=zkp;simp only at p0 p1 p2 p3 p4 p5;have HC:=hid (HH.o w2 m R ⟨pA,pn,pc,pB,pm,pd,pC,pp,pe⟩ ((⟨po,pa,pb⟩:Nd),pat,pk) hmd hm1 HA.o.st (HRO.o.moved HA.o.mv.size) (HTp.o.movedO HRO.o HA.o.mv) HFP.o);have HFT1:=hid (HFT.o.1 m ((⟨po,pa,pb⟩:Nd),pat,pk));cases hE:eO b d m ((⟨po,pa,pb⟩:Nd),pat,pk) with
 | er z =>
  rw [hE] at HC HRES;have HRZ:Hid (res=.er z):=HRES;clear hE HRES;go_wp2_with fail
  refine (HC.o).mono ?_;rintro e w3 ⟨hm3,⟨yA,yn,yc,yB,ym,yd,yC,yp,ye⟩,⟨⟨yo,ya,yb⟩,yat,yk⟩,rfl,ht3,hz3,f3,hs3⟩;have HA3:=hid (HA.o.call HL.o hm3 hs3);have hba:=aB w3 (J #[O Y yo,O Y ya,O Y yb,Z yA yn yc,Z yB ym yd,Z yC yp ye] 49);have HA4:=hid (HA3.o.below hba);have HY4:=hid (((ht3.mix1 HA.o.sz:cQ (aK R V0 w3) w3 _ _)).mixB (V0:=V0) HRO.o HA3.o.mv.size hba);have HK4:=hid (aD.new w3 49 #[O Y yo,O Y ya,O Y yb,Z yA yn yc,Z yB ym yd,Z yC yp ye]);have zx4:=aD.cell HA4.o.x;have HZ3:=hid hz3;have zkq:=HCq.o.movedO (HRO.o _ HRq.o).1 (HRO.o _ HRq.o).2 HA4.o.mv;obtain ⟨q0,q1,q2,q3,q4,q5⟩:=zkq;simp only at q0 q1 q2 q3 q4 q5;clear hm3 ht3 hs3 hba zx hz3 p0 p1 p2 p3 p4 p5;go_wp2_with fail
  refine (pH HA4.o.st HZ3.o ⟨qA,qn,qc,qB,qm,qd,qC,qp,qe⟩ ⟨qo,qa,qb⟩).mono ?_;rintro e w5 ⟨hb5,rfl⟩;have hb6:=hb5.trans ((aB w5 (J #[O Y qo,O Y qa,O Y qb,Z qA qn qc,Z qB qm qd,Z qC qp qe] 49)).mono hb5.size);have HA6:=hid (HA4.o.below hb6);have HY6:=hid (HY4.o.mixB HRO.o HA4.o.mv.size hb6);have HK6:=hid (HK4.o.below hb6 HK4.o.lt);have zy6:=aD.cell HK6.o;have zq6:=aD.cell (aD.new w5 49 #[O Y qo,O Y qa,O Y qb,Z qA qn qc,Z qB qm qd,Z qC qp qe]);clear hb5 hb6 zx4 q0 q1 q2 q3 q4 q5;go_wp2_with fail
  refine (lQ HA6.o.st HZ3.o ⟨yA,yn,yc,yB,ym,yd,yC,yp,ye⟩ ⟨qA,qn,qc,qB,qm,qd,qC,qp,qe⟩ ⟨yo,ya,yb⟩ ⟨qo,qa,qb⟩).mono ?_;rintro e w7 ⟨hb7,rfl⟩;have HA7:=hid (HA6.o.below hb7);have HY7:=hid (HY6.o.mixB HRO.o HA6.o.mv.size hb7);clear hb7 zy6 zq6;have zz:=aD.cell HA7.o.r;have zf:=aD.frozen HA7.o.r;go_wp2_with fail
  refine bodyPost_ret (v:=D #[O Y yo,O Y ya,O Y yb,Z yA yn yc,Z yB ym yd,Z yC yp ye]) ?_ rfl ?_
  · exact bJ (g:=w.heap.size+1) (aW HA7.o.r _ _ _ _ _ _) (by simp)
  rw [HRZ.o];exact HA7.o.fin (t:=⟨yA,yn,yc,yB,ym,yd,yC,yp,ye⟩) (y:=((⟨yo,ya,yb⟩:Nd),yat,yk)) HRO.o HL.o HV0.o HY7.o ⟨HZ3.o,f3,HA7.o.st⟩
 | ok u f1 =>
  rw [hE] at HC HRES;have HF1:=hid (HFT1.o u f1 HFP.o hE);have hf1:=HF1.o.2;have HRES2:Hid (res=(eO b d f1 ((⟨qo,qa,qb⟩:Nd),qat,qk)).bind fun a f2=>fB b d f2 u a):=HRES;clear hE HRES;go_wp2_with fail
  refine (HC.o).mono ?_;rintro e w3 ⟨hm3,⟨yA,yn,yc,yB,ym,yd,yC,yp,ye⟩,⟨⟨yo,ya,yb⟩,yat,yk⟩,rfl,ht3,hy3,hs3⟩;subst hy3;have HA3:=hid (HA.o.call HL.o hm3 hs3);have hba:=aB w3 (J #[O Y yo,O Y ya,O Y yb,Z yA yn yc,Z yB ym yd,Z yC yp ye] 49);have HA4:=hid (HA3.o.below hba);have HY4:=hid (((ht3.mix1 HA.o.sz:cQ (aK R V0 w3) w3 _ _)).mixB (V0:=V0) HRO.o HA3.o.mv.size hba);have HK4:=hid (aD.new w3 49 #[O Y yo,O Y ya,O Y yb,Z yA yn yc,Z yB ym yd,Z yC yp ye]);have zx4:=aD.cell HA4.o.x;have zkq:=HCq.o.movedO (HRO.o _ HRq.o).1 (HRO.o _ HRq.o).2 HA4.o.mv;obtain ⟨q0,q1,q2,q3,q4,q5⟩:=zkq;simp only at q0 q1 q2 q3 q4 q5;have HC2:=hid (HH.o (w3.alloc (J #[O Y yo,O Y ya,O Y yb,Z yA yn yc,Z yB ym yd,Z yC yp ye] 49)) f1 R ⟨qA,qn,qc,qB,qm,qd,qC,qp,qe⟩ ((⟨qo,qa,qb⟩:Nd),qat,qk) aA aA HA4.o.st (HRO.o.moved HA4.o.mv.size) (HTq.o.movedO HRO.o HA4.o.mv) HFQ.o);have HFT2:=hid (HFT.o.1 f1 ((⟨qo,qa,qb⟩:Nd),qat,qk));have hne3:w3.heap.size ≠ g:=by have:=HL.o;have:=HA3.o.mv.size;omega
  have HNE:=hid hne3;clear hm3 ht3 hs3 hba zx hne3 p0 p1 p2 p3 p4 p5;cases hE:eO b d f1 ((⟨qo,qa,qb⟩:Nd),qat,qk) with
  | er z =>
   rw [hE] at HC2 HRES2;have HRZ:Hid (res=.er z):=HRES2;clear hE HRES2;go_wp2_with fail
   refine (HC2.o).mono ?_;rintro e w5 ⟨hm5,⟨cA,cn,cc,cB,cm,cd,cC,cp,ce⟩,⟨⟨co,ca,cb⟩,cat,ck⟩,rfl,ht5,hz5,f5,hs5⟩;have HA5:=hid (HA4.o.call HL.o hm5 hs5);have hba:=aB w5 (J #[O Y co,O Y ca,O Y cb,Z cA cn cc,Z cB cm cd,Z cC cp ce] 49);have HA6:=hid (HA5.o.below hba);have HY6:=hid ((HY4.o.mixM HRO.o (by have:=HV0.o;have:=HL.o;omega) HA4.o.mv.size hm5).mixB HRO.o HA5.o.mv.size hba);have HK6:=hid ((HK4.o.movedO HNE.o hm5).below hba (HK4.o.movedO HNE.o hm5).lt);have zy6:=aD.cell HK6.o;have zc6:=aD.cell (aD.new w5 49 #[O Y co,O Y ca,O Y cb,Z cA cn cc,Z cB cm cd,Z cC cp ce]);have HZ5:=hid hz5;clear hm5 ht5 hs5 hba zx4 hz5 q0 q1 q2 q3 q4 q5;go_wp2_with fail
   refine (lQ HA6.o.st HZ5.o ⟨yA,yn,yc,yB,ym,yd,yC,yp,ye⟩ ⟨cA,cn,cc,cB,cm,cd,cC,cp,ce⟩ ⟨yo,ya,yb⟩ ⟨co,ca,cb⟩).mono ?_;rintro e w7 ⟨hb7,rfl⟩;have HA7:=hid (HA6.o.below hb7);have HY7:=hid (HY6.o.mixB HRO.o HA6.o.mv.size hb7);clear hb7 zy6 zc6;have zz:=aD.cell HA7.o.r;have zf:=aD.frozen HA7.o.r;go_wp2_with fail
   refine bodyPost_ret (v:=D #[O Y yo,O Y ya,O Y yb,Z yA yn yc,Z yB ym yd,Z yC yp ye]) ?_ rfl ?_
   · exact bJ (g:=w.heap.size+1) (aW HA7.o.r _ _ _ _ _ _) (by simp)
   rw [HRZ.o];exact HA7.o.fin (t:=⟨yA,yn,yc,yB,ym,yd,yC,yp,ye⟩) (y:=((⟨yo,ya,yb⟩:Nd),yat,yk)) HRO.o HL.o HV0.o HY7.o ⟨HZ5.o,f5,HA7.o.st⟩
  | ok a f2 =>
   rw [hE] at HC2 HRES2;have HF2:=hid (HFT2.o a f2 HFQ.o hE);have hf2:=HF2.o.2;have HRES3:Hid (res=fB b d f2 ((⟨yo,ya,yb⟩:Nd),yat,yk) a):=HRES2;clear hE HRES2;go_wp2_with fail
   refine (HC2.o).mono ?_;rintro e w5 ⟨hm5,⟨cA,cn,cc,cB,cm,cd,cC,cp,ce⟩,⟨⟨co,ca,cb⟩,cat,ck⟩,rfl,ht5,hc5,hs5⟩;subst hc5;have HRZ:=HRES3;have HA5:=hid (HA4.o.call HL.o hm5 hs5);have hba:=aB w5 (J #[O Y co,O Y ca,O Y cb,Z cA cn cc,Z cB cm cd,Z cC cp ce] 49);have HA6:=hid (HA5.o.below hba);have HY6:=hid ((HY4.o.mixM HRO.o (by have:=HV0.o;have:=HL.o;omega) HA4.o.mv.size hm5).mixB HRO.o HA5.o.mv.size hba);have HC6:=hid (((ht5.mix1 HA4.o.sz:cQ (aK R V0 w5) w5 _ _)).mixB (V0:=V0) HRO.o HA5.o.mv.size hba);have HK6:=hid ((HK4.o.movedO HNE.o hm5).below hba (HK4.o.movedO HNE.o hm5).lt);have zy6:=aD.cell HK6.o;have zc6:=aD.cell (aD.new w5 49 #[O Y co,O Y ca,O Y cb,Z cA cn cc,Z cB cm cd,Z cC cp ce]);clear hm5 ht5 hs5 hba zx4 q0 q1 q2 q3 q4 q5;go_wp2_with fail
   refine (HHG.o (w5.alloc (J #[O Y co,O Y ca,O Y cb,Z cA cn cc,Z cB cm cd,Z cC cp ce] 49)) f2 (aK R V0 (w5.alloc (J #[O Y co,O Y ca,O Y cb,Z cA cn cc,Z cB cm cd,Z cC cp ce] 49))) ⟨yA,yn,yc,yB,ym,yd,yC,yp,ye⟩ ((⟨yo,ya,yb⟩:Nd),yat,yk) ⟨cA,cn,cc,cB,cm,cd,cC,cp,ce⟩ ((⟨co,ca,cb⟩:Nd),cat,ck) aA aA HA6.o.st (gX.mixed HRO.o (by have:=HV0.o;have:=HL.o;omega) HA6.o.mv.size) HY6.o HC6.o HF1.o.1 HF2.o.1).mono ?_;rintro e w9 ⟨hm9,⟨eA,en,ec,eB,em,ed,eC,ep,ee⟩,⟨⟨eo,ea,eb⟩,eat,ek⟩,rfl,ht9,hr9⟩;have HZ9:=hid (HA6.o.r.movedO (by have:=HL.o;omega) hm9);have HM9:=hid (HA6.o.mv.trans (row':=I) hm9 (fun _ e=>by cases e));have HT9:=hid (cQ.mix2 ht9 HA6.o.sz hm9.size);have HR9:=hid hr9;have zz:=aD.cell HZ9.o;have zf:=aD.frozen HZ9.o;clear hm9 ht9 hr9;go_wp2_with fail
   refine bodyPost_ret (v:=D #[O Y eo,O Y ea,O Y eb,Z eA en ec,Z eB em ed,Z eC ep ee]) ?_ rfl ?_
   · exact bJ (g:=w.heap.size+1) (aW HZ9.o _ _ _ _ _ _) (by simp)
   rw [HRZ.o];exact eD (V:=V0) (t:=⟨eA,en,ec,eB,em,ed,eC,ep,ee⟩) (y:=((⟨eo,ea,eb⟩:Nd),eat,ek)) HRO.o HL.o aA (by have:=HV0.o;omega) HM9.o HT9.o HR9.o
end
end Go.Proofs.YtjllmblbbgojbaaGreat
