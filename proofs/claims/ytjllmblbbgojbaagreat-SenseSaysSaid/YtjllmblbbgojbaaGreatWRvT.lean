/- The reference's evaluator: its state; fail, put, sized. -/
import Derived.Test.YtjllmblbbgojbaaGreatWRvO
import Derived.Test.YtjllmblbbgojbaaGreatWSenseK
namespace Go.Proofs.YtjllmblbbgojbaaGreat
open Go.Value renaming int → O, slice → Z, pointer → E
open Go.IntKind renaming i64 → Y
open Option renaming none → I
open Go.Obj renaming cells → J
open Go.Lib (hid)
set_option maxHeartbeats 8000000
set_option maxRecDepth 100000
set_option linter.unusedVariables false
set_option linter.unusedSimpArgs false
open Go.RowKit
structure gY (w0:World) (g:Nat) (v:aZ) (b:Bk) (f:Nat) (z:Int) (w:World):Prop where
 bel:Below w0.heap.size w0 w
 blk:aD w g 62 #[O Y b.vars,Z v.Ao v.no v.co,Z v.Ae v.ne v.ce,O Y b.nat,Z v.Ap v.np v.cp,O Y (f:Int),O Y z]
 ge:w0.heap.size<=g
def xG (w0:World) (g:Nat) (v:aZ) (b:Bk) (R:Nat->Prop) (w:World) (r:RV) (e:Ending) (w':World):Prop:=aG (fun q=>q=g) I w w'/\∃ (t:fZ) (y:TT),e=.returned (.agg (dE t y.1))/\cQ (aK R w w') w' t y/\match r with
 | .ok y0 f'=>y=y0/\gY w0 g v b f' 0 w'
 | .er z=>z ≠ 0/\∃ f',gY w0 g v b f' z w'
section
variable {w0 w w' w1 : World} {g f : Nat} {z : Int} {v : aZ} {b : Bk} {t : fZ} {x : TT} {r : RV} {e : Ending}
theorem gY.lt (h:gY w0 g v b f z w):g<w.heap.size:=h.blk.lt
theorem gY.below (h:gY w0 g v b f z w) (hb:Below w.heap.size w w'):gY w0 g v b f z w':=⟨h.bel.trans (hb.mono h.bel.size),h.blk.below hb h.blk.lt,h.ge⟩
theorem gY.drew (h:gY w0 g v b f z w):gY w0 g v b f z w.drew:=⟨aI h.bel 1,h.blk.drewN 1,h.ge⟩
def gX (g:Nat) (w:World) (R:Nat->Prop):Prop:=∀ q,R q->q<w.heap.size/\q ≠ g
theorem aK.lt2 {R:Nat->Prop} {q:Nat} (hR:gX g w R) (hs:w.heap.size<=w'.heap.size) (h:aK R w1 w' q):q<w'.heap.size:=by
 rcases h with h | h
 · exact Nat.lt_of_lt_of_le (hR q h).1 hs
 exact h.2
theorem gX.lt {R:Nat->Prop} (h:gX g w R) : ∀ q,R q->q<w.heap.size:=fun q hq=>(h q hq).1
theorem gX.moved {R:Nat->Prop} (h:gX g w R) (hs:w.heap.size<=w'.heap.size):gX g w' R:=fun q hq=>⟨Nat.lt_of_lt_of_le (h q hq).1 hs,(h q hq).2⟩
theorem gX.mixed {R:Nat->Prop} (h:gX g w R) (hg:g<w1.heap.size) (hs:w.heap.size<=w'.heap.size):gX g w' (aK R w1 w'):=fun q hq=>by
 rcases hq with hq | hq
 · exact ⟨Nat.lt_of_lt_of_le (h q hq).1 hs,(h q hq).2⟩
 exact ⟨hq.2,by have:=hq.1;omega⟩
theorem cQ.movedO {R:Nat->Prop} (h:cQ R w t x) (hR:gX g w R) (hm:aG (fun q=>q=g) I w w'):cQ R w' t x:=h.keep fun q hq=>⟨hq,fun o=>aH (hm.block _ (hR q hq).1 (hR q hq).2 (by simp)) o⟩
theorem dR.movedO {R:Nat->Prop} {A:Option Addr} {n c:Nat} {F:Fo} (h:dR R w A n c F) (hR:gX g w R) (hm:aG (fun q=>q=g) I w w'):dR R w' A n c F:=h.keep fun q hq=>⟨hq,fun o=>aH (hm.block _ (hR q hq).1 (hR q hq).2 (by simp)) o⟩
theorem aD.movedO {q:Nat} {T:TypeId} {cs:Array Value} (h:aD w q T cs) (hq:q ≠ g) (hm:aG (fun q=>q=g) I w w'):aD w' q T cs:=by
 have:=hm.block q h.lt hq (by simp);unfold aD at h ⊢;rw [this];exact h
theorem EH.movedO {q o:Nat} {n:Nd} (h:EH w q o t n) (hl:q<w.heap.size) (hq:q ≠ g) (hm:aG (fun q=>q=g) I w w'):EH w' q o t n:=by
 have hc:∀ o,w'.cell? ⟨q,o,I⟩=w.cell? ⟨q,o,I⟩:=fun o=>aH (hm.block q hl hq (by simp)) o;exact ⟨(hc _).trans h.c0,(hc _).trans h.c1,(hc _).trans h.c2,(hc _).trans h.c3,(hc _).trans h.c4,(hc _).trans h.c5⟩
theorem gY.fuel (h:gY w0 g v b f z w) (f':Nat):gY w0 g v b f' z (w.setCell ⟨g,5,I⟩ (O Y (f':Int)))/\aG (fun q=>q=g) I w (w.setCell ⟨g,5,I⟩ (O Y (f':Int))):=by
 have hg:=bN w g 5 (O Y (f':Int));have hl:=h.lt;have hs:=h.bel.size;have hge:=h.ge;exact ⟨⟨h.bel.grown hg aA (fun q e=>by injection e with e;omega),by simpa using h.blk.set_ 5 (O Y (f':Int)),hge⟩,aG.setCell (S:=fun q=>q=g) (aG.refl _ _ _) (p:=⟨g,5,I⟩) rfl _⟩
theorem gY.err (h:gY w0 g v b f z w) (z':Int):gY w0 g v b f z' (w.setCell ⟨g,6,I⟩ (O Y z'))/\aG (fun q=>q=g) I w (w.setCell ⟨g,6,I⟩ (O Y z')):=by
 have hg:=bN w g 6 (O Y z');have hl:=h.lt;have hs:=h.bel.size;have hge:=h.ge;exact ⟨⟨h.bel.grown hg aA (fun q e=>by injection e with e;omega),by simpa using h.blk.set_ 6 (O Y z'),hge⟩,aG.setCell (S:=fun q=>q=g) (aG.refl _ _ _) (p:=⟨g,6,I⟩) rfl _⟩
end
theorem wT (w:World) (g:Nat) (a b c d x y:Value):((((((w.setCell ⟨g,0,I⟩ a).setCell ⟨g,1,I⟩ b).setCell ⟨g,2,I⟩ c).setCell ⟨g,3,I⟩ d).setCell ⟨g,4,I⟩ x).setCell ⟨g,5,I⟩ y).heap.size=w.heap.size:=by
 simp [World.setCell]
theorem eD {w0 w V W:World} {g h:Nat} {v:aZ} {b:Bk} {R:Nat->Prop} {r:RV} {t:fZ} {y:TT} (hR:gX g w R) (hgl:g<w.heap.size) (hh:w.heap.size<=h) (hV:h<V.heap.size) (hm:aG (fun q=>q=g) I w W) (ht:cQ (aK R V W) W t y)
 (hr:match r with | .ok y0 f'=>y=y0/\gY w0 g v b f' 0 W | .er z=>z ≠ 0/\∃ f',gY w0 g v b f' z W) :
 xG w0 g v b R w r (.returned (.agg (dE t y.1))) ((((((W.setCell ⟨h,0,I⟩ (O Y y.1.op)).setCell ⟨h,1,I⟩ (O Y y.1.a)).setCell ⟨h,2,I⟩ (O Y y.1.b)).setCell ⟨h,3,I⟩ (Z t.Ak t.nk t.ck)).setCell ⟨h,4,I⟩ (Z t.Aa t.na t.ca)).setCell ⟨h,5,I⟩ (Z t.Af t.nf t.cf)):=by
 have hg6:=cW W h (O Y y.1.op) (O Y y.1.a) (O Y y.1.b) (Z t.Ak t.nk t.ck) (Z t.Aa t.na t.ca) (Z t.Af t.nf t.cf);have hms:=hm.size;have st:∀ f' z,gY w0 g v b f' z W->gY w0 g v b f' z ((((((W.setCell ⟨h,0,I⟩ (O Y y.1.op)).setCell ⟨h,1,I⟩ (O Y y.1.a)).setCell ⟨h,2,I⟩ (O Y y.1.b)).setCell ⟨h,3,I⟩ (Z t.Ak t.nk t.ck)).setCell ⟨h,4,I⟩ (Z t.Aa t.na t.ca)).setCell ⟨h,5,I⟩ (Z t.Af t.nf t.cf)):=fun f' z hs=>by
  have h1:=hs.ge;have h2:=hs.bel.size;exact ⟨hs.bel.grown hg6 h2 (fun q e=>by injection e with e;omega),hs.blk.grown hg6 (by intro e;injection e with e;omega),h1⟩
 refine ⟨⟨hg6.os.trans hm.os,hg6.tape.trans hm.tape,hg6.output.trans hm.output,Nat.le_trans hm.size hg6.size,fun k hk hS hr=>(hg6.block k (Nat.lt_of_lt_of_le hk hm.size) (by intro e;injection e with e;omega)).trans (hm.block k hk hS hr)⟩,t,y,rfl,?_,?_⟩
 · refine ht.keep fun q hq=>⟨?_,fun o=>aH (hg6.block q ?_ ?_) o⟩
   · rcases hq with hq | hq
     · exact Or.inl hq
     exact Or.inr ⟨by have:=hq.1;omega,Nat.lt_of_lt_of_le hq.2 hg6.size⟩
   · rcases hq with hq | hq
     · have:=(hR q hq).1;omega
     exact hq.2
   intro e;injection e with e;rcases hq with hq | hq
   · have:=(hR q hq).1;omega
   have:=hq.1;omega
 cases r with
 | ok y0 f'=>exact ⟨hr.1,st _ _ hr.2⟩
 | er z=>exact ⟨hr.1,hr.2.choose,st _ _ hr.2.choose_spec⟩
theorem wN {w:World} {g:Nat} {c0 c1 c2 c3 c4 c5:Value} {tmps:Array Value} (h:aD w g 49 #[c0,c1,c2,c3,c4,c5]) (ht:tmps.getD 4 undef=E (some ⟨g,0,I⟩)) :
 (results Tryz.f45 tmps).run Tryz.prog w=.ok (.agg #[c0,c1,c2,c3,c4,c5]) w:=by
 have hc:=h.cell;have ht':tmps[4]?.getD undef=E (some ⟨g,0,I⟩):=by rw [<-ht];simp
 simp [results,Tryz.results45,go_sem,ht',hc]
theorem mG {w:World} {g:Nat} {c0 c1 c2 c3 c4 c5:Value} {tmps:Array Value} (h:aD w g 49 #[c0,c1,c2,c3,c4,c5]) (ht:tmps.getD 6 undef=E (some ⟨g,0,I⟩)) :
 (results Tryz.f46 tmps).run Tryz.prog w=.ok (.agg #[c0,c1,c2,c3,c4,c5]) w:=by
 have hc:=h.cell;have ht':tmps[6]?.getD undef=E (some ⟨g,0,I⟩):=by rw [<-ht];simp
 simp [results,Tryz.results46,go_sem,ht',hc]
theorem mI {w:World} {g:Nat} {c0 c1 c2 c3 c4 c5:Value} {tmps:Array Value} (h:aD w g 49 #[c0,c1,c2,c3,c4,c5]) (ht:tmps.getD 4 undef=E (some ⟨g,0,I⟩)) :
 (results Tryz.f79 tmps).run Tryz.prog w=.ok (.agg #[c0,c1,c2,c3,c4,c5]) w:=by
 have hc:=h.cell;have ht':tmps[4]?.getD undef=E (some ⟨g,0,I⟩):=by rw [<-ht];simp
 simp [results,Tryz.results79,go_sem,ht',hc]
theorem fQ {w0 w:World} {g f:Nat} {v:aZ} {b:Bk} (hs:gY w0 g v b f 0 w) (z:Int) (hz:z ≠ 0) (R:Nat->Prop) :
 Calls Tryz.prog 45 #[E (some ⟨g,0,I⟩),O Y z] w (xG w0 g v b R w (.er z)):=by
 have hb1:=aB w (J #[O Y 0,O Y 0,O Y 0,Z I 0 0,Z I 0 0,Z I 0 0] 49);have HB1:=hid hb1;have HS1:=hid (hs.below hb1);obtain ⟨hs2,hm2⟩:=HS1.o.err z;have HS2:=hid hs2;have HM2:Hid (aG (fun q=>q=g) I w ((w.alloc (J #[O Y 0,O Y 0,O Y 0,Z I 0 0,Z I 0 0,Z I 0 0] 49)).setCell ⟨g,6,I⟩ (O Y z))):=hid ((aG.of_below hb1).trans (row':=I) hm2 (fun _ e=>by cases e));have zg:=aD.cell HS1.o.blk;have zf:=aD.frozen HS1.o.blk;have HL:=hid hs.lt;have HZ:=hid hz;have HS0:Hid (w0.heap.size<=w.heap.size):=hid hs.bel.size;have HK:=hid ((aD.new w 49 #[O Y 0,O Y 0,O Y 0,Z I 0 0,Z I 0 0,Z I 0 0]).far (p:=⟨g,6,I⟩) (show w.heap.size ≠ g by have:=HL.o;omega) (O Y z));clear hs hs2 hm2 hb1 hz;go_in;go_wp2_with fail
 refine bodyPost_ret (v:=.agg #[O Y 2,O Y 0,O Y 1,Z I 0 0,Z (some ⟨w.heap.size+1,0,I⟩) 1 1,Z I 0 0]) ?_ rfl ?_
 · exact wN (g:=w.heap.size) ((aW HK.o _ _ _ _ _ _).alloc _) (by simp)
 have hg6:=cW ((w.alloc (J #[O Y 0,O Y 0,O Y 0,Z I 0 0,Z I 0 0,Z I 0 0] 49)).setCell ⟨g,6,I⟩ (O Y z)) w.heap.size (O Y 2) (O Y 0) (O Y 1) (Z I 0 0) (Z (some ⟨w.heap.size+1,0,I⟩) 1 1) (Z I 0 0);have hz6:=wT ((w.alloc (J #[O Y 0,O Y 0,O Y 0,Z I 0 0,Z I 0 0,Z I 0 0] 49)).setCell ⟨g,6,I⟩ (O Y z)) w.heap.size (O Y 2) (O Y 0) (O Y 1) (Z I 0 0) (Z (some ⟨w.heap.size+1,0,I⟩) 1 1) (Z I 0 0);rw [show ((w.alloc (J #[O Y 0,O Y 0,O Y 0,Z I 0 0,Z I 0 0,Z I 0 0] 49)).setCell ⟨g,6,I⟩ (O Y z)).heap.size=w.heap.size+1 from by simp] at hz6;have hms:=HM2.o.size;have hgl:=HL.o;have hbs:=HS2.o.bel.size;generalize (w.alloc (J #[O Y 0,O Y 0,O Y 0,Z I 0 0,Z I 0 0,Z I 0 0] 49)).setCell ⟨g,6,I⟩ (O Y z)=W2 at *;generalize ((((((W2.setCell ⟨w.heap.size,0,I⟩ (O Y 2)).setCell ⟨w.heap.size,1,I⟩ (O Y 0)).setCell ⟨w.heap.size,2,I⟩ (O Y 1)).setCell ⟨w.heap.size,3,I⟩ (Z I 0 0)).setCell ⟨w.heap.size,4,I⟩ (Z (some ⟨w.heap.size+1,0,I⟩) 1 1)).setCell ⟨w.heap.size,5,I⟩ (Z I 0 0))=W6 at *;have hge:=HS2.o.ge;have hs0:=HS0.o;have hs6:gY w0 g v b f z W6:=⟨HS2.o.bel.grown hg6 hbs (fun q e=>by injection e with e;omega),HS2.o.blk.grown hg6 (by intro e;injection e with e;omega),hge⟩;have hba:=aB W6 (J #[O Y 3,O Y 0,O Y 0] 40);have hs7:=hs6.below hba;have hm6:aG (fun q=>q=g) I w W6:=⟨hg6.os.trans HM2.o.os,hg6.tape.trans HM2.o.tape,hg6.output.trans HM2.o.output,Nat.le_trans hms hg6.size,fun k hk hS hr=>(hg6.block k aA (by intro e;injection e with e;omega)).trans (HM2.o.block k hk hS hr)⟩;have hm7:aG (fun q=>q=g) I w (W6.alloc (J #[O Y 3,O Y 0,O Y 0] 40)):=hm6.trans (row':=I) (aG.of_below hba) (fun _ e=>by cases e);have hn:=aD.new W6 40 #[O Y 3,O Y 0,O Y 0];rw [hz6] at hn;have hnc:=hn.cell;refine ⟨hm7,⟨I,0,0,some ⟨w.heap.size+1,0,I⟩,1,1,I,0,0⟩,(⟨2,0,1⟩,[⟨3,0,0⟩],.nil),rfl,?_,HZ.o,f,hs7⟩;refine ⟨_,_,_,rfl,⟨I,0,0,rfl,rfl,Nat.le_refl _,fun h=>absurd h aA⟩,⟨some ⟨w.heap.size+1,0,I⟩,1,1,rfl,rfl,Nat.le_refl _,by omega,fun e=>(by cases e),fun _=>⟨w.heap.size+1,0,rfl,Or.inr ⟨by omega,hn.lt⟩,fun k hk => ?_⟩⟩,fK.nil _ _⟩;obtain rfl:k=0:=by simp at hk;omega
 exact ⟨hnc 0,hnc 1,hnc 2⟩
theorem uM {w0 w:World} {g f:Nat} {v:aZ} {b:Bk} {R:Nat->Prop} {tx tu:fZ} {x u:TT} (hs:gY w0 g v b f 0 w) (hR:gX g w R) (htx:cQ R w tx x) (htu:cQ R w tu u) (hx:bR b (0+1) x) (hu:bR b 0 u) :
 Calls Tryz.prog 46 #[E (some ⟨g,0,I⟩),.agg (dE tx x.1),.agg (dE tu u.1)] w (xG w0 g v b R w (if (bQ x u).2=0 then .ok (bQ x u).1 f else .er (bQ x u).2)):=by
 have HPL:=hid (fun (W:World) (h:Below w.heap.size w W)=>rO (b:=b) (free:=0) (fun q hq=>Nat.lt_of_lt_of_le (hR q hq).1 h.size) (htx.below hR.lt h) (htu.below hR.lt h) hx hu (Int.le_refl 0) aA);obtain ⟨qq,hqq⟩ : ∃ q,q=bQ x u:=⟨_,rfl⟩;rw [<-hqq] at HPL ⊢;obtain ⟨res,hres⟩ : ∃ r,r=(if qq.2=0 then RV.ok qq.1 f else RV.er qq.2):=⟨_,rfl⟩;rw [<-hres];have HRES:=hid hres;clear hres;obtain ⟨⟨xo,xa,xb⟩,xat,xk⟩:=x;obtain ⟨⟨uo,ua,ub⟩,uat,uk⟩:=u;obtain ⟨Ak,nk,ck,Aa,na,ca,Af,nf,cf⟩:=tx;obtain ⟨Bk,mk,dk,Ba,ma,da,Bf,mf,df⟩:=tu;obtain ⟨⟨⟨qo,qa,qb⟩,qat,qk⟩,qe⟩:=qq;simp only at HPL HRES ⊢;have HB2:=hid ((aS w (J #[O Y xo,O Y xa,O Y xb,Z Ak nk ck,Z Aa na ca,Z Af nf cf] 49) (J #[O Y uo,O Y ua,O Y ub,Z Bk mk dk,Z Ba ma da,Z Bf mf df] 49)).alloc (by simp<;>omega) (J #[O Y 0,O Y 0,O Y 0,Z I 0 0,Z I 0 0,Z I 0 0] 49));have HZ2:Hid (aD (((w.alloc (J #[O Y xo,O Y xa,O Y xb,Z Ak nk ck,Z Aa na ca,Z Af nf cf] 49)).alloc (J #[O Y uo,O Y ua,O Y ub,Z Bk mk dk,Z Ba ma da,Z Bf mf df] 49)).alloc (J #[O Y 0,O Y 0,O Y 0,Z I 0 0,Z I 0 0,Z I 0 0] 49)) (w.heap.size+1+1) 49 #[O Y 0,O Y 0,O Y 0,Z I 0 0,Z I 0 0,Z I 0 0]):=hid (aD.new' (by simp));have HS:=hid hs;have HRO:=hid hR;have HL:=hid hs.lt;obtain ⟨V0,hV0⟩ : ∃ V0:World,V0.heap.size=w.heap.size+3:=⟨(((w.alloc (J #[O Y xo,O Y xa,O Y xb,Z Ak nk ck,Z Aa na ca,Z Af nf cf] 49)).alloc (J #[O Y uo,O Y ua,O Y ub,Z Bk mk dk,Z Ba ma da,Z Bf mf df] 49)).alloc (J #[O Y 0,O Y 0,O Y 0,Z I 0 0,Z I 0 0,Z I 0 0] 49)),by simp⟩;have HV0:=hid hV0;clear hs hR htx htu hx hu hqq hV0;show Calls Tryz.prog 46 #[E (some ⟨g,0,I⟩),.agg #[O Y xo,O Y xa,O Y xb,Z Ak nk ck,Z Aa na ca,Z Af nf cf],.agg #[O Y uo,O Y ua,O Y ub,Z Bk mk dk,Z Ba ma da,Z Bf mf df]] w _;go_in;go_wp2_with fail
 refine (HPL.o _ HB2.o).mono ?_;rintro e w4 ⟨hb4,⟨Dk,rk,gk,Da,ra,ga,Df,rf,gf⟩,rfl,htq⟩;have hb4s:=hb4.size;rw [show ((((w.alloc (J #[O Y xo,O Y xa,O Y xb,Z Ak nk ck,Z Aa na ca,Z Af nf cf] 49)).alloc (J #[O Y uo,O Y ua,O Y ub,Z Bk mk dk,Z Ba ma da,Z Bf mf df] 49)).alloc (J #[O Y 0,O Y 0,O Y 0,Z I 0 0,Z I 0 0,Z I 0 0] 49))).heap.size=w.heap.size+3 from by simp] at hb4s;have HTQ:Hid (cQ (aK R V0 w4) w4 ⟨Dk,rk,gk,Da,ra,ga,Df,rf,gf⟩ ((⟨qo,qa,qb⟩:Nd),qat,qk)):=hid (htq.keep fun q hq=>⟨aK.to hq (by rw [HV0.o];simp) (Nat.le_refl _),fun _=>rfl⟩);have hba:=aB w4 (J #[O Y qo,O Y qa,O Y qb,Z Dk rk gk,Z Da ra ga,Z Df rf gf] 49);have hb5:=hb4.trans (hba.mono hb4.size);have HB5:=cO HB2 hb5;have HZ5:=hid (HZ2.o.below hb5 HZ2.o.lt);have HS5:=hid (HS.o.below HB5.o);have HBA:=hid hba;have hsz5:(w4.alloc (J #[O Y qo,O Y qa,O Y qb,Z Dk rk gk,Z Da ra ga,Z Df rf gf] 49)).heap.size=w4.heap.size+1:=by simp
 have HSZ5:=hid hsz5;have HB4S:=hid hb4s;clear hb4 hba hb5 htq hb4s hsz5;by_cases he:qe=0
 · subst he;have HRZ:=hid (HRES.o.trans (if_pos rfl));have zz:=aD.cell HZ5.o;have zf:=aD.frozen HZ5.o;go_wp2_with fail
   refine bodyPost_ret (v:=.agg #[O Y qo,O Y qa,O Y qb,Z Dk rk gk,Z Da ra ga,Z Df rf gf]) ?_ rfl ?_
   · exact mG (g:=w.heap.size+1+1) (aW HZ5.o _ _ _ _ _ _) (by simp)
   rw [HRZ.o];exact eD (V:=V0) (r:=.ok _ _) (t:=⟨Dk,rk,gk,Da,ra,ga,Df,rf,gf⟩) (y:=((⟨qo,qa,qb⟩:Nd),qat,qk)) HRO.o HL.o aA (by have:=HV0.o;omega) (aG.of_below HB5.o) (HTQ.o.keep fun q hq=>⟨hq.to (Nat.le_refl _) HBA.o.size,fun o=>HBA.o.cell (p:=⟨q,o,I⟩) (show q<w4.heap.size from aK.lt2 HRO.o (by have:=HB4S.o;omega) hq)⟩) ⟨rfl,HS5.o⟩
 have HRZ:=hid (HRES.o.trans (if_neg he));have de:(qe != 0)=true:=by simpa using he
 have HE:=hid he;clear he;go_wp2_with fail
 refine (fQ HS5.o qe HE.o (fun _=>False)).mono ?_;rintro e w6 ⟨hm6,⟨Ek,sk,fk,Ea,sa,fa,Ef,sf,ff⟩,⟨⟨yo,ya,yb⟩,yat,yk⟩,rfl,ht6,hz6,f6,hs6⟩;have hne:w.heap.size+1+1 ≠ g:=by have:=HL.o;omega
 have HZ6:=hid (HZ5.o.movedO hne hm6);have HM6:=hid ((aG.of_below (S:=fun q=>q=g) (row:=I) HB5.o).trans (row':=I) hm6 (fun _ e=>by cases e));have HT6:Hid (cQ (aK R V0 w6) w6 ⟨Ek,sk,fk,Ea,sa,fa,Ef,sf,ff⟩ ((⟨yo,ya,yb⟩:Nd),yat,yk)):=hid (ht6.keep fun q hq=>⟨by
  rcases hq with hq | hq
  · exact hq.elim
  exact Or.inr ⟨by have:=hq.1;have:=HSZ5.o;have:=HB4S.o;have:=HV0.o;omega,hq.2⟩,fun _=>rfl⟩)
 have HS6:=hid hs6;have zz:=aD.cell HZ6.o;have zf:=aD.frozen HZ6.o;clear hm6 ht6 hs6 hz6;go_wp2_with fail
 refine bodyPost_ret (v:=.agg #[O Y yo,O Y ya,O Y yb,Z Ek sk fk,Z Ea sa fa,Z Ef sf ff]) ?_ rfl ?_
 · exact mG (g:=w.heap.size+1+1) (aW HZ6.o _ _ _ _ _ _) (by simp)
 rw [HRZ.o];exact eD (V:=V0) (r:=.er _) (t:=⟨Ek,sk,fk,Ea,sa,fa,Ef,sf,ff⟩) (y:=((⟨yo,ya,yb⟩:Nd),yat,yk)) HRO.o HL.o aA (by have:=HV0.o;omega) HM6.o HT6.o ⟨HE.o,f6,HS6.o⟩
theorem uX {w0 w:World} {g f:Nat} {v:aZ} {b:Bk} {R:Nat->Prop} {tx:fZ} {x:TT} (hs:gY w0 g v b f 0 w) (hR:gX g w R) (htx:cQ R w tx x) (hx:bU x<=100000) :
 Calls Tryz.prog 79 #[E (some ⟨g,0,I⟩),.agg (dE tx x.1)] w (xG w0 g v b R w (if 4096<bU x then .er 9 else .ok x f)):=by
 have HSZ:=hid (fun (W:World) (h:Below w.heap.size w W)=>pK (R:=R) (fun q hq=>Nat.lt_of_lt_of_le (hR q hq).1 h.size) (htx.below hR.lt h) (show bU x<=1000000000 by omega));have HTX:=hid (fun (W:World) (h:Below w.heap.size w W)=>htx.below hR.lt h);obtain ⟨X,hX⟩ : ∃ X,X=bU x:=⟨_,rfl⟩;rw [<-hX] at HSZ ⊢;obtain ⟨res,hres⟩ : ∃ r,r=(if 4096<X then RV.er 9 else RV.ok x f):=⟨_,rfl⟩;rw [<-hres];have HRES:=hid hres;clear hres;obtain ⟨⟨xo,xa,xb⟩,xat,xk⟩:=x;obtain ⟨Ak,nk,ck,Aa,na,ca,Af,nf,cf⟩:=tx;simp only at HSZ HTX;have HB2:=hid (aS w (J #[O Y xo,O Y xa,O Y xb,Z Ak nk ck,Z Aa na ca,Z Af nf cf] 49) (J #[O Y 0,O Y 0,O Y 0,Z I 0 0,Z I 0 0,Z I 0 0] 49));have HX2:Hid (aD ((w.alloc (J #[O Y xo,O Y xa,O Y xb,Z Ak nk ck,Z Aa na ca,Z Af nf cf] 49)).alloc (J #[O Y 0,O Y 0,O Y 0,Z I 0 0,Z I 0 0,Z I 0 0] 49)) w.heap.size 49 #[O Y xo,O Y xa,O Y xb,Z Ak nk ck,Z Aa na ca,Z Af nf cf]):=hid ((aD.new _ _ _).alloc _);have HZ2:Hid (aD ((w.alloc (J #[O Y xo,O Y xa,O Y xb,Z Ak nk ck,Z Aa na ca,Z Af nf cf] 49)).alloc (J #[O Y 0,O Y 0,O Y 0,Z I 0 0,Z I 0 0,Z I 0 0] 49)) (w.heap.size+1) 49 #[O Y 0,O Y 0,O Y 0,Z I 0 0,Z I 0 0,Z I 0 0]):=hid (aD.new' (by simp));have HS:=hid hs;have HRO:=hid hR;have HL:=hid hs.lt;obtain ⟨V0,hV0⟩ : ∃ V0:World,V0.heap.size=w.heap.size+2:=⟨((w.alloc (J #[O Y xo,O Y xa,O Y xb,Z Ak nk ck,Z Aa na ca,Z Af nf cf] 49)).alloc (J #[O Y 0,O Y 0,O Y 0,Z I 0 0,Z I 0 0,Z I 0 0] 49)),by simp⟩;have HV0:=hid hV0;clear hs hR htx hx hX hV0;show Calls Tryz.prog 79 #[E (some ⟨g,0,I⟩),.agg #[O Y xo,O Y xa,O Y xb,Z Ak nk ck,Z Aa na ca,Z Af nf cf]] w _;go_in;go_wp2_with fail
 refine (HSZ.o _ HB2.o).mono ?_;rintro e w4 ⟨rfl,hb4⟩;have HB5:=cO HB2 hb4;have HX5:=hid (HX2.o.below hb4 HX2.o.lt);have HZ5:=hid (HZ2.o.below hb4 HZ2.o.lt);have HS5:=hid (HS.o.below HB5.o);have hb4s:=hb4.size;rw [show ((w.alloc (J #[O Y xo,O Y xa,O Y xb,Z Ak nk ck,Z Aa na ca,Z Af nf cf] 49)).alloc (J #[O Y 0,O Y 0,O Y 0,Z I 0 0,Z I 0 0,Z I 0 0] 49)).heap.size=w.heap.size+2 from by simp] at hb4s;have HB4S:=hid hb4s;clear hb4 hb4s;by_cases hbig:4096<X
 · have HRZ:=hid (HRES.o.trans (if_pos hbig));have d1:decide ((X:Int)>4096)=true:=decide_eq_true aA;have d2:decide (4096<(X:Int))=true:=decide_eq_true aA;have d3:decide (4096<X)=true:=decide_eq_true hbig;go_wp2_with fail
   refine (fQ HS5.o 9 (by decide) (fun _=>False)).mono ?_;rintro e w6 ⟨hm6,⟨Ek,sk,fk,Ea,sa,fa,Ef,sf,ff⟩,⟨⟨yo,ya,yb⟩,yat,yk⟩,rfl,ht6,hz6,f6,hs6⟩;have hne:w.heap.size+1 ≠ g:=by have:=HL.o;omega
   have HZ6:=hid (HZ5.o.movedO hne hm6);have HM6:=hid ((aG.of_below (S:=fun q=>q=g) (row:=I) HB5.o).trans (row':=I) hm6 (fun _ e=>by cases e));have HT6:Hid (cQ (aK R V0 w6) w6 ⟨Ek,sk,fk,Ea,sa,fa,Ef,sf,ff⟩ ((⟨yo,ya,yb⟩:Nd),yat,yk)):=hid (ht6.keep fun q hq=>⟨by
    rcases hq with hq | hq
    · exact hq.elim
    exact Or.inr ⟨by have:=hq.1;have:=HB4S.o;have:=HV0.o;omega,hq.2⟩,fun _=>rfl⟩)
   have HS6:=hid hs6;have zz:=aD.cell HZ6.o;have zf:=aD.frozen HZ6.o;clear hm6 ht6 hs6 hz6;go_wp2_with fail
   refine bodyPost_ret (v:=.agg #[O Y yo,O Y ya,O Y yb,Z Ek sk fk,Z Ea sa fa,Z Ef sf ff]) ?_ rfl ?_
   · exact mI (g:=w.heap.size+1) (aW HZ6.o _ _ _ _ _ _) (by simp)
   rw [HRZ.o];exact eD (V:=V0) (r:=.er _) (t:=⟨Ek,sk,fk,Ea,sa,fa,Ef,sf,ff⟩) (y:=((⟨yo,ya,yb⟩:Nd),yat,yk)) HRO.o HL.o aA (by have:=HV0.o;omega) HM6.o HT6.o ⟨by decide,f6,HS6.o⟩
 have HRZ:=hid (HRES.o.trans (if_neg hbig));have d1:decide ((X:Int)>4096)=false:=decide_eq_false aA;have d2:decide (4096<(X:Int))=false:=decide_eq_false aA;have d3:decide (4096<X)=false:=decide_eq_false hbig;have zx:=aD.cell HX5.o;have zz:=aD.cell HZ5.o;have zf:=aD.frozen HZ5.o;go_wp2_with fail
 refine bodyPost_ret (v:=.agg #[O Y xo,O Y xa,O Y xb,Z Ak nk ck,Z Aa na ca,Z Af nf cf]) ?_ rfl ?_
 · exact mI (g:=w.heap.size+1) (aW HZ5.o _ _ _ _ _ _) (by simp)
 rw [HRZ.o];exact eD (V:=V0) (r:=.ok _ _) (t:=⟨Ak,nk,ck,Aa,na,ca,Af,nf,cf⟩) (y:=((⟨xo,xa,xb⟩:Nd),xat,xk)) HRO.o HL.o aA (by have:=HV0.o;omega) (aG.of_below HB5.o) ((HTX.o _ HB5.o).keep fun q hq=>⟨Or.inl hq,fun _=>rfl⟩) ⟨rfl,HS5.o⟩
end Go.Proofs.YtjllmblbbgojbaaGreat
