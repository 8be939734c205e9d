/- The reference's evaluator: its state; fail, put, sized. -/
import Derived.Test.YtjllmblbbgojbaaGreatXRvO
namespace Go.Proofs.YtjllmblbbgojbaaGreat
set_option linter.unusedVariables false
set_option linter.unusedSimpArgs false
open Go.RowKit
open Go.Value renaming int → O, slice → Z, pointer → E
open Go.IntKind renaming i64 → Y
open Option renaming none → I
open Go.Obj renaming cells → J
open Go.Lib renaming hid->aB
set_option maxHeartbeats 8000000
set_option maxRecDepth 100000
structure i8 (w0:World) (g:Nat) (v:bN) (b:Bk) (f:Nat) (z:Int) (w:World):Prop where
 bel:Below w0.heap.size w0 w
 blk:aS w g 62 #[O Y b.vars,Z v.Ao v.no v.co,Z v.Ae v.ne v.ce,O Y b.nat,Z v.Ap v.np v.cp,O Y (f:Int),O Y z]
 ge:w0.heap.size<=g
def yN (w0:World) (g:Nat) (v:bN) (b:Bk) (R:Nat->Prop) (w:World) (r:RV) (e:Ending) (w':World):Prop:=aW (fun q=>q=g) I w w'/\∃(t:iL) (y:TT),e=.returned (.agg (eD t y.1))/\dJ (aZ R w w') w' t y/\match r with
 | .ok y0 f'=>y=y0/\i8 w0 g v b f' 0 w'
 | .er z=>z ≠ 0/\∃f',i8 w0 g v b f' z w'
section
variable {w0 w w' w1 : World} {g f : Nat} {z : Int} {v : bN} {b : Bk} {t : iL} {x : TT} {r : RV} {e : Ending}
theorem i8.lt (h:i8 w0 g v b f z w):g<w.heap.size:=h.blk.lt
theorem i8.below (h:i8 w0 g v b f z w) (hb:Below w.heap.size w w'):i8 w0 g v b f z w':=⟨h.bel.trans (hb.mono h.bel.size),h.blk.below hb h.blk.lt,h.ge⟩
def iU (g:Nat) (w:World) (R:Nat->Prop):Prop:=∀q,R q->q<w.heap.size/\q ≠ g
theorem aZ.lt2 {R:Nat->Prop} {q:Nat} (hR:iU g w R) (hs:w.heap.size<=w'.heap.size) (h:aZ R w1 w' q):q<w'.heap.size:=by
 rcases h with h | h
 · exact Nat.lt_of_lt_of_le (hR q h).1 hs
 exact h.2
theorem iU.lt {R:Nat->Prop} (h:iU g w R) : ∀q,R q->q<w.heap.size:=fun q hq=>(h q hq).1
theorem iU.moved {R:Nat->Prop} (h:iU g w R) (hs:w.heap.size<=w'.heap.size):iU g w' R:=fun q hq=>⟨Nat.lt_of_lt_of_le (h q hq).1 hs,(h q hq).2⟩
theorem iU.mixed {R:Nat->Prop} (h:iU g w R) (hg:g<w1.heap.size) (hs:w.heap.size<=w'.heap.size):iU g w' (aZ R w1 w'):=fun q hq=>by
 rcases hq with hq | hq
 · exact⟨Nat.lt_of_lt_of_le (h q hq).1 hs,(h q hq).2⟩
 exact⟨hq.2,by have:=hq.1;omega⟩
theorem dJ.movedO {R:Nat->Prop} (h:dJ R w t x) (hR:iU g w R) (hm:aW (fun q=>q=g) I w w'):dJ R w' t x:=h.keep fun q hq=>⟨hq,fun o=>aU (hm.block _ (hR q hq).1 (hR q hq).2 aD) o⟩
theorem fN.movedO {R:Nat->Prop} {A:Option Addr} {n c:Nat} {F:Fo} (h:fN R w A n c F) (hR:iU g w R) (hm:aW (fun q=>q=g) I w w'):fN R w' A n c F:=h.keep fun q hq=>⟨hq,fun o=>aU (hm.block _ (hR q hq).1 (hR q hq).2 aD) o⟩
theorem aS.movedO {q:Nat} {T:TypeId} {cs:Array Value} (h:aS w q T cs) (hq:q ≠ g) (hm:aW (fun q=>q=g) I w w'):aS w' q T cs:=by
 have:=hm.block q h.lt hq aD;unfold aS at h ⊢;rw[this];exact h
theorem I9.movedO {q o:Nat} {n:Nd} (h:I9 w q o t n) (hl:q<w.heap.size) (hq:q ≠ g) (hm:aW (fun q=>q=g) I w w'):I9 w' q o t n:=by
 have hc:∀o,w'.cell? ⟨q,o,I⟩=w.cell? ⟨q,o,I⟩:=fun o=>aU (hm.block q hl hq aD) o;exact⟨(hc _).trans h.c0,(hc _).trans h.c1,(hc _).trans h.c2,(hc _).trans h.c3,(hc _).trans h.c4,(hc _).trans h.c5⟩
theorem i8.fuel (h:i8 w0 g v b f z w) (f':Nat):i8 w0 g v b f' z (w.setCell ⟨g,5,I⟩ (O Y (f':Int)))/\aW (fun q=>q=g) I w (w.setCell ⟨g,5,I⟩ (O Y (f':Int))):=by
 have hg:=bG w g 5 (O Y (f':Int));have hs:=h.bel.size;have hge:=h.ge;exact⟨⟨h.bel.grown hg aA (fun q e=>by injection e with e;omega),by simpa using h.blk.set_ 5 (O Y (f':Int)),hge⟩,aW.setCell (S:=fun q=>q=g) (aW.refl _ _ _) (p:=⟨g,5,I⟩) rfl _⟩
theorem i8.err (h:i8 w0 g v b f z w) (z':Int):i8 w0 g v b f z' (w.setCell ⟨g,6,I⟩ (O Y z'))/\aW (fun q=>q=g) I w (w.setCell ⟨g,6,I⟩ (O Y z')):=by
 have hg:=bG w g 6 (O Y z');have hs:=h.bel.size;have hge:=h.ge;exact⟨⟨h.bel.grown hg aA (fun q e=>by injection e with e;omega),by simpa using h.blk.set_ 6 (O Y z'),hge⟩,aW.setCell (S:=fun q=>q=g) (aW.refl _ _ _) (p:=⟨g,6,I⟩) rfl _⟩
end
theorem yF (w:World) (g:Nat) (a b c d x y:Value):((((((w.setCell ⟨g,0,I⟩ a).setCell ⟨g,1,I⟩ b).setCell ⟨g,2,I⟩ c).setCell ⟨g,3,I⟩ d).setCell ⟨g,4,I⟩ x).setCell ⟨g,5,I⟩ y).heap.size=w.heap.size:=by
 simp[World.setCell]
theorem eW {w0 w V W:World} {g h:Nat} {v:bN} {b:Bk} {R:Nat->Prop} {r:RV} {t:iL} {y:TT} (hR:iU g w R) (hgl:g<w.heap.size) (hh:w.heap.size<=h) (hV:h<V.heap.size) (hm:aW (fun q=>q=g) I w W) (ht:dJ (aZ R V W) W t y)
 (hr:match r with | .ok y0 f'=>y=y0/\i8 w0 g v b f' 0 W | .er z=>z ≠ 0/\∃f',i8 w0 g v b f' z W) :
 yN w0 g v b R w r (.returned (.agg (eD t y.1))) ((((((W.setCell ⟨h,0,I⟩ (O Y y.1.op)).setCell ⟨h,1,I⟩ (O Y y.1.a)).setCell ⟨h,2,I⟩ (O Y y.1.b)).setCell ⟨h,3,I⟩ (Z t.Ak t.nk t.ck)).setCell ⟨h,4,I⟩ (Z t.Aa t.na t.ca)).setCell ⟨h,5,I⟩ (Z t.Af t.nf t.cf)):=by
 have hg6:=dQ W h (O Y y.1.op) (O Y y.1.a) (O Y y.1.b) (Z t.Ak t.nk t.ck) (Z t.Aa t.na t.ca) (Z t.Af t.nf t.cf);have hms:=hm.size;have st:∀f' z,i8 w0 g v b f' z W->i8 w0 g v b f' z ((((((W.setCell ⟨h,0,I⟩ (O Y y.1.op)).setCell ⟨h,1,I⟩ (O Y y.1.a)).setCell ⟨h,2,I⟩ (O Y y.1.b)).setCell ⟨h,3,I⟩ (Z t.Ak t.nk t.ck)).setCell ⟨h,4,I⟩ (Z t.Aa t.na t.ca)).setCell ⟨h,5,I⟩ (Z t.Af t.nf t.cf)):=fun f' z hs=>by
  have h1:=hs.ge;have h2:=hs.bel.size;exact⟨hs.bel.grown hg6 h2 (fun q e=>by injection e with e;omega),hs.blk.grown hg6 aK,h1⟩
 refine⟨⟨hg6.os.trans hm.os,hg6.tape.trans hm.tape,hg6.output.trans hm.output,Nat.le_trans hm.size hg6.size,fun k hk hS hr=>(hg6.block k (Nat.lt_of_lt_of_le hk hm.size) aK).trans (hm.block k hk hS hr)⟩,t,y,rfl,?_,?_⟩
 · refine ht.keep fun q hq=>⟨?_,fun o=>aU (hg6.block q ?_ ?_) o⟩
   · rcases hq with hq | hq
     · exact Or.inl hq
     exact Or.inr ⟨by have:=hq.1;omega,Nat.lt_of_lt_of_le hq.2 hg6.size⟩
   · rcases hq with hq | hq
     · have:=(hR q hq).1;omega
     exact hq.2
   intro e;injection e with e;rcases hq with hq | hq
   · have:=(hR q hq).1;omega
   have:=hq.1;omega
 cases r with
 | ok y0 f'=>exact⟨hr.1,st _ _ hr.2⟩
 | er z=>exact⟨hr.1,hr.2.choose,st _ _ hr.2.choose_spec⟩
theorem x8 {w:World} {g:Nat} {c0 c1 c2 c3 c4 c5:Value} {tmps:Array Value} (h:aS w g 49 #[c0,c1,c2,c3,c4,c5]) (ht:tmps.getD 4 undef=E (some ⟨g,0,I⟩)) :
 (results Tryz.f45 tmps).run Tryz.prog w=.ok (.agg #[c0,c1,c2,c3,c4,c5]) w:=by
 have hc:=h.cell;have ht':tmps[4]?.getD undef=E (some ⟨g,0,I⟩):=by rw[<-ht];simp
 simp[results,Tryz.results45,go_sem,ht',hc]
theorem nD {w:World} {g:Nat} {c0 c1 c2 c3 c4 c5:Value} {tmps:Array Value} (h:aS w g 49 #[c0,c1,c2,c3,c4,c5]) (ht:tmps.getD 6 undef=E (some ⟨g,0,I⟩)) :
 (results Tryz.f46 tmps).run Tryz.prog w=.ok (.agg #[c0,c1,c2,c3,c4,c5]) w:=by
 have hc:=h.cell;have ht':tmps[6]?.getD undef=E (some ⟨g,0,I⟩):=by rw[<-ht];simp
 simp[results,Tryz.results46,go_sem,ht',hc]
theorem nF {w:World} {g:Nat} {c0 c1 c2 c3 c4 c5:Value} {tmps:Array Value} (h:aS w g 49 #[c0,c1,c2,c3,c4,c5]) (ht:tmps.getD 4 undef=E (some ⟨g,0,I⟩)) :
 (results Tryz.f79 tmps).run Tryz.prog w=.ok (.agg #[c0,c1,c2,c3,c4,c5]) w:=by
 have hc:=h.cell;have ht':tmps[4]?.getD undef=E (some ⟨g,0,I⟩):=by rw[<-ht];simp
 simp[results,Tryz.results79,go_sem,ht',hc]
theorem gQ {w0 w:World} {g f:Nat} {v:bN} {b:Bk} (hs:i8 w0 g v b f 0 w) (z:Int) (hz:z ≠ 0) (R:Nat->Prop) :
 Calls Tryz.prog 45 #[E (some ⟨g,0,I⟩),O Y z] w (yN w0 g v b R w (.er z)):=by
 have hb1:=aP w (J #[O Y 0,O Y 0,O Y 0,Z I 0 0,Z I 0 0,Z I 0 0] 49);have HS1:=aB (hs.below hb1);obtain⟨hs2,hm2⟩:=HS1.o.err z;have HS2:=aB hs2;have HM2:Hid (aW (fun q=>q=g) I w ((w.alloc (J #[O Y 0,O Y 0,O Y 0,Z I 0 0,Z I 0 0,Z I 0 0] 49)).setCell ⟨g,6,I⟩ (O Y z))):=aB ((aW.of_below hb1).trans (row':=I) hm2 (fun _ e=>by cases e));have zg:=aS.cell HS1.o.blk;have zf:=aS.frozen HS1.o.blk;have HL:=aB hs.lt;have HZ:=aB hz;have HS0:Hid (w0.heap.size<=w.heap.size):=aB hs.bel.size;have HK:=aB ((aS.new w 49 #[O Y 0,O Y 0,O Y 0,Z I 0 0,Z I 0 0,Z I 0 0]).far (p:=⟨g,6,I⟩) (show w.heap.size ≠ g by have:=HL.o;omega) (O Y z));clear hs hs2 hm2 hb1 hz;go_in;go_wp2_with fail;refine bodyPost_ret (v:=.agg #[O Y 2,O Y 0,O Y 1,Z I 0 0,Z (some ⟨w.heap.size+1,0,I⟩) 1 1,Z I 0 0]) ?_ rfl ?_
 · exact x8 (g:=w.heap.size) ((bK HK.o _ _ _ _ _ _).alloc _) aD
 have hg6:=dQ ((w.alloc (J #[O Y 0,O Y 0,O Y 0,Z I 0 0,Z I 0 0,Z I 0 0] 49)).setCell ⟨g,6,I⟩ (O Y z)) w.heap.size (O Y 2) (O Y 0) (O Y 1) (Z I 0 0) (Z (some ⟨w.heap.size+1,0,I⟩) 1 1) (Z I 0 0);have hz6:=yF ((w.alloc (J #[O Y 0,O Y 0,O Y 0,Z I 0 0,Z I 0 0,Z I 0 0] 49)).setCell ⟨g,6,I⟩ (O Y z)) w.heap.size (O Y 2) (O Y 0) (O Y 1) (Z I 0 0) (Z (some ⟨w.heap.size+1,0,I⟩) 1 1) (Z I 0 0);rw[show ((w.alloc (J #[O Y 0,O Y 0,O Y 0,Z I 0 0,Z I 0 0,Z I 0 0] 49)).setCell ⟨g,6,I⟩ (O Y z)).heap.size=w.heap.size+1 from by simp] at hz6;have hms:=HM2.o.size;have hgl:=HL.o;have hbs:=HS2.o.bel.size;generalize (w.alloc (J #[O Y 0,O Y 0,O Y 0,Z I 0 0,Z I 0 0,Z I 0 0] 49)).setCell ⟨g,6,I⟩ (O Y z)=W2 at *;generalize ((((((W2.setCell ⟨w.heap.size,0,I⟩ (O Y 2)).setCell ⟨w.heap.size,1,I⟩ (O Y 0)).setCell ⟨w.heap.size,2,I⟩ (O Y 1)).setCell ⟨w.heap.size,3,I⟩ (Z I 0 0)).setCell ⟨w.heap.size,4,I⟩ (Z (some ⟨w.heap.size+1,0,I⟩) 1 1)).setCell ⟨w.heap.size,5,I⟩ (Z I 0 0))=W6 at *;have hge:=HS2.o.ge;have hs0:=HS0.o;have hs6:i8 w0 g v b f z W6:=⟨HS2.o.bel.grown hg6 hbs (fun q e=>by injection e with e;omega),HS2.o.blk.grown hg6 aK,hge⟩;have hba:=aP W6 (J #[O Y 3,O Y 0,O Y 0] 40);have hs7:=hs6.below hba;have hm6:aW (fun q=>q=g) I w W6:=⟨hg6.os.trans HM2.o.os,hg6.tape.trans HM2.o.tape,hg6.output.trans HM2.o.output,Nat.le_trans hms hg6.size,fun k hk hS hr=>(hg6.block k aA aK).trans (HM2.o.block k hk hS hr)⟩;have hm7:aW (fun q=>q=g) I w (W6.alloc (J #[O Y 3,O Y 0,O Y 0] 40)):=hm6.trans (row':=I) (aW.of_below hba) (fun _ e=>by cases e);have hn:=aS.new W6 40 #[O Y 3,O Y 0,O Y 0];rw[hz6] at hn;have hnc:=hn.cell;refine⟨hm7,⟨I,0,0,some ⟨w.heap.size+1,0,I⟩,1,1,I,0,0⟩,(⟨2,0,1⟩,[⟨3,0,0⟩],.nil),rfl,?_,HZ.o,f,hs7⟩;refine⟨_,_,_,rfl,⟨I,0,0,rfl,rfl,Nat.le_refl _,fun h=>absurd h aA⟩,⟨some ⟨w.heap.size+1,0,I⟩,1,1,rfl,rfl,Nat.le_refl _,by omega,fun e=>(by cases e),fun _=>⟨w.heap.size+1,0,rfl,Or.inr ⟨by omega,hn.lt⟩,fun k hk => ?_⟩⟩,gJ.nil _ _⟩;obtain rfl:k=0:=by simp at hk;omega
 exact⟨hnc 0,hnc 1,hnc 2⟩
theorem vU {w0 w:World} {g f:Nat} {v:bN} {b:Bk} {R:Nat->Prop} {tx tu:iL} {x u:TT} (hs:i8 w0 g v b f 0 w) (hR:iU g w R) (htx:dJ R w tx x) (htu:dJ R w tu u) (hx:cM b (0+1) x) (hu:cM b 0 u) :
 Calls Tryz.prog 46 #[E (some ⟨g,0,I⟩),.agg (eD tx x.1),.agg (eD tu u.1)] w (yN w0 g v b R w (if (cI x u).2=0 then .ok (cI x u).1 f else .er (cI x u).2)):=by
 have HPL:=aB (fun (W:World) (h:Below w.heap.size w W)=>sO (b:=b) (free:=0) (fun q hq=>Nat.lt_of_lt_of_le (hR q hq).1 h.size) (htx.below hR.lt h) (htu.below hR.lt h) hx hu (Int.le_refl 0) aA);obtain⟨qq,hqq⟩ : ∃q,q=cI x u:=⟨_,rfl⟩;rw[<-hqq] at HPL ⊢;obtain⟨res,hres⟩ : ∃r,r=(if qq.2=0 then RV.ok qq.1 f else RV.er qq.2):=⟨_,rfl⟩;rw[<-hres];have HRES:=aB hres;clear hres;obtain⟨⟨xo,xa,xb⟩,xat,xk⟩:=x;obtain⟨⟨uo,ua,ub⟩,uat,uk⟩:=u;obtain⟨Ak,nk,ck,Aa,na,ca,Af,nf,cf⟩:=tx;obtain⟨Bk,mk,dk,Ba,ma,da,Bf,mf,df⟩:=tu;obtain⟨⟨⟨qo,qa,qb⟩,qat,qk⟩,qe⟩:=qq;simp only at HPL HRES ⊢;have HB2:=aB ((bF w (J #[O Y xo,O Y xa,O Y xb,Z Ak nk ck,Z Aa na ca,Z Af nf cf] 49) (J #[O Y uo,O Y ua,O Y ub,Z Bk mk dk,Z Ba ma da,Z Bf mf df] 49)).alloc aH (J #[O Y 0,O Y 0,O Y 0,Z I 0 0,Z I 0 0,Z I 0 0] 49));have HZ2:Hid (aS (((w.alloc (J #[O Y xo,O Y xa,O Y xb,Z Ak nk ck,Z Aa na ca,Z Af nf cf] 49)).alloc (J #[O Y uo,O Y ua,O Y ub,Z Bk mk dk,Z Ba ma da,Z Bf mf df] 49)).alloc (J #[O Y 0,O Y 0,O Y 0,Z I 0 0,Z I 0 0,Z I 0 0] 49)) (w.heap.size+1+1) 49 #[O Y 0,O Y 0,O Y 0,Z I 0 0,Z I 0 0,Z I 0 0]):=aB (aS.new' aD);have HS:=aB hs;have HRO:=aB hR;have HL:=aB hs.lt;obtain⟨V0,hV0⟩ : ∃V0:World,V0.heap.size=w.heap.size+3:=⟨(((w.alloc (J #[O Y xo,O Y xa,O Y xb,Z Ak nk ck,Z Aa na ca,Z Af nf cf] 49)).alloc (J #[O Y uo,O Y ua,O Y ub,Z Bk mk dk,Z Ba ma da,Z Bf mf df] 49)).alloc (J #[O Y 0,O Y 0,O Y 0,Z I 0 0,Z I 0 0,Z I 0 0] 49)),by simp⟩;have HV0:=aB hV0;clear hs hR htx htu hx hu hqq hV0;show Calls Tryz.prog 46 #[E (some ⟨g,0,I⟩),.agg #[O Y xo,O Y xa,O Y xb,Z Ak nk ck,Z Aa na ca,Z Af nf cf],.agg #[O Y uo,O Y ua,O Y ub,Z Bk mk dk,Z Ba ma da,Z Bf mf df]] w _;go_in;go_wp2_with fail;refine (HPL.o _ HB2.o).mono ?_;rintro e w4 ⟨hb4,⟨Dk,rk,gk,Da,ra,ga,Df,rf,gf⟩,rfl,htq⟩;have hb4s:=hb4.size;rw[show ((((w.alloc (J #[O Y xo,O Y xa,O Y xb,Z Ak nk ck,Z Aa na ca,Z Af nf cf] 49)).alloc (J #[O Y uo,O Y ua,O Y ub,Z Bk mk dk,Z Ba ma da,Z Bf mf df] 49)).alloc (J #[O Y 0,O Y 0,O Y 0,Z I 0 0,Z I 0 0,Z I 0 0] 49))).heap.size=w.heap.size+3 from by simp] at hb4s;have HTQ:Hid (dJ (aZ R V0 w4) w4 ⟨Dk,rk,gk,Da,ra,ga,Df,rf,gf⟩ ((⟨qo,qa,qb⟩:Nd),qat,qk)):=aB (htq.keep fun q hq=>⟨aZ.to hq (by rw[HV0.o];simp) (Nat.le_refl _),fun _=>rfl⟩);have hba:=aP w4 (J #[O Y qo,O Y qa,O Y qb,Z Dk rk gk,Z Da ra ga,Z Df rf gf] 49);have hb5:=hb4.trans (hba.mono hb4.size);have HB5:=dA HB2 hb5;have HZ5:=aB (HZ2.o.below hb5 HZ2.o.lt);have HS5:=aB (HS.o.below HB5.o);have HBA:=aB hba;have hsz5:(w4.alloc (J #[O Y qo,O Y qa,O Y qb,Z Dk rk gk,Z Da ra ga,Z Df rf gf] 49)).heap.size=w4.heap.size+1:=by simp
 have HSZ5:=aB hsz5;have HB4S:=aB hb4s;clear hb4 hba hb5 htq hb4s hsz5;by_cases he:qe=0
 · subst he;have HRZ:=aB (HRES.o.trans (if_pos rfl));have zz:=aS.cell HZ5.o;have zf:=aS.frozen HZ5.o;go_wp2_with fail;refine bodyPost_ret (v:=.agg #[O Y qo,O Y qa,O Y qb,Z Dk rk gk,Z Da ra ga,Z Df rf gf]) ?_ rfl ?_
   · exact nD (g:=w.heap.size+1+1) (bK HZ5.o _ _ _ _ _ _) aD
   rw[HRZ.o];exact eW (V:=V0) (r:=.ok _ _) (t:=⟨Dk,rk,gk,Da,ra,ga,Df,rf,gf⟩) (y:=((⟨qo,qa,qb⟩:Nd),qat,qk)) HRO.o HL.o aA (by have:=HV0.o;omega) (aW.of_below HB5.o) (HTQ.o.keep fun q hq=>⟨hq.to (Nat.le_refl _) HBA.o.size,fun o=>HBA.o.cell (p:=⟨q,o,I⟩) (show q<w4.heap.size from aZ.lt2 HRO.o (by have:=HB4S.o;omega) hq)⟩) ⟨rfl,HS5.o⟩
 have HRZ:=aB (HRES.o.trans (if_neg he));have de:(qe != 0)=true:=by simpa using he
 have HE:=aB he;clear he;go_wp2_with fail;refine (gQ HS5.o qe HE.o (fun _=>False)).mono ?_;rintro e w6 ⟨hm6,⟨Ek,sk,fk,Ea,sa,fa,Ef,sf,ff⟩,⟨⟨yo,ya,yb⟩,yat,yk⟩,rfl,ht6,hz6,f6,hs6⟩;have hne:w.heap.size+1+1 ≠ g:=by have:=HL.o;omega
 have HZ6:=aB (HZ5.o.movedO hne hm6);have HM6:=aB ((aW.of_below (S:=fun q=>q=g) (row:=I) HB5.o).trans (row':=I) hm6 (fun _ e=>by cases e));have HT6:Hid (dJ (aZ R V0 w6) w6 ⟨Ek,sk,fk,Ea,sa,fa,Ef,sf,ff⟩ ((⟨yo,ya,yb⟩:Nd),yat,yk)):=aB (ht6.keep fun q hq=>⟨by
  rcases hq with hq | hq
  · exact hq.elim
  exact Or.inr ⟨by have:=hq.1;have:=HSZ5.o;have:=HB4S.o;have:=HV0.o;omega,hq.2⟩,fun _=>rfl⟩)
 have HS6:=aB hs6;have zz:=aS.cell HZ6.o;have zf:=aS.frozen HZ6.o;clear hm6 ht6 hs6 hz6;go_wp2_with fail;refine bodyPost_ret (v:=.agg #[O Y yo,O Y ya,O Y yb,Z Ek sk fk,Z Ea sa fa,Z Ef sf ff]) ?_ rfl ?_
 · exact nD (g:=w.heap.size+1+1) (bK HZ6.o _ _ _ _ _ _) aD
 rw[HRZ.o];exact eW (V:=V0) (r:=.er _) (t:=⟨Ek,sk,fk,Ea,sa,fa,Ef,sf,ff⟩) (y:=((⟨yo,ya,yb⟩:Nd),yat,yk)) HRO.o HL.o aA (by have:=HV0.o;omega) HM6.o HT6.o ⟨HE.o,f6,HS6.o⟩
theorem wF {w0 w:World} {g f:Nat} {v:bN} {b:Bk} {R:Nat->Prop} {tx:iL} {x:TT} (hs:i8 w0 g v b f 0 w) (hR:iU g w R) (htx:dJ R w tx x) (hx:cL x<=100000) :
 Calls Tryz.prog 79 #[E (some ⟨g,0,I⟩),.agg (eD tx x.1)] w (yN w0 g v b R w (if 4096<cL x then .er 9 else .ok x f)):=by
 have HSZ:=aB (fun (W:World) (h:Below w.heap.size w W)=>qF (R:=R) (fun q hq=>Nat.lt_of_lt_of_le (hR q hq).1 h.size) (htx.below hR.lt h) (show cL x<=1000000000 by omega));have HTX:=aB (fun (W:World) (h:Below w.heap.size w W)=>htx.below hR.lt h);obtain⟨X,hX⟩ : ∃X,X=cL x:=⟨_,rfl⟩;rw[<-hX] at HSZ ⊢;obtain⟨res,hres⟩ : ∃r,r=(if 4096<X then RV.er 9 else RV.ok x f):=⟨_,rfl⟩;rw[<-hres];have HRES:=aB hres;clear hres;obtain⟨⟨xo,xa,xb⟩,xat,xk⟩:=x;obtain⟨Ak,nk,ck,Aa,na,ca,Af,nf,cf⟩:=tx;simp only at HSZ HTX;have HB2:=aB (bF w (J #[O Y xo,O Y xa,O Y xb,Z Ak nk ck,Z Aa na ca,Z Af nf cf] 49) (J #[O Y 0,O Y 0,O Y 0,Z I 0 0,Z I 0 0,Z I 0 0] 49));have HX2:Hid (aS ((w.alloc (J #[O Y xo,O Y xa,O Y xb,Z Ak nk ck,Z Aa na ca,Z Af nf cf] 49)).alloc (J #[O Y 0,O Y 0,O Y 0,Z I 0 0,Z I 0 0,Z I 0 0] 49)) w.heap.size 49 #[O Y xo,O Y xa,O Y xb,Z Ak nk ck,Z Aa na ca,Z Af nf cf]):=aB ((aS.new _ _ _).alloc _);have HZ2:Hid (aS ((w.alloc (J #[O Y xo,O Y xa,O Y xb,Z Ak nk ck,Z Aa na ca,Z Af nf cf] 49)).alloc (J #[O Y 0,O Y 0,O Y 0,Z I 0 0,Z I 0 0,Z I 0 0] 49)) (w.heap.size+1) 49 #[O Y 0,O Y 0,O Y 0,Z I 0 0,Z I 0 0,Z I 0 0]):=aB (aS.new' aD);have HS:=aB hs;have HRO:=aB hR;have HL:=aB hs.lt;obtain⟨V0,hV0⟩ : ∃V0:World,V0.heap.size=w.heap.size+2:=⟨((w.alloc (J #[O Y xo,O Y xa,O Y xb,Z Ak nk ck,Z Aa na ca,Z Af nf cf] 49)).alloc (J #[O Y 0,O Y 0,O Y 0,Z I 0 0,Z I 0 0,Z I 0 0] 49)),by simp⟩;have HV0:=aB hV0;clear hs hR htx hx hX hV0;show Calls Tryz.prog 79 #[E (some ⟨g,0,I⟩),.agg #[O Y xo,O Y xa,O Y xb,Z Ak nk ck,Z Aa na ca,Z Af nf cf]] w _;go_in;go_wp2_with fail;refine (HSZ.o _ HB2.o).mono ?_;rintro e w4 ⟨rfl,hb4⟩;have HB5:=dA HB2 hb4;have HX5:=aB (HX2.o.below hb4 HX2.o.lt);have HZ5:=aB (HZ2.o.below hb4 HZ2.o.lt);have HS5:=aB (HS.o.below HB5.o);have hb4s:=hb4.size;rw[show ((w.alloc (J #[O Y xo,O Y xa,O Y xb,Z Ak nk ck,Z Aa na ca,Z Af nf cf] 49)).alloc (J #[O Y 0,O Y 0,O Y 0,Z I 0 0,Z I 0 0,Z I 0 0] 49)).heap.size=w.heap.size+2 from by simp] at hb4s;have HB4S:=aB hb4s;clear hb4 hb4s;by_cases hbig:4096<X
 · have HRZ:=aB (HRES.o.trans (if_pos hbig));have d1:decide ((X:Int)>4096)=true:=decide_eq_true aA;go_wp2_with fail;refine (gQ HS5.o 9 aE (fun _=>False)).mono ?_;rintro e w6 ⟨hm6,⟨Ek,sk,fk,Ea,sa,fa,Ef,sf,ff⟩,⟨⟨yo,ya,yb⟩,yat,yk⟩,rfl,ht6,hz6,f6,hs6⟩;have hne:w.heap.size+1 ≠ g:=by have:=HL.o;omega
   have HZ6:=aB (HZ5.o.movedO hne hm6);have HM6:=aB ((aW.of_below (S:=fun q=>q=g) (row:=I) HB5.o).trans (row':=I) hm6 (fun _ e=>by cases e));have HT6:Hid (dJ (aZ R V0 w6) w6 ⟨Ek,sk,fk,Ea,sa,fa,Ef,sf,ff⟩ ((⟨yo,ya,yb⟩:Nd),yat,yk)):=aB (ht6.keep fun q hq=>⟨by
    rcases hq with hq | hq
    · exact hq.elim
    exact Or.inr ⟨by have:=hq.1;have:=HB4S.o;have:=HV0.o;omega,hq.2⟩,fun _=>rfl⟩)
   have HS6:=aB hs6;have zz:=aS.cell HZ6.o;have zf:=aS.frozen HZ6.o;clear hm6 ht6 hs6 hz6;go_wp2_with fail;refine bodyPost_ret (v:=.agg #[O Y yo,O Y ya,O Y yb,Z Ek sk fk,Z Ea sa fa,Z Ef sf ff]) ?_ rfl ?_
   · exact nF (g:=w.heap.size+1) (bK HZ6.o _ _ _ _ _ _) aD
   rw[HRZ.o];exact eW (V:=V0) (r:=.er _) (t:=⟨Ek,sk,fk,Ea,sa,fa,Ef,sf,ff⟩) (y:=((⟨yo,ya,yb⟩:Nd),yat,yk)) HRO.o HL.o aA (by have:=HV0.o;omega) HM6.o HT6.o ⟨by decide,f6,HS6.o⟩
 have HRZ:=aB (HRES.o.trans (if_neg hbig));have d1:decide ((X:Int)>4096)=false:=decide_eq_false aA;have zx:=aS.cell HX5.o;have zz:=aS.cell HZ5.o;have zf:=aS.frozen HZ5.o;go_wp2_with fail;refine bodyPost_ret (v:=.agg #[O Y xo,O Y xa,O Y xb,Z Ak nk ck,Z Aa na ca,Z Af nf cf]) ?_ rfl ?_
 · exact nF (g:=w.heap.size+1) (bK HZ5.o _ _ _ _ _ _) aD
 rw[HRZ.o];exact eW (V:=V0) (r:=.ok _ _) (t:=⟨Ak,nk,ck,Aa,na,ca,Af,nf,cf⟩) (y:=((⟨xo,xa,xb⟩:Nd),xat,xk)) HRO.o HL.o aA (by have:=HV0.o;omega) (aW.of_below HB5.o) ((HTX.o _ HB5.o).keep fun q hq=>⟨Or.inl hq,fun _=>rfl⟩) ⟨rfl,HS5.o⟩
end Go.Proofs.YtjllmblbbgojbaaGreat
