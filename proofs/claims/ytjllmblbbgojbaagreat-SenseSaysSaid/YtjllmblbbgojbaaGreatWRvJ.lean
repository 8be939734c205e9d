/- The reference's ValueOf and EvalOf. -/
import Derived.Test.YtjllmblbbgojbaaGreatWShort3
import Derived.Test.YtjllmblbbgojbaaGreatWRvG
import Derived.Test.YtjllmblbbgojbaaGreatWRvR
import Derived.Test.YtjllmblbbgojbaaGreatWSenseJ
import Derived.Test.YtjllmblbbgojbaaGreatWSized
import Derived.Test.YtjllmblbbgojbaaGreatWRefRi
import Derived.Test.YtjllmblbbgojbaaGreatWKidss
namespace Go.Proofs.YtjllmblbbgojbaaGreat
open Go.Value renaming slice → O
open Go.Obj renaming cells → X
open Option renaming none → Y, some → Z
open Go.Lib (hid)
set_option maxHeartbeats 8000000
set_option maxRecDepth 100000
set_option linter.unusedVariables false
set_option linter.unusedSimpArgs false
open Go.RowKit
theorem wR {w:World} {v:aZ} {b:Bk} (hb:bM w v b) {A:Option Addr} {n c:Nat} {l:List Nd} (ht:aP w A n c l) :
 Calls Tryz.prog 8 #[.agg #[.int .i64 b.vars,O v.Ao v.no v.co,O v.Ae v.ne v.ce,.int .i64 b.nat,O v.Ap v.np v.cp],O A n c] w (fun e w'=>e=.returned (.tuple #[.bool (decide (eM b 0 l=0)&&cJ (dX l)),.int .i64 (eM b 0 l)])/\Below w.heap.size w w'):=by
 have hb0:=aB w (X #[.int .i64 b.vars,O v.Ao v.no v.co,O v.Ae v.ne v.ce,.int .i64 b.nat,O v.Ap v.np v.cp] 26);have HFI:=hid (pU (hb.below hb0) 0 (ht.below hb0));obtain ⟨z,hz⟩ : ∃ z,z=eM b 0 l:=⟨_,rfl⟩;rw [<-hz] at HFI ⊢;have HB0:=hid hb0;have HK0:=hid (aD.new w 26 #[.int .i64 b.vars,O v.Ao v.no v.co,O v.Ae v.ne v.ce,.int .i64 b.nat,O v.Ap v.np v.cp]);have HOF:=hid (fun (W:World) (h:Below w.heap.size w W) (hz:eM b 0 l=0)=>sE (b:=b) (ht.below h) hz);have HZ:=hid hz;have HFT:=hid (fun (hz:eM b 0 l=0)=>(kP hz).2);obtain ⟨⟨⟨yo,ya,yb⟩,yat,yk⟩,hY⟩ : ∃ y,y=dX l:=⟨_,rfl⟩;rw [<-hY] at HOF HFT ⊢;simp only at HOF;obtain ⟨vy,hvy⟩ : ∃ x,x=cJ ((⟨yo,ya,yb⟩:Nd),yat,yk):=⟨_,rfl⟩;have HVY:=hid hvy;rw [<-hvy];have zk0:=aD.cell HK0.o;clear hb0 hb ht hz hY hvy;go_in;go_wp2_with fail
 refine (HFI.o).mono ?_;rintro e w1 ⟨rfl,hb1⟩;have HB1:=cO HB0 hb1;clear hb1 zk0;by_cases h0:z=0;rotate_left
 · have de:(z != 0)=true:=by simpa using h0
   have HE:=hid h0;clear h0;go_wp2_with fail
   go_ret2;exact ⟨by rw [decide_eq_false HE.o];rfl,HB1.o⟩
 subst h0;have HZ0:=hid HZ.o.symm;have HO:=hid (HOF.o w1 HB1.o HZ0.o);have HF:=hid (HFT.o HZ0.o);go_wp2_with fail
 refine (HO.o).mono ?_;rintro e w2 ⟨hb2,⟨yA,yn,yc,yB,ym,yd,yC,yp,ye⟩,rfl,hty⟩;have hb3:=hb2.trans ((aB w2 (X #[.int .i64 yo,.int .i64 ya,.int .i64 yb,O yA yn yc,O yB ym yd,O yC yp ye] 49)).mono hb2.size);have HB3:=cO HB1 hb3;have HTY:=hid (hty.below (fun q hq=>hq.2) (aB w2 (X #[.int .i64 yo,.int .i64 ya,.int .i64 yb,O yA yn yc,O yB ym yd,O yC yp ye] 49)));have hsz:w2.heap.size<=(w2.alloc (X #[.int .i64 yo,.int .i64 ya,.int .i64 yb,O yA yn yc,O yB ym yd,O yC yp ye] 49)).heap.size:=(aB w2 (X #[.int .i64 yo,.int .i64 ya,.int .i64 yb,O yA yn yc,O yB ym yd,O yC yp ye] 49)).size;have HVA:=hid (jV (fun q hq=>Nat.lt_of_lt_of_le hq.2 hsz) HTY.o HF.o.rt);rw [<-HVY.o] at HVA;have zy:=aD.cell (aD.new w2 49 #[.int .i64 yo,.int .i64 ya,.int .i64 yb,O yA yn yc,O yB ym yd,O yC yp ye]);clear hb2 hb3 hty hsz;go_wp2_with fail
 refine (HVA.o).mono ?_;rintro e w4 ⟨rfl,hb4⟩;have HB4:=cO HB3 hb4;clear hb4 zy;go_wp2_with fail
 go_ret2;exact ⟨by simp,HB4.o⟩
theorem GY (w:World) (z:Int) (hz:(Lit.int .i64 z).wf=true):Calls Tryz.prog 25 #[.int .i64 z] w (fun e w'=>e=.returned (.int .i64 (min (max z 0) 100000))/\w'=w):=by
 go_in;go_wp2_with fail
 all_goals (go_ret;exact ⟨bW aA,rfl⟩)
theorem JC {b:Bk} {w:World} {R:Nat->Prop} {t:fZ} {x:TT} (hR:∀ q,R q->q<w.heap.size) (ht:cQ R w t x) (hx:bR b 0 x):Calls Tryz.prog 27 #[.agg (dE t x.1)] w (j0 (aJ x) w):=by
 have e:row (.cons [] x.1 x.2.1 x.2.2 .nil)=aJ x:=by simp [row,aJ]
 have h:=JB hR ht (uI hx.okt.wf) (by rw [e];have h1:(aJ x).length=bU x:=rfl;have:=hx.few;omega);rw [e] at h;exact h
theorem zI {w:World} {v:aZ} {b:Bk} (hall:bY b=0->∀ w0 g d,bM w0 v b->qD w0 g v b d) (hb:bM w v b) {A:Option Addr} {n c:Nat} {l:List Nd} (fuel:Int) (hfu:(Lit.int .i64 fuel).wf=true) (ht:aP w A n c l) :
 Calls Tryz.prog 10 #[.agg #[.int .i64 b.vars,O v.Ao v.no v.co,O v.Ae v.ne v.ce,.int .i64 b.nat,O v.Ap v.np v.cp],O A n c,.int .i64 fuel] w (C2 (jD b l fuel) w):=by
 have hb0:=aB w (X #[.int .i64 b.vars,O v.Ao v.no v.co,O v.Ae v.ne v.ce,.int .i64 b.nat,O v.Ap v.np v.cp] 26);have HFI:=hid (pU (hb.below hb0) 0 (ht.below hb0));obtain ⟨q,hq⟩ : ∃ q,q=jD b l fuel:=⟨_,rfl⟩;rw [<-hq];have HQ:=hid hq;obtain ⟨z,hz⟩ : ∃ z,z=eM b 0 l:=⟨_,rfl⟩;rw [<-hz] at HFI;have HB0:=hid hb0;have HK0:=hid (aD.new w 26 #[.int .i64 b.vars,O v.Ao v.no v.co,O v.Ae v.ne v.ce,.int .i64 b.nat,O v.Ap v.np v.cp]);have HOF:=hid (fun (W:World) (h:Below w.heap.size w W) (hz:eM b 0 l=0)=>sE (b:=b) (ht.below h) hz);have HZ:=hid hz;have HFT:=hid (fun (hz:eM b 0 l=0)=>(kP hz).2);have HBV:=hid hb;obtain ⟨F,hF⟩ : ∃ F:Nat,(F:Int)=min (max fuel 0) 100000:=⟨(min (max fuel 0) 100000).toNat,by omega⟩;have HCL:=hid (fun W=>GY W fuel hfu);rw [<-hF] at HCL;have HFF:=hid hF;have HF5:Hid (F<=100000):=hid aA;obtain ⟨⟨⟨yo,ya,yb⟩,yat,yk⟩,hY⟩ : ∃ y,y=dX l:=⟨_,rfl⟩;have HYY:=hid hY;rw [<-hY] at HOF HFT;simp only at HOF;have zk0:=aD.cell HK0.o;clear hb0 hb ht hz hY hq hF hfu;go_in;go_wp2_with fail
 refine (HFI.o).mono ?_;rintro e w1 ⟨rfl,hb1⟩;have HB1:=cO HB0 hb1;have HK1:=hid (HK0.o.below hb1 HK0.o.lt);clear hb1 zk0;by_cases h0:z=0;rotate_left
 · have de:(z != 0)=true:=by simpa using h0
   have HQZ:Hid (q=([],0,z)):=hid (by rw [HQ.o];unfold jD;rw [if_pos (by rw [<-HZ.o];exact h0),<-HZ.o]);clear h0;go_wp2_with fail
   go_ret3
   exact lH HQZ.o HB1.o
 subst h0;have HZ0:=hid HZ.o.symm;have HO:=hid (HOF.o w1 HB1.o HZ0.o);have HFY:=hid (HFT.o HZ0.o);have HRT:Hid (bY b=0):=hid (rD HZ0.o).1;have HQ2:Hid (q=match eO b (F+1) F ((⟨yo,ya,yb⟩:Nd),yat,yk) with | .ok y f=>(aJ y,(f:Int),0) | .er z=>([],0,z)):=hid (by
  rw [HQ.o];unfold jD;rw [if_neg (by rw [HZ0.o];simp),<-HFF.o,Int.toNat_natCast,<-HYY.o];cases eO b (F+1) F ((⟨yo,ya,yb⟩:Nd),yat,yk)<;>rfl)
 go_wp2_with fail
 refine (HO.o).mono ?_;rintro e w2 ⟨hb2,⟨yA,yn,yc,yB,ym,yd,yC,yp,ye⟩,rfl,hty⟩;have hb3:=hb2.trans ((aB w2 (X #[.int .i64 yo,.int .i64 ya,.int .i64 yb,O yA yn yc,O yB ym yd,O yC yp ye] 49)).mono hb2.size);have HB3:=cO HB1 hb3;have HK3:=hid (HK1.o.below hb3 HK1.o.lt);have HY3:=hid (aD.new w2 49 #[.int .i64 yo,.int .i64 ya,.int .i64 yb,O yA yn yc,O yB ym yd,O yC yp ye]);have HTY:=hid ((hty.below (fun q hq=>hq.2) (aB w2 (X #[.int .i64 yo,.int .i64 ya,.int .i64 yb,O yA yn yc,O yB ym yd,O yC yp ye] 49))).keep (R':=fun q=>w.heap.size<=q/\q<(w2.alloc (X #[.int .i64 yo,.int .i64 ya,.int .i64 yb,O yA yn yc,O yB ym yd,O yC yp ye] 49)).heap.size) (w':=w2.alloc (X #[.int .i64 yo,.int .i64 ya,.int .i64 yb,O yA yn yc,O yB ym yd,O yC yp ye] 49)) fun q hq=>⟨⟨by have:=hq.1;have:=HB1.o.size;omega,Nat.lt_of_lt_of_le hq.2 (aB w2 (X #[.int .i64 yo,.int .i64 ya,.int .i64 yb,O yA yn yc,O yB ym yd,O yC yp ye] 49)).size⟩,fun o=>rfl⟩);obtain ⟨W3,hW3⟩ : ∃ W:World,W=w2.alloc (X #[.int .i64 yo,.int .i64 ya,.int .i64 yb,O yA yn yc,O yB ym yd,O yC yp ye] 49):=⟨_,rfl⟩;rw [<-hW3] at HB3 HK3 HY3 HTY;have HW3:=hid hW3;have HKP:=hid (fun (W:World) (hb:Below W3.heap.size W3 W)=>(by
  have a:=(HK3.o.below hb HK3.o.lt).cell;exact ⟨a 0,a 1,a 2,a 3,a 4⟩:W.cell? ⟨w.heap.size,0,Y⟩=Z (.int .i64 b.vars)/\W.cell? ⟨w.heap.size,1,Y⟩=Z (O v.Ao v.no v.co)/\W.cell? ⟨w.heap.size,2,Y⟩=Z (O v.Ae v.ne v.ce)/\W.cell? ⟨w.heap.size,3,Y⟩=Z (.int .i64 b.nat)/\W.cell? ⟨w.heap.size,4,Y⟩=Z (O v.Ap v.np v.cp)))
 have HBD:Hid (Below W3.heap.size W3 W3.drew):=hid (aI (Below.refl W3.heap.size W3) 1);have hdz:W3.drew.heap.size=W3.heap.size:=rfl;have HDZ:=hid hdz;clear hb2 hb3 hty hW3 hdz;go_wp2_with fail
 have hS6:=HW3.o.symm;try rw [hS6]
 clear hS6;refine wp_region_held_drew (S:=(fun w'=>w'.cell? ⟨w.heap.size,0,Y⟩=Z (.int .i64 b.vars)/\w'.cell? ⟨w.heap.size,1,Y⟩=Z (O v.Ao v.no v.co)/\w'.cell? ⟨w.heap.size,2,Y⟩=Z (O v.Ae v.ne v.ce)/\w'.cell? ⟨w.heap.size,3,Y⟩=Z (.int .i64 b.nat)/\w'.cell? ⟨w.heap.size,4,Y⟩=Z (O v.Ap v.np v.cp))) (by kernel_rfl) ?_ (fun hHeld => ?_)
 · (try dsimp only);exact HKP.o _ (by first | exact HBD.o | (have:=HBD.o;rw [HW3.o] at this;exact this))
 have hS6:=HW3.o.symm;try rw [hS6] at hHeld
 try rw [hS6]
 clear hS6;generalize W3.drew=V7 at *;refine tq 0 hHeld ?_;try simp only [p7]
 refine tq 1 hHeld ?_;try simp only [p7]
 refine r1 2 fun K hK => ?_;go_simp;go_at_call 25
 refine (HCL.o _).mono ?_;rintro e v1 ⟨rfl,hv⟩;subst v1;go_wp2_with fail
 refine hK.o _ _ (by exact HKP.o _ HBD.o) fun hHeld => ?_;clear hK K;try simp only [p7]
 refine tq 3 hHeld ?_;try simp only [p7]
 refine r1 4 fun K hK => ?_;go_simp;refine hK.o _ _ (by exact HKP.o _ (HBD.o.alloc HBD.o.size (X #[.int .i64 b.vars,O v.Ao v.no v.co,O v.Ae v.ne v.ce,.int .i64 b.nat,O v.Ap v.np v.cp,.int .i64 (F:Int),.int .i64 0] 62))) fun hHeld => ?_;clear hK K;try simp only [p7]
 refine tq 5 hHeld ?_;try simp only [p7]
 refine wpAnyH_done (by kernel_rfl) ?_ _;have hbk:bM V7 v b:=HBV.o.below (HB3.o.trans (HBD.o.mono HB3.o.size));have HST:Hid (gY V7 V7.heap.size v b F 0 (V7.alloc (X #[.int .i64 b.vars,O v.Ao v.no v.co,O v.Ae v.ne v.ce,.int .i64 b.nat,O v.Ap v.np v.cp,.int .i64 (F:Int),.int .i64 0] 62))):=hid ⟨aB _ _,aD.new _ _ _,Nat.le_refl _⟩;have hba:=aB V7 (X #[.int .i64 b.vars,O v.Ao v.no v.co,O v.Ae v.ne v.ce,.int .i64 b.nat,O v.Ap v.np v.cp,.int .i64 (F:Int),.int .i64 0] 62);have HB7:=hid ((HB3.o.trans (HBD.o.mono HB3.o.size)).trans (hba.mono (HB3.o.trans (HBD.o.mono HB3.o.size)).size));have HY7:=hid ((HY3.o.below HBD.o HY3.o.lt).below hba (HY3.o.below HBD.o HY3.o.lt).lt);have HT7:=hid ((HTY.o.below (fun q hq=>hq.2) HBD.o).below (fun q hq=>by rw [HDZ.o];exact hq.2) hba);have HOFF:Hid (gX V7.heap.size (V7.alloc (X #[.int .i64 b.vars,O v.Ao v.no v.co,O v.Ae v.ne v.ce,.int .i64 b.nat,O v.Ap v.np v.cp,.int .i64 (F:Int),.int .i64 0] 62)) (fun q=>w.heap.size<=q/\q<W3.heap.size)):=hid (fun q hq=>⟨by have:=hba.size;have:=hq.2;rw [<-HDZ.o] at this;omega,by have:=hq.2;rw [<-HDZ.o] at this;omega⟩);have HC:=hid ((hall HRT.o V7 V7.heap.size (F+1) hbk) (V7.alloc (X #[.int .i64 b.vars,O v.Ao v.no v.co,O v.Ae v.ne v.ce,.int .i64 b.nat,O v.Ap v.np v.cp,.int .i64 (F:Int),.int .i64 0] 62)) F _ ⟨yA,yn,yc,yB,ym,yd,yC,yp,ye⟩ ((⟨yo,ya,yb⟩:Nd),yat,yk) (Nat.lt_succ_self _) HF5.o HST.o HOFF.o HT7.o HFY.o);have HVV:Hid (w.heap.size<=V7.heap.size):=hid (by have:=HB3.o.size;rw [HDZ.o];exact this);have HFT1:=hid ((eW (b:=b) HRT.o (F+1)).1 F ((⟨yo,ya,yb⟩:Nd),yat,yk));have zy7:=aD.cell HY7.o;clear hbk hba hall;cases hE:eO b (F+1) F ((⟨yo,ya,yb⟩:Nd),yat,yk) with
 | er z =>
  rw [hE] at HC HQ2;have HQ3:Hid (q=([],0,z)):=HQ2;clear hE HQ2;go_wp2_with fail
  refine (HC.o).mono ?_;rintro e w8 ⟨hm8,⟨cA,cn,cc,cB,cm,cd,cC,cp,ce⟩,⟨⟨co,ca,cb⟩,cat,ck⟩,rfl,ht8,hz8,f8,hs8⟩;have de:(z != 0)=true:=by simpa using hz8
  have HB8:Hid (Below w.heap.size w w8):=hid ((HB3.o.trans (HBD.o.mono HB3.o.size)).trans (hs8.bel.mono HVV.o));have HS9:=hid (hs8.below (aB w8 (X #[.int .i64 co,.int .i64 ca,.int .i64 cb,O cA cn cc,O cB cm cd,O cC cp ce] 49)));have HB9:=hid (HB8.o.trans ((aB w8 (X #[.int .i64 co,.int .i64 ca,.int .i64 cb,O cA cn cc,O cB cm cd,O cC cp ce] 49)).mono HB8.o.size));have zg9:=aD.cell HS9.o.blk;clear hm8 ht8 hz8 hs8 zy7;go_wp2_with fail
  refine wp_region_held_drew (S:=(fun w'=>w'.cell? ⟨V7.heap.size,6,Y⟩=Z (.int .i64 z))) (by kernel_rfl) ?_ (fun hHeld => ?_)
  · (try dsimp only);exact zg9 6
  refine tq 0 hHeld ?_;try simp only [p7]
  refine tq 1 hHeld ?_;try simp only [p7]
  refine tq 2 hHeld ?_;try simp only [p7]
  refine tq 3 hHeld ?_;try simp only [p7]
  refine tq 4 hHeld ?_;try simp only [p7]
  refine tq 5 hHeld ?_;try simp only [p7]
  refine tq 6 hHeld ?_;try simp only [p7]
  refine wpAnyH_done (by kernel_rfl) ?_ _;go_wp2_with fail
  go_ret3
  exact lH HQ3.o (aI HB9.o 1)
 | ok y f' =>
  rw [hE] at HC HQ2;have HF8:=hid (HFT1.o y f' HFY.o hE);have HQ3:Hid (q=(aJ y,(f':Int),0)):=HQ2;clear hE HQ2;go_wp2_with fail
  refine (HC.o).mono ?_;rintro e w8 ⟨hm8,⟨cA,cn,cc,cB,cm,cd,cC,cp,ce⟩,⟨⟨co,ca,cb⟩,cat,ck⟩,rfl,ht8,hy8,hs8⟩;subst hy8;have hs8b:=hs8.bel;have HB8:Hid (Below w.heap.size w w8):=hid ((HB3.o.trans (HBD.o.mono HB3.o.size)).trans (hs8.bel.mono HVV.o));have HS9:=hid (hs8.below (aB w8 (X #[.int .i64 co,.int .i64 ca,.int .i64 cb,O cA cn cc,O cB cm cd,O cC cp ce] 49)));have HB9:=hid (HB8.o.trans ((aB w8 (X #[.int .i64 co,.int .i64 ca,.int .i64 cb,O cA cn cc,O cB cm cd,O cC cp ce] 49)).mono HB8.o.size));have zg9:=aD.cell HS9.o.blk;have zc9:=aD.cell (aD.new w8 49 #[.int .i64 co,.int .i64 ca,.int .i64 cb,O cA cn cc,O cB cm cd,O cC cp ce]);clear hm8 hs8 zy7;have HKQ:=hid (fun (W:World) (hb:Below (w8.alloc (X #[.int .i64 co,.int .i64 ca,.int .i64 cb,O cA cn cc,O cB cm cd,O cC cp ce] 49)).heap.size (w8.alloc (X #[.int .i64 co,.int .i64 ca,.int .i64 cb,O cA cn cc,O cB cm cd,O cC cp ce] 49)) W)=>(by
   have a:=((aD.new w8 49 #[.int .i64 co,.int .i64 ca,.int .i64 cb,O cA cn cc,O cB cm cd,O cC cp ce]).below hb (aD.new w8 49 #[.int .i64 co,.int .i64 ca,.int .i64 cb,O cA cn cc,O cB cm cd,O cC cp ce]).lt).cell;exact ⟨a 0,a 1,a 2,a 3,a 4,a 5,(hb.cell (p:=⟨V7.heap.size,5,Y⟩) HS9.o.lt).trans (zg9 5)⟩:W.cell? ⟨w8.heap.size,0,Y⟩=Z (.int .i64 co)/\W.cell? ⟨w8.heap.size,1,Y⟩=Z (.int .i64 ca)/\W.cell? ⟨w8.heap.size,2,Y⟩=Z (.int .i64 cb)/\W.cell? ⟨w8.heap.size,3,Y⟩=Z (O cA cn cc)/\W.cell? ⟨w8.heap.size,4,Y⟩=Z (O cB cm cd)/\W.cell? ⟨w8.heap.size,5,Y⟩=Z (O cC cp ce)/\W.cell? ⟨V7.heap.size,5,Y⟩=Z (.int .i64 (f':Int))))
  have HBE:Hid (Below (w8.alloc (X #[.int .i64 co,.int .i64 ca,.int .i64 cb,O cA cn cc,O cB cm cd,O cC cp ce] 49)).heap.size (w8.alloc (X #[.int .i64 co,.int .i64 ca,.int .i64 cb,O cA cn cc,O cB cm cd,O cC cp ce] 49)) (w8.alloc (X #[.int .i64 co,.int .i64 ca,.int .i64 cb,O cA cn cc,O cB cm cd,O cC cp ce] 49)).drew):=hid (aI (Below.refl _ _) 1);have hl8:∀ q,aK (fun q=>w.heap.size<=q/\q<W3.heap.size) (V7.alloc (X #[.int .i64 b.vars,O v.Ao v.no v.co,O v.Ae v.ne v.ce,.int .i64 b.nat,O v.Ap v.np v.cp,.int .i64 (F:Int),.int .i64 0] 62)) w8 q->q<w8.heap.size:=fun q hq=>by
   rcases hq with hq | hq
   · have h1:=hq.2;rw [<-HDZ.o] at h1;have h2:=hs8b.size;omega
   exact hq.2
  have HRW:=hid (JC (b:=b) (fun q hq=>Nat.lt_of_lt_of_le (hl8 q hq) (Nat.le_trans (aB w8 (X #[.int .i64 co,.int .i64 ca,.int .i64 cb,O cA cn cc,O cB cm cd,O cC cp ce] 49)).size HBE.o.size)) ((ht8.below hl8 (aB w8 (X #[.int .i64 co,.int .i64 ca,.int .i64 cb,O cA cn cc,O cB cm cd,O cC cp ce] 49))).below (fun q hq=>Nat.lt_of_lt_of_le (hl8 q hq) (aB w8 (X #[.int .i64 co,.int .i64 ca,.int .i64 cb,O cA cn cc,O cB cm cd,O cC cp ce] 49)).size) HBE.o) HF8.o.1.1);clear hl8 ht8 zc9;go_wp2_with fail
  refine wp_region_held_drew (S:=(fun w'=>w'.cell? ⟨w8.heap.size,0,Y⟩=Z (.int .i64 co)/\w'.cell? ⟨w8.heap.size,1,Y⟩=Z (.int .i64 ca)/\w'.cell? ⟨w8.heap.size,2,Y⟩=Z (.int .i64 cb)/\w'.cell? ⟨w8.heap.size,3,Y⟩=Z (O cA cn cc)/\w'.cell? ⟨w8.heap.size,4,Y⟩=Z (O cB cm cd)/\w'.cell? ⟨w8.heap.size,5,Y⟩=Z (O cC cp ce)/\w'.cell? ⟨V7.heap.size,5,Y⟩=Z (.int .i64 (f':Int)))) (by kernel_rfl) ?_ (fun hHeld => ?_)
  · (try dsimp only);exact HKQ.o _ HBE.o
  refine tq 0 hHeld ?_;try simp only [p7]
  refine tq 2 hHeld ?_;try simp only [p7]
  refine tq 3 hHeld ?_;try simp only [p7]
  refine tq 4 hHeld ?_;try simp only [p7]
  refine tq 5 hHeld ?_;try simp only [p7]
  refine r1 1 fun K hK => ?_;go_simp;go_at_call 27
  refine (HRW.o).mono ?_;rintro e v2 ⟨hb9,A9,n9,c9,rfl,ht9⟩;have HBG:=cO HBE hb9;have HBF:=hid (HB9.o.trans (HBG.o.mono HB9.o.size));have HT9:Hid (bA (AF w v2) v2 A9 n9 c9 (aJ ((⟨co,ca,cb⟩:Nd),cat,ck))):=hid (ht9.keep fun q hq=>⟨⟨by have:=hq.1;have:=HB9.o.size;have:=HBE.o.size;omega,hq.2⟩,fun _=>rfl⟩);clear hb9 ht9;go_wp2_with fail
  refine hK.o _ _ (by exact HKQ.o _ HBG.o) fun hHeld => ?_;clear hK K;try simp only [p7]
  refine tq 6 hHeld ?_;try simp only [p7]
  refine tq 7 hHeld ?_;try simp only [p7]
  refine tq 8 hHeld ?_;try simp only [p7]
  refine wpAnyH_done (by kernel_rfl) ?_ _;go_wp2_with fail
  go_ret3
  exact ⟨HBF.o,A9,n9,c9,by rw [HQ3.o];simp,by rw [HQ3.o];exact HT9.o⟩
end Go.Proofs.YtjllmblbbgojbaaGreat
