/- The reference's Eval at a let. -/
import Derived.Test.YtjllmblbbgojbaaGreatWShort3
import Derived.Test.YtjllmblbbgojbaaGreatWRvE6
namespace Go.Proofs.YtjllmblbbgojbaaGreat
open Go.Value renaming int → O, slice → Y
open Go.IntKind renaming i64 → X
open Option renaming none → Z, some → I
open Go.Obj renaming cells → J
open Go.Lib (hid)
open Go.RowKit
set_option linter.unusedSimpArgs false in
set_option linter.unusedVariables false in
set_option maxRecDepth 100000 in
set_option maxHeartbeats 8000000 in
theorem FT {w0:World} {g:Nat} {v:aZ} {b:Bk} {d:Nat} (hr:bY b=0) (hb:bM w0 v b) (H:qD w0 g v b d) (HG:s7 w0 g v b d) {w:World} {m:Nat} {R:Nat->Prop} {t:fZ} {x:TT} (hmd:m<d) (hm1:m<=100000) (hw:gY w0 g v b (m+1) 0 w) (hR:gX g w R) (ht:cQ R w t x) (fx:bR b 0 x) (hv:cJ x=false) (hop:x.1.op=7) :
 Calls Tryz.prog 26 #[.pointer (I ⟨g,0,Z⟩),.agg (dE t x.1)] w (xG w0 g v b R w (eO b (d+1) (m+1) x)):=by
 obtain ⟨o,p,q,hk⟩:=mS fx.okt hop;have fp:bR b 0 p:=fx.kid0 (i:=1) (by rw [hk];rfl) (by rw [hop];simp [aC]);have fq:bR b (0+1) q:=by
  have:=fx.kid (i:=2) (y:=q) (by rw [hk];rfl)
  rwa [show aC x.1.op x.1.b ((2:Nat):Int)=1 from by rw [hop];simp [aC]] at this
 have hres:eO b (d+1) (m+1) x=(eO b d m p).bind fun u f'=>if (bQ q u).2=0 then eO b d f' (bQ q u).1 else .er (bQ q u).2:=by
  rw [gZ];simp only [iC,hv,Bool.false_eq_true,if_false];rw [if_neg aA,if_pos hop,hk]
 have hnk:=ht.nk;rw [hk] at hnk;obtain ⟨bkp,okp,⟨pA,pn,pc,pB,pm,pd,pC,pp,pe⟩,hAp,hRp,hcp,htp⟩:=ht.kid (j:=1) (by rw [hnk];simp);rw [show cT x.2.2 1=p from by unfold cT;rw [hk];rfl] at hcp htp;obtain ⟨bkq,okq,⟨qA,qn,qc,qB,qm,qd,qC,qp,qe⟩,hAq,hRq,hcq,htq⟩:=ht.kid (j:=2) (by rw [hnk];simp);rw [show cT x.2.2 2=q from by unfold cT;rw [hk];rfl] at hcq htq;obtain ⟨rfl,rfl⟩:bkp=bkq/\okp=okq:=by rw [hAp] at hAq;injection hAq with e;injection e with e1 e2;exact ⟨e1,e2⟩
 rw [Nat.one_mul] at hcp;have HCp:=hid hcp;have HTp:=hid htp;have HRp:=hid hRp;have HCq:=hid hcq;have HTq:=hid htq;have HRq:=hid hRq;have HFP:=hid fp;have HFQ:=hid fq;have HA0:=hid hAp;obtain ⟨res,hr0⟩ : ∃ r,r=eO b (d+1) (m+1) x:=⟨_,rfl⟩;rw [<-hr0] at hres ⊢;have HRES:=hid hres;clear hres hr0 hAq hcp hcq htp htq hRp hRq fp fq hk;obtain ⟨⟨xo,xa,xb⟩,xat,xk⟩:=x;obtain ⟨xA,xn,xc,xB,xm,xd,xC,xp,xe⟩:=t;simp only at hop hnk HA0;have HOP:=hid hop;have HNK:=hid hnk;clear hAp hnk hop;obtain ⟨F,hF⟩ : ∃ F:Int,F=((m+1:Nat):Int):=⟨_,rfl⟩;have f0:decide (F=0)=false:=decide_eq_false aA;have f0':(F==0)=false:=by rw [beq_eq_false_iff_ne];omega
 have f1:IntKind.i64.wrap (F-1)=(m:Int):=by rw [IntKind.wrap_i64];omega
 have hgl:=hw.lt;have hba:=aS w (J #[O X xo,O X xa,O X xb,Y xA xn xc,Y xB xm xd,Y xC xp xe] 49) (J #[O X 0,O X 0,O X 0,Y Z 0 0,Y Z 0 0,Y Z 0 0] 49);have hw1:=hw.below hba;have zg:=aD.cell hw1.blk;have zgf:=aD.frozen hw1.blk;rw [<-hF] at zg;obtain ⟨hw2,hm2⟩:=hw.fuel m;have hsz:(w.setCell ⟨g,5,Z⟩ (O X (m:Int))).heap.size=w.heap.size:=by simp
 have hbb:=aS (w.setCell ⟨g,5,Z⟩ (O X (m:Int))) (J #[O X xo,O X xa,O X xb,Y xA xn xc,Y xB xm xd,Y xC xp xe] 49) (J #[O X 0,O X 0,O X 0,Y Z 0 0,Y Z 0 0,Y Z 0 0] 49);have hmv:=hm2.trans (row':=Z) (aG.of_below (S:=fun q=>q=g) (row:=Z) hbb) (fun _ e=>by cases e);have HIV:=hid (jV (hR.moved hmv.size).lt (ht.movedO hR hmv) fx.rt);obtain ⟨V0,hV0⟩ : ∃ V0:World,V0.heap.size=w.heap.size+2:=⟨((w.alloc (J #[O X xo,O X xa,O X xb,Y xA xn xc,Y xB xm xd,Y xC xp xe] 49)).alloc (J #[O X 0,O X 0,O X 0,Y Z 0 0,Y Z 0 0,Y Z 0 0] 49)),by simp⟩;have HV0:=hid hV0;have HA1:Hid (sW w0 g v b w V0 #[O X xo,O X xa,O X xb,Y xA xn xc,Y xB xm xd,Y xC xp xe] m 0 (((w.setCell ⟨g,5,Z⟩ (O X (m:Int))).alloc (J #[O X xo,O X xa,O X xb,Y xA xn xc,Y xB xm xd,Y xC xp xe] 49)).alloc (J #[O X 0,O X 0,O X 0,Y Z 0 0,Y Z 0 0,Y Z 0 0] 49))):=hid ⟨hw2.below hbb,hmv,by rw [hV0];simp,(aD.new' hsz.symm).alloc _,aD.new' (by simp)⟩;have HRO:=hid hR;have HL:=hid hgl;have HT:=hid ht;have HFX:=hid fx;have HFT:=hid (eW (b:=b) hr d);have HH:=hid H;have HHG:=hid HG;rw [hv] at HIV;clear hw hw1 hw2 hm2 hmv hba hbb hsz hF hR ht fx hv H HG hV0 hr;show Calls Tryz.prog 26 #[.pointer (I ⟨g,0,Z⟩),.agg #[O X xo,O X xa,O X xb,Y xA xn xc,Y xB xm xd,Y xC xp xe]] w _;go_in;go_wp2_with fail
 refine (HIV.o).mono ?_;rintro e w2 ⟨rfl,hb2⟩;have HA:=hid (HA1.o.below hb2);have zx:=aD.cell HA.o.x;clear hb2 zg zgf f0 f0' f1 HA1 HIV;obtain rfl:=HOP.o;obtain rfl:xA=I ⟨bkp,okp,Z⟩:=HA0.o;obtain rfl:xn=3:=HNK.o;obtain ⟨po,pa,pb,pat,pk,rfl⟩ : ∃ o a b c k,p=((⟨o,a,b⟩:Nd),c,k):=⟨p.1.op,p.1.a,p.1.b,p.2.1,p.2.2,rfl⟩;obtain ⟨qo,qa,qb,qat,qk,rfl⟩ : ∃ o a b c k,q=((⟨o,a,b⟩:Nd),c,k):=⟨q.1.op,q.1.a,q.1.b,q.2.1,q.2.2,rfl⟩;have zkp:=HCp.o.movedO (HRO.o _ HRp.o).1 (HRO.o _ HRp.o).2 HA.o.mv;obtain ⟨p0,p1,p2,p3,p4,p5⟩:=zkp;simp only at p0 p1 p2 p3 p4 p5;have HC:=hid (HH.o w2 m R ⟨pA,pn,pc,pB,pm,pd,pC,pp,pe⟩ ((⟨po,pa,pb⟩:Nd),pat,pk) hmd hm1 HA.o.st (HRO.o.moved HA.o.mv.size) (HTp.o.movedO HRO.o HA.o.mv) HFP.o);have HFT1:=hid (HFT.o.1 m ((⟨po,pa,pb⟩:Nd),pat,pk));cases hE:eO b d m ((⟨po,pa,pb⟩:Nd),pat,pk) with
 | er z =>
  rw [hE] at HC HRES;have HRZ:Hid (res=.er z):=HRES;clear hE HRES;go_wp2_with fail
  refine (HC.o).mono ?_;rintro e w3 ⟨hm3,⟨yA,yn,yc,yB,ym,yd,yC,yp,ye⟩,⟨⟨yo,ya,yb⟩,yat,yk⟩,rfl,ht3,hz3,f3,hs3⟩;have HA3:=hid (HA.o.call HL.o hm3 hs3);have hba:=aB w3 (J #[O X yo,O X ya,O X yb,Y yA yn yc,Y yB ym yd,Y yC yp ye] 49);have HA4:=hid (HA3.o.below hba);have HY4:=hid (((ht3.mix1 HA.o.sz:cQ (aK R V0 w3) w3 _ _)).mixB (V0:=V0) HRO.o HA3.o.mv.size hba);have zk4:=aD.cell (aD.new w3 49 #[O X yo,O X ya,O X yb,Y yA yn yc,Y yB ym yd,Y yC yp ye]);have zg4:=aD.cell HA4.o.st.blk;have HZ3:=hid hz3;have de:(z != 0)=true:=by simpa using hz3
  clear hm3 ht3 hs3 hba zx hz3 p0 p1 p2 p3 p4 p5;have zz:=aD.cell HA4.o.r;have zf:=aD.frozen HA4.o.r;go_wp2_with fail
  refine bodyPost_ret (v:=.agg #[O X yo,O X ya,O X yb,Y yA yn yc,Y yB ym yd,Y yC yp ye]) ?_ rfl ?_
  · exact bJ (g:=w.heap.size+1) (aW HA4.o.r _ _ _ _ _ _) (by simp)
  rw [HRZ.o];exact HA4.o.fin (t:=⟨yA,yn,yc,yB,ym,yd,yC,yp,ye⟩) (y:=((⟨yo,ya,yb⟩:Nd),yat,yk)) HRO.o HL.o HV0.o HY4.o ⟨HZ3.o,f3,HA4.o.st⟩
 | ok u f1 =>
  rw [hE] at HC HRES;have HF1:=hid (HFT1.o u f1 HFP.o hE);have hf1:=HF1.o.2;have HRES2:Hid (res=if (bQ ((⟨qo,qa,qb⟩:Nd),qat,qk) u).2=0 then eO b d f1 (bQ ((⟨qo,qa,qb⟩:Nd),qat,qk) u).1 else .er (bQ ((⟨qo,qa,qb⟩:Nd),qat,qk) u).2):=HRES;clear hE HRES;go_wp2_with fail
  refine (HC.o).mono ?_;rintro e w3 ⟨hm3,⟨yA,yn,yc,yB,ym,yd,yC,yp,ye⟩,⟨⟨yo,ya,yb⟩,yat,yk⟩,rfl,ht3,hy3,hs3⟩;subst hy3;have HA3:=hid (HA.o.call HL.o hm3 hs3);have hba:=aB w3 (J #[O X yo,O X ya,O X yb,Y yA yn yc,Y yB ym yd,Y yC yp ye] 49);have HA4:=hid ((HA3.o.below hba).below (aI (Below.refl _ _) 1));have HY4:=hid ((((ht3.mix1 HA.o.sz:cQ (aK R V0 w3) w3 _ _)).mixB (V0:=V0) HRO.o HA3.o.mv.size hba).mixB HRO.o (HA3.o.below hba).mv.size (aI (Below.refl _ _) 1));have HK4:=hid ((aD.new w3 49 #[O X yo,O X ya,O X yb,Y yA yn yc,Y yB ym yd,Y yC yp ye]).drewN 1);have zg4:=aD.cell (HA3.o.below hba).st.blk;have hne3:w3.heap.size ≠ g:=by have:=HL.o;have:=HA3.o.mv.size;omega
  have HNE:=hid hne3;clear hm3 ht3 hs3 hba hne3 p0 p1 p2 p3 p4 p5;obtain ⟨W4,hW4⟩ : ∃ W4:World,W4=(w3.alloc (J #[O X yo,O X ya,O X yb,Y yA yn yc,Y yB ym yd,Y yC yp ye] 49)).drewN 1:=⟨_,rfl⟩;rw [<-hW4] at HA4 HY4 HK4;have HW4:=hid hW4;have zx4:=aD.cell HA4.o.x;have zk4:=HCq.o.movedO (HRO.o _ HRq.o).1 (HRO.o _ HRq.o).2 HA4.o.mv;have HPT:=hid (uM HA4.o.st (gX.mixed HRO.o (by have:=HV0.o;have:=HL.o;omega) HA4.o.mv.size:gX g W4 (aK R V0 W4)) ((HTq.o.movedO HRO.o HA4.o.mv).inl) HY4.o HFQ.o HF1.o.1.1);have HSB:=hid (gV (b:=b) (free:=0) (Int.le_refl 0) aA HFQ.o HF1.o.1.1).2.2;have HS0:Hid (W4.cell? ⟨w.heap.size,3,Z⟩=I (Y (I ⟨bkp,okp,Z⟩) 3 xc)/\W4.cell? ⟨bkp,okp+2*6,Z⟩=I (O X qo)/\W4.cell? ⟨bkp,okp+2*6+1,Z⟩=I (O X qa)/\W4.cell? ⟨bkp,okp+2*6+2,Z⟩=I (O X qb)/\W4.cell? ⟨bkp,okp+2*6+3,Z⟩=I (Y qA qn qc)/\W4.cell? ⟨bkp,okp+2*6+4,Z⟩=I (Y qB qm qd)/\W4.cell? ⟨bkp,okp+2*6+5,Z⟩=I (Y qC qp qe)/\W4.cell? ⟨w3.heap.size,0,Z⟩=I (O X yo)/\W4.cell? ⟨w3.heap.size,1,Z⟩=I (O X ya)/\W4.cell? ⟨w3.heap.size,2,Z⟩=I (O X yb)/\W4.cell? ⟨w3.heap.size,3,Z⟩=I (Y yA yn yc)/\W4.cell? ⟨w3.heap.size,4,Z⟩=I (Y yB ym yd)/\W4.cell? ⟨w3.heap.size,5,Z⟩=I (Y yC yp ye)):=hid (by
   obtain ⟨k0,k1,k2,k3,k4,k5⟩:=zk4;exact ⟨zx4 3,k0,k1,k2,k3,k4,k5,HK4.o.cell 0,HK4.o.cell 1,HK4.o.cell 2,HK4.o.cell 3,HK4.o.cell 4,HK4.o.cell 5⟩)
  have HKP:=hid (fun (W:World) (hm:aG (fun q=>q=g) Z W4 W)=>(by
   have hc:∀ q,q<W4.heap.size->q ≠ g->∀ o,W.cell? ⟨q,o,Z⟩=W4.cell? ⟨q,o,Z⟩:=fun q hl hq o=>aH (hm.block q hl hq (by simp)) o;have a:=hc w.heap.size HA4.o.x.lt (by have:=HL.o;omega);have e:=hc bkp (by have:=(HRO.o _ HRq.o).1;have:=HA4.o.mv.size;omega) (HRO.o _ HRq.o).2;have f:=hc w3.heap.size HK4.o.lt HNE.o;obtain ⟨k0,k1,k2,k3,k4,k5,k6,k7,k8,k9,k10,k11,k12⟩:=HS0.o;exact ⟨(a _).trans k0,(e _).trans k1,(e _).trans k2,(e _).trans k3,(e _).trans k4,(e _).trans k5,(e _).trans k6,(f _).trans k7,(f _).trans k8,(f _).trans k9,(f _).trans k10,(f _).trans k11,(f _).trans k12⟩:W.cell? ⟨w.heap.size,3,Z⟩=I (Y (I ⟨bkp,okp,Z⟩) 3 xc)/\W.cell? ⟨bkp,okp+2*6,Z⟩=I (O X qo)/\W.cell? ⟨bkp,okp+2*6+1,Z⟩=I (O X qa)/\W.cell? ⟨bkp,okp+2*6+2,Z⟩=I (O X qb)/\W.cell? ⟨bkp,okp+2*6+3,Z⟩=I (Y qA qn qc)/\W.cell? ⟨bkp,okp+2*6+4,Z⟩=I (Y qB qm qd)/\W.cell? ⟨bkp,okp+2*6+5,Z⟩=I (Y qC qp qe)/\W.cell? ⟨w3.heap.size,0,Z⟩=I (O X yo)/\W.cell? ⟨w3.heap.size,1,Z⟩=I (O X ya)/\W.cell? ⟨w3.heap.size,2,Z⟩=I (O X yb)/\W.cell? ⟨w3.heap.size,3,Z⟩=I (Y yA yn yc)/\W.cell? ⟨w3.heap.size,4,Z⟩=I (Y yB ym yd)/\W.cell? ⟨w3.heap.size,5,Z⟩=I (Y yC yp ye)))
  clear zx4 zk4 zx hW4;obtain ⟨⟨sy,sz⟩,hsy⟩ : ∃ q,q=bQ ((⟨qo,qa,qb⟩:Nd),qat,qk) ((⟨yo,ya,yb⟩:Nd),yat,yk):=⟨_,rfl⟩;rw [<-hsy] at HPT HSB HRES2;simp only at HPT HSB HRES2;clear hsy;go_wp2_with fail
  by_cases h0:sz=0
  · have HRZ:=hid (HRES2.o.trans (if_pos h0));have HFS:=hid (HSB.o h0);rw [if_pos h0] at HPT;clear HSB HRES2 h0
    skip
    refine cF 9 (fun w'=>w'.cell? ⟨w.heap.size,3,Z⟩=I (Y (I ⟨bkp,okp,Z⟩) 3 xc)/\w'.cell? ⟨bkp,okp+2*6,Z⟩=I (O X qo)/\w'.cell? ⟨bkp,okp+2*6+1,Z⟩=I (O X qa)/\w'.cell? ⟨bkp,okp+2*6+2,Z⟩=I (O X qb)/\w'.cell? ⟨bkp,okp+2*6+3,Z⟩=I (Y qA qn qc)/\w'.cell? ⟨bkp,okp+2*6+4,Z⟩=I (Y qB qm qd)/\w'.cell? ⟨bkp,okp+2*6+5,Z⟩=I (Y qC qp qe)/\w'.cell? ⟨w3.heap.size,0,Z⟩=I (O X yo)/\w'.cell? ⟨w3.heap.size,1,Z⟩=I (O X ya)/\w'.cell? ⟨w3.heap.size,2,Z⟩=I (O X yb)/\w'.cell? ⟨w3.heap.size,3,Z⟩=I (Y yA yn yc)/\w'.cell? ⟨w3.heap.size,4,Z⟩=I (Y yB ym yd)/\w'.cell? ⟨w3.heap.size,5,Z⟩=I (Y yC yp ye)) (by kernel_rfl) ?_ (fun hHeld => ?_)
    · (try dsimp only);first | exact HS0.o | (have:=HS0.o;rw [HW4.o] at this;exact this)
    have hW5:=HW4.o.symm;have hW6:(w3.alloc (J #[O X yo,O X ya,O X yb,Y yA yn yc,Y yB ym yd,Y yC yp ye] 49)).drew=W4:=HW4.o.symm;try rw [hW5] at hHeld
    try rw [hW6] at hHeld
    first | rw [hW5] | rw [hW6]
    clear hW5 hW6;refine te 0 hHeld ?_;try simp only [p7]
    refine te 1 hHeld ?_;try simp only [p7]
    refine te 2 hHeld ?_;try simp only [p7]
    refine te 3 hHeld ?_;try simp only [p7]
    refine te 4 hHeld ?_;try simp only [p7]
    refine te 5 hHeld ?_;try simp only [p7]
    refine te 6 hHeld ?_;try simp only [p7]
    refine aO (i:=7) (by kernel_rfl) rfl rfl (fun K hK => ?_);go_simp;go_at_call 46
    refine (HPT.o).mono ?_;rintro e w5 ⟨hm5,⟨cA,cn,cc,cB,cm,cd,cC,cp,ce⟩,⟨⟨co,ca,cb⟩,cat,ck⟩,rfl,ht5,hc5,hs5⟩;subst hc5;have HA5:=hid (HA4.o.call HL.o hm5 hs5);have HT5:=hid (cQ.mix2 ht5 HA4.o.sz hm5.size);have HM45:=hid hm5;clear hm5 ht5 hs5;go_wp2_with fail
    refine hK.o _ _ (fun _ => ?_) ?_
    · (try dsimp only);exact HKP.o _ HM45.o
    clear hK K;try simp only [p7]
    replace hHeld:=HKP.o _ HM45.o
    refine aO (i:=8) (by kernel_rfl) rfl rfl (fun K hK => ?_);go_simp;go_at_call 26
    refine (HH.o w5 f1 (aK R V0 w5) ⟨cA,cn,cc,cB,cm,cd,cC,cp,ce⟩ ((⟨co,ca,cb⟩:Nd),cat,ck) aA aA HA5.o.st (gX.mixed HRO.o (by have:=HV0.o;have:=HL.o;omega) HA5.o.mv.size) HT5.o HFS.o).mono ?_;rintro e w9 ⟨hm9,⟨eA,en,ec,eB,em,ed,eC,ep,ee⟩,⟨⟨eo,ea,eb⟩,eat,ek⟩,rfl,ht9,hr9⟩;have HZ9:=hid (HA5.o.r.movedO (by have:=HL.o;omega) hm9);have HM9:=hid (HA5.o.mv.trans (row':=Z) hm9 (fun _ e=>by cases e));have HT9:=hid (cQ.mix2 ht9 HA5.o.sz hm9.size);have HR9:=hid hr9;have HM49:=hid (HM45.o.trans (row':=Z) hm9 (fun _ e=>by cases e));clear hm9 ht9 hr9;go_wp2_with fail
    refine hK.o _ _ (fun _ => ?_) ?_
    · (try dsimp only);exact HKP.o _ HM49.o
    clear hK K;try simp only [p7]
    replace hHeld:=HKP.o _ HM49.o
    have zz:=aD.cell HZ9.o;have zf:=aD.frozen HZ9.o;refine aO (i:=9) (by kernel_rfl) rfl rfl (fun K hK => ?_);go_simp;refine hK.o _ _ (fun h=>absurd rfl h) ?_;clear hK K;try simp only [p7]
    refine cN (by kernel_rfl) ?_ _;go_wp2_with fail
    refine bodyPost_ret (v:=.agg #[O X eo,O X ea,O X eb,Y eA en ec,Y eB em ed,Y eC ep ee]) ?_ rfl ?_
    · exact bJ (g:=w.heap.size+1) (aW HZ9.o _ _ _ _ _ _) (by simp)
    rw [HRZ.o];exact eD (V:=V0) (t:=⟨eA,en,ec,eB,em,ed,eC,ep,ee⟩) (y:=((⟨eo,ea,eb⟩:Nd),eat,ek)) HRO.o HL.o aA (by have:=HV0.o;omega) HM9.o HT9.o HR9.o
  · have HRZ:=hid (HRES2.o.trans (if_neg h0));rw [if_neg h0] at HPT;clear HSB HRES2 h0
    skip
    refine cF 9 (fun w'=>w'.cell? ⟨w.heap.size,3,Z⟩=I (Y (I ⟨bkp,okp,Z⟩) 3 xc)/\w'.cell? ⟨bkp,okp+2*6,Z⟩=I (O X qo)/\w'.cell? ⟨bkp,okp+2*6+1,Z⟩=I (O X qa)/\w'.cell? ⟨bkp,okp+2*6+2,Z⟩=I (O X qb)/\w'.cell? ⟨bkp,okp+2*6+3,Z⟩=I (Y qA qn qc)/\w'.cell? ⟨bkp,okp+2*6+4,Z⟩=I (Y qB qm qd)/\w'.cell? ⟨bkp,okp+2*6+5,Z⟩=I (Y qC qp qe)/\w'.cell? ⟨w3.heap.size,0,Z⟩=I (O X yo)/\w'.cell? ⟨w3.heap.size,1,Z⟩=I (O X ya)/\w'.cell? ⟨w3.heap.size,2,Z⟩=I (O X yb)/\w'.cell? ⟨w3.heap.size,3,Z⟩=I (Y yA yn yc)/\w'.cell? ⟨w3.heap.size,4,Z⟩=I (Y yB ym yd)/\w'.cell? ⟨w3.heap.size,5,Z⟩=I (Y yC yp ye)) (by kernel_rfl) ?_ (fun hHeld => ?_)
    · (try dsimp only);first | exact HS0.o | (have:=HS0.o;rw [HW4.o] at this;exact this)
    have hW5:=HW4.o.symm;have hW6:(w3.alloc (J #[O X yo,O X ya,O X yb,Y yA yn yc,Y yB ym yd,Y yC yp ye] 49)).drew=W4:=HW4.o.symm;try rw [hW5] at hHeld
    try rw [hW6] at hHeld
    first | rw [hW5] | rw [hW6]
    clear hW5 hW6;refine te 0 hHeld ?_;try simp only [p7]
    refine te 1 hHeld ?_;try simp only [p7]
    refine te 2 hHeld ?_;try simp only [p7]
    refine te 3 hHeld ?_;try simp only [p7]
    refine te 4 hHeld ?_;try simp only [p7]
    refine te 5 hHeld ?_;try simp only [p7]
    refine te 6 hHeld ?_;try simp only [p7]
    refine aO (i:=7) (by kernel_rfl) rfl rfl (fun K hK => ?_);go_simp;go_at_call 46
    refine (HPT.o).mono ?_;rintro e w5 ⟨hm5,⟨cA,cn,cc,cB,cm,cd,cC,cp,ce⟩,⟨⟨co,ca,cb⟩,cat,ck⟩,rfl,ht5,hz5,f5,hs5⟩;have HA5:=hid (HA4.o.call HL.o hm5 hs5);have HT5:=hid (cQ.mix2 ht5 HA4.o.sz hm5.size);have HM45:=hid hm5;have HZ5:=hid hz5;clear hm5 ht5 hs5 hz5;go_wp2_with fail
    refine hK.o _ _ (fun _ => ?_) ?_
    · (try dsimp only);exact HKP.o _ HM45.o
    clear hK K;try simp only [p7]
    replace hHeld:=HKP.o _ HM45.o
    refine aO (i:=8) (by kernel_rfl) rfl rfl (fun K hK => ?_);go_simp;go_at_call 26
    refine (pH HA5.o.st HZ5.o ⟨cA,cn,cc,cB,cm,cd,cC,cp,ce⟩ ⟨co,ca,cb⟩).mono ?_;rintro e w9 ⟨hb9,rfl⟩;have HA9:=hid (HA5.o.below hb9);have HT9:=hid (HT5.o.mixB HRO.o HA5.o.mv.size hb9);have HM49:=hid (HM45.o.trans (row':=Z) (aG.of_below hb9) (fun _ e=>by cases e));have HZ9:=hid HA9.o.r;clear hb9;go_wp2_with fail
    refine hK.o _ _ (fun _ => ?_) ?_
    · (try dsimp only);exact HKP.o _ HM49.o
    clear hK K;try simp only [p7]
    replace hHeld:=HKP.o _ HM49.o
    have zz:=aD.cell HZ9.o;have zf:=aD.frozen HZ9.o;refine aO (i:=9) (by kernel_rfl) rfl rfl (fun K hK => ?_);go_simp;refine hK.o _ _ (fun h=>absurd rfl h) ?_;clear hK K;try simp only [p7]
    refine cN (by kernel_rfl) ?_ _;go_wp2_with fail
    refine bodyPost_ret (v:=.agg #[O X co,O X ca,O X cb,Y cA cn cc,Y cB cm cd,Y cC cp ce]) ?_ rfl ?_
    · exact bJ (g:=w.heap.size+1) (aW HZ9.o _ _ _ _ _ _) (by simp)
    rw [HRZ.o];exact HA9.o.fin (t:=⟨cA,cn,cc,cB,cm,cd,cC,cp,ce⟩) (y:=((⟨co,ca,cb⟩:Nd),cat,ck)) HRO.o HL.o HV0.o HT9.o ⟨HZ5.o,f5,HA9.o.st⟩
end Go.Proofs.YtjllmblbbgojbaaGreat
