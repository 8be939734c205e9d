/- The reference's Eval at a let. -/
import Derived.Test.YtjllmblbbgojbaaGreatXRvE6
namespace Go.Proofs.YtjllmblbbgojbaaGreat
set_option linter.unusedVariables false
set_option linter.unusedSimpArgs false
open Go.RowKit
open Go.Value renaming int → O, slice → Y
open Go.IntKind renaming i64 → X
open Option renaming none → Z, some → I
open Go.Obj renaming cells → J
open Go.Lib renaming hid->aB
set_option maxRecDepth 100000 in
set_option maxHeartbeats 8000000 in
theorem IG {w0:World} {g:Nat} {v:bN} {b:Bk} {d:Nat} (hr:cT b=0) (hb:bV w0 v b) (H:q8 w0 g v b d) (HG:uD w0 g v b d) {w:World} {m:Nat} {R:Nat->Prop} {t:iL} {x:TT} (hmd:m<d) (hm1:m<=100000) (hw:i8 w0 g v b (m+1) 0 w) (hR:iU g w R) (ht:dJ R w t x) (fx:cM b 0 x) (hv:dC x=false) (hop:x.1.op=7) :
 Calls Tryz.prog 26 #[.pointer (I ⟨g,0,Z⟩),.agg (eD t x.1)] w (yN w0 g v b R w (fO b (d+1) (m+1) x)):=by
 obtain⟨o,p,q,hk⟩:=nN fx.okt hop;have fp:cM b 0 p:=fx.kid0 (i:=1) (by rw[hk];rfl) (by rw[hop];simp[aQ]);have fq:cM b (0+1) q:=by
  have:=fx.kid (i:=2) (y:=q) (by rw[hk];rfl)
  rwa [show aQ x.1.op x.1.b ((2:Nat):Int)=1 from by rw[hop];simp[aQ]] at this
 have hres:fO b (d+1) (m+1) x=(fO b d m p).bind fun u f'=>if (cI q u).2=0 then fO b d f' (cI q u).1 else .er (cI q u).2:=by
  rw[iV];simp only[i5,hv,Bool.false_eq_true,if_false];rw[if_neg aA,if_pos hop,hk]
 have hnk:=ht.nk;rw[hk] at hnk;obtain⟨bkp,okp,⟨pA,pn,pc,pB,pm,pd,pC,pp,pe⟩,hAp,hRp,hcp,htp⟩:=ht.kid (j:=1) (by rw[hnk];simp);rw[show dY x.2.2 1=p from by unfold dY;rw[hk];rfl] at hcp htp;obtain⟨bkq,okq,⟨qA,qn,qc,qB,qm,qd,qC,qp,qe⟩,hAq,hRq,hcq,htq⟩:=ht.kid (j:=2) (by rw[hnk];simp);rw[show dY x.2.2 2=q from by unfold dY;rw[hk];rfl] at hcq htq;obtain⟨rfl,rfl⟩:bkp=bkq/\okp=okq:=by rw[hAp] at hAq;injection hAq with e;injection e with e1 e2;exact⟨e1,e2⟩
 rw[Nat.one_mul] at hcp;have HCp:=aB hcp;have HTp:=aB htp;have HRp:=aB hRp;have HCq:=aB hcq;have HTq:=aB htq;have HRq:=aB hRq;have HFP:=aB fp;have HFQ:=aB fq;have HA0:=aB hAp;obtain⟨res,hr0⟩ : ∃r,r=fO b (d+1) (m+1) x:=⟨_,rfl⟩;rw[<-hr0] at hres ⊢;have HRES:=aB hres;clear hres hr0 hAq hcp hcq htp htq hRp hRq fp fq hk;obtain⟨⟨xo,xa,xb⟩,xat,xk⟩:=x;obtain⟨xA,xn,xc,xB,xm,xd,xC,xp,xe⟩:=t;simp only at hop hnk HA0;have HOP:=aB hop;have HNK:=aB hnk;clear hAp hnk hop;obtain⟨F,hF⟩ : ∃F:Int,F=((m+1:Nat):Int):=⟨_,rfl⟩;have f0':(F==0)=false:=by rw[beq_eq_false_iff_ne];omega
 have f1:IntKind.i64.wrap (F-1)=(m:Int):=by rw[IntKind.wrap_i64];omega
 have hgl:=hw.lt;have hba:=bF w (J #[O X xo,O X xa,O X xb,Y xA xn xc,Y xB xm xd,Y xC xp xe] 49) (J #[O X 0,O X 0,O X 0,Y Z 0 0,Y Z 0 0,Y Z 0 0] 49);have hw1:=hw.below hba;have zg:=aS.cell hw1.blk;have zgf:=aS.frozen hw1.blk;rw[<-hF] at zg;obtain⟨hw2,hm2⟩:=hw.fuel m;have hsz:(w.setCell ⟨g,5,Z⟩ (O X (m:Int))).heap.size=w.heap.size:=by simp
 have hbb:=bF (w.setCell ⟨g,5,Z⟩ (O X (m:Int))) (J #[O X xo,O X xa,O X xb,Y xA xn xc,Y xB xm xd,Y xC xp xe] 49) (J #[O X 0,O X 0,O X 0,Y Z 0 0,Y Z 0 0,Y Z 0 0] 49);have hmv:=hm2.trans (row':=Z) (aW.of_below (S:=fun q=>q=g) (row:=Z) hbb) (fun _ e=>by cases e);have HIV:=aB (kL (hR.moved hmv.size).lt (ht.movedO hR hmv) fx.rt);obtain⟨V0,hV0⟩ : ∃V0:World,V0.heap.size=w.heap.size+2:=⟨((w.alloc (J #[O X xo,O X xa,O X xb,Y xA xn xc,Y xB xm xd,Y xC xp xe] 49)).alloc (J #[O X 0,O X 0,O X 0,Y Z 0 0,Y Z 0 0,Y Z 0 0] 49)),by simp⟩;have HV0:=aB hV0;have HA1:Hid (tV w0 g v b w V0 #[O X xo,O X xa,O X xb,Y xA xn xc,Y xB xm xd,Y xC xp xe] m 0 (((w.setCell ⟨g,5,Z⟩ (O X (m:Int))).alloc (J #[O X xo,O X xa,O X xb,Y xA xn xc,Y xB xm xd,Y xC xp xe] 49)).alloc (J #[O X 0,O X 0,O X 0,Y Z 0 0,Y Z 0 0,Y Z 0 0] 49))):=aB ⟨hw2.below hbb,hmv,by rw[hV0];simp,(aS.new' hsz.symm).alloc _,aS.new' aD⟩;have HRO:=aB hR;have HL:=aB hgl;have HT:=aB ht;have HFX:=aB fx;have HFT:=aB (i6 (b:=b) hr d);have HH:=aB H;rw[hv] at HIV;clear hw hw1 hw2 hm2 hmv hba hbb hsz hF hR ht fx hv H HG hV0 hr;show Calls Tryz.prog 26 #[.pointer (I ⟨g,0,Z⟩),.agg #[O X xo,O X xa,O X xb,Y xA xn xc,Y xB xm xd,Y xC xp xe]] w _;go_in;go_wp2_with fail;refine (HIV.o).mono ?_;rintro e w2 ⟨rfl,hb2⟩;have HA:=aB (HA1.o.below hb2);have zx:=aS.cell HA.o.x;clear hb2 zg zgf f0' f1 HA1 HIV;obtain rfl:=HOP.o;obtain rfl:xA=I ⟨bkp,okp,Z⟩:=HA0.o;obtain rfl:xn=3:=HNK.o;obtain⟨po,pa,pb,pat,pk,rfl⟩ : ∃o a b c k,p=((⟨o,a,b⟩:Nd),c,k):=⟨p.1.op,p.1.a,p.1.b,p.2.1,p.2.2,rfl⟩;obtain⟨qo,qa,qb,qat,qk,rfl⟩ : ∃o a b c k,q=((⟨o,a,b⟩:Nd),c,k):=⟨q.1.op,q.1.a,q.1.b,q.2.1,q.2.2,rfl⟩;have zkp:=HCp.o.movedO (HRO.o _ HRp.o).1 (HRO.o _ HRp.o).2 HA.o.mv;obtain⟨p0,p1,p2,p3,p4,p5⟩:=zkp;simp only at p0 p1 p2 p3 p4 p5;have HC:=aB (HH.o w2 m R ⟨pA,pn,pc,pB,pm,pd,pC,pp,pe⟩ ((⟨po,pa,pb⟩:Nd),pat,pk) hmd hm1 HA.o.st (HRO.o.moved HA.o.mv.size) (HTp.o.movedO HRO.o HA.o.mv) HFP.o);have HFT1:=aB (HFT.o.1 m ((⟨po,pa,pb⟩:Nd),pat,pk));cases hE:fO b d m ((⟨po,pa,pb⟩:Nd),pat,pk) with
 | er z =>
  rw[hE] at HC HRES;have HRZ:Hid (res=.er z):=HRES;clear hE HRES;go_wp2_with fail;refine (HC.o).mono ?_;rintro e w3 ⟨hm3,⟨yA,yn,yc,yB,ym,yd,yC,yp,ye⟩,⟨⟨yo,ya,yb⟩,yat,yk⟩,rfl,ht3,hz3,f3,hs3⟩;have HA3:=aB (HA.o.call HL.o hm3 hs3);have hba:=aP w3 (J #[O X yo,O X ya,O X yb,Y yA yn yc,Y yB ym yd,Y yC yp ye] 49);have HA4:=aB (HA3.o.below hba);have HY4:=aB (((ht3.mix1 HA.o.sz:dJ (aZ R V0 w3) w3 _ _)).mixB (V0:=V0) HRO.o HA3.o.mv.size hba);have zk4:=aS.cell (aS.new w3 49 #[O X yo,O X ya,O X yb,Y yA yn yc,Y yB ym yd,Y yC yp ye]);have zg4:=aS.cell HA4.o.st.blk;have HZ3:=aB hz3;have de:(z != 0)=true:=by simpa using hz3
  clear hm3 ht3 hs3 hba zx hz3 p0 p1 p2 p3 p4 p5;have zz:=aS.cell HA4.o.r;have zf:=aS.frozen HA4.o.r;go_wp2_with fail;refine bodyPost_ret (v:=.agg #[O X yo,O X ya,O X yb,Y yA yn yc,Y yB ym yd,Y yC yp ye]) ?_ rfl ?_
  · exact cE (g:=w.heap.size+1) (bK HA4.o.r _ _ _ _ _ _) aD
  rw[HRZ.o];exact HA4.o.fin (t:=⟨yA,yn,yc,yB,ym,yd,yC,yp,ye⟩) (y:=((⟨yo,ya,yb⟩:Nd),yat,yk)) HRO.o HL.o HV0.o HY4.o ⟨HZ3.o,f3,HA4.o.st⟩
 | ok u f1 =>
  rw[hE] at HC HRES;have HF1:=aB (HFT1.o u f1 HFP.o hE);have hf1:=HF1.o.2;have HRES2:Hid (res=if (cI ((⟨qo,qa,qb⟩:Nd),qat,qk) u).2=0 then fO b d f1 (cI ((⟨qo,qa,qb⟩:Nd),qat,qk) u).1 else .er (cI ((⟨qo,qa,qb⟩:Nd),qat,qk) u).2):=HRES;clear hE HRES;go_wp2_with fail;refine (HC.o).mono ?_;rintro e w3 ⟨hm3,⟨yA,yn,yc,yB,ym,yd,yC,yp,ye⟩,⟨⟨yo,ya,yb⟩,yat,yk⟩,rfl,ht3,hy3,hs3⟩;subst hy3;have HA3:=aB (HA.o.call HL.o hm3 hs3);have hba:=aP w3 (J #[O X yo,O X ya,O X yb,Y yA yn yc,Y yB ym yd,Y yC yp ye] 49);have HA4:=aB ((HA3.o.below hba).below (aV (Below.refl _ _) 1));have HY4:=aB ((((ht3.mix1 HA.o.sz:dJ (aZ R V0 w3) w3 _ _)).mixB (V0:=V0) HRO.o HA3.o.mv.size hba).mixB HRO.o (HA3.o.below hba).mv.size (aV (Below.refl _ _) 1));have HK4:=aB ((aS.new w3 49 #[O X yo,O X ya,O X yb,Y yA yn yc,Y yB ym yd,Y yC yp ye]).drewN 1);have zg4:=aS.cell (HA3.o.below hba).st.blk;have hne3:w3.heap.size ≠ g:=by have:=HL.o;have:=HA3.o.mv.size;omega
  have HNE:=aB hne3;clear hm3 ht3 hs3 hba hne3 p0 p1 p2 p3 p4 p5;obtain⟨W4,hW4⟩ : ∃W4:World,W4=(w3.alloc (J #[O X yo,O X ya,O X yb,Y yA yn yc,Y yB ym yd,Y yC yp ye] 49)).drewN 1:=⟨_,rfl⟩;rw[<-hW4] at HA4 HY4 HK4;have HW4:=aB hW4;have zx4:=aS.cell HA4.o.x;have zk4:=HCq.o.movedO (HRO.o _ HRq.o).1 (HRO.o _ HRq.o).2 HA4.o.mv;have HPT:=aB (vU HA4.o.st (iU.mixed HRO.o (by have:=HV0.o;have:=HL.o;omega) HA4.o.mv.size:iU g W4 (aZ R V0 W4)) ((HTq.o.movedO HRO.o HA4.o.mv).inl) HY4.o HFQ.o HF1.o.1.1);have HSB:=aB (iT (b:=b) (free:=0) (Int.le_refl 0) aA HFQ.o HF1.o.1.1).2.2;have HS0:Hid (W4.cell? ⟨w.heap.size,3,Z⟩=I (Y (I ⟨bkp,okp,Z⟩) 3 xc)/\W4.cell? ⟨bkp,okp+2*6,Z⟩=I (O X qo)/\W4.cell? ⟨bkp,okp+2*6+1,Z⟩=I (O X qa)/\W4.cell? ⟨bkp,okp+2*6+2,Z⟩=I (O X qb)/\W4.cell? ⟨bkp,okp+2*6+3,Z⟩=I (Y qA qn qc)/\W4.cell? ⟨bkp,okp+2*6+4,Z⟩=I (Y qB qm qd)/\W4.cell? ⟨bkp,okp+2*6+5,Z⟩=I (Y qC qp qe)/\W4.cell? ⟨w3.heap.size,0,Z⟩=I (O X yo)/\W4.cell? ⟨w3.heap.size,1,Z⟩=I (O X ya)/\W4.cell? ⟨w3.heap.size,2,Z⟩=I (O X yb)/\W4.cell? ⟨w3.heap.size,3,Z⟩=I (Y yA yn yc)/\W4.cell? ⟨w3.heap.size,4,Z⟩=I (Y yB ym yd)/\W4.cell? ⟨w3.heap.size,5,Z⟩=I (Y yC yp ye)):=aB (by
   obtain⟨k0,k1,k2,k3,k4,k5⟩:=zk4;exact⟨zx4 3,k0,k1,k2,k3,k4,k5,HK4.o.cell 0,HK4.o.cell 1,HK4.o.cell 2,HK4.o.cell 3,HK4.o.cell 4,HK4.o.cell 5⟩)
  have HKP:=aB (fun (W:World) (hm:aW (fun q=>q=g) Z W4 W)=>(by
   have hc:∀q,q<W4.heap.size->q ≠ g->∀o,W.cell? ⟨q,o,Z⟩=W4.cell? ⟨q,o,Z⟩:=fun q hl hq o=>aU (hm.block q hl hq aD) o;have a:=hc w.heap.size HA4.o.x.lt (by have:=HL.o;omega);have e:=hc bkp (by have:=(HRO.o _ HRq.o).1;have:=HA4.o.mv.size;omega) (HRO.o _ HRq.o).2;have f:=hc w3.heap.size HK4.o.lt HNE.o;obtain⟨k0,k1,k2,k3,k4,k5,k6,k7,k8,k9,k10,k11,k12⟩:=HS0.o;exact⟨(a _).trans k0,(e _).trans k1,(e _).trans k2,(e _).trans k3,(e _).trans k4,(e _).trans k5,(e _).trans k6,(f _).trans k7,(f _).trans k8,(f _).trans k9,(f _).trans k10,(f _).trans k11,(f _).trans k12⟩:W.cell? ⟨w.heap.size,3,Z⟩=I (Y (I ⟨bkp,okp,Z⟩) 3 xc)/\W.cell? ⟨bkp,okp+2*6,Z⟩=I (O X qo)/\W.cell? ⟨bkp,okp+2*6+1,Z⟩=I (O X qa)/\W.cell? ⟨bkp,okp+2*6+2,Z⟩=I (O X qb)/\W.cell? ⟨bkp,okp+2*6+3,Z⟩=I (Y qA qn qc)/\W.cell? ⟨bkp,okp+2*6+4,Z⟩=I (Y qB qm qd)/\W.cell? ⟨bkp,okp+2*6+5,Z⟩=I (Y qC qp qe)/\W.cell? ⟨w3.heap.size,0,Z⟩=I (O X yo)/\W.cell? ⟨w3.heap.size,1,Z⟩=I (O X ya)/\W.cell? ⟨w3.heap.size,2,Z⟩=I (O X yb)/\W.cell? ⟨w3.heap.size,3,Z⟩=I (Y yA yn yc)/\W.cell? ⟨w3.heap.size,4,Z⟩=I (Y yB ym yd)/\W.cell? ⟨w3.heap.size,5,Z⟩=I (Y yC yp ye)))
  clear zx4 zk4 zx hW4;obtain⟨⟨sy,sz⟩,hsy⟩ : ∃q,q=cI ((⟨qo,qa,qb⟩:Nd),qat,qk) ((⟨yo,ya,yb⟩:Nd),yat,yk):=⟨_,rfl⟩;rw[<-hsy] at HPT HSB HRES2;simp only at HPT HSB HRES2;clear hsy;go_wp2_with fail;by_cases h0:sz=0
  · have HRZ:=aB (HRES2.o.trans (if_pos h0));have HFS:=aB (HSB.o h0);rw[if_pos h0] at HPT;clear HSB HRES2 h0
    skip
    refine cP 9 (fun w'=>w'.cell? ⟨w.heap.size,3,Z⟩=I (Y (I ⟨bkp,okp,Z⟩) 3 xc)/\w'.cell? ⟨bkp,okp+2*6,Z⟩=I (O X qo)/\w'.cell? ⟨bkp,okp+2*6+1,Z⟩=I (O X qa)/\w'.cell? ⟨bkp,okp+2*6+2,Z⟩=I (O X qb)/\w'.cell? ⟨bkp,okp+2*6+3,Z⟩=I (Y qA qn qc)/\w'.cell? ⟨bkp,okp+2*6+4,Z⟩=I (Y qB qm qd)/\w'.cell? ⟨bkp,okp+2*6+5,Z⟩=I (Y qC qp qe)/\w'.cell? ⟨w3.heap.size,0,Z⟩=I (O X yo)/\w'.cell? ⟨w3.heap.size,1,Z⟩=I (O X ya)/\w'.cell? ⟨w3.heap.size,2,Z⟩=I (O X yb)/\w'.cell? ⟨w3.heap.size,3,Z⟩=I (Y yA yn yc)/\w'.cell? ⟨w3.heap.size,4,Z⟩=I (Y yB ym yd)/\w'.cell? ⟨w3.heap.size,5,Z⟩=I (Y yC yp ye)) aC ?_ (fun hZ => ?_)
    · (try dsimp only);first | exact HS0.o | (have:=HS0.o;rw[HW4.o] at this;exact this)
    have hW5:=HW4.o.symm;have hW6:(w3.alloc (J #[O X yo,O X ya,O X yb,Y yA yn yc,Y yB ym yd,Y yC yp ye] 49)).drew=W4:=HW4.o.symm;try rw[hW5] at hZ
    try rw[hW6] at hZ
    first | rw[hW5] | rw[hW6]
    clear hW5 hW6;refine aN 0 hZ ?_;refine aN 1 hZ ?_;refine aN 2 hZ ?_;refine aN 3 hZ ?_;refine aN 4 hZ ?_;refine aN 5 hZ ?_;refine aN 6 hZ ?_;refine bA (i:=7) aC rfl rfl (fun K hK => ?_);go_simp;go_at_call 46
    refine (HPT.o).mono ?_;rintro e w5 ⟨hm5,⟨cA,cn,cc,cB,cm,cd,cC,cp,ce⟩,⟨⟨co,ca,cb⟩,cat,ck⟩,rfl,ht5,hc5,hs5⟩;subst hc5;have HA5:=aB (HA4.o.call HL.o hm5 hs5);have HT5:=aB (dJ.mix2 ht5 HA4.o.sz hm5.size);have HM45:=aB hm5;clear hm5 ht5 hs5;go_wp2_with fail;refine hK.o _ _ (fun _ => ?_) ?_
    · (try dsimp only);exact HKP.o _ HM45.o
    clear hK K;try simp only[p7]
    replace hZ:=HKP.o _ HM45.o
    refine bA (i:=8) aC rfl rfl (fun K hK => ?_);go_simp;go_at_call 26
    refine (HH.o w5 f1 (aZ R V0 w5) ⟨cA,cn,cc,cB,cm,cd,cC,cp,ce⟩ ((⟨co,ca,cb⟩:Nd),cat,ck) aA aA HA5.o.st (iU.mixed HRO.o (by have:=HV0.o;have:=HL.o;omega) HA5.o.mv.size) HT5.o HFS.o).mono ?_;rintro e w9 ⟨hm9,⟨eA,en,ec,eB,em,ed,eC,ep,ee⟩,⟨⟨eo,ea,eb⟩,eat,ek⟩,rfl,ht9,hr9⟩;have HZ9:=aB (HA5.o.r.movedO (by have:=HL.o;omega) hm9);have HM9:=aB (HA5.o.mv.trans (row':=Z) hm9 (fun _ e=>by cases e));have HT9:=aB (dJ.mix2 ht9 HA5.o.sz hm9.size);have HR9:=aB hr9;have HM49:=aB (HM45.o.trans (row':=Z) hm9 (fun _ e=>by cases e));clear hm9 ht9 hr9;go_wp2_with fail;refine hK.o _ _ (fun _ => ?_) ?_
    · (try dsimp only);exact HKP.o _ HM49.o
    clear hK K;try simp only[p7]
    replace hZ:=HKP.o _ HM49.o
    have zz:=aS.cell HZ9.o;have zf:=aS.frozen HZ9.o;refine bA (i:=9) aC rfl rfl (fun K hK => ?_);go_simp;refine hK.o _ _ (fun h=>absurd rfl h) ?_;clear hK K;try simp only[p7]
    refine dE aC ?_ _;go_wp2_with fail;refine bodyPost_ret (v:=.agg #[O X eo,O X ea,O X eb,Y eA en ec,Y eB em ed,Y eC ep ee]) ?_ rfl ?_
    · exact cE (g:=w.heap.size+1) (bK HZ9.o _ _ _ _ _ _) aD
    rw[HRZ.o];exact eW (V:=V0) (t:=⟨eA,en,ec,eB,em,ed,eC,ep,ee⟩) (y:=((⟨eo,ea,eb⟩:Nd),eat,ek)) HRO.o HL.o aA (by have:=HV0.o;omega) HM9.o HT9.o HR9.o
  · have HRZ:=aB (HRES2.o.trans (if_neg h0));rw[if_neg h0] at HPT;clear HSB HRES2 h0
    skip
    refine cP 9 (fun w'=>w'.cell? ⟨w.heap.size,3,Z⟩=I (Y (I ⟨bkp,okp,Z⟩) 3 xc)/\w'.cell? ⟨bkp,okp+2*6,Z⟩=I (O X qo)/\w'.cell? ⟨bkp,okp+2*6+1,Z⟩=I (O X qa)/\w'.cell? ⟨bkp,okp+2*6+2,Z⟩=I (O X qb)/\w'.cell? ⟨bkp,okp+2*6+3,Z⟩=I (Y qA qn qc)/\w'.cell? ⟨bkp,okp+2*6+4,Z⟩=I (Y qB qm qd)/\w'.cell? ⟨bkp,okp+2*6+5,Z⟩=I (Y qC qp qe)/\w'.cell? ⟨w3.heap.size,0,Z⟩=I (O X yo)/\w'.cell? ⟨w3.heap.size,1,Z⟩=I (O X ya)/\w'.cell? ⟨w3.heap.size,2,Z⟩=I (O X yb)/\w'.cell? ⟨w3.heap.size,3,Z⟩=I (Y yA yn yc)/\w'.cell? ⟨w3.heap.size,4,Z⟩=I (Y yB ym yd)/\w'.cell? ⟨w3.heap.size,5,Z⟩=I (Y yC yp ye)) aC ?_ (fun hZ => ?_)
    · (try dsimp only);first | exact HS0.o | (have:=HS0.o;rw[HW4.o] at this;exact this)
    have hW5:=HW4.o.symm;have hW6:(w3.alloc (J #[O X yo,O X ya,O X yb,Y yA yn yc,Y yB ym yd,Y yC yp ye] 49)).drew=W4:=HW4.o.symm;try rw[hW5] at hZ
    try rw[hW6] at hZ
    first | rw[hW5] | rw[hW6]
    clear hW5 hW6;refine aN 0 hZ ?_;refine aN 1 hZ ?_;refine aN 2 hZ ?_;refine aN 3 hZ ?_;refine aN 4 hZ ?_;refine aN 5 hZ ?_;refine aN 6 hZ ?_;refine bA (i:=7) aC rfl rfl (fun K hK => ?_);go_simp;go_at_call 46
    refine (HPT.o).mono ?_;rintro e w5 ⟨hm5,⟨cA,cn,cc,cB,cm,cd,cC,cp,ce⟩,⟨⟨co,ca,cb⟩,cat,ck⟩,rfl,ht5,hz5,f5,hs5⟩;have HA5:=aB (HA4.o.call HL.o hm5 hs5);have HT5:=aB (dJ.mix2 ht5 HA4.o.sz hm5.size);have HM45:=aB hm5;have HZ5:=aB hz5;clear hm5 ht5 hs5 hz5;go_wp2_with fail;refine hK.o _ _ (fun _ => ?_) ?_
    · (try dsimp only);exact HKP.o _ HM45.o
    clear hK K;try simp only[p7]
    replace hZ:=HKP.o _ HM45.o
    refine bA (i:=8) aC rfl rfl (fun K hK => ?_);go_simp;go_at_call 26
    refine (p9 HA5.o.st HZ5.o ⟨cA,cn,cc,cB,cm,cd,cC,cp,ce⟩ ⟨co,ca,cb⟩).mono ?_;rintro e w9 ⟨hb9,rfl⟩;have HA9:=aB (HA5.o.below hb9);have HT9:=aB (HT5.o.mixB HRO.o HA5.o.mv.size hb9);have HM49:=aB (HM45.o.trans (row':=Z) (aW.of_below hb9) (fun _ e=>by cases e));have HZ9:=aB HA9.o.r;clear hb9;go_wp2_with fail;refine hK.o _ _ (fun _ => ?_) ?_
    · (try dsimp only);exact HKP.o _ HM49.o
    clear hK K;try simp only[p7]
    replace hZ:=HKP.o _ HM49.o
    have zz:=aS.cell HZ9.o;have zf:=aS.frozen HZ9.o;refine bA (i:=9) aC rfl rfl (fun K hK => ?_);go_simp;refine hK.o _ _ (fun h=>absurd rfl h) ?_;clear hK K;try simp only[p7]
    refine dE aC ?_ _;go_wp2_with fail;refine bodyPost_ret (v:=.agg #[O X co,O X ca,O X cb,Y cA cn cc,Y cB cm cd,Y cC cp ce]) ?_ rfl ?_
    · exact cE (g:=w.heap.size+1) (bK HZ9.o _ _ _ _ _ _) aD
    rw[HRZ.o];exact HA9.o.fin (t:=⟨cA,cn,cc,cB,cm,cd,cC,cp,ce⟩) (y:=((⟨co,ca,cb⟩:Nd),cat,ck)) HRO.o HL.o HV0.o HT9.o ⟨HZ5.o,f5,HA9.o.st⟩
end Go.Proofs.YtjllmblbbgojbaaGreat
