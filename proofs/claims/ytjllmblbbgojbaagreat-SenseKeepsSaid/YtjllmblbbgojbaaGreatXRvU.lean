/- The reference's Opened: a fix's body with the functions in their variables' places. -/
import Derived.Test.YtjllmblbbgojbaaGreatXRvO
namespace Go.Proofs.YtjllmblbbgojbaaGreat
set_option linter.unusedVariables false
set_option linter.unusedSimpArgs false
open Go.RowKit
open Go.Value renaming int → O, slice → Y
open Go.IntKind renaming i64 → X
open Option renaming none → Z, some → I
open Go.Obj renaming cells → J
open Go.Lib renaming hid->aB
theorem KP {R:Nat->Prop} {w:World} {t:iL} {h:TT} (ht:dJ R w t h) (h12:h.1.op=12) (hok:mW h) (i:Nat):dJ R w ⟨t.Ak,t.nk,t.ck,Z,0,0,t.Af,t.nf,t.cf⟩ (fU h i):=by
 have ha:h.2.1=[]:=by
  have:=hok.at_;unfold iY at this;rw[if_neg aA] at this;exact this
 have e:(fU h i).2.1=[]:=ha;unfold dJ;rw[e];exact⟨_,_,_,rfl,⟨_,_,_,rfl,ht.kids⟩,gJ.nil R w,⟨_,_,_,rfl,ht.funs⟩⟩
theorem uL {b:Bk} {w:World} {R:Nat->Prop} {t:iL} {u:TT} (hR:∀b,R b->b<w.heap.size) (ht:dJ R w t u) (hu:cM b 0 u) {i:Int} (h0:0<=i) (h1:i<=1000) :
 Calls Tryz.prog 110 #[.agg (eD t u.1),O X i,O X 0] w (N8 R w u):=by
 have h2:=fD u.2.2;have h3:=eI u.1 u.2.1 u.2.2;have h4:=hu.few;have h5:cL u=cL (u.1,u.2.1,u.2.2):=rfl;refine (tF hR ht hu.okt.ok hu.okt.all h0 aA (Int.le_refl 0) aA).mono ?_;intro e w' hp;have:=fG.tt (x:=(jZ i u.1 0,pY u.1 u.2.1 0,pZ i u.1 u.2.2 0)) hp;rw[L4 hu.okt i,wO hu i] at this;exact this
theorem NQ {x u:TT} (h:(cI x u).2 ≠ 0):(cI x u).1=x:=by
 unfold cI at h ⊢;split
 · rfl
 rename_i h2
 rw[if_neg h2] at h;exact absurd rfl h
theorem lY {w:World} {g:Nat} {c0 c1 c2 c3 c4 c5:Value} {tmps:Array Value} (h:aS w g 49 #[c0,c1,c2,c3,c4,c5]) (ht:tmps.getD 2 undef=.pointer (I ⟨g,0,Z⟩)) :
 (results Tryz.f80 tmps).run Tryz.prog w=.ok (.tuple #[.agg #[c0,c1,c2,c3,c4,c5],tmps.getD 3 undef]) w:=by
 have hc:=h.cell;have ht':tmps[2]?.getD undef=.pointer (I ⟨g,0,Z⟩):=by rw[<-ht];simp
 simp[results,Tryz.results80,go_sem,ht',hc]
set_option maxRecDepth 100000 in
set_option maxHeartbeats 8000000 in
theorem DE {b:Bk} {w:World} {R:Nat->Prop} {t:iL} {h:TT} (hR:∀b,R b->b<w.heap.size) (ht:dJ R w t h) (hf:cM b 0 h) (h12:h.1.op=12) :
 Calls Tryz.prog 80 #[.agg (eD t h.1)] w (PV R w (jE h)):=by
 obtain⟨b1,b4,a0,ab,hlen⟩:=gN hf.okt h12;obtain⟨y0,_,hy0,hy1,hy2⟩:=rZ hf h12 (⟨0,0,0⟩,[],.nil);have hUT:jE h=nT h h.1.b.toNat y0:=by unfold jE;rw[hy0]
 obtain⟨A,hA⟩ : ∃A:Nat,h.1.a=(A:Int):=⟨h.1.a.toNat,by omega⟩;obtain⟨B,hB⟩ : ∃B:Nat,h.1.b=(B:Int):=⟨h.1.b.toNat,by omega⟩;have hnk:=ht.nk;rw[hlen,hB,Int.toNat_natCast] at hnk;rw[hA,Int.toNat_natCast] at hy1;rw[hB,Int.toNat_natCast] at hy2 hUT;rw[hA,hB] at ab;rw[hB] at b1 b4;obtain⟨bk,ok,ty,hAk,hbk,hc,hty⟩:=ht.kid (j:=2*A+1) aA;have hkid:dY h.2.2 (2*A+1)=y0:=by unfold dY;rw[List.getD_eq_getElem?_getD,hy1];rfl
 rw[hkid] at hc hty;have HFX:=aB (fun (i:Nat) (hi:i<B)=>pK hf h12 (i:=i) (by rw[hB];omega));have HHI:=aB (fun (W:World) (hb:Below w.heap.size w W) (i:Nat) (hi:i<B)=>qQ (R:=R) (up:=(i:Int)) (u:=0) (fun b hb'=>Nat.lt_of_lt_of_le (hR b hb') hb.size) ((KP ht h12 hf.okt i).below hR hb) (HFX.o i hi).okt.ok (HFX.o i hi).okt.all aA aA (Int.le_refl 0) (by
  have h2:=fD (fU h i).2.2;have h3:=eI (fU h i).1 (fU h i).2.1 (fU h i).2.2;have h4:=(HFX.o i hi).few;have h5:cL (fU h i)=cL ((fU h i).1,(fU h i).2.1,(fU h i).2.2):=rfl;omega))
 have HHB:=aB (fun (i:Nat) (hi:i<B)=>zU (HFX.o i hi) (up:=(i:Int)) aA);have HRA:=aB (fun (W:World) (hb:Below w.heap.size w W) (i:Nat) (hi:i<B)=>uL (b:=b) (R:=R) (i:=(i:Int)) (fun b hb'=>Nat.lt_of_lt_of_le (hR b hb') hb.size) ((KP ht h12 hf.okt i).below hR hb) (HFX.o i hi) aA aA);have HPL:=aB (fun (W:World) (hb:Below w.heap.size w W) (i:Nat) (hi:i<B) (y:TT) (h3:cM b ((i:Int)+1) y) (R':Nat->Prop) (hR' : ∀q,R' q->q<W.heap.size) (t1 t2:iL) (h1:dJ R' W t1 y) (h2:dJ R' W t2 (fU h i))=>sO (b:=b) (free:=(i:Int)) hR' h1 h2 h3 ((HFX.o i hi).mono aA) aA aA);have HSF:=aB (fun (i:Nat) (hi:i<B) (y:TT) (h3:cM b ((i:Int)+1) y)=>(iT (b:=b) (free:=(i:Int)) aA aA h3 ((HFX.o i hi).mono aA)).2.2);obtain⟨V0,hV0⟩ : ∃V0:World,V0.heap.size=w.heap.size+3:=⟨((w.alloc (J #[O X 0,O X 0,O X 0,Y Z 0 0,Y Z 0 0,Y Z 0 0] 49)).alloc (J #[O X 0,O X 0,O X 0,Y Z 0 0,Y Z 0 0,Y Z 0 0] 49)).alloc (J #[O X 0,O X 0,O X 0,Y Z 0 0,Y Z 0 0,Y Z 0 0] 49),by simp⟩;have HTY:=aB (fun (W:World) (hb:Below w.heap.size w W)=>(hty.below hR hb).keep (R':=aZ R V0 W) (w':=W) fun q hq=>⟨Or.inl hq,fun o=>rfl⟩);have HCY:=aB (fun (W:World) (hb:Below w.heap.size w W)=>hc.below hb (hR _ hbk));have HFY:=aB hy2;have HR:=aB hR;obtain⟨RES,hRES⟩ : ∃r,r=jE h:=⟨_,rfl⟩;rw[<-hRES] at hUT ⊢;have HRES:=aB hUT;obtain⟨⟨op,va,vb⟩,ats,k⟩:=h;obtain⟨Ak,nk,ck,Aa,na,ca,Af,nf,cf⟩:=t;simp only at h12 hA hB hAk hnk;subst h12;subst hA;subst hB;subst hAk;obtain⟨⟨yo0,ya0,yb0⟩,yat0,yk0⟩:=y0;obtain⟨Ck0,pk0,ek0,Ca0,pa0,ea0,Cf0,pf0,ef0⟩:=ty;clear hf ht hc hty hUT hRES hy0 hy1 hy2 hkid hlen b1 a0;have hw1:IntKind.i64.wrap (2*(A:Int))=2*(A:Int):=by rw[IntKind.wrap_i64];omega
 have hw2:IntKind.i64.wrap (2*(A:Int)+1)=2*(A:Int)+1:=by rw[IntKind.wrap_i64];omega
 have hw3:IntKind.i64.wrap ((B:Int)-1)=(B:Int)-1:=by rw[IntKind.wrap_i64];omega
 have hidx:(2*(A:Int)+1).toNat=2*A+1:=aA;have hia:2*A+1<nk:=aA;clear hnk;have HB1:=aB (bF w (J #[O X 12,O X (A:Int),O X (B:Int),Y (I ⟨bk,ok,Z⟩) nk ck,Y Aa na ca,Y Af nf cf] 49) (J #[O X 0,O X 0,O X 0,Y Z 0 0,Y Z 0 0,Y Z 0 0] 49));have hcy:=HCY.o _ HB1.o;obtain⟨q0,q1,q2,q3,q4,q5⟩:=hcy;simp only at q0 q1 q2 q3 q4 q5;show Calls Tryz.prog 80 #[.agg #[O X 12,O X (A:Int),O X (B:Int),Y (I ⟨bk,ok,Z⟩) nk ck,Y Aa na ca,Y Af nf cf]] w _;go_in;go_wp2_with fail;go_loopw [5] (fun iv wr=>∃(m:Nat) (z:Int) (y:TT) (t':iL),iv=O X z/\z=(m:Int)-1/\m<=B/\Hid (RES=nT ((⟨12,(A:Int),(B:Int)⟩:Nd),ats,k) m y)/\Hid (cM b (m:Int) y)/\Hid (dJ (aZ R V0 wr) wr t' y)/\Hid (aS wr w.heap.size 49 #[O X 12,O X (A:Int),O X (B:Int),Y (I ⟨bk,ok,Z⟩) nk ck,Y Aa na ca,Y Af nf cf])/\Hid (aS wr (w.heap.size+1) 49 #[O X 0,O X 0,O X 0,Y Z 0 0,Y Z 0 0,Y Z 0 0])/\Hid (aS wr (w.heap.size+1+1) 49 (eD t' y.1))/\Hid (Below w.heap.size w wr)) (fun iv _=>(intOf iv+1).toNat)
 case atStart =>
  have hb3:=HB1.o.alloc HB1.o.size (J #[O X yo0,O X ya0,O X yb0,Y Ck0 pk0 ek0,Y Ca0 pa0 ea0,Y Cf0 pf0 ef0] 49);exact⟨B,(B:Int)-1,(⟨yo0,ya0,yb0⟩,yat0,yk0),⟨Ck0,pk0,ek0,Ca0,pa0,ea0,Cf0,pf0,ef0⟩,rfl,rfl,Nat.le_refl _,HRES,HFY,aB (HTY.o _ hb3),aB (((aS.new _ _ _).alloc _).alloc _),aB ((aS.new' aD).alloc _),aB (aS.new' aD),aB hb3⟩
 case round =>
  clear q0 q1 q2 q3 q4 q5 HB1 HTY HCY HFY HRES hw1 hw2 hw3 hidx hia;obtain⟨m,z,y,t',rfl,hz,hmB,hres,hfy,hty,hkb,hkz,hky,hbw⟩:=hrel;have hkz1:=hky.o.lt;cases m with
  | zero =>
   obtain rfl:z = -1:=aA;clear hz;obtain⟨⟨yo,ya,yb⟩,yat,yk⟩:=y;obtain⟨Ck,pk,ek,Ca,pa,ea,Cf,pf,ef⟩:=t';simp only at hky;have zy:=aS.cell hky.o;have zz:=aS.cell hkz.o;have zf:=aS.frozen hkz.o;go_wp2_with fail;refine bodyPost_ret (v:=.tuple #[.agg #[O X yo,O X ya,O X yb,Y Ck pk ek,Y Ca pa ea,Y Cf pf ef],O X 0]) ?_ rfl ?_
   · exact lY (g:=w.heap.size+1) (bK hkz.o _ _ _ _ _ _) aD
   rw[hres.o];exact mK (V:=V0) (t:=⟨Ck,pk,ek,Ca,pa,ea,Cf,pf,ef⟩) HR.o aA aA hbw.o hty.o
  | succ i =>
   obtain rfl:z=(i:Int):=aA;clear hz;have hi:i<B:=aA;have hwi:IntKind.i64.wrap ((i:Int)-1)=(i:Int)-1:=by rw[IntKind.wrap_i64];omega
   obtain⟨⟨yo,ya,yb⟩,yat,yk⟩:=y;obtain⟨Ck,pk,ek,Ca,pa,ea,Cf,pf,ef⟩:=t';simp only at hky;have hk3:=aS.cell hkb.o;have hb6:=aP wr (J #[O X 12,O X (i:Int),O X (B:Int),Y (I ⟨bk,ok,Z⟩) nk ck,Y Z 0 0,Y Af nf cf] 49);have HB6:=dA hbw hb6;have HO6:=aB (aS.new wr 49 #[O X 12,O X (i:Int),O X (B:Int),Y (I ⟨bk,ok,Z⟩) nk ck,Y Z 0 0,Y Af nf cf]);have HH:=HHI.o _ HB6.o i hi;have hhb:=HHB.o i hi;obtain⟨H,hH⟩ : ∃H,H=oP (i:Int) (fU ((⟨12,(A:Int),(B:Int)⟩:Nd),ats,k) i).1 (fU ((⟨12,(A:Int),(B:Int)⟩:Nd),ats,k) i).2.2 0:=⟨_,rfl⟩;rw[<-hH] at HH hhb;have HH2:=aB HH;have dH:decide (H>1048576)=false:=decide_eq_false aA;clear HH hH;go_wp2_with fail;refine (HH2.o).mono ?_;rintro e w7 ⟨rfl,hb7⟩;have hb67:=hb6.trans (hb7.mono hb6.size);have HB7:=dA HB6 hb7;have HO7:=aB (HO6.o.below hb7 HO6.o.lt);have HKB7:=aB (hkb.o.below hb67 hkb.o.lt);have HKZ7:=aB (hkz.o.below hb67 hkz.o.lt);have HKY7:=aB (hky.o.below hb67 hky.o.lt);have HTY7:Hid (dJ (aZ R V0 w7) w7 ⟨Ck,pk,ek,Ca,pa,ea,Cf,pf,ef⟩ ((⟨yo,ya,yb⟩:Nd),yat,yk)):=aB (hty.o.keep fun q hq=>⟨hq.to (Nat.le_refl _) hb67.size,fun o=>hb67.cell (p:=⟨q,o,Z⟩) (show q<wr.heap.size by
    rcases hq with hq | hq
    · have:=HR.o _ hq;have:=hbw.o.size;omega
    exact hq.2)⟩)
   clear hb6 hb7 hb67 hk3 hhb HH2;have hfi:cM b ((i:Int)+1) ((⟨yo,ya,yb⟩:Nd),yat,yk):=by have:=hfy.o;rwa [show (((i+1:Nat)):Int)=(i:Int)+1 from by omega] at this
   obtain⟨qq,hqq⟩ : ∃q,q=cI ((⟨yo,ya,yb⟩:Nd),yat,yk) (fU ((⟨12,(A:Int),(B:Int)⟩:Nd),ats,k) i):=⟨_,rfl⟩;have HPI:=aB (fun W hb=>HPL.o W hb i hi _ hfi);have hfit2:=HSF.o i hi _ hfi;have hu:nT ((⟨12,(A:Int),(B:Int)⟩:Nd),ats,k) (i+1) ((⟨yo,ya,yb⟩:Nd),yat,yk)=if qq.2=0 then nT ((⟨12,(A:Int),(B:Int)⟩:Nd),ats,k) i qq.1 else qq:=by rw[hqq];rfl
   have HUU:=aB (hres.o.trans hu);have hbad:=fun h=>NQ (x:=((⟨yo,ya,yb⟩:Nd),yat,yk)) (u:=fU ((⟨12,(A:Int),(B:Int)⟩:Nd),ats,k) i) h;rw[<-hqq] at hbad HPI hfit2;have HBD:=aB hbad;have HF2:=aB hfit2;clear hqq hfit2 hu hbad hfi;obtain⟨⟨⟨qo,qa,qb⟩,qat,qk⟩,qe⟩:=qq;simp only at HUU HBD HF2;go_upto_region 8 with fail
   go_cut [7,8] (fun pv ev wx=>∃(g7:Nat) (Dk Da Df:Option Addr) (rk gk ra ga rf gf:Nat),pv=.pointer (I ⟨g7,0,Z⟩)/\ev=O X qe/\Hid (dJ (aZ R V0 wx) wx ⟨Dk,rk,gk,Da,ra,ga,Df,rf,gf⟩ ((⟨qo,qa,qb⟩:Nd),qat,qk))/\Hid (aS wx w.heap.size 49 #[O X 12,O X (A:Int),O X (B:Int),Y (I ⟨bk,ok,Z⟩) nk ck,Y Aa na ca,Y Af nf cf])/\Hid (aS wx (w.heap.size+1) 49 #[O X 0,O X 0,O X 0,Y Z 0 0,Y Z 0 0,Y Z 0 0])/\Hid (aS wx (w.heap.size+1+1) 49 #[O X yo,O X ya,O X yb,Y Ck pk ek,Y Ca pa ea,Y Cf pf ef])/\Hid (dJ (aZ R V0 wx) wx ⟨Ck,pk,ek,Ca,pa,ea,Cf,pf,ef⟩ ((⟨yo,ya,yb⟩:Nd),yat,yk))/\Hid (aS wx g7 49 #[O X qo,O X qa,O X qb,Y Dk rk gk,Y Da ra ga,Y Df rf gf])/\Hid (Below w.heap.size w wx))
   case first =>
    go_wp2_with fail;have HKP:=aB (fun (W:World) (hb:Below w7.heap.size w7 W)=>(by
     have a:=(HKY7.o.below hb HKY7.o.lt).cell;have c:=(HO7.o.below hb HO7.o.lt).cell;exact⟨a 0,a 1,a 2,a 3,a 4,a 5,c 0,c 1,c 2,c 3,c 4,c 5⟩:W.cell? ⟨w.heap.size+1+1,0,Z⟩=I (O X yo)/\W.cell? ⟨w.heap.size+1+1,1,Z⟩=I (O X ya)/\W.cell? ⟨w.heap.size+1+1,2,Z⟩=I (O X yb)/\W.cell? ⟨w.heap.size+1+1,3,Z⟩=I (Y Ck pk ek)/\W.cell? ⟨w.heap.size+1+1,4,Z⟩=I (Y Ca pa ea)/\W.cell? ⟨w.heap.size+1+1,5,Z⟩=I (Y Cf pf ef)/\W.cell? ⟨wr.heap.size,0,Z⟩=I (O X 12)/\W.cell? ⟨wr.heap.size,1,Z⟩=I (O X (i:Int))/\W.cell? ⟨wr.heap.size,2,Z⟩=I (O X (B:Int))/\W.cell? ⟨wr.heap.size,3,Z⟩=I (Y (I ⟨bk,ok,Z⟩) nk ck)/\W.cell? ⟨wr.heap.size,4,Z⟩=I (Y Z 0 0)/\W.cell? ⟨wr.heap.size,5,Z⟩=I (Y Af nf cf)))
    have HD0:Hid (Below w7.heap.size w7 w7.drew):=aB (aV (Below.refl w7.heap.size w7) 1);have HLT:=aB (fun q (hq:aZ R V0 w7 q)=>(by
     rcases hq with hq | hq
     · have:=HR.o _ hq;have:=HB7.o.size;omega
     exact hq.2:q<w7.heap.size))
    have hs7:w7.drew.heap.size=w7.heap.size:=rfl;have hv7:w.heap.size+3<=w7.heap.size:=by have:=HKY7.o.lt;omega
    refine wp_region_held_drew (S:=(fun w'=>w'.cell? ⟨w.heap.size+1+1,0,Z⟩=I (O X yo)/\w'.cell? ⟨w.heap.size+1+1,1,Z⟩=I (O X ya)/\w'.cell? ⟨w.heap.size+1+1,2,Z⟩=I (O X yb)/\w'.cell? ⟨w.heap.size+1+1,3,Z⟩=I (Y Ck pk ek)/\w'.cell? ⟨w.heap.size+1+1,4,Z⟩=I (Y Ca pa ea)/\w'.cell? ⟨w.heap.size+1+1,5,Z⟩=I (Y Cf pf ef)/\w'.cell? ⟨wr.heap.size,0,Z⟩=I (O X 12)/\w'.cell? ⟨wr.heap.size,1,Z⟩=I (O X (i:Int))/\w'.cell? ⟨wr.heap.size,2,Z⟩=I (O X (B:Int))/\w'.cell? ⟨wr.heap.size,3,Z⟩=I (Y (I ⟨bk,ok,Z⟩) nk ck)/\w'.cell? ⟨wr.heap.size,4,Z⟩=I (Y Z 0 0)/\w'.cell? ⟨wr.heap.size,5,Z⟩=I (Y Af nf cf))) aC ?_ (fun hZ => ?_)
    · (try dsimp only);exact HKP.o _ HD0.o
    generalize w7.drew=V7 at *;have HS7:=aB hs7;clear hs7;refine aL 0 hZ ?_;refine aL 1 hZ ?_;refine aL 2 hZ ?_;refine wpAnyH_ready (rs:=[3,8]) aC aD ?_;refine AllReadyH.cons rfl (fun K hK => ?_) (AllReadyH.cons rfl (fun K hK => ?_) (AllReadyH.nil))
    · go_simp;go_at_call 110
      refine (HRA.o _ (HB7.o.trans (HD0.o.mono HB7.o.size)) i hi).mono ?_;rintro e v1 ⟨hbv1,⟨Ek,sk,fk,Ea,sa,fa,Ef,sf,ff⟩,rfl,htr⟩;have HBv1:=dA HD0 hbv1;have HTR:=aB htr;have HSv1:=aB hbv1;clear hbv1 htr;go_wp2_with fail;refine hK.o _ _ (by exact HKP.o _ HBv1.o) fun hZ => ?_;clear hK K;try simp only[p7]
      refine wpAnyH_ready (rs:=[4,8]) aC aD ?_;refine AllReadyH.cons rfl (fun K hK => ?_) (AllReadyH.cons rfl (fun K hK => ?_) (AllReadyH.nil))
      · go_simp;go_at_call 78
        refine (HPI.o _ (HB7.o.trans (HBv1.o.mono HB7.o.size)) (aZ R V0 v1) ?_ ⟨Ck,pk,ek,Ca,pa,ea,Cf,pf,ef⟩ ⟨Ek,sk,fk,Ea,sa,fa,Ef,sf,ff⟩ ?_ ?_).mono ?_
        · intro q hq;exact hq.elim (fun h=>by have:=HR.o _ h;have:=HBv1.o.size;have:=HS7.o;omega) (fun h=>h.2)
        · exact HTY7.o.keep fun q hq=>⟨hq.to (Nat.le_refl _) HBv1.o.size,fun o=>HBv1.o.cell (p:=⟨q,o,Z⟩) (HLT.o q hq)⟩
        · exact HTR.o.keep fun q hq=>⟨hq.to (by have:=HS7.o;omega) (Nat.le_refl _),fun o=>rfl⟩
        rintro e v2 ⟨hbv2,⟨Dk,rk,gk,Da,ra,ga,Df,rf,gf⟩,rfl,htq⟩;have HBv2:=dA HBv1 hbv2;have HTQ:=aB htq;have HSv2:=aB hbv2;clear hbv2 htq;go_wp2_with fail;refine hK.o _ _ (by exact HKP.o _ HBv2.o) fun hZ => ?_;clear hK K;try simp only[p7]
        refine aL 5 hZ ?_;refine aL 6 hZ ?_;refine aL 7 hZ ?_;have hal:=aP v2 (J #[O X 0,O X 0,O X 0,Y Z 0 0,Y Z 0 0,Y Z 0 0] 49);have HBa:=dA HBv2 hal;have HGK:=aB (aS.new v2 49 #[O X 0,O X 0,O X 0,Y Z 0 0,Y Z 0 0,Y Z 0 0]);have HAL:=aB hal;clear hal;refine r1 8 fun K hK => ?_;go_simp;refine hK.o _ _ (by exact HKP.o _ HBa.o) fun hZ => ?_;clear hK K;try simp only[p7]
        have hg2:=HBv2.o.size;have hsa:v2.heap.size<(v2.alloc (J #[O X 0,O X 0,O X 0,Y Z 0 0,Y Z 0 0,Y Z 0 0] 49)).heap.size:=by simp
        generalize hgV:(v2.alloc (J #[O X 0,O X 0,O X 0,Y Z 0 0,Y Z 0 0,Y Z 0 0] 49))=v3 at *;clear hgV;have hq3:∀q,aZ (aZ R V0 v1) v1 v2 q->q<v2.heap.size:=fun q hq=>by
         rcases hq with (hq | hq) | hq
         · have:=HR.o _ hq;have:=HS7.o;omega
         · have:=HBv1.o.size;have:=HSv2.o.size;have:=hq.2;have:=HS7.o;omega
         exact hq.2
        have HQ3:=aB hq3;clear hq3;have hg6:=dQ v3 v2.heap.size (O X qo) (O X qa) (O X qb) (Y Dk rk gk) (Y Da ra ga) (Y Df rf gf);have HGS:=aB hg6;have HBG:=aB (HBa.o.grown hg6 (HBa.o.size) (fun q hq=>by injection hq with hq;have:=HS7.o;omega));have zg:=aS.cell HGK.o;have zgf:=aS.frozen HGK.o;clear hg6;refine r1 9 fun K hK => ?_;go_simp;refine hK.o _ _ (by exact HKP.o _ HBG.o) fun hZ => ?_;clear hK K;try simp only[p7]
        refine aL 10 hZ ?_;refine wpAnyH_done aC ?_ _;go_wp2_with fail;go_meet;refine⟨v2.heap.size,Dk,Da,Df,rk,gk,ra,ga,rf,gf,rfl,rfl,aB ?_,aB (HKB7.o.below HBG.o HKB7.o.lt),aB (HKZ7.o.below HBG.o HKZ7.o.lt),aB (HKY7.o.below HBG.o HKY7.o.lt),aB (HTY7.o.keep fun q hq=>⟨aZ.to hq (Nat.le_refl _) HBG.o.size,fun o=>HBG.o.cell (p:=⟨q,o,Z⟩) (HLT.o q hq)⟩),aB (bK HGK.o _ _ _ _ _ _),aB (HB7.o.trans (HBG.o.mono HB7.o.size))⟩;refine HTQ.o.keep fun q hq=>⟨?_,fun o => ?_⟩
        · exact hq.idem (by have:=HBv1.o.size;have:=HS7.o;omega) (by have:=HSv2.o.size;have:=HGS.o.size;have:=HS7.o;omega) (by have:=HGS.o.size;have:=HS7.o;omega)
        exact (aU (HGS.o.block q (by have:=HQ3.o q hq;have:=HS7.o;omega) (by intro e;injection e with e;have:=HQ3.o q hq;have:=HS7.o;omega)) o).trans (HAL.o.cell (p:=⟨q,o,Z⟩) (HQ3.o q hq))
      have hal:=aP v1 (J #[O X 0,O X 0,O X 0,Y Z 0 0,Y Z 0 0,Y Z 0 0] 49);have HBa:=dA HBv1 hal;have HGK0:=aB (aS.new v1 49 #[O X 0,O X 0,O X 0,Y Z 0 0,Y Z 0 0,Y Z 0 0]);have HAL:=aB hal;clear hal;go_simp;refine hK.o _ _ (by exact HKP.o _ HBa.o) fun hZ => ?_;clear hK K;try simp only[p7]
      have hsa:(v1.alloc (J #[O X 0,O X 0,O X 0,Y Z 0 0,Y Z 0 0,Y Z 0 0] 49)).heap.size=v1.heap.size+1:=by simp
      have hg1:=HBv1.o.size;generalize hgV:(v1.alloc (J #[O X 0,O X 0,O X 0,Y Z 0 0,Y Z 0 0,Y Z 0 0] 49))=va at *;clear hgV;refine r1 4 fun K hK => ?_;go_simp;go_at_call 78
      refine (HPI.o _ (HB7.o.trans (HBa.o.mono HB7.o.size)) (fun q=>aZ R V0 v1 q/\q ≠ v1.heap.size) ?_ ⟨Ck,pk,ek,Ca,pa,ea,Cf,pf,ef⟩ ⟨Ek,sk,fk,Ea,sa,fa,Ef,sf,ff⟩ ?_ ?_).mono ?_
      · intro q hq;exact hq.1.elim (fun h=>by have:=HR.o _ h;have:=HS7.o;omega) (fun h=>by have:=h.2;have:=HS7.o;omega)
      · exact HTY7.o.keep fun q hq=>⟨⟨hq.to (Nat.le_refl _) hg1,by have:=HLT.o q hq;have:=HS7.o;omega⟩,fun o=>HBa.o.cell (p:=⟨q,o,Z⟩) (HLT.o q hq)⟩
      · exact HTR.o.keep fun q hq=>⟨⟨hq.to (by have:=HS7.o;omega) (Nat.le_refl _),hq.elim (fun h=>by have:=HR.o _ h;have:=HS7.o;omega) (fun h=>by have:=h.2;have:=HS7.o;omega)⟩,fun o=>HAL.o.cell (p:=⟨q,o,Z⟩) (show q<v1.heap.size from hq.elim (fun h=>by have:=HR.o _ h;have:=HS7.o;omega) (fun h=>h.2))⟩
      rintro e v3 ⟨hbv3,⟨Dk,rk,gk,Da,ra,ga,Df,rf,gf⟩,rfl,htq⟩;have HBv3:=dA HBa hbv3;have HTQ:=aB htq;have HSv3:=aB hbv3;clear hbv3 htq;go_wp2_with fail;refine hK.o _ _ (by exact HKP.o _ HBv3.o) fun hZ => ?_;clear hK K;try simp only[p7]
      refine aL 5 hZ ?_;refine aL 6 hZ ?_;refine aL 7 hZ ?_;have HGK:=aB (HGK0.o.below HSv3.o HGK0.o.lt);have hg3:=HSv3.o.size;have hg6:=dQ v3 v1.heap.size (O X qo) (O X qa) (O X qb) (Y Dk rk gk) (Y Da ra ga) (Y Df rf gf);have HGS:=aB hg6;have HBG:=aB (HBv3.o.grown hg6 (HBv3.o.size) (fun q hq=>by injection hq with hq;have:=HS7.o;omega));have zg:=aS.cell HGK.o;have zgf:=aS.frozen HGK.o;clear hg6;refine r1 9 fun K hK => ?_;go_simp;refine hK.o _ _ (by exact HKP.o _ HBG.o) fun hZ => ?_;clear hK K;try simp only[p7]
      refine aL 10 hZ ?_;refine wpAnyH_done aC ?_ _;go_wp2_with fail;go_meet;refine⟨v1.heap.size,Dk,Da,Df,rk,gk,ra,ga,rf,gf,rfl,rfl,aB ?_,aB (HKB7.o.below HBG.o HKB7.o.lt),aB (HKZ7.o.below HBG.o HKZ7.o.lt),aB (HKY7.o.below HBG.o HKY7.o.lt),aB (HTY7.o.keep fun q hq=>⟨aZ.to hq (Nat.le_refl _) HBG.o.size,fun o=>HBG.o.cell (p:=⟨q,o,Z⟩) (HLT.o q hq)⟩),aB (bK HGK.o _ _ _ _ _ _),aB (HB7.o.trans (HBG.o.mono HB7.o.size))⟩;refine HTQ.o.keep fun q hq=>⟨?_,fun o => ?_⟩
      · rcases hq with hq | hq
        · exact hq.1.to (Nat.le_refl _) (by have:=HGS.o.size;have:=HS7.o;omega)
        exact Or.inr ⟨by have:=hq.1;have:=HS7.o;omega,Nat.lt_of_lt_of_le hq.2 HGS.o.size⟩
      refine aU (HGS.o.block q ?_ ?_) o
      · rcases hq with hq | hq
        · rcases hq.1 with h | h
          · have:=HR.o _ h;have:=HS7.o;omega
          have:=h.2;have:=HS7.o;omega
        exact hq.2
      intro e;injection e with e;rcases hq with hq | hq
      · exact hq.2 (by have:=HS7.o;omega)
      have:=hq.1;have:=HS7.o;omega
    have hal:=aP V7 (J #[O X 0,O X 0,O X 0,Y Z 0 0,Y Z 0 0,Y Z 0 0] 49);have HBa:=dA HD0 hal;have HGK0:=aB (aS.new V7 49 #[O X 0,O X 0,O X 0,Y Z 0 0,Y Z 0 0,Y Z 0 0]);have hsa:(V7.alloc (J #[O X 0,O X 0,O X 0,Y Z 0 0,Y Z 0 0,Y Z 0 0] 49)).heap.size=V7.heap.size+1:=by simp
    clear hal;go_simp;refine hK.o _ _ (by exact HKP.o _ HBa.o) fun hZ => ?_;clear hK K;try simp only[p7]
    generalize hgV:(V7.alloc (J #[O X 0,O X 0,O X 0,Y Z 0 0,Y Z 0 0,Y Z 0 0] 49))=va at *;clear hgV;refine r1 3 fun K hK => ?_;go_simp;go_at_call 110
    refine (HRA.o _ (HB7.o.trans (HBa.o.mono HB7.o.size)) i hi).mono ?_;rintro e v1 ⟨hbv1,⟨Ek,sk,fk,Ea,sa,fa,Ef,sf,ff⟩,rfl,htr⟩;have HBv1:=dA HBa hbv1;have HTR:=aB htr;have HSv1:=aB hbv1;clear hbv1 htr;go_wp2_with fail;refine hK.o _ _ (by exact HKP.o _ HBv1.o) fun hZ => ?_;clear hK K;try simp only[p7]
    have hg1:=HSv1.o.size;have HGK1:=aB (HGK0.o.below HSv1.o HGK0.o.lt);refine r1 4 fun K hK => ?_;go_simp;go_at_call 78
    refine (HPI.o _ (HB7.o.trans (HBv1.o.mono HB7.o.size)) (fun q=>aZ R V0 v1 q/\q ≠ V7.heap.size) ?_ ⟨Ck,pk,ek,Ca,pa,ea,Cf,pf,ef⟩ ⟨Ek,sk,fk,Ea,sa,fa,Ef,sf,ff⟩ ?_ ?_).mono ?_
    · intro q hq;exact hq.1.elim (fun h=>by have:=HR.o _ h;have:=HS7.o;omega) (fun h=>h.2)
    · exact HTY7.o.keep fun q hq=>⟨⟨hq.to (Nat.le_refl _) (by have:=HS7.o;omega),by have:=HLT.o q hq;have:=HS7.o;omega⟩,fun o=>HBv1.o.cell (p:=⟨q,o,Z⟩) (HLT.o q hq)⟩
    · exact HTR.o.keep fun q hq=>⟨⟨hq.to (by have:=HS7.o;omega) (Nat.le_refl _),hq.elim (fun h=>by have:=HR.o _ h;have:=HS7.o;omega) (fun h=>by have:=h.1;have:=HS7.o;omega)⟩,fun o=>rfl⟩
    rintro e v3 ⟨hbv3,⟨Dk,rk,gk,Da,ra,ga,Df,rf,gf⟩,rfl,htq⟩;have HBv3:=dA HBv1 hbv3;have HTQ:=aB htq;have HSv3:=aB hbv3;clear hbv3 htq;go_wp2_with fail;refine hK.o _ _ (by exact HKP.o _ HBv3.o) fun hZ => ?_;clear hK K;try simp only[p7]
    refine aL 5 hZ ?_;refine aL 6 hZ ?_;refine aL 7 hZ ?_;have HGK:=aB (HGK1.o.below HSv3.o HGK1.o.lt);have hg3:=HSv3.o.size;have hg6:=dQ v3 V7.heap.size (O X qo) (O X qa) (O X qb) (Y Dk rk gk) (Y Da ra ga) (Y Df rf gf);have HGS:=aB hg6;have HBG:=aB (HBv3.o.grown hg6 (HBv3.o.size) (fun q hq=>by injection hq with hq;have:=HS7.o;omega));have zg:=aS.cell HGK.o;have zgf:=aS.frozen HGK.o;clear hg6;refine r1 9 fun K hK => ?_;go_simp;refine hK.o _ _ (by exact HKP.o _ HBG.o) fun hZ => ?_;clear hK K;try simp only[p7]
    refine aL 10 hZ ?_;refine wpAnyH_done aC ?_ _;go_wp2_with fail;go_meet;refine⟨V7.heap.size,Dk,Da,Df,rk,gk,ra,ga,rf,gf,rfl,rfl,aB ?_,aB (HKB7.o.below HBG.o HKB7.o.lt),aB (HKZ7.o.below HBG.o HKZ7.o.lt),aB (HKY7.o.below HBG.o HKY7.o.lt),aB (HTY7.o.keep fun q hq=>⟨aZ.to hq (Nat.le_refl _) HBG.o.size,fun o=>HBG.o.cell (p:=⟨q,o,Z⟩) (HLT.o q hq)⟩),aB (bK HGK.o _ _ _ _ _ _),aB (HB7.o.trans (HBG.o.mono HB7.o.size))⟩;refine HTQ.o.keep fun q hq=>⟨?_,fun o => ?_⟩
    · rcases hq with hq | hq
      · exact hq.1.to (Nat.le_refl _) (by have:=HGS.o.size;have:=HS7.o;omega)
      exact Or.inr ⟨by have:=hq.1;have:=HS7.o;omega,Nat.lt_of_lt_of_le hq.2 HGS.o.size⟩
    refine aU (HGS.o.block q ?_ ?_) o
    · rcases hq with hq | hq
      · rcases hq.1 with h | h
        · have:=HR.o _ h;have:=HS7.o;omega
        have:=h.2;have:=HS7.o;omega
      exact hq.2
    intro e;injection e with e;rcases hq with hq | hq
    · exact hq.2 (by have:=HS7.o;omega)
    have:=hq.1;have:=HS7.o;omega
   case rest =>
   obtain⟨g7,Dk,Da,Df,rk,gk,ra,ga,rf,gf,rfl,rfl,htq,hkb9,hkz9,hky9,hty9,hkq,hb9⟩:=hcut;clear HHI HHB HRA HPL HSF HFX HPI;by_cases he:qe=0
   · subst he;have HR2:=aB (HUU.o.trans (if_pos rfl));have zq:=aS.cell hkq.o;have zy:=aS.cell hky9.o;have zyf:=aS.frozen hky9.o;go_wp2_with fail;have hg6:=dQ wc (w.heap.size+1+1) (O X qo) (O X qa) (O X qb) (Y Dk rk gk) (Y Da ra ga) (Y Df rf gf);have HG6:=aB hg6;clear hg6 zq zy zyf;go_roundw
     case rel =>
      refine⟨i,(i:Int)-1,(⟨qo,qa,qb⟩,qat,qk),⟨Dk,rk,gk,Da,ra,ga,Df,rf,gf⟩,rfl,rfl,by omega,HR2,aB (HF2.o rfl),aB ?_,aB (hkb9.o.grown HG6.o aK),aB (hkz9.o.grown HG6.o aK),aB (bK hky9.o _ _ _ _ _ _),aB (hb9.o.grown HG6.o (by have:=hb9.o.size;omega) (fun q hq=>by injection hq with hq;omega))⟩;exact htq.o.keep fun q hq=>⟨hq.elim Or.inl (fun h=>Or.inr ⟨h.1,Nat.lt_of_lt_of_le h.2 HG6.o.size⟩),fun o=>aU (HG6.o.block q (by
       rcases hq with hq | hq
       · have:=HR.o _ hq;have:=hb9.o.size;omega
       · exact hq.2) (by
       intro e;injection e with e;rcases hq with hq | hq
       · have:=HR.o _ hq;omega
       have:=hq.1;omega)) o⟩
     case measure=>simp[intOf]<;>omega
   · have de:(qe != 0)=true:=by simpa using he
     have HBB:=aB (HBD.o he);have HR2:=aB (HUU.o.trans (if_neg he));have zy:=aS.cell hky9.o;have zz:=aS.cell hkz9.o;have zf:=aS.frozen hkz9.o;go_wp2_with fail;refine bodyPost_ret (v:=.tuple #[.agg #[O X yo,O X ya,O X yb,Y Ck pk ek,Y Ca pa ea,Y Cf pf ef],O X qe]) ?_ rfl ?_
     · exact lY (g:=w.heap.size+1) (bK hkz9.o _ _ _ _ _ _) aD
     rw[HR2.o,HBB.o];exact mK (V:=V0) (t:=⟨Ck,pk,ek,Ca,pa,ea,Cf,pf,ef⟩) HR.o aA aA hb9.o hty9.o
end Go.Proofs.YtjllmblbbgojbaaGreat
