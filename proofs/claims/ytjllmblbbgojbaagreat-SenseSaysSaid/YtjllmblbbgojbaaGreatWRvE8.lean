/- The reference's Eval at a constant. -/
import Derived.Test.YtjllmblbbgojbaaGreatWShort3
import Derived.Test.YtjllmblbbgojbaaGreatWRvE6
import Derived.Test.YtjllmblbbgojbaaGreatWRefTerm
import Derived.Deep.DeepCutAuto
namespace Go.Proofs.YtjllmblbbgojbaaGreat
open Go.Value renaming int → O, slice → Y
open Go.IntKind renaming i64 → X
open Option renaming none → Z
open Go.Obj renaming cells → I
open Go.Lib (hid)
open Go.RowKit
theorem sE {b:Bk} {w:World} {A:Option Addr} {n c:Nat} {l:List Nd} (h:aP w A n c l) (hf:eM b 0 l=0):Calls Tryz.prog 20 #[Y A n c] w (fun e w'=>Below w.heap.size w w'/\∃ t:fZ,e=.returned (.tuple #[.agg (dE t (dX l).1),.bool true])/\cQ (jM w w') w' t (dX l)):=by
 refine (lP h).mono ?_;rintro e w' ⟨hb,hh⟩;obtain ⟨h1,h2⟩:=kP hf;rcases hh with ⟨h3,_⟩ | ⟨xs,n,ats,k,rfl,ht,hpp,_⟩
 · have:=h2.rt.shape;rw [<-h1] at this;exact absurd this h3
 have e:dX l=(n,ats,k):=by unfold dX;rw [hpp]
 rw [e];obtain ⟨t,e1,e2⟩:=JW (x:=(n,ats,k)) ht;exact ⟨hb,t,by rw [e1],e2⟩
set_option linter.unusedSimpArgs false in
set_option linter.unusedVariables false in
set_option maxRecDepth 100000 in
set_option maxHeartbeats 8000000 in
theorem FS {w0:World} {g:Nat} {v:aZ} {b:Bk} {d:Nat} (hr:bY b=0) (hb:bM w0 v b) (H:qD w0 g v b d) (HG:s7 w0 g v b d) {w:World} {m:Nat} {R:Nat->Prop} {t:fZ} {x:TT} (hmd:m<d) (hm1:m<=100000) (hw:gY w0 g v b (m+1) 0 w) (hR:gX g w R) (ht:cQ R w t x) (fx:bR b 0 x) (hv:cJ x=false) (hop:x.1.op=8) :
 Calls Tryz.prog 26 #[.pointer (some ⟨g,0,Z⟩),.agg (dE t x.1)] w (xG w0 g v b R w (eO b (d+1) (m+1) x)):=by
 have hn:=fx.nod x.1 (by simp [aJ]);have ha:0<=x.1.a:=by have hok:=fx.okt.ok;simp only [dG,Bool.and_eq_true] at hok;exact (eN hok.1.1).1
 unfold bH at hn;rw [if_neg aA,if_pos hop,Bool.and_eq_true,decide_eq_true_eq,beq_iff_eq] at hn;have hbf:=q7 hr ha hn.1 hn.2;obtain ⟨hy1,hy2⟩:=kP hbf;have hres:eO b (d+1) (m+1) x=eO b d m (dX (aV b x.1.a).body):=by
  rw [gZ];simp only [iC,hv,Bool.false_eq_true,if_false];rw [if_pos hop]
 obtain ⟨ia,hia⟩ : ∃ ia:Nat,x.1.a=(ia:Int):=⟨x.1.a.toNat,by omega⟩;rw [hia] at hn hbf hy1 hy2 hres;have hle:=hb.entries.len;obtain ⟨be,oe,hAe,hbe,⟨As,ns,cs,Ap,np,cp,Ai,ni,ci,Ac,nc,cc,At,nt,ct,Ab,nb,cb⟩,_,_,_,_,_,_,c6,hec⟩:=hb.entries.at_ (k:=ia) aA;have hen:aV b (ia:Int)=b.entries.getD ia default:=by unfold aV;rw [Int.toNat_natCast]
 rw [<-hen] at hec;simp only at c6;have HOF:=hid (fun (W:World) (h:Below w0.heap.size w0 W)=>sE (b:=b) (hec.body.below h) hbf);obtain ⟨⟨⟨yo,ya,yb⟩,yat,yk⟩,hY⟩ : ∃ y,y=dX (aV b (ia:Int)).body:=⟨_,rfl⟩;rw [<-hY] at HOF hres hy2;simp only at HOF;have HFY:=hid hy2;have HC6:=hid c6;have HBE:=hid hbe;have HAE:=hid hAe;have HIN:Hid (ia<v.ne):=hid aA;obtain ⟨res,hr0⟩ : ∃ r,r=eO b (d+1) (m+1) x:=⟨_,rfl⟩;rw [<-hr0] at hres ⊢;have HRZ:=hid hres;clear hres hr0 hn ha hbf hy1 hy2 hle c6 hec hen hY hbe hAe;obtain ⟨⟨xo,xa,xb⟩,xat,xk⟩:=x;obtain ⟨xA,xn,xc,xB,xm,xd,xC,xp,xe⟩:=t;simp only at hop hia;have HOP:=hid hop;have HIA:=hid hia;clear hop hia;obtain ⟨F,hF⟩ : ∃ F:Int,F=((m+1:Nat):Int):=⟨_,rfl⟩;have f0:decide (F=0)=false:=decide_eq_false aA;have f0':(F==0)=false:=by rw [beq_eq_false_iff_ne];omega
 have f1:IntKind.i64.wrap (F-1)=(m:Int):=by rw [IntKind.wrap_i64];omega
 have hgl:=hw.lt;have hba:=aS w (I #[O X xo,O X xa,O X xb,Y xA xn xc,Y xB xm xd,Y xC xp xe] 49) (I #[O X 0,O X 0,O X 0,Y Z 0 0,Y Z 0 0,Y Z 0 0] 49);have hw1:=hw.below hba;have zg:=aD.cell hw1.blk;have zgf:=aD.frozen hw1.blk;rw [<-hF] at zg;obtain ⟨hw2,hm2⟩:=hw.fuel m;have hsz:(w.setCell ⟨g,5,Z⟩ (O X (m:Int))).heap.size=w.heap.size:=by simp
 have hbb:=aS (w.setCell ⟨g,5,Z⟩ (O X (m:Int))) (I #[O X xo,O X xa,O X xb,Y xA xn xc,Y xB xm xd,Y xC xp xe] 49) (I #[O X 0,O X 0,O X 0,Y Z 0 0,Y Z 0 0,Y Z 0 0] 49);have hmv:=hm2.trans (row':=Z) (aG.of_below (S:=fun q=>q=g) (row:=Z) hbb) (fun _ e=>by cases e);have HIV:=hid (jV (hR.moved hmv.size).lt (ht.movedO hR hmv) fx.rt);obtain ⟨V0,hV0⟩ : ∃ V0:World,V0.heap.size=w.heap.size+2:=⟨((w.alloc (I #[O X xo,O X xa,O X xb,Y xA xn xc,Y xB xm xd,Y xC xp xe] 49)).alloc (I #[O X 0,O X 0,O X 0,Y Z 0 0,Y Z 0 0,Y Z 0 0] 49)),by simp⟩;have HV0:=hid hV0;have HA1:Hid (sW w0 g v b w V0 #[O X xo,O X xa,O X xb,Y xA xn xc,Y xB xm xd,Y xC xp xe] m 0 (((w.setCell ⟨g,5,Z⟩ (O X (m:Int))).alloc (I #[O X xo,O X xa,O X xb,Y xA xn xc,Y xB xm xd,Y xC xp xe] 49)).alloc (I #[O X 0,O X 0,O X 0,Y Z 0 0,Y Z 0 0,Y Z 0 0] 49))):=hid ⟨hw2.below hbb,hmv,by rw [hV0];simp,(aD.new' hsz.symm).alloc _,aD.new' (by simp)⟩;have HRO:=hid hR;have HL:=hid hgl;have HT:=hid ht;have HFX:=hid fx;have HFT:=hid (eW (b:=b) hr d);have HH:=hid H;have HHG:=hid HG;rw [hv] at HIV;clear hw hw1 hw2 hm2 hmv hba hbb hsz hF hR ht fx hv H HG hV0 hr;show Calls Tryz.prog 26 #[.pointer (some ⟨g,0,Z⟩),.agg #[O X xo,O X xa,O X xb,Y xA xn xc,Y xB xm xd,Y xC xp xe]] w _;go_in;go_wp2_with fail
 refine (HIV.o).mono ?_;rintro e w2 ⟨rfl,hb2⟩;have HA:=hid (HA1.o.below hb2);have zx:=aD.cell HA.o.x;clear hb2 zg zgf f0 f0' f1 HA1 HIV;obtain rfl:=HOP.o;obtain rfl:xa=(ia:Int):=HIA.o;go_upto_region 10 with fail
 go_cut [5] (fun pv wx=>∃ (g5:Nat) (yA yB yC:Option Addr) (yn yc ym yd yp ye:Nat),pv=.pointer (some ⟨g5,0,Z⟩)/\Hid (aD wx g5 49 #[O X yo,O X ya,O X yb,Y yA yn yc,Y yB ym yd,Y yC yp ye])/\Hid (cQ (aK R V0 wx) wx ⟨yA,yn,yc,yB,ym,yd,yC,yp,ye⟩ ((⟨yo,ya,yb⟩:Nd),yat,yk))/\Hid (sW w0 g v b w V0 #[O X 8,O X (ia:Int),O X xb,Y xA xn xc,Y xB xm xd,Y xC xp xe] m 0 wx))
 case first =>
  have zx2:=aD.cell HA.o.x;have zg2:=aD.cell HA.o.st.blk;rw [HAE.o] at zg2;have c62:=(HA.o.st.bel.cell (p:=⟨be,oe+ia*7+6,Z⟩) HBE.o).trans HC6.o;have hin1:decide (ia<v.ne)=true:=decide_eq_true HIN.o;have hin2:decide ((ia:Int)<(v.ne:Int))=true:=decide_eq_true (by have:=HIN.o;omega);have hin3:=HIN.o;have HKP:=hid (fun (W:World) (hb:Below w2.heap.size w2 W)=>(⟨(hb.cell (p:=⟨g,2,Z⟩) HA.o.st.lt).trans (zg2 2),(hb.cell (p:=⟨w.heap.size,1,Z⟩) HA.o.x.lt).trans (zx2 1),(hb.cell (p:=⟨be,oe+ia*7+6,Z⟩) (show be<w2.heap.size by have:=HBE.o;have:=HA.o.st.bel.size;omega)).trans c62⟩:W.cell? ⟨g,2,Z⟩=some (Y (some ⟨be,oe,Z⟩) v.ne v.ce)/\W.cell? ⟨w.heap.size,1,Z⟩=some (O X (ia:Int))/\W.cell? ⟨be,oe+ia*7+6,Z⟩=some (Y Ab nb cb)));have HD0:Hid (Below w2.heap.size w2 w2.drew):=hid (aI (Below.refl w2.heap.size w2) 1);have hs7:w2.drew.heap.size=w2.heap.size:=rfl;clear zx2 zg2 c62 zx;go_wp2_with fail
  refine wp_region_held_drew (S:=(fun w'=>w'.cell? ⟨g,2,Z⟩=some (Y (some ⟨be,oe,Z⟩) v.ne v.ce)/\w'.cell? ⟨w.heap.size,1,Z⟩=some (O X (ia:Int))/\w'.cell? ⟨be,oe+ia*7+6,Z⟩=some (Y Ab nb cb))) (by kernel_rfl) ?_ (fun hHeld => ?_)
  · (try dsimp only);exact HKP.o _ HD0.o
  generalize w2.drew=V7 at *;have HS7:=hid hs7;clear hs7;refine tq 0 hHeld ?_;try simp only [p7]
  refine tq 1 hHeld ?_;try simp only [p7]
  refine tq 2 hHeld ?_;try simp only [p7]
  refine tq 3 hHeld ?_;try simp only [p7]
  refine tq 4 hHeld ?_;try simp only [p7]
  refine tq 5 hHeld ?_;try simp only [p7]
  refine tq 6 hHeld ?_;try simp only [p7]
  refine tq 7 hHeld ?_;try simp only [p7]
  refine tq 8 hHeld ?_;try simp only [p7]
  refine tq 9 hHeld ?_;try simp only [p7]
  refine tq 10 hHeld ?_;try simp only [p7]
  refine wpAnyH_ready (rs:=[11,15]) (by kernel_rfl) (by simp) ?_;refine AllReadyH.cons rfl (fun K hK => ?_) (AllReadyH.cons rfl (fun K hK => ?_) (AllReadyH.nil))
  · go_simp;go_at_call 20
    refine (HOF.o _ (HA.o.st.bel.trans (HD0.o.mono HA.o.st.bel.size))).mono ?_;rintro e v1 ⟨hbv1,⟨yA,yn,yc,yB,ym,yd,yC,yp,ye⟩,rfl,hty⟩;have HBv1:=cO HD0 hbv1;have HTY:=hid hty;have HSv1:=hid hbv1;clear hbv1 hty;go_wp2_with fail
    refine hK.o _ _ (by exact HKP.o _ HBv1.o) fun hHeld => ?_;clear hK K;try simp only [p7]
    refine tq 12 hHeld ?_;try simp only [p7]
    refine tq 13 hHeld ?_;try simp only [p7]
    refine tq 14 hHeld ?_;try simp only [p7]
    have hal:=aB v1 (I #[O X 0,O X 0,O X 0,Y Z 0 0,Y Z 0 0,Y Z 0 0] 49);have HBa:=cO HBv1 hal;have HGK:=hid (aD.new v1 49 #[O X 0,O X 0,O X 0,Y Z 0 0,Y Z 0 0,Y Z 0 0]);have HAL:=hid hal;clear hal;refine r1 15 fun K hK => ?_;go_simp;refine hK.o _ _ (by exact HKP.o _ HBa.o) fun hHeld => ?_;clear hK K;try simp only [p7]
    have hsa:v1.heap.size<(v1.alloc (I #[O X 0,O X 0,O X 0,Y Z 0 0,Y Z 0 0,Y Z 0 0] 49)).heap.size:=by simp
    have hg1:=HBv1.o.size;generalize hgV:(v1.alloc (I #[O X 0,O X 0,O X 0,Y Z 0 0,Y Z 0 0,Y Z 0 0] 49))=v3 at *;clear hgV;have HTY0:=HTY
    replace HTY:=hid (HTY0.o.keep (R':=fun q=>V7.heap.size<=q/\q<v1.heap.size) (w':=v3) fun q hq=>⟨hq,fun o=>HAL.o.cell (p:=⟨q,o,Z⟩) hq.2⟩)
    have hg6:=cW v3 v1.heap.size (O X yo) (O X ya) (O X yb) (Y yA yn yc) (Y yB ym yd) (Y yC yp ye);have HGS:=hid hg6;have HBG:=hid (HBa.o.grown hg6 (HBa.o.size) (fun q hq=>by injection hq with hq;have:=HS7.o;omega));have zg:=aD.cell HGK.o;have zgf:=aD.frozen HGK.o;clear hg6;refine r1 16 fun K hK => ?_;go_simp;refine hK.o _ _ (by exact HKP.o _ HBG.o) fun hHeld => ?_;clear hK K;try simp only [p7]
    refine tq 17 hHeld ?_;try simp only [p7]
    refine wpAnyH_done (by kernel_rfl) ?_ _;go_wp2_with fail
    go_meet;refine ⟨v1.heap.size,yA,yB,yC,yn,yc,ym,yd,yp,ye,rfl,hid (aW HGK.o _ _ _ _ _ _),hid ?_,hid (HA.o.below HBG.o)⟩;refine HTY.o.keep fun q hq=>⟨Or.inr ⟨?_,?_⟩,fun o=>aH (HGS.o.block q ?_ ?_) o⟩
    · have:=hq.1;have:=HA.o.sz;have:=HS7.o;omega
    · have:=hq.2;have:=HGS.o.size;have:=HS7.o;omega
    · have:=hq.2;have:=HS7.o;omega
    intro e;injection e with e;have:=hq.2;have:=HS7.o;omega
  have hal:=aB V7 (I #[O X 0,O X 0,O X 0,Y Z 0 0,Y Z 0 0,Y Z 0 0] 49);have HBa:=cO HD0 hal;have HGK0:=hid (aD.new V7 49 #[O X 0,O X 0,O X 0,Y Z 0 0,Y Z 0 0,Y Z 0 0]);have hsa:(V7.alloc (I #[O X 0,O X 0,O X 0,Y Z 0 0,Y Z 0 0,Y Z 0 0] 49)).heap.size=V7.heap.size+1:=by simp
  clear hal;go_simp;refine hK.o _ _ (by exact HKP.o _ HBa.o) fun hHeld => ?_;clear hK K;try simp only [p7]
  generalize hgV:(V7.alloc (I #[O X 0,O X 0,O X 0,Y Z 0 0,Y Z 0 0,Y Z 0 0] 49))=va at *;clear hgV;refine r1 11 fun K hK => ?_;go_simp;go_at_call 20
  refine (HOF.o _ (HA.o.st.bel.trans (HBa.o.mono HA.o.st.bel.size))).mono ?_;rintro e v3 ⟨hbv3,⟨yA,yn,yc,yB,ym,yd,yC,yp,ye⟩,rfl,hty⟩;have HBv3:=cO HBa hbv3;have HTY:=hid hty;have HSv3:=hid hbv3;clear hbv3 hty;go_wp2_with fail
  refine hK.o _ _ (by exact HKP.o _ HBv3.o) fun hHeld => ?_;clear hK K;try simp only [p7]
  refine tq 12 hHeld ?_;try simp only [p7]
  refine tq 13 hHeld ?_;try simp only [p7]
  refine tq 14 hHeld ?_;try simp only [p7]
  have HGK:=hid (HGK0.o.below HSv3.o HGK0.o.lt);have hg3:=HSv3.o.size;have hg6:=cW v3 V7.heap.size (O X yo) (O X ya) (O X yb) (Y yA yn yc) (Y yB ym yd) (Y yC yp ye);have HGS:=hid hg6;have HBG:=hid (HBv3.o.grown hg6 (HBv3.o.size) (fun q hq=>by injection hq with hq;have:=HS7.o;omega));have zg:=aD.cell HGK.o;have zgf:=aD.frozen HGK.o;clear hg6;refine r1 16 fun K hK => ?_;go_simp;refine hK.o _ _ (by exact HKP.o _ HBG.o) fun hHeld => ?_;clear hK K;try simp only [p7]
  refine tq 17 hHeld ?_;try simp only [p7]
  refine wpAnyH_done (by kernel_rfl) ?_ _;go_wp2_with fail
  go_meet;refine ⟨V7.heap.size,yA,yB,yC,yn,yc,ym,yd,yp,ye,rfl,hid (aW HGK.o _ _ _ _ _ _),hid ?_,hid (HA.o.below HBG.o)⟩;refine HTY.o.keep fun q hq=>⟨Or.inr ⟨?_,?_⟩,fun o=>aH (HGS.o.block q ?_ ?_) o⟩
  · have:=hq.1;have:=HA.o.sz;have:=HS7.o;omega
  · have:=hq.2;have:=HGS.o.size;have:=HS7.o;omega
  · exact hq.2
  intro e;injection e with e;have:=hq.1;have:=HS7.o;omega
 case rest =>
 obtain ⟨g5,yA,yB,yC,yn,yc,ym,yd,yp,ye,rfl,hk5,hy5,ha5⟩:=hcut;have zy5:=aD.cell hk5.o;go_wp2_with fail
 refine (HH.o wc m (aK R V0 wc) ⟨yA,yn,yc,yB,ym,yd,yC,yp,ye⟩ ((⟨yo,ya,yb⟩:Nd),yat,yk) hmd hm1 ha5.o.st (gX.mixed HRO.o (by have:=HV0.o;have:=HL.o;omega) ha5.o.mv.size) hy5.o HFY.o).mono ?_;rintro e w9 ⟨hm9,⟨eA,en,ec,eB,em,ed,eC,ep,ee⟩,⟨⟨eo,ea,eb⟩,eat,ek⟩,rfl,ht9,hr9⟩;have HZ9:=hid (ha5.o.r.movedO (by have:=HL.o;omega) hm9);have HM9:=hid (ha5.o.mv.trans (row':=Z) hm9 (fun _ e=>by cases e));have HT9:=hid (cQ.mix2 ht9 ha5.o.sz hm9.size);have HR9:=hid hr9;have zz:=aD.cell HZ9.o;have zf:=aD.frozen HZ9.o;clear hm9 ht9 hr9;go_wp2_with fail
 refine bodyPost_ret (v:=.agg #[O X eo,O X ea,O X eb,Y eA en ec,Y eB em ed,Y eC ep ee]) ?_ rfl ?_
 · exact bJ (g:=w.heap.size+1) (aW HZ9.o _ _ _ _ _ _) (by simp)
 rw [HRZ.o];exact eD (V:=V0) (t:=⟨eA,en,ec,eB,em,ed,eC,ep,ee⟩) (y:=((⟨eo,ea,eb⟩:Nd),eat,ek)) HRO.o HL.o aA (by have:=HV0.o;omega) HM9.o HT9.o HR9.o
end Go.Proofs.YtjllmblbbgojbaaGreat
