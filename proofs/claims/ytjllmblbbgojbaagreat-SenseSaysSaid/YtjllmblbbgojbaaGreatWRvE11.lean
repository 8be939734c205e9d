/- The reference's Eval at a match. -/
import Derived.Test.YtjllmblbbgojbaaGreatWShort3
import Derived.Test.YtjllmblbbgojbaaGreatWRvE7
import Derived.Test.YtjllmblbbgojbaaGreatWRvE8
import Derived.Test.YtjllmblbbgojbaaGreatWSenseD
namespace Go.Proofs.YtjllmblbbgojbaaGreat
open Go.Value renaming int → O, slice → Z
open Go.IntKind renaming i64 → Y
open Option renaming none → I, some → J
open Go.Obj renaming cells → E
open Go.Lib (hid)
open Go.RowKit
theorem gQ {w V0 W:World} {g q:Nat} {R:Nat->Prop} (hR:gX g w R) (hg:g<V0.heap.size) (h:aK R V0 W q):q ≠ g:=by
 rcases h with h | h
 · exact (hR q h).2
 have:=h.1;omega
theorem sW.grow {w0 w V0 W W':World} {g f g13:Nat} {z:Int} {v:aZ} {b:Bk} {X:Array Value} (h:sW w0 g v b w V0 X f z W) (hgl:g<w.heap.size) (h13:g13 ≠ g/\w.heap.size+1<g13) (hg:W.grownBy W' (J g13)):sW w0 g v b w V0 X f z W':=by
 have hge:=h.st.ge;have hs:=h.mv.size;have hb:=h.st.bel.size;refine ⟨⟨h.st.bel.grown hg hb (fun q e=>by injection e with e;omega),h.st.blk.grown hg (by intro e;injection e with e;exact h13.1 e.symm),hge⟩,⟨hg.os.trans h.mv.os,hg.tape.trans h.mv.tape,hg.output.trans h.mv.output,Nat.le_trans hs hg.size,fun k hk hS hr=>(hg.block k aA (by intro e;injection e with e;omega)).trans (h.mv.block k hk hS hr)⟩,Nat.le_trans h.sz hg.size,h.x.grown hg (by intro e;injection e with e;omega),h.r.grown hg (by intro e;injection e with e;omega)⟩
theorem GW {w:World} {g:Nat} {a0 a1 a2 a3 a4 a5 a6:Value} (h:aD w g 68 #[a0,a1,a2,a3,a4,a5,a6]) (x0 x1 x2 x3 x4 x5 x6:Value):aD (((((((w.setCell ⟨g,0,I⟩ x0).setCell ⟨g,1,I⟩ x1).setCell ⟨g,2,I⟩ x2).setCell ⟨g,3,I⟩ x3).setCell ⟨g,4,I⟩ x4).setCell ⟨g,5,I⟩ x5).setCell ⟨g,6,I⟩ x6) g 68 #[x0,x1,x2,x3,x4,x5,x6]:=by
 have:=((((((h.set_ 0 x0).set_ 1 x1).set_ 2 x2).set_ 3 x3).set_ 4 x4).set_ 5 x5).set_ 6 x6;simpa using this
theorem BI (w:World) (g:Nat) (x0 x1 x2 x3 x4 x5 x6:Value):w.grownBy (((((((w.setCell ⟨g,0,I⟩ x0).setCell ⟨g,1,I⟩ x1).setCell ⟨g,2,I⟩ x2).setCell ⟨g,3,I⟩ x3).setCell ⟨g,4,I⟩ x4).setCell ⟨g,5,I⟩ x5).setCell ⟨g,6,I⟩ x6) (J g) :=
 ((((((bN _ g 0 x0).trans (bN _ g 1 x1)).trans (bN _ g 2 x2)).trans (bN _ g 3 x3)).trans (bN _ g 4 x4)).trans (bN _ g 5 x5)).trans (bN _ g 6 x6)
set_option linter.unusedSimpArgs false in
set_option linter.unusedVariables false in
set_option maxRecDepth 100000 in
set_option maxHeartbeats 8000000 in
theorem zJ {w0:World} {g:Nat} {v:aZ} {b:Bk} {d:Nat} (hr:bY b=0) (hb:bM w0 v b) (H:qD w0 g v b d) (HG:s7 w0 g v b d) {w:World} {m:Nat} {R:Nat->Prop} {t:fZ} {x:TT} (hmd:m<d) (hm1:m<=100000) (hw:gY w0 g v b (m+1) 0 w) (hR:gX g w R) (ht:cQ R w t x) (fx:bR b 0 x) (hv:cJ x=false) (hop:x.1.op=11) :
 Calls Tryz.prog 26 #[.pointer (J ⟨g,0,I⟩),.agg (dE t x.1)] w (xG w0 g v b R w (eO b (d+1) (m+1) x)):=by
 obtain ⟨o,p,br,hk,hbr⟩:=mR fx.okt hop;have hz:∀ k:Int,aC x.1.op x.1.b k=0:=dS aA aA aA aA;have hn:=fx.nod x.1 (by simp [aJ]);have hok:=fx.okt.ok;simp only [dG,Bool.and_eq_true] at hok;have ha0:=(eN hok.1.1).1;unfold bH at hn;rw [if_neg aA,if_neg aA,if_neg aA,if_pos hop] at hn;obtain ⟨e1,e2,e3,e4⟩:=tV hr hn ha0;obtain ⟨ia,hia⟩ : ∃ ia:Nat,x.1.a=(ia:Int):=⟨x.1.a.toNat,by omega⟩;obtain ⟨xq,hxq⟩ : ∃ z:Nat,x.1.b=(z:Int):=⟨br.length,hbr.symm⟩;have HQ16:Hid (xq<=16):=hid (by have hpl:=aF.1 hok.1.1;omega);have fp:bR b 0 p:=fx.kid0 (i:=1) (by rw [hk];rfl) (hz _);have HFB:=hid (fun (i:Nat) (y:TT) (h:br[i]? = J y)=>fx.kid0 (i:=i+2) (by rw [hk];simpa using h) (hz _));have hres:eO b (d+1) (m+1) x=(eO b d m p).bind fun v f'=>if (cP v).1.1.op=10/\(cP v).1.1.a=x.1.a/\(cP v).1.1.b<x.1.b/\(cP v).2.length=(aV b x.1.a).params.length+((aV b x.1.a).ctors.getD (cP v).1.1.b.toNat default).args.length then (eO b d f' (br.getD (cP v).1.1.b.toNat (⟨0,0,0⟩,[],.nil))).bind fun g f2=>givens (fB b d) ((cP v).2.drop (aV b x.1.a).params.length) g f2 else .er 24:=by
  rw [gZ];simp only [iC,hv,Bool.false_eq_true,if_false];rw [if_neg aA,if_neg aA,if_pos hop,hk]
 rw [hia,hxq] at hres;rw [hia] at e1 e2 e3 e4;have hen:aV b (ia:Int)=b.entries.getD ia default:=by unfold aV;rw [Int.toNat_natCast]
 obtain ⟨be,oe,hAe,hbe,ev,c0,c1,c2,c3,c4,c5,c6,hec⟩:=hb.entries.at_ (k:=ia) (by have:=hb.entries.len;omega);rw [<-hen] at c0 hec;obtain ⟨x6,hx6⟩ : ∃ y,y=aV b (ia:Int):=⟨_,rfl⟩;have HX6:Hid (aV b (ia:Int)=x6):=hid hx6.symm;rw [<-hx6] at c0 hec e1 e2 e3 hres;have HEV:=hid (fun (W:World) (h:Below w0.heap.size w0 W)=>hec.below h);obtain ⟨As,ns,cs,Ap,np,cp,Ai,ni,ci,Ac,nc,cc,At,nt,ct,Ab,nb,cb⟩:=ev;simp only at c0 c1 c2 c3 c4 c5 c6 HEV;have hnp:x6.params.length=np:=hec.params.len;have hnc:x6.ctors.length=nc:=hec.ctors.len;rw [hnp] at hres e1;obtain ⟨kd0,hkd0⟩ : ∃ k,k=x6.kind:=⟨_,rfl⟩;rw [<-hkd0] at c0;have hnk:=ht.nk;rw [hk] at hnk;have hnk2:t.nk=2+xq:=by rw [hnk];simp only [List.length_cons];omega
 obtain ⟨bkp,okp,⟨pA,pn,pc,pB,pm,pd,pC,pp,pe⟩,hAp,hRp,hcp,htp⟩:=ht.kid (j:=1) aA;rw [show cT x.2.2 1=p from by unfold cT;rw [hk];rfl] at hcp htp;rw [Nat.one_mul] at hcp;have HKJ:=hid (fun (j:Nat) (hj:j<xq)=>(by
  obtain ⟨b',o',t',h1,h2,h3,h4⟩:=ht.kid (j:=2+j) aA;have hjb:j<br.length:=aA;have e5:cT x.2.2 (2+j)=br.getD j (⟨0,0,0⟩,[],.nil):=by
   unfold cT;rw [hk,Nat.add_comm 2 j,List.getD_eq_getElem?_getD,List.getD_eq_getElem?_getD,List.getElem?_cons_succ,List.getElem?_cons_succ,List.getElem?_eq_getElem hjb];rfl
  rw [hAp] at h1;injection h1 with h1;injection h1 with h1 h1';subst h1;subst h1';rw [e5] at h3 h4;exact ⟨t',h2,h3,h4⟩ : ∃ t',R bkp/\EH w bkp (okp+(2+j)*6) t' (br.getD j (⟨0,0,0⟩,[],.nil)).1/\cQ R w t' (br.getD j (⟨0,0,0⟩,[],.nil))))
 have HCp:=hid hcp;have HTp:=hid htp;have HRp:=hid hRp;have HFP:=hid fp;have HA0:=hid hAp;have HNK:=hid hnk2;have HBR:Hid (br.length=xq):=hid aA;have HC0:=hid c0;have HC1:=hid c1;have HC2:=hid c2;have HC3:=hid c3;have HC4:=hid c4;have HC5:=hid c5;have HC6:=hid c6;have HBE:=hid hbe;have HAE:=hid hAe;have HIN:Hid (ia<v.ne):=hid (by have:=hb.entries.len;omega);have HE1:=hid e1;have HE3:=hid e3;have HNC:=hid hnc;obtain ⟨res,hr0⟩ : ∃ r,r=eO b (d+1) (m+1) x:=⟨_,rfl⟩;rw [<-hr0] at hres ⊢;have HRES:=hid hres;clear hres hr0 hAp hcp htp hRp fp hk hz hn hok ha0 e1 e2 e3 e4 hen hx6 hec hnp hnc hkd0 hnk hnk2 c0 c1 c2 c3 c4 c5 c6 hbe hAe hbr;obtain ⟨⟨xo,xa,xb⟩,xat,xk⟩:=x;obtain ⟨xA,xn,xc,xB,xm,xd,xC,xp,xe⟩:=t;simp only at hop hia hxq HNK HA0;have HOP:=hid hop;have HIA:=hid hia;have HXQ:=hid hxq;clear hop hia hxq;obtain ⟨F,hF⟩ : ∃ F:Int,F=((m+1:Nat):Int):=⟨_,rfl⟩;have f0:decide (F=0)=false:=decide_eq_false aA;have f0':(F==0)=false:=by rw [beq_eq_false_iff_ne];omega
 have f1:IntKind.i64.wrap (F-1)=(m:Int):=by rw [IntKind.wrap_i64];omega
 have hgl:=hw.lt;have hba:=aS w (E #[O Y xo,O Y xa,O Y xb,Z xA xn xc,Z xB xm xd,Z xC xp xe] 49) (E #[O Y 0,O Y 0,O Y 0,Z I 0 0,Z I 0 0,Z I 0 0] 49);have hw1:=hw.below hba;have zg:=aD.cell hw1.blk;have zgf:=aD.frozen hw1.blk;rw [<-hF] at zg;obtain ⟨hw2,hm2⟩:=hw.fuel m;have hsz:(w.setCell ⟨g,5,I⟩ (O Y (m:Int))).heap.size=w.heap.size:=by simp
 have hbb:=aS (w.setCell ⟨g,5,I⟩ (O Y (m:Int))) (E #[O Y xo,O Y xa,O Y xb,Z xA xn xc,Z xB xm xd,Z xC xp xe] 49) (E #[O Y 0,O Y 0,O Y 0,Z I 0 0,Z I 0 0,Z I 0 0] 49);have hmv:=hm2.trans (row':=I) (aG.of_below (S:=fun q=>q=g) (row:=I) hbb) (fun _ e=>by cases e);have HIV:=hid (jV (hR.moved hmv.size).lt (ht.movedO hR hmv) fx.rt);obtain ⟨V0,hV0⟩ : ∃ V0:World,V0.heap.size=w.heap.size+2:=⟨((w.alloc (E #[O Y xo,O Y xa,O Y xb,Z xA xn xc,Z xB xm xd,Z xC xp xe] 49)).alloc (E #[O Y 0,O Y 0,O Y 0,Z I 0 0,Z I 0 0,Z I 0 0] 49)),by simp⟩;have HV0:=hid hV0;have HA1:Hid (sW w0 g v b w V0 #[O Y xo,O Y xa,O Y xb,Z xA xn xc,Z xB xm xd,Z xC xp xe] m 0 (((w.setCell ⟨g,5,I⟩ (O Y (m:Int))).alloc (E #[O Y xo,O Y xa,O Y xb,Z xA xn xc,Z xB xm xd,Z xC xp xe] 49)).alloc (E #[O Y 0,O Y 0,O Y 0,Z I 0 0,Z I 0 0,Z I 0 0] 49))):=hid ⟨hw2.below hbb,hmv,by rw [hV0];simp,(aD.new' hsz.symm).alloc _,aD.new' (by simp)⟩;have HRO:=hid hR;have HL:=hid hgl;have HT:=hid ht;have HFX:=hid fx;have HFT:=hid (eW (b:=b) hr d);have HH:=hid H;have HHG:=hid HG;rw [hv] at HIV;clear hw hw1 hw2 hm2 hmv hba hbb hsz hF hR ht fx hv H HG hV0 hr;show Calls Tryz.prog 26 #[.pointer (J ⟨g,0,I⟩),.agg #[O Y xo,O Y xa,O Y xb,Z xA xn xc,Z xB xm xd,Z xC xp xe]] w _;go_in;go_wp2_with fail
 refine (HIV.o).mono ?_;rintro e w2 ⟨rfl,hb2⟩;have HA:=hid (HA1.o.below hb2);have zx:=aD.cell HA.o.x;clear hb2 zg zgf f0 f0' f1 HA1 HIV;obtain rfl:=HOP.o;obtain rfl:xa=(ia:Int):=HIA.o;obtain rfl:xb=(xq:Int):=HXQ.o;obtain rfl:xA=J ⟨bkp,okp,I⟩:=HA0.o;have hxn1:decide (1<xn)=true:=decide_eq_true (by have:=HNK.o;omega);have hxn2:decide ((1:Int)<(xn:Int))=true:=decide_eq_true (by have:=HNK.o;omega);have hxn3:1<xn:=by have:=HNK.o;omega
 obtain ⟨po,pa,pb,pat,pk,rfl⟩ : ∃ o a b c k,p=((⟨o,a,b⟩:Nd),c,k):=⟨p.1.op,p.1.a,p.1.b,p.2.1,p.2.2,rfl⟩;have zkp:=HCp.o.movedO (HRO.o _ HRp.o).1 (HRO.o _ HRp.o).2 HA.o.mv;obtain ⟨p0,p1,p2,p3,p4,p5⟩:=zkp;simp only at p0 p1 p2 p3 p4 p5;have HC:=hid (HH.o w2 m R ⟨pA,pn,pc,pB,pm,pd,pC,pp,pe⟩ ((⟨po,pa,pb⟩:Nd),pat,pk) hmd hm1 HA.o.st (HRO.o.moved HA.o.mv.size) (HTp.o.movedO HRO.o HA.o.mv) HFP.o);have HFT1:=hid (HFT.o.1 m ((⟨po,pa,pb⟩:Nd),pat,pk));cases hE:eO b d m ((⟨po,pa,pb⟩:Nd),pat,pk) with
 | er z =>
  rw [hE] at HC HRES;have HRZ:Hid (res=.er z):=HRES;clear hE HRES;go_wp2_with fail
  refine (HC.o).mono ?_;rintro e w3 ⟨hm3,⟨yA,yn,yc,yB,ym,yd,yC,yp,ye⟩,⟨⟨yo,ya,yb⟩,yat,yk⟩,rfl,ht3,hz3,f3,hs3⟩;have HA3:=hid (HA.o.call HL.o hm3 hs3);have hba:=aB w3 (E #[O Y yo,O Y ya,O Y yb,Z yA yn yc,Z yB ym yd,Z yC yp ye] 49);have HA4:=hid (HA3.o.below hba);have HY4:=hid (((ht3.mix1 HA.o.sz:cQ (aK R V0 w3) w3 _ _)).mixB (V0:=V0) HRO.o HA3.o.mv.size hba);have zk4:=aD.cell (aD.new w3 49 #[O Y yo,O Y ya,O Y yb,Z yA yn yc,Z yB ym yd,Z yC yp ye]);have zg4:=aD.cell HA4.o.st.blk;have HZ3:=hid hz3;have de:(z != 0)=true:=by simpa using hz3
  clear hm3 ht3 hs3 hba zx hz3 p0 p1 p2 p3 p4 p5;have zz:=aD.cell HA4.o.r;have zf:=aD.frozen HA4.o.r;go_wp2_with fail
  refine bodyPost_ret (v:=.agg #[O Y yo,O Y ya,O Y yb,Z yA yn yc,Z yB ym yd,Z yC yp ye]) ?_ rfl ?_
  · exact bJ (g:=w.heap.size+1) (aW HA4.o.r _ _ _ _ _ _) (by simp)
  rw [HRZ.o];exact HA4.o.fin (t:=⟨yA,yn,yc,yB,ym,yd,yC,yp,ye⟩) (y:=((⟨yo,ya,yb⟩:Nd),yat,yk)) HRO.o HL.o HV0.o HY4.o ⟨HZ3.o,f3,HA4.o.st⟩
 | ok u f1 =>
  rw [hE] at HC HRES;have HF1:=hid (HFT1.o u f1 HFP.o hE);have hf1:=HF1.o.2;clear hE;go_wp2_with fail
  refine (HC.o).mono ?_;rintro e w3 ⟨hm3,⟨yA,yn,yc,yB,ym,yd,yC,yp,ye⟩,⟨⟨yo,ya,yb⟩,yat,yk⟩,rfl,ht3,hy3,hs3⟩;subst hy3;have HA3:=hid (HA.o.call HL.o hm3 hs3);have hba:=aB w3 (E #[O Y yo,O Y ya,O Y yb,Z yA yn yc,Z yB ym yd,Z yC yp ye] 49);have HA4:=hid (HA3.o.below hba);have HY4:=hid (((ht3.mix1 HA.o.sz:cQ (aK R V0 w3) w3 _ _)).mixB (V0:=V0) HRO.o HA3.o.mv.size hba);have zk4:=aD.cell (aD.new w3 49 #[O Y yo,O Y ya,O Y yb,Z yA yn yc,Z yB ym yd,Z yC yp ye]);have zg4:=aD.cell HA4.o.st.blk;have HGV:Hid (g<V0.heap.size):=hid (by have:=HV0.o;have:=HL.o;omega);have HAP:=hid (fW (gX.lt (gX.mixed HRO.o HGV.o HA4.o.mv.size)) HY4.o HF1.o.1.1.rt);obtain ⟨⟨⟨⟨zo,za,zb⟩,zat,zk⟩,L⟩,hqq⟩ : ∃ q,q=cP ((⟨yo,ya,yb⟩:Nd),yat,yk):=⟨_,rfl⟩;obtain ⟨hF,hL⟩:=bR.hd HF1.o.1.1;have hLv:zo=10->∀ y ∈ L,jZ b y:=fun h10 y hy=>⟨hL y (by rw [<-hqq];exact hy),i6 HF1.o.1.2 (by rw [<-hqq];exact Or.inr (Or.inl h10)) y (by rw [<-hqq];exact hy)⟩;have hLb:L.length<=4096:=by
   have h3:=jG (bU ((⟨yo,ya,yb⟩:Nd),yat,yk)) ((⟨yo,ya,yb⟩:Nd),yat,yk) HF1.o.1.1.rt;have h4:=HF1.o.1.1.few;have h5:(cP ((⟨yo,ya,yb⟩:Nd),yat,yk)).2.length<bU ((⟨yo,ya,yb⟩:Nd),yat,yk):=h3;rw [<-hqq] at h5;simp only at h5;omega
  have HRES2:Hid (res=if zo=10/\za=(ia:Int)/\zb<(xq:Int)/\L.length=np+(x6.ctors.getD zb.toNat default).args.length then (eO b d f1 (br.getD zb.toNat (⟨0,0,0⟩,[],.nil))).bind fun g f2=>givens (fB b d) (L.drop np) g f2 else .er 24):=hid (by
   have h:=HRES.o;simp only [RV.bind] at h;rw [<-hqq] at h;exact h)
  rw [<-hqq] at HAP hF;simp only at hF HAP;have hFn:=hF.nod ⟨zo,za,zb⟩ (by simp [aJ]);have hFo:=hF.okt.ok;simp only [dG,Bool.and_eq_true] at hFo;have HFB0:=hid (aF.1 hFo.1.1);have hF10:Hid (zo=10->eL b b.entries.length za=true/\zb<((aV b za).ctors.length:Int)):=hid (fun h10=>by
   unfold bH at hFn;simp only at hFn;rw [if_neg aA,if_neg aA,if_neg aA,if_neg aA,if_pos h10,Bool.and_eq_true,decide_eq_true_eq] at hFn;exact hFn)
  have HLV:=hid hLv;obtain ⟨k,hk⟩ : ∃ k,k=L.length:=⟨_,rfl⟩;have HK:=hid hk;unfold LV at HAP;simp only at HAP;rw [<-hk] at HAP hLb;clear HRES hqq hF hL hLv hFn hFo hk hm3 ht3 hs3 hba zx p0 p1 p2 p3 p4 p5;go_wp2_with fail
  refine (HAP.o).mono ?_;rintro e w5 ⟨hb5,⟨zA,zn,zc,zB,zm,zd,zC,zp,ze⟩,KB,kd,rfl,hth,hkd,_⟩;have hbb:=aB w5 (E #[O Y zo,O Y za,O Y zb,Z zA zn zc,Z zB zm zd,Z zC zp ze] 49);have HA5:=hid (HA4.o.below hb5);have HA6:=hid (HA5.o.below hbb);have HKD:=hid (hkd.keep (R':=aK R V0 w5) (w':=w5.alloc (E #[O Y zo,O Y za,O Y zb,Z zA zn zc,Z zB zm zd,Z zC zp ze] 49)) fun q hq=>⟨hq.idem HA4.o.sz hb5.size (Nat.le_refl _),fun o=>hbb.cell (p:=⟨q,o,I⟩) (show q<w5.heap.size from aK.lt2 HRO.o HA5.o.mv.size (hq.idem (w2:=w5) HA4.o.sz hb5.size (Nat.le_refl _)))⟩);have HH6:=hid (aD.new w5 49 #[O Y zo,O Y za,O Y zb,Z zA zn zc,Z zB zm zd,Z zC zp ze]);have hbs5:=hb5.size;have HSZ5:Hid (w.heap.size+1<w5.heap.size):=hid HA5.o.r.lt;clear hb5 hbb hth hkd zk4 zg4;obtain ⟨W6,hW6⟩ : ∃ W6:World,W6=w5.alloc (E #[O Y zo,O Y za,O Y zb,Z zA zn zc,Z zB zm zd,Z zC zp ze] 49):=⟨_,rfl⟩;have HW56:Hid (W6.heap.size=w5.heap.size+1):=hid (by rw [hW6];simp);rw [<-hW6] at HA6 HKD HH6;have HW6:=hid hW6;clear hW6;have hbl:=HA6.o.st.bel;have zx6:=HA6.o.x.cell;have zg6:=HA6.o.st.blk.cell;rw [HAE.o] at zg6;have HKP:=hid (fun (W:World) (hb:Below W6.heap.size W6 W)=>(by
   have hbe6:be<W6.heap.size:=by have:=HBE.o;have:=hbl.size;omega
   have cc:∀ o u,w0.cell? ⟨be,o,I⟩=J u->W.cell? ⟨be,o,I⟩=J u:=fun o u h=>(hb.cell (p:=⟨be,o,I⟩) hbe6).trans ((hbl.cell (p:=⟨be,o,I⟩) HBE.o).trans h);exact ⟨(hb.cell (p:=⟨g,2,I⟩) HA6.o.st.lt).trans (zg6 2),(hb.cell (p:=⟨w.heap.size,1,I⟩) HA6.o.x.lt).trans (zx6 1),cc _ _ HC0.o,cc _ _ HC1.o,cc _ _ HC2.o,cc _ _ HC3.o,cc _ _ HC4.o,cc _ _ HC5.o,cc _ _ HC6.o⟩:W.cell? ⟨g,2,I⟩=J (Z (J ⟨be,oe,I⟩) v.ne v.ce)/\W.cell? ⟨w.heap.size,1,I⟩=J (O Y (ia:Int))/\W.cell? ⟨be,oe+ia*7,I⟩=J (O Y kd0)/\W.cell? ⟨be,oe+ia*7+1,I⟩=J (Z As ns cs)/\W.cell? ⟨be,oe+ia*7+2,I⟩=J (Z Ap np cp)/\W.cell? ⟨be,oe+ia*7+3,I⟩=J (Z Ai ni ci)/\W.cell? ⟨be,oe+ia*7+4,I⟩=J (Z Ac nc cc)/\W.cell? ⟨be,oe+ia*7+5,I⟩=J (Z At nt ct)/\W.cell? ⟨be,oe+ia*7+6,I⟩=J (Z Ab nb cb)))
  have HD0:Hid (Below W6.heap.size W6 W6.drew):=hid (aI (Below.refl W6.heap.size W6) 1);have hin1:decide (ia<v.ne)=true:=decide_eq_true HIN.o;have hin2:decide ((ia:Int)<(v.ne:Int))=true:=decide_eq_true (by have:=HIN.o;omega);have hin3:=HIN.o;clear zx6 zg6 hbl;go_wp2_with fail
  have hS6:=HW6.o.symm;try rw [hS6]
  clear hS6;refine wp_region_held_drew (S:=(fun w'=>w'.cell? ⟨g,2,I⟩=J (Z (J ⟨be,oe,I⟩) v.ne v.ce)/\w'.cell? ⟨w.heap.size,1,I⟩=J (O Y (ia:Int))/\w'.cell? ⟨be,oe+ia*7,I⟩=J (O Y kd0)/\w'.cell? ⟨be,oe+ia*7+1,I⟩=J (Z As ns cs)/\w'.cell? ⟨be,oe+ia*7+2,I⟩=J (Z Ap np cp)/\w'.cell? ⟨be,oe+ia*7+3,I⟩=J (Z Ai ni ci)/\w'.cell? ⟨be,oe+ia*7+4,I⟩=J (Z Ac nc cc)/\w'.cell? ⟨be,oe+ia*7+5,I⟩=J (Z At nt ct)/\w'.cell? ⟨be,oe+ia*7+6,I⟩=J (Z Ab nb cb))) (by kernel_rfl) ?_ (fun hHeld => ?_)
  · (try dsimp only);exact HKP.o _ (by first | exact HD0.o | (rw [HW6.o];exact aI (Below.refl _ _) 1))
  have hS6:=HW6.o.symm;try rw [hS6] at hHeld
  try rw [hS6]
  clear hS6;generalize W6.drew=V7 at *;refine tq 0 hHeld ?_;try simp only [p7]
  refine tq 1 hHeld ?_;try simp only [p7]
  refine tq 2 hHeld ?_;try simp only [p7]
  refine tq 3 hHeld ?_;try simp only [p7]
  refine tq 4 hHeld ?_;try simp only [p7]
  refine tq 5 hHeld ?_;try simp only [p7]
  refine tq 6 hHeld ?_;try simp only [p7]
  refine tq 7 hHeld ?_;try simp only [p7]
  refine tq 8 hHeld ?_;try simp only [p7]
  refine tq 9 hHeld ?_;try simp only [p7]
  have hal:=aB V7 (E #[O Y 0,Z I 0 0,Z I 0 0,Z I 0 0,Z I 0 0,Z I 0 0,Z I 0 0] 68);have HBa:=cO HD0 hal;have HGK:=hid (aD.new V7 68 #[O Y 0,Z I 0 0,Z I 0 0,Z I 0 0,Z I 0 0,Z I 0 0,Z I 0 0]);have hv7:W6.heap.size<=V7.heap.size:=HD0.o.size;clear hal;refine r1 10 fun K hK => ?_;go_simp;refine hK.o _ _ (by exact HKP.o _ HBa.o) fun hHeld => ?_;clear hK K;try simp only [p7]
  generalize hgV:(V7.alloc (E #[O Y 0,Z I 0 0,Z I 0 0,Z I 0 0,Z I 0 0,Z I 0 0,Z I 0 0] 68))=v8 at *;clear hgV;have hg7:=BI v8 V7.heap.size (O Y kd0) (Z As ns cs) (Z Ap np cp) (Z Ai ni ci) (Z Ac nc cc) (Z At nt ct) (Z Ab nb cb);have HBG:=hid (HBa.o.grown hg7 HBa.o.size (fun q hq=>by injection hq with hq;omega));have zg:=aD.cell HGK.o;have zgf:=aD.frozen HGK.o;clear hg7;refine r1 11 fun K hK => ?_;go_simp;refine hK.o _ _ (by exact HKP.o _ HBG.o) fun hHeld => ?_;clear hK K;try simp only [p7]
  refine wpAnyH_done (by kernel_rfl) ?_ _;have HE9:=hid (GW HGK.o (O Y kd0) (Z As ns cs) (Z Ap np cp) (Z Ai ni ci) (Z Ac nc cc) (Z At nt ct) (Z Ab nb cb));generalize hgW:(((((((v8.setCell ⟨V7.heap.size,0,I⟩ (O Y kd0)).setCell ⟨V7.heap.size,1,I⟩ (Z As ns cs)).setCell ⟨V7.heap.size,2,I⟩ (Z Ap np cp)).setCell ⟨V7.heap.size,3,I⟩ (Z Ai ni ci)).setCell ⟨V7.heap.size,4,I⟩ (Z Ac nc cc)).setCell ⟨V7.heap.size,5,I⟩ (Z At nt ct)).setCell ⟨V7.heap.size,6,I⟩ (Z Ab nb cb))=w9 at *;clear hgW zg zgf HGK HBa;have HA9:=hid (HA6.o.below HBG.o);have HH9:=hid (HH6.o.below HBG.o HH6.o.lt);have zh9:=aD.cell HH9.o;have ze9:=aD.cell HE9.o;have zx9:=aD.cell HA9.o.x;clear HKP HD0;by_cases t1:zo=10;rotate_left
  · have u1:(zo != 10)=true:=by simpa using t1
    have HRZ:=hid (HRES2.o.trans (if_neg (fun h=>t1 h.1)));clear t1;go_wp2_with fail
    refine (fQ HA9.o.st 24 (by decide) (aK R V0 w9)).mono ?_;rintro e w9 ⟨hm9,⟨eA,en,ec,eB,em,ed,eC,ep,ee⟩,⟨⟨eo,ea,eb⟩,eat,ek⟩,rfl,ht9,hr9⟩;have HZ9:=hid (HA9.o.r.movedO (by have:=HL.o;omega) hm9);have HM9:=hid (HA9.o.mv.trans (row':=I) hm9 (fun _ e=>by cases e));have HT9:=hid (cQ.mix2 ht9 HA9.o.sz hm9.size);have HR9:=hid hr9;have zz:=aD.cell HZ9.o;have zf:=aD.frozen HZ9.o;clear hm9 ht9 hr9;go_wp2_with fail
    refine bodyPost_ret (v:=.agg #[O Y eo,O Y ea,O Y eb,Z eA en ec,Z eB em ed,Z eC ep ee]) ?_ rfl ?_
    · exact bJ (g:=w.heap.size+1) (aW HZ9.o _ _ _ _ _ _) (by simp)
    rw [HRZ.o];exact eD (V:=V0) (t:=⟨eA,en,ec,eB,em,ed,eC,ep,ee⟩) (y:=((⟨eo,ea,eb⟩:Nd),eat,ek)) HRO.o HL.o aA (by have:=HV0.o;omega) HM9.o HT9.o HR9.o
  have u1:(zo != 10)=false:=by simpa using t1
  by_cases t2:za=(ia:Int);rotate_left
  · have u2:(za != (ia:Int))=true:=by simpa using t2
    have HRZ:=hid (HRES2.o.trans (if_neg (fun h=>t2 h.2.1)));clear t2;go_wp2_with fail
    refine (fQ HA9.o.st 24 (by decide) (aK R V0 w9)).mono ?_;rintro e w9 ⟨hm9,⟨eA,en,ec,eB,em,ed,eC,ep,ee⟩,⟨⟨eo,ea,eb⟩,eat,ek⟩,rfl,ht9,hr9⟩;have HZ9:=hid (HA9.o.r.movedO (by have:=HL.o;omega) hm9);have HM9:=hid (HA9.o.mv.trans (row':=I) hm9 (fun _ e=>by cases e));have HT9:=hid (cQ.mix2 ht9 HA9.o.sz hm9.size);have HR9:=hid hr9;have zz:=aD.cell HZ9.o;have zf:=aD.frozen HZ9.o;clear hm9 ht9 hr9;go_wp2_with fail
    refine bodyPost_ret (v:=.agg #[O Y eo,O Y ea,O Y eb,Z eA en ec,Z eB em ed,Z eC ep ee]) ?_ rfl ?_
    · exact bJ (g:=w.heap.size+1) (aW HZ9.o _ _ _ _ _ _) (by simp)
    rw [HRZ.o];exact eD (V:=V0) (t:=⟨eA,en,ec,eB,em,ed,eC,ep,ee⟩) (y:=((⟨eo,ea,eb⟩:Nd),eat,ek)) HRO.o HL.o aA (by have:=HV0.o;omega) HM9.o HT9.o HR9.o
  have u2:(za != (ia:Int))=false:=by simpa using t2
  by_cases t3:zb<(xq:Int);rotate_left
  · have u3:decide (zb ≥ (xq:Int))=true:=decide_eq_true aA;have u3c:decide ((xq:Int)<=zb)=true:=decide_eq_true aA;have HRZ:=hid (HRES2.o.trans (if_neg (fun h=>t3 h.2.2.1)));clear t3;go_wp2_with fail
    refine (fQ HA9.o.st 24 (by decide) (aK R V0 w9)).mono ?_;rintro e w9 ⟨hm9,⟨eA,en,ec,eB,em,ed,eC,ep,ee⟩,⟨⟨eo,ea,eb⟩,eat,ek⟩,rfl,ht9,hr9⟩;have HZ9:=hid (HA9.o.r.movedO (by have:=HL.o;omega) hm9);have HM9:=hid (HA9.o.mv.trans (row':=I) hm9 (fun _ e=>by cases e));have HT9:=hid (cQ.mix2 ht9 HA9.o.sz hm9.size);have HR9:=hid hr9;have zz:=aD.cell HZ9.o;have zf:=aD.frozen HZ9.o;clear hm9 ht9 hr9;go_wp2_with fail
    refine bodyPost_ret (v:=.agg #[O Y eo,O Y ea,O Y eb,Z eA en ec,Z eB em ed,Z eC ep ee]) ?_ rfl ?_
    · exact bJ (g:=w.heap.size+1) (aW HZ9.o _ _ _ _ _ _) (by simp)
    rw [HRZ.o];exact eD (V:=V0) (t:=⟨eA,en,ec,eB,em,ed,eC,ep,ee⟩) (y:=((⟨eo,ea,eb⟩:Nd),eat,ek)) HRO.o HL.o aA (by have:=HV0.o;omega) HM9.o HT9.o HR9.o
  have hz0:0<=zb:=by have:=HFB0.o;omega
  obtain ⟨j,hj⟩ : ∃ j:Nat,zb=(j:Int):=⟨zb.toNat,by omega⟩;subst hj;have u3:decide ((j:Int) ≥ (xq:Int))=false:=decide_eq_false aA;have u3b:decide (xq<=j)=false:=decide_eq_false aA;have u3c:decide ((xq:Int)<=(j:Int))=false:=decide_eq_false aA;have hjc:j<nc:=by
   have h1:=(hF10.o t1).2;rw [t2] at h1;have h2:=HX6.o;rw [h2,HNC.o] at h1;omega
  obtain ⟨bc,oc,Aa,na,ca9,hAc,hbc,hcc,hna⟩:=nC.arg_at (HEV.o w9 HA9.o.st.bel).ctors hjc;subst hAc;have hna16:na<=16:=by
   rw [<-hna];have hl:j<x6.ctors.length:=by rw [HNC.o];exact hjc
   have h1:=HE3.o x6.ctors[j] (List.getElem_mem hl);rw [List.getD_eq_getElem?_getD,List.getElem?_eq_getElem hl];exact h1
  have zt9:w9.cell? ⟨bc,oc+j*2,I⟩=J (Z Aa na ca9):=hcc;have hnp16:np<=16:=HE1.o;have hw1:IntKind.i64.wrap ((np:Int)+(na:Int))=(np:Int)+(na:Int):=by rw [IntKind.wrap_i64];omega
  have hj0:(0:Int)<=(j:Int):=aA;have hj1:(j:Int)<(nc:Int):=aA;have HR3:Hid (res=if L.length=np+na then (eO b d f1 (br.getD j (⟨0,0,0⟩,[],.nil))).bind fun g f2=>givens (fB b d) (L.drop np) g f2 else .er 24):=hid (by
   have h:=HRES2.o;rw [show ((j:Nat):Int).toNat=j from Int.toNat_natCast j,hna] at h;rw [h];by_cases hk:L.length=np+na
   · rw [if_pos ⟨t1,t2,t3,hk⟩,if_pos hk]
   rw [if_neg (fun h=>hk h.2.2.2),if_neg hk])
  have hjx:j<xq:=aA;have HLO:=hid (HLV.o t1);clear t1 t2 t3 hcc hna HRES2 hF10 HFB0 HLV hz0;by_cases t4:k=np+na;rotate_left
  · have u4:((k:Int) != (np:Int)+(na:Int))=true:=by rw [bne_iff_ne];omega
    have HRZ:Hid (res=.er 24):=hid (by rw [HR3.o,if_neg (by rw [<-HK.o];exact t4)]);go_wp2_with fail
    refine (fQ HA9.o.st 24 (by decide) (aK R V0 w9)).mono ?_;rintro e w9 ⟨hm9,⟨eA,en,ec,eB,em,ed,eC,ep,ee⟩,⟨⟨eo,ea,eb⟩,eat,ek⟩,rfl,ht9,hr9⟩;have HZ9:=hid (HA9.o.r.movedO (by have:=HL.o;omega) hm9);have HM9:=hid (HA9.o.mv.trans (row':=I) hm9 (fun _ e=>by cases e));have HT9:=hid (cQ.mix2 ht9 HA9.o.sz hm9.size);have HR9:=hid hr9;have zz:=aD.cell HZ9.o;have zf:=aD.frozen HZ9.o;clear hm9 ht9 hr9;go_wp2_with fail
    refine bodyPost_ret (v:=.agg #[O Y eo,O Y ea,O Y eb,Z eA en ec,Z eB em ed,Z eC ep ee]) ?_ rfl ?_
    · exact bJ (g:=w.heap.size+1) (aW HZ9.o _ _ _ _ _ _) (by simp)
    rw [HRZ.o];exact eD (V:=V0) (t:=⟨eA,en,ec,eB,em,ed,eC,ep,ee⟩) (y:=((⟨eo,ea,eb⟩:Nd),eat,ek)) HRO.o HL.o aA (by have:=HV0.o;omega) HM9.o HT9.o HR9.o
  have u4:((k:Int) != (np:Int)+(na:Int))=false:=by rw [bne_eq_false_iff_eq];omega
  have HRES3:Hid (res=(eO b d f1 (br.getD j (⟨0,0,0⟩,[],.nil))).bind fun g f2=>givens (fB b d) (L.drop np) g f2):=hid (by rw [HR3.o,if_pos (by rw [<-HK.o];exact t4)]);have hnpk:np<=k:=aA;obtain ⟨⟨sA,sn,sc,sB,sm,sd,sC,sp,se⟩,hRs,hcs,hts⟩:=HKJ.o j hjx;have HFS:=hid (HFB.o j (br.getD j (⟨0,0,0⟩,[],.nil)) (by rw [List.getD_eq_getElem?_getD,List.getElem?_eq_getElem (by rw [HBR.o];exact hjx)];rfl));obtain ⟨⟨⟨so,sa,sb⟩,sat,sk⟩,hbj⟩ : ∃ y,y=br.getD j (⟨0,0,0⟩,[],.nil):=⟨_,rfl⟩;rw [<-hbj] at HFS HRES3 hcs hts;have zs9:=hcs.movedO (HRO.o _ hRs).1 (HRO.o _ hRs).2 HA9.o.mv;obtain ⟨s0,s1,s2,s3,s4,s5⟩:=zs9;simp only at s0 s1 s2 s3 s4 s5;have hw2:IntKind.i64.wrap (2+(j:Int))=2+(j:Int):=by rw [IntKind.wrap_i64];have:=HQ16.o;omega
  have hjn1:2+j<xn:=by have:=HNK.o;omega
  have hjn2:decide (2+j<xn)=true:=decide_eq_true hjn1;have hidx:(2+(j:Int)).toNat=2+j:=aA;have HC9:=hid (HH.o w9 f1 R ⟨sA,sn,sc,sB,sm,sd,sC,sp,se⟩ ((⟨so,sa,sb⟩:Nd),sat,sk) aA aA HA9.o.st (HRO.o.moved HA9.o.mv.size) (hts.movedO HRO.o HA9.o.mv) HFS.o);have HFT9:=hid (HFT.o.1 f1 ((⟨so,sa,sb⟩:Nd),sat,sk));have HKD9:=hid (HKD.o.keep (R':=aK R V0 w5) (w':=w9) fun q hq=>⟨hq,fun o=>HBG.o.cell (p:=⟨q,o,I⟩) (show q<W6.heap.size by
   have:=aK.lt2 HRO.o HA5.o.mv.size hq;have:=HW56.o;omega)⟩)
  have HSZ9:Hid (w5.heap.size<w9.heap.size):=hid (by have:=HBG.o.size;have:=HW56.o;omega);have HGV:Hid (g<V0.heap.size):=hid (by have:=HV0.o;have:=HL.o;omega);clear hbj hcs hts hRs t4 HR3 hv7;obtain ⟨rv,hrv⟩ : ∃ r,r=eO b d f1 ((⟨so,sa,sb⟩:Nd),sat,sk):=⟨_,rfl⟩;have HRV:=hid hrv;rw [<-hrv] at HC9 HRES3;clear hrv;go_wp2_with fail
  refine (HC9.o).mono ?_;rintro e wA ⟨hmA,⟨cA,cn,cc,cB,cm,cd,cC,cp,ce⟩,⟨⟨co,ca,cb⟩,cat,ck⟩,rfl,htA,hrA⟩;have HSP:Hid ((∃ f',f'<=f1/\gY w0 g v b f' 0 wA/\jZ b ((⟨co,ca,cb⟩:Nd),cat,ck)/\res=givens (fB b d) (L.drop np) ((⟨co,ca,cb⟩:Nd),cat,ck) f')\/(∃ z f',z ≠ 0/\res=.er z/\gY w0 g v b f' z wA)):=hid (by
   cases rv with
   | er z=>exact Or.inr ⟨z,hrA.2.choose,hrA.1,HRES3.o,hrA.2.choose_spec⟩
   | ok u2 f2 =>
    obtain ⟨hy,hs⟩:=hrA;have hF:=HFT9.o u2 f2 HFS.o HRV.o.symm;subst hy;exact Or.inl ⟨f2,by have:=hF.2;omega,hs,hF.1,HRES3.o⟩)
  obtain ⟨fA,zA,hsA⟩ : ∃ fA zA,gY w0 g v b fA zA wA:=by rcases HSP.o with ⟨f',_,h,_⟩ | ⟨z,f',_,_,h⟩<;>exact ⟨_,_,h⟩
  have HAA:=hid (HA9.o.call HL.o hmA hsA);have hbA:=aB wA (E #[O Y co,O Y ca,O Y cb,Z cA cn cc,Z cB cm cd,Z cC cp ce] 49);have HAB:=hid (HAA.o.below hbA);have hszB:(wA.alloc (E #[O Y co,O Y ca,O Y cb,Z cA cn cc,Z cB cm cd,Z cC cp ce] 49)).heap.size=wA.heap.size+1:=by simp
  have HKB:=hid (aD.new wA 49 #[O Y co,O Y ca,O Y cb,Z cA cn cc,Z cB cm cd,Z cC cp ce]);have HTB:=hid ((htA.mix1 HA9.o.sz:cQ (aK R V0 wA) wA _ _).keep (R':=fun q=>aK R V0 (wA.alloc (E #[O Y co,O Y ca,O Y cb,Z cA cn cc,Z cB cm cd,Z cC cp ce] 49)) q/\q ≠ wA.heap.size) (w':=wA.alloc (E #[O Y co,O Y ca,O Y cb,Z cA cn cc,Z cB cm cd,Z cC cp ce] 49)) fun q hq=>(by
   have hlt:q<wA.heap.size:=aK.lt2 HRO.o HAA.o.mv.size hq;exact ⟨⟨hq.to (Nat.le_refl _) hbA.size,by omega⟩,fun o=>hbA.cell (p:=⟨q,o,I⟩) hlt⟩))
  have HKDB:=hid ((HKD9.o.movedO (gX.moved (gX.mixed HRO.o HGV.o HA5.o.mv.size) (Nat.le_of_lt HSZ9.o)) hmA).keep (R':=aK R V0 w5) (w':=wA.alloc (E #[O Y co,O Y ca,O Y cb,Z cA cn cc,Z cB cm cd,Z cC cp ce] 49)) fun q hq=>⟨hq,fun o=>hbA.cell (p:=⟨q,o,I⟩) (show q<wA.heap.size by have:=aK.lt2 HRO.o HA5.o.mv.size hq;have:=HSZ9.o;have:=hmA.size;omega)⟩);obtain ⟨RA,hRA⟩ : ∃ RA:Nat->Prop,RA=aK R V0 w5:=⟨_,rfl⟩;rw [<-hRA] at HKDB;have HRA:Hid (∀ q,RA q->aK R V0 (wA.alloc (E #[O Y co,O Y ca,O Y cb,Z cA cn cc,Z cB cm cd,Z cC cp ce] 49)) q/\q ≠ wA.heap.size):=hid (fun q hq=>by
   rw [hRA] at hq;have h1:=aK.lt2 HRO.o HA5.o.mv.size hq;have h2:=HSZ9.o;have h3:=hmA.size;exact ⟨hq.to (Nat.le_refl _) (by rw [hszB];omega),by omega⟩)
  have HG13:Hid (wA.heap.size ≠ g/\(wA.heap.size ≠ g/\w.heap.size+1<wA.heap.size)):=hid (by
   have:=HAA.o.r.lt;have:=HL.o;omega)
  have HW9:Hid (w.heap.size<=(wA.alloc (E #[O Y co,O Y ca,O Y cb,Z cA cn cc,Z cB cm cd,Z cC cp ce] 49)).heap.size):=hid (by rw [hszB];have:=HAA.o.mv.size;omega);have zcB:=aD.cell HKB.o;have HV9:Hid (V0.heap.size<=(wA.alloc (E #[O Y co,O Y ca,O Y cb,Z cA cn cc,Z cB cm cd,Z cC cp ce] 49)).heap.size):=hid HAB.o.sz;clear hRA hbA hszB;have HST0:Hid ((∃ f',f'<=f1/\sW w0 g v b w V0 #[O Y 11,O Y (ia:Int),O Y (xq:Int),Z (J ⟨bkp,okp,I⟩) xn xc,Z xB xm xd,Z xC xp xe] f' 0 (wA.alloc (E #[O Y co,O Y ca,O Y cb,Z cA cn cc,Z cB cm cd,Z cC cp ce] 49))/\jZ b ((⟨co,ca,cb⟩:Nd),cat,ck)/\res=givens (fB b d) (L.drop np) ((⟨co,ca,cb⟩:Nd),cat,ck) f')\/(∃ z f',z ≠ 0/\res=.er z/\sW w0 g v b w V0 #[O Y 11,O Y (ia:Int),O Y (xq:Int),Z (J ⟨bkp,okp,I⟩) xn xc,Z xB xm xd,Z xC xp xe] f' z (wA.alloc (E #[O Y co,O Y ca,O Y cb,Z cA cn cc,Z cB cm cd,Z cC cp ce] 49)))):=hid (by
   rcases HSP.o with ⟨f',h1,h2,h3,h4⟩ | ⟨z,f',h1,h2,h3⟩
   · exact Or.inl ⟨f',h1,(HA9.o.call HL.o hmA h2).below (aB wA (E #[O Y co,O Y ca,O Y cb,Z cA cn cc,Z cB cm cd,Z cC cp ce] 49)),h3,h4⟩
   exact Or.inr ⟨z,f',h1,h2,(HA9.o.call HL.o hmA h3).below (aB wA (E #[O Y co,O Y ca,O Y cb,Z cA cn cc,Z cB cm cd,Z cC cp ce] 49))⟩)
  clear hmA htA hsA hrA zh9 ze9 zx9 zt9 s0 s1 s2 s3 s4 s5;go_wp2_with fail
  go_loopw [14] (fun iv wr=>∃ (i:Nat) (yc:TT) (tc:fZ),iv=O Y (i:Int)/\i<=k/\Hid (aD wr wA.heap.size 49 (dE tc yc.1))/\Hid (cQ (fun q=>aK R V0 wr q/\q ≠ wA.heap.size) wr tc yc)/\Hid (dR RA wr KB k kd (lI L))/\Hid ((wA.alloc (E #[O Y co,O Y ca,O Y cb,Z cA cn cc,Z cB cm cd,Z cC cp ce] 49)).heap.size<=wr.heap.size)/\Hid ((∃ f',f'<=f1/\sW w0 g v b w V0 #[O Y 11,O Y (ia:Int),O Y (xq:Int),Z (J ⟨bkp,okp,I⟩) xn xc,Z xB xm xd,Z xC xp xe] f' 0 wr/\jZ b yc/\res=givens (fB b d) (L.drop i) yc f')\/(∃ z f',z ≠ 0/\res=.er z/\sW w0 g v b w V0 #[O Y 11,O Y (ia:Int),O Y (xq:Int),Z (J ⟨bkp,okp,I⟩) xn xc,Z xB xm xd,Z xC xp xe] f' z wr))) (fun iv _=>k-(intOf iv).toNat)
  case atStart=>exact ⟨np,((⟨co,ca,cb⟩:Nd),cat,ck),⟨cA,cn,cc,cB,cm,cd,cC,cp,ce⟩,rfl,hnpk,HKB,HTB,HKDB,hid (Nat.le_refl _),HST0⟩
  case round =>
   obtain ⟨i,⟨⟨co,ca,cb⟩,cat,ck⟩,⟨cA,cn,cc,cB,cm,cd,cC,cp,ce⟩,rfl,hi,hkc,htc,hka,hws,hst⟩:=hrel;simp only at hkc;by_cases hlt:i<k;rotate_left
   · have y1:decide ((i:Int)<(k:Int))=false:=decide_eq_false aA;have y2:decide (i<k)=false:=decide_eq_false hlt;have zk:=aD.cell hkc.o;have hst':=hst.o;have HGE:Hid (k<=i):=hid aA;clear hst hlt;have HTC:=hid (htc.o.keep (R':=aK R V0 wr) (w':=wr) fun q hq=>⟨hq.1,fun o=>rfl⟩);rcases hst' with ⟨f',hff,hA,hok,hrs⟩ | ⟨z,f',hz,hrs,hA⟩
     · have HA8:=hid hA;have HRZ:Hid (res=.ok ((⟨co,ca,cb⟩:Nd),cat,ck) f'):=hid (by rw [hrs,List.drop_of_length_le (by rw [<-HK.o];exact HGE.o)];rfl);have zz:=aD.cell HA8.o.r;have zf:=aD.frozen HA8.o.r;clear hA hok hrs;go_wp2_with fail
       refine bodyPost_ret (v:=.agg #[O Y co,O Y ca,O Y cb,Z cA cn cc,Z cB cm cd,Z cC cp ce]) ?_ rfl ?_
       · exact bJ (g:=w.heap.size+1) (aW HA8.o.r _ _ _ _ _ _) (by simp)
       rw [HRZ.o];exact HA8.o.fin (t:=⟨cA,cn,cc,cB,cm,cd,cC,cp,ce⟩) (y:=((⟨co,ca,cb⟩:Nd),cat,ck)) HRO.o HL.o HV0.o HTC.o ⟨rfl,HA8.o.st⟩
     have HA8:=hid hA;have HZ:=hid hz;have HRZ:=hid hrs;have zz:=aD.cell HA8.o.r;have zf:=aD.frozen HA8.o.r;clear hA hz hrs;go_wp2_with fail
     refine bodyPost_ret (v:=.agg #[O Y co,O Y ca,O Y cb,Z cA cn cc,Z cB cm cd,Z cC cp ce]) ?_ rfl ?_
     · exact bJ (g:=w.heap.size+1) (aW HA8.o.r _ _ _ _ _ _) (by simp)
     rw [HRZ.o];exact HA8.o.fin (t:=⟨cA,cn,cc,cB,cm,cd,cC,cp,ce⟩) (y:=((⟨co,ca,cb⟩:Nd),cat,ck)) HRO.o HL.o HV0.o HTC.o ⟨HZ.o,f',HA8.o.st⟩
   have y1:decide ((i:Int)<(k:Int))=true:=decide_eq_true aA;have y2:decide (i<k)=true:=decide_eq_true hlt;have hil:i<L.length:=by rw [<-HK.o];exact hlt
   obtain ⟨bq,oq,⟨qA,qn,qc,qB,qm,qd,qC,qp,qe⟩,hBq,hbq,hcq,htq⟩:=dR.nthR hka.o (j:=i) hlt;rw [show cT (lI L) i=L[i] from by rw [jO,List.getD_eq_getElem?_getD,List.getElem?_eq_getElem hil];rfl] at hcq htq;have hoy:=HLO.o L[i] (List.getElem_mem hil);have hdr:L.drop i=L[i]::L.drop (i+1):=List.drop_eq_getElem_cons hil;obtain ⟨⟨⟨qo,qa,qb⟩,qat,qk⟩,hli⟩ : ∃ y,y=L[i]:=⟨_,rfl⟩;rw [<-hli] at hcq htq hoy hdr;have HHQ:=hid htq;have HOY:=hid hoy;have HDR:=hid hdr;have HBQ:=hid hbq;subst hBq;have hi0:(0:Int)<=(i:Int):=aA;have hi1:(i:Int)<(k:Int):=aA;have HRW:=hid (fun q (hq:RA q)=>(⟨⟨(HRA.o q hq).1.to (Nat.le_refl _) hws.o,(HRA.o q hq).2⟩,rfl⟩:(aK R V0 wr q/\q ≠ wA.heap.size)/\True=True));obtain ⟨k0,k1,k2,k3,k4,k5⟩:=hcq;simp only at k0 k1 k2 k3 k4 k5;have zk:=aD.cell hkc.o;have HS0:Hid (wr.cell? ⟨wA.heap.size,0,I⟩=J (O Y co)/\wr.cell? ⟨wA.heap.size,1,I⟩=J (O Y ca)/\wr.cell? ⟨wA.heap.size,2,I⟩=J (O Y cb)/\wr.cell? ⟨wA.heap.size,3,I⟩=J (Z cA cn cc)/\wr.cell? ⟨wA.heap.size,4,I⟩=J (Z cB cm cd)/\wr.cell? ⟨wA.heap.size,5,I⟩=J (Z cC cp ce)/\wr.cell? ⟨bq,oq+i*6,I⟩=J (O Y qo)/\wr.cell? ⟨bq,oq+i*6+1,I⟩=J (O Y qa)/\wr.cell? ⟨bq,oq+i*6+2,I⟩=J (O Y qb)/\wr.cell? ⟨bq,oq+i*6+3,I⟩=J (Z qA qn qc)/\wr.cell? ⟨bq,oq+i*6+4,I⟩=J (Z qB qm qd)/\wr.cell? ⟨bq,oq+i*6+5,I⟩=J (Z qC qp qe)):=hid ⟨zk 0,zk 1,zk 2,zk 3,zk 4,zk 5,k0,k1,k2,k3,k4,k5⟩;have hbqn:bq ≠ g/\bq<wr.heap.size:=⟨gQ HRO.o HGV.o (HRA.o bq hbq).1,by
    rcases (HRA.o bq hbq).1 with h | h
    · have:=(HRO.o bq h).1;have:=HL.o;have:=hws.o;have:=HW9.o;omega
    have:=h.2;have:=hws.o;have:=HW9.o;omega⟩
   have HBN:=hid hbqn;have HKP:=hid (fun (W:World) (hm:aG (fun q=>q=g) I wr W)=>(by
    have hc:∀ q,q<wr.heap.size->q ≠ g->∀ o,W.cell? ⟨q,o,I⟩=wr.cell? ⟨q,o,I⟩:=fun q hl hq o=>aH (hm.block q hl hq (by simp)) o;have e:=hc bq HBN.o.2 HBN.o.1;have f:=hc wA.heap.size hkc.o.lt HG13.o.1;obtain ⟨k0,k1,k2,k3,k4,k5,k6,k7,k8,k9,k10,k11⟩:=HS0.o;exact ⟨(f _).trans k0,(f _).trans k1,(f _).trans k2,(f _).trans k3,(f _).trans k4,(f _).trans k5,(e _).trans k6,(e _).trans k7,(e _).trans k8,(e _).trans k9,(e _).trans k10,(e _).trans k11⟩:W.cell? ⟨wA.heap.size,0,I⟩=J (O Y co)/\W.cell? ⟨wA.heap.size,1,I⟩=J (O Y ca)/\W.cell? ⟨wA.heap.size,2,I⟩=J (O Y cb)/\W.cell? ⟨wA.heap.size,3,I⟩=J (Z cA cn cc)/\W.cell? ⟨wA.heap.size,4,I⟩=J (Z cB cm cd)/\W.cell? ⟨wA.heap.size,5,I⟩=J (Z cC cp ce)/\W.cell? ⟨bq,oq+i*6,I⟩=J (O Y qo)/\W.cell? ⟨bq,oq+i*6+1,I⟩=J (O Y qa)/\W.cell? ⟨bq,oq+i*6+2,I⟩=J (O Y qb)/\W.cell? ⟨bq,oq+i*6+3,I⟩=J (Z qA qn qc)/\W.cell? ⟨bq,oq+i*6+4,I⟩=J (Z qB qm qd)/\W.cell? ⟨bq,oq+i*6+5,I⟩=J (Z qC qp qe)))
   have HMD:Hid (aG (fun q=>q=g) I wr wr.drew):=hid (aG.of_below (aI (Below.refl wr.heap.size wr) 1));have HBD:Hid (Below wr.heap.size wr wr.drew):=hid (aI (Below.refl wr.heap.size wr) 1);have hdz:wr.drew.heap.size=wr.heap.size:=rfl;clear htq hoy hdr hli hil hbq k0 k1 k2 k3 k4 k5 zk hbqn;have hst':=hst.o;clear hst;rcases hst' with ⟨f',hff,hA,hok,hrs⟩ | ⟨z,f',hz,hrs,hA⟩;rotate_left
   · have HA8:=hid (hA.below HBD.o);have HZ:=hid hz;have HRZ:=hid hrs;have HTC8:=hid (htc.o.keep (R':=fun q=>aK R V0 wr q/\q ≠ wA.heap.size) (w':=wr.drew) fun q hq=>⟨hq,fun o=>HBD.o.cell (p:=⟨q,o,I⟩) (show q<wr.heap.size from aK.lt2 HRO.o (by have:=hws.o;have:=HW9.o;omega) hq.1)⟩);have HKA8:=hid (hka.o.keep (R':=RA) (w':=wr.drew) fun q hq=>⟨hq,fun o=>HBD.o.cell (p:=⟨q,o,I⟩) (show q<wr.heap.size from aK.lt2 HRO.o (by have:=hws.o;have:=HW9.o;omega) (HRW.o q hq).1.1)⟩);have HKC8:=hid (hkc.o.below HBD.o hkc.o.lt);clear hA hz hrs;go_wp2_with fail
     refine cF 7 (fun w'=>w'.cell? ⟨wA.heap.size,0,I⟩=J (O Y co)/\w'.cell? ⟨wA.heap.size,1,I⟩=J (O Y ca)/\w'.cell? ⟨wA.heap.size,2,I⟩=J (O Y cb)/\w'.cell? ⟨wA.heap.size,3,I⟩=J (Z cA cn cc)/\w'.cell? ⟨wA.heap.size,4,I⟩=J (Z cB cm cd)/\w'.cell? ⟨wA.heap.size,5,I⟩=J (Z cC cp ce)/\w'.cell? ⟨bq,oq+i*6,I⟩=J (O Y qo)/\w'.cell? ⟨bq,oq+i*6+1,I⟩=J (O Y qa)/\w'.cell? ⟨bq,oq+i*6+2,I⟩=J (O Y qb)/\w'.cell? ⟨bq,oq+i*6+3,I⟩=J (Z qA qn qc)/\w'.cell? ⟨bq,oq+i*6+4,I⟩=J (Z qB qm qd)/\w'.cell? ⟨bq,oq+i*6+5,I⟩=J (Z qC qp qe)) (by kernel_rfl) ?_ (fun hHeld => ?_)
     · (try dsimp only);exact HKP.o _ HMD.o
     refine te 0 hHeld ?_;try simp only [p7]
     refine te 1 hHeld ?_;try simp only [p7]
     refine te 2 hHeld ?_;try simp only [p7]
     refine te 3 hHeld ?_;try simp only [p7]
     refine te 4 hHeld ?_;try simp only [p7]
     refine te 5 hHeld ?_;try simp only [p7]
     refine aO (i:=6) (by kernel_rfl) rfl rfl (fun K hK => ?_);go_simp;go_at_call 47
     refine (lQ HA8.o.st HZ.o ⟨cA,cn,cc,cB,cm,cd,cC,cp,ce⟩ ⟨qA,qn,qc,qB,qm,qd,qC,qp,qe⟩ ⟨co,ca,cb⟩ ⟨qo,qa,qb⟩).mono ?_;rintro e w5 ⟨hb5,rfl⟩;have HM5:Hid (aG (fun q=>q=g) I wr.drew w5):=hid (aG.of_below hb5);have HA5:=hid (HA8.o.below hb5);have HMS:=hid (HMD.o.trans (row':=I) HM5.o (fun _ e=>by cases e));have HKC9:=hid (HKC8.o.movedO HG13.o.1 HM5.o);have hg9:=cW w5 wA.heap.size (O Y co) (O Y ca) (O Y cb) (Z cA cn cc) (Z cB cm cd) (Z cC cp ce);have HG9:=hid hg9;have HAG:=hid (HA5.o.grow HL.o HG13.o.2 HG9.o);have HKA9:=hid (HKA8.o.keep (R':=RA) (w':=((((((w5.setCell ⟨wA.heap.size,0,I⟩ (O Y co)).setCell ⟨wA.heap.size,1,I⟩ (O Y ca)).setCell ⟨wA.heap.size,2,I⟩ (O Y cb)).setCell ⟨wA.heap.size,3,I⟩ (Z cA cn cc)).setCell ⟨wA.heap.size,4,I⟩ (Z cB cm cd)).setCell ⟨wA.heap.size,5,I⟩ (Z cC cp ce))) fun q hq=>⟨hq,fun o=>by
      have h1:=(HRA.o q hq);have h2:q<wr.heap.size:=aK.lt2 HRO.o (by have:=hws.o;have:=HW9.o;omega) (HRW.o q hq).1.1;exact aH ((HG9.o.block q (by have:=HM5.o.size;have:wr.drew.heap.size=wr.heap.size:=rfl;omega) (by intro e;injection e with e;exact h1.2 e)).trans (HM5.o.block q h2 (gQ HRO.o HGV.o h1.1) (by simp))) o⟩)
     have zq:=aD.cell HKC9.o;have zqf:=aD.frozen HKC9.o;clear hg9;clear hb5;have HRT9:=hid ((HTC8.o.keep (R':=fun q=>aK R V0 ((((((w5.setCell ⟨wA.heap.size,0,I⟩ (O Y co)).setCell ⟨wA.heap.size,1,I⟩ (O Y ca)).setCell ⟨wA.heap.size,2,I⟩ (O Y cb)).setCell ⟨wA.heap.size,3,I⟩ (Z cA cn cc)).setCell ⟨wA.heap.size,4,I⟩ (Z cB cm cd)).setCell ⟨wA.heap.size,5,I⟩ (Z cC cp ce)) q/\q ≠ wA.heap.size) (w':=((((((w5.setCell ⟨wA.heap.size,0,I⟩ (O Y co)).setCell ⟨wA.heap.size,1,I⟩ (O Y ca)).setCell ⟨wA.heap.size,2,I⟩ (O Y cb)).setCell ⟨wA.heap.size,3,I⟩ (Z cA cn cc)).setCell ⟨wA.heap.size,4,I⟩ (Z cB cm cd)).setCell ⟨wA.heap.size,5,I⟩ (Z cC cp ce))) fun q hq=>⟨⟨hq.1.to (Nat.le_refl _) (by have:=HG9.o.size;have:=HMS.o.size;omega),hq.2⟩,fun o=>by
      have h2:q<wr.heap.size:=aK.lt2 HRO.o (by have:=hws.o;have:=HW9.o;omega) hq.1;exact aH ((HG9.o.block q (by have:=HM5.o.size;have:wr.drew.heap.size=wr.heap.size:=rfl;omega) (by intro e;injection e with e;exact hq.2 e)).trans (HM5.o.block q h2 (gQ HRO.o HGV.o hq.1) (by simp))) o⟩))
     go_wp2_with fail
     refine hK.o _ _ (fun _ => ?_) ?_
     · (try dsimp only);exact HKP.o _ HMS.o
     clear hK K;try simp only [p7]
     replace hHeld:=HKP.o _ HMS.o
     refine aO (i:=7) (by kernel_rfl) rfl rfl (fun K hK => ?_);go_simp;refine hK.o _ _ (fun h=>absurd rfl h) ?_;clear hK K;try simp only [p7]
     refine cN (by kernel_rfl) ?_ _;go_wp2_with fail
     go_roundw
     case rel=>exact ⟨i+1,((⟨co,ca,cb⟩:Nd),cat,ck),⟨cA,cn,cc,cB,cm,cd,cC,cp,ce⟩,by go_num,by omega,hid (aW HKC9.o _ _ _ _ _ _),HRT9,HKA9,hid (by have:=HG9.o.size;have:=HMS.o.size;have:=hws.o;omega),hid (Or.inr ⟨z,f',HZ.o,HRZ.o,HAG.o⟩)⟩
     case measure=>simp [intOf]<;>omega
   have HA8:=hid (hA.below HBD.o);have HOK:=hid hok;have HRS:=hid (hrs.trans (by rw [HDR.o];rfl:givens (fB b d) (L.drop i) ((⟨co,ca,cb⟩:Nd),cat,ck) f'=(fB b d f' ((⟨co,ca,cb⟩:Nd),cat,ck) ((⟨qo,qa,qb⟩:Nd),qat,qk)).bind fun g1 f1=>givens (fB b d) (L.drop (i+1)) g1 f1));have HFV:=hid (HFT.o.2 f' ((⟨co,ca,cb⟩:Nd),cat,ck) ((⟨qo,qa,qb⟩:Nd),qat,qk));have HCG:=hid (HHG.o wr.drew f' (fun q=>aK R V0 wr q/\q ≠ wA.heap.size) ⟨cA,cn,cc,cB,cm,cd,cC,cp,ce⟩ ((⟨co,ca,cb⟩:Nd),cat,ck) ⟨qA,qn,qc,qB,qm,qd,qC,qp,qe⟩ ((⟨qo,qa,qb⟩:Nd),qat,qk) aA aA HA8.o.st (fun q hq=>⟨by rw [hdz];exact aK.lt2 HRO.o (by have:=hws.o;have:=HW9.o;omega) hq.1,gQ HRO.o HGV.o hq.1⟩) (htc.o.keep fun q hq=>⟨hq,fun o=>HBD.o.cell (p:=⟨q,o,I⟩) (show q<wr.heap.size from aK.lt2 HRO.o (by have:=hws.o;have:=HW9.o;omega) hq.1)⟩) (HHQ.o.keep fun q hq=>⟨(HRW.o q hq).1,fun o=>HBD.o.cell (p:=⟨q,o,I⟩) (show q<wr.heap.size from aK.lt2 HRO.o (by have:=hws.o;have:=HW9.o;omega) (HRW.o q hq).1.1)⟩) hok HOY.o);have HKA8:=hid (hka.o.keep (R':=RA) (w':=wr.drew) fun q hq=>⟨hq,fun o=>HBD.o.cell (p:=⟨q,o,I⟩) (show q<wr.heap.size from aK.lt2 HRO.o (by have:=hws.o;have:=HW9.o;omega) (HRW.o q hq).1.1)⟩);have HKC8:=hid (hkc.o.below HBD.o hkc.o.lt);clear hA hok hrs;cases hE:fB b d f' ((⟨co,ca,cb⟩:Nd),cat,ck) ((⟨qo,qa,qb⟩:Nd),qat,qk) with
   | er z =>
    rw [hE] at HCG HRS;have HRZ:Hid (res=.er z):=HRS;clear hE HRS;go_wp2_with fail
    refine cF 7 (fun w'=>w'.cell? ⟨wA.heap.size,0,I⟩=J (O Y co)/\w'.cell? ⟨wA.heap.size,1,I⟩=J (O Y ca)/\w'.cell? ⟨wA.heap.size,2,I⟩=J (O Y cb)/\w'.cell? ⟨wA.heap.size,3,I⟩=J (Z cA cn cc)/\w'.cell? ⟨wA.heap.size,4,I⟩=J (Z cB cm cd)/\w'.cell? ⟨wA.heap.size,5,I⟩=J (Z cC cp ce)/\w'.cell? ⟨bq,oq+i*6,I⟩=J (O Y qo)/\w'.cell? ⟨bq,oq+i*6+1,I⟩=J (O Y qa)/\w'.cell? ⟨bq,oq+i*6+2,I⟩=J (O Y qb)/\w'.cell? ⟨bq,oq+i*6+3,I⟩=J (Z qA qn qc)/\w'.cell? ⟨bq,oq+i*6+4,I⟩=J (Z qB qm qd)/\w'.cell? ⟨bq,oq+i*6+5,I⟩=J (Z qC qp qe)) (by kernel_rfl) ?_ (fun hHeld => ?_)
    · (try dsimp only);exact HKP.o _ HMD.o
    refine te 0 hHeld ?_;try simp only [p7]
    refine te 1 hHeld ?_;try simp only [p7]
    refine te 2 hHeld ?_;try simp only [p7]
    refine te 3 hHeld ?_;try simp only [p7]
    refine te 4 hHeld ?_;try simp only [p7]
    refine te 5 hHeld ?_;try simp only [p7]
    refine aO (i:=6) (by kernel_rfl) rfl rfl (fun K hK => ?_);go_simp;go_at_call 47
    refine (HCG.o).mono ?_;rintro e w5 ⟨hm5,⟨eA,en,ec,eB,em,ed,eC,ep,ee⟩,⟨⟨eo,ea,eb⟩,eat,ek⟩,rfl,ht5,hz5,f5,hs5⟩;have HM5:=hid hm5;have HT5:=hid ht5;have HZ5:=hid hz5;have HA5:=hid (HA8.o.call HL.o hm5 hs5);have HMS:=hid (HMD.o.trans (row':=I) HM5.o (fun _ e=>by cases e));have HKC9:=hid (HKC8.o.movedO HG13.o.1 HM5.o);have hg9:=cW w5 wA.heap.size (O Y eo) (O Y ea) (O Y eb) (Z eA en ec) (Z eB em ed) (Z eC ep ee);have HG9:=hid hg9;have HAG:=hid (HA5.o.grow HL.o HG13.o.2 HG9.o);have HKA9:=hid (HKA8.o.keep (R':=RA) (w':=((((((w5.setCell ⟨wA.heap.size,0,I⟩ (O Y eo)).setCell ⟨wA.heap.size,1,I⟩ (O Y ea)).setCell ⟨wA.heap.size,2,I⟩ (O Y eb)).setCell ⟨wA.heap.size,3,I⟩ (Z eA en ec)).setCell ⟨wA.heap.size,4,I⟩ (Z eB em ed)).setCell ⟨wA.heap.size,5,I⟩ (Z eC ep ee))) fun q hq=>⟨hq,fun o=>by
     have h1:=(HRA.o q hq);have h2:q<wr.heap.size:=aK.lt2 HRO.o (by have:=hws.o;have:=HW9.o;omega) (HRW.o q hq).1.1;exact aH ((HG9.o.block q (by have:=HM5.o.size;have:wr.drew.heap.size=wr.heap.size:=rfl;omega) (by intro e;injection e with e;exact h1.2 e)).trans (HM5.o.block q h2 (gQ HRO.o HGV.o h1.1) (by simp))) o⟩)
    have zq:=aD.cell HKC9.o;have zqf:=aD.frozen HKC9.o;clear hg9;clear hm5 ht5 hz5 hs5;go_wp2_with fail
    refine hK.o _ _ (fun _ => ?_) ?_
    · (try dsimp only);exact HKP.o _ HMS.o
    clear hK K;try simp only [p7]
    replace hHeld:=HKP.o _ HMS.o
    refine aO (i:=7) (by kernel_rfl) rfl rfl (fun K hK => ?_);go_simp;refine hK.o _ _ (fun h=>absurd rfl h) ?_;clear hK K;try simp only [p7]
    refine cN (by kernel_rfl) ?_ _;have HRT9:=hid (((HT5.o.keep (R':=fun q=>aK R V0 ((((((w5.setCell ⟨wA.heap.size,0,I⟩ (O Y eo)).setCell ⟨wA.heap.size,1,I⟩ (O Y ea)).setCell ⟨wA.heap.size,2,I⟩ (O Y eb)).setCell ⟨wA.heap.size,3,I⟩ (Z eA en ec)).setCell ⟨wA.heap.size,4,I⟩ (Z eB em ed)).setCell ⟨wA.heap.size,5,I⟩ (Z eC ep ee)) q/\q ≠ wA.heap.size) (w':=((((((w5.setCell ⟨wA.heap.size,0,I⟩ (O Y eo)).setCell ⟨wA.heap.size,1,I⟩ (O Y ea)).setCell ⟨wA.heap.size,2,I⟩ (O Y eb)).setCell ⟨wA.heap.size,3,I⟩ (Z eA en ec)).setCell ⟨wA.heap.size,4,I⟩ (Z eB em ed)).setCell ⟨wA.heap.size,5,I⟩ (Z eC ep ee))) fun q hq=>⟨⟨by
     rcases hq with hq | hq
     · exact hq.1.to (Nat.le_refl _) (by have:=HG9.o.size;have:=HMS.o.size;omega)
     · exact Or.inr ⟨by have:=hq.1;have:=hws.o;have:=HW9.o;have:=HV9.o;have:wr.drew.heap.size=wr.heap.size:=rfl;omega,Nat.lt_of_lt_of_le hq.2 HG9.o.size⟩,by
     rcases hq with hq | hq
     · exact hq.2
     · have:=hq.1;have:=hkc.o.lt;have:wr.drew.heap.size=wr.heap.size:=rfl;omega⟩,fun o=>aH (HG9.o.block q (by
     rcases hq with hq | hq
     · have:=aK.lt2 HRO.o (by have:=hws.o;have:=HW9.o;omega:w.heap.size<=wr.heap.size) hq.1;have:=HMS.o.size;omega
     · exact hq.2) (by
     intro e;injection e with e;rcases hq with hq | hq
     · exact hq.2 e
     have:=hq.1;have:=hkc.o.lt;have:wr.drew.heap.size=wr.heap.size:=rfl;omega)) o⟩)))
    go_wp2_with fail
    go_roundw
    case rel=>exact ⟨i+1,((⟨eo,ea,eb⟩:Nd),eat,ek),⟨eA,en,ec,eB,em,ed,eC,ep,ee⟩,by go_num,by omega,hid (aW HKC9.o _ _ _ _ _ _),HRT9,HKA9,hid (by have:=HG9.o.size;have:=HMS.o.size;have:=hws.o;omega),hid (Or.inr ⟨z,f5,HZ5.o,HRZ.o,HAG.o⟩)⟩
    case measure=>simp [intOf]<;>omega
   | ok u1 f1 =>
    rw [hE] at HCG HRS;have HF1:=hid (HFV.o u1 f1 HOK.o HOY.o hE);have hf1:=HF1.o.2;have HRZ:Hid (res=givens (fB b d) (L.drop (i+1)) u1 f1):=HRS;clear hE HRS;go_wp2_with fail
    refine cF 7 (fun w'=>w'.cell? ⟨wA.heap.size,0,I⟩=J (O Y co)/\w'.cell? ⟨wA.heap.size,1,I⟩=J (O Y ca)/\w'.cell? ⟨wA.heap.size,2,I⟩=J (O Y cb)/\w'.cell? ⟨wA.heap.size,3,I⟩=J (Z cA cn cc)/\w'.cell? ⟨wA.heap.size,4,I⟩=J (Z cB cm cd)/\w'.cell? ⟨wA.heap.size,5,I⟩=J (Z cC cp ce)/\w'.cell? ⟨bq,oq+i*6,I⟩=J (O Y qo)/\w'.cell? ⟨bq,oq+i*6+1,I⟩=J (O Y qa)/\w'.cell? ⟨bq,oq+i*6+2,I⟩=J (O Y qb)/\w'.cell? ⟨bq,oq+i*6+3,I⟩=J (Z qA qn qc)/\w'.cell? ⟨bq,oq+i*6+4,I⟩=J (Z qB qm qd)/\w'.cell? ⟨bq,oq+i*6+5,I⟩=J (Z qC qp qe)) (by kernel_rfl) ?_ (fun hHeld => ?_)
    · (try dsimp only);exact HKP.o _ HMD.o
    refine te 0 hHeld ?_;try simp only [p7]
    refine te 1 hHeld ?_;try simp only [p7]
    refine te 2 hHeld ?_;try simp only [p7]
    refine te 3 hHeld ?_;try simp only [p7]
    refine te 4 hHeld ?_;try simp only [p7]
    refine te 5 hHeld ?_;try simp only [p7]
    refine aO (i:=6) (by kernel_rfl) rfl rfl (fun K hK => ?_);go_simp;go_at_call 47
    refine (HCG.o).mono ?_;rintro e w5 ⟨hm5,⟨eA,en,ec,eB,em,ed,eC,ep,ee⟩,⟨⟨eo,ea,eb⟩,eat,ek⟩,rfl,ht5,hy5,hs5⟩;subst hy5;have HM5:=hid hm5;have HT5:=hid ht5;have HA5:=hid (HA8.o.call HL.o hm5 hs5);have HMS:=hid (HMD.o.trans (row':=I) HM5.o (fun _ e=>by cases e));have HKC9:=hid (HKC8.o.movedO HG13.o.1 HM5.o);have hg9:=cW w5 wA.heap.size (O Y eo) (O Y ea) (O Y eb) (Z eA en ec) (Z eB em ed) (Z eC ep ee);have HG9:=hid hg9;have HAG:=hid (HA5.o.grow HL.o HG13.o.2 HG9.o);have HKA9:=hid (HKA8.o.keep (R':=RA) (w':=((((((w5.setCell ⟨wA.heap.size,0,I⟩ (O Y eo)).setCell ⟨wA.heap.size,1,I⟩ (O Y ea)).setCell ⟨wA.heap.size,2,I⟩ (O Y eb)).setCell ⟨wA.heap.size,3,I⟩ (Z eA en ec)).setCell ⟨wA.heap.size,4,I⟩ (Z eB em ed)).setCell ⟨wA.heap.size,5,I⟩ (Z eC ep ee))) fun q hq=>⟨hq,fun o=>by
     have h1:=(HRA.o q hq);have h2:q<wr.heap.size:=aK.lt2 HRO.o (by have:=hws.o;have:=HW9.o;omega) (HRW.o q hq).1.1;exact aH ((HG9.o.block q (by have:=HM5.o.size;have:wr.drew.heap.size=wr.heap.size:=rfl;omega) (by intro e;injection e with e;exact h1.2 e)).trans (HM5.o.block q h2 (gQ HRO.o HGV.o h1.1) (by simp))) o⟩)
    have zq:=aD.cell HKC9.o;have zqf:=aD.frozen HKC9.o;clear hg9;clear hm5 ht5 hs5;go_wp2_with fail
    refine hK.o _ _ (fun _ => ?_) ?_
    · (try dsimp only);exact HKP.o _ HMS.o
    clear hK K;try simp only [p7]
    replace hHeld:=HKP.o _ HMS.o
    refine aO (i:=7) (by kernel_rfl) rfl rfl (fun K hK => ?_);go_simp;refine hK.o _ _ (fun h=>absurd rfl h) ?_;clear hK K;try simp only [p7]
    refine cN (by kernel_rfl) ?_ _;have HRT9:=hid (((HT5.o.keep (R':=fun q=>aK R V0 ((((((w5.setCell ⟨wA.heap.size,0,I⟩ (O Y eo)).setCell ⟨wA.heap.size,1,I⟩ (O Y ea)).setCell ⟨wA.heap.size,2,I⟩ (O Y eb)).setCell ⟨wA.heap.size,3,I⟩ (Z eA en ec)).setCell ⟨wA.heap.size,4,I⟩ (Z eB em ed)).setCell ⟨wA.heap.size,5,I⟩ (Z eC ep ee)) q/\q ≠ wA.heap.size) (w':=((((((w5.setCell ⟨wA.heap.size,0,I⟩ (O Y eo)).setCell ⟨wA.heap.size,1,I⟩ (O Y ea)).setCell ⟨wA.heap.size,2,I⟩ (O Y eb)).setCell ⟨wA.heap.size,3,I⟩ (Z eA en ec)).setCell ⟨wA.heap.size,4,I⟩ (Z eB em ed)).setCell ⟨wA.heap.size,5,I⟩ (Z eC ep ee))) fun q hq=>⟨⟨by
     rcases hq with hq | hq
     · exact hq.1.to (Nat.le_refl _) (by have:=HG9.o.size;have:=HMS.o.size;omega)
     · exact Or.inr ⟨by have:=hq.1;have:=hws.o;have:=HW9.o;have:=HV9.o;have:wr.drew.heap.size=wr.heap.size:=rfl;omega,Nat.lt_of_lt_of_le hq.2 HG9.o.size⟩,by
     rcases hq with hq | hq
     · exact hq.2
     · have:=hq.1;have:=hkc.o.lt;have:wr.drew.heap.size=wr.heap.size:=rfl;omega⟩,fun o=>aH (HG9.o.block q (by
     rcases hq with hq | hq
     · have:=aK.lt2 HRO.o (by have:=hws.o;have:=HW9.o;omega:w.heap.size<=wr.heap.size) hq.1;have:=HMS.o.size;omega
     · exact hq.2) (by
     intro e;injection e with e;rcases hq with hq | hq
     · exact hq.2 e
     have:=hq.1;have:=hkc.o.lt;have:wr.drew.heap.size=wr.heap.size:=rfl;omega)) o⟩)))
    go_wp2_with fail
    go_roundw
    case rel=>exact ⟨i+1,((⟨eo,ea,eb⟩:Nd),eat,ek),⟨eA,en,ec,eB,em,ed,eC,ep,ee⟩,by go_num,by omega,hid (aW HKC9.o _ _ _ _ _ _),HRT9,HKA9,hid (by have:=HG9.o.size;have:=HMS.o.size;have:=hws.o;omega),hid (Or.inl ⟨f1,by omega,HAG.o,HF1.o.1,HRZ.o⟩)⟩
    case measure=>simp [intOf]<;>omega
end Go.Proofs.YtjllmblbbgojbaaGreat
