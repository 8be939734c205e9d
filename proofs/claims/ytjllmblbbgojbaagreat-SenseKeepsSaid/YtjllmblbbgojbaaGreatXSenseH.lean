/- sense: give, one level. -/
import Derived.Test.YtjllmblbbgojbaaGreatXSenseE
namespace Go.Proofs.YtjllmblbbgojbaaGreat
set_option linter.unusedVariables false
set_option linter.unusedSimpArgs false
open Go.RowKit
open Option renaming none → O
open Go.Value renaming slice → S
open Go.Lib renaming hid->aB
theorem MG {b:Bk} {x a:TT} (fx:cM b 0 x) (fa:cM b 0 a):jH (aY x) [aY a]=if 4096<1+cL x+cL a then ([],9) else (aY (eS x a),0):=by
 have h1:=fx.rt.shape;have h2:=fa.rt.shape;have e1:(aY x).length=cL x:=rfl;have e2:(aY a).length=cL a:=rfl;unfold jH;rw[if_neg aA,if_neg (by simp[eP,h2])];simp only[List.flatten_cons,List.flatten_nil,List.append_nil,List.length_cons,List.length_nil,e1,e2];by_cases hs:4096<1+cL x+cL a
 · rw[if_pos hs,if_pos aA]
 rw[if_neg hs,if_neg aA];simp[eS,aY,row]
theorem KH {w:World} {A:Option Addr} {n c:Nat} {l:List Nd} (h:bB w A n c l):dG (· < (w.alloc (.cells #[S A n c] 28)).heap.size) (w.alloc (.cells #[S A n c] 28)) (some ⟨w.heap.size,0,O⟩) 1 1 [l]:=by
 refine⟨rfl,by decide,fun _=>⟨w.heap.size,0,rfl,by simp,fun k hk => ?_⟩⟩;obtain rfl:k=0:=aA;exact⟨A,n,c,by simp,h.below (aP _ _)⟩
theorem rU {b:Bk} {g:Nat} {w:World} {A B:Option Addr} {n c m k:Nat} {x a:TT} (hg:g<w.heap.size) (hx:eM g w A n c (aY x)) (ha:eM g w B m k (aY a)) (fx:cM b 0 x) (fa:cM b 0 a) :
 Calls Tryz.prog 75 #[S A n c,S (some ⟨w.heap.size,0,O⟩) 1 1] (w.alloc (.cells #[S B m k] 28)) (fun e w'=>Below w.heap.size w w'/\∃A' n' c',e=.returned (.tuple #[S A' n' c',.int .i64 (if 4096<1+cL x+cL a then 9 else 0)])/\(¬ 4096<1+cL x+cL a->eM g w' A' n' c' (aY (eS x a)))):=by
 have hb:=aP w (.cells #[S B m k] 28);have hs:=hb.size;refine (F9 (hx.gv.below hb) (KH ha.gv) (fun e=>by cases e)).mono ?_;rintro e w' ⟨hb',A',n',c',rfl,ht⟩;rw[MG fx fa] at ht ⊢;refine⟨hb.trans (hb'.mono hs),A',n',c',?_,fun h => ?_⟩
 · split<;>rfl
 rw[if_neg h] at ht;exact ht.keep fun q hq=>⟨⟨hq.2,by have:=hq.1;omega⟩,fun _=>rfl⟩
set_option maxRecDepth 100000 in
set_option maxHeartbeats 8000000 in
theorem DY {w0:World} {g:Nat} {v:bN} {b:Bk} {d:Nat} (hr:cT b=0) (E1:PA w0 g v b (d+1)) (HG:O3 w0 g v b d):O3 w0 g v b (d+1):=by
 intro w f A n c B m k x a hf hf1 hw hx ha ox oa;rw[kE];obtain⟨res,hres⟩ : ∃r,r=iN (fO b (d+1)) (gH b d) f x a:=⟨_,rfl⟩;rw[<-hres];obtain⟨⟨F,L⟩,hqq⟩ : ∃q,q=dL x:=⟨_,rfl⟩;have HR0:Hid (res=if F.1.op=5 then (match cW x.2.2 with
  | _::bd::_=>if (cI bd a).2=0 then fO b (d+1) f (cI bd a).1 else .er (cI bd a).2
  | _=>.er 0)
  else if F.1.op=9\/F.1.op=10 then (if 4096<1+cL x+cL a then .er 9 else .ok (eS x a) f)
  else if F.1.op=12 then
   (if ((L++[a]).length:Int)<=dX F then (if 4096<1+cL x+cL a then .er 9 else .ok (eS x a) f)
    else if (dL ((L++[a]).getD (dX F).toNat (⟨0,0,0⟩,[],.nil))).1.1.op=10 then
     (if (jE F).2=0 then (fO b (d+1) f (jE F).1).bind fun g' f'=>cS (gH b d) (L++[a]) g' f' else .er (jE F).2)
    else .er 24)
  else .er 24):=aB (by rw[hres];unfold iN;rw[<-hqq];rfl)
 have HAP:=aB (mC hx.gv ox.1.rt);obtain⟨hF,hL⟩:=cM.hd ox.1;have HLM:Hid (F.1.op=5->L=[]/\F=x):=aB (fun h5=>by
  obtain⟨h1,h2⟩:=yK ox.2 (by rw[<-hqq];exact h5);rw[<-hqq] at h1 h2;exact⟨h1,h2⟩)
 have hLv:F.1.op=12->∀y ∈ L,kQ b y:=fun h12 y hy=>⟨hL y (by rw[<-hqq];exact hy),jV ox.2 (by rw[<-hqq];exact Or.inr (Or.inr h12)) y (by rw[<-hqq];exact hy)⟩;have hLb:L.length<=4096:=by
  have h3:=j8 (cL x) x ox.1.rt;have h4:=ox.1.few;have h5:(dL x).2.length<cL x:=h3;rw[<-hqq] at h5;simp only at h5;omega
 rw[<-hqq] at HAP hF;simp only at hF;have HFF:=aB hF;have HLV:=aB hLv;obtain⟨k1,hk1⟩ : ∃k1,k1=L.length:=⟨_,rfl⟩;have HK:=aB hk1;unfold pE at HAP;simp only at HAP;rw[<-hk1] at HAP hLb;have hgl:=hw.lt;have HW:=aB hw;have HX:=aB hx;have HA:=aB ha;have HE:=aB E1;have HHG:=aB HG;have HRT:=aB hr;have HFT:=aB (i6 (b:=b) hr (d+1));obtain⟨xo,hxo⟩ : ∃z,z=F.1.op:=⟨_,rfl⟩;have HXO:=aB hxo;have hln:=hx.len;clear hres hqq hF hL hLv hk1 hw hx ha E1 HG hr hxo;go_in;go_wp2_with fail;refine (HAP.o).mono ?_;rintro e w1 ⟨hd1,A1,n1,c1,B1,d1,vs,rfl,hpc,hown,hps⟩;have hs1:=hd1.size;obtain⟨w2,hw2e⟩ : ∃w2:World,w2=w1.alloc (.cells #[S A1 n1 c1,S B1 k1 d1] 83):=⟨_,rfl⟩;have hb12:Below w1.heap.size w1 w2:=by rw[hw2e];exact aP _ _
 have hS2:aS w2 w1.heap.size 83 #[S A1 n1 c1,S B1 k1 d1]:=by rw[hw2e];exact aS.new _ _ _
 have hb2:Below w.heap.size w w2:=hd1.trans (hb12.mono hs1);have HW2:=aB (HW.o.below hb2);have HX2:=aB (HX.o.belowG hb2);have HA2:=aB (HA.o.belowG hb2);have HM2:Hid (aW (fun q=>q=g) O w w2):=aB (aW.of_below hb2);have htf:eM g w2 A1 n1 c1 (aY F):=hpc _ _ HX2.o;have hn1:0<n1:=by rw[<-htf.len];simp[aY]
 obtain⟨bf1,of1,rfl,hbf1,hcf⟩:=htf.mem hn1;obtain⟨q0,q1,q2⟩:=hcf 0 (by rw[htf.len];exact hn1);simp only[Nat.zero_mul,Nat.add_zero] at q0 q1 q2;rw[show bD (aY F) 0=F.1 from rfl] at q0 q1 q2;rw[<-HXO.o] at q0;have HS2:=aB hS2;have zs2:=aS.cell hS2;have HOW:=aB (bL hown hb12);have HPC:=aB hpc;have HPS:=aB hps;have hw12:w1.heap.size<w2.heap.size:=hS2.lt;have hnew:(w1.alloc (.cells #[S (some ⟨bf1,of1,O⟩) n1 c1,S B1 k1 d1] 83))=w2:=hw2e.symm;have HNEW:=aB hnew;have q0':=q0;have zs2':=zs2;rw[<-hnew] at q0' zs2';clear hnew hw2e;clear q1 q2 hcf htf hbf1 hS2 hb2 hd1 hpc hown hps;by_cases t5:xo=5
 · have u5:decide (xo=5)=true:=decide_eq_true t5;have h5:F.1.op=5:=by rw[<-HXO.o];exact t5
   obtain⟨_,hFx⟩:=HLM.o h5;have h5x:x.1.op=5:=by rw[<-hFx];exact h5
   obtain⟨p,q,hk⟩:=kG ox.1.okt (Or.inr (Or.inl h5x));obtain⟨e1,he1,h1e,h1n,hp,hq⟩:=tM ox.1.rt (Or.inr h5x) hk;rw[hln] at h1n;have HRB:Hid (res=if (cI q a).2=0 then fO b (d+1) f (cI q a).1 else .er (cI q a).2):=aB (by rw[HR0.o,if_pos h5,hk]);have HFQ:Hid (cM b (0+1) q):=aB (by
    have:=ox.1.kid (i:=1) (y:=q) (by rw[hk];rfl)
    rwa [show aQ x.1.op x.1.b ((1:Nat):Int)=1 from by rw[h5x];simp[aQ]] at this)
   have HE1:=aB (iA HX2.o.gv 1);rw[he1] at HE1;obtain⟨Af,hf_,hfr⟩:=jJ A n c e1 h1n;have HQ:=aB (fun (w':World) (h:eM g w' A n c (aY x))=>hfr _ _ _ h);rw[hq] at HQ;have HOA:=aB oa.1;clear he1 h1e hp hq hfr hk h5 h5x hFx HLM HLV HPC HPS HOW HFF HR0;go_upto_region 4 with fail
   rw[HNEW.o];clear q0' zs2';go_wp2_with fail;refine (HE1.o).mono ?_;rintro e w6 ⟨rfl,hb6⟩;have HW6:=aB (HW2.o.below hb6);have HX6:=aB (HX2.o.belowG hb6);have HA6:=aB (HA2.o.belowG hb6);have HM6:Hid (aW (fun q=>q=g) O w w6):=aB (HM2.o.trans (row':=O) (aW.of_below hb6) (fun _ e=>by cases e));clear hb6;have HS7:=aB (FT (b:=b) HW6.o.lt (HQ.o w6 HX6.o) HA6.o HFQ.o HOA.o);have HSF:=aB (iT (Int.le_refl 0) aA HFQ.o HOA.o).2.2;obtain⟨⟨y7,z7⟩,hy7⟩ : ∃r,r=cI q a:=⟨_,rfl⟩;rw[<-hy7] at HS7 HSF HRB;simp only at HS7 HSF HRB;clear hy7;by_cases h0:z7=0;rotate_left
   · have HRZ:Hid (res=.er z7):=aB (by rw[HRB.o,if_neg h0]);have HZ7:=aB h0;clear HSF HRB h0;go_wp2_with fail;refine (HS7.o).mono ?_;rintro e w7 ⟨hb7,A7,n7,c7,rfl,ht7⟩;have HM7:Hid (aW (fun q=>q=g) O w w7):=aB (HM6.o.trans (row':=O) (aW.of_below hb7) (fun _ e=>by cases e));clear hb7 ht7;go_wp2_with fail;refine (mH HZ7.o).mono ?_;rintro e wm ⟨rfl,hwm⟩;subst wm;go_wp2_with fail;rw[HRZ.o];exact⟨rfl,HM7.o,rfl⟩
   subst h0;rw[if_pos rfl] at HRB;have HFS:=aB (HSF.o rfl);clear HSF;go_wp2_with fail;refine (HS7.o).mono ?_;rintro e w7 ⟨hb7,A7,n7,c7,rfl,ht7⟩;have HT7:=aB (by first | exact ht7 rfl | exact ht7 trivial);have HB7:=aB hb7;have HW7:=aB (HW6.o.below hb7);have HM7:Hid (aW (fun q=>q=g) O w w7):=aB (HM6.o.trans (row':=O) (aW.of_below HB7.o) (fun _ e=>by cases e));clear hb7 ht7;go_wp2_with fail;refine (kX).mono ?_;rintro e wm ⟨rfl,hwm⟩;subst wm;have HC8:=aB (HE.o w7 f A7 n7 c7 y7 aA aA HW7.o HT7.o HFS.o);cases hE8:fO b (d+1) f y7 with
   | er z =>
    rw[hE8] at HC8 HRB;clear hE8;go_wp2_with fail;refine (HC8.o).mono ?_;rintro e w8 ⟨hm8,he8⟩;simp only at he8;subst he8;have HM8:Hid (aW (fun q=>q=g) O w w8):=aB (HM7.o.trans hm8 (fun _ e=>by cases e));clear hm8;go_wp2_with fail;rw[HRB.o];exact⟨rfl,HM8.o,rfl⟩
   | ok y8 f8 =>
    rw[hE8] at HC8 HRB;clear hE8;go_wp2_with fail;refine (HC8.o).mono ?_;rintro e w8 ⟨hm8,A8,n8,c8,rfl,hw8,ht8⟩;have HM8:Hid (aW (fun q=>q=g) O w w8):=aB (HM7.o.trans hm8 (fun _ e=>by cases e));have HW8:=aB hw8;have HT8:=aB ht8;clear hm8 hw8 ht8;go_wp2_with fail;go_ret;rw[HRB.o];exact⟨HM8.o,A8,n8,c8,rfl,HW8.o,HT8.o⟩
 have u5:decide (xo=5)=false:=decide_eq_false t5;by_cases t9:xo=9
 · have u9:decide (xo=9)=true:=decide_eq_true t9;have HRA:Hid (res=if 4096<1+cL x+cL a then .er 9 else .ok (eS x a) f):=aB (by rw[HR0.o,if_neg (by rw[<-HXO.o];omega),if_pos (by rw[<-HXO.o];omega)]);clear HR0 HLM HLV HPC HPS HOW HFF;go_upto_region 7 with fail
   rw[HNEW.o];clear q0' zs2';have HAP99:=aB (rU (b:=b) HW2.o.lt HX2.o HA2.o ox.1 oa.1);by_cases hs:4096<1+cL x+cL a
   · have HRZ:Hid (res=.er 9):=aB (by rw[HRA.o,if_pos hs]);rw[if_pos hs] at HAP99;clear hs HRA;go_wp2_with fail;refine (HAP99.o).mono ?_;rintro e w99 ⟨hb99,A99,n99,c99,rfl,ht99⟩;have HM99:Hid (aW (fun q=>q=g) O w w99):=aB (HM2.o.trans (row':=O) (aW.of_below hb99) (fun _ e=>by cases e));clear hb99 ht99;go_wp2_with fail;refine (mH aE).mono ?_;rintro e wm ⟨rfl,hwm⟩;subst wm;go_wp2_with fail;rw[HRZ.o];exact⟨rfl,HM99.o,rfl⟩
   have HRZ:Hid (res=.ok (eS x a) f):=aB (by rw[HRA.o,if_neg hs]);have HSS:=aB hs;rw[if_neg hs] at HAP99;clear hs HRA;go_wp2_with fail;refine (HAP99.o).mono ?_;rintro e w99 ⟨hb99,A99,n99,c99,rfl,ht99⟩;have HM99:Hid (aW (fun q=>q=g) O w w99):=aB (HM2.o.trans (row':=O) (aW.of_below hb99) (fun _ e=>by cases e));have HW99:=aB (HW2.o.below hb99);have HT99:=aB (ht99 HSS.o);clear hb99 ht99;go_wp2_with fail;refine (kX).mono ?_;rintro e wm ⟨rfl,hwm⟩;subst wm;go_wp2_with fail;go_ret;rw[HRZ.o];exact⟨HM99.o,A99,n99,c99,rfl,HW99.o,HT99.o⟩
 have u9:decide (xo=9)=false:=decide_eq_false t9;by_cases t10:xo=10
 · have u10:decide (xo=10)=true:=decide_eq_true t10;have HRA:Hid (res=if 4096<1+cL x+cL a then .er 9 else .ok (eS x a) f):=aB (by rw[HR0.o,if_neg (by rw[<-HXO.o];omega),if_pos (by rw[<-HXO.o];omega)]);clear HR0 HLM HLV HPC HPS HOW HFF;go_upto_region 7 with fail
   rw[HNEW.o];clear q0' zs2';have HAP99:=aB (rU (b:=b) HW2.o.lt HX2.o HA2.o ox.1 oa.1);by_cases hs:4096<1+cL x+cL a
   · have HRZ:Hid (res=.er 9):=aB (by rw[HRA.o,if_pos hs]);rw[if_pos hs] at HAP99;clear hs HRA;go_wp2_with fail;refine (HAP99.o).mono ?_;rintro e w99 ⟨hb99,A99,n99,c99,rfl,ht99⟩;have HM99:Hid (aW (fun q=>q=g) O w w99):=aB (HM2.o.trans (row':=O) (aW.of_below hb99) (fun _ e=>by cases e));clear hb99 ht99;go_wp2_with fail;refine (mH aE).mono ?_;rintro e wm ⟨rfl,hwm⟩;subst wm;go_wp2_with fail;rw[HRZ.o];exact⟨rfl,HM99.o,rfl⟩
   have HRZ:Hid (res=.ok (eS x a) f):=aB (by rw[HRA.o,if_neg hs]);have HSS:=aB hs;rw[if_neg hs] at HAP99;clear hs HRA;go_wp2_with fail;refine (HAP99.o).mono ?_;rintro e w99 ⟨hb99,A99,n99,c99,rfl,ht99⟩;have HM99:Hid (aW (fun q=>q=g) O w w99):=aB (HM2.o.trans (row':=O) (aW.of_below hb99) (fun _ e=>by cases e));have HW99:=aB (HW2.o.below hb99);have HT99:=aB (ht99 HSS.o);clear hb99 ht99;go_wp2_with fail;refine (kX).mono ?_;rintro e wm ⟨rfl,hwm⟩;subst wm;go_wp2_with fail;go_ret;rw[HRZ.o];exact⟨HM99.o,A99,n99,c99,rfl,HW99.o,HT99.o⟩
 have u10:decide (xo=10)=false:=decide_eq_false t10;by_cases t12:xo=12;rotate_left
 · have u12:decide (xo=12)=false:=decide_eq_false t12;have HRZ:Hid (res=.er 24):=aB (by rw[HR0.o,if_neg (by rw[<-HXO.o];omega),if_neg (by rw[<-HXO.o];omega),if_neg (by rw[<-HXO.o];omega)]);clear HR0 HLM HLV HPC HPS HOW HFF;go_upto_region 16 with fail
   rw[HNEW.o];clear q0' zs2';go_wp2_with fail;rw[HRZ.o];exact⟨rfl,HM2.o,rfl⟩
 have u12:decide (xo=12)=true:=decide_eq_true t12;have h12:F.1.op=12:=by rw[<-HXO.o];exact t12
 have hR1:=HR0.o;rw[if_neg aA,if_neg aA,if_pos h12] at hR1;obtain⟨hp0,hp1⟩:=lW HFF.o.okt h12;have HPL:=aB (oZ (HPC.o _ _ HX2.o).gv HFF.o.rt h12);have HLO:=aB (HLV.o h12);have HUF:=aB (fun (w':World) (h:eM g w' (some ⟨bf1,of1,O⟩) n1 c1 (aY F))=>yJ h.gv HFF.o h12);have HUN:=aB (fun h0=>tN HFF.o h12 h0);obtain⟨pn,hpn⟩ : ∃pn:Nat,dX F=(pn:Int):=⟨(dX F).toNat,by omega⟩;rw[hpn] at hR1 HPL hp1;rw[show ((pn:Nat):Int).toNat=pn from Int.toNat_natCast pn,show ((L++[a]).length:Int)=((k1+1:Nat):Int) from by rw[List.length_append,HK.o];rfl] at hR1;have HR1:=aB hR1;have hcv:=HPS.o;have hone:∀u ∈ vs,u.oneCell'=true:=fun u hu=>by
  obtain⟨A',n',c',rfl⟩:=gY.slices hcv u hu;rfl
 have HONE:=aB hone;have HVL:=aB (by have:=gY.len hcv;rw[this,HK.o]:vs.length=k1);obtain⟨i1,hi',hy0',hy1',hy2'⟩:=info_parts vK;have HI1:=aB hi';have HZ0:=aB hy0';have HZ1:=aB hy1';have HZ2:=aB hy2';clear hi' hy0' hy1' hy2' hcv hone hR1 hpn hp0 HR0 HLM HLV h12;go_upto_region 9 with fail
 rw[HNEW.o];clear q0' zs2';go_wp2_with fail;refine (HPL.o).mono ?_;rintro e w3 ⟨rfl,hb3⟩;have hs3:=hb3.size;have HB3:=aB hb3;have zs3:=aS.cell (HS2.o.below hb3 hw12);have HOW3:=aB (bL HOW.o hb3);have HCL:=aB (CD HOW3.o HONE.o aA);clear hb3;go_wp2_with fail;refine (HCL.o).mono ?_;rintro e w4 ⟨hb4,A4,c4,rfl,ho4⟩;rw[HVL.o] at ho4 ⊢;have HO4:=aB ho4;have HB4:=aB hb4;have hs4:=hb4.size;clear ho4 hb4;go_upto_region 11 with (at_builtin;go_loud (refine bM rfl (eX (.tmp 47) (.tmp 49) 65 28 rfl w3.heap.size i1 _ 24 Tryz.underlying65 HI1.o HZ0.o HZ1.o HZ2.o rfl aE (S A4 k1 c4) k1 vs (S B m k) rfl w4 rfl rfl HO4.o _ rfl rfl aA aA ?_));intro A6 c6 w6 happ6)
 have hb36:Below w3.heap.size w3 w6:=HB4.o.grown happ6.grown HB4.o.size (fun g hg=>(aR HO4.o hg).1);have hb26:Below w2.heap.size w2 w6:=HB3.o.trans (hb36.mono hs3);have HW6:=aB (HW2.o.below hb26);have HX6:=aB (HX2.o.belowG hb26);have HA6:=aB (HA2.o.belowG hb26);have HM6:Hid (aW (fun q=>q=g) O w w6):=aB (HM2.o.trans (row':=O) (aW.of_below hb26) (fun _ e=>by cases e));have hgw3:g<w3.heap.size:=aA;have HRW:Hid (dG (RG g w6) w6 A6 (k1+1) c6 ((L++[a]).map aY)):=aB (mI happ6.own (by rw[List.length_map,List.length_append,HK.o];rfl) aA (by rw[List.map_append];exact eL.add HA6.o (HPS.o.rows HX6.o)) (fun _ h=>h) (fun q e=>⟨(aR happ6.own e).2.1,by have:=(aR happ6.own e).1;omega⟩));have HS6:=aB (HS2.o.below hb26 hw12);have hs6:=hb26.size;clear happ6 hb36 hb26 HI1 HZ0 HZ1 HZ2 HB4 HO4 HCL HOW3 HOW HPL zs3 HB3 HS2 zs2;by_cases tp:k1+1<=pn
 · have up:decide (k1+1<=pn)=true:=decide_eq_true tp;have HRA:Hid (res=if 4096<1+cL x+cL a then .er 9 else .ok (eS x a) f):=aB (by rw[HR1.o,if_pos aA]);clear HR1;go_upto_region 12 with fail
   have HAP99:=aB (rU (b:=b) HW6.o.lt HX6.o HA6.o ox.1 oa.1);by_cases hs:4096<1+cL x+cL a
   · have HRZ:Hid (res=.er 9):=aB (by rw[HRA.o,if_pos hs]);rw[if_pos hs] at HAP99;clear hs HRA;go_wp2_with fail;refine (HAP99.o).mono ?_;rintro e w99 ⟨hb99,A99,n99,c99,rfl,ht99⟩;have HM99:Hid (aW (fun q=>q=g) O w w99):=aB (HM6.o.trans (row':=O) (aW.of_below hb99) (fun _ e=>by cases e));clear hb99 ht99;go_wp2_with fail;refine (mH aE).mono ?_;rintro e wm ⟨rfl,hwm⟩;subst wm;go_wp2_with fail;rw[HRZ.o];exact⟨rfl,HM99.o,rfl⟩
   have HRZ:Hid (res=.ok (eS x a) f):=aB (by rw[HRA.o,if_neg hs]);have HSS:=aB hs;rw[if_neg hs] at HAP99;clear hs HRA;go_wp2_with fail;refine (HAP99.o).mono ?_;rintro e w99 ⟨hb99,A99,n99,c99,rfl,ht99⟩;have HM99:Hid (aW (fun q=>q=g) O w w99):=aB (HM6.o.trans (row':=O) (aW.of_below hb99) (fun _ e=>by cases e));have HW99:=aB (HW6.o.below hb99);have HT99:=aB (ht99 HSS.o);clear hb99 ht99;go_wp2_with fail;refine (kX).mono ?_;rintro e wm ⟨rfl,hwm⟩;subst wm;go_wp2_with fail;go_ret;rw[HRZ.o];exact⟨HM99.o,A99,n99,c99,rfl,HW99.o,HT99.o⟩
 have up:decide (k1+1<=pn)=false:=decide_eq_false tp;have up2:decide ((k1:Int)+1<=(pn:Int))=false:=decide_eq_false aA;have hlt:pn<(L++[a]).length:=by rw[List.length_append,<-HK.o];simp;omega
 obtain⟨y,hy⟩ : ∃y,(L++[a])[pn]? = some y:=⟨_,List.getElem?_eq_getElem hlt⟩;have HOL:Hid (∀y ∈ L++[a],kQ b y):=aB (fun y hy=>by
  rcases List.mem_append.1 hy with hy | hy
  · exact HLO.o y hy
  rw[List.mem_singleton] at hy;subst hy;exact oa)
 have HOY:=aB (HOL.o y (List.mem_of_getElem? hy));have HR2:Hid (res=if (dL y).1.1.op=10 then
        (if (jE F).2=0 then (fO b (d+1) f (jE F).1).bind fun g' f'=>cS (gH b d) (L++[a]) g' f' else .er (jE F).2)
      else .er 24):=aB (by rw[HR1.o,if_neg aA,List.getD_eq_getElem?_getD,hy];rfl)
 obtain⟨bw,ow,rfl,hbw,hmw⟩:=HRW.o.mem aA;obtain⟨A7,n7,c7,hc7,ht7⟩:=hmw pn aA;rw[List.getD_eq_getElem?_getD,List.getElem?_map,hy] at ht7;have HT7:Hid (eM g w6 A7 n7 c7 (aY y)):=aB ht7;have HAP7:=aB (mC HT7.o.gv HOY.o.1.rt);obtain⟨⟨F8,L8⟩,hq8⟩ : ∃q,q=dL y:=⟨_,rfl⟩;unfold pE at HAP7;rw[<-hq8] at HAP7 HR2;simp only at HAP7 HR2;obtain⟨yo,hyo⟩ : ∃z,z=F8.1.op:=⟨_,rfl⟩;have HYO:=aB hyo;have p0:(0:Int)<=(pn:Int):=aA;have p2:(pn:Int)<(k1:Int)+1:=aA;clear hlt hy ht7 hmw hq8 hyo HR1 HAP;go_wp2_with fail;refine (HAP7.o).mono ?_;rintro e w7 ⟨hb7,A8,n8,c8,B8,d8,vs8,rfl,hpc8,_,_⟩;have HT77:=aB (HT7.o.belowG hb7);have htf8:eM g w7 A8 n8 c8 (aY F8):=hpc8 _ _ HT77.o;have hn8:0<n8:=by rw[<-htf8.len];simp[aY]
 obtain⟨bf8,of8,rfl,hbf8,hcf8⟩:=htf8.mem hn8;obtain⟨r0,_,_⟩:=hcf8 0 (by rw[htf8.len];exact hn8);simp only[Nat.zero_mul,Nat.add_zero] at r0;rw[show bD (aY F8) 0=F8.1 from rfl,<-HYO.o] at r0;have HW7:=aB (HW6.o.below hb7);have HX7:=aB (HX6.o.belowG hb7);have HRW7:=aB (HRW.o.movedG (aW.of_below hb7));have zs7:=aS.cell (HS6.o.below hb7 aA);have hs7:=hb7.size;have HM7:Hid (aW (fun q=>q=g) O w w7):=aB (HM6.o.trans (row':=O) (aW.of_below hb7) (fun _ e=>by cases e));clear hpc8 htf8 hcf8 hbf8 hb7;have hfld:∀(w:World) (p q:Value),(Instr.field 83 (.agg #[p,q]) 0).run Tryz.prog w=.ok p w:=fun w p q=>by kernel_rfl
 by_cases t13:yo=10;rotate_left
 · have u13:(yo != 10)=true:=by simpa using t13
   have HRZ:Hid (res=.er 24):=aB (by rw[HR2.o,if_neg (by rw[<-HYO.o];exact t13)]);clear HR2;go_wp2_with fail;rw[HRZ.o];exact⟨rfl,HM7.o,rfl⟩
 have u13:(yo != 10)=false:=by simpa using t13
 have HR3:=aB (HR2.o.trans (if_pos (by rw[<-HYO.o];exact t13)));have HU8:=aB (HUF.o w7 (HPC.o _ _ HX7.o));obtain⟨⟨yu,zu⟩,hyu⟩ : ∃q,q=jE F:=⟨_,rfl⟩;rw[<-hyu] at HU8 HUN HR3;unfold PD at HU8;simp only at HU8 HUN HR3;clear hyu HR2 HUF t13;by_cases h0:zu=0;rotate_left
 · have HRZ:Hid (res=.er zu):=aB (by rw[HR3.o,if_neg h0]);have HZU:=aB h0;clear HR3 HUN h0;go_wp2_with fail;refine (HU8.o).mono ?_;rintro e w8 ⟨hb8,h8⟩;rcases h8 with⟨hz,_⟩ | ⟨_,rfl⟩
   · exact absurd hz HZU.o
   have HM8:Hid (aW (fun q=>q=g) O w w8):=aB (HM7.o.trans (row':=O) (aW.of_below hb8) (fun _ e=>by cases e));clear hb8;go_wp2_with fail;rw[HRZ.o];exact⟨rfl,HM8.o,rfl⟩
 have HFS:=aB (HUN.o h0);have HR4:=aB (HR3.o.trans (if_pos h0));have HZU:=aB h0;have HFU:=aB (fun v1 f1 h=>HFT.o.1 f yu v1 f1 HFS.o h);clear HUN HR3 h0;go_wp2_with fail;refine (HU8.o).mono ?_;rintro e w8 ⟨hb8,h8⟩;rcases h8 with⟨_,A8,n88,c88,rfl,ht8⟩ | ⟨hz,_⟩;rotate_left
 · exact absurd HZU.o hz
 have HT8:Hid (eM g w8 A8 n88 c88 (aY yu)):=aB (ht8.keep fun q hq=>⟨⟨hq.2,by have:=hq.1;omega⟩,fun _=>rfl⟩);have HW8:=aB (HW7.o.below hb8);have HRW8:=aB (HRW7.o.movedG (aW.of_below hb8));have HM8:Hid (aW (fun q=>q=g) O w w8):=aB (HM7.o.trans (row':=O) (aW.of_below hb8) (fun _ e=>by cases e));have HC9:=aB (HE.o w8 f A8 n88 c88 yu hf hf1 HW8.o HT8.o HFS.o);clear hb8 ht8;cases hE9:fO b (d+1) f yu with
 | er z =>
  have HRZ:Hid (res=.er z):=aB (by rw[HR4.o,hE9];rfl);rw[hE9] at HC9;clear hE9 HFU;go_wp2_with fail;refine (HC9.o).mono ?_;rintro e w9 ⟨hm9,he9⟩;simp only at he9;subst he9;have HM9:Hid (aW (fun q=>q=g) O w w9):=aB (HM8.o.trans hm9 (fun _ e=>by cases e));clear hm9;go_wp2_with fail;rw[HRZ.o];exact⟨rfl,HM9.o,rfl⟩
 | ok gg f9 =>
 have HRB:Hid (res=cS (gH b d) (L++[a]) gg f9):=aB (by rw[HR4.o,hE9];rfl);have HFV:=aB (HFU.o gg f9 hE9);have hf9:=HFV.o.2;rw[hE9] at HC9;clear hE9 HFU;go_wp2_with fail;refine (HC9.o).mono ?_;rintro e w9 ⟨hm9,A9,n9,c9,rfl,hw9,ht9⟩;have HM9:Hid (aW (fun q=>q=g) O w w9):=aB (HM8.o.trans hm9 (fun _ e=>by cases e));have HMQ9:=aB hm9;have HW9:=aB hw9;have HT9:=aB ht9;clear hm9 hw9 ht9;have HRW9:=aB (HRW8.o.movedG HMQ9.o);have HC10:=aB (pM HRT.o HHG.o aA aA HW9.o HT9.o HRW9.o HFV.o.1 HOL.o);cases hE10:cS (gH b d) (L++[a]) gg f9 with
 | er z =>
  rw[hE10] at HC10 HRB;clear hE10;go_wp2_with fail;refine (HC10.o).mono ?_;rintro e w10 ⟨hm10,he10⟩;simp only at he10;subst he10;have HM10:Hid (aW (fun q=>q=g) O w w10):=aB (HM9.o.trans hm10 (fun _ e=>by cases e));clear hm10;go_wp2_with fail;rw[HRB.o];exact⟨rfl,HM10.o,rfl⟩
 | ok y10 f10 =>
  rw[hE10] at HC10 HRB;clear hE10;go_wp2_with fail;refine (HC10.o).mono ?_;rintro e w10 ⟨hm10,A10,n10,c10,rfl,hw10,ht10⟩;have HM10:Hid (aW (fun q=>q=g) O w w10):=aB (HM9.o.trans hm10 (fun _ e=>by cases e));have HW10:=aB hw10;have HT10:=aB ht10;clear hm10 hw10 ht10;go_wp2_with fail;go_ret;rw[HRB.o];exact⟨HM10.o,A10,n10,c10,rfl,HW10.o,HT10.o⟩
end Go.Proofs.YtjllmblbbgojbaaGreat
