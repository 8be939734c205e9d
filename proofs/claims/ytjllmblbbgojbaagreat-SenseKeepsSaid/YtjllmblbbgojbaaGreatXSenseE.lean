/- sense: eval, one level deeper. -/
import Derived.Test.YtjllmblbbgojbaaGreatXSenseD
import Derived.Test.YtjllmblbbgojbaaGreatXSenseG
namespace Go.Proofs.YtjllmblbbgojbaaGreat
set_option linter.unusedVariables false
set_option linter.unusedSimpArgs false
open Go.RowKit
open Go.Value renaming int → O
open Go.IntKind renaming i64 → X
open Option renaming none → Y, some → Z
open Go.Lib renaming hid->aB
theorem tM {x p q:TT} (hrt:mB x) (h:x.1.op=6\/x.1.op=5) (hk:cW x.2.2=[p,q]) : ∃e:Nat,jX (aY x) 1=(e:Int)/\1<=e/\e<=(aY x).length/\((aY x).take e).drop 1=aY p/\(aY x).drop e=aY q:=by
 have hat:At (aY x) 1 (ds x.1) x.2.2:=At.first (n:=x.1) (a:=x.2.1) (k:=x.2.2) hrt aA;have hds:ds x.1=[false,false]:=by unfold ds;rw[if_neg aA];rcases h with h | h<;>rw[h]<;>rfl
 rw[hds] at hat;obtain⟨pre1,n1,a1,k1,nx1,e1,s1⟩:=hat.step;obtain⟨pre2,n2,a2,k2,nx2,rfl,s2⟩:=s1.next.step;obtain rfl:=List.eq_nil_of_length_eq_zero (show pre1.length=0 from s1.plen);obtain rfl:=List.eq_nil_of_length_eq_zero (show pre2.length=0 from s2.plen);obtain rfl:=s2.next.done;rw[e1] at hk;simp only[cW,List.cons.injEq,and_true] at hk;obtain⟨rfl,rfl⟩:=hk;have h1:=s1.end_;have h2:=s1.cut;have h3:=s1.le;have h4:=s1.next.rest;simp only[List.length_nil,Nat.add_zero] at h1 h2 h3 h4;refine⟨_,h1,by omega,h3,h2,?_⟩;rw[h4];simp[row,aY]
theorem yH {x p q r:TT} (hrt:mB x) (h:x.1.op=7) (hk:cW x.2.2=[p,q,r]) : ∃e1 e2:Nat,jX (aY x) 1=(e1:Int)/\jX (aY x) (e1:Int)=(e2:Int)/\1<=e1/\e1<=e2/\e2<=(aY x).length/\((aY x).take e2).drop e1=aY q/\(aY x).drop e2=aY r:=by
 have hat:At (aY x) 1 (ds x.1) x.2.2:=At.first (n:=x.1) (a:=x.2.1) (k:=x.2.2) hrt aA;have hds:ds x.1=[false,false,false]:=by unfold ds;rw[if_neg aA,h];rfl
 rw[hds] at hat;obtain⟨pre1,n1,a1,k1,nx1,e1,s1⟩:=hat.step;obtain⟨pre2,n2,a2,k2,nx2,rfl,s2⟩:=s1.next.step;obtain⟨pre3,n3,a3,k3,nx3,rfl,s3⟩:=s2.next.step;obtain rfl:=List.eq_nil_of_length_eq_zero (show pre1.length=0 from s1.plen);obtain rfl:=List.eq_nil_of_length_eq_zero (show pre2.length=0 from s2.plen);obtain rfl:=List.eq_nil_of_length_eq_zero (show pre3.length=0 from s3.plen);obtain rfl:=s3.next.done;rw[e1] at hk;simp only[cW,List.cons.injEq,and_true] at hk;obtain⟨rfl,rfl,rfl⟩:=hk;have h1:=s1.end_;have h3:=s1.le;have i1:=s2.end_;have i2:=s2.cut;have i3:=s2.le;have i4:=s2.next.rest;simp only[List.length_nil,Nat.add_zero] at h1 h3 i1 i2 i3 i4;refine⟨_,_,h1,i1,by omega,by omega,i3,i2,?_⟩;rw[i4];simp[row,aY]
theorem FT {b:Bk} {g:Nat} {w:World} {A B:Option Addr} {n c m k:Nat} {x u:TT} (hg:g<w.heap.size) (hx:eM g w A n c (aY x)) (hu:eM g w B m k (aY u)) (fx:cM b (0+1) x) (fu:cM b 0 u) :
 Calls Tryz.prog 42 #[.slice A n c,.slice B m k,O X 0] w (fun e w'=>Below w.heap.size w w'/\∃A' n' c',e=.returned (.tuple #[.slice A' n' c',O X (cI x u).2])/\((cI x u).2=0->eM g w' A' n' c' (aY (cI x u).1))):=by
 obtain⟨h1,h2,h3⟩:=iT (Int.le_refl 0) aA fx fu;refine (wG hx.gv hu.gv 0 (fun _ _ _=>h1)).mono ?_;rintro e w' ⟨hb,A',n',c',rfl,ho⟩;rw[h2] at ho;refine⟨hb,A',n',c',by rw[h2],fun h0 => ?_⟩;simp only[if_pos h0] at ho;exact PL ho hg (by have:=(h3 h0).few;have e:(aY (cI x u).1).length=cL (cI x u).1:=rfl;omega)
theorem bP.toG {w0 w:World} {g f n c:Nat} {v:bN} {b:Bk} {A:Option Addr} {l:List Nd} (h:bB w0 A n c l) (hw:wT w0 g v b f w):eM g w A n c l :=
 h.keep fun q hq=>⟨⟨Nat.lt_of_lt_of_le hq hw.bel.size,by have:=hw.ge;omega⟩,fun o=>hw.bel.cell (p:=⟨q,o,Y⟩) hq⟩
set_option maxRecDepth 100000 in
set_option maxHeartbeats 8000000 in
theorem DX {w0:World} {g:Nat} {v:bN} {b:Bk} {d:Nat} (hr:cT b=0) (hb:bV w0 v b) (H:PA w0 g v b d) (HG:O3 w0 g v b d):PA w0 g v b (d+1):=by
 intro w f A n c x hf hf1 hw hx fx;rw[iV];have zg:=aS.cell hw.blk;have zf:=hw.blk.frozen;cases f with
 | zero =>
  have hmv:Hid (aW (fun q=>q=g) Y w w):=aB (aW.refl _ _ _);clear hx fx hw H HG hb hr;go_in;go_wp2_with fail;exact⟨rfl,hmv.o,rfl⟩
 | succ m =>
 obtain⟨F,hF⟩ : ∃F:Int,F=((m+1:Nat):Int):=⟨_,rfl⟩;rw[<-hF] at zg;have f0':(F==0)=false:=by rw[beq_eq_false_iff_ne];omega
 have f1:IntKind.i64.wrap (F-1)=(m:Int):=by rw[IntKind.wrap_i64];omega
 obtain⟨hwm,hmv⟩:=hw.fuel m;have HW1:=aB hwm;have HM1:=aB hmv;have HX1:=aB (hx.movedG hmv);have HIV:=aB (pQ (cL x) _ A n c x HX1.o.gv fx.rt (Nat.le_refl _));obtain⟨res,hres⟩ : ∃r,r=i5 b (fO b d) (gH b d) (m+1) x:=⟨_,rfl⟩;rw[<-hres];have hgl:=hw.lt;have HRT:=aB hr;have HB0:=aB hb;have HH:=aB H;have HHG:=aB HG;have hmd:m<d:=aA;have hm1:m<=100000:=aA;have hln:=hx.len;have hn0:0<n:=by rw[<-hln];simp[aY]
 have hcap:=hx.cap;obtain⟨bf,off,rfl,hbf,hc⟩:=HX1.o.mem hn0;obtain⟨d0,d1,d2⟩:=hc 0 (by rw[hln];exact hn0);simp only[Nat.zero_mul,Nat.add_zero] at d0 d1 d2;rw[show bD (aY x) 0=x.1 from rfl] at d0 d1 d2;have hgw1:g<(w.setCell ⟨g,5,Y⟩ (O X (m:Int))).heap.size:=by have:=hmv.size;omega
 cases hv:dC x with
 | true =>
  have HRZ:Hid (res=.ok x m):=aB (by rw[hres];simp only[i5,hv,if_true]);rw[hv] at HIV;clear hv hres hx fx hw H HG hb hr hwm hmv hc hF d0 d1 d2;go_in;go_wp2_with fail;refine (HIV.o).mono ?_;rintro e w2 ⟨rfl,hb2⟩;have HW2:=aB (HW1.o.below hb2);have HM2:Hid (aW (fun q=>q=g) Y w w2):=aB (HM1.o.trans (row':=Y) (aW.of_below hb2) (fun _ e=>by cases e));have HX2:=aB (HX1.o.belowG hb2);clear hb2;go_wp2_with fail;go_ret;rw[HRZ.o];exact⟨HM2.o,_,n,c,rfl,HW2.o,HX2.o⟩
 | false =>
 have HR0:Hid (res=if x.1.op=8 then fO b d m (eY (bJ b x.1.a).body)
  else if x.1.op=7 then (match cW x.2.2 with
   | _::v::bd::_=>(fO b d m v).bind fun u f'=>if (cI bd u).2=0 then fO b d f' (cI bd u).1 else .er (cI bd u).2
   | _=>.er 0)
  else if x.1.op=11 then O6 b (fO b d) (gH b d) m x
  else (match cW x.2.2 with
   | p::q::_=>(fO b d m p).bind fun g f1=>(fO b d f1 q).bind fun a f2=>gH b d f2 g a
   | _=>.er 0)):=aB (by rw[hres];simp only[i5,hv,Bool.false_eq_true,if_false];rfl)
 have HAO:=aB (fun h7 h8 h11=>BV fx hv h7 h8 h11);rw[hv] at HIV;have HFX:=aB fx;have HFT:=aB (i6 (b:=b) hr d);have HC:=aB hc;obtain⟨xo,hxo⟩ : ∃z,z=x.1.op:=⟨_,rfl⟩;obtain⟨xa,hxa⟩ : ∃z,z=x.1.a:=⟨_,rfl⟩;obtain⟨xb,hxb⟩ : ∃z,z=x.1.b:=⟨_,rfl⟩;have HXO:=aB hxo;have HXA:=aB hxa;clear hv hres hx fx hw H HG hb hr hwm hmv hF hc hxo hxa hxb d0 d1 d2;go_in;go_wp2_with fail;refine (HIV.o).mono ?_;rintro e w2 ⟨rfl,hb2⟩;have hs2:=hb2.size;have HW2:=aB (HW1.o.below hb2);have HM2:Hid (aW (fun q=>q=g) Y w w2):=aB (HM1.o.trans (row':=Y) (aW.of_below hb2) (fun _ e=>by cases e));have HX2:=aB (HX1.o.belowG hb2);obtain⟨d0,d1,d2⟩:=HC.o 0 (by rw[hln];exact hn0);simp only[Nat.zero_mul,Nat.add_zero] at d0 d1 d2;rw[show bD (aY x) 0=x.1 from rfl] at d0 d1 d2;have d0':=(hb2.cell (p:=⟨bf,off,Y⟩) hbf.1).trans d0;have d1':=(hb2.cell (p:=⟨bf,off+1,Y⟩) hbf.1).trans d1;have d2':=(hb2.cell (p:=⟨bf,off+2,Y⟩) hbf.1).trans d2;rw[<-HXO.o] at d0';rw[<-HXA.o] at d1';generalize x.1.b=xb' at d2';have HB3:=aB (aP w2 (.cells #[O X xo,O X xa,O X xb'] 40));have HN3:=aB (aS.new w2 40 #[O X xo,O X xa,O X xb']);have zn3:=aS.cell HN3.o;clear hb2 d0 d1 d2 hbf zg zf f0' f1;go_upto_region 8 with fail
 obtain⟨w3,hw3e⟩ : ∃w3:World,w3=w2.alloc (.cells #[O X xo,O X xa,O X xb'] 40):=⟨_,rfl⟩;rw[<-hw3e] at HB3 HN3 zn3 ⊢;clear hw3e;have hw23:w2.heap.size<w3.heap.size:=HN3.o.lt;have HW3:=aB (HW2.o.below HB3.o);have HM3:Hid (aW (fun q=>q=g) Y w w3):=aB (HM2.o.trans (row':=Y) (aW.of_below HB3.o) (fun _ e=>by cases e));have HX3:=aB (HX2.o.belowG HB3.o);by_cases t8:xo=8
 · have u8:decide (xo=8)=true:=decide_eq_true t8;have h8:x.1.op=8:=by rw[<-HXO.o];exact t8
   have hn:=HFX.o.nod x.1 (by simp[aY]);have ha:0<=x.1.a:=by have hok:=HFX.o.okt.ok;simp only[eE,Bool.and_eq_true] at hok;exact (fK hok.1.1).1
   unfold bZ at hn;rw[if_neg aA,if_pos h8,Bool.and_eq_true,decide_eq_true_eq,beq_iff_eq] at hn;obtain⟨hy1,hy2⟩:=lO (rY HRT.o ha hn.1 hn.2);have HRZ:Hid (res=fO b d m (eY (bJ b x.1.a).body)):=aB (by rw[HR0.o,if_pos h8]);obtain⟨ia,hia⟩ : ∃ia:Nat,xa=(ia:Int):=⟨x.1.a.toNat,by rw[HXA.o];omega⟩;have hxi:x.1.a=(ia:Int):=by rw[<-HXA.o];exact hia
   rw[hxi] at HRZ hy1 hy2 hn;have hle:=HB0.o.entries.len;obtain⟨be,oe,hAe,hbe,⟨As,ns,cs,Ap,np,cp,Ai,ni,ci,Ac,nc,cc,At,nt,ct,Ab,nb,cb⟩,_,_,_,_,_,_,c6,hec⟩:=HB0.o.entries.at_ (k:=ia) aA;have hen:bJ b (ia:Int)=b.entries.getD ia default:=by unfold bJ;rw[Int.toNat_natCast]
   rw[<-hen] at hec;have hbd:=hec.body;rw[hy1] at hbd;simp only at hbd c6;obtain⟨y,hy⟩ : ∃y,y=eY (bJ b (ia:Int)).body:=⟨_,rfl⟩;rw[<-hy] at hbd HRZ hy2;have hbel3:=HW3.o.bel;have hge3:=HW3.o.ge;have HBD:Hid (eM g w3.drew Ab nb cb (aY y)):=aB (bP.movedG (bP.toG hbd HW3.o) (aW.refl _ _ _).drew);have zg3:=aS.cell HW3.o.blk;rw[hAe] at zg3;have c63:=(hbel3.cell (p:=⟨be,oe+ia*7+6,Y⟩) hbe).trans c6;have hi1:(0:Int)<=(ia:Int):=aA;have hi2:(ia:Int)<(v.ne:Int):=aA;have hbe3:be<w3.heap.size:=by have:=hbel3.size;omega
   have hbeg:be ≠ g:=aA;have HC4:=aB (HH.o w3.drew m Ab nb cb y hmd hm1 HW3.o.drew HBD.o hy2);subst hia;have hAe2:v.Ae=Z ⟨be,oe,Y⟩:=hAe;clear hn ha hy1 hy2 hy hec hbd hen hxi c6 hle hAe h8;cases hE4:fO b d m y with
   | er z =>
    rw[hE4] at HC4 HRZ;clear hE4;go_upto_region 9 with fail
    refine wp_region_held_drew (S:=(fun w'=>w'.cell? ⟨g,2,Y⟩=Z (.slice (Z ⟨be,oe,Y⟩) v.ne v.ce)/\w'.cell? ⟨w2.heap.size,1,Y⟩=Z (O X (ia:Int))/\w'.cell? ⟨be,oe+ia*7+6,Y⟩=Z (.slice Ab nb cb))) aC ?_ (fun hZ => ?_)
    · (try dsimp only);exact⟨zg3 2,zn3 1,c63⟩
    refine aL 0 hZ ?_;refine aL 1 hZ ?_;refine aL 2 hZ ?_;refine aL 3 hZ ?_;refine aL 4 hZ ?_;refine aL 5 hZ ?_;refine aL 6 hZ ?_;refine aL 7 hZ ?_;refine aL 8 hZ ?_;refine aL 9 hZ ?_;refine aL 10 hZ ?_;refine r1 11 fun K hK => ?_;go_simp;refine (HC4.o).mono ?_;rintro e w4 ⟨hm4,he4⟩;simp only at he4;subst he4;have HM4:Hid (aW (fun q=>q=g) Y w w4):=aB (HM3.o.drew.trans hm4 (fun _ e=>by cases e));clear hm4;go_wp2_with fail;rw[HRZ.o];exact⟨rfl,HM4.o,rfl⟩
   | ok y4 f4 =>
    rw[hE4] at HC4 HRZ;clear hE4;go_upto_region 9 with fail
    refine wp_region_held_drew (S:=(fun w'=>w'.cell? ⟨g,2,Y⟩=Z (.slice (Z ⟨be,oe,Y⟩) v.ne v.ce)/\w'.cell? ⟨w2.heap.size,1,Y⟩=Z (O X (ia:Int))/\w'.cell? ⟨be,oe+ia*7+6,Y⟩=Z (.slice Ab nb cb))) aC ?_ (fun hZ => ?_)
    · (try dsimp only);exact⟨zg3 2,zn3 1,c63⟩
    refine aL 0 hZ ?_;refine aL 1 hZ ?_;refine aL 2 hZ ?_;refine aL 3 hZ ?_;refine aL 4 hZ ?_;refine aL 5 hZ ?_;refine aL 6 hZ ?_;refine aL 7 hZ ?_;refine aL 8 hZ ?_;refine aL 9 hZ ?_;refine aL 10 hZ ?_;refine r1 11 fun K hK => ?_;go_simp;refine (HC4.o).mono ?_;rintro e w4 ⟨hm4,A4,n4,c4,rfl,hw4,ht4⟩;have HM4:Hid (aW (fun q=>q=g) Y w w4):=aB (HM3.o.drew.trans hm4 (fun _ e=>by cases e));have zg4:=aS.cell hw4.blk;rw[hAe2] at zg4;have hmv4:∀q o:Nat,q<w3.heap.size->q ≠ g->w4.cell? ⟨q,o,Y⟩=w3.cell? ⟨q,o,Y⟩:=fun q o h1 h2=>aU (hm4.block q h1 h2 aD) o;have HW4:=aB hw4;have HT4:=aB ht4;clear hm4 hw4 ht4;go_wp2_with fail;refine hK.o _ _ (by exact⟨zg4 2,(hmv4 _ 1 hw23 aA).trans (zn3 1),(hmv4 _ (oe+ia*7+6) hbe3 hbeg).trans c63⟩) fun hZ => ?_;clear hK K;try simp only[p7]
    refine aL 12 hZ ?_;refine wpAnyH_done aC ?_ _;go_wp2_with fail;go_ret;rw[HRZ.o];exact⟨HM4.o,A4,n4,c4,rfl,HW4.o,HT4.o⟩
 have u8:decide (xo=8)=false:=decide_eq_false t8;by_cases t7:xo=7
 · have u7:decide (xo=7)=true:=decide_eq_true t7;have h7:x.1.op=7:=by rw[<-HXO.o];exact t7
   obtain⟨p,q,r,hk⟩:=nN HFX.o.okt h7;obtain⟨e1,e2,he1,he2,h1e,h12,h2n,hq,hr'⟩:=yH HFX.o.rt h7 hk;rw[hln] at h2n;have HRA:Hid (res=(fO b d m q).bind fun u f'=>if (cI r u).2=0 then fO b d f' (cI r u).1 else .er (cI r u).2):=aB (by rw[HR0.o,if_neg aA,if_pos h7,hk]);have HFQ:Hid (cM b 0 q):=aB (HFX.o.kid0 (i:=1) (by rw[hk];rfl) (by rw[h7];simp[aQ]));have HFR:Hid (cM b (0+1) r):=aB (by
    have:=HFX.o.kid (i:=2) (y:=r) (by rw[hk];rfl)
    rwa [show aQ x.1.op x.1.b ((2:Nat):Int)=1 from by rw[h7];simp[aQ]] at this)
   have HE1:=aB (iA HX3.o.gv 1);have HE2:=aB (fun (w':World) (hb:Below w3.heap.size w3 w')=>iA (HX3.o.gv.below hb) (e1:Int));rw[he1] at HE1;rw[he2] at HE2;obtain⟨Am,hm,hmr⟩:=mD (Z ⟨bf,off,Y⟩) n c e1 e2 h12 h2n hcap;obtain⟨Af,hf_,hfr⟩:=jJ (Z ⟨bf,off,Y⟩) n c e2 h2n;have HQ:=aB (fun (w':World) (h:eM g w' (Z ⟨bf,off,Y⟩) n c (aY x))=>hmr _ _ _ h);have HRR:=aB (fun (w':World) (h:eM g w' (Z ⟨bf,off,Y⟩) n c (aY x))=>hfr _ _ _ h);rw[hq] at HQ;rw[hr'] at HRR;have HFU:=aB (fun v1 f1 h=>HFT.o.1 m q v1 f1 HFQ.o h);clear he1 he2 h1e hq hr' hmr hfr hk h7 t8;go_wp2_with fail;refine (HE1.o).mono ?_;rintro e w4 ⟨rfl,hb4⟩;have HB4:=aB hb4;clear hb4;go_wp2_with fail;refine (HE2.o w4 HB4.o).mono ?_;rintro e w5 ⟨rfl,hb5⟩;have HB5:=dA HB4 hb5;have HW5:=aB (HW3.o.below HB5.o);have HX5:=aB (HX3.o.belowG HB5.o);have HM5:Hid (aW (fun q=>q=g) Y w w5):=aB (HM3.o.trans (row':=Y) (aW.of_below HB5.o) (fun _ e=>by cases e));have HC6:=aB (HH.o w5 m Am (e2-e1) (c-e1) q hmd hm1 HW5.o (HQ.o w5 HX5.o) HFQ.o);clear hb5;cases hE6:fO b d m q with
   | er z =>
    have HRZ:Hid (res=.er z):=aB (by rw[HRA.o,hE6];rfl);rw[hE6] at HC6;clear hE6 HFU;go_wp2_with fail;refine (HC6.o).mono ?_;rintro e w6 ⟨hm6,he6⟩;simp only at he6;subst he6;have HM6:Hid (aW (fun q=>q=g) Y w w6):=aB (HM5.o.trans hm6 (fun _ e=>by cases e));clear hm6;go_wp2_with fail;rw[HRZ.o];exact⟨rfl,HM6.o,rfl⟩
   | ok u f6 =>
    have HRB:Hid (res=if (cI r u).2=0 then fO b d f6 (cI r u).1 else .er (cI r u).2):=aB (by rw[HRA.o,hE6];rfl);have HFV:=aB (HFU.o u f6 hE6);have hf6:=HFV.o.2;rw[hE6] at HC6;clear hE6 HFU;go_wp2_with fail;refine (HC6.o).mono ?_;rintro e w6 ⟨hm6,A6,n6,c6,rfl,hw6,ht6⟩;have HM6:Hid (aW (fun q=>q=g) Y w w6):=aB (HM5.o.trans hm6 (fun _ e=>by cases e));have HMQ6:=aB hm6;have HW6:=aB hw6;have HT6:=aB ht6;clear hm6 hw6 ht6;have HX6:=aB (HX5.o.movedG HMQ6.o);have HS7:=aB (FT (b:=b) HW6.o.lt (HRR.o w6 HX6.o) HT6.o HFR.o HFV.o.1.1);have HSF:=aB (iT (Int.le_refl 0) aA HFR.o HFV.o.1.1).2.2;obtain⟨⟨y7,z7⟩,hy7⟩ : ∃q,q=cI r u:=⟨_,rfl⟩;rw[<-hy7] at HS7 HSF HRB;simp only at HS7 HSF HRB;clear hy7;by_cases h0:z7=0
    · subst h0;rw[if_pos rfl] at HRB;have HFS:=aB (HSF.o rfl);clear HSF;go_wp2_with fail;refine (HS7.o).mono ?_;rintro e w7 ⟨hb7,A7,n7,c7,rfl,ht7⟩;have HT7:=aB (by first | exact ht7 rfl | exact ht7 trivial);have HB7:=aB hb7;have HW7:=aB (HW6.o.below hb7);have HM7:Hid (aW (fun q=>q=g) Y w w7):=aB (HM6.o.trans (row':=Y) (aW.of_below HB7.o) (fun _ e=>by cases e));clear hb7 ht7;go_wp2_with fail;refine (kX).mono ?_;rintro e wm ⟨rfl,hwm⟩;subst wm;have HC8:=aB (HH.o w7 f6 A7 n7 c7 y7 aA aA HW7.o HT7.o HFS.o);cases hE8:fO b d f6 y7 with
      | er z =>
       rw[hE8] at HC8 HRB;clear hE8;go_wp2_with fail;refine (HC8.o).mono ?_;rintro e w8 ⟨hm8,he8⟩;simp only at he8;subst he8;have HM8:Hid (aW (fun q=>q=g) Y w w8):=aB (HM7.o.trans hm8 (fun _ e=>by cases e));clear hm8;go_wp2_with fail;rw[HRB.o];exact⟨rfl,HM8.o,rfl⟩
      | ok y8 f8 =>
       rw[hE8] at HC8 HRB;clear hE8;go_wp2_with fail;refine (HC8.o).mono ?_;rintro e w8 ⟨hm8,A8,n8,c8,rfl,hw8,ht8⟩;have HM8:Hid (aW (fun q=>q=g) Y w w8):=aB (HM7.o.trans hm8 (fun _ e=>by cases e));have HW8:=aB hw8;have HT8:=aB ht8;clear hm8 hw8 ht8;go_wp2_with fail;go_ret;rw[HRB.o];exact⟨HM8.o,A8,n8,c8,rfl,HW8.o,HT8.o⟩
    · have HRZ:Hid (res=.er z7):=aB (by rw[HRB.o,if_neg h0]);have HZ7:=aB h0;clear HSF HRB h0;go_wp2_with fail;refine (HS7.o).mono ?_;rintro e w7 ⟨hb7,A7,n7,c7,rfl,ht7⟩;have HM7:Hid (aW (fun q=>q=g) Y w w7):=aB (HM6.o.trans (row':=Y) (aW.of_below hb7) (fun _ e=>by cases e));clear hb7 ht7;go_wp2_with fail;refine (mH HZ7.o).mono ?_;rintro e wm ⟨rfl,hwm⟩;subst wm;go_wp2_with fail;rw[HRZ.o];exact⟨rfl,HM7.o,rfl⟩
 have u7:decide (xo=7)=false:=decide_eq_false t7;by_cases t11:xo=11
 · have u11:decide (xo=11)=true:=decide_eq_true t11;have h11:x.1.op=11:=by rw[<-HXO.o];exact t11
   have HRZ:Hid (res=O6 b (fO b d) (gH b d) m x):=aB (by rw[HR0.o,if_neg aA,if_neg aA,if_pos h11]);have HC4:=aB (D0 HRT.o HB0.o HH.o HHG.o hmd hm1 HW3.o HX3.o HFX.o h11);clear h11 t8 t7;cases hE4:O6 b (fO b d) (gH b d) m x with
   | er z =>
    rw[hE4] at HC4 HRZ;clear hE4;go_wp2_with fail;refine (HC4.o).mono ?_;rintro e w4 ⟨hm4,he4⟩;simp only at he4;subst he4;have HM4:Hid (aW (fun q=>q=g) Y w w4):=aB (HM3.o.trans hm4 (fun _ e=>by cases e));clear hm4;go_wp2_with fail;rw[HRZ.o];exact⟨rfl,HM4.o,rfl⟩
   | ok y4 f4 =>
    rw[hE4] at HC4 HRZ;clear hE4;go_wp2_with fail;refine (HC4.o).mono ?_;rintro e w4 ⟨hm4,A4,n4,c4,rfl,hw4,ht4⟩;have HM4:Hid (aW (fun q=>q=g) Y w w4):=aB (HM3.o.trans hm4 (fun _ e=>by cases e));have HW4:=aB hw4;have HT4:=aB ht4;clear hm4 hw4 ht4;go_wp2_with fail;go_ret;rw[HRZ.o];exact⟨HM4.o,A4,n4,c4,rfl,HW4.o,HT4.o⟩
 have u11:decide (xo=11)=false:=decide_eq_false t11;have h6:x.1.op=6:=HAO.o (by rw[<-HXO.o];exact t7) (by rw[<-HXO.o];exact t8) (by rw[<-HXO.o];exact t11);obtain⟨p,q,hk⟩:=kG HFX.o.okt (Or.inl h6);obtain⟨e1,he1,h1e,h1n,hp,hq⟩:=tM HFX.o.rt (Or.inl h6) hk;rw[hln] at h1n;have hz:∀k:Int,aQ x.1.op x.1.b k=0:=eO aA aA aA aA;have HRA:Hid (res=(fO b d m p).bind fun g f1=>(fO b d f1 q).bind fun a f2=>gH b d f2 g a):=aB (by rw[HR0.o,if_neg aA,if_neg aA,if_neg aA,hk]);have HFP:Hid (cM b 0 p):=aB (HFX.o.kid0 (i:=0) (by rw[hk];rfl) (hz _));have HFQ:Hid (cM b 0 q):=aB (HFX.o.kid0 (i:=1) (by rw[hk];rfl) (hz _));have HE1:=aB (iA HX3.o.gv 1);rw[he1] at HE1;obtain⟨Am,hm,hmr⟩:=mD (Z ⟨bf,off,Y⟩) n c 1 e1 h1e h1n hcap;obtain⟨Af,hf_,hfr⟩:=jJ (Z ⟨bf,off,Y⟩) n c e1 h1n;have hm' : ∀w:World,(Instr.slice 28 (.slice (Z ⟨bf,off,Y⟩) n c) (Z (O X 1)) (Z (O X (e1:Int))) Y).run Tryz.prog w=.ok (.slice Am (e1-1) (c-1)) w:=fun w=>hm w;have HP:=aB (fun (w':World) (h:eM g w' (Z ⟨bf,off,Y⟩) n c (aY x))=>hmr _ _ _ h);have HQ:=aB (fun (w':World) (h:eM g w' (Z ⟨bf,off,Y⟩) n c (aY x))=>hfr _ _ _ h);rw[hp] at HP;rw[hq] at HQ;have HFU:=aB (fun v1 f1 h=>HFT.o.1 m p v1 f1 HFP.o h);clear he1 h1e hp hq hmr hfr hk hz h6 hm HAO;go_wp2_with fail;refine (HE1.o).mono ?_;rintro e w5 ⟨rfl,hb5⟩;have HW5:=aB (HW3.o.below hb5);have HX5:=aB (HX3.o.belowG hb5);have HM5:Hid (aW (fun q=>q=g) Y w w5):=aB (HM3.o.trans (row':=Y) (aW.of_below hb5) (fun _ e=>by cases e));have HC6:=aB (HH.o w5 m Am (e1-1) (c-1) p hmd hm1 HW5.o (HP.o w5 HX5.o) HFP.o);clear hb5;cases hE6:fO b d m p with
 | er z =>
  have HRZ:Hid (res=.er z):=aB (by rw[HRA.o,hE6];rfl);rw[hE6] at HC6;clear hE6 HFU;go_wp2_with fail;refine (HC6.o).mono ?_;rintro e w6 ⟨hm6,he6⟩;simp only at he6;subst he6;have HM6:Hid (aW (fun q=>q=g) Y w w6):=aB (HM5.o.trans hm6 (fun _ e=>by cases e));clear hm6;go_wp2_with fail;rw[HRZ.o];exact⟨rfl,HM6.o,rfl⟩
 | ok u f6 =>
 have HRB:Hid (res=(fO b d f6 q).bind fun a f2=>gH b d f2 u a):=aB (by rw[HRA.o,hE6];rfl);have HFV:=aB (HFU.o u f6 hE6);have hf6:=HFV.o.2;rw[hE6] at HC6;clear hE6 HFU;go_wp2_with fail;refine (HC6.o).mono ?_;rintro e w6 ⟨hm6,A6,n6,c6,rfl,hw6,ht6⟩;have HM6:Hid (aW (fun q=>q=g) Y w w6):=aB (HM5.o.trans hm6 (fun _ e=>by cases e));have HMQ6:=aB hm6;have HW6:=aB hw6;have HT6:=aB ht6;clear hm6 hw6 ht6;have HX6:=aB (HX5.o.movedG HMQ6.o);have HFU:=aB (fun v1 f1 h=>HFT.o.1 f6 q v1 f1 HFQ.o h);have HC7:=aB (HH.o w6 f6 Af (n-e1) (c-e1) q aA aA HW6.o (HQ.o w6 HX6.o) HFQ.o);cases hE7:fO b d f6 q with
 | er z =>
  have HRZ:Hid (res=.er z):=aB (by rw[HRB.o,hE7];rfl);rw[hE7] at HC7;clear hE7 HFU;go_wp2_with fail;refine (HC7.o).mono ?_;rintro e w7 ⟨hm7,he7⟩;simp only at he7;subst he7;have HM7:Hid (aW (fun q=>q=g) Y w w7):=aB (HM6.o.trans hm7 (fun _ e=>by cases e));clear hm7;go_wp2_with fail;rw[HRZ.o];exact⟨rfl,HM7.o,rfl⟩
 | ok a f7 =>
 have HRC:Hid (res=gH b d f7 u a):=aB (by rw[HRB.o,hE7];rfl);have HFW:=aB (HFU.o a f7 hE7);have hf7:=HFW.o.2;rw[hE7] at HC7;clear hE7 HFU;go_wp2_with fail;refine (HC7.o).mono ?_;rintro e w7 ⟨hm7,A7,n7,c7,rfl,hw7,ht7⟩;have HM7:Hid (aW (fun q=>q=g) Y w w7):=aB (HM6.o.trans hm7 (fun _ e=>by cases e));have HMQ7:=aB hm7;have HW7:=aB hw7;have HT7:=aB ht7;clear hm7 hw7 ht7;have HT67:=aB (HT6.o.movedG HMQ7.o);have HC8:=aB (HHG.o w7 f7 A6 n6 c6 A7 n7 c7 u a aA aA HW7.o HT67.o HT7.o HFV.o.1 HFW.o.1);cases hE8:gH b d f7 u a with
 | er z =>
  rw[hE8] at HC8 HRC;clear hE8;go_wp2_with fail;refine (HC8.o).mono ?_;rintro e w8 ⟨hm8,he8⟩;simp only at he8;subst he8;have HM8:Hid (aW (fun q=>q=g) Y w w8):=aB (HM7.o.trans hm8 (fun _ e=>by cases e));clear hm8;go_wp2_with fail;rw[HRC.o];exact⟨rfl,HM8.o,rfl⟩
 | ok y8 f8 =>
  rw[hE8] at HC8 HRC;clear hE8;go_wp2_with fail;refine (HC8.o).mono ?_;rintro e w8 ⟨hm8,A8,n8,c8,rfl,hw8,ht8⟩;have HM8:Hid (aW (fun q=>q=g) Y w w8):=aB (HM7.o.trans hm8 (fun _ e=>by cases e));have HW8:=aB hw8;have HT8:=aB ht8;clear hm8 hw8 ht8;go_wp2_with fail;go_ret;rw[HRC.o];exact⟨HM8.o,A8,n8,c8,rfl,HW8.o,HT8.o⟩
end Go.Proofs.YtjllmblbbgojbaaGreat
