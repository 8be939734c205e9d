/- Merged: RvA, RvV. -/
import Derived.Test.YtjllmblbbgojbaaGreatXRaise
namespace Go.Proofs.YtjllmblbbgojbaaGreat
set_option linter.unusedVariables false
set_option linter.unusedSimpArgs false
open Go.RowKit
open Go.Value renaming int → O, slice → X
open Go.IntKind renaming i64 → S
open Option renaming none → Y
open Go.Obj renaming cells → Z
section
open Go.Lib renaming hid->aB
def NU (R:Nat->Prop) (w:World) (q:TT×List TT) (e:Ending) (w':World):Prop:=Below w.heap.size w w'/\∃(t':iL) (B:Option Addr) (d:Nat),e=.returned (.tuple #[.agg (eD t' q.1.1),X B q.2.length d])/\dJ R w' t' q.1/\fN (aZ R w w') w' B q.2.length d (mE q.2)/\(B=Y->d=0)
theorem s7 {w:World} {g:Nat} {c0 c1 c2 c3 c4 c5:Value} {tmps:Array Value} (h:aS w g 49 #[c0,c1,c2,c3,c4,c5]) (ht:tmps.getD 2 undef=.pointer (some ⟨g,0,Y⟩)) :
 (results Tryz.f39 tmps).run Tryz.prog w=.ok (.tuple #[.agg #[c0,c1,c2,c3,c4,c5],tmps.getD 3 undef]) w:=by
 have hc:=h.cell;have ht':tmps[2]?.getD undef=.pointer (some ⟨g,0,Y⟩):=by rw[<-ht];simp
 simp[results,Tryz.results39,go_sem,ht',hc]
set_option maxRecDepth 100000 in
set_option maxHeartbeats 8000000 in
theorem gV {w:World} {R:Nat->Prop} {t:iL} {x:TT} (hR:∀b,R b->b<w.heap.size) (ht:dJ R w t x) (hx:mB x) :
 Calls Tryz.prog 39 #[.agg (eD t x.1)] w (NU R w (dL x)):=by
 obtain⟨Hd,L,hHL⟩ : ∃Hd L,dL x=(Hd,L):=⟨_,_,rfl⟩;have HR:=aB hR;have HTX:=aB ht;have HRX:=aB hx;have HDL:=aB hHL;rw[hHL];have hx4:cL x<=4096:=Rt.few hx;obtain⟨i0,hi,hy0,hy1,hy2⟩:=info_parts Tryz.infoT;have HI0:=aB hi;have HY0:=aB hy0;have HY1:=aB hy1;have HY2:=aB hy2;obtain⟨⟨op,va,vb⟩,ats,k⟩:=x;obtain⟨Ak,nk,ck,Aa,na,ca,Af,nf,cf⟩:=t;have HB1:=aB (aP w (Z #[O S op,O S va,O S vb,X Ak nk ck,X Aa na ca,X Af nf cf] 49));have HB2:=aB (HB1.o.alloc HB1.o.size (Z #[O S 0,O S 0,O S 0,X Y 0 0,X Y 0 0,X Y 0 0] 49));have HK1:Hid (aS ((w.alloc (Z #[O S op,O S va,O S vb,X Ak nk ck,X Aa na ca,X Af nf cf] 49)).alloc (Z #[O S 0,O S 0,O S 0,X Y 0 0,X Y 0 0,X Y 0 0] 49)) w.heap.size 49 #[O S op,O S va,O S vb,X Ak nk ck,X Aa na ca,X Af nf cf]):=aB ((aS.new _ _ _).alloc _);have HK2:Hid (aS ((w.alloc (Z #[O S op,O S va,O S vb,X Ak nk ck,X Aa na ca,X Af nf cf] 49)).alloc (Z #[O S 0,O S 0,O S 0,X Y 0 0,X Y 0 0,X Y 0 0] 49)) (w.heap.size+1) 49 #[O S 0,O S 0,O S 0,X Y 0 0,X Y 0 0,X Y 0 0]):=aB (aS.new' aD);clear hi hy0 hy1 hy2 hR ht hx hHL;go_in;go_wp2_with fail;go_loopw [4] (fun av wr=>∃(j d:Nat) (B:Option Addr) (G:List TT) (vs:List Value) (t':iL) (x':TT),av=X B j d/\cL x'+j<=4096/\G.length=j/\Hid (mB x')/\Hid ((dL x').1=Hd/\(dL x').2++G=L)/\Hid (dJ R w t' x')/\Hid (aS wr w.heap.size 49 (eD t' x'.1))/\Hid (aS wr (w.heap.size+1) 49 #[O S 0,O S 0,O S 0,X Y 0 0,X Y 0 0,X Y 0 0])/\Hid (wr.ownsRow (w.heap.size+2) 49 6 (X B j d) j vs)/\Hid (jW R w (mE G) vs)/\Hid (Below w.heap.size w wr)) (fun av _=>4096-EU av)
 case atStart=>exact⟨0,0,Y,[],[],⟨Ak,nk,ck,Aa,na,ca,Af,nf,cf⟩,(⟨op,va,vb⟩,ats,k),rfl,by omega,rfl,HRX,aB (by rw[HDL.o];exact⟨rfl,by simp⟩),HTX,HK1,HK2,aB (World.ownsRow_nil _ _ _ _),aB rfl,HB2⟩
 case round =>
  clear HK1 HK2 HB1 HB2 HTX HRX HDL;obtain⟨j,d,B,G,vs,t',x',rfl,hszj,hfl,hrt,hhd,htw,hkf,hkz,hown,hfoc,hbw⟩:=hrel;have hbl:=hkz.o.lt;by_cases h6:x'.1.op=6;rotate_left
  · have hh1:=hhd.o;rw[lQ h6] at hh1;obtain⟨hh1,hh2⟩:=hh1;try simp only[List.nil_append] at hh1 hh2
    subst hh1;subst hh2;have h6b:(x'.1.op==6)=false:=by simpa using h6
    obtain⟨⟨o9,va9,vb9⟩,a9,k9⟩:=x';obtain⟨Ak9,nk9,ck9,Aa9,na9,ca9,Af9,nf9,cf9⟩:=t';simp only at h6 h6b hkf;have zk:=aS.cell hkf.o;try simp only at zk
    have zz:=aS.cell hkz.o;have zf:=aS.frozen hkz.o;subst hfl;clear h6 hrt hhd hszj;go_wp2_with fail;have hg6:=dQ wr (w.heap.size+1) (O S o9) (O S va9) (O S vb9) (X Ak9 nk9 ck9) (X Aa9 na9 ca9) (X Af9 nf9 cf9);have hbf:=hbw.o.grown hg6 (by have:=hbw.o.size;omega) (fun q hq=>by injection hq with hq;omega);have hof:=World.ownsRow.kept hown.o hg6 (.inr (fE hown.o (show w.heap.size+1<w.heap.size+2 by omega)).symm);refine bodyPost_ret (v:=.tuple #[.agg #[O S o9,O S va9,O S vb9,X Ak9 nk9 ck9,X Aa9 na9 ca9,X Af9 nf9 cf9],X B G.length d]) (s7 (bK hkz.o _ _ _ _ _ _) aD) rfl ?_;refine⟨hbf,⟨Ak9,nk9,ck9,Aa9,na9,ca9,Af9,nf9,cf9⟩,B,d,rfl,htw.o.below HR.o hbf,?_,fun e=>FA hown.o e⟩;obtain⟨A',n',c',e,h⟩:=fY (by rw[iW];exact hof) (jW.keep (R':=aZ R w _) (fun b hb=>⟨Or.inl hb,fun o=>hbf.cell (p:=⟨b,o,Y⟩) (HR.o b hb)⟩) _ _ hfoc.o) (fun g hg=>Or.inr ⟨by have:=(aR hof hg).1;omega,(aR hof hg).2.1⟩);injection e with e1 e2 e3;subst e1 e2 e3;exact h
  obtain⟨n9,a9,k9⟩:=x';obtain⟨n1,a1,k1,n2,a2,k2,rfl,rfl,hs1,hs2,_,_⟩:=I2 hrt.o (.inr (.inr h6));have hnk:t'.nk=2:=htw.o.nk;obtain⟨b0,o0,t1,hA,hb0,hc1,ht1⟩:=htw.o.kid (j:=0) aA;obtain⟨b0',o0',t2,hA',hb0',hc2,ht2⟩:=htw.o.kid (j:=1) aA;obtain⟨rfl,rfl⟩:b0=b0'/\o0=o0':=by rw[hA] at hA';injection hA' with e;injection e with e1 e2;exact⟨e1,e2⟩
  have hb0:=HR.o _ hb0;clear hA' hb0';simp only at hc1 ht1 hc2 ht2 hA;rw[show dY (Fo.cons [] n1 a1 k1 (Fo.cons [] n2 a2 k2 Fo.nil)) 0=(n1,a1,k1) from rfl] at hc1 ht1;rw[show dY (Fo.cons [] n1 a1 k1 (Fo.cons [] n2 a2 k2 Fo.nil)) 1=(n2,a2,k2) from rfl] at hc2 ht2;rw[Nat.zero_mul,Nat.add_zero] at hc1;rw[Nat.one_mul] at hc2;have hsz1:cL (n1,a1,k1)<cL (n9,[],Fo.cons [] n1 a1 k1 (Fo.cons [] n2 a2 k2 Fo.nil)):=OY.1;have hsj:cL (n1,a1,k1)+(1+j)<=4096:=aA;have hj4:j<=4096:=aA;have hhd2:=hhd.o;rw[oN h6] at hhd2;have HHD:Hid ((dL (n1,a1,k1)).1=Hd/\(dL (n1,a1,k1)).2++((n2,a2,k2)::G)=L):=aB ⟨hhd2.1,by rw[<-hhd2.2];simp⟩;obtain⟨Ak9,nk9,ck9,Aa9,na9,ca9,Af9,nf9,cf9⟩:=t';obtain⟨Ak1,nk1,ck1,Aa1,na1,ca1,Af1,nf1,cf1⟩:=t1;obtain⟨Ak2,nk2,ck2,Aa2,na2,ca2,Af2,nf2,cf2⟩:=t2;simp only at hnk hA h6 hkf;subst hnk;subst hA;obtain⟨o9,va9,vb9⟩:=n9;simp only at h6 hkf;subst h6;have HH1:=aB (fun (w':World) (h:Below w.heap.size w w')=>hc1.below h hb0);obtain⟨z0,z1,z2,z3,z4,z5⟩:=hc2.below hbw.o hb0;try simp only at z0 z1 z2 z3 z4 z5
  have zk:=aS.cell hkf.o;try simp only at zk
  have HLIT:Hid ((wr.alloc (Z #[O S n2.op,O S n2.a,O S n2.b,X Ak2 nk2 ck2,X Aa2 na2 ca2,X Af2 nf2 cf2] 49)).ownsRow (w.heap.size+2) 49 6 (X (some ⟨wr.heap.size,0,Y⟩) 1 1) 1 [O S n2.op,O S n2.a,O S n2.b,X Ak2 nk2 ck2,X Aa2 na2 ca2,X Af2 nf2 cf2]):=aB ⟨by simp,.inr ⟨wr.heap.size,1,#[O S n2.op,O S n2.a,O S n2.b,X Ak2 nk2 ck2,X Aa2 na2 ca2,X Af2 nf2 cf2],rfl,by omega,heap_alloc_new wr _,by omega,by unfold maxLen;omega,rfl,rfl⟩⟩;have HO3:=aB (World.ownsRow.alloc hown.o (Z #[O S n2.op,O S n2.a,O S n2.b,X Ak2 nk2 ck2,X Aa2 na2 ca2,X Af2 nf2 cf2] 49));have HXC:=aB (DH HO3.o);have HX1:=aB (xI (mE G) vs hfoc.o);have HNO:Hid (B=Y->j=0/\d=0):=aB fun e=>⟨H6 hown.o e,FA hown.o e⟩;have hvl:vs.length=j*6:=hown.o.1;have HT1:=aB ht1;have HT2:=aB ht2;have HS1:=aB hs1;have hbase:w.heap.size+2<=wr.heap.size:=aA;clear hc1 hc2 ht1 ht2 hs1 hs2 hhd hhd2 hrt htw hsz1;go_wp2_with (at_builtin;go_loud (refine bM rfl (aX (.tmp 13) (.tmp 14) 47 rfl (w.heap.size+2) 49 i0 _ 6 96 Tryz.underlying47 HI0.o HY0.o HY1.o HY2.o rfl aE (X (some ⟨wr.heap.size,0,Y⟩) 1 1) 1 [O S n2.op,O S n2.a,O S n2.b,X Ak2 nk2 ck2,X Aa2 na2 ca2,X Af2 nf2 cf2] rfl HLIT.o B j d vs rfl hvl HNO.o HXC.o HX1.o aJ aA (Nat.le_trans hbase aD) ?_));intro A5 c5 w5 happ5;go_loud (have hbwl:=hbw.o.alloc (show w.heap.size<=wr.heap.size by omega) (Z #[O S n2.op,O S n2.a,O S n2.b,X Ak2 nk2 ck2,X Aa2 na2 ca2,X Af2 nf2 cf2] 49));go_loud (have HBW5:=aB (hbwl.grown happ5.grown aG (fun g hg=>by have:=(aR HLIT.o hg).1;omega)));go_loud (have hkf5:=aS.grown (hkf.o.alloc (Z #[O S n2.op,O S n2.a,O S n2.b,X Ak2 nk2 ck2,X Aa2 na2 ca2,X Af2 nf2 cf2] 49)) happ5.grown (fE HLIT.o (show w.heap.size<w.heap.size+2 by omega)));go_loud (have hkz5:=aB (aS.grown (hkz.o.alloc (Z #[O S n2.op,O S n2.a,O S n2.b,X Ak2 nk2 ck2,X Aa2 na2 ca2,X Af2 nf2 cf2] 49)) happ5.grown (fE HLIT.o (show w.heap.size+1<w.heap.size+2 by omega))));go_loud (have zk5:=aS.cell hkf5);go_loud (have zf5:=aS.frozen hkf5);have HKF5:=aB hkf5;obtain⟨y0,y1,y2,y3,y4,y5⟩:=HH1.o _ HBW5.o;(try simp only at y0 y1 y2 y3 y4 y5);clear hkf5 hbwl zk z0 z1 z2 z3 z4 z5)
  have HO5:=aB happ5.own;have hsg5:=happ5.grown.size;have hsw5:w.heap.size+2<=w5.heap.size:=Nat.le_trans hbase (Nat.le_trans aD hsg5);have hg6:=aB (dQ w5 w.heap.size (O S n1.op) (O S n1.a) (O S n1.b) (X Ak1 nk1 ck1) (X Aa1 na1 ca1) (X Af1 nf1 cf1));clear happ5;go_roundw
  case rel =>
   exact⟨1+j,c5,A5,(n2,a2,k2)::G,[O S n2.op,O S n2.a,O S n2.b,X Ak2 nk2 ck2,X Aa2 na2 ca2,X Af2 nf2 cf2]++vs,⟨Ak1,nk1,ck1,Aa1,na1,ca1,Af1,nf1,cf1⟩,(n1,a1,k1),rfl,hsj,by simp only[List.length_cons];omega,HS1,HHD,HT1,aB (bK HKF5.o _ _ _ _ _ _),aB (aS.grown hkz5.o hg6.o aK),aB (World.ownsRow.kept HO5.o hg6.o (.inr (fE HO5.o (show w.heap.size<w.heap.size+2 by omega)).symm)),aB ⟨[O S n2.op,O S n2.a,O S n2.b,X Ak2 nk2 ck2,X Aa2 na2 ca2,X Af2 nf2 cf2],vs,rfl,HT2.o,hfoc.o⟩,aB (HBW5.o.grown hg6.o aA (fun q hq=>by injection hq with hq;omega))⟩
  case measure=>simp only[EU];omega
end
section
open Go.Lib renaming hid->aB
theorem pT {x:TT} (h:mW x) (h12:x.1.op=12):x.1.a.toNat<(cH x.2.2).length/\(bD (cH x.2.2) x.1.a.toNat).a=dX x:=by
 obtain⟨h1,_⟩:=OJ h h12;obtain⟨_,_,h3,h4,_⟩:=gN h h12;have hl:x.1.a.toNat<(cH x.2.2).length:=aA;refine⟨hl,?_⟩;unfold dX iC bD;rw[List.getD_eq_getElem?_getD,List.getD_eq_getElem?_getD,List.getElem?_map,List.getElem?_eq_getElem hl];rfl
set_option maxRecDepth 100000 in
set_option maxHeartbeats 8000000 in
theorem IN {m:Nat} (H:∀(w:World) (R:Nat->Prop) (t:iL) (x:TT),(∀b,R b->b<w.heap.size)->dJ R w t x->mB x->cL x<=m->Calls Tryz.prog 21 #[.agg (eD t x.1)] w (fP (dC x) w))
 {w:World} {R:Nat->Prop} {t:iL} {x:TT} (hR:∀b,R b->b<w.heap.size) (ht:dJ R w t x) (hrt:mB x) (hm:cL x<=m+1) :
 Calls Tryz.prog 21 #[.agg (eD t x.1)] w (fP (dC x) w):=by
 have hb1:=aP w (Z (eD t x.1) 49);have hR1:∀b,R b->b<(w.alloc (Z (eD t x.1) 49)).heap.size:=fun b hb=>Nat.lt_of_lt_of_le (hR b hb) hb1.size;have HAP:=aB (gV hR1 (ht.below hR hb1) hrt);have hV:=mV x;obtain⟨hr1,hr6,hr2⟩:=vJ hrt;have HR2:=aB (fun y hy=>(⟨(hr2 y hy).1,by have:=(hr2 y hy).2;omega⟩:mB y/\cL y<=m));have hokF:mW (dL x).1:=⟨(Rt.wf hr1).1,(Rt.wf hr1).2.1,(Rt.wf hr1).2.2⟩;have hpb:(dL x).1.1.op=12->(0<=dX (dL x).1/\dX (dL x).1<16)/\(dL x).1.1.a.toNat<(cH (dL x).1.2.2).length/\(bD (cH (dL x).1.2.2) (dL x).1.1.a.toNat).a=dX (dL x).1/\0<=(dL x).1.1.a:=fun h12=>⟨lW hokF h12,(pT hokF h12).1,(pT hokF h12).2,(gN hokF h12).2.2.1⟩;have hLb:(dL x).2.length<=4096:=by
  have h3:(dL x).2.length<cL x:=j8 (cL x) x hrt;have h4:cL x<=4096:=hrt.few;omega
 have HB1:=aB hb1;obtain⟨⟨xo,xa,xb⟩,xat,xk⟩:=x;obtain⟨Ak,nk,ck,Aa,na,ca,Af,nf,cf⟩:=t;obtain⟨⟨F,L⟩,hqq⟩ : ∃q,q=dL ((⟨xo,xa,xb⟩:Nd),xat,xk):=⟨_,rfl⟩;rw[<-hqq] at hV hr6 HR2 HAP hpb hLb;simp only at hV hr6 HR2 HAP hpb hLb;have HV:=aB hV;generalize dC ((⟨xo,xa,xb⟩:Nd),xat,xk)=res at *;have HH:=aB H;have HL0:Hid (L.isEmpty=((L.length:Int)==0)):=aB (by cases L<;>simp<;>omega);obtain⟨k,hk⟩ : ∃k,k=L.length:=⟨_,rfl⟩;have HK:=aB hk;unfold NU at HAP;simp only at HAP;rw[<-hk] at HAP hLb HL0;have HR1:=aB hR1;obtain⟨V1,hV1⟩ : ∃V1,V1=w.alloc (Z #[O S xo,O S xa,O S xb,X Ak nk ck,X Aa na ca,X Af nf cf] 49):=⟨_,rfl⟩;have HAP2:Hid (Calls Tryz.prog 39 #[.agg #[O S xo,O S xa,O S xb,X Ak nk ck,X Aa na ca,X Af nf cf]] (w.alloc (Z #[O S xo,O S xa,O S xb,X Ak nk ck,X Aa na ca,X Af nf cf] 49)) (fun e w'=>Below V1.heap.size V1 w'/\∃t' B d,e=.returned (.tuple #[.agg (eD t' F.1),X B k d])/\dJ R w' t' F/\fN (aZ R V1 w') w' B k d (mE L)/\(B=Y->d=0))):=by rw[hV1];exact HAP
 have HR1':Hid (∀b,R b->b<V1.heap.size):=by rw[hV1];exact HR1
 have HB1':Hid (Below w.heap.size w V1):=by rw[hV1];exact HB1
 clear HR1 HB1;have HR1:=HR1';have HB1:=HB1';clear HR1' HB1' HAP hV hr1 hr2 H ht hrt hm hk hb1 hR1 hokF hqq hV1;show Calls Tryz.prog 21 #[.agg #[O S xo,O S xa,O S xb,X Ak nk ck,X Aa na ca,X Af nf cf]] w _;go_in;go_wp2_with fail;refine (HAP2.o).mono ?_;rintro e w2 ⟨hd,⟨Ck,pk,ek,Ca,pa,ea,Cf,pf,ef⟩,B,d,rfl,htf,hkd,_⟩;have HD:=aB hd;have HKD:=aB hkd;have HTF:=aB htf;have HB2:=dA HB1 hd;obtain⟨⟨fo,fa,fb⟩,fat,fk⟩:=F;simp only at HV hr6 hpb;have HV2:=aB hpb;have HA3:Hid (Below w2.heap.size w2 (w2.alloc (Z #[O S fo,O S fa,O S fb,X Ck pk ek,X Ca pa ea,X Cf pf ef] 49))):=aB (aP _ _);have zf:=aS.cell (aS.new w2 49 #[O S fo,O S fa,O S fb,X Ck pk ek,X Ca pa ea,X Cf pf ef]);clear hd hkd htf hpb;by_cases ha:fo=5\/fo=4\/fo=2
 · have HRES:Hid (res=((k:Int)==0)):=aB (by rw[HV.o,if_pos ha,HL0.o]);rcases ha with rfl | rfl | rfl;all_goals
    go_wp2_with fail;go_ret;rw[HRES.o];exact⟨rfl,HB2.o.trans (HA3.o.mono HB2.o.size)⟩
 have b5:(fo==5)=false:=beq_eq_false_iff_ne.2 aA;have b4:(fo==4)=false:=beq_eq_false_iff_ne.2 aA;have b2:(fo==2)=false:=beq_eq_false_iff_ne.2 aA;by_cases h12:fo=12
 · obtain⟨⟨hp0,hp16⟩,hal,hpn,ha0⟩:=HV2.o h12;obtain⟨A,rfl⟩ : ∃A:Nat,fa=(A:Int):=⟨fa.toNat,by omega⟩;rw[Int.toNat_natCast] at hal hpn;have hfl:=HTF.o.funs.len;simp only at hfl hal hpn;rw[hfl] at hal;obtain⟨bf,of,rfl,hbf,hcf⟩:=HTF.o.funs.mem (show 0<pf by omega);obtain⟨_,q1,_⟩:=hcf A (by rw[hfl];exact hal);rw[hpn] at q1;have hbl:bf<w2.heap.size:=Nat.lt_of_lt_of_le (HR1.o _ hbf) HD.o.size;have q1':=(HA3.o.cell (p:=⟨bf,of+A*3+1,Y⟩) hbl).trans q1;have HV4:Hid (res=(decide ((k:Int)<=dX ((⟨fo,(A:Int),fb⟩:Nd),fat,fk))&&L.all dC)):=aB (by rw[HV.o,if_neg ha,if_pos h12,HK.o]);generalize dX ((⟨fo,(A:Int),fb⟩:Nd),fat,fk)=pz at *;subst h12;clear q1 hcf hpn hfl ha HV;by_cases hle:(k:Int)<=pz;rotate_left
   · have d1:decide ((k:Int)>pz)=true:=decide_eq_true aA;have HRES:Hid (res=false):=aB (by rw[HV4.o,decide_eq_false hle,Bool.false_and]);go_wp2_with fail;go_ret;rw[HRES.o];exact⟨rfl,HB2.o.trans (HA3.o.mono HB2.o.size)⟩
   have d1:decide ((k:Int)>pz)=false:=decide_eq_false aA;have HRES:Hid (res=L.all dC):=aB (by rw[HV4.o,decide_eq_true hle,Bool.true_and]);go_wp2_with fail;go_loopw [6] (fun iv wr=>∃i:Nat,iv=O S (i:Int)/\i<=k/\Hid ((L.take i).all dC=true)/\Hid (Below w2.heap.size w2 wr)) (fun iv _=>k-(intOf iv).toNat)
   case atStart=>exact⟨0,rfl,by omega,aB rfl,HA3⟩
   case round =>
    obtain⟨i,rfl,hi,hall,hb5⟩:=hrel;by_cases hlt:i<k;rotate_left
    · have y1:decide ((i:Int)<(k:Int))=false:=decide_eq_false aA;have y2:decide (i<k)=false:=decide_eq_false hlt;have HRF2:Hid (res=true):=aB (by
       have h1:=hall.o;rw[List.take_of_length_le (by rw[<-HK.o];omega)] at h1;rw[HRES.o,h1])
      clear hlt;go_wp2_with fail;go_ret;rw[HRF2.o];exact⟨rfl,HB2.o.trans (hb5.o.mono HB2.o.size)⟩
    have y1:decide ((i:Int)<(k:Int))=true:=decide_eq_true aA;have y2:decide (i<k)=true:=decide_eq_true hlt;have hil:i<L.length:=by rw[<-HK.o];exact hlt
    obtain⟨bq,oq,tq,hBq,hbq,hcq,htq⟩:=fN.nthR HKD.o (j:=i) hlt;have hbl:=aZ.lt HR1.o HD.o hbq;have hgd:dY (mE L) i=L[i]:=by rw[kF,List.getD_eq_getElem?_getD,List.getElem?_eq_getElem hil];rfl
    rw[hgd] at hcq htq;subst hBq;have hc':=hcq.below hb5.o hbl;have HRY:=HR2.o L[i] (List.getElem_mem hil);have HC:=aB (HH.o wr (aZ R V1 w2) tq L[i] (fun q hq=>Nat.lt_of_lt_of_le (aZ.lt HR1.o HD.o hq) hb5.o.size) (htq.below (fun q hq=>aZ.lt HR1.o HD.o hq) hb5.o) HRY.1 HRY.2);have htk:(L.take (i+1)).all dC=((L.take i).all dC&&dC L[i]):=by
     rw[List.take_succ_eq_append_getElem hil,List.all_append];simp
    have hdr:L.all dC=((L.take (i+1)).all dC&&(L.drop (i+1)).all dC):=by rw[<-List.all_append,List.take_append_drop]
    have HTK:=aB htk;have HDR:=aB hdr;have hi0:(0:Int)<=(i:Int):=aA;have hi1:(i:Int)<(k:Int):=aA;obtain⟨vy,hvy⟩ : ∃v,v=dC L[i]:=⟨_,rfl⟩;rw[<-hvy] at HC HTK;generalize L[i]=y at *;obtain⟨⟨yo,ya,yb⟩,yat,yk⟩:=y;obtain⟨Dk,rk,gk,Da,ra,ga,Df,rf,gf⟩:=tq;obtain⟨z0,z1,z2,z3,z4,z5⟩:=hc';simp only at z0 z1 z2 z3 z4 z5 HC;clear hcq htq HRY htk hdr hvy hil hgd;go_wp2_with fail;refine (HC.o).mono ?_;rintro e w7 ⟨rfl,hd7⟩;have HB57:=dA hb5 hd7;clear hd7 z0 z1 z2 z3 z4 z5;cases vy with
    | true =>
     have HAL:Hid ((L.take (i+1)).all dC=true):=aB (by rw[HTK.o,hall.o];rfl);go_wp2_with fail;go_roundw
     case rel=>exact⟨i+1,by go_num,by omega,HAL,HB57⟩
     case measure=>simp[intOf];omega
    | false =>
     have HRF2:Hid (res=false):=aB (by rw[HRES.o,HDR.o,HTK.o,Bool.and_false,Bool.false_and]);go_wp2_with fail;go_ret;rw[HRF2.o];exact⟨rfl,HB2.o.trans (HB57.o.mono HB2.o.size)⟩
 have b12:(fo==12)=false:=beq_eq_false_iff_ne.2 h12;by_cases h9:fo=9\/fo=10;rotate_left
 · have b9:(fo==9)=false:=beq_eq_false_iff_ne.2 aA;have HRES:Hid (res=false):=aB (by rw[HV.o,if_neg ha,if_neg h12,if_neg h9]);have c9:(fo != 9)=true:=by simp;omega
   have c10:(fo != 10)=true:=by simp;omega
   have c12:(fo != 12)=true:=by simp;omega
   clear ha h12 h9;go_wp2_with fail;go_ret;rw[HRES.o];exact⟨rfl,HB2.o.trans (HA3.o.mono HB2.o.size)⟩
 have HRES:Hid (res=L.all dC):=aB (by rw[HV.o,if_neg ha,if_neg h12,if_pos h9]);rcases h9 with rfl | rfl;all_goals
  go_wp2_with fail;go_loopw [6] (fun iv wr=>∃i:Nat,iv=O S (i:Int)/\i<=k/\Hid ((L.take i).all dC=true)/\Hid (Below w2.heap.size w2 wr)) (fun iv _=>k-(intOf iv).toNat)
  case atStart=>exact⟨0,rfl,by omega,aB rfl,HA3⟩
  case round =>
   obtain⟨i,rfl,hi,hall,hb5⟩:=hrel;by_cases hlt:i<k;rotate_left
   · have y1:decide ((i:Int)<(k:Int))=false:=decide_eq_false aA;have y2:decide (i<k)=false:=decide_eq_false hlt;have HRF2:Hid (res=true):=aB (by
      have h1:=hall.o;rw[List.take_of_length_le (by rw[<-HK.o];omega)] at h1;rw[HRES.o,h1])
     clear hlt;go_wp2_with fail;go_ret;rw[HRF2.o];exact⟨rfl,HB2.o.trans (hb5.o.mono HB2.o.size)⟩
   have y1:decide ((i:Int)<(k:Int))=true:=decide_eq_true aA;have y2:decide (i<k)=true:=decide_eq_true hlt;have hil:i<L.length:=by rw[<-HK.o];exact hlt
   obtain⟨bq,oq,tq,hBq,hbq,hcq,htq⟩:=fN.nthR HKD.o (j:=i) hlt;have hbl:=aZ.lt HR1.o HD.o hbq;have hgd:dY (mE L) i=L[i]:=by rw[kF,List.getD_eq_getElem?_getD,List.getElem?_eq_getElem hil];rfl
   rw[hgd] at hcq htq;subst hBq;have hc':=hcq.below hb5.o hbl;have HRY:=HR2.o L[i] (List.getElem_mem hil);have HC:=aB (HH.o wr (aZ R V1 w2) tq L[i] (fun q hq=>Nat.lt_of_lt_of_le (aZ.lt HR1.o HD.o hq) hb5.o.size) (htq.below (fun q hq=>aZ.lt HR1.o HD.o hq) hb5.o) HRY.1 HRY.2);have htk:(L.take (i+1)).all dC=((L.take i).all dC&&dC L[i]):=by
    rw[List.take_succ_eq_append_getElem hil,List.all_append];simp
   have hdr:L.all dC=((L.take (i+1)).all dC&&(L.drop (i+1)).all dC):=by rw[<-List.all_append,List.take_append_drop]
   have HTK:=aB htk;have HDR:=aB hdr;have hi0:(0:Int)<=(i:Int):=aA;have hi1:(i:Int)<(k:Int):=aA;obtain⟨vy,hvy⟩ : ∃v,v=dC L[i]:=⟨_,rfl⟩;rw[<-hvy] at HC HTK;generalize L[i]=y at *;obtain⟨⟨yo,ya,yb⟩,yat,yk⟩:=y;obtain⟨Dk,rk,gk,Da,ra,ga,Df,rf,gf⟩:=tq;obtain⟨z0,z1,z2,z3,z4,z5⟩:=hc';simp only at z0 z1 z2 z3 z4 z5 HC;clear hcq htq HRY htk hdr hvy hil hgd;go_wp2_with fail;refine (HC.o).mono ?_;rintro e w7 ⟨rfl,hd7⟩;have HB57:=dA hb5 hd7;clear hd7 z0 z1 z2 z3 z4 z5;cases vy with
   | true =>
    have HAL:Hid ((L.take (i+1)).all dC=true):=aB (by rw[HTK.o,hall.o];rfl);go_wp2_with fail;go_roundw
    case rel=>exact⟨i+1,by go_num,by omega,HAL,HB57⟩
    case measure=>simp[intOf];omega
   | false =>
    have HRF2:Hid (res=false):=aB (by rw[HRES.o,HDR.o,HTK.o,Bool.and_false,Bool.false_and]);go_wp2_with fail;go_ret;rw[HRF2.o];exact⟨rfl,HB2.o.trans (HB57.o.mono HB2.o.size)⟩
theorem AY:∀(m:Nat) (w:World) (R:Nat->Prop) (t:iL) (x:TT),(∀b,R b->b<w.heap.size)->dJ R w t x->mB x->cL x<=m->Calls Tryz.prog 21 #[.agg (eD t x.1)] w (fP (dC x) w)
 | 0,_,_,_,(n,a,k),_,_,_,h=>by rw[eI] at h;omega
 | m+1,w,R,t,x,hR,ht,hr,hm=>IN (AY m) hR ht hr hm
theorem kL {w:World} {R:Nat->Prop} {t:iL} {x:TT} (hR:∀b,R b->b<w.heap.size) (ht:dJ R w t x) (hr:mB x):Calls Tryz.prog 21 #[.agg (eD t x.1)] w (fP (dC x) w):=AY _ w R t x hR ht hr (Nat.le_refl _)
end
end Go.Proofs.YtjllmblbbgojbaaGreat
