/- The reference's give at a fix. -/
import Derived.Test.YtjllmblbbgojbaaGreatWShort3
import Derived.Test.YtjllmblbbgojbaaGreatWRvG
import Derived.Deep.DeepCutAuto
namespace Go.Proofs.YtjllmblbbgojbaaGreat
open Go.Value renaming int → O, slice → Y
open Go.IntKind renaming i64 → X
open Option renaming none → Z, some → J
open Go.Obj renaming cells → I
open Go.Lib (hid)
open Go.RowKit
theorem qW (b o j:Nat):(⟨b,o,Z⟩:Addr).add j=⟨b,o+j,Z⟩:=by unfold Addr.add;split<;>simp_all
theorem yG {R:Nat->Prop} {w:World} {b:Nat} : ∀ (L:List TT) (off:Nat),qF R w (lI L) b off->∃ vs:List Value,vs.length=L.length*6/\(∀ j u,vs[j]? = J u->w.cell? ⟨b,off+j,Z⟩=J u)/\iG R w (lI L) vs
 | [],off,_=>⟨[],rfl,fun j u h=>by simp at h,rfl⟩
 | y::r,off,h=>by
  obtain ⟨⟨h0,h1,h2⟩,⟨A',c',h3,h3b,h3c⟩,⟨v,h4,⟨Av,nv,cv,rfl,h4b⟩⟩,⟨u,h5,⟨Au,nu,cu,rfl,h5b⟩⟩,h6⟩:=h;obtain ⟨vs,e1,e2,e3⟩:=yG r (off+6) h6;refine ⟨[O X y.1.op,O X y.1.a,O X y.1.b,Y A' (aT y.2.2) c',Y Av nv cv,Y Au nu cu]++vs,by simp only [List.length_append,List.length_cons,List.length_nil];omega,fun j z hz => ?_,⟨_,_,rfl,⟨_,_,_,rfl,⟨A',_,c',rfl,⟨rfl,h3b,h3c⟩⟩,⟨_,_,_,rfl,h4b⟩,⟨_,_,_,rfl,h5b⟩⟩,e3⟩⟩
  match j,hz with
  | 0,hz=>simp at hz;subst hz;exact h0
  | 1,hz=>simp at hz;subst hz;exact h1
  | 2,hz=>simp at hz;subst hz;exact h2
  | 3,hz=>simp at hz;subst hz;exact h3
  | 4,hz=>simp at hz;subst hz;exact h4
  | 5,hz=>simp at hz;subst hz;exact h5
  | j+6,hz =>
   have:=e2 j z (by simpa using hz);rw [show off+(j+6)=off+6+j from by omega];exact this
theorem E7 {R:Nat->Prop} {w:World} {A:Option Addr} {n c:Nat} {L:List TT} (h:dR R w A n c (lI L)) : ∃ vs:List Value,vs.length=n*6/\(∀ ad,A=J ad->∀ j u,vs[j]? = J u->w.cell? (ad.add j)=J u)/\iG R w (lI L) vs/\(A=Z->n=0)/\(0<n->∃ b off,A=J ⟨b,off,Z⟩/\R b):=by
 have hl:L.length=n:=by rw [<-hI];exact h.len
 rcases Nat.eq_zero_or_pos n with h0 | h0
 · have:L=[]:=List.eq_nil_of_length_eq_zero aA;subst this;exact ⟨[],by simp [h0],fun ad e j u hu=>by simp at hu,rfl,fun _=>h0,fun h=>absurd h aA⟩
 obtain ⟨b,off,e,hr,hf⟩:=h.mem h0;obtain ⟨vs,e1,e2,e3⟩:=yG L off hf;refine ⟨vs,by rw [e1,hl],fun ad ea j u hu => ?_,e3,fun en=>(by rw [e] at en;cases en),fun _=>⟨b,off,e,hr⟩⟩;rw [e] at ea;injection ea with ea;subst ea;have e9:(⟨b,off,Z⟩:Addr).add j=⟨b,off+j,Z⟩:=by unfold Addr.add;split<;>simp_all
 rw [e9];exact e2 j u hu
theorem nK {R:Nat->Prop} {w:World} {y:TT} {ys:List Value} (hy:bP R w ys y.1 y.2.1 y.2.2) : ∀ (L:List TT) (vs:List Value),iG R w (lI L) vs->iG R w (lI (L++[y])) (vs++ys)
 | [],vs,h=>by
  have:vs=[]:=h;subst this;exact ⟨ys,[],by simp,hy,rfl⟩
 | x::r,vs,h=>by
  obtain ⟨xs,zs,rfl,h1,h2⟩:=h;exact ⟨xs,zs++ys,by simp,h1,nK hy r zs h2⟩
set_option linter.unusedSimpArgs false in
set_option linter.unusedVariables false in
set_option maxRecDepth 100000 in
set_option maxHeartbeats 8000000 in
theorem FV {w0:World} {g:Nat} {v:aZ} {b:Bk} {d:Nat} (hr:bY b=0) (H:qD w0 g v b (d+1)) (HG:s7 w0 g v b d) {w:World} {f:Nat} {R:Nat->Prop} {t s:fZ} {x a:TT} (hf:f<d+1) (hf1:f<=100000) (hw:gY w0 g v b f 0 w) (hR:gX g w R) (ht:cQ R w t x) (hs:cQ R w s a) (ox:jZ b x) (oa:jZ b a) (hop:(cP x).1.1.op=12) :
 Calls Tryz.prog 47 #[.pointer (J ⟨g,0,Z⟩),.agg (dE t x.1),.agg (dE s a.1)] w (xG w0 g v b R w (fB b (d+1) f x a)):=by
 have hF:=ox.1.hd.1;have hLv:∀ y ∈ (cP x).2,jZ b y:=fun y hy=>⟨ox.1.hd.2 y hy,i6 ox.2 (Or.inr (Or.inr hop)) y hy⟩;obtain ⟨fb1,fb4,fa0,fab,_⟩:=fN hF.okt hop;obtain ⟨hpl,hpn⟩:=oX hF.okt hop;obtain ⟨hp0,hp16⟩:=kV hF.okt hop;obtain ⟨⟨⟨zo,za,zb⟩,zat,zk⟩,L,hqq⟩ : ∃ F L,cP x=(F,L):=⟨_,_,rfl⟩;have hres0:fB b (d+1) f x a=gP (eO b (d+1)) (fB b d) f x a:=by rw [jN]
 unfold gP at hres0;rw [hqq] at hres0 hop hF hLv fa0 fab hpl hpn hp0 hp16;simp only at hres0 hop hF hLv fa0 fab hpl hpn hp0 hp16;obtain ⟨res,hr0⟩ : ∃ r,r=fB b (d+1) f x a:=⟨_,rfl⟩;rw [<-hr0] at hres0 ⊢;have HRES:Hid (res=if ((L++[a]).length:Int)<=dC ((⟨zo,za,zb⟩:Nd),zat,zk) then (if 4096<bU (dT x a) then .er 9 else .ok (dT x a) f)
  else if (cP ((L++[a]).getD (dC ((⟨zo,za,zb⟩:Nd),zat,zk)).toNat (⟨0,0,0⟩,[],.nil))).1.1.op=10 then
   (if (iN ((⟨zo,za,zb⟩:Nd),zat,zk)).2=0 then (eO b (d+1) f (iN ((⟨zo,za,zb⟩:Nd),zat,zk)).1).bind fun g' f'=>givens (fB b d) (L++[a]) g' f' else .er (iN ((⟨zo,za,zb⟩:Nd),zat,zk)).2)
  else .er 24):=hid (by rw [hres0,if_neg aA,if_neg aA,if_pos hop,qH])
 have HSZ:Hid (bU (dT x a)<=100000):=hid (by have h1:=ox.1.few;have h2:=oa.1.few;rw [qH];omega);obtain ⟨A,hA⟩ : ∃ A:Nat,za=(A:Int):=⟨za.toNat,by omega⟩;subst hA;rw [Int.toNat_natCast] at hpl hpn;have HOP:=hid hop;have HF:=hid hF;have HLA:Hid (∀ y ∈ L++[a],jZ b y):=hid (fun y hy=>by
  rcases List.mem_append.1 hy with hy | hy
  · exact hLv y hy
  rw [List.mem_singleton] at hy;rw [hy];exact oa)
 have HPL:=hid hpl;have HPN:=hid hpn;obtain ⟨pz,hpz⟩ : ∃ z:Nat,dC ((⟨zo,(A:Int),zb⟩:Nd),zat,zk)=(z:Int):=⟨(dC ((⟨zo,(A:Int),zb⟩:Nd),zat,zk)).toNat,by omega⟩;rw [hpz] at HRES HPN hp16;rw [Int.toNat_natCast] at HRES;have HPZ:Hid (pz<16):=hid aA;obtain ⟨i0,hi,hy0,hy1,hy2⟩:=info_parts Tryz.infoT;have HI0:=hid hi;have HY0:=hid hy0;have HY1:=hid hy1;have HY2:=hid hy2;clear hres0 hr0 hop hF hLv fb1 fb4 fa0 fab hpl hpn hp0 hp16 hpz hi hy0 hy1 hy2;obtain ⟨⟨xo,xa,xb⟩,xat,xk⟩:=x;obtain ⟨xA,xn,xc,xB,xm,xd,xC,xp,xe⟩:=t;obtain ⟨⟨uo,ua,ub⟩,uat,uk⟩:=a;obtain ⟨uA,un,uc,uB,um,ud,uC,up,ue⟩:=s;have hgl:=hw.lt;have hba:=aS w (I #[O X xo,O X xa,O X xb,Y xA xn xc,Y xB xm xd,Y xC xp xe] 49) (I #[O X uo,O X ua,O X ub,Y uA un uc,Y uB um ud,Y uC up ue] 49);have hbb:=hba.alloc hba.size (I #[O X 0,O X 0,O X 0,Y Z 0 0,Y Z 0 0,Y Z 0 0] 49);have hw1:=hw.below hbb;have zg:=aD.cell hw1.blk;have HAP:=hid (fW (hR.moved hbb.size).lt (ht.below hR.lt hbb) ox.1.rt);rw [hqq] at HAP;unfold LV at HAP;simp only at HAP;obtain ⟨k,hk⟩ : ∃ k,k=L.length:=⟨_,rfl⟩;have hLb:L.length<=4096:=by
  have h3:=jG (bU ((⟨xo,xa,xb⟩:Nd),xat,xk)) ((⟨xo,xa,xb⟩:Nd),xat,xk) ox.1.rt;have h4:=ox.1.few;have h5:(cP ((⟨xo,xa,xb⟩:Nd),xat,xk)).2.length<bU ((⟨xo,xa,xb⟩:Nd),xat,xk):=h3;rw [hqq] at h5;simp only at h5;omega
 rw [<-hk] at HAP hLb;have HK:=hid hk;obtain ⟨V0,hV0⟩ : ∃ V0:World,V0.heap.size=w.heap.size+3:=⟨(((w.alloc (I #[O X xo,O X xa,O X xb,Y xA xn xc,Y xB xm xd,Y xC xp xe] 49)).alloc (I #[O X uo,O X ua,O X ub,Y uA un uc,Y uB um ud,Y uC up ue] 49)).alloc (I #[O X 0,O X 0,O X 0,Y Z 0 0,Y Z 0 0,Y Z 0 0] 49)),by simp⟩;have HV0:=hid hV0;have HA1:Hid (s6 w0 g v b w V0 #[O X xo,O X xa,O X xb,Y xA xn xc,Y xB xm xd,Y xC xp xe] #[O X uo,O X ua,O X ub,Y uA un uc,Y uB um ud,Y uC up ue] f 0 (((w.alloc (I #[O X xo,O X xa,O X xb,Y xA xn xc,Y xB xm xd,Y xC xp xe] 49)).alloc (I #[O X uo,O X ua,O X ub,Y uA un uc,Y uB um ud,Y uC up ue] 49)).alloc (I #[O X 0,O X 0,O X 0,Y Z 0 0,Y Z 0 0,Y Z 0 0] 49))):=hid ⟨hw1,aG.of_below hbb,by rw [hV0];simp,((aD.new _ _ _).alloc _).alloc _,(aD.new' (by simp)).alloc _,aD.new' (by simp)⟩;have HRO:=hid hR;have HL:=hid hgl;have HGV:Hid (g<V0.heap.size):=hid aA;have HT:=hid ht;have HS:=hid hs;have HOX:=hid ox;have HOA:=hid oa;have HFT:=hid (eW (b:=b) hr d);have HFT1:=hid (eW (b:=b) hr (d+1));have HH:=hid H;have HHG:=hid HG;clear hw hw1 hba hbb hR ht hs ox oa H HG hV0 hr hqq hk;show Calls Tryz.prog 47 #[.pointer (J ⟨g,0,Z⟩),.agg #[O X xo,O X xa,O X xb,Y xA xn xc,Y xB xm xd,Y xC xp xe],.agg #[O X uo,O X ua,O X ub,Y uA un uc,Y uB um ud,Y uC up ue]] w _;go_in;go_wp2_with fail
 refine (HAP.o).mono ?_;rintro e w4 ⟨hb4,⟨zA,zn,zc,zB,zm,zd,zC,zp,ze⟩,KB,kd,rfl,hth,hkd,hnul⟩;have HA4:=hid (HA1.o.below hb4);have hv34:V0.heap.size<=(((w.alloc (I #[O X xo,O X xa,O X xb,Y xA xn xc,Y xB xm xd,Y xC xp xe] 49)).alloc (I #[O X uo,O X ua,O X ub,Y uA un uc,Y uB um ud,Y uC up ue] 49)).alloc (I #[O X 0,O X 0,O X 0,Y Z 0 0,Y Z 0 0,Y Z 0 0] 49)).heap.size:=HA1.o.sz;have hb5:=(aS w4 (I #[O X zo,O X (A:Int),O X zb,Y zA zn zc,Y zB zm zd,Y zC zp ze] 49) (I #[O X xo,O X xa,O X xb,Y xA xn xc,Y xB xm xd,Y xC xp xe,O X uo,O X ua,O X ub,Y uA un uc,Y uB um ud,Y uC up ue] 49)).alloc (by simp<;>omega) (I #[O X 6,O X 0,O X 0,Y (J ⟨w4.heap.size+1,0,Z⟩) 2 2,Y Z 0 0,Y Z 0 0] 49);have HA5:=hid (HA4.o.below hb5);have HZT:=hid ((hth.inl (V0:=V0)).mixB HRO.o HA4.o.mv.size hb5);have HKD:=hid (hkd.keep (R':=aK R V0 w4) (w':=((w4.alloc (I #[O X zo,O X (A:Int),O X zb,Y zA zn zc,Y zB zm zd,Y zC zp ze] 49)).alloc (I #[O X xo,O X xa,O X xb,Y xA xn xc,Y xB xm xd,Y xC xp xe,O X uo,O X ua,O X ub,Y uA un uc,Y uB um ud,Y uC up ue] 49)).alloc (I #[O X 6,O X 0,O X 0,Y (J ⟨w4.heap.size+1,0,Z⟩) 2 2,Y Z 0 0,Y Z 0 0] 49)) fun q hq=>⟨hq.to hv34 (Nat.le_refl _),fun o=>hb5.cell (p:=⟨q,o,Z⟩) (show q<w4.heap.size from aK.lt2 HRO.o HA4.o.mv.size (hq.to (V:=_) (w2:=w4) hv34 (Nat.le_refl _)))⟩);have HZB:Hid (aD (((w4.alloc (I #[O X zo,O X (A:Int),O X zb,Y zA zn zc,Y zB zm zd,Y zC zp ze] 49)).alloc (I #[O X xo,O X xa,O X xb,Y xA xn xc,Y xB xm xd,Y xC xp xe,O X uo,O X ua,O X ub,Y uA un uc,Y uB um ud,Y uC up ue] 49)).alloc (I #[O X 6,O X 0,O X 0,Y (J ⟨w4.heap.size+1,0,Z⟩) 2 2,Y Z 0 0,Y Z 0 0] 49)) w4.heap.size 49 #[O X zo,O X (A:Int),O X zb,Y zA zn zc,Y zB zm zd,Y zC zp ze]):=hid (((aD.new _ _ _).alloc _).alloc _);have HKB:Hid (aD (((w4.alloc (I #[O X zo,O X (A:Int),O X zb,Y zA zn zc,Y zB zm zd,Y zC zp ze] 49)).alloc (I #[O X xo,O X xa,O X xb,Y xA xn xc,Y xB xm xd,Y xC xp xe,O X uo,O X ua,O X ub,Y uA un uc,Y uB um ud,Y uC up ue] 49)).alloc (I #[O X 6,O X 0,O X 0,Y (J ⟨w4.heap.size+1,0,Z⟩) 2 2,Y Z 0 0,Y Z 0 0] 49)) (w4.heap.size+1) 49 #[O X xo,O X xa,O X xb,Y xA xn xc,Y xB xm xd,Y xC xp xe,O X uo,O X ua,O X ub,Y uA un uc,Y uB um ud,Y uC up ue]):=hid ((aD.new' (by simp)).alloc _);have HWB:Hid (aD (((w4.alloc (I #[O X zo,O X (A:Int),O X zb,Y zA zn zc,Y zB zm zd,Y zC zp ze] 49)).alloc (I #[O X xo,O X xa,O X xb,Y xA xn xc,Y xB xm xd,Y xC xp xe,O X uo,O X ua,O X ub,Y uA un uc,Y uB um ud,Y uC up ue] 49)).alloc (I #[O X 6,O X 0,O X 0,Y (J ⟨w4.heap.size+1,0,Z⟩) 2 2,Y Z 0 0,Y Z 0 0] 49)) (w4.heap.size+1+1) 49 #[O X 6,O X 0,O X 0,Y (J ⟨w4.heap.size+1,0,Z⟩) 2 2,Y Z 0 0,Y Z 0 0]):=hid (aD.new' (by simp));have HS45:Hid ((((w4.alloc (I #[O X zo,O X (A:Int),O X zb,Y zA zn zc,Y zB zm zd,Y zC zp ze] 49)).alloc (I #[O X xo,O X xa,O X xb,Y xA xn xc,Y xB xm xd,Y xC xp xe,O X uo,O X ua,O X ub,Y uA un uc,Y uB um ud,Y uC up ue] 49)).alloc (I #[O X 6,O X 0,O X 0,Y (J ⟨w4.heap.size+1,0,Z⟩) 2 2,Y Z 0 0,Y Z 0 0] 49)).heap.size=w4.heap.size+3):=hid (by simp);have HWT:Hid (cQ (aK R V0 (((w4.alloc (I #[O X zo,O X (A:Int),O X zb,Y zA zn zc,Y zB zm zd,Y zC zp ze] 49)).alloc (I #[O X xo,O X xa,O X xb,Y xA xn xc,Y xB xm xd,Y xC xp xe,O X uo,O X ua,O X ub,Y uA un uc,Y uB um ud,Y uC up ue] 49)).alloc (I #[O X 6,O X 0,O X 0,Y (J ⟨w4.heap.size+1,0,Z⟩) 2 2,Y Z 0 0,Y Z 0 0] 49))) (((w4.alloc (I #[O X zo,O X (A:Int),O X zb,Y zA zn zc,Y zB zm zd,Y zC zp ze] 49)).alloc (I #[O X xo,O X xa,O X xb,Y xA xn xc,Y xB xm xd,Y xC xp xe,O X uo,O X ua,O X ub,Y uA un uc,Y uB um ud,Y uC up ue] 49)).alloc (I #[O X 6,O X 0,O X 0,Y (J ⟨w4.heap.size+1,0,Z⟩) 2 2,Y Z 0 0,Y Z 0 0] 49)) ⟨J ⟨w4.heap.size+1,0,Z⟩,2,2,Z,0,0,Z,0,0⟩ (dT ((⟨xo,xa,xb⟩:Nd),xat,xk) ((⟨uo,ua,ub⟩:Nd),uat,uk))):=hid (oD (w:=w) ((HT.o.movedO HRO.o HA5.o.mv).inl) ((HS.o.movedO HRO.o HA5.o.mv).inl) HKB.o (Or.inr ⟨by have:=HA4.o.sz;omega,HKB.o.lt⟩));have zx4:=aD.cell (HA4.o.x.alloc (I #[O X zo,O X (A:Int),O X zb,Y zA zn zc,Y zB zm zd,Y zC zp ze] 49));have za4:=aD.cell (HA4.o.a.alloc (I #[O X zo,O X (A:Int),O X zb,Y zA zn zc,Y zB zm zd,Y zC zp ze] 49));have zx5:=aD.cell HA5.o.x;have za5:=aD.cell HA5.o.a;have zz5:=aD.cell HZB.o;have zw5:=aD.cell HWB.o;have HNUL:=hid hnul;clear hnul hb4 hb5 hth hkd hv34 zg HA1 HAP;obtain rfl:=HOP.o;have hfl:=HZT.o.funs.len;have hal:=HPL.o;rw [hfl] at hal;simp only at hal;obtain ⟨bf,of,hbC,hbf,hcf⟩:=HZT.o.funs.mem (show 0<zp by omega);obtain ⟨_,q1,_⟩:=hcf A (by rw [hfl];exact hal);rw [HPN.o] at q1;simp only at hbC;subst hbC;have hA1:decide (A<zp)=true:=decide_eq_true hal;have hA2:decide ((A:Int)<(zp:Int))=true:=decide_eq_true aA;obtain ⟨vs,hvl,hvc,hvf,hvn,hvb⟩:=E7 HKD.o;have HVC:=hid hvc;have HVF:=hid hvf;have HX1:=hid (vS (lI L) vs hvf);have hkc:KB=Z->kd=0:=HNUL.o;have HNO:Hid (KB=Z->k=0/\kd=0):=hid fun e=>⟨hvn e,hkc e⟩;go_upto_region 13 with fail
 obtain ⟨W5,hW5⟩ : ∃ W:World,W=(((w4.alloc (I #[O X 12,O X (A:Int),O X zb,Y zA zn zc,Y zB zm zd,Y (J ⟨bf,of,Z⟩) zp ze] 49)).alloc (I #[O X xo,O X xa,O X xb,Y xA xn xc,Y xB xm xd,Y xC xp xe,O X uo,O X ua,O X ub,Y uA un uc,Y uB um ud,Y uC up ue] 49)).alloc (I #[O X 6,O X 0,O X 0,Y (J ⟨w4.heap.size+1,0,Z⟩) 2 2,Y Z 0 0,Y Z 0 0] 49)):=⟨_,rfl⟩;have HW5:=hid hW5;have HA5':Hid (s6 w0 g v b w V0 #[O X xo,O X xa,O X xb,Y xA xn xc,Y xB xm xd,Y xC xp xe] #[O X uo,O X ua,O X ub,Y uA un uc,Y uB um ud,Y uC up ue] f 0 W5):=by rw [hW5];exact HA5
 have HZB':Hid (aD W5 w4.heap.size 49 #[O X 12,O X (A:Int),O X zb,Y zA zn zc,Y zB zm zd,Y (J ⟨bf,of,Z⟩) zp ze]):=by rw [hW5];exact HZB
 have HWB':Hid (aD W5 (w4.heap.size+1+1) 49 #[O X 6,O X 0,O X 0,Y (J ⟨w4.heap.size+1,0,Z⟩) 2 2,Y Z 0 0,Y Z 0 0]):=by rw [hW5];exact HWB
 have HZT':Hid (cQ (aK R V0 W5) W5 ⟨zA,zn,zc,zB,zm,zd,J ⟨bf,of,Z⟩,zp,ze⟩ ((⟨12,(A:Int),zb⟩:Nd),zat,zk)):=by rw [hW5];exact HZT
 have HWT':Hid (cQ (aK R V0 W5) W5 ⟨J ⟨w4.heap.size+1,0,Z⟩,2,2,Z,0,0,Z,0,0⟩ (dT ((⟨xo,xa,xb⟩:Nd),xat,xk) ((⟨uo,ua,ub⟩:Nd),uat,uk))):=by rw [hW5];exact HWT
 have HS45':Hid (W5.heap.size=w4.heap.size+3):=by rw [hW5];exact HS45
 have HVB:Hid (0<k->∃ b off,KB=J ⟨b,off,Z⟩/\b<W5.heap.size):=hid (fun h=>by
  obtain ⟨bb,oo,e,hr2⟩:=hvb h;exact ⟨bb,oo,e,by rw [hW5,HS45.o];have:=aK.lt2 HRO.o HA4.o.mv.size hr2;omega⟩)
 have HVC':Hid (∀ W,Below W5.heap.size W5 W->∀ ad,KB=J ad->∀ j u,vs[j]? = J u->W.cell? (ad.add j)=J u):=hid (by
  intro W hb ad e j u hu;have hk0:0<k:=by
   have:=(List.getElem?_eq_some_iff.1 hu).1;omega
  obtain ⟨bb,oo,e2,hlt⟩:=HVB.o hk0;rw [e] at e2;injection e2 with e2;have h0:=HVC.o ad e j u hu;subst e2;have e9:(⟨bb,oo,Z⟩:Addr).add j=⟨bb,oo+j,Z⟩:=by unfold Addr.add;split<;>simp_all
  rw [e9] at h0 ⊢;rw [<-hW5] at h0;exact (hb.cell (p:=⟨bb,oo+j,Z⟩) hlt).trans h0)
 have HVF':Hid (iG (aK R V0 W5) W5 (lI L) vs):=hid (by
  rw [hW5];exact iG.keep (fun q hq=>⟨hq.to (Nat.le_refl _) (by rw [HS45.o];omega),fun o=>rfl⟩) _ _ HVF.o)
 obtain ⟨n1,hn1⟩ : ∃ n1,n1=k+1:=⟨_,rfl⟩;have HN1:=hid hn1;have HSL:=hid ((HS.o.movedO HRO.o HA5'.o.mv).inl (V0:=V0));have HBD:Hid (Below W5.heap.size W5 W5.drew):=hid (aI (Below.refl W5.heap.size W5) 1);clear HZB HWB HZT HWT HKB HKD HS45 HA5 HVC HVF HVB hvc hvf hvn hvb hkc hn1 hW5;go_cut [8] (fun av wx=>∃ (AA:Option Addr) (kcw:Nat),av=Y AA n1 kcw/\Hid (dR (aK R V0 wx) wx AA n1 kcw (lI (L++[((⟨uo,ua,ub⟩:Nd),uat,uk)])))/\Hid (Below W5.heap.size W5 wx))
 case first =>
  have HKP:=hid (fun (W:World) (hb:Below W5.heap.size W5 W)=>(by
   have a:=(HA5'.o.a.below hb HA5'.o.a.lt).cell;exact ⟨a 0,a 1,a 2,a 3,a 4,a 5⟩:W.cell? ⟨w.heap.size+1,0,Z⟩=J (O X uo)/\W.cell? ⟨w.heap.size+1,1,Z⟩=J (O X ua)/\W.cell? ⟨w.heap.size+1,2,Z⟩=J (O X ub)/\W.cell? ⟨w.heap.size+1,3,Z⟩=J (Y uA un uc)/\W.cell? ⟨w.heap.size+1,4,Z⟩=J (Y uB um ud)/\W.cell? ⟨w.heap.size+1,5,Z⟩=J (Y uC up ue)))
  clear zx4 za4 zx5 za5 zz5 zw5 q1 hA1 hA2;go_wp2_with fail
  have hS6:=HW5.o.symm;try rw [hS6]
  clear hS6;refine wp_region_held_drew (S:=(fun w'=>w'.cell? ⟨w.heap.size+1,0,Z⟩=J (O X uo)/\w'.cell? ⟨w.heap.size+1,1,Z⟩=J (O X ua)/\w'.cell? ⟨w.heap.size+1,2,Z⟩=J (O X ub)/\w'.cell? ⟨w.heap.size+1,3,Z⟩=J (Y uA un uc)/\w'.cell? ⟨w.heap.size+1,4,Z⟩=J (Y uB um ud)/\w'.cell? ⟨w.heap.size+1,5,Z⟩=J (Y uC up ue))) (by kernel_rfl) ?_ (fun hHeld => ?_)
  · (try dsimp only);exact HKP.o _ (by first | exact HBD.o | (have:=HBD.o;rw [HW5.o] at this;exact this))
  have hS6:=HW5.o.symm;try rw [hS6] at hHeld
  try rw [hS6]
  clear hS6;have HD7:=HBD;have hv7:=HA5'.o.sz;generalize W5.drew=V7 at *;refine tq 1 hHeld ?_;try simp only [p7]
  refine tq 3 hHeld ?_;try simp only [p7]
  refine wpAnyH_ready (rs:=[0,4]) (by kernel_rfl) (by simp) ?_;refine AllReadyH.cons rfl (fun K hK => ?_) (AllReadyH.cons rfl (fun K hK => ?_) (AllReadyH.nil))
  · have hal:=aB V7 (I #[] 49);have HBv1:=cO HD7 hal;have HOv1:Hid ((V7.alloc (I #[] 49)).ownsRow W5.heap.size 49 6 (Y (J ⟨V7.heap.size,0,Z⟩) 0 0) 0 []):=hid (World.ownsRow_made V7 #[] 0 (by have:=HD7.o.size;omega) (Nat.zero_le _) rfl);have HZv1:Hid ((V7.alloc (I #[] 49)).heap.size=V7.heap.size+1):=hid (by simp);clear hal;go_simp;refine hK.o _ _ (by exact HKP.o _ HBv1.o) fun hHeld => ?_;clear hK K;try simp only [p7]
    generalize hgv1:(V7.alloc (I #[] 49))=v1 at *;clear hgv1;refine wpAnyH_ready (rs:=[2,4]) (by kernel_rfl) (by simp) ?_;refine AllReadyH.cons rfl (fun K hK => ?_) (AllReadyH.cons rfl (fun K hK => ?_) (AllReadyH.nil))
    · have hsv2:=HBv1.o.size;refine bS (.tmp 63) (.tmp 64) 47 rfl W5.heap.size 49 i0 _ 6 96 Tryz.underlying47 HI0.o HY0.o HY1.o HY2.o rfl (by decide) (Y (J ⟨V7.heap.size,0,Z⟩) 0 0) 0 [] (by rfl) HOv1.o KB k kd vs (by rfl) hvl HNO.o (HVC'.o _ HBv1.o) HX1.o (by unfold maxLen;omega) aA aA ?_;intro A5 c5 v2 hap;rw [Nat.zero_add,List.nil_append] at hap;have HBv2:=hid (HBv1.o.grown hap.grown HBv1.o.size (fun q hq=>(aE HOv1.o hq).1));have HOv2:=hid hap.own;have HGv2:=hid hap.grown;have hnev2:∀ q,(Value.slice A5 k c5).ownBlock=J q->q=V7.heap.size\/v1.heap.size<=q:=fun q hq=>by
       rcases hap.new q hq with h | h
       · left;injection h with h;exact h.symm
       exact Or.inr h
      try rw [Nat.zero_add]
      clear hap;refine hK.o _ _ (by exact HKP.o _ HBv2.o) fun hHeld => ?_;clear hK K;try simp only [p7]
      have hal:=aB v2 (I #[O X uo,O X ua,O X ub,Y uA un uc,Y uB um ud,Y uC up ue] 49);have HBv3:=cO HBv2 hal;have HUv3:=hid (aD.new v2 49 #[O X uo,O X ua,O X ub,Y uA un uc,Y uB um ud,Y uC up ue]);have HALv3:=hid hal;have HZv3:Hid ((v2.alloc (I #[O X uo,O X ua,O X ub,Y uA un uc,Y uB um ud,Y uC up ue] 49)).heap.size=v2.heap.size+1):=hid (by simp);clear hal;have HO3:=hid (World.ownsRow.alloc HOv2.o (I #[O X uo,O X ua,O X ub,Y uA un uc,Y uB um ud,Y uC up ue] 49));refine r1 4 fun K hK => ?_;go_simp;refine hK.o _ _ (by exact HKP.o _ HBv3.o) fun hHeld => ?_;clear hK K;try simp only [p7]
      generalize hgv3:(v2.alloc (I #[O X uo,O X ua,O X ub,Y uA un uc,Y uB um ud,Y uC up ue] 49))=v3 at *;clear hgv3;have hsv4:=HBv3.o.size;have HLC:=hid (fun (ad:Addr) (e:J (⟨v2.heap.size,0,Z⟩:Addr)=J ad) (j:Nat) (u:Value) (hu:([O X uo,O X ua,O X ub,Y uA un uc,Y uB um ud,Y uC up ue]:List Value)[j]? = J u)=>(by
       injection e with e;subst e;rw [qW,Nat.zero_add];have hc:=HUv3.o.cell
       match j,hu with
       | 0,hu=>simp at hu;subst hu;exact hc 0
       | 1,hu=>simp at hu;subst hu;exact hc 1
       | 2,hu=>simp at hu;subst hu;exact hc 2
       | 3,hu=>simp at hu;subst hu;exact hc 3
       | 4,hu=>simp at hu;subst hu;exact hc 4
       | 5,hu=>simp at hu;subst hu;exact hc 5
       | j+6,hu=>simp at hu:v3.cell? (ad.add j)=J u))
      refine r1 5 fun K hK => ?_;refine bS (.tmp 65) (.tmp 67) 47 rfl W5.heap.size 49 i0 _ 6 96 Tryz.underlying47 HI0.o HY0.o HY1.o HY2.o rfl (by decide) (Y A5 k c5) k vs (by rfl) HO3.o (J ⟨v2.heap.size,0,Z⟩) 1 1 [O X uo,O X ua,O X ub,Y uA un uc,Y uB um ud,Y uC up ue] (by rfl) rfl (fun e=>by cases e) HLC.o (by simp [Value.oneCell']) (by unfold maxLen;omega) aA aA ?_;intro A6 c6 v4 hap;have HBv4:=hid (HBv3.o.grown hap.grown HBv3.o.size (fun q hq=>(aE HO3.o hq).1));have HOv4:=hid hap.own;clear hap;refine hK.o _ _ (by exact HKP.o _ HBv4.o) fun hHeld => ?_;clear hK K;try simp only [p7]
      refine tq 6 hHeld ?_;try simp only [p7]
      refine wpAnyH_done (by kernel_rfl) ?_ _;go_wp2_with fail
      go_meet;refine ⟨A6,c6,by rw [HN1.o],hid ?_,HBv4⟩;have hlen:aT (lI (L++[((⟨uo,ua,ub⟩:Nd),uat,uk)]))=k+1:=by rw [hI,List.length_append,<-HK.o];rfl
      obtain ⟨A',n',c',e,hk⟩:=eZ (R:=aK R V0 v4) (F:=lI (L++[((⟨uo,ua,ub⟩:Nd),uat,uk)])) (by rw [hlen];exact HOv4.o) (nK (HSL.o.mixB HRO.o HA5'.o.mv.size HBv4.o) L vs (iG.keep (fun q hq=>⟨hq.to (Nat.le_refl _) HBv4.o.size,fun o=>HBv4.o.cell (p:=⟨q,o,Z⟩) (show q<W5.heap.size from aK.lt2 HRO.o HA5'.o.mv.size hq)⟩) _ _ HVF'.o)) (fun q hq=>Or.inr ⟨by have:=(aE HOv4.o hq).1;have:=HA5'.o.sz;omega,(aE HOv4.o hq).2.1⟩);injection e with e1 e2 e3;subst e1 e2 e3;rw [HN1.o];exact hk
    have hal:=aB v1 (I #[O X uo,O X ua,O X ub,Y uA un uc,Y uB um ud,Y uC up ue] 49);have HBv2:=cO HBv1 hal;have HUv2:=hid (aD.new v1 49 #[O X uo,O X ua,O X ub,Y uA un uc,Y uB um ud,Y uC up ue]);have HALv2:=hid hal;have HZv2:Hid ((v1.alloc (I #[O X uo,O X ua,O X ub,Y uA un uc,Y uB um ud,Y uC up ue] 49)).heap.size=v1.heap.size+1):=hid (by simp);clear hal;have HO2:=hid (World.ownsRow.alloc HOv1.o (I #[O X uo,O X ua,O X ub,Y uA un uc,Y uB um ud,Y uC up ue] 49));go_simp;refine hK.o _ _ (by exact HKP.o _ HBv2.o) fun hHeld => ?_;clear hK K;try simp only [p7]
    generalize hgv2:(v1.alloc (I #[O X uo,O X ua,O X ub,Y uA un uc,Y uB um ud,Y uC up ue] 49))=v2 at *;clear hgv2;have hsv3:=HBv2.o.size;refine r1 2 fun K hK => ?_;refine bS (.tmp 63) (.tmp 64) 47 rfl W5.heap.size 49 i0 _ 6 96 Tryz.underlying47 HI0.o HY0.o HY1.o HY2.o rfl (by decide) (Y (J ⟨V7.heap.size,0,Z⟩) 0 0) 0 [] (by rfl) HO2.o KB k kd vs (by rfl) hvl HNO.o (HVC'.o _ HBv2.o) HX1.o (by unfold maxLen;omega) aA aA ?_;intro A5 c5 v3 hap;rw [Nat.zero_add,List.nil_append] at hap;have HBv3:=hid (HBv2.o.grown hap.grown HBv2.o.size (fun q hq=>(aE HO2.o hq).1));have HOv3:=hid hap.own;have HGv3:=hid hap.grown;have hnev3:∀ q,(Value.slice A5 k c5).ownBlock=J q->q=V7.heap.size\/v2.heap.size<=q:=fun q hq=>by
     rcases hap.new q hq with h | h
     · left;injection h with h;exact h.symm
     exact Or.inr h
    try rw [Nat.zero_add]
    clear hap;refine hK.o _ _ (by exact HKP.o _ HBv3.o) fun hHeld => ?_;clear hK K;try simp only [p7]
    have HU3:=hid (HUv2.o.grown HGv3.o (show J v1.heap.size ≠ J V7.heap.size by have:=HZv1.o;intro e;injection e with e;omega));have hsv4:=HBv3.o.size;have HLC:=hid (fun (ad:Addr) (e:J (⟨v1.heap.size,0,Z⟩:Addr)=J ad) (j:Nat) (u:Value) (hu:([O X uo,O X ua,O X ub,Y uA un uc,Y uB um ud,Y uC up ue]:List Value)[j]? = J u)=>(by
     injection e with e;subst e;rw [qW,Nat.zero_add];have hc:=HU3.o.cell
     match j,hu with
     | 0,hu=>simp at hu;subst hu;exact hc 0
     | 1,hu=>simp at hu;subst hu;exact hc 1
     | 2,hu=>simp at hu;subst hu;exact hc 2
     | 3,hu=>simp at hu;subst hu;exact hc 3
     | 4,hu=>simp at hu;subst hu;exact hc 4
     | 5,hu=>simp at hu;subst hu;exact hc 5
     | j+6,hu=>simp at hu:v3.cell? (ad.add j)=J u))
    refine r1 5 fun K hK => ?_;refine bS (.tmp 65) (.tmp 67) 47 rfl W5.heap.size 49 i0 _ 6 96 Tryz.underlying47 HI0.o HY0.o HY1.o HY2.o rfl (by decide) (Y A5 k c5) k vs (by rfl) HOv3.o (J ⟨v1.heap.size,0,Z⟩) 1 1 [O X uo,O X ua,O X ub,Y uA un uc,Y uB um ud,Y uC up ue] (by rfl) rfl (fun e=>by cases e) HLC.o (by simp [Value.oneCell']) (by unfold maxLen;omega) aA aA ?_;intro A6 c6 v4 hap;have HBv4:=hid (HBv3.o.grown hap.grown HBv3.o.size (fun q hq=>(aE HOv3.o hq).1));have HOv4:=hid hap.own;clear hap;refine hK.o _ _ (by exact HKP.o _ HBv4.o) fun hHeld => ?_;clear hK K;try simp only [p7]
    refine tq 6 hHeld ?_;try simp only [p7]
    refine wpAnyH_done (by kernel_rfl) ?_ _;go_wp2_with fail
    go_meet;refine ⟨A6,c6,by rw [HN1.o],hid ?_,HBv4⟩;have hlen:aT (lI (L++[((⟨uo,ua,ub⟩:Nd),uat,uk)]))=k+1:=by rw [hI,List.length_append,<-HK.o];rfl
    obtain ⟨A',n',c',e,hk⟩:=eZ (R:=aK R V0 v4) (F:=lI (L++[((⟨uo,ua,ub⟩:Nd),uat,uk)])) (by rw [hlen];exact HOv4.o) (nK (HSL.o.mixB HRO.o HA5'.o.mv.size HBv4.o) L vs (iG.keep (fun q hq=>⟨hq.to (Nat.le_refl _) HBv4.o.size,fun o=>HBv4.o.cell (p:=⟨q,o,Z⟩) (show q<W5.heap.size from aK.lt2 HRO.o HA5'.o.mv.size hq)⟩) _ _ HVF'.o)) (fun q hq=>Or.inr ⟨by have:=(aE HOv4.o hq).1;have:=HA5'.o.sz;omega,(aE HOv4.o hq).2.1⟩);injection e with e1 e2 e3;subst e1 e2 e3;rw [HN1.o];exact hk
  have hal:=aB V7 (I #[O X uo,O X ua,O X ub,Y uA un uc,Y uB um ud,Y uC up ue] 49);have HBv1:=cO HD7 hal;have HUv1:=hid (aD.new V7 49 #[O X uo,O X ua,O X ub,Y uA un uc,Y uB um ud,Y uC up ue]);have HALv1:=hid hal;have HZv1:Hid ((V7.alloc (I #[O X uo,O X ua,O X ub,Y uA un uc,Y uB um ud,Y uC up ue] 49)).heap.size=V7.heap.size+1):=hid (by simp);clear hal;go_simp;refine hK.o _ _ (by exact HKP.o _ HBv1.o) fun hHeld => ?_;clear hK K;try simp only [p7]
  generalize hgv1:(V7.alloc (I #[O X uo,O X ua,O X ub,Y uA un uc,Y uB um ud,Y uC up ue] 49))=v1 at *;clear hgv1;have hal:=aB v1 (I #[] 49);have HBv2:=cO HBv1 hal;have HOv2:Hid ((v1.alloc (I #[] 49)).ownsRow W5.heap.size 49 6 (Y (J ⟨v1.heap.size,0,Z⟩) 0 0) 0 []):=hid (World.ownsRow_made v1 #[] 0 (by have:=HBv1.o.size;omega) (Nat.zero_le _) rfl);have HZv2:Hid ((v1.alloc (I #[] 49)).heap.size=v1.heap.size+1):=hid (by simp);clear hal;have HU2:=hid (HUv1.o.alloc (I #[] 49));refine r1 0 fun K hK => ?_;go_simp;refine hK.o _ _ (by exact HKP.o _ HBv2.o) fun hHeld => ?_;clear hK K;try simp only [p7]
  generalize hgv2:(v1.alloc (I #[] 49))=v2 at *;clear hgv2;have hsv3:=HBv2.o.size;refine r1 2 fun K hK => ?_;refine bS (.tmp 63) (.tmp 64) 47 rfl W5.heap.size 49 i0 _ 6 96 Tryz.underlying47 HI0.o HY0.o HY1.o HY2.o rfl (by decide) (Y (J ⟨v1.heap.size,0,Z⟩) 0 0) 0 [] (by rfl) HOv2.o KB k kd vs (by rfl) hvl HNO.o (HVC'.o _ HBv2.o) HX1.o (by unfold maxLen;omega) aA aA ?_;intro A5 c5 v3 hap;rw [Nat.zero_add,List.nil_append] at hap;have HBv3:=hid (HBv2.o.grown hap.grown HBv2.o.size (fun q hq=>(aE HOv2.o hq).1));have HOv3:=hid hap.own;have HGv3:=hid hap.grown;have hnev3:∀ q,(Value.slice A5 k c5).ownBlock=J q->q=v1.heap.size\/v2.heap.size<=q:=fun q hq=>by
   rcases hap.new q hq with h | h
   · left;injection h with h;exact h.symm
   exact Or.inr h
  try rw [Nat.zero_add]
  clear hap;refine hK.o _ _ (by exact HKP.o _ HBv3.o) fun hHeld => ?_;clear hK K;try simp only [p7]
  have HU3:=hid (HU2.o.grown HGv3.o (show J V7.heap.size ≠ J v1.heap.size by have:=HZv1.o;intro e;injection e with e;omega));have hsv4:=HBv3.o.size;have HLC:=hid (fun (ad:Addr) (e:J (⟨V7.heap.size,0,Z⟩:Addr)=J ad) (j:Nat) (u:Value) (hu:([O X uo,O X ua,O X ub,Y uA un uc,Y uB um ud,Y uC up ue]:List Value)[j]? = J u)=>(by
   injection e with e;subst e;rw [qW,Nat.zero_add];have hc:=HU3.o.cell
   match j,hu with
   | 0,hu=>simp at hu;subst hu;exact hc 0
   | 1,hu=>simp at hu;subst hu;exact hc 1
   | 2,hu=>simp at hu;subst hu;exact hc 2
   | 3,hu=>simp at hu;subst hu;exact hc 3
   | 4,hu=>simp at hu;subst hu;exact hc 4
   | 5,hu=>simp at hu;subst hu;exact hc 5
   | j+6,hu=>simp at hu:v3.cell? (ad.add j)=J u))
  refine r1 5 fun K hK => ?_;refine bS (.tmp 65) (.tmp 67) 47 rfl W5.heap.size 49 i0 _ 6 96 Tryz.underlying47 HI0.o HY0.o HY1.o HY2.o rfl (by decide) (Y A5 k c5) k vs (by rfl) HOv3.o (J ⟨V7.heap.size,0,Z⟩) 1 1 [O X uo,O X ua,O X ub,Y uA un uc,Y uB um ud,Y uC up ue] (by rfl) rfl (fun e=>by cases e) HLC.o (by simp [Value.oneCell']) (by unfold maxLen;omega) aA aA ?_;intro A6 c6 v4 hap;have HBv4:=hid (HBv3.o.grown hap.grown HBv3.o.size (fun q hq=>(aE HOv3.o hq).1));have HOv4:=hid hap.own;clear hap;refine hK.o _ _ (by exact HKP.o _ HBv4.o) fun hHeld => ?_;clear hK K;try simp only [p7]
  refine tq 6 hHeld ?_;try simp only [p7]
  refine wpAnyH_done (by kernel_rfl) ?_ _;go_wp2_with fail
  go_meet;refine ⟨A6,c6,by rw [HN1.o],hid ?_,HBv4⟩;have hlen:aT (lI (L++[((⟨uo,ua,ub⟩:Nd),uat,uk)]))=k+1:=by rw [hI,List.length_append,<-HK.o];rfl
  obtain ⟨A',n',c',e,hk⟩:=eZ (R:=aK R V0 v4) (F:=lI (L++[((⟨uo,ua,ub⟩:Nd),uat,uk)])) (by rw [hlen];exact HOv4.o) (nK (HSL.o.mixB HRO.o HA5'.o.mv.size HBv4.o) L vs (iG.keep (fun q hq=>⟨hq.to (Nat.le_refl _) HBv4.o.size,fun o=>HBv4.o.cell (p:=⟨q,o,Z⟩) (show q<W5.heap.size from aK.lt2 HRO.o HA5'.o.mv.size hq)⟩) _ _ HVF'.o)) (fun q hq=>Or.inr ⟨by have:=(aE HOv4.o hq).1;have:=HA5'.o.sz;omega,(aE HOv4.o hq).2.1⟩);injection e with e1 e2 e3;subst e1 e2 e3;rw [HN1.o];exact hk
 case rest =>
 obtain ⟨AA,kcw,rfl,hrow,hbw⟩:=hcut;clear HA4;have HA6:=hid (HA5'.o.below hbw.o);have HZ6:=hid (HZB'.o.below hbw.o HZB'.o.lt);have HW6:=hid (HWB'.o.below hbw.o HWB'.o.lt);have HZT6:=hid (HZT'.o.mixB HRO.o HA5'.o.mv.size hbw.o);have HWT6:=hid (HWT'.o.mixB HRO.o HA5'.o.mv.size hbw.o);have HN4:Hid (n1<=5000):=hid (by have:=HN1.o;omega);obtain ⟨L2,hL2⟩ : ∃ l,l=L++[((⟨uo,ua,ub⟩:Nd),uat,uk)]:=⟨_,rfl⟩;have HK2:Hid (n1=L2.length):=hid (by rw [hL2,HN1.o,HK.o];simp);rw [<-hL2] at hrow HRES HLA;rw [<-HK2.o] at HRES;have zz6:=aD.cell HZ6.o;have zw6:=aD.cell HW6.o;clear hL2 HA5' HZB' HWB' HZT' HWT' HS45' HVC' HVF' HSL HBD HX1 HNO HNUL;by_cases hle:(n1:Int)<=(pz:Int)
 · have d1:decide ((n1:Int)<=(pz:Int))=true:=decide_eq_true hle;have d2:decide (n1<=pz)=true:=decide_eq_true aA;have HRZ:=hid (HRES.o.trans (if_pos hle));clear hle HRES;go_wp2_with fail
   refine (uX HA6.o.st (gX.mixed HRO.o HGV.o HA6.o.mv.size) HWT6.o HSZ.o).mono ?_;rintro e w9 ⟨hm9,⟨eA,en,ec,eB,em,ed,eC,ep,ee⟩,⟨⟨eo,ea,eb⟩,eat,ek⟩,rfl,ht9,hr9⟩;have HZ9:=hid (HA6.o.r.movedO (by have:=HL.o;omega) hm9);have HM9:=hid (HA6.o.mv.trans (row':=Z) hm9 (fun _ e=>by cases e));have HT9:=hid (cQ.mix2 ht9 HA6.o.sz hm9.size);have HR9:=hid hr9;have zr9:=aD.cell HZ9.o;have zf9:=aD.frozen HZ9.o;clear hm9 ht9 hr9;go_wp2_with fail
   refine bodyPost_ret (v:=.agg #[O X eo,O X ea,O X eb,Y eA en ec,Y eB em ed,Y eC ep ee]) ?_ rfl ?_
   · exact dI (g:=w.heap.size+1+1) (aW HZ9.o _ _ _ _ _ _) (by simp)
   rw [HRZ.o];exact eD (V:=V0) (t:=⟨eA,en,ec,eB,em,ed,eC,ep,ee⟩) (y:=((⟨eo,ea,eb⟩:Nd),eat,ek)) HRO.o HL.o aA (by have:=HV0.o;omega) HM9.o HT9.o HR9.o
 have d1:decide ((n1:Int)<=(pz:Int))=false:=decide_eq_false hle;have d2:decide (n1<=pz)=false:=decide_eq_false aA;have hlt:pz<n1:=aA;have d3:decide (pz<n1)=true:=decide_eq_true hlt;have d4:decide ((pz:Int)<(n1:Int))=true:=decide_eq_true aA;have HRES2:=hid (HRES.o.trans (if_neg hle));have hpl:pz<L2.length:=by rw [<-HK2.o];exact hlt
 obtain ⟨bq0,oq0,⟨qA,qn,qc,qB,qm,qd,qC,qp,qe⟩,hBq,hbq,hcq,htq⟩:=dR.nthR hrow.o (j:=pz) hlt;rw [show cT (lI L2) pz=L2[pz] from by rw [jO,List.getD_eq_getElem?_getD,List.getElem?_eq_getElem hpl];rfl] at hcq htq;rw [show L2.getD pz (⟨0,0,0⟩,[],.nil)=L2[pz] from by rw [List.getD_eq_getElem?_getD,List.getElem?_eq_getElem hpl];rfl] at HRES2;have hoy:=HLA.o L2[pz] (List.getElem_mem hpl);obtain ⟨⟨⟨qo,qa,qb⟩,qat,qk⟩,hli⟩ : ∃ y,y=L2[pz]:=⟨_,rfl⟩;rw [<-hli] at hcq htq hoy HRES2;subst hBq;obtain ⟨k0,k1,k2,k3,k4,k5⟩:=hcq;simp only at k0 k1 k2 k3 k4 k5;have HAQ:=hid (fW (gX.lt (gX.mixed HRO.o HGV.o HA6.o.mv.size)) htq hoy.1.rt);obtain ⟨⟨⟨⟨yo,ya,yb⟩,yat,yk⟩,YL⟩,hqq⟩ : ∃ q,q=cP ((⟨qo,qa,qb⟩:Nd),qat,qk):=⟨_,rfl⟩;rw [<-hqq] at HAQ HRES2;unfold LV at HAQ;simp only at HAQ HRES2;have HLT:=hid hlt;clear hqq hli htq hoy hpl hle HRES hbq;go_wp2_with fail
 refine (HAQ.o).mono ?_;rintro e w7 ⟨hb7,⟨yA,yn,yc,yB,ym,yd,yC,yp,ye⟩,YB,yd9,rfl,hty,hky,_⟩;have hb8:=hb7.trans ((aB w7 (I #[O X yo,O X ya,O X yb,Y yA yn yc,Y yB ym yd,Y yC yp ye] 49)).mono hb7.size);have HA8:=hid (HA6.o.below hb8);have HZ8:=hid (HZ6.o.below hb8 HZ6.o.lt);have HZT8:=hid (HZT6.o.mixB HRO.o HA6.o.mv.size hb8);have HRW8:=hid (hrow.o.keep (R':=aK R V0 wc) (w':=w7.alloc (I #[O X yo,O X ya,O X yb,Y yA yn yc,Y yB ym yd,Y yC yp ye] 49)) fun q hq=>⟨hq,fun o=>hb8.cell (p:=⟨q,o,Z⟩) (show q<wc.heap.size from aK.lt2 HRO.o HA6.o.mv.size hq)⟩);have HY8:=hid (aD.new w7 49 #[O X yo,O X ya,O X yb,Y yA yn yc,Y yB ym yd,Y yC yp ye]);have HSC:Hid (wc.heap.size<=(w7.alloc (I #[O X yo,O X ya,O X yb,Y yA yn yc,Y yB ym yd,Y yC yp ye] 49)).heap.size):=hid hb8.size;have zy8:=aD.cell HY8.o;have zz8:=aD.cell HZ8.o;clear hb7 hb8 hty hky k0 k1 k2 k3 k4 k5 zz6 zw6;by_cases t1:yo=10;rotate_left
 · have u1:(yo != 10)=true:=by simpa using t1
   have HRZ:=hid (HRES2.o.trans (if_neg t1));clear t1 HRES2;go_wp2_with fail
   refine (fQ HA8.o.st 24 (by decide) (aK R V0 (w7.alloc (I #[O X yo,O X ya,O X yb,Y yA yn yc,Y yB ym yd,Y yC yp ye] 49)))).mono ?_;rintro e w9 ⟨hm9,⟨eA,en,ec,eB,em,ed,eC,ep,ee⟩,⟨⟨eo,ea,eb⟩,eat,ek⟩,rfl,ht9,hr9⟩;have HZ9:=hid (HA8.o.r.movedO (by have:=HL.o;omega) hm9);have HM9:=hid (HA8.o.mv.trans (row':=Z) hm9 (fun _ e=>by cases e));have HT9:=hid (cQ.mix2 ht9 HA8.o.sz hm9.size);have HR9:=hid hr9;have zr9:=aD.cell HZ9.o;have zf9:=aD.frozen HZ9.o;clear hm9 ht9 hr9;go_wp2_with fail
   refine bodyPost_ret (v:=.agg #[O X eo,O X ea,O X eb,Y eA en ec,Y eB em ed,Y eC ep ee]) ?_ rfl ?_
   · exact dI (g:=w.heap.size+1+1) (aW HZ9.o _ _ _ _ _ _) (by simp)
   rw [HRZ.o];exact eD (V:=V0) (t:=⟨eA,en,ec,eB,em,ed,eC,ep,ee⟩) (y:=((⟨eo,ea,eb⟩:Nd),eat,ek)) HRO.o HL.o aA (by have:=HV0.o;omega) HM9.o HT9.o HR9.o
 have u1:(yo != 10)=false:=by simpa using t1
 have HRES3:=hid (HRES2.o.trans (if_pos t1));have HOPN:=hid (BY (b:=b) (gX.lt (gX.mixed HRO.o HGV.o HA8.o.mv.size)) HZT8.o HF.o rfl);have HUF:=hid (fun h=>sQ HF.o rfl h);obtain ⟨⟨⟨⟨so,sa,sb⟩,sat,sk⟩,er1⟩,hqq⟩ : ∃ q,q=iN ((⟨12,(A:Int),zb⟩:Nd),zat,zk):=⟨_,rfl⟩;rw [<-hqq] at HOPN HRES3 HUF;simp only at HOPN HRES3 HUF;clear hqq t1 HRES2;go_wp2_with fail
 refine (HOPN.o).mono ?_;rintro e w8 ⟨hb8,⟨sA,sn,sc,sB,sm,sd,sC,sp,se⟩,rfl,hts⟩;have hb9:=hb8.trans ((aB w8 (I #[O X so,O X sa,O X sb,Y sA sn sc,Y sB sm sd,Y sC sp se] 49)).mono hb8.size);have HA9:=hid (HA8.o.below hb9);have HTS:=hid ((cQ.mix2 hts HA8.o.sz hb8.size).mixB HRO.o (HA8.o.below hb8).mv.size (aB w8 (I #[O X so,O X sa,O X sb,Y sA sn sc,Y sB sm sd,Y sC sp se] 49)));have HRW9:=hid (HRW8.o.keep (R':=aK R V0 wc) (w':=w8.alloc (I #[O X so,O X sa,O X sb,Y sA sn sc,Y sB sm sd,Y sC sp se] 49)) fun q hq=>⟨hq,fun o=>hb9.cell (p:=⟨q,o,Z⟩) (show q<(w7.alloc (I #[O X yo,O X ya,O X yb,Y yA yn yc,Y yB ym yd,Y yC yp ye] 49)).heap.size by have:=aK.lt2 HRO.o HA6.o.mv.size hq;have:=HSC.o;omega)⟩);have HSD:Hid (wc.heap.size<(w8.alloc (I #[O X so,O X sa,O X sb,Y sA sn sc,Y sB sm sd,Y sC sp se] 49)).heap.size):=hid (by have h1:=hb8.size;have h2:=HSC.o;have h3:(w8.alloc (I #[O X so,O X sa,O X sb,Y sA sn sc,Y sB sm sd,Y sC sp se] 49)).heap.size=w8.heap.size+1:=(by simp);omega);have zs9:=aD.cell (aD.new w8 49 #[O X so,O X sa,O X sb,Y sA sn sc,Y sB sm sd,Y sC sp se]);clear hb8 hb9 hts zy8 zz8;by_cases he:er1=0;rotate_left
 · have u2:(er1 != 0)=true:=by simpa using he
   have HRZ:=hid (HRES3.o.trans (if_neg he));have HE:=hid he;clear he HRES3 HUF;go_wp2_with fail
   refine (fQ HA9.o.st er1 HE.o (aK R V0 (w8.alloc (I #[O X so,O X sa,O X sb,Y sA sn sc,Y sB sm sd,Y sC sp se] 49)))).mono ?_;rintro e w9 ⟨hm9,⟨eA,en,ec,eB,em,ed,eC,ep,ee⟩,⟨⟨eo,ea,eb⟩,eat,ek⟩,rfl,ht9,hr9⟩;have HZ9:=hid (HA9.o.r.movedO (by have:=HL.o;omega) hm9);have HM9:=hid (HA9.o.mv.trans (row':=Z) hm9 (fun _ e=>by cases e));have HT9:=hid (cQ.mix2 ht9 HA9.o.sz hm9.size);have HR9:=hid hr9;have zr9:=aD.cell HZ9.o;have zf9:=aD.frozen HZ9.o;clear hm9 ht9 hr9;go_wp2_with fail
   refine bodyPost_ret (v:=.agg #[O X eo,O X ea,O X eb,Y eA en ec,Y eB em ed,Y eC ep ee]) ?_ rfl ?_
   · exact dI (g:=w.heap.size+1+1) (aW HZ9.o _ _ _ _ _ _) (by simp)
   rw [HRZ.o];exact eD (V:=V0) (t:=⟨eA,en,ec,eB,em,ed,eC,ep,ee⟩) (y:=((⟨eo,ea,eb⟩:Nd),eat,ek)) HRO.o HL.o aA (by have:=HV0.o;omega) HM9.o HT9.o HR9.o
 have HFS:=hid (HUF.o he);have HRES4:=hid (HRES3.o.trans (if_pos he));subst he;obtain ⟨w9,hw9⟩ : ∃ W:World,W=w8.alloc (I #[O X so,O X sa,O X sb,Y sA sn sc,Y sB sm sd,Y sC sp se] 49):=⟨_,rfl⟩;have HC9:=hid (HH.o (w8.alloc (I #[O X so,O X sa,O X sb,Y sA sn sc,Y sB sm sd,Y sC sp se] 49)) f (aK R V0 (w8.alloc (I #[O X so,O X sa,O X sb,Y sA sn sc,Y sB sm sd,Y sC sp se] 49))) ⟨sA,sn,sc,sB,sm,sd,sC,sp,se⟩ ((⟨so,sa,sb⟩:Nd),sat,sk) hf hf1 HA9.o.st (gX.mixed HRO.o HGV.o HA9.o.mv.size) HTS.o HFS.o);have HFT9:=hid (HFT1.o.1 f ((⟨so,sa,sb⟩:Nd),sat,sk));have HLO:=HLA;have hn14:n1<=5000:=HN4.o;clear HRES3 HUF;obtain ⟨rv,hrv⟩ : ∃ r,r=eO b (d+1) f ((⟨so,sa,sb⟩:Nd),sat,sk):=⟨_,rfl⟩;have HRV:=hid hrv;rw [<-hrv] at HC9 HRES4;clear hrv hw9;go_wp2_with fail
 refine (HC9.o).mono ?_;rintro e wA ⟨hmA,⟨cA,cn,cc,cB,cm,cd,cC,cp,ce⟩,⟨⟨co,ca,cb⟩,cat,ck⟩,rfl,htA,hrA⟩;have HSP:Hid ((∃ f',(f'<d/\f'<=100000)/\gY w0 g v b f' 0 wA/\jZ b ((⟨co,ca,cb⟩:Nd),cat,ck)/\res=givens (fB b d) (L2.drop 0) ((⟨co,ca,cb⟩:Nd),cat,ck) f')\/(∃ z f',z ≠ 0/\res=.er z/\gY w0 g v b f' z wA)):=hid (by
  cases rv with
  | er z=>exact Or.inr ⟨z,hrA.2.choose,hrA.1,HRES4.o,hrA.2.choose_spec⟩
  | ok u2 f2 =>
   obtain ⟨hy,hs⟩:=hrA;have hF:=HFT9.o u2 f2 HFS.o HRV.o.symm;subst hy;exact Or.inl ⟨f2,⟨by have:=hF.2;omega,by have:=hF.2;omega⟩,hs,hF.1,by rw [List.drop_zero];exact HRES4.o⟩)
 obtain ⟨fA,zA,hsA⟩ : ∃ fA zA,gY w0 g v b fA zA wA:=by rcases HSP.o with ⟨f',_,h,_⟩ | ⟨z,f',_,_,h⟩<;>exact ⟨_,_,h⟩
 have HAA:=hid (HA9.o.call HL.o hmA hsA);have hbA:=aB wA (I #[O X co,O X ca,O X cb,Y cA cn cc,Y cB cm cd,Y cC cp ce] 49);have HAB:=hid (HAA.o.below hbA);have hszB:(wA.alloc (I #[O X co,O X ca,O X cb,Y cA cn cc,Y cB cm cd,Y cC cp ce] 49)).heap.size=wA.heap.size+1:=by simp
 have HKW:=hid (aD.new wA 49 #[O X co,O X ca,O X cb,Y cA cn cc,Y cB cm cd,Y cC cp ce]);have HTB:=hid ((cQ.mix2 htA HA9.o.sz hmA.size:cQ (aK R V0 wA) wA _ _).keep (R':=fun q=>aK R V0 (wA.alloc (I #[O X co,O X ca,O X cb,Y cA cn cc,Y cB cm cd,Y cC cp ce] 49)) q/\q ≠ wA.heap.size) (w':=wA.alloc (I #[O X co,O X ca,O X cb,Y cA cn cc,Y cB cm cd,Y cC cp ce] 49)) fun q hq=>(by
  have hlt:q<wA.heap.size:=aK.lt2 HRO.o HAA.o.mv.size hq;exact ⟨⟨hq.to (Nat.le_refl _) hbA.size,by omega⟩,fun o=>hbA.cell (p:=⟨q,o,Z⟩) hlt⟩))
 have HKDB:=hid ((HRW9.o.movedO (gX.moved (gX.mixed HRO.o HGV.o HA6.o.mv.size) (Nat.le_of_lt HSD.o)) hmA).keep (R':=aK R V0 wc) (w':=wA.alloc (I #[O X co,O X ca,O X cb,Y cA cn cc,Y cB cm cd,Y cC cp ce] 49)) fun q hq=>⟨hq,fun o=>hbA.cell (p:=⟨q,o,Z⟩) (show q<wA.heap.size by have:=aK.lt2 HRO.o HA6.o.mv.size hq;have:=HSD.o;have:=hmA.size;omega)⟩);obtain ⟨RA,hRA⟩ : ∃ RA:Nat->Prop,RA=aK R V0 wc:=⟨_,rfl⟩;rw [<-hRA] at HKDB;have HRA:Hid (∀ q,RA q->aK R V0 (wA.alloc (I #[O X co,O X ca,O X cb,Y cA cn cc,Y cB cm cd,Y cC cp ce] 49)) q/\q ≠ wA.heap.size):=hid (fun q hq=>by
  rw [hRA] at hq;have h1:=aK.lt2 HRO.o HA6.o.mv.size hq;have h2:=HSD.o;have h3:=hmA.size;exact ⟨hq.to (Nat.le_refl _) (by rw [hszB];omega),by omega⟩)
 have HG13:Hid (wA.heap.size ≠ g/\(wA.heap.size ≠ g/\w.heap.size+1+1<wA.heap.size)):=hid (by
  have:=HAA.o.r.lt;have:=HL.o;omega)
 have HW9:Hid (w.heap.size<=(wA.alloc (I #[O X co,O X ca,O X cb,Y cA cn cc,Y cB cm cd,Y cC cp ce] 49)).heap.size):=hid (by rw [hszB];have:=HAA.o.mv.size;omega);have zcB:=aD.cell HKW.o;have HV9:Hid (V0.heap.size<=(wA.alloc (I #[O X co,O X ca,O X cb,Y cA cn cc,Y cB cm cd,Y cC cp ce] 49)).heap.size):=hid HAB.o.sz;clear hRA hbA hszB;have HST0:Hid ((∃ f',(f'<d/\f'<=100000)/\s6 w0 g v b w V0 #[O X xo,O X xa,O X xb,Y xA xn xc,Y xB xm xd,Y xC xp xe] #[O X uo,O X ua,O X ub,Y uA un uc,Y uB um ud,Y uC up ue] f' 0 (wA.alloc (I #[O X co,O X ca,O X cb,Y cA cn cc,Y cB cm cd,Y cC cp ce] 49))/\jZ b ((⟨co,ca,cb⟩:Nd),cat,ck)/\res=givens (fB b d) (L2.drop 0) ((⟨co,ca,cb⟩:Nd),cat,ck) f')\/(∃ z f',z ≠ 0/\res=.er z/\s6 w0 g v b w V0 #[O X xo,O X xa,O X xb,Y xA xn xc,Y xB xm xd,Y xC xp xe] #[O X uo,O X ua,O X ub,Y uA un uc,Y uB um ud,Y uC up ue] f' z (wA.alloc (I #[O X co,O X ca,O X cb,Y cA cn cc,Y cB cm cd,Y cC cp ce] 49)))):=hid (by
  rcases HSP.o with ⟨f',h1,h2,h3,h4⟩ | ⟨z,f',h1,h2,h3⟩
  · exact Or.inl ⟨f',h1,(HA9.o.call HL.o hmA h2).below (aB wA (I #[O X co,O X ca,O X cb,Y cA cn cc,Y cB cm cd,Y cC cp ce] 49)),h3,h4⟩
  exact Or.inr ⟨z,f',h1,h2,(HA9.o.call HL.o hmA h3).below (aB wA (I #[O X co,O X ca,O X cb,Y cA cn cc,Y cB cm cd,Y cC cp ce] 49))⟩)
 clear hmA htA hsA hrA zs9;go_wp2_with fail
 go_loopw [16] (fun iv wr=>∃ (i:Nat) (yc:TT) (tc:fZ),iv=O X (i:Int)/\i<=n1/\Hid (aD wr wA.heap.size 49 (dE tc yc.1))/\Hid (cQ (fun q=>aK R V0 wr q/\q ≠ wA.heap.size) wr tc yc)/\Hid (dR RA wr (J ⟨bq0,oq0,Z⟩) n1 kcw (lI L2))/\Hid ((wA.alloc (I #[O X co,O X ca,O X cb,Y cA cn cc,Y cB cm cd,Y cC cp ce] 49)).heap.size<=wr.heap.size)/\Hid ((∃ f',(f'<d/\f'<=100000)/\s6 w0 g v b w V0 #[O X xo,O X xa,O X xb,Y xA xn xc,Y xB xm xd,Y xC xp xe] #[O X uo,O X ua,O X ub,Y uA un uc,Y uB um ud,Y uC up ue] f' 0 wr/\jZ b yc/\res=givens (fB b d) (L2.drop i) yc f')\/(∃ z f',z ≠ 0/\res=.er z/\s6 w0 g v b w V0 #[O X xo,O X xa,O X xb,Y xA xn xc,Y xB xm xd,Y xC xp xe] #[O X uo,O X ua,O X ub,Y uA un uc,Y uB um ud,Y uC up ue] f' z wr))) (fun iv _=>n1-(intOf iv).toNat)
 case atStart=>exact ⟨0,((⟨co,ca,cb⟩:Nd),cat,ck),⟨cA,cn,cc,cB,cm,cd,cC,cp,ce⟩,rfl,Nat.zero_le _,HKW,HTB,HKDB,hid (Nat.le_refl _),HST0⟩
 case round =>
  obtain ⟨i,⟨⟨co,ca,cb⟩,cat,ck⟩,⟨cA,cn,cc,cB,cm,cd,cC,cp,ce⟩,rfl,hi,hkc,htc,hka,hws,hst⟩:=hrel;simp only at hkc;by_cases hlt:i<n1;rotate_left
  · have y1:decide ((i:Int)<(n1:Int))=false:=decide_eq_false aA;have y2:decide (i<n1)=false:=decide_eq_false hlt;have zk:=aD.cell hkc.o;have hst':=hst.o;have HGE:Hid (n1<=i):=hid aA;clear hst hlt;have HTC:=hid (htc.o.keep (R':=aK R V0 wr) (w':=wr) fun q hq=>⟨hq.1,fun o=>rfl⟩);rcases hst' with ⟨f',hff,hA,hok,hrs⟩ | ⟨z,f',hz,hrs,hA⟩
    · have HA8:=hid hA;have HRZ:Hid (res=.ok ((⟨co,ca,cb⟩:Nd),cat,ck) f'):=hid (by rw [hrs,List.drop_of_length_le (by rw [<-HK2.o];exact HGE.o)];rfl);have zz:=aD.cell HA8.o.r;have zf:=aD.frozen HA8.o.r;clear hA hok hrs;go_wp2_with fail
      refine bodyPost_ret (v:=.agg #[O X co,O X ca,O X cb,Y cA cn cc,Y cB cm cd,Y cC cp ce]) ?_ rfl ?_
      · exact dI (g:=w.heap.size+1+1) (aW HA8.o.r _ _ _ _ _ _) (by simp)
      rw [HRZ.o];exact HA8.o.fin (t:=⟨cA,cn,cc,cB,cm,cd,cC,cp,ce⟩) (y:=((⟨co,ca,cb⟩:Nd),cat,ck)) HRO.o HL.o HV0.o HTC.o ⟨rfl,HA8.o.st⟩
    have HA8:=hid hA;have HZ:=hid hz;have HRZ:=hid hrs;have zz:=aD.cell HA8.o.r;have zf:=aD.frozen HA8.o.r;clear hA hz hrs;go_wp2_with fail
    refine bodyPost_ret (v:=.agg #[O X co,O X ca,O X cb,Y cA cn cc,Y cB cm cd,Y cC cp ce]) ?_ rfl ?_
    · exact dI (g:=w.heap.size+1+1) (aW HA8.o.r _ _ _ _ _ _) (by simp)
    rw [HRZ.o];exact HA8.o.fin (t:=⟨cA,cn,cc,cB,cm,cd,cC,cp,ce⟩) (y:=((⟨co,ca,cb⟩:Nd),cat,ck)) HRO.o HL.o HV0.o HTC.o ⟨HZ.o,f',HA8.o.st⟩
  have y1:decide ((i:Int)<(n1:Int))=true:=decide_eq_true aA;have y2:decide (i<n1)=true:=decide_eq_true hlt;have hil:i<L2.length:=by rw [<-HK2.o];exact hlt
  obtain ⟨bq,oq,⟨qA,qn,qc,qB,qm,qd,qC,qp,qe⟩,hBq,hbq,hcq,htq⟩:=dR.nthR hka.o (j:=i) hlt;rw [show cT (lI L2) i=L2[i] from by rw [jO,List.getD_eq_getElem?_getD,List.getElem?_eq_getElem hil];rfl] at hcq htq;have hoy:=HLO.o L2[i] (List.getElem_mem hil);have hdr:L2.drop i=L2[i]::L2.drop (i+1):=List.drop_eq_getElem_cons hil;obtain ⟨⟨⟨qo,qa,qb⟩,qat,qk⟩,hli⟩ : ∃ y,y=L2[i]:=⟨_,rfl⟩;rw [<-hli] at hcq htq hoy hdr;have HHQ:=hid htq;have HOY:=hid hoy;have HDR:=hid hdr;have HBQ:=hid hbq;obtain ⟨rfl,rfl⟩:bq=bq0/\oq=oq0:=by injection hBq with e;injection e with e1 e2;exact ⟨e1.symm,e2.symm⟩
  have hi0:(0:Int)<=(i:Int):=aA;have hi1:(i:Int)<(n1:Int):=aA;have HRW:=hid (fun q (hq:RA q)=>(⟨⟨(HRA.o q hq).1.to (Nat.le_refl _) hws.o,(HRA.o q hq).2⟩,rfl⟩:(aK R V0 wr q/\q ≠ wA.heap.size)/\True=True));obtain ⟨k0,k1,k2,k3,k4,k5⟩:=hcq;simp only at k0 k1 k2 k3 k4 k5;have zk:=aD.cell hkc.o;have HS0:Hid (wr.cell? ⟨wA.heap.size,0,Z⟩=J (O X co)/\wr.cell? ⟨wA.heap.size,1,Z⟩=J (O X ca)/\wr.cell? ⟨wA.heap.size,2,Z⟩=J (O X cb)/\wr.cell? ⟨wA.heap.size,3,Z⟩=J (Y cA cn cc)/\wr.cell? ⟨wA.heap.size,4,Z⟩=J (Y cB cm cd)/\wr.cell? ⟨wA.heap.size,5,Z⟩=J (Y cC cp ce)/\wr.cell? ⟨bq,oq+i*6,Z⟩=J (O X qo)/\wr.cell? ⟨bq,oq+i*6+1,Z⟩=J (O X qa)/\wr.cell? ⟨bq,oq+i*6+2,Z⟩=J (O X qb)/\wr.cell? ⟨bq,oq+i*6+3,Z⟩=J (Y qA qn qc)/\wr.cell? ⟨bq,oq+i*6+4,Z⟩=J (Y qB qm qd)/\wr.cell? ⟨bq,oq+i*6+5,Z⟩=J (Y qC qp qe)):=hid ⟨zk 0,zk 1,zk 2,zk 3,zk 4,zk 5,k0,k1,k2,k3,k4,k5⟩;have hbqn:bq ≠ g/\bq<wr.heap.size:=⟨gQ HRO.o HGV.o (HRA.o bq hbq).1,by
   rcases (HRA.o bq hbq).1 with h | h
   · have:=(HRO.o bq h).1;have:=HL.o;have:=hws.o;have:=HW9.o;omega
   have:=h.2;have:=hws.o;have:=HW9.o;omega⟩
  have HBN:=hid hbqn;have HKP:=hid (fun (W:World) (hm:aG (fun q=>q=g) Z wr W)=>(by
   have hc:∀ q,q<wr.heap.size->q ≠ g->∀ o,W.cell? ⟨q,o,Z⟩=wr.cell? ⟨q,o,Z⟩:=fun q hl hq o=>aH (hm.block q hl hq (by simp)) o;have e:=hc bq HBN.o.2 HBN.o.1;have f:=hc wA.heap.size hkc.o.lt HG13.o.1;obtain ⟨k0,k1,k2,k3,k4,k5,k6,k7,k8,k9,k10,k11⟩:=HS0.o;exact ⟨(f _).trans k0,(f _).trans k1,(f _).trans k2,(f _).trans k3,(f _).trans k4,(f _).trans k5,(e _).trans k6,(e _).trans k7,(e _).trans k8,(e _).trans k9,(e _).trans k10,(e _).trans k11⟩:W.cell? ⟨wA.heap.size,0,Z⟩=J (O X co)/\W.cell? ⟨wA.heap.size,1,Z⟩=J (O X ca)/\W.cell? ⟨wA.heap.size,2,Z⟩=J (O X cb)/\W.cell? ⟨wA.heap.size,3,Z⟩=J (Y cA cn cc)/\W.cell? ⟨wA.heap.size,4,Z⟩=J (Y cB cm cd)/\W.cell? ⟨wA.heap.size,5,Z⟩=J (Y cC cp ce)/\W.cell? ⟨bq,oq+i*6,Z⟩=J (O X qo)/\W.cell? ⟨bq,oq+i*6+1,Z⟩=J (O X qa)/\W.cell? ⟨bq,oq+i*6+2,Z⟩=J (O X qb)/\W.cell? ⟨bq,oq+i*6+3,Z⟩=J (Y qA qn qc)/\W.cell? ⟨bq,oq+i*6+4,Z⟩=J (Y qB qm qd)/\W.cell? ⟨bq,oq+i*6+5,Z⟩=J (Y qC qp qe)))
  have HMD:Hid (aG (fun q=>q=g) Z wr wr.drew):=hid (aG.of_below (aI (Below.refl wr.heap.size wr) 1));have HBD:Hid (Below wr.heap.size wr wr.drew):=hid (aI (Below.refl wr.heap.size wr) 1);have hdz:wr.drew.heap.size=wr.heap.size:=rfl;clear htq hoy hdr hli hil hbq k0 k1 k2 k3 k4 k5 zk hbqn;have hst':=hst.o;clear hst;rcases hst' with ⟨f',hff,hA,hok,hrs⟩ | ⟨z,f',hz,hrs,hA⟩;rotate_left
  · have HA8:=hid (hA.below HBD.o);have HZ:=hid hz;have HRZ:=hid hrs;have HTC8:=hid (htc.o.keep (R':=fun q=>aK R V0 wr q/\q ≠ wA.heap.size) (w':=wr.drew) fun q hq=>⟨hq,fun o=>HBD.o.cell (p:=⟨q,o,Z⟩) (show q<wr.heap.size from aK.lt2 HRO.o (by have:=hws.o;have:=HW9.o;omega) hq.1)⟩);have HKA8:=hid (hka.o.keep (R':=RA) (w':=wr.drew) fun q hq=>⟨hq,fun o=>HBD.o.cell (p:=⟨q,o,Z⟩) (show q<wr.heap.size from aK.lt2 HRO.o (by have:=hws.o;have:=HW9.o;omega) (HRW.o q hq).1.1)⟩);have HKC8:=hid (hkc.o.below HBD.o hkc.o.lt);clear hA hz hrs;go_wp2_with fail
    refine cF 7 (fun w'=>w'.cell? ⟨wA.heap.size,0,Z⟩=J (O X co)/\w'.cell? ⟨wA.heap.size,1,Z⟩=J (O X ca)/\w'.cell? ⟨wA.heap.size,2,Z⟩=J (O X cb)/\w'.cell? ⟨wA.heap.size,3,Z⟩=J (Y cA cn cc)/\w'.cell? ⟨wA.heap.size,4,Z⟩=J (Y cB cm cd)/\w'.cell? ⟨wA.heap.size,5,Z⟩=J (Y cC cp ce)/\w'.cell? ⟨bq,oq+i*6,Z⟩=J (O X qo)/\w'.cell? ⟨bq,oq+i*6+1,Z⟩=J (O X qa)/\w'.cell? ⟨bq,oq+i*6+2,Z⟩=J (O X qb)/\w'.cell? ⟨bq,oq+i*6+3,Z⟩=J (Y qA qn qc)/\w'.cell? ⟨bq,oq+i*6+4,Z⟩=J (Y qB qm qd)/\w'.cell? ⟨bq,oq+i*6+5,Z⟩=J (Y qC qp qe)) (by kernel_rfl) ?_ (fun hHeld => ?_)
    · (try dsimp only);exact HKP.o _ HMD.o
    refine te 0 hHeld ?_;try simp only [p7]
    refine te 1 hHeld ?_;try simp only [p7]
    refine te 2 hHeld ?_;try simp only [p7]
    refine te 3 hHeld ?_;try simp only [p7]
    refine te 4 hHeld ?_;try simp only [p7]
    refine te 5 hHeld ?_;try simp only [p7]
    refine aO (i:=6) (by kernel_rfl) rfl rfl (fun K hK => ?_);go_simp;go_at_call 47
    refine (lQ HA8.o.st HZ.o ⟨cA,cn,cc,cB,cm,cd,cC,cp,ce⟩ ⟨qA,qn,qc,qB,qm,qd,qC,qp,qe⟩ ⟨co,ca,cb⟩ ⟨qo,qa,qb⟩).mono ?_;rintro e w5 ⟨hb5,rfl⟩;have HM5:Hid (aG (fun q=>q=g) Z wr.drew w5):=hid (aG.of_below hb5);have HA5:=hid (HA8.o.below hb5);have HMS:=hid (HMD.o.trans (row':=Z) HM5.o (fun _ e=>by cases e));have HKC9:=hid (HKC8.o.movedO HG13.o.1 HM5.o);have hg9:=cW w5 wA.heap.size (O X co) (O X ca) (O X cb) (Y cA cn cc) (Y cB cm cd) (Y cC cp ce);have HG9:=hid hg9;have HAG:=hid (HA5.o.grow HL.o HG13.o.2 HG9.o);have HKA9:=hid (HKA8.o.keep (R':=RA) (w':=((((((w5.setCell ⟨wA.heap.size,0,Z⟩ (O X co)).setCell ⟨wA.heap.size,1,Z⟩ (O X ca)).setCell ⟨wA.heap.size,2,Z⟩ (O X cb)).setCell ⟨wA.heap.size,3,Z⟩ (Y cA cn cc)).setCell ⟨wA.heap.size,4,Z⟩ (Y cB cm cd)).setCell ⟨wA.heap.size,5,Z⟩ (Y cC cp ce))) fun q hq=>⟨hq,fun o=>by
     have h1:=(HRA.o q hq);have h2:q<wr.heap.size:=aK.lt2 HRO.o (by have:=hws.o;have:=HW9.o;omega) (HRW.o q hq).1.1;exact aH ((HG9.o.block q (by have:=HM5.o.size;have:wr.drew.heap.size=wr.heap.size:=rfl;omega) (by intro e;injection e with e;exact h1.2 e)).trans (HM5.o.block q h2 (gQ HRO.o HGV.o h1.1) (by simp))) o⟩)
    have zq:=aD.cell HKC9.o;have zqf:=aD.frozen HKC9.o;clear hg9;clear hb5;have HRT9:=hid ((HTC8.o.keep (R':=fun q=>aK R V0 ((((((w5.setCell ⟨wA.heap.size,0,Z⟩ (O X co)).setCell ⟨wA.heap.size,1,Z⟩ (O X ca)).setCell ⟨wA.heap.size,2,Z⟩ (O X cb)).setCell ⟨wA.heap.size,3,Z⟩ (Y cA cn cc)).setCell ⟨wA.heap.size,4,Z⟩ (Y cB cm cd)).setCell ⟨wA.heap.size,5,Z⟩ (Y cC cp ce)) q/\q ≠ wA.heap.size) (w':=((((((w5.setCell ⟨wA.heap.size,0,Z⟩ (O X co)).setCell ⟨wA.heap.size,1,Z⟩ (O X ca)).setCell ⟨wA.heap.size,2,Z⟩ (O X cb)).setCell ⟨wA.heap.size,3,Z⟩ (Y cA cn cc)).setCell ⟨wA.heap.size,4,Z⟩ (Y cB cm cd)).setCell ⟨wA.heap.size,5,Z⟩ (Y cC cp ce))) fun q hq=>⟨⟨hq.1.to (Nat.le_refl _) (by have:=HG9.o.size;have:=HMS.o.size;omega),hq.2⟩,fun o=>by
     have h2:q<wr.heap.size:=aK.lt2 HRO.o (by have:=hws.o;have:=HW9.o;omega) hq.1;exact aH ((HG9.o.block q (by have:=HM5.o.size;have:wr.drew.heap.size=wr.heap.size:=rfl;omega) (by intro e;injection e with e;exact hq.2 e)).trans (HM5.o.block q h2 (gQ HRO.o HGV.o hq.1) (by simp))) o⟩))
    go_wp2_with fail
    refine hK.o _ _ (fun _ => ?_) ?_
    · (try dsimp only);exact HKP.o _ HMS.o
    clear hK K;try simp only [p7]
    replace hHeld:=HKP.o _ HMS.o
    refine aO (i:=7) (by kernel_rfl) rfl rfl (fun K hK => ?_);go_simp;refine hK.o _ _ (fun h=>absurd rfl h) ?_;clear hK K;try simp only [p7]
    refine cN (by kernel_rfl) ?_ _;go_wp2_with fail
    go_roundw
    case rel=>exact ⟨i+1,((⟨co,ca,cb⟩:Nd),cat,ck),⟨cA,cn,cc,cB,cm,cd,cC,cp,ce⟩,by go_num,by omega,hid (aW HKC9.o _ _ _ _ _ _),HRT9,HKA9,hid (by have:=HG9.o.size;have:=HMS.o.size;have:=hws.o;omega),hid (Or.inr ⟨z,f',HZ.o,HRZ.o,HAG.o⟩)⟩
    case measure=>simp [intOf]<;>omega
  have HA8:=hid (hA.below HBD.o);have HOK:=hid hok;have HRS:=hid (hrs.trans (by rw [HDR.o];rfl:givens (fB b d) (L2.drop i) ((⟨co,ca,cb⟩:Nd),cat,ck) f'=(fB b d f' ((⟨co,ca,cb⟩:Nd),cat,ck) ((⟨qo,qa,qb⟩:Nd),qat,qk)).bind fun g1 f1=>givens (fB b d) (L2.drop (i+1)) g1 f1));have HFV:=hid (HFT.o.2 f' ((⟨co,ca,cb⟩:Nd),cat,ck) ((⟨qo,qa,qb⟩:Nd),qat,qk));have HCG:=hid (HHG.o wr.drew f' (fun q=>aK R V0 wr q/\q ≠ wA.heap.size) ⟨cA,cn,cc,cB,cm,cd,cC,cp,ce⟩ ((⟨co,ca,cb⟩:Nd),cat,ck) ⟨qA,qn,qc,qB,qm,qd,qC,qp,qe⟩ ((⟨qo,qa,qb⟩:Nd),qat,qk) aA aA HA8.o.st (fun q hq=>⟨by rw [hdz];exact aK.lt2 HRO.o (by have:=hws.o;have:=HW9.o;omega) hq.1,gQ HRO.o HGV.o hq.1⟩) (htc.o.keep fun q hq=>⟨hq,fun o=>HBD.o.cell (p:=⟨q,o,Z⟩) (show q<wr.heap.size from aK.lt2 HRO.o (by have:=hws.o;have:=HW9.o;omega) hq.1)⟩) (HHQ.o.keep fun q hq=>⟨(HRW.o q hq).1,fun o=>HBD.o.cell (p:=⟨q,o,Z⟩) (show q<wr.heap.size from aK.lt2 HRO.o (by have:=hws.o;have:=HW9.o;omega) (HRW.o q hq).1.1)⟩) hok HOY.o);have HKA8:=hid (hka.o.keep (R':=RA) (w':=wr.drew) fun q hq=>⟨hq,fun o=>HBD.o.cell (p:=⟨q,o,Z⟩) (show q<wr.heap.size from aK.lt2 HRO.o (by have:=hws.o;have:=HW9.o;omega) (HRW.o q hq).1.1)⟩);have HKC8:=hid (hkc.o.below HBD.o hkc.o.lt);clear hA hok hrs;cases hE:fB b d f' ((⟨co,ca,cb⟩:Nd),cat,ck) ((⟨qo,qa,qb⟩:Nd),qat,qk) with
  | er z =>
   rw [hE] at HCG HRS;have HRZ:Hid (res=.er z):=HRS;clear hE HRS;go_wp2_with fail
   refine cF 7 (fun w'=>w'.cell? ⟨wA.heap.size,0,Z⟩=J (O X co)/\w'.cell? ⟨wA.heap.size,1,Z⟩=J (O X ca)/\w'.cell? ⟨wA.heap.size,2,Z⟩=J (O X cb)/\w'.cell? ⟨wA.heap.size,3,Z⟩=J (Y cA cn cc)/\w'.cell? ⟨wA.heap.size,4,Z⟩=J (Y cB cm cd)/\w'.cell? ⟨wA.heap.size,5,Z⟩=J (Y cC cp ce)/\w'.cell? ⟨bq,oq+i*6,Z⟩=J (O X qo)/\w'.cell? ⟨bq,oq+i*6+1,Z⟩=J (O X qa)/\w'.cell? ⟨bq,oq+i*6+2,Z⟩=J (O X qb)/\w'.cell? ⟨bq,oq+i*6+3,Z⟩=J (Y qA qn qc)/\w'.cell? ⟨bq,oq+i*6+4,Z⟩=J (Y qB qm qd)/\w'.cell? ⟨bq,oq+i*6+5,Z⟩=J (Y qC qp qe)) (by kernel_rfl) ?_ (fun hHeld => ?_)
   · (try dsimp only);exact HKP.o _ HMD.o
   refine te 0 hHeld ?_;try simp only [p7]
   refine te 1 hHeld ?_;try simp only [p7]
   refine te 2 hHeld ?_;try simp only [p7]
   refine te 3 hHeld ?_;try simp only [p7]
   refine te 4 hHeld ?_;try simp only [p7]
   refine te 5 hHeld ?_;try simp only [p7]
   refine aO (i:=6) (by kernel_rfl) rfl rfl (fun K hK => ?_);go_simp;go_at_call 47
   refine (HCG.o).mono ?_;rintro e w5 ⟨hm5,⟨eA,en,ec,eB,em,ed,eC,ep,ee⟩,⟨⟨eo,ea,eb⟩,eat,ek⟩,rfl,ht5,hz5,f5,hs5⟩;have HM5:=hid hm5;have HT5:=hid ht5;have HZ5:=hid hz5;have HA5:=hid (HA8.o.call HL.o hm5 hs5);have HMS:=hid (HMD.o.trans (row':=Z) HM5.o (fun _ e=>by cases e));have HKC9:=hid (HKC8.o.movedO HG13.o.1 HM5.o);have hg9:=cW w5 wA.heap.size (O X eo) (O X ea) (O X eb) (Y eA en ec) (Y eB em ed) (Y eC ep ee);have HG9:=hid hg9;have HAG:=hid (HA5.o.grow HL.o HG13.o.2 HG9.o);have HKA9:=hid (HKA8.o.keep (R':=RA) (w':=((((((w5.setCell ⟨wA.heap.size,0,Z⟩ (O X eo)).setCell ⟨wA.heap.size,1,Z⟩ (O X ea)).setCell ⟨wA.heap.size,2,Z⟩ (O X eb)).setCell ⟨wA.heap.size,3,Z⟩ (Y eA en ec)).setCell ⟨wA.heap.size,4,Z⟩ (Y eB em ed)).setCell ⟨wA.heap.size,5,Z⟩ (Y eC ep ee))) fun q hq=>⟨hq,fun o=>by
    have h1:=(HRA.o q hq);have h2:q<wr.heap.size:=aK.lt2 HRO.o (by have:=hws.o;have:=HW9.o;omega) (HRW.o q hq).1.1;exact aH ((HG9.o.block q (by have:=HM5.o.size;have:wr.drew.heap.size=wr.heap.size:=rfl;omega) (by intro e;injection e with e;exact h1.2 e)).trans (HM5.o.block q h2 (gQ HRO.o HGV.o h1.1) (by simp))) o⟩)
   have zq:=aD.cell HKC9.o;have zqf:=aD.frozen HKC9.o;clear hg9;clear hm5 ht5 hz5 hs5;go_wp2_with fail
   refine hK.o _ _ (fun _ => ?_) ?_
   · (try dsimp only);exact HKP.o _ HMS.o
   clear hK K;try simp only [p7]
   replace hHeld:=HKP.o _ HMS.o
   refine aO (i:=7) (by kernel_rfl) rfl rfl (fun K hK => ?_);go_simp;refine hK.o _ _ (fun h=>absurd rfl h) ?_;clear hK K;try simp only [p7]
   refine cN (by kernel_rfl) ?_ _;have HRT9:=hid (((HT5.o.keep (R':=fun q=>aK R V0 ((((((w5.setCell ⟨wA.heap.size,0,Z⟩ (O X eo)).setCell ⟨wA.heap.size,1,Z⟩ (O X ea)).setCell ⟨wA.heap.size,2,Z⟩ (O X eb)).setCell ⟨wA.heap.size,3,Z⟩ (Y eA en ec)).setCell ⟨wA.heap.size,4,Z⟩ (Y eB em ed)).setCell ⟨wA.heap.size,5,Z⟩ (Y eC ep ee)) q/\q ≠ wA.heap.size) (w':=((((((w5.setCell ⟨wA.heap.size,0,Z⟩ (O X eo)).setCell ⟨wA.heap.size,1,Z⟩ (O X ea)).setCell ⟨wA.heap.size,2,Z⟩ (O X eb)).setCell ⟨wA.heap.size,3,Z⟩ (Y eA en ec)).setCell ⟨wA.heap.size,4,Z⟩ (Y eB em ed)).setCell ⟨wA.heap.size,5,Z⟩ (Y eC ep ee))) fun q hq=>⟨⟨by
    rcases hq with hq | hq
    · exact hq.1.to (Nat.le_refl _) (by have:=HG9.o.size;have:=HMS.o.size;omega)
    · exact Or.inr ⟨by have:=hq.1;have:=hws.o;have:=HW9.o;have:=HV9.o;have:wr.drew.heap.size=wr.heap.size:=rfl;omega,Nat.lt_of_lt_of_le hq.2 HG9.o.size⟩,by
    rcases hq with hq | hq
    · exact hq.2
    · have:=hq.1;have:=hkc.o.lt;have:wr.drew.heap.size=wr.heap.size:=rfl;omega⟩,fun o=>aH (HG9.o.block q (by
    rcases hq with hq | hq
    · have:=aK.lt2 HRO.o (by have:=hws.o;have:=HW9.o;omega:w.heap.size<=wr.heap.size) hq.1;have:=HMS.o.size;omega
    · exact hq.2) (by
    intro e;injection e with e;rcases hq with hq | hq
    · exact hq.2 e
    have:=hq.1;have:=hkc.o.lt;have:wr.drew.heap.size=wr.heap.size:=rfl;omega)) o⟩)))
   go_wp2_with fail
   go_roundw
   case rel=>exact ⟨i+1,((⟨eo,ea,eb⟩:Nd),eat,ek),⟨eA,en,ec,eB,em,ed,eC,ep,ee⟩,by go_num,by omega,hid (aW HKC9.o _ _ _ _ _ _),HRT9,HKA9,hid (by have:=HG9.o.size;have:=HMS.o.size;have:=hws.o;omega),hid (Or.inr ⟨z,f5,HZ5.o,HRZ.o,HAG.o⟩)⟩
   case measure=>simp [intOf]<;>omega
  | ok u1 f1 =>
   rw [hE] at HCG HRS;have HF1:=hid (HFV.o u1 f1 HOK.o HOY.o hE);have hf1:=HF1.o.2;have HRZ:Hid (res=givens (fB b d) (L2.drop (i+1)) u1 f1):=HRS;clear hE HRS;go_wp2_with fail
   refine cF 7 (fun w'=>w'.cell? ⟨wA.heap.size,0,Z⟩=J (O X co)/\w'.cell? ⟨wA.heap.size,1,Z⟩=J (O X ca)/\w'.cell? ⟨wA.heap.size,2,Z⟩=J (O X cb)/\w'.cell? ⟨wA.heap.size,3,Z⟩=J (Y cA cn cc)/\w'.cell? ⟨wA.heap.size,4,Z⟩=J (Y cB cm cd)/\w'.cell? ⟨wA.heap.size,5,Z⟩=J (Y cC cp ce)/\w'.cell? ⟨bq,oq+i*6,Z⟩=J (O X qo)/\w'.cell? ⟨bq,oq+i*6+1,Z⟩=J (O X qa)/\w'.cell? ⟨bq,oq+i*6+2,Z⟩=J (O X qb)/\w'.cell? ⟨bq,oq+i*6+3,Z⟩=J (Y qA qn qc)/\w'.cell? ⟨bq,oq+i*6+4,Z⟩=J (Y qB qm qd)/\w'.cell? ⟨bq,oq+i*6+5,Z⟩=J (Y qC qp qe)) (by kernel_rfl) ?_ (fun hHeld => ?_)
   · (try dsimp only);exact HKP.o _ HMD.o
   refine te 0 hHeld ?_;try simp only [p7]
   refine te 1 hHeld ?_;try simp only [p7]
   refine te 2 hHeld ?_;try simp only [p7]
   refine te 3 hHeld ?_;try simp only [p7]
   refine te 4 hHeld ?_;try simp only [p7]
   refine te 5 hHeld ?_;try simp only [p7]
   refine aO (i:=6) (by kernel_rfl) rfl rfl (fun K hK => ?_);go_simp;go_at_call 47
   refine (HCG.o).mono ?_;rintro e w5 ⟨hm5,⟨eA,en,ec,eB,em,ed,eC,ep,ee⟩,⟨⟨eo,ea,eb⟩,eat,ek⟩,rfl,ht5,hy5,hs5⟩;subst hy5;have HM5:=hid hm5;have HT5:=hid ht5;have HA5:=hid (HA8.o.call HL.o hm5 hs5);have HMS:=hid (HMD.o.trans (row':=Z) HM5.o (fun _ e=>by cases e));have HKC9:=hid (HKC8.o.movedO HG13.o.1 HM5.o);have hg9:=cW w5 wA.heap.size (O X eo) (O X ea) (O X eb) (Y eA en ec) (Y eB em ed) (Y eC ep ee);have HG9:=hid hg9;have HAG:=hid (HA5.o.grow HL.o HG13.o.2 HG9.o);have HKA9:=hid (HKA8.o.keep (R':=RA) (w':=((((((w5.setCell ⟨wA.heap.size,0,Z⟩ (O X eo)).setCell ⟨wA.heap.size,1,Z⟩ (O X ea)).setCell ⟨wA.heap.size,2,Z⟩ (O X eb)).setCell ⟨wA.heap.size,3,Z⟩ (Y eA en ec)).setCell ⟨wA.heap.size,4,Z⟩ (Y eB em ed)).setCell ⟨wA.heap.size,5,Z⟩ (Y eC ep ee))) fun q hq=>⟨hq,fun o=>by
    have h1:=(HRA.o q hq);have h2:q<wr.heap.size:=aK.lt2 HRO.o (by have:=hws.o;have:=HW9.o;omega) (HRW.o q hq).1.1;exact aH ((HG9.o.block q (by have:=HM5.o.size;have:wr.drew.heap.size=wr.heap.size:=rfl;omega) (by intro e;injection e with e;exact h1.2 e)).trans (HM5.o.block q h2 (gQ HRO.o HGV.o h1.1) (by simp))) o⟩)
   have zq:=aD.cell HKC9.o;have zqf:=aD.frozen HKC9.o;clear hg9;clear hm5 ht5 hs5;go_wp2_with fail
   refine hK.o _ _ (fun _ => ?_) ?_
   · (try dsimp only);exact HKP.o _ HMS.o
   clear hK K;try simp only [p7]
   replace hHeld:=HKP.o _ HMS.o
   refine aO (i:=7) (by kernel_rfl) rfl rfl (fun K hK => ?_);go_simp;refine hK.o _ _ (fun h=>absurd rfl h) ?_;clear hK K;try simp only [p7]
   refine cN (by kernel_rfl) ?_ _;have HRT9:=hid (((HT5.o.keep (R':=fun q=>aK R V0 ((((((w5.setCell ⟨wA.heap.size,0,Z⟩ (O X eo)).setCell ⟨wA.heap.size,1,Z⟩ (O X ea)).setCell ⟨wA.heap.size,2,Z⟩ (O X eb)).setCell ⟨wA.heap.size,3,Z⟩ (Y eA en ec)).setCell ⟨wA.heap.size,4,Z⟩ (Y eB em ed)).setCell ⟨wA.heap.size,5,Z⟩ (Y eC ep ee)) q/\q ≠ wA.heap.size) (w':=((((((w5.setCell ⟨wA.heap.size,0,Z⟩ (O X eo)).setCell ⟨wA.heap.size,1,Z⟩ (O X ea)).setCell ⟨wA.heap.size,2,Z⟩ (O X eb)).setCell ⟨wA.heap.size,3,Z⟩ (Y eA en ec)).setCell ⟨wA.heap.size,4,Z⟩ (Y eB em ed)).setCell ⟨wA.heap.size,5,Z⟩ (Y eC ep ee))) fun q hq=>⟨⟨by
    rcases hq with hq | hq
    · exact hq.1.to (Nat.le_refl _) (by have:=HG9.o.size;have:=HMS.o.size;omega)
    · exact Or.inr ⟨by have:=hq.1;have:=hws.o;have:=HW9.o;have:=HV9.o;have:wr.drew.heap.size=wr.heap.size:=rfl;omega,Nat.lt_of_lt_of_le hq.2 HG9.o.size⟩,by
    rcases hq with hq | hq
    · exact hq.2
    · have:=hq.1;have:=hkc.o.lt;have:wr.drew.heap.size=wr.heap.size:=rfl;omega⟩,fun o=>aH (HG9.o.block q (by
    rcases hq with hq | hq
    · have:=aK.lt2 HRO.o (by have:=hws.o;have:=HW9.o;omega:w.heap.size<=wr.heap.size) hq.1;have:=HMS.o.size;omega
    · exact hq.2) (by
    intro e;injection e with e;rcases hq with hq | hq
    · exact hq.2 e
    have:=hq.1;have:=hkc.o.lt;have:wr.drew.heap.size=wr.heap.size:=rfl;omega)) o⟩)))
   go_wp2_with fail
   go_roundw
   case rel=>exact ⟨i+1,((⟨eo,ea,eb⟩:Nd),eat,ek),⟨eA,en,ec,eB,em,ed,eC,ep,ee⟩,by go_num,by omega,hid (aW HKC9.o _ _ _ _ _ _),HRT9,HKA9,hid (by have:=HG9.o.size;have:=HMS.o.size;have:=hws.o;omega),hid (Or.inl ⟨f1,by omega,HAG.o,HF1.o.1,HRZ.o⟩)⟩
   case measure=>simp [intOf]<;>omega
end Go.Proofs.YtjllmblbbgojbaaGreat
