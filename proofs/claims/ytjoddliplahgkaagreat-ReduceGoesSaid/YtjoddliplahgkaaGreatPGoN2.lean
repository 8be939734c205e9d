/- The reference's Go at a match that goes on. -/
import Derived.Test.YtjoddliplahgkaaGreatPGoI
namespace Go.Proofs.YtjoddliplahgkaaGreat
set_option linter.unusedVariables false
set_option linter.unusedSimpArgs false
open Go.RowKit
open Go.Value renaming int → O, slice → Y
open Go.IntKind renaming i64 → X
open Go.Obj renaming cells → Z
open Option renaming none → I
open Go.Lib renaming hid->aB
set_option maxRecDepth 100000 in
set_option maxHeartbeats 4000000 in
theorem FN {v:bO} {b:Bk} {w0:World} {cA:Option Addr} {cn cc:Nat} {cv:List (List Nd)} (hr:bP b=0) (hcx:fR b cv) {gas:Nat} (IH:KU v b w0 cA cn cc cv gas) {w:World} {R:Nat->Prop} {t:iE} {x:TT} (hbk:bX w v b) (hctx:jI (· < w.heap.size) w cA cn cc cv) (hR:∀q,R q->q<w.heap.size) (ht:dX R w t x) (hx:bR b (cv.length:Int) x) (hsz:bI x<gas+1) (hop:((bU x).1.1.op=11/\eS b (bU x).1.1 (bU (eQ (bU x).1 1))=false/\True)) :
 Calls Tryz.prog 45 #[.agg #[O X b.vars,Y v.Ao v.no v.co,Y v.Ae v.ne v.ce,O X b.nat,Y v.Ap v.np v.cp],Y cA cn cc,.agg (bH t x.1)] w (DN R w (iF b cv (gas+1) (bU x))):=by
 obtain⟨res,d9⟩ : ∃r,r=iF b cv (gas+1) (bU x):=⟨_,rfl⟩;rw[<-d9];have e8:=kI hx;have e0:=dJ hx;have e4:bI x<=4096:=hx.few;have g5:=(a7 w (Z #[O X b.vars,Y v.Ao v.no v.co,Y v.Ae v.ne v.ce,O X b.nat,Y v.Ap v.np v.cp] 26) (Z (bH t x.1) 85)).alloc aH (Z #[O X 0,O X 0,O X 0,Y I 0 0,Y I 0 0,Y I 0 0] 85);have g0:=aB (eC (fun q hq=>Nat.lt_of_lt_of_le (hR q hq) g5.size) (ht.below hR g5) hx.rt);obtain⟨⟨⟨ho,ha,hb⟩,a3,hk⟩,L,v4⟩ : ∃F L,bU x=(F,L):=⟨_,_,rfl⟩;rw[v4] at g0 d9 e8 e0 hop;unfold DM at g0;simp only at g0 hop;have l2:DP w (((w.alloc (Z #[O X b.vars,Y v.Ao v.no v.co,Y v.Ae v.ne v.ce,O X b.nat,Y v.Ap v.np v.cp] 26)).alloc (Z (bH t x.1) 85)).alloc (Z #[O X 0,O X 0,O X 0,Y I 0 0,Y I 0 0,Y I 0 0] 85)) #[O X b.vars,Y v.Ao v.no v.co,Y v.Ae v.ne v.ce,O X b.nat,Y v.Ap v.np v.cp] (bH t x.1) (((w.alloc (Z #[O X b.vars,Y v.Ao v.no v.co,Y v.Ae v.ne v.ce,O X b.nat,Y v.Ap v.np v.cp] 26)).alloc (Z (bH t x.1) 85)).alloc (Z #[O X 0,O X 0,O X 0,Y I 0 0,Y I 0 0,Y I 0 0] 85)):=⟨g5,Nat.le_refl _,((aS.new _ _ _).alloc _).alloc _,(aS.new' aD).alloc _,aS.new' aD⟩;have m7:dX (bB R (((w.alloc (Z #[O X b.vars,Y v.Ao v.no v.co,Y v.Ae v.ne v.ce,O X b.nat,Y v.Ap v.np v.cp] 26)).alloc (Z (bH t x.1) 85)).alloc (Z #[O X 0,O X 0,O X 0,Y I 0 0,Y I 0 0,Y I 0 0] 85)) (((w.alloc (Z #[O X b.vars,Y v.Ao v.no v.co,Y v.Ae v.ne v.ce,O X b.nat,Y v.Ap v.np v.cp] 26)).alloc (Z (bH t x.1) 85)).alloc (Z #[O X 0,O X 0,O X 0,Y I 0 0,Y I 0 0,Y I 0 0] 85))) (((w.alloc (Z #[O X b.vars,Y v.Ao v.no v.co,Y v.Ae v.ne v.ce,O X b.nat,Y v.Ap v.np v.cp] 26)).alloc (Z (bH t x.1) 85)).alloc (Z #[O X 0,O X 0,O X 0,Y I 0 0,Y I 0 0,Y I 0 0] 85)) t x:=ht.keep fun q hq=>⟨Or.inl hq,fun o=>g5.cell (p:=⟨q,o,I⟩) (hR q hq)⟩;have m6:(((w.alloc (Z #[O X b.vars,Y v.Ao v.no v.co,Y v.Ae v.ne v.ce,O X b.nat,Y v.Ap v.np v.cp] 26)).alloc (Z (bH t x.1) 85)).alloc (Z #[O X 0,O X 0,O X 0,Y I 0 0,Y I 0 0,Y I 0 0] 85)).heap.size=w.heap.size+3:=by simp
 obtain⟨V0,k6⟩ : ∃V0,V0=((w.alloc (Z #[O X b.vars,Y v.Ao v.no v.co,Y v.Ae v.ne v.ce,O X b.nat,Y v.Ap v.np v.cp] 26)).alloc (Z (bH t x.1) 85)).alloc (Z #[O X 0,O X 0,O X 0,Y I 0 0,Y I 0 0,Y I 0 0] 85):=⟨_,rfl⟩;rw[<-k6] at g5 g0 l2 m7 m6;obtain⟨kl,q8⟩ : ∃k,k=L.length:=⟨_,rfl⟩;have x4:L.length<=4096:=by
  have h3:=e0;have h4:bT L<=4096:=by
   have:dK (((⟨ho,ha,hb⟩:Nd),a3,hk),L)=bI ((⟨ho,ha,hb⟩:Nd),a3,hk)+bT L:=rfl;omega
  exact Nat.le_trans (eW L) h4
 rw[<-q8] at g0 x4;have i6:=aB d9;have o8:=aB e8;have o7:=aB e0;have A3:=aB e4;have k9:=aB l2;have f5:=aB m7;have e1:=aB m6;have HR:=aB hR;have p1:=aB hbk;have o9:=aB hctx;have HX:=aB hx;have z1:=aB IH;have HT:=aB ht;have x8:=aB hsz;clear q8 d9 e8 e0 e4 l2 m7 m6 hR hbk hctx hx IH hcx hr ht hsz g5;obtain⟨⟨xo,xa,xb⟩,xat,xk⟩:=x;obtain⟨Ak,nk,ck,Aa,na,ca,Af,nf,cf⟩:=t;simp only at k9 f5 k6;show Calls Tryz.prog 45 #[.agg #[O X b.vars,Y v.Ao v.no v.co,Y v.Ae v.ne v.ce,O X b.nat,Y v.Ap v.np v.cp],Y cA cn cc,.agg #[O X xo,O X xa,O X xb,Y Ak nk ck,Y Aa na ca,Y Af nf cf]] w _;go_in;go_upto_region 1 with fail
 rw[<-k6];clear k6;have v0:=aS.cell k9.o.x;go_wp2_with fail;refine (g0.o).mono ?_;rintro e w4 ⟨e6,⟨Ck,pk,ek,Ca,pa,ea,Cf,pf,ef⟩,KB,kd,rfl,p2,q9,l7⟩;have e9:=a7 w4 (Z #[O X ho,O X ha,O X hb,Y Ck pk ek,Y Ca pa ea,Y Cf pf ef] 85) (Z #[O X ho,O X ha,O X hb] 46);have s7:=aB ((k9.o.below e6).below e9);have n5:Hid (aS ((w4.alloc (Z #[O X ho,O X ha,O X hb,Y Ck pk ek,Y Ca pa ea,Y Cf pf ef] 85)).alloc (Z #[O X ho,O X ha,O X hb] 46)) w4.heap.size 85 #[O X ho,O X ha,O X hb,Y Ck pk ek,Y Ca pa ea,Y Cf pf ef]):=aB ((aS.new _ _ _).alloc _);have n0:Hid (aS ((w4.alloc (Z #[O X ho,O X ha,O X hb,Y Ck pk ek,Y Ca pa ea,Y Cf pf ef] 85)).alloc (Z #[O X ho,O X ha,O X hb] 46)) (w4.heap.size+1) 46 #[O X ho,O X ha,O X hb]):=aB (aS.new' aD);have i3:Hid (dX (bB R V0 ((w4.alloc (Z #[O X ho,O X ha,O X hb,Y Ck pk ek,Y Ca pa ea,Y Cf pf ef] 85)).alloc (Z #[O X ho,O X ha,O X hb] 46))) ((w4.alloc (Z #[O X ho,O X ha,O X hb,Y Ck pk ek,Y Ca pa ea,Y Cf pf ef] 85)).alloc (Z #[O X ho,O X ha,O X hb] 46)) ⟨Ak,nk,ck,Aa,na,ca,Af,nf,cf⟩ ((⟨xo,xa,xb⟩:Nd),xat,xk)):=aB (f5.o.keep fun q hq=>⟨hq.to (Nat.le_refl _) (Nat.le_trans e6.size e9.size),fun o=>(e6.trans (e9.mono e6.size)).cell (p:=⟨q,o,I⟩) (by
  rcases hq with hq | hq
  · have:=HR.o _ hq;have:=e1.o;show q<V0.heap.size;omega
  exact hq.2)⟩)
 have i4:Hid (dX R ((w4.alloc (Z #[O X ho,O X ha,O X hb,Y Ck pk ek,Y Ca pa ea,Y Cf pf ef] 85)).alloc (Z #[O X ho,O X ha,O X hb] 46)) ⟨Ck,pk,ek,Ca,pa,ea,Cf,pf,ef⟩ ((⟨ho,ha,hb⟩:Nd),a3,hk)):=aB (p2.keep fun q hq=>⟨hq,fun o=>e9.cell (p:=⟨q,o,I⟩) (by have:=HR.o _ hq;have:=e1.o;have:=e6.size;show q<w4.heap.size;omega)⟩);have i9:Hid (dM (bB R V0 ((w4.alloc (Z #[O X ho,O X ha,O X hb,Y Ck pk ek,Y Ca pa ea,Y Cf pf ef] 85)).alloc (Z #[O X ho,O X ha,O X hb] 46))) ((w4.alloc (Z #[O X ho,O X ha,O X hb,Y Ck pk ek,Y Ca pa ea,Y Cf pf ef] 85)).alloc (Z #[O X ho,O X ha,O X hb] 46)) KB kl kd (gH L)):=aB (q9.keep fun q hq=>⟨hq.to (Nat.le_refl _) e9.size,fun o=>e9.cell (p:=⟨q,o,I⟩) (by
  rcases hq with hq | hq
  · have:=HR.o _ hq;have:=e1.o;have:=e6.size;show q<w4.heap.size;omega
  exact hq.2)⟩)
 have x5:=aB e6.size;clear e6 e9 p2 q9 l7 g0 k9 f5 v0;have i7:Hid (AM w V0 R #[O X b.vars,Y v.Ao v.no v.co,Y v.Ae v.ne v.ce,O X b.nat,Y v.Ap v.np v.cp] #[O X xo,O X xa,O X xb,Y Ak nk ck,Y Aa na ca,Y Af nf cf] w4.heap.size (w4.heap.size+1) ⟨Ak,nk,ck,Aa,na,ca,Af,nf,cf⟩ ((⟨xo,xa,xb⟩:Nd),xat,xk) ⟨Ck,pk,ek,Ca,pa,ea,Cf,pf,ef⟩ ((⟨ho,ha,hb⟩:Nd),a3,hk) KB kl kd L ((w4.alloc (Z #[O X ho,O X ha,O X hb,Y Ck pk ek,Y Ca pa ea,Y Cf pf ef] 85)).alloc (Z #[O X ho,O X ha,O X hb] 46))):=aB ⟨s7.o,n5.o,n0.o,i3.o,i4.o.keep fun q hq=>⟨Or.inl hq,fun _=>rfl⟩,i9.o⟩;have zh:=aS.cell n5.o;have zn:=aS.cell n0.o;clear s7 n5 n0 i3 i4 i9;obtain⟨hop,j8,x2⟩:=hop;have hF:=o8.o;obtain⟨n1,n2,n3,n4⟩:=kM hF.head hop;obtain⟨p,q,brs,a9,r5⟩:=eK hF.head.okt hop;simp only at n1 n2 n3 n4 a9 r5;have hq:=hF.head.kid0 (i:=1) (by rw[a9];rfl) (eI (.inr (.inr hop)));obtain⟨l9,h6⟩:=nJ hF.head.okt hop (by simp only;rw[a9];simp) (x:=((⟨ho,ha,hb⟩:Nd),a3,hk)) ((⟨0,0,0⟩:Nd),[],.nil);have t4:=aB (fun y=>(nJ hF.head.okt hop (by simp only;rw[a9];simp) y).1);have y8:=aB h6;obtain⟨ia,m3⟩ : ∃ia:Nat,ha=(ia:Int):=⟨ha.toNat,by omega⟩;obtain⟨nb,q7⟩ : ∃nb:Nat,hb=(nb:Int):=⟨hb.toNat,by omega⟩;have w5:=p1.o.entries.len;obtain⟨be,oe,r8,r6,⟨As,ns,cs,Ap,np,cp,Ai,ni,ci,Ac,nc,ccc,At,nt,ct,Ab,nbo,cb⟩,_,_,c2,_,c4,_,_,a1⟩:=p1.o.entries.at_ (k:=ia) aA;have r3:bK b (ia:Int)=b.entries.getD ia default:=by unfold bK;rw[Int.toNat_natCast]
 rw[<-r3] at a1;simp only at c2 c4;have j5:=a1.params.len;have h5:=a1.params.few;simp only at j5 h5;obtain⟨⟨⟨so,sa,sb⟩,sat,sk⟩,M,e5⟩ : ∃F L,bU q=(F,L):=⟨_,_,rfl⟩;have r2:eQ ((⟨ho,ha,hb⟩:Nd),a3,hk) 1=q:=dI (i:=1) (by simp only;rw[a9];rfl);rw[r2,e5] at j8;have l3:=kI hq;have hsz:=dJ hq;rw[e5] at l3 hsz;have p0:=aB (fun h=>oU l3.head h);simp only at p0;obtain⟨ml,m0⟩ : ∃m,m=M.length:=⟨_,rfl⟩;have w2:M.length<=4096:=by
  have h3:dK (((⟨so,sa,sb⟩:Nd),sat,sk),M)=bI ((⟨so,sa,sb⟩:Nd),sat,sk)+bT M:=rfl;have h4:bI q<=4096:=hq.few;have:=eW M;omega
 have p9:bI q<gas:=by
  have h2:=rN (show q ∈ cI hk by rw[a9];simp);have e:bI ((⟨ho,ha,hb⟩:Nd),a3,hk)=1+a3.length+(row hk).length:=dL _ _ _;have h3:=o7.o;have h4:dK (((⟨ho,ha,hb⟩:Nd),a3,hk),L)=bI ((⟨ho,ha,hb⟩:Nd),a3,hk)+bT L:=rfl;have:=x8.o;omega
 have f6:Hid (res=if eS b ⟨ho,ha,hb⟩ (((⟨so,sa,sb⟩:Nd),sat,sk),M)=true then s9.yes (eG (cU hk (2+sb.toNat)) (M.drop np++L)) else match iF b cv gas (((⟨so,sa,sb⟩:Nd),sat,sk),M) with | .no=>.no | .bad=>.bad | .yes y=>.yes (eG ((⟨ho,ha,hb⟩:Nd),[],gH ((cI hk).set 1 y)) L)):=aB (by
  have m2:eQ ((⟨ho,ha,hb⟩:Nd),a3,hk) 1=q:=dI (i:=1) (by simp only;rw[a9];rfl);have p6:bW b cv (((⟨ho,ha,hb⟩:Nd),a3,hk),L)=eS b ⟨ho,ha,hb⟩ (((⟨so,sa,sb⟩:Nd),sat,sk),M):=by
   unfold bW;simp only;rw[if_neg aA,if_neg aA,if_neg aA,if_pos hop,m2,e5]
  by_cases h:eS b ⟨ho,ha,hb⟩ (((⟨so,sa,sb⟩:Nd),sat,sk),M)=true
  · rw[if_pos h,i6.o,iL (by rw[p6];exact h)];have A0:0<=sb/\sb<hb:=by
     unfold eS at h;simp only[Bool.and_eq_true,beq_iff_eq,decide_eq_true_eq] at h;exact⟨(p0.o h.1).2.1,h.2.2.1⟩
    have w7:eQ ((⟨ho,ha,hb⟩:Nd),a3,hk) (2+sb.toNat)=cU hk (2+sb.toNat):=by
     refine dI ?_;simp only;unfold cU;have:2+sb.toNat<(cI hk).length:=by rw[a9];simp only[List.length_cons];omega
     rw[List.getD_eq_getElem?_getD,List.getElem?_eq_getElem this];rfl
    unfold kD;simp only;rw[if_neg aA,if_neg aA,if_neg aA,if_neg aA,if_pos hop,m2,e5];simp only;rw[w7,m3,j5]
  rw[if_neg h,i6.o,pO (p:=q) (by rw[p6];exact h) (by unfold cS;simp only;rw[if_pos hop,m2]),e5];cases iF b cv gas (((⟨so,sa,sb⟩:Nd),sat,sk),M) with
  | no=>rfl
  | bad=>rfl
  | yes y =>
   simp only
   congr 1
   show eG (dU _ y).1 (dU _ y).2=_;unfold dU;simp only;rw[if_pos hop];simp only;rw[t4.o y])
 rw[m3,q7] at f6 t4 j8;have z2:=aB j8;clear j8 r2 x2;subst m3;subst q7;have g2:=i7.o;have l6:=g2.th.nk;simp only at l6;have a8:pk=2+nb:=by rw[l6,a9];simp only[List.length_cons];omega
 obtain⟨bq,oq,⟨k1A,k1n,k1c,k1B,k1m,k1d,k1C,k1p,k1e⟩,k7,m8,j9,h0⟩:=g2.th.kid (j:=1) (by simp only;omega);have m1:cU hk 1=q:=by unfold cU;rw[a9];rfl
 simp only at k7 j9 h0;rw[m1,Nat.one_mul] at j9;rw[m1] at h0;have A6:=aB (fun (j:Nat) (hj:j<pk)=>(by
  obtain⟨b',o',t',h1,h2,h3,h4⟩:=g2.th.kid (j:=j) hj;simp only at h1 h3 h4;rw[k7] at h1;injection h1 with h1;injection h1 with h1 h1';subst h1;subst h1';exact⟨t',h3,h4⟩ : ∃t',P6 (((w4.alloc (Z #[O X ho,O X (ia:Int),O X (nb:Int),Y Ck pk ek,Y Ca pa ea,Y Cf pf ef] 85)).alloc (Z #[O X ho,O X (ia:Int),O X (nb:Int)] 46))) bq (oq+j*6) t' (cU hk j).1/\dX (bB R V0 (((w4.alloc (Z #[O X ho,O X (ia:Int),O X (nb:Int),Y Ck pk ek,Y Ca pa ea,Y Cf pf ef] 85)).alloc (Z #[O X ho,O X (ia:Int),O X (nb:Int)] 46)))) (((w4.alloc (Z #[O X ho,O X (ia:Int),O X (nb:Int),Y Ck pk ek,Y Ca pa ea,Y Cf pf ef] 85)).alloc (Z #[O X ho,O X (ia:Int),O X (nb:Int)] 46))) t' (cU hk j)))
 have a5:=aB (eC (g2.lt HR.o) h0 hq.rt);rw[e5] at a5;unfold DM at a5;simp only at a5;rw[<-m0] at a5;have t9:=aB k7;have y1:=aB m8;have t6:=aB j9;have x6:=aB h0;have y3:=aB hq;have x9:=aB e5;have y2:=aB p9;have t7:=aB (g2.lt HR.o _ m8);have s8:=aB a8;have y7:=aB m0;have y5:=aB j5;have z6:=aB r8;have t8:=aB r6;have z5:=aB c2;have z4:=aB c4;have z3:=aB a1;have z0:Hid (ia<v.ne):=aB aA;have y6:=aB n4;clear hF n1 n2 n3 n4 a9 r5 hq l9 h6 w5 r8 r6 c2 c4 a1 r3 j5 h5 e5 l3 hsz m0 w2 p9 g2 l6 a8 k7 m8 j9 h0 m1;have d5:(ho==5)=false:=by rw[beq_eq_false_iff_ne];omega
 have d7:(ho==7)=false:=by rw[beq_eq_false_iff_ne];omega
 have d1:(ho==1)=false:=by rw[beq_eq_false_iff_ne];omega
 have d8:(ho==8)=false:=by rw[beq_eq_false_iff_ne];omega
 have d11:(ho==11)=true:=by simp[hop]
 obtain rfl:Ck=some ⟨bq,oq,I⟩:=t9.o;clear t9 hop;obtain⟨⟨qo,qa,qb⟩,qat,qk⟩:=q;have l5:1<pk:=by have:=s8.o;omega
 have v6:(1:Int)<(pk:Int):=aA;obtain⟨q0,q1,q2,q3,q4,q5⟩:=t6.o;simp only at q0 q1 q2 q3 q4 q5;go_upto_region 24 with fail
 generalize ((w4.alloc (Z #[O X ho,O X (ia:Int),O X (nb:Int),Y (some ⟨bq,oq,I⟩) pk ek,Y Ca pa ea,Y Cf pf ef] 85)).alloc (Z #[O X ho,O X (ia:Int),O X (nb:Int)] 46))=W5 at *;have i8:=i7;go_wp2_with fail;refine (a5.o).mono ?_;rintro e w6 ⟨g6,⟨c1A,c1n,c1c,c1B,c1m,c1d,c1C,c1p,c1e⟩,PB,pd,rfl,p3,q6,v5⟩;have i2:=aP w6 (Z #[O X so,O X sa,O X sb,Y c1A c1n c1c,Y c1B c1m c1d,Y c1C c1p c1e] 85);have e3:=aB (g6.trans (i2.mono g6.size));have o6:=aB (i8.o.below HR.o e3.o);have j1:=aB (aS.new w6 85 #[O X so,O X sa,O X sb,Y c1A c1n c1c,Y c1B c1m c1d,Y c1C c1p c1e]);have n6:Hid (dX (bB R V0 (w6.alloc (Z #[O X so,O X sa,O X sb,Y c1A c1n c1c,Y c1B c1m c1d,Y c1C c1p c1e] 85))) (w6.alloc (Z #[O X so,O X sa,O X sb,Y c1A c1n c1c,Y c1B c1m c1d,Y c1C c1p c1e] 85)) ⟨c1A,c1n,c1c,c1B,c1m,c1d,c1C,c1p,c1e⟩ ((⟨so,sa,sb⟩:Nd),sat,sk)):=aB (p3.keep fun q hq=>⟨hq.to (Nat.le_refl _) e3.o.size,fun o=>i2.cell (p:=⟨q,o,I⟩) (Nat.lt_of_lt_of_le (i8.o.lt HR.o q hq) g6.size)⟩);have o4:Hid (dM (bB R V0 (w6.alloc (Z #[O X so,O X sa,O X sb,Y c1A c1n c1c,Y c1B c1m c1d,Y c1C c1p c1e] 85))) (w6.alloc (Z #[O X so,O X sa,O X sb,Y c1A c1n c1c,Y c1B c1m c1d,Y c1C c1p c1e] 85)) PB ml pd (gH M)):=aB (q6.keep fun q hq=>⟨(fW (fun q h=>h) i8.o.s.sz g6.size hq:bB R V0 w6 q).to (Nat.le_refl _) i2.size,fun o=>i2.cell (p:=⟨q,o,I⟩) (by
  rcases hq with hq | hq
  · exact Nat.lt_of_lt_of_le (i8.o.lt HR.o q hq) g6.size
  exact hq.2)⟩)
 clear g6 i2 p3 q6 v5 zh zn q0 q1 q2 q3 q4 q5 a5;go_upto_region 25 with fail
 generalize (w6.alloc (Z #[O X so,O X sa,O X sb,Y c1A c1n c1c,Y c1B c1m c1d,Y c1C c1p c1e] 85))=W7 at *;have f8:=o6;have zh:∀i:Nat,W7.cell? ⟨w4.heap.size,i,I⟩=(#[O X ho,O X (ia:Int),O X (nb:Int),Y (some ⟨bq,oq,I⟩) pk ek,Y Ca pa ea,Y Cf pf ef]:Array Value)[i]?:=aS.cell f8.o.h;have zn:∀i:Nat,W7.cell? ⟨w4.heap.size+1,i,I⟩=(#[O X ho,O X (ia:Int),O X (nb:Int)]:Array Value)[i]?:=aS.cell f8.o.n;have zc:=aS.cell j1.o;have zb:=aS.cell f8.o.s.bk;rw[z6.o] at zb;have w9:ia<v.ne:=z0.o;have w8:(ia:Int)<(v.ne:Int):=aA;have c27:=(f8.o.s.bel.cell (p:=⟨be,oe+ia*7+2,I⟩) t8.o).trans z5.o;have c47:=(f8.o.s.bel.cell (p:=⟨be,oe+ia*7+4,I⟩) t8.o).trans z4.o;have a1:=z3.o.below f8.o.s.bel;obtain⟨rb,l4⟩ : ∃r,r=eS b ⟨ho,(ia:Int),(nb:Int)⟩ (((⟨so,sa,sb⟩:Nd),sat,sk),M):=⟨_,rfl⟩;have i5:Hid (res=if rb=true then s9.yes (eG (cU hk (2+sb.toNat)) (M.drop np++L)) else match iF b cv gas (((⟨so,sa,sb⟩:Nd),sat,sk),M) with | .no=>.no | .bad=>.bad | .yes y=>.yes (eG ((⟨ho,(ia:Int),(nb:Int)⟩:Nd),[],gH ((cI hk).set 1 y)) L)):=aB (by rw[l4];exact f6.o);have g8:=aB l4;clear f6 l4;go_upto_region 26 with fail
 go_cut [193] (fun bv wx=>bv=.bool rb/\Hid (Below W7.heap.size W7 wx))
 case first =>
  as_aux_lemma =>
  by_cases q1:so=10;rotate_left
  · have d1:(so==10)=false:=by simpa using q1
    have f7:Hid (rb=false):=aB (by rw[g8.o];unfold eS;simp only;rw[d1];rfl);clear q1 a1;go_quiet (fail)
    go_wp2_with fail;go_meet;exact⟨by rw[f7.o],aB (aT (Below.refl _ _) _)⟩
  have d1:(so==10)=true:=by simpa using q1
  obtain⟨t1,t2,t3⟩:=p0.o q1;clear q1;by_cases q2:sa=(ia:Int);rotate_left
  · have d2:(sa==(ia:Int))=false:=by simpa using q2
    have f7:Hid (rb=false):=aB (by rw[g8.o];unfold eS;simp only;rw[d1,d2];rfl);clear q2 t1 t2 t3 a1;go_quiet (fail)
    go_wp2_with fail;go_meet;exact⟨by rw[f7.o],aB (aT (Below.refl _ _) _)⟩
  have d2:(sa==(ia:Int))=true:=by simpa using q2
  by_cases q3:sb<(nb:Int);rotate_left
  · have d3:decide (sb<(nb:Int))=false:=decide_eq_false q3;have f7:Hid (rb=false):=aB (by rw[g8.o];unfold eS;simp only;rw[d1,d2,d3];rfl);clear q2 q3 t1 t2 t3 a1;go_quiet (fail)
    go_wp2_with fail;go_meet;exact⟨by rw[f7.o],aB (aT (Below.refl _ _) _)⟩
  have d3:decide (sb<(nb:Int))=true:=decide_eq_true q3;obtain⟨ib,r0⟩ : ∃ib:Nat,sb=(ib:Int):=⟨sb.toNat,by omega⟩;rw[q2] at t3;have r4:=a1.ctors.len;have v7:=a1.params.few;simp only at r4 v7;have h8:ib<nc:=aA;have x0:(ib:Int)<(nc:Int):=aA;obtain⟨bc,oc,A1,n1,c1,ec,A2,k0,r7⟩:=a1.ctors.arg_at (k:=ib) h8;simp only at ec;rw[ec] at c47;have hr:rb=(ml==np+n1):=by
   rw[g8.o];unfold eS;simp only;rw[d1,d2,d3,y5.o,r0,show ((ib:Int)).toNat=ib from by omega,r7,y7.o];rfl
  have d4:((ml:Int)==(np:Int)+(n1:Int))=(ml==np+n1):=by
   rw[Bool.eq_iff_iff];simp only[beq_iff_eq];omega
  have w1:n1<=5864062014805:=by
   obtain⟨_,_,_,_,w3⟩:=a1.ctors.mem (by simp only;omega);obtain⟨A9,n9,c9,_,_,_,_,_,p8,_⟩:=w3 ib h8;have:=p8.len;have:=p8.few;omega
  have f7:=aB hr;have d5:decide (ib<nb)=true:=decide_eq_true aA;have d6:ib<nb:=aA;subst r0;clear q2 q3 hr t1 t2 t3 r4 r7 a1;generalize (ml==np+n1)=rv at *;go_quiet (fail)
  go_wp2_with fail;go_meet;exact⟨by rw[f7.o],aB (aT (Below.refl _ _) _)⟩
 case rest =>
 obtain⟨rfl,m5⟩:=hcut;obtain⟨wd,rfl⟩ : ∃x:World,x=wc:=⟨_,rfl⟩;have a4:=aB (f8.o.below HR.o m5.o);have f9:=aB (e3.o.trans (m5.o.mono e3.o.size));have m4:=a4.o.h.lt;have z9:w.heap.size+3<=w4.heap.size:=by have:=x5.o;have:=e1.o;omega
 have g4:bq<wd.heap.size:=Nat.lt_of_lt_of_le t7.o f9.o.size;have x3:bq ≠ w.heap.size+1+1:=by
  rcases y1.o with h | h
  · have:=HR.o _ h;omega
  have:=h.1;have:=e1.o;omega
 clear zb c27 c47 a1 zh zn zc j1 n6 o4 m5;cases rb with
 | true =>
  have h9:=g8.o.trans z2.o;cases h9
 | false =>
  have l0:Hid (res=match iF b cv gas (((⟨so,sa,sb⟩:Nd),sat,sk),M) with | .no=>.no | .bad=>.bad | .yes y=>.yes (eG ((⟨ho,(ia:Int),(nb:Int)⟩:Nd),[],gH ((cI hk).set 1 y)) L)):=aB (by
   have h:=i5.o;rw[if_neg aD] at h;exact h)
  clear i5 g8;obtain⟨k0,k1,k2,k3,k4,k5⟩:=t6.o.below f9.o t7.o;simp only at k0 k1 k2 k3 k4 k5;have g9:=aB (fun (V:World) (hV:Below wd.heap.size wd V)=>z1.o V (bB R V0 wd) ⟨k1A,k1n,k1c,k1B,k1m,k1d,k1C,k1p,k1e⟩ ((⟨qo,qa,qb⟩:Nd),qat,qk) (p1.o.below (a4.o.s.bel.trans (hV.mono a4.o.s.bel.size))) (lR o9.o (a4.o.s.bel.trans (hV.mono a4.o.s.bel.size))) (fun q hq=>Nat.lt_of_lt_of_le (a4.o.lt HR.o q hq) hV.size) ((x6.o.keep (j6 HR.o i8.o.s.bel.size f9.o)).below (a4.o.lt HR.o) hV) y3.o y2.o);rw[x9.o] at g9;obtain⟨rr,p5⟩ : ∃r,r=iF b cv gas (((⟨so,sa,sb⟩:Nd),sat,sk),M):=⟨_,rfl⟩;rw[<-p5] at g9 l0;unfold DN at g9;have zh:∀i:Nat,wd.cell? ⟨w4.heap.size,i,I⟩=(#[O X ho,O X (ia:Int),O X (nb:Int),Y (some ⟨bq,oq,I⟩) pk ek,Y Ca pa ea,Y Cf pf ef]:Array Value)[i]?:=aS.cell a4.o.h;have g1:=aS.cell a4.o.s.bk;have i1:=a4.o.s.bk.lt;clear p5;go_upto_region 28 with fail
  go_cut [24,25,26] (fun pv bv ev wx=>∃(g7:Nat) (c7 c6 c5:Option Addr) (b7 c3 b8 c0 b6 b9:Nat) (yo ya yb:Int) (yat:List Nd) (yk:Fo) (is:Bool) (f4:Int),pv=.pointer (some ⟨g7,0,I⟩)/\bv=.bool is/\ev=O X f4/\Hid (RI rr ((⟨yo,ya,yb⟩:Nd),yat,yk) is f4)/\Hid (DO w V0 R #[O X b.vars,Y v.Ao v.no v.co,Y v.Ae v.ne v.ce,O X b.nat,Y v.Ap v.np v.cp] #[O X xo,O X xa,O X xb,Y Ak nk ck,Y Aa na ca,Y Af nf cf] w4.heap.size (w4.heap.size+1) ⟨Ak,nk,ck,Aa,na,ca,Af,nf,cf⟩ ((⟨xo,xa,xb⟩:Nd),xat,xk) ⟨(some ⟨bq,oq,I⟩),pk,ek,Ca,pa,ea,Cf,pf,ef⟩ ((⟨ho,(ia:Int),(nb:Int)⟩:Nd),a3,hk) KB kl kd L wd wx g7 ⟨c7,b7,c3,c6,b8,c0,c5,b6,b9⟩ ((⟨yo,ya,yb⟩:Nd),yat,yk)))
  case first =>
   as_aux_lemma =>
   go_wp2_with fail;have A4:=aB (a4.o.lt HR.o);have p4:wd.drew.heap.size=wd.heap.size:=rfl;refine wp_region_held_drew (S:=(fun w'=>Below wd.heap.size wd w')) aC ?_ (fun hZ => ?_)
   · (try dsimp only);exact aT (Below.refl _ _) 1
   have d0:Hid (Below wd.heap.size wd wd.drew):=aB (aT (Below.refl _ _) 1);generalize wd.drew=W1 at *;have s6:=aB p4;clear p4;refine tk 0 ?_ (fun wq hSw => ?_) hZ ?_;rotate_left
   · have b0:=(hSw.cell (p:=⟨w.heap.size,0,I⟩) i1).trans (g1 0);have b1:=(hSw.cell (p:=⟨w.heap.size,1,I⟩) i1).trans (g1 1);have b2:=(hSw.cell (p:=⟨w.heap.size,2,I⟩) i1).trans (g1 2);have b3:=(hSw.cell (p:=⟨w.heap.size,3,I⟩) i1).trans (g1 3);have b4:=(hSw.cell (p:=⟨w.heap.size,4,I⟩) i1).trans (g1 4);go_simp;try with_reducible rfl
   try simp only[p7]
   refine aL 1 hZ ?_;refine aL 2 hZ ?_;refine tk 3 ?_ (fun wq hSw => ?_) hZ ?_;rotate_left
   · have f3:=(hSw.cell (p:=⟨w4.heap.size,3,I⟩) m4).trans (zh 3);go_simp;try with_reducible rfl
   try simp only[p7]
   refine aL 4 hZ ?_;refine tk 5 ?_ (fun wq hSw => ?_) hZ ?_;rotate_left
   · have s0:=(hSw.cell (p:=⟨bq,oq+6,I⟩) g4).trans k0;have s1:=(hSw.cell (p:=⟨bq,oq+6+1,I⟩) g4).trans k1;have s2:=(hSw.cell (p:=⟨bq,oq+6+2,I⟩) g4).trans k2;have s3:=(hSw.cell (p:=⟨bq,oq+6+3,I⟩) g4).trans k3;have s4:=(hSw.cell (p:=⟨bq,oq+6+4,I⟩) g4).trans k4;have s5:=(hSw.cell (p:=⟨bq,oq+6+5,I⟩) g4).trans k5;go_simp;try with_reducible rfl
   try simp only[p7]
   refine wpAnyH_ready (rs:=[6,11]) aC aD ?_;refine AllReadyH.cons rfl (fun K hK => ?_) (AllReadyH.cons rfl (fun K hK => ?_) (AllReadyH.nil))
   · go_simp;go_at_call 45
     refine (g9.o _ d0.o).mono ?_;rintro e v1 ⟨a2,⟨c7,b7,c3,c6,b8,c0,c5,b6,b9⟩,⟨⟨yo,ya,yb⟩,yat,yk⟩,is,f4,rfl,a6,i0⟩;have l1:=aB a2;have n7:=aB a6;have j2:=bZ d0 a2;clear a2 a6;have j0:=aB i0;clear i0;go_wp2_with fail;refine hK.o _ _ (by exact j2.o) fun hZ => ?_;clear hK K;try simp only[p7]
     refine aL 7 hZ ?_;refine aL 8 hZ ?_;refine aL 9 hZ ?_;refine aL 10 hZ ?_;have j4:=aB (aP v1 (Z #[O X 0,O X 0,O X 0,Y I 0 0,Y I 0 0,Y I 0 0] 85));have j3:=aB (j2.o.trans (j4.o.mono j2.o.size));have HK:=aB (aS.new v1 85 #[O X 0,O X 0,O X 0,Y I 0 0,Y I 0 0,Y I 0 0]);have o0:Hid ((v1.alloc (Z #[O X 0,O X 0,O X 0,Y I 0 0,Y I 0 0,Y I 0 0] 85)).heap.size=v1.heap.size+1):=aB aD;refine r1 11 fun K hK => ?_;go_simp;refine hK.o _ _ (by exact j3.o) fun hZ => ?_;clear hK K;try simp only[p7]
     generalize (v1.alloc (Z #[O X 0,O X 0,O X 0,Y I 0 0,Y I 0 0,Y I 0 0] 85))=va at *;have zg:=aS.cell HK.o;have v2:=aS.frozen HK.o;have HX:=aB (GE (ty:=⟨c7,b7,c3,c6,b8,c0,c5,b6,b9⟩) (y:=((⟨yo,ya,yb⟩:Nd),yat,yk)) HR.o a4.o d0.o s6.o l1.o j4.o o0.o HK.o n7.o);refine r1 12 fun K hK => ?_;go_simp;refine hK.o _ _ (by exact HX.o.be) fun hZ => ?_;clear hK K;try simp only[p7]
     refine aL 13 hZ ?_;refine aL 14 hZ ?_;refine wpAnyH_done aC ?_ _;go_wp2_with fail;go_meet;exact⟨v1.heap.size,c7,c6,c5,b7,c3,b8,c0,b6,b9,yo,ya,yb,yat,yk,is,f4,rfl,rfl,rfl,j0,HX⟩
   have j4:=aB (aP W1 (Z #[O X 0,O X 0,O X 0,Y I 0 0,Y I 0 0,Y I 0 0] 85));have j3:=aB (d0.o.trans (j4.o.mono d0.o.size));have HK:=aB (aS.new W1 85 #[O X 0,O X 0,O X 0,Y I 0 0,Y I 0 0,Y I 0 0]);have o0:Hid ((W1.alloc (Z #[O X 0,O X 0,O X 0,Y I 0 0,Y I 0 0,Y I 0 0] 85)).heap.size=W1.heap.size+1):=aB aD;go_simp;refine hK.o _ _ (by exact j3.o) fun hZ => ?_;clear hK K;try simp only[p7]
   generalize (W1.alloc (Z #[O X 0,O X 0,O X 0,Y I 0 0,Y I 0 0,Y I 0 0] 85))=va at *;refine r1 6 fun K hK => ?_;go_simp;go_at_call 45
   refine (g9.o _ j3.o).mono ?_;rintro e v1 ⟨a2,⟨c7,b7,c3,c6,b8,c0,c5,b6,b9⟩,⟨⟨yo,ya,yb⟩,yat,yk⟩,is,f4,rfl,a6,i0⟩;have l1:=aB a2;have n7:=aB a6;have j2:=bZ j3 a2;clear a2 a6;have j0:=aB i0;clear i0;go_wp2_with fail;refine hK.o _ _ (by exact j2.o) fun hZ => ?_;clear hK K;try simp only[p7]
   refine aL 7 hZ ?_;refine aL 8 hZ ?_;refine aL 9 hZ ?_;refine aL 10 hZ ?_;have t5:=aB (HK.o.below l1.o HK.o.lt);have zg:=aS.cell t5.o;have v2:=aS.frozen t5.o;have HX:=aB (GD (ty:=⟨c7,b7,c3,c6,b8,c0,c5,b6,b9⟩) (y:=((⟨yo,ya,yb⟩:Nd),yat,yk)) HR.o a4.o d0.o s6.o j4.o o0.o HK.o l1.o n7.o);refine r1 12 fun K hK => ?_;go_simp;refine hK.o _ _ (by exact HX.o.be) fun hZ => ?_;clear hK K;try simp only[p7]
   refine aL 13 hZ ?_;refine aL 14 hZ ?_;refine wpAnyH_done aC ?_ _;go_wp2_with fail;go_meet;exact⟨W1.heap.size,c7,c6,c5,b7,c3,b8,c0,b6,b9,yo,ya,yb,yat,yk,is,f4,rfl,rfl,rfl,j0,HX⟩
  case rest =>
  obtain⟨g7,c7,c6,c5,b7,c3,b8,c0,b6,b9,yo,ya,yb,yat,yk,is,f4,rfl,rfl,rfl,j0,HX⟩:=hcut;clear zh g1 k0 k1 k2 k3 k4 k5 g9;have a0:=aB HX.o.nn;rcases j0.o with⟨hr,rfl,rfl⟩ | ⟨hr,rfl,rfl⟩ | ⟨hr,rfl,rfl⟩
  · have o2:Hid (res=.no):=aB (by rw[l0.o,hr]);have zx:=aS.cell a0.o.s.x;have zr:=aS.cell a0.o.s.r;have zf:=aS.frozen a0.o.s.r;clear hr;go_wp2_with fail;refine bodyPost_ret (v:=.tuple #[.agg #[O X xo,O X xa,O X xb,Y Ak nk ck,Y Aa na ca,Y Af nf cf],.bool false,O X 0]) ?_ rfl ?_
    · exact dR (g:=w.heap.size+1+1) (cJ a0.o.s.r _ _ _ _ _ _) aD
    exact jZ (V0:=V0) (ty:=⟨Ak,nk,ck,Aa,na,ca,Af,nf,cf⟩) (y:=((⟨xo,xa,xb⟩:Nd),xat,xk)) HR.o e1.o a0.o (Below.refl _ _) (fun q h=>h) a0.o.tx (.inl ⟨o2.o,rfl,rfl⟩)
  · have o2:Hid (res=.bad):=aB (by rw[l0.o,hr]);have zx:=aS.cell a0.o.s.x;have zr:=aS.cell a0.o.s.r;have zf:=aS.frozen a0.o.s.r;clear hr;go_wp2_with fail;refine bodyPost_ret (v:=.tuple #[.agg #[O X xo,O X xa,O X xb,Y Ak nk ck,Y Aa na ca,Y Af nf cf],.bool true,O X 9]) ?_ rfl ?_
    · exact dR (g:=w.heap.size+1+1) (cJ a0.o.s.r _ _ _ _ _ _) aD
    exact jZ (V0:=V0) (ty:=⟨Ak,nk,ck,Aa,na,ca,Af,nf,cf⟩) (y:=((⟨xo,xa,xb⟩:Nd),xat,xk)) HR.o e1.o a0.o (Below.refl _ _) (fun q h=>h) a0.o.tx (.inr (.inl ⟨o2.o,rfl,rfl⟩))
  have o3:Hid (res=s9.yes (eG ((⟨ho,(ia:Int),(nb:Int)⟩:Nd),[],gH ((cI hk).set 1 ((⟨yo,ya,yb⟩:Nd),yat,yk))) L)):=aB (by rw[l0.o,hr]);have a8:pk<=1000000:=by have:=s8.o;have:=y6.o;omega
  have h7:=a0.o.th.kids;try simp only at h7
  have e7:=y8.o;try simp only at e7
  rw[e7] at h7;have k8:Hid (∀V,Below wc.heap.size wc V->Calls Tryz.prog 84 #[Y (some ⟨bq,oq,I⟩) pk ek,O X 1,.agg #[O X yo,O X ya,O X yb,Y c7 b7 c3,Y c6 b8 c0,Y c5 b6 b9]] V (R0 (bB R V0 wc) V ((cI hk).set 1 ((⟨yo,ya,yb⟩:Nd),yat,yk)))):=aB (fun V hV=>xS (i:=1) (t:=⟨c7,b7,c3,c6,b8,c0,c5,b6,b9⟩) (x:=((⟨yo,ya,yb⟩:Nd),yat,yk)) (fun q hq=>Nat.lt_of_lt_of_le (a0.o.lt HR.o q hq) hV.size) (HX.o.tr.below (a0.o.lt HR.o) hV) (h7.below (a0.o.lt HR.o) hV) (fun h=>by cases h) a8 l5);obtain⟨LS,m9⟩ : ∃l,l=(cI hk).set 1 ((⟨yo,ya,yb⟩:Nd),yat,yk):=⟨_,rfl⟩;rw[<-m9] at k8 o3;obtain⟨ls,j7⟩ : ∃n,n=LS.length:=⟨_,rfl⟩;unfold R0 at k8;rw[<-j7] at k8;have y9:=aB j7;have A5:Hid (ls<=1000000):=aB (by
   have h:=h7.len;rw[gR] at h;rw[j7,m9,List.length_set];omega)
  obtain⟨⟨⟨zo,za,zb⟩,v3,zk⟩,hZ⟩ : ∃y,y=eG ((⟨ho,(ia:Int),(nb:Int)⟩:Nd),[],gH LS) L:=⟨_,rfl⟩;rw[<-hZ] at o3;have HZ:=aB hZ;have g3:=HX.o.bk.lt;have x1:w.heap.size+3<=g7:=by have:=HX.o.ge;have:=a4.o.s.sz;have:=e1.o;omega
  have z7:=aS.cell HX.o.bk;have zn:∀i:Nat,wc.cell? ⟨w4.heap.size+1,i,I⟩=(#[O X ho,O X (ia:Int),O X (nb:Int)]:Array Value)[i]?:=aS.cell a0.o.n;have zh:∀i:Nat,wc.cell? ⟨w4.heap.size,i,I⟩=(#[O X ho,O X (ia:Int),O X (nb:Int),Y (some ⟨bq,oq,I⟩) pk ek,Y Ca pa ea,Y Cf pf ef]:Array Value)[i]?:=aS.cell a0.o.h;have l8:=a0.o.n.lt;have m4:=a0.o.h.lt;clear hr h7 e7 m9 j7 hZ a8;go_upto_region 31 with fail
  refine wp_region_held_drew (S:=(fun w'=>∀q,q<wc.heap.size->q ≠ w.heap.size+1+1->w'.heap[q]? = wc.heap[q]?)) aC ?_ (fun hZ => ?_)
  · (try dsimp only);exact fun q _ _=>rfl
  have d0:Hid (Below wc.heap.size wc wc.drew):=aB (aT (Below.refl _ _) 1);generalize wc.drew=W1 at *;refine tk 0 ?_ (fun wq hSw => ?_) hZ ?_;rotate_left
  · have f0:=(aQ (hSw (w4.heap.size+1) (l8) aA) (0)).trans (zn 0);have f1:=(aQ (hSw (w4.heap.size+1) (l8) aA) (1)).trans (zn 1);have f2:=(aQ (hSw (w4.heap.size+1) (l8) aA) (2)).trans (zn 2);go_simp;try with_reducible rfl
  try simp only[p7]
  refine aL 1 hZ ?_;refine tk 2 ?_ (fun wq hSw => ?_) hZ ?_;rotate_left
  · have f3:=(aQ (hSw (w4.heap.size) (m4) aA) (3)).trans (zh 3);go_simp;try with_reducible rfl
  try simp only[p7]
  refine tk 3 ?_ (fun wq hSw => ?_) hZ ?_;rotate_left
  · have s0:=(aQ (hSw (g7) (g3) aA) (0)).trans (z7 0);have s1:=(aQ (hSw (g7) (g3) aA) (1)).trans (z7 1);have s2:=(aQ (hSw (g7) (g3) aA) (2)).trans (z7 2);have s3:=(aQ (hSw (g7) (g3) aA) (3)).trans (z7 3);have s4:=(aQ (hSw (g7) (g3) aA) (4)).trans (z7 4);have s5:=(aQ (hSw (g7) (g3) aA) (5)).trans (z7 5);go_simp;try with_reducible rfl
  try simp only[p7]
  refine aL 6 hZ ?_;refine r1 4 fun K hK => ?_;go_simp;go_at_call 84
  refine (k8.o _ d0.o).mono ?_;rintro e v8 ⟨a2,A8,c8,rfl,a6⟩;have e2:=bZ d0 a2;have r9:=aB a6;have y0:=aB d0.o.size;clear a6;clear a2;go_wp2_with fail;refine hK.o _ _ (by exact fun q h1 _=>e2.o.block q h1) fun hZ => ?_;clear hK K;try simp only[p7]
  refine aL 5 hZ ?_;have y4:Hid (dM (bB R V0 v8) v8 A8 ls c8 (gH LS)):=aB (r9.o.keep fun q hq=>⟨fW (fun q h=>h) (by have:=a0.o.s.sz;have:=y0.o;omega) e2.o.size hq,fun _=>rfl⟩);have o5:=aB (a0.o.below HR.o e2.o);have t0:=aB (gM (x:=((⟨ho,(ia:Int),(nb:Int)⟩:Nd),[],gH LS)) (o5.o.lt HR.o) (RA y9.o y4.o) o5.o.kd aA);rw[<-HZ.o] at t0;clear r9;refine r1 7 fun K hK => ?_;go_simp;go_at_call 81
  refine (t0.o).mono ?_;rintro e v9 ⟨a2,⟨u2A,u2n,u2c,u2B,u2m,u2d,u2C,u2p,u2e⟩,rfl,a6⟩;have b5:=bZ e2 a2;have x7:=aB a6;have n8:=aB a2.size;clear a6;clear a2;go_wp2_with fail;refine hK.o _ _ (by exact fun q h1 _=>b5.o.block q h1) fun hZ => ?_;clear hK K;try simp only[p7]
  have o1:=aB (a0.o.s.r.below b5.o a0.o.s.r.lt);have zr:=aS.cell o1.o;have z8:=aS.frozen o1.o;refine r1 8 fun K hK => ?_;go_simp;refine hK.o _ _ (by exact fun q h1 h2=>((eR _ (w.heap.size+1+1) _ _ _ _ _ _).block q (Nat.lt_of_lt_of_le h1 b5.o.size) (by intro e;injection e with e;exact h2 e)).trans (b5.o.block q h1)) fun hZ => ?_;clear hK K;try simp only[p7]
  refine aL 9 hZ ?_;refine aL 10 hZ ?_;refine wpAnyH_done aC ?_ _;go_wp2_with fail;refine bodyPost_ret (v:=.tuple #[.agg #[O X zo,O X za,O X zb,Y u2A u2n u2c,Y u2B u2m u2d,Y u2C u2p u2e],.bool true,O X 0]) ?_ rfl ?_
  · exact dR (g:=w.heap.size+1+1) (cJ o1.o _ _ _ _ _ _) aD
  exact jZ (V0:=V0) (ty:=⟨u2A,u2n,u2c,u2B,u2m,u2d,u2C,u2p,u2e⟩) (y:=((⟨zo,za,zb⟩:Nd),v3,zk)) HR.o e1.o a0.o b5.o (fun q hq=>fW (fun q h=>h) o5.o.s.sz n8.o hq) x7.o (.inr (.inr ⟨o3.o,rfl,rfl⟩))
end Go.Proofs.YtjoddliplahgkaaGreat
