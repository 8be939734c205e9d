/- The reference's Go at a fix that is opened. -/
import Derived.Test.YtjoddliplahgkaaGreatPGoK
namespace Go.Proofs.YtjoddliplahgkaaGreat
set_option linter.unusedVariables false
set_option linter.unusedSimpArgs false
open Go.RowKit
open Go.Value renaming int → O, slice → X
open Go.IntKind renaming i64 → S
open Go.Obj renaming cells → Y
open Option renaming none → Z
open Go.Lib renaming hid->aB
theorem yH (h:TT) : ∀(i:Nat) (x:TT),(nB h i x).2=0\/(nB h i x).2=9
 | 0,x=>.inl rfl
 | i+1,x=>by
  have e:nB h (i+1) x=if (cH x (i5 (eD h i) (i:Int))).2=0 then nB h i (cH x (i5 (eD h i) (i:Int))).1 else cH x (i5 (eD h i) (i:Int)):=rfl;rw[e];split
  · exact yH h i _
  · exact uW _ _
theorem KO (h:TT):(AD h).2=0\/(AD h).2=9:=yH h _ _
set_option maxRecDepth 100000 in
set_option maxHeartbeats 4000000 in
theorem M7 {v:bO} {b:Bk} {w0:World} {cA:Option Addr} {cn cc:Nat} {cv:List (List Nd)} (hr:bP b=0) (hcx:fR b cv) {gas:Nat} (IH:KU v b w0 cA cn cc cv gas) {w:World} {R:Nat->Prop} {t:iE} {x:TT} (hbk:bX w v b) (hctx:jI (· < w.heap.size) w cA cn cc cv) (hR:∀q,R q->q<w.heap.size) (ht:dX R w t x) (hx:bR b (cv.length:Int) x) (hsz:bI x<gas+1) (hop:(bU x).1.1.op=12/\(dA (bU x).1).toNat<(bU x).2.length/\(bU ((bU x).2.getD (dA (bU x).1).toNat (default,[],.nil))).1.1.op=10) :
 Calls Tryz.prog 45 #[.agg #[O S b.vars,X v.Ao v.no v.co,X v.Ae v.ne v.ce,O S b.nat,X v.Ap v.np v.cp],X cA cn cc,.agg (bH t x.1)] w (DN R w (iF b cv (gas+1) (bU x))):=by
 obtain⟨res,a3⟩ : ∃r,r=iF b cv (gas+1) (bU x):=⟨_,rfl⟩;rw[<-a3];have b0:=kI hx;have a4:=dJ hx;have a5:bI x<=4096:=hx.few;have b5:=(a7 w (Y #[O S b.vars,X v.Ao v.no v.co,X v.Ae v.ne v.ce,O S b.nat,X v.Ap v.np v.cp] 26) (Y (bH t x.1) 85)).alloc aH (Y #[O S 0,O S 0,O S 0,X Z 0 0,X Z 0 0,X Z 0 0] 85);have b4:=aB (eC (fun q hq=>Nat.lt_of_lt_of_le (hR q hq) b5.size) (ht.below hR b5) hx.rt);obtain⟨⟨⟨ho,ha,hb⟩,a1,hk⟩,L,k4⟩ : ∃F L,bU x=(F,L):=⟨_,_,rfl⟩;rw[k4] at b4 a3 b0 a4 hop;unfold DM at b4;simp only at b4 hop;have e7:DP w (((w.alloc (Y #[O S b.vars,X v.Ao v.no v.co,X v.Ae v.ne v.ce,O S b.nat,X v.Ap v.np v.cp] 26)).alloc (Y (bH t x.1) 85)).alloc (Y #[O S 0,O S 0,O S 0,X Z 0 0,X Z 0 0,X Z 0 0] 85)) #[O S b.vars,X v.Ao v.no v.co,X v.Ae v.ne v.ce,O S b.nat,X v.Ap v.np v.cp] (bH t x.1) (((w.alloc (Y #[O S b.vars,X v.Ao v.no v.co,X v.Ae v.ne v.ce,O S b.nat,X v.Ap v.np v.cp] 26)).alloc (Y (bH t x.1) 85)).alloc (Y #[O S 0,O S 0,O S 0,X Z 0 0,X Z 0 0,X Z 0 0] 85)):=⟨b5,Nat.le_refl _,((aS.new _ _ _).alloc _).alloc _,(aS.new' aD).alloc _,aS.new' aD⟩;have f6:dX (bB R (((w.alloc (Y #[O S b.vars,X v.Ao v.no v.co,X v.Ae v.ne v.ce,O S b.nat,X v.Ap v.np v.cp] 26)).alloc (Y (bH t x.1) 85)).alloc (Y #[O S 0,O S 0,O S 0,X Z 0 0,X Z 0 0,X Z 0 0] 85)) (((w.alloc (Y #[O S b.vars,X v.Ao v.no v.co,X v.Ae v.ne v.ce,O S b.nat,X v.Ap v.np v.cp] 26)).alloc (Y (bH t x.1) 85)).alloc (Y #[O S 0,O S 0,O S 0,X Z 0 0,X Z 0 0,X Z 0 0] 85))) (((w.alloc (Y #[O S b.vars,X v.Ao v.no v.co,X v.Ae v.ne v.ce,O S b.nat,X v.Ap v.np v.cp] 26)).alloc (Y (bH t x.1) 85)).alloc (Y #[O S 0,O S 0,O S 0,X Z 0 0,X Z 0 0,X Z 0 0] 85)) t x:=ht.keep fun q hq=>⟨Or.inl hq,fun o=>b5.cell (p:=⟨q,o,Z⟩) (hR q hq)⟩;have f5:(((w.alloc (Y #[O S b.vars,X v.Ao v.no v.co,X v.Ae v.ne v.ce,O S b.nat,X v.Ap v.np v.cp] 26)).alloc (Y (bH t x.1) 85)).alloc (Y #[O S 0,O S 0,O S 0,X Z 0 0,X Z 0 0,X Z 0 0] 85)).heap.size=w.heap.size+3:=by simp
 obtain⟨V0,e1⟩ : ∃V0,V0=((w.alloc (Y #[O S b.vars,X v.Ao v.no v.co,X v.Ae v.ne v.ce,O S b.nat,X v.Ap v.np v.cp] 26)).alloc (Y (bH t x.1) 85)).alloc (Y #[O S 0,O S 0,O S 0,X Z 0 0,X Z 0 0,X Z 0 0] 85):=⟨_,rfl⟩;rw[<-e1] at b5 b4 e7 f6 f5;obtain⟨kl,f1⟩ : ∃k,k=L.length:=⟨_,rfl⟩;have k6:L.length<=4096:=by
  have h3:=a4;have h4:bT L<=4096:=by
   have:dK (((⟨ho,ha,hb⟩:Nd),a1,hk),L)=bI ((⟨ho,ha,hb⟩:Nd),a1,hk)+bT L:=rfl;omega
  exact Nat.le_trans (eW L) h4
 rw[<-f1] at b4 k6;have j6:=aB f1;have g2:=aB a3;have g8:=aB b0;have g7:=aB a4;have l7:=aB a5;have e4:=aB e7;have b3:=aB f6;have e3:=aB f5;have HR:=aB hR;have HX:=aB hx;have l2:=aB hcx;have HT:=aB ht;have k9:=aB hsz;clear f1 a3 b0 a4 a5 e7 f6 f5 hR hbk hctx hx IH hcx hr ht hsz b5;obtain⟨⟨xo,xa,xb⟩,xat,xk⟩:=x;obtain⟨Ak,nk,ck,Aa,na,ca,Af,nf,cf⟩:=t;simp only at e4 b3 e1;show Calls Tryz.prog 45 #[.agg #[O S b.vars,X v.Ao v.no v.co,X v.Ae v.ne v.ce,O S b.nat,X v.Ap v.np v.cp],X cA cn cc,.agg #[O S xo,O S xa,O S xb,X Ak nk ck,X Aa na ca,X Af nf cf]] w _;go_in;go_upto_region 1 with fail
 rw[<-e1];clear e1;have k0:=aS.cell e4.o.x;go_wp2_with fail;refine (b4.o).mono ?_;rintro e w4 ⟨b2,⟨Ck,pk,ek,Ca,pa,ea,Cf,pf,ef⟩,KB,kd,rfl,h7,i2,b9⟩;have b1:=a7 w4 (Y #[O S ho,O S ha,O S hb,X Ck pk ek,X Ca pa ea,X Cf pf ef] 85) (Y #[O S ho,O S ha,O S hb] 46);have j3:=aB ((e4.o.below b2).below b1);have f9:Hid (aS ((w4.alloc (Y #[O S ho,O S ha,O S hb,X Ck pk ek,X Ca pa ea,X Cf pf ef] 85)).alloc (Y #[O S ho,O S ha,O S hb] 46)) w4.heap.size 85 #[O S ho,O S ha,O S hb,X Ck pk ek,X Ca pa ea,X Cf pf ef]):=aB ((aS.new _ _ _).alloc _);have f8:Hid (aS ((w4.alloc (Y #[O S ho,O S ha,O S hb,X Ck pk ek,X Ca pa ea,X Cf pf ef] 85)).alloc (Y #[O S ho,O S ha,O S hb] 46)) (w4.heap.size+1) 46 #[O S ho,O S ha,O S hb]):=aB (aS.new' aD);have d0:Hid (dX (bB R V0 ((w4.alloc (Y #[O S ho,O S ha,O S hb,X Ck pk ek,X Ca pa ea,X Cf pf ef] 85)).alloc (Y #[O S ho,O S ha,O S hb] 46))) ((w4.alloc (Y #[O S ho,O S ha,O S hb,X Ck pk ek,X Ca pa ea,X Cf pf ef] 85)).alloc (Y #[O S ho,O S ha,O S hb] 46)) ⟨Ak,nk,ck,Aa,na,ca,Af,nf,cf⟩ ((⟨xo,xa,xb⟩:Nd),xat,xk)):=aB (b3.o.keep fun q hq=>⟨hq.to (Nat.le_refl _) (Nat.le_trans b2.size b1.size),fun o=>(b2.trans (b1.mono b2.size)).cell (p:=⟨q,o,Z⟩) (by
  rcases hq with hq | hq
  · have:=HR.o _ hq;have:=e3.o;show q<V0.heap.size;omega
  exact hq.2)⟩)
 have d2:Hid (dX R ((w4.alloc (Y #[O S ho,O S ha,O S hb,X Ck pk ek,X Ca pa ea,X Cf pf ef] 85)).alloc (Y #[O S ho,O S ha,O S hb] 46)) ⟨Ck,pk,ek,Ca,pa,ea,Cf,pf,ef⟩ ((⟨ho,ha,hb⟩:Nd),a1,hk)):=aB (h7.keep fun q hq=>⟨hq,fun o=>b1.cell (p:=⟨q,o,Z⟩) (by have:=HR.o _ hq;have:=e3.o;have:=b2.size;show q<w4.heap.size;omega)⟩);have d4:Hid (dM (bB R V0 ((w4.alloc (Y #[O S ho,O S ha,O S hb,X Ck pk ek,X Ca pa ea,X Cf pf ef] 85)).alloc (Y #[O S ho,O S ha,O S hb] 46))) ((w4.alloc (Y #[O S ho,O S ha,O S hb,X Ck pk ek,X Ca pa ea,X Cf pf ef] 85)).alloc (Y #[O S ho,O S ha,O S hb] 46)) KB kl kd (gH L)):=aB (i2.keep fun q hq=>⟨hq.to (Nat.le_refl _) b1.size,fun o=>b1.cell (p:=⟨q,o,Z⟩) (by
  rcases hq with hq | hq
  · have:=HR.o _ hq;have:=e3.o;have:=b2.size;show q<w4.heap.size;omega
  exact hq.2)⟩)
 have l0:=aB b9;clear b2 b1 h7 i2 b9 b4 e4 b3 k0;have d3:Hid (AM w V0 R #[O S b.vars,X v.Ao v.no v.co,X v.Ae v.ne v.ce,O S b.nat,X v.Ap v.np v.cp] #[O S xo,O S xa,O S xb,X Ak nk ck,X Aa na ca,X Af nf cf] w4.heap.size (w4.heap.size+1) ⟨Ak,nk,ck,Aa,na,ca,Af,nf,cf⟩ ((⟨xo,xa,xb⟩:Nd),xat,xk) ⟨Ck,pk,ek,Ca,pa,ea,Cf,pf,ef⟩ ((⟨ho,ha,hb⟩:Nd),a1,hk) KB kl kd L ((w4.alloc (Y #[O S ho,O S ha,O S hb,X Ck pk ek,X Ca pa ea,X Cf pf ef] 85)).alloc (Y #[O S ho,O S ha,O S hb] 46))):=aB ⟨j3.o,f9.o,f8.o,d0.o,d2.o.keep fun q hq=>⟨Or.inl hq,fun _=>rfl⟩,d4.o⟩;have zh:=aS.cell f9.o;have zn:=aS.cell f8.o;clear j3 f9 f8 d0 d2 d4;obtain⟨hop,f0,a0⟩:=hop;have hF:=g8.o;obtain⟨j0,i9,j2,j1,_⟩:=hI hF.head.okt hop;have e9:=lE hF.head.okt hop;obtain⟨e8,a8⟩:=rB hF.head.okt hop;simp only at j0 i9 j2 j1 e9 e8 a8;obtain⟨A,hA⟩ : ∃A:Nat,ha=(A:Int):=⟨ha.toNat,by omega⟩;subst hA;rw[Int.toNat_natCast] at e8 a8;obtain⟨pz,d9⟩ : ∃z:Nat,dA ((⟨ho,(A:Int),hb⟩:Nd),a1,hk)=(z:Int):=⟨(dA ((⟨ho,(A:Int),hb⟩:Nd),a1,hk)).toNat,by omega⟩;rw[d9] at a8 e9;simp only[d9,Int.toNat_natCast] at f0 a0;have a9:=d3.o;have i4:=a9.th.funs.len;simp only at i4;obtain⟨bf,of,f3,i6,i5⟩:=a9.th.funs.mem (by simp only;omega);obtain⟨_,q1,_⟩:=i5 A (by simp only;omega);rw[a8] at q1;simp only at f3;have l6:(A:Int)<(pf:Int):=aA;have j7:=aB f3;have m4:=aB (a9.lt HR.o _ i6);have e0:pz<L.length:=f0;have b8:=hF.args _ (gS e0 (default,[],.nil));obtain⟨q,hq⟩ : ∃q,q=L.getD pz (default,[],.nil):=⟨_,rfl⟩;rw[<-hq] at b8 a0;have i3:cU (gH L) pz=q:=by
  rw[hq,q7]
 obtain⟨⟨⟨so,sa,sb⟩,sat,sk⟩,M,b7⟩ : ∃F L,bU q=(F,L):=⟨_,_,rfl⟩;have hsz:=dJ b8;rw[b7] at hsz a0;simp only at a0;have i0:bI q<gas:=by
  have h2:=nG (L:=L) (a:=q) (by rw[hq];exact gS e0 _);have h3:=g7.o;have h4:dK (((⟨ho,(A:Int),hb⟩:Nd),a1,hk),L)=bI ((⟨ho,(A:Int),hb⟩:Nd),a1,hk)+bT L:=rfl;have h5:bI ((⟨ho,(A:Int),hb⟩:Nd),a1,hk)=1+a1.length+(row hk).length:=dL _ _ _;have:=k9.o;omega
 obtain⟨ba,oa,⟨k1A,k1n,k1c,k1B,k1m,k1d,k1C,k1p,k1e⟩,i8,f7,f2,d6⟩:=a9.kd.nthR (j:=pz) (by have:=j6.o;omega);rw[i3] at f2 d6;have l5:pz<kl:=by have:=j6.o;omega
 have e2:decide (kl<=pz)=false:=decide_eq_false aA;have e5:(pz:Int)<(kl:Int):=aA;have a2:=aB (eC (a9.lt HR.o) d6 b8.rt);rw[b7] at a2;unfold DM at a2;simp only at a2;obtain⟨ml,i1⟩ : ∃m,m=M.length:=⟨_,rfl⟩;rw[<-i1] at a2;have j9:=aB i8;have l3:=aB f2;have l8:=aB d6;have m2:=aB b8;have l9:=aB b7;have m1:=aB i0;have m0:=aB f7;have m3:=aB (a9.lt HR.o _ f7);obtain⟨⟨y,ye⟩,hy⟩ : ∃y,y=AD ((⟨ho,(A:Int),hb⟩:Nd),a1,hk):=⟨_,rfl⟩;have h6:ye=0\/ye=9:=by have:=KO ((⟨ho,(A:Int),hb⟩:Nd),a1,hk);rw[<-hy] at this;exact this
 have j4:Hid (res=if ye=0 then s9.yes (eG y L) else s9.bad):=aB (by
  have k3:bW b cv (((⟨ho,(A:Int),hb⟩:Nd),a1,hk),L)=true:=by
   unfold bW;simp only;rw[if_neg aA,if_neg aA,if_neg aA,if_neg aA,if_pos hop,d9,Int.toNat_natCast,<-hq,b7];simp only;rw[a0,decide_eq_true e0];rfl
  rw[g2.o,iL k3];unfold kD;simp only;rw[if_neg aA,if_neg aA,if_neg aA,if_neg aA,if_neg aA,RG,<-hy];by_cases h:ye=0
  · simp only;rw[if_pos h,if_pos h]
  simp only;rw[if_neg h,if_neg h])
 have k7:=aB h6;have g3:=aB (fun (V:World) (Q:Nat->Prop) (t:iE) (hQ:∀q,Q q->q<V.heap.size) (ht:dX Q V t ((⟨ho,(A:Int),hb⟩:Nd),a1,hk))=>CK hQ ht (free:=(cv.length:Int)) aA (by have:=l2.o.few;omega) hF.head hop);rw[<-hy] at g3;have dS:(so != 10)=false:=by rw[a0];rfl
 clear hy h6;have d5:(ho==5)=false:=by rw[beq_eq_false_iff_ne];omega
 have d7:(ho==7)=false:=by rw[beq_eq_false_iff_ne];omega
 have d1:(ho==1)=false:=by rw[beq_eq_false_iff_ne];omega
 have d8:(ho==8)=false:=by rw[beq_eq_false_iff_ne];omega
 have d11:(ho==11)=false:=by rw[beq_eq_false_iff_ne];omega
 have d12:(ho==12)=true:=by simp[hop]
 obtain rfl:Cf=some ⟨bf,of,Z⟩:=j7.o;obtain rfl:KB=some ⟨ba,oa,Z⟩:=j9.o;clear hF j0 i9 j2 j1 e9 e8 a8 d9 a9 i4 f3 i6 i5 hop f0 j7 e0 b8 hq i3 b7 hsz i0 i8 f7 f2 d6 j9 i1 a0;obtain⟨⟨qo,qa,qb⟩,qat,qk⟩:=q;obtain⟨q0,q11,q2,q3,q4,q5⟩:=l3.o;simp only at q0 q11 q2 q3 q4 q5;go_upto_region 33 with fail
 generalize ((w4.alloc (Y #[O S ho,O S (A:Int),O S hb,X Ck pk ek,X Ca pa ea,X (some ⟨bf,of,Z⟩) pf ef] 85)).alloc (Y #[O S ho,O S (A:Int),O S hb] 46))=W5 at *;have l1:=d3;go_upto_region 36 with fail
 go_wp2_with fail;refine (a2.o).mono ?_;rintro e w6 ⟨f4,⟨c1A,c1n,c1c,c1B,c1m,c1d,c1C,c1p,c1e⟩,PB,pd,rfl,k2,k5,a8⟩;have i7:=aP w6 (Y #[O S so,O S sa,O S sb,X c1A c1n c1c,X c1B c1m c1d,X c1C c1p c1e] 85);have h1:=aB (f4.trans (i7.mono f4.size));have g6:=aB (l1.o.below HR.o h1.o);have g9:=aB (aS.new w6 85 #[O S so,O S sa,O S sb,X c1A c1n c1c,X c1B c1m c1d,X c1C c1p c1e]);clear f4 i7 k2 k5 a8 zh zn q0 q11 q2 q3 q4 q5 a2 q1;go_upto_region 37 with fail
 generalize (w6.alloc (Y #[O S so,O S sa,O S sb,X c1A c1n c1c,X c1B c1m c1d,X c1C c1p c1e] 85))=wd at *;have b6:=g6;have zc:=aS.cell g9.o;obtain⟨⟨yo,ya,yb⟩,yat,yk⟩:=y;have g4:=aB (g3.o wd (bB R V0 wd) _ (b6.o.lt HR.o) b6.o.th);unfold SM at g4;simp only at g4;have zh:∀i:Nat,wd.cell? ⟨w4.heap.size,i,Z⟩=(#[O S ho,O S (A:Int),O S hb,X Ck pk ek,X Ca pa ea,X (some ⟨bf,of,Z⟩) pf ef]:Array Value)[i]?:=aS.cell b6.o.h;obtain⟨⟨⟨zo,za,zb⟩,k1,zk⟩,hZ⟩ : ∃z,z=eG ((⟨yo,ya,yb⟩:Nd),yat,yk) L:=⟨_,rfl⟩;rw[<-hZ] at j4;have HZ:=aB hZ;clear hZ g3;go_upto_region 42 with fail
 clear zc;go_wp2_with fail;refine (g4.o).mono ?_;rintro e w8 ⟨c0,⟨c9,c2,c6,c8,c3,c5,c7,c1,c4⟩,rfl,h9⟩;have a6:=aP w8 (Y #[O S yo,O S ya,O S yb,X c9 c2 c6,X c8 c3 c5,X c7 c1 c4] 85);have h0:=aB (c0.trans (a6.mono c0.size));have g5:=aB (b6.o.below HR.o h0.o);have g0:Hid (dX (bB R V0 (w8.alloc (Y #[O S yo,O S ya,O S yb,X c9 c2 c6,X c8 c3 c5,X c7 c1 c4] 85))) (w8.alloc (Y #[O S yo,O S ya,O S yb,X c9 c2 c6,X c8 c3 c5,X c7 c1 c4] 85)) ⟨c9,c2,c6,c8,c3,c5,c7,c1,c4⟩ ((⟨yo,ya,yb⟩:Nd),yat,yk)):=aB (h9.keep fun q hq=>⟨(fW (fun q h=>h) b6.o.s.sz c0.size hq:bB R V0 w8 q).to (Nat.le_refl _) a6.size,fun o=>a6.cell (p:=⟨q,o,Z⟩) (by
  rcases hq with hq | hq
  · exact Nat.lt_of_lt_of_le (b6.o.lt HR.o q hq) c0.size
  exact hq.2)⟩)
 have j5:=aB (gM (g5.o.lt HR.o) g0.o g5.o.kd aA);rw[<-HZ.o] at j5;have HX:=aB (aS.new w8 85 #[O S yo,O S ya,O S yb,X c9 c2 c6,X c8 c3 c5,X c7 c1 c4]);have z7:=aS.cell HX.o;have e6:=g5;clear c0 a6 h9 zh;clear HX;go_wp2_with fail;refine (j5.o).mono ?_;rintro e w9 ⟨a6,⟨u2A,u2n,u2c,u2B,u2m,u2d,u2C,u2p,u2e⟩,rfl,h8⟩;have j8:=aB a6;have k8:=aB h8;have g1:=aB (e6.o.s.r.below a6 e6.o.s.r.lt);have zr:=aS.cell g1.o;have l4:=aS.frozen g1.o;clear a6 h8 z7;go_wp2_with fail;refine bodyPost_ret (v:=.tuple #[.agg #[O S zo,O S za,O S zb,X u2A u2n u2c,X u2B u2m u2d,X u2C u2p u2e],.bool true,O S ye]) ?_ rfl ?_
 · exact dR (g:=w.heap.size+1+1) (cJ g1.o _ _ _ _ _ _) aD
 exact jZ (V0:=V0) (ty:=⟨u2A,u2n,u2c,u2B,u2m,u2d,u2C,u2p,u2e⟩) (y:=((⟨zo,za,zb⟩:Nd),k1,zk)) HR.o e3.o e6.o j8.o (fun q hq=>fW (fun q h=>h) e6.o.s.sz j8.o.size hq) k8.o (L9 j4.o k7.o)
end Go.Proofs.YtjoddliplahgkaaGreat
