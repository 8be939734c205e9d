/- Merged: GoL, GoM. -/
import Derived.Test.YtjoddliplahgkaaGreatTGoK
namespace Go.Proofs.YtjoddliplahgkaaGreat
set_option maxHeartbeats 4000000
set_option maxRecDepth 100000
set_option linter.unusedVariables false
set_option linter.unusedSimpArgs false
open Go.RowKit
open Go.Value renaming int → O, slice → Y
open Go.IntKind renaming i64 → X
open Option renaming none → Z
open Go.Obj renaming cells → I
section
open Go.Lib renaming hid->aB
theorem QK{v:bR}{b:Bk}{w0:aAB}{cA:ZZ}{cn cc:Nat}{cv:aAA}{d0:Nat}{w:aAB}{R:Nat->Prop}{t:iA}{x:TT}(H:uE v b w0 cA cn cc cv d0 w R t x)(a3:(bX x).1.1.op=12/\(dG (bX x).1).toNat<(bX x).2.length/\(bX ((bX x).2.getD (dG (bX x).1).toNat (default,[],.nil))).1.1.op≠10):yL v b cA cn cc cv d0 w R t x:=by
 obtain⟨⟨xo,xa,xb⟩,g4,xk⟩:=x;obtain⟨Ak,nk,ck,Aa,na,ca,Af,nf,cf⟩:=t;obtain⟨g3,ho,ha,hb,a2,hk,L,kl,V0,h7,o3,n6,w7,h9,m6,m0,m1,w1,i4,e8,HR,p9,l9,HX,q6,v5,v7,HT,r4,h8⟩:=kO H;rw[o3]at a3;simp only at a3 i4 n6 h8;unfold yL;rw[h7];clear h7 o3 H;show Calls Tryz.prog 45 #[.agg #[O X b.vars,Y v.Ao v.no v.co,Y v.Ae v.ne v.ce,O X b.nat,Y v.Ap v.np v.cp],Y cA cn cc,.agg #[O X xo,O X xa,O X xb,Y Ak nk ck,Y Aa na ca,Y Af nf cf]] w _;go_in;go_upto_region 1 with fail
 clear n6;have v0:=aT.cell i4.o.x;go_wp2_with fail;refine (h8.o).mono ?_;rintro e w4 ⟨Ck,pk,ek,Ca,pa,ea,Cf,pf,ef,KB,kd,rfl,m7,i7,i8,h6,h0,g8,v2,l5,r7⟩;clear h8 i4 v0;have g9:Hid (DR w V0 R #[O X b.vars,Y v.Ao v.no v.co,Y v.Ae v.ne v.ce,O X b.nat,Y v.Ap v.np v.cp] #[O X xo,O X xa,O X xb,Y Ak nk ck,Y Aa na ca,Y Af nf cf] w4.heap.size (w4.heap.size+1) ⟨Ak,nk,ck,Aa,na,ca,Af,nf,cf⟩ ((⟨xo,xa,xb⟩:Nd),g4,xk) ⟨Ck,pk,ek,Ca,pa,ea,Cf,pf,ef⟩ ((⟨ho,ha,hb⟩:Nd),a2,hk) KB kl kd L ((w4.alloc (I #[O X ho,O X ha,O X hb,Y Ck pk ek,Y Ca pa ea,Y Cf pf ef] 85)).alloc (I #[O X ho,O X ha,O X hb] 46))):=aB ⟨m7.o,i7.o,i8.o,h6.o,h0.o.keep fun q hq=>⟨Or.inl hq,fun _=>rfl⟩,g8.o⟩;have zh:=aT.cell i7.o;have zn:=aT.cell i8.o;clear m7 i7 i8 h6 h0 g8 l5;obtain⟨a3,l0,a5⟩:=a3;have hF:=m0.o;obtain⟨n3,n4,n1,n2,_⟩:=fN hF.head.okt a3;have l1:=mE hF.head.okt a3;obtain⟨l2,c6⟩:=sY hF.head.okt a3;simp only at n3 n4 n1 n2 l1 l2 c6;obtain⟨A,hA⟩:∃A:Nat,ha=(A:Int):=⟨ha.toNat,by omega⟩;subst hA;rw[YG]at l2 c6;obtain⟨pz,d4⟩:∃z:Nat,dG ((⟨ho,(A:Int),hb⟩:Nd),a2,hk)=(z:Int):=⟨(dG ((⟨ho,(A:Int),hb⟩:Nd),a2,hk)).toNat,by omega⟩;rw[d4]at c6 l1;simp only[d4,YG]at l0 a5;have c5:=g9.o;have o0:=c5.th.funs.len;simp only at o0;obtain⟨bf,of,k7,n8,n9⟩:=c5.th.funs.mem (by simp only;omega);obtain⟨_,q1,_⟩:=n9 A (by simp only;omega);rw[c6]at q1;simp only at k7;have w5:(A:Int)<(pf:Int):=aA;have l6:=aB k7;have v4:=aB (c5.lt HR.o _ n8);have g1:pz<L.length:=l0;have f7:=hF.args _ (iD g1 (default,[],.nil));obtain⟨q,hq⟩:=aAJ (L.getD pz (default,[],.nil));rw[<-hq]at f7 a5;have o1:cX (iP L) pz=q:=by
  rw[hq,sQ]
 obtain⟨⟨⟨so,sa,sb⟩,l3,sk⟩,M,d6⟩:∃F L,bX q=(F,L):=⟨_,_,rfl⟩;have o7:=eY f7;rw[d6]at o7 a5;simp only at a5;have o4:bL q<d0:=by
  have h2:=lX (L:=L) (a:=q) (by rw[hq];exact iD g1 _);have h3:=m1.o;have h4:dA (((⟨ho,(A:Int),hb⟩:Nd),a2,hk),L)=bL ((⟨ho,(A:Int),hb⟩:Nd),a2,hk)+cB L:=rfl;have h5:bL ((⟨ho,(A:Int),hb⟩:Nd),a2,hk)=1+a2.length+(row hk).length:=cS _ _ _;have:=r4.o;omega
 obtain⟨ba,oa,⟨s8,t5,t1,s9,t4,t2,t0,t6,t3⟩,n5,j9,k8,g2⟩:=c5.kd.nthR (j:=pz) (by have:=h9.o;omega);rw[o1]at k8 g2;have r8:pz<kl:=by have:=h9.o;omega
 have e2:decide (kl<=pz)=false:=XQ aA;have e5:(pz:Int)<(kl:Int):=aA;have c1:=aB (kX (c5.lt HR.o) g2 f7.rt);rw[d6]at c1;unfold VJ at c1;simp only at c1;obtain⟨ml,o2⟩:=aAJ M.length;rw[<-o2]at c1;have l4:=aB n5;have l8:=aB k8;have r6:=aB g2;have q9:=aB f7;have r3:=aB d6;have r0:=aB o4;have v6:=aB j9;have l7:=aB (c5.lt HR.o _ j9);have f9:Hid (g3=match nS b cv d0 (((⟨so,sa,sb⟩:Nd),l3,sk),M) with | .no=>.no | .bad=>.bad | .yes y=>.yes (dP ((⟨ho,(A:Int),hb⟩:Nd),a2,hk) (L.set pz y))):=aB (by
  have s6:bT b cv (((⟨ho,(A:Int),hb⟩:Nd),a2,hk),L)=false:=by
   unfold bT;simp only;rw[XN aA,XN aA,XN aA,XN aA,XP a3,d4,YG,<-hq,d6];simp only;rw[show (so==10)=false from by rw[XY];exact a5,Bool.and_false]
  rw[m6.o,qV (p:=q) (by rw[s6];simp) (by unfold cQ;simp only;rw[XN aA,XP a3,d4,YG,XP g1,hq]),d6];cases nS b cv d0 (((⟨so,sa,sb⟩:Nd),l3,sk),M) with
  | no=>rfl
  | bad=>rfl
  | yes y =>
   simp only
   congr 1
   show dP (dW _ y).1 (dW _ y).2=_;unfold dW;simp only;rw[XN aA];simp only;rw[d4,YG])
 have dS:(so != 10)=true:=by simpa using a5
 have d5:(ho==5)=false:=by rw[XY];omega
 have d7:(ho==7)=false:=by rw[XY];omega
 have d1:(ho==1)=false:=by rw[XY];omega
 have d8:(ho==8)=false:=by rw[XY];omega
 have w2:(ho==11)=false:=by rw[XY];omega
 have w3:(ho==12)=true:=by simp[a3]
 obtain rfl:Cf=some ⟨bf,of,Z⟩:=l6.o;obtain rfl:KB=some ⟨ba,oa,Z⟩:=l4.o;clear hF n3 n4 n1 n2 l1 l2 c6 d4 c5 o0 k7 n8 n9 a3 l0 l6 g1 f7 hq o1 d6 o7 o4 n5 j9 k8 g2 l4 o2 a5;obtain⟨⟨qo,qa,qb⟩,t7,qk⟩:=q;obtain⟨q0,o8,q2,q3,q4,q5⟩:=l8.o;simp only at q0 o8 q2 q3 q4 q5;go_upto_region 33 with fail
 generalize ((w4.alloc (I #[O X ho,O X (A:Int),O X hb,Y Ck pk ek,Y Ca pa ea,Y (some ⟨bf,of,Z⟩) pf ef] 85)).alloc (I #[O X ho,O X (A:Int),O X hb] 46))=W5 at *;have m3:=g9;go_upto_region 36 with fail
 go_wp2_with fail;refine (c1.o).mono ?_;rintro e w6 ⟨k6,⟨i9,j6,j2,j0,j5,j3,j1,j7,j4⟩,PB,pd,rfl,s7,r9,c6⟩;have n7:=aQ w6 (I #[O X so,O X sa,O X sb,Y i9 j6 j2,Y j0 j5 j3,Y j1 j7 j4] 85);have g5:=aB (k6.trans (n7.mono k6.size));obtain⟨m4,g6⟩:=aAC (m3.o.below HR.o g5.o) (aT.new w6 85 #[O X so,O X sa,O X sb,Y i9 j6 j2,Y j0 j5 j3,Y j1 j7 j4]);clear k6 n7 s7 r9 c6 zh zn q0 o8 q2 q3 q4 q5 c1 q1;go_upto_region 37 with fail
 generalize (w6.alloc (I #[O X so,O X sa,O X sb,Y i9 j6 j2,Y j0 j5 j3,Y j1 j7 j4] 85))=wd at *;have a1:=m4;have zc:=aT.cell g6.o;have e1:=g5;go_upto_region 38 with fail
 have c4:=a1.o.h.lt;have w8:w.heap.size+3<=w4.heap.size:=by have:=r7.o;have:=e8.o;omega
 have d2:ba<wd.heap.size:=XT l7.o e1.o.size;obtain⟨k0,k1,k2,k3,k4,k5⟩:=l8.o.below e1.o l7.o;simp only at k0 k1 k2 k3 k4 k5;have c9:=aB (fun (V:aAB) (hV:ZY wd V)=>q6.o V (bM R V0 wd) ⟨s8,t5,t1,s9,t4,t2,t0,t6,t3⟩ ((⟨qo,qa,qb⟩:Nd),t7,qk) (p9.o.below (a1.o.s.bel.trans (hV.mono a1.o.s.bel.size))) (jG l9.o (a1.o.s.bel.trans (hV.mono a1.o.s.bel.size))) (fun q hq=>XT (a1.o.lt HR.o q hq) hV.size) ((r6.o.keep (kR HR.o m3.o.s.bel.size e1.o)).below (a1.o.lt HR.o) hV) q9.o r0.o);rw[r3.o]at c9;obtain⟨rr,o5⟩:=aAJ (nS b cv d0 (((⟨so,sa,sb⟩:Nd),l3,sk),M));rw[<-o5]at c9 f9;unfold VB at c9;have d9:=aT.cell a1.o.s.bk;have e9:=a1.o.s.bk.lt;clear o5 zc;go_cut [30,31,32] (fun pv bv ev wx=>∃(g7:Nat)(a7 a8 a9:ZZ)(b9 b5 b8 b6 c0 b7:Nat)(yo ya yb:Int)(a0:List Nd)(yk:Fo)(is:Bool)(c3:Int),pv=.pointer (some ⟨g7,0,Z⟩)/\bv=.bool is/\ev=O X c3/\Hid (VC rr ((⟨yo,ya,yb⟩:Nd),a0,yk) is c3)/\Hid (GD w V0 R #[O X b.vars,Y v.Ao v.no v.co,Y v.Ae v.ne v.ce,O X b.nat,Y v.Ap v.np v.cp] #[O X xo,O X xa,O X xb,Y Ak nk ck,Y Aa na ca,Y Af nf cf] w4.heap.size (w4.heap.size+1) ⟨Ak,nk,ck,Aa,na,ca,Af,nf,cf⟩ ((⟨xo,xa,xb⟩:Nd),g4,xk) ⟨Ck,pk,ek,Ca,pa,ea,(some ⟨bf,of,Z⟩),pf,ef⟩ ((⟨ho,(A:Int),hb⟩:Nd),a2,hk) (some ⟨ba,oa,Z⟩) kl kd L wd wx g7 ⟨a7,b9,b5,a8,b8,b6,a9,c0,b7⟩ ((⟨yo,ya,yb⟩:Nd),a0,yk)))
 case first =>
  go_wp2_with fail;have o6:wd.drew.heap.size=wd.heap.size:=rfl;refine wp_region_held_drew (S:=(fun w'=>ZY wd w')) aC ?_ (fun G=>?_)
  . (try dsimp only);exact aU (XS _ _) 1
  have a6:Hid (ZY wd wd.drew):=aB (aU (XS _ _) 1);generalize wd.drew=W1 at *;have m8:=aB o6;clear o6;refine tk 0 ?_ (fun wq hSw=>?_) G ?_;rotate_left
  . have b0:=(hSw.cell (p:=⟨w.heap.size,0,Z⟩) e9).trans (d9 0);have b1:=(hSw.cell (p:=⟨w.heap.size,1,Z⟩) e9).trans (d9 1);have b2:=(hSw.cell (p:=⟨w.heap.size,2,Z⟩) e9).trans (d9 2);have b3:=(hSw.cell (p:=⟨w.heap.size,3,Z⟩) e9).trans (d9 3);have b4:=(hSw.cell (p:=⟨w.heap.size,4,Z⟩) e9).trans (d9 4);go_simp;try with_reducible rfl
  try simp only[p7]
  refine aL 1 G ?_;refine aL 2 G ?_;refine aL 3 G ?_;refine aL 4 G ?_;refine tk 5 ?_ (fun wq hSw=>?_) G ?_;rotate_left
  . have s0:=(hSw.cell (p:=⟨ba,oa+pz*6,Z⟩) d2).trans k0;have s1:=(hSw.cell (p:=⟨ba,oa+pz*6+1,Z⟩) d2).trans k1;have s2:=(hSw.cell (p:=⟨ba,oa+pz*6+2,Z⟩) d2).trans k2;have s3:=(hSw.cell (p:=⟨ba,oa+pz*6+3,Z⟩) d2).trans k3;have s4:=(hSw.cell (p:=⟨ba,oa+pz*6+4,Z⟩) d2).trans k4;have s5:=(hSw.cell (p:=⟨ba,oa+pz*6+5,Z⟩) d2).trans k5;go_simp;try with_reducible rfl
  try simp only[p7]
  refine wpAnyH_ready (rs:=[6,11]) aC aD ?_;refine AllReadyH.cons rfl (fun K hK=>?_) (AllReadyH.cons rfl (fun K hK=>?_) (AllReadyH.nil))
  . go_simp;go_at_call 45
    refine (c9.o _ a6.o).mono ?_;rintro e v1 ⟨U,⟨a7,b9,b5,a8,b8,b6,a9,c0,b7⟩,⟨⟨yo,ya,yb⟩,a0,yk⟩,is,c3,rfl,a4,f6⟩;obtain⟨f8,i6⟩:=aAC U a4;have e4:=bY a6 U;clear U a4;have e6:=aB f6;clear f6;go_wp2_with fail;refine hK.o _ _ (by exact e4.o) fun G=>?_;clear hK K;try simp only[p7]
    refine aL 7 G ?_;refine aL 8 G ?_;refine aL 9 G ?_;refine aL 10 G ?_;have e0:=aB (aQ v1 (I #[O X 0,O X 0,O X 0,Y Z 0 0,Y Z 0 0,Y Z 0 0] 85));obtain⟨e3,HK⟩:=aAC (e4.o.trans (e0.o.mono e4.o.size)) (aT.new v1 85 #[O X 0,O X 0,O X 0,Y Z 0 0,Y Z 0 0,Y Z 0 0]);have i5:Hid ((v1.alloc (I #[O X 0,O X 0,O X 0,Y Z 0 0,Y Z 0 0,Y Z 0 0] 85)).heap.size=v1.heap.size+1):=aB aD;refine r1 11 fun K hK=>?_;go_simp;refine hK.o _ _ (by exact e3.o) fun G=>?_;clear hK K;try simp only[p7]
    generalize (v1.alloc (I #[O X 0,O X 0,O X 0,Y Z 0 0,Y Z 0 0,Y Z 0 0] 85))=va at *;have zg:=aT.cell HK.o;have t9:=aT.frozen HK.o;have HX:=aB (J9 (ty:=⟨a7,b9,b5,a8,b8,b6,a9,c0,b7⟩) (y:=((⟨yo,ya,yb⟩:Nd),a0,yk)) HR.o a1.o a6.o m8.o f8.o e0.o i5.o HK.o i6.o);refine r1 12 fun K hK=>?_;go_simp;refine hK.o _ _ (by exact HX.o.be) fun G=>?_;clear hK K;try simp only[p7]
    refine aL 13 G ?_;refine aL 14 G ?_;refine wpAnyH_done aC ?_ _;go_wp2_with fail;go_meet;exact⟨v1.heap.size,a7,a8,a9,b9,b5,b8,b6,c0,b7,yo,ya,yb,a0,yk,is,c3,rfl,rfl,rfl,e6,HX⟩
  have e0:=aB (aQ W1 (I #[O X 0,O X 0,O X 0,Y Z 0 0,Y Z 0 0,Y Z 0 0] 85));obtain⟨e3,HK⟩:=aAC (a6.o.trans (e0.o.mono a6.o.size)) (aT.new W1 85 #[O X 0,O X 0,O X 0,Y Z 0 0,Y Z 0 0,Y Z 0 0]);have i5:Hid ((W1.alloc (I #[O X 0,O X 0,O X 0,Y Z 0 0,Y Z 0 0,Y Z 0 0] 85)).heap.size=W1.heap.size+1):=aB aD;go_simp;refine hK.o _ _ (by exact e3.o) fun G=>?_;clear hK K;try simp only[p7]
  generalize (W1.alloc (I #[O X 0,O X 0,O X 0,Y Z 0 0,Y Z 0 0,Y Z 0 0] 85))=va at *;refine r1 6 fun K hK=>?_;go_simp;go_at_call 45
  refine (c9.o _ e3.o).mono ?_;rintro e v1 ⟨U,⟨a7,b9,b5,a8,b8,b6,a9,c0,b7⟩,⟨⟨yo,ya,yb⟩,a0,yk⟩,is,c3,rfl,a4,f6⟩;obtain⟨f8,i6⟩:=aAC U a4;have e4:=bY e3 U;clear U a4;have e6:=aB f6;clear f6;go_wp2_with fail;refine hK.o _ _ (by exact e4.o) fun G=>?_;clear hK K;try simp only[p7]
  refine aL 7 G ?_;refine aL 8 G ?_;refine aL 9 G ?_;refine aL 10 G ?_;have m2:=aB (HK.o.below f8.o HK.o.lt);have zg:=aT.cell m2.o;have t9:=aT.frozen m2.o;have HX:=aB (J8 (ty:=⟨a7,b9,b5,a8,b8,b6,a9,c0,b7⟩) (y:=((⟨yo,ya,yb⟩:Nd),a0,yk)) HR.o a1.o a6.o m8.o e0.o i5.o HK.o f8.o i6.o);refine r1 12 fun K hK=>?_;go_simp;refine hK.o _ _ (by exact HX.o.be) fun G=>?_;clear hK K;try simp only[p7]
  refine aL 13 G ?_;refine aL 14 G ?_;refine wpAnyH_done aC ?_ _;go_wp2_with fail;go_meet;exact⟨W1.heap.size,a7,a8,a9,b9,b5,b8,b6,c0,b7,yo,ya,yb,a0,yk,is,c3,rfl,rfl,rfl,e6,HX⟩
 case rest =>
 obtain⟨g7,a7,a8,a9,b9,b5,b8,b6,c0,b7,yo,ya,yb,a0,yk,is,c3,rfl,rfl,rfl,e6,HX⟩:=hcut;clear d9 k0 k1 k2 k3 k4 k5 c9 g6;have D:=aB HX.o.nn;rcases e6.o with⟨hr,rfl,rfl⟩|⟨hr,rfl,rfl⟩|⟨hr,rfl,rfl⟩
 . have i2:Hid (g3=.no):=aB (by rw[f9.o,hr]);have zx:=aT.cell D.o.s.x;have zr:=aT.cell D.o.s.r;have zf:=aT.frozen D.o.s.r;clear hr;go_wp2_with fail;refine XW (v:=.tuple #[.agg #[O X xo,O X xa,O X xb,Y Ak nk ck,Y Aa na ca,Y Af nf cf],.bool false,O X 0]) ?_ rfl ?_
   . exact dZ (g:=w.heap.size+1+1) (cK D.o.s.r _ _ _ _ _ _) aD
   exact kN (V0:=V0) (ty:=⟨Ak,nk,ck,Aa,na,ca,Af,nf,cf⟩) (y:=((⟨xo,xa,xb⟩:Nd),g4,xk)) HR.o e8.o D.o (XS _ _) (fun q h=>h) D.o.tx (.inl ⟨i2.o,rfl,rfl⟩)
 . have i2:Hid (g3=.bad):=aB (by rw[f9.o,hr]);have zx:=aT.cell D.o.s.x;have zr:=aT.cell D.o.s.r;have zf:=aT.frozen D.o.s.r;clear hr;go_wp2_with fail;refine XW (v:=.tuple #[.agg #[O X xo,O X xa,O X xb,Y Ak nk ck,Y Aa na ca,Y Af nf cf],.bool true,O X 9]) ?_ rfl ?_
   . exact dZ (g:=w.heap.size+1+1) (cK D.o.s.r _ _ _ _ _ _) aD
   exact kN (V0:=V0) (ty:=⟨Ak,nk,ck,Aa,na,ca,Af,nf,cf⟩) (y:=((⟨xo,xa,xb⟩:Nd),g4,xk)) HR.o e8.o D.o (XS _ _) (fun q h=>h) D.o.tx (.inr (.inl ⟨i2.o,rfl,rfl⟩))
 have i1:Hid (g3=vK.yes (dP ((⟨ho,(A:Int),hb⟩:Nd),a2,hk) (L.set pz ((⟨yo,ya,yb⟩:Nd),a0,yk)))):=aB (by rw[f9.o,hr]);have g0:Hid (∀V,ZY wc V->Calls Tryz.prog 84 #[Y (some ⟨ba,oa,Z⟩) kl kd,O X (pz:Int),.agg #[O X yo,O X ya,O X yb,Y a7 b9 b5,Y a8 b8 b6,Y a9 c0 b7]] V (VT (bM R V0 wc) V (L.set pz ((⟨yo,ya,yb⟩:Nd),a0,yk)))):=aB (fun V hV=>AT (i:=pz) (t:=⟨a7,b9,b5,a8,b8,b6,a9,c0,b7⟩) (x:=((⟨yo,ya,yb⟩:Nd),a0,yk)) (fun q hq=>XT (D.o.lt HR.o q hq) hV.size) (HX.o.tr.below (D.o.lt HR.o) hV) (D.o.kd.below (D.o.lt HR.o) hV) (fun h=>by cases h) aA r8);obtain⟨LS,j8⟩:=aAJ (L.set pz ((⟨yo,ya,yb⟩:Nd),a0,yk));rw[<-j8]at g0 i1;obtain⟨ls,k9⟩:=aAJ LS.length;unfold VT at g0;rw[<-k9]at g0;have q7:Hid (ls<=1000000):=aB (by rw[k9,j8,List.length_set];have:=h9.o;omega);obtain⟨⟨⟨zo,za,zb⟩,t8,zk⟩,G⟩:∃y,y=dP ((⟨ho,(A:Int),hb⟩:Nd),a2,hk) LS:=⟨_,rfl⟩;rw[<-G]at i1;have HZ:=aB G;have d3:=HX.o.bk.lt;have v3:w.heap.size+3<=g7:=by have:=HX.o.ge;have:=a1.o.s.sz;have:=e8.o;omega
 have z7:=aT.cell HX.o.bk;have zh:∀i:Nat,wc.cell? ⟨w4.heap.size,i,Z⟩=(#[O X ho,O X (A:Int),O X hb,Y Ck pk ek,Y Ca pa ea,Y (some ⟨bf,of,Z⟩) pf ef]:Array Value)[i]?:=aT.cell D.o.h;have c4:=D.o.h.lt;clear hr j8 k9 G;go_upto_region 41 with fail
 refine wp_region_held_drew (S:=(fun w'=>∀q,q<wc.heap.size->q≠w.heap.size+1+1->w'.heap[q]? = wc.heap[q]?)) aC ?_ (fun G=>?_)
 . (try dsimp only);exact fun q _ _=>rfl
 have a6:Hid (ZY wc wc.drew):=aB (aU (XS _ _) 1);generalize wc.drew=W1 at *;refine tk 0 ?_ (fun wq hSw=>?_) G ?_;rotate_left
 . have f0:=(aP (hSw (w4.heap.size) (c4) aA) (0)).trans (zh 0);have f1:=(aP (hSw (w4.heap.size) (c4) aA) (1)).trans (zh 1);have f2:=(aP (hSw (w4.heap.size) (c4) aA) (2)).trans (zh 2);have f3:=(aP (hSw (w4.heap.size) (c4) aA) (3)).trans (zh 3);have f4:=(aP (hSw (w4.heap.size) (c4) aA) (4)).trans (zh 4);have f5:=(aP (hSw (w4.heap.size) (c4) aA) (5)).trans (zh 5);go_simp;try with_reducible rfl
 try simp only[p7]
 refine aL 1 G ?_;refine aL 2 G ?_;refine tk 3 ?_ (fun wq hSw=>?_) G ?_;rotate_left
 . have s0:=(aP (hSw (g7) (d3) aA) (0)).trans (z7 0);have s1:=(aP (hSw (g7) (d3) aA) (1)).trans (z7 1);have s2:=(aP (hSw (g7) (d3) aA) (2)).trans (z7 2);have s3:=(aP (hSw (g7) (d3) aA) (3)).trans (z7 3);have s4:=(aP (hSw (g7) (d3) aA) (4)).trans (z7 4);have s5:=(aP (hSw (g7) (d3) aA) (5)).trans (z7 5);go_simp;try with_reducible rfl
 try simp only[p7]
 refine r1 4 fun K hK=>?_;go_simp;go_at_call 84
 refine (g0.o _ a6.o).mono ?_;rintro e v8 ⟨U,A8,c8,rfl,a4⟩;have c7:=bY a6 U;obtain⟨n0,r2⟩:=aAC a4 a6.o.size;clear a4;clear U;go_wp2_with fail;refine hK.o _ _ (by exact fun q h1 _=>c7.o.block q h1) fun G=>?_;clear hK K;try simp only[p7]
 have q8:Hid (eX (bM R V0 v8) v8 A8 ls c8 (iP LS)):=aB (n0.o.keep fun q hq=>⟨gK (fun q h=>h) (by have:=D.o.s.sz;have:=r2.o;omega) c7.o.size hq,fun _=>rfl⟩);have i0:=aB (D.o.below HR.o c7.o);have m5:=aB (gZ (i0.o.lt HR.o) i0.o.th q8.o q7.o);rw[<-HZ.o]at m5;clear n0;refine r1 5 fun K hK=>?_;go_simp;go_at_call 81
 refine (m5.o).mono ?_;rintro e v9 ⟨U,⟨o9,p6,p2,p0,p5,p3,p1,p8,p4⟩,rfl,a4⟩;have c2:=bY c7 U;obtain⟨r5,m9⟩:=aAC a4 U.size;clear a4;clear U;go_wp2_with fail;refine hK.o _ _ (by exact fun q h1 _=>c2.o.block q h1) fun G=>?_;clear hK K;try simp only[p7]
 have i3:=aB (D.o.s.r.below c2.o D.o.s.r.lt);have zr:=aT.cell i3.o;have w9:=aT.frozen i3.o;refine r1 6 fun K hK=>?_;go_simp;refine hK.o _ _ (by exact fun q h1 h2=>((e7 _ (w.heap.size+1+1) _ _ _ _ _ _).block q (XT h1 c2.o.size) (by intro e;injection e with e;exact h2 e)).trans (c2.o.block q h1)) fun G=>?_;clear hK K;try simp only[p7]
 refine aL 7 G ?_;refine aL 8 G ?_;refine wpAnyH_done aC ?_ _;go_wp2_with fail;refine XW (v:=.tuple #[.agg #[O X zo,O X za,O X zb,Y o9 p6 p2,Y p0 p5 p3,Y p1 p8 p4],.bool true,O X 0]) ?_ rfl ?_
 . exact dZ (g:=w.heap.size+1+1) (cK i3.o _ _ _ _ _ _) aD
 exact kN (V0:=V0) (ty:=⟨o9,p6,p2,p0,p5,p3,p1,p8,p4⟩) (y:=((⟨zo,za,zb⟩:Nd),t8,zk)) HR.o e8.o D.o c2.o (fun q hq=>gK (fun q h=>h) i0.o.s.sz m9.o hq) r5.o (.inr (.inr ⟨i1.o,rfl,rfl⟩))
end
section
open Go.Lib renaming hid->aB
theorem BI(h:TT):∀(i:Nat)(x:TT),(oL h i x).2=0\/(oL h i x).2=9
 | 0,x=>.inl rfl
 | i+1,x=>by
  have e:oL h (i+1) x=if (cI x (jD (eL h i) (i:Int))).2=0 then oL h i (cI x (jD (eL h i) (i:Int))).1 else cI x (jD (eL h i) (i:Int)):=rfl;rw[e];split
  . exact BI h i _
  . exact xY _ _
theorem OA(h:TT):(DJ h).2=0\/(DJ h).2=9:=BI h _ _
theorem QL{v:bR}{b:Bk}{w0:aAB}{cA:ZZ}{cn cc:Nat}{cv:aAA}{e9:Nat}{w:aAB}{R:Nat->Prop}{t:iA}{x:TT}(H:uE v b w0 cA cn cc cv e9 w R t x)(G:(bX x).1.1.op=12/\(dG (bX x).1).toNat<(bX x).2.length/\(bX ((bX x).2.getD (dG (bX x).1).toNat (default,[],.nil))).1.1.op=10):yL v b cA cn cc cv e9 w R t x:=by
 obtain⟨⟨xo,xa,xb⟩,l8,xk⟩:=x;obtain⟨Ak,nk,ck,Aa,na,ca,Af,nf,cf⟩:=t;obtain⟨l7,ho,ha,hb,D,hk,L,kl,V0,c5,j0,i2,n8,g6,h0,g4,g5,n4,d2,l2,HR,m4,m1,HX,m6,k8,n0,HT,l0,c6⟩:=kO H;rw[j0]at G;simp only at G d2 i2 c6;unfold yL;rw[c5];clear c5 j0 H;show Calls Tryz.prog 45 #[.agg #[O X b.vars,Y v.Ao v.no v.co,Y v.Ae v.ne v.ce,O X b.nat,Y v.Ap v.np v.cp],Y cA cn cc,.agg #[O X xo,O X xa,O X xb,Y Ak nk ck,Y Aa na ca,Y Af nf cf]] w _;go_in;go_upto_region 1 with fail
 clear i2;have m0:=aT.cell d2.o.x;go_wp2_with fail;refine (c6.o).mono ?_;rintro e w4 ⟨Ck,pk,ek,Ca,pa,ea,Cf,pf,ef,KB,kd,rfl,h1,d3,d4,c4,c3,c1,m2,f8,n3⟩;clear c6 d2 m0;have c2:Hid (DR w V0 R #[O X b.vars,Y v.Ao v.no v.co,Y v.Ae v.ne v.ce,O X b.nat,Y v.Ap v.np v.cp] #[O X xo,O X xa,O X xb,Y Ak nk ck,Y Aa na ca,Y Af nf cf] w4.heap.size (w4.heap.size+1) ⟨Ak,nk,ck,Aa,na,ca,Af,nf,cf⟩ ((⟨xo,xa,xb⟩:Nd),l8,xk) ⟨Ck,pk,ek,Ca,pa,ea,Cf,pf,ef⟩ ((⟨ho,ha,hb⟩:Nd),D,hk) KB kl kd L ((w4.alloc (I #[O X ho,O X ha,O X hb,Y Ck pk ek,Y Ca pa ea,Y Cf pf ef] 85)).alloc (I #[O X ho,O X ha,O X hb] 46))):=aB ⟨h1.o,d3.o,d4.o,c4.o,c3.o.keep fun q hq=>⟨Or.inl hq,fun _=>rfl⟩,c1.o⟩;have zh:=aT.cell d3.o;have zn:=aT.cell d4.o;clear h1 d3 d4 c4 c3 c1 f8;obtain⟨G,f4,U⟩:=G;have hF:=g4.o;obtain⟨h9,i0,h7,h8,_⟩:=fN hF.head.okt G;have f5:=mE hF.head.okt G;obtain⟨f6,a3⟩:=sY hF.head.okt G;simp only at h9 i0 h7 h8 f5 f6 a3;obtain⟨A,hA⟩:∃A:Nat,ha=(A:Int):=⟨ha.toNat,by omega⟩;subst hA;rw[YG]at f6 a3;obtain⟨pz,b9⟩:∃z:Nat,dG ((⟨ho,(A:Int),hb⟩:Nd),D,hk)=(z:Int):=⟨(dG ((⟨ho,(A:Int),hb⟩:Nd),D,hk)).toNat,by omega⟩;rw[b9]at a3 f5;simp only[b9,YG]at f4 U;have a2:=c2.o;have i7:=a2.th.funs.len;simp only at i7;obtain⟨bf,of,f2,i4,i6⟩:=a2.th.funs.mem (by simp only;omega);obtain⟨_,q1,_⟩:=i6 A (by simp only;omega);rw[a3]at q1;simp only at f2;have n7:(A:Int)<(pf:Int):=aA;have g2:=aB f2;have m3:=aB (a2.lt HR.o _ i4);have b8:pz<L.length:=f4;have b5:=hF.args _ (iD b8 (default,[],.nil));obtain⟨q,hq⟩:=aAJ (L.getD pz (default,[],.nil));rw[<-hq]at b5 U;have i8:cX (iP L) pz=q:=by
  rw[hq,sQ]
 obtain⟨⟨⟨so,sa,sb⟩,p0,sk⟩,M,b6⟩:∃F L,bX q=(F,L):=⟨_,_,rfl⟩;have j2:=eY b5;rw[b6]at j2 U;simp only at U;have j1:bL q<e9:=by
  have h2:=lX (L:=L) (a:=q) (by rw[hq];exact iD b8 _);have h3:=g5.o;have h4:dA (((⟨ho,(A:Int),hb⟩:Nd),D,hk),L)=bL ((⟨ho,(A:Int),hb⟩:Nd),D,hk)+cB L:=rfl;have h5:bL ((⟨ho,(A:Int),hb⟩:Nd),D,hk)=1+D.length+(row hk).length:=cS _ _ _;have:=l0.o;omega
 obtain⟨ba,oa,⟨o0,o7,o3,o1,o6,o4,o2,o8,o5⟩,i1,f0,f3,c0⟩:=a2.kd.nthR (j:=pz) (by have:=g6.o;omega);rw[i8]at f3 c0;have n9:pz<kl:=by have:=g6.o;omega
 have e2:decide (kl<=pz)=false:=XQ aA;have e5:(pz:Int)<(kl:Int):=aA;have a0:=aB (kX (a2.lt HR.o) c0 b5.rt);rw[b6]at a0;unfold VJ at a0;simp only at a0;obtain⟨ml,i9⟩:=aAJ M.length;rw[<-i9]at a0;obtain⟨f7,k7,n2,m7,n1,m8,m9,m5⟩:=aAG i1 f3 c0 b5 b6 j1 f0 (a2.lt HR.o _ f0);obtain⟨⟨y,ye⟩,hy⟩:∃y,y=DJ ((⟨ho,(A:Int),hb⟩:Nd),D,hk):=⟨_,rfl⟩;have j5:ye=0\/ye=9:=by have:=OA ((⟨ho,(A:Int),hb⟩:Nd),D,hk);rw[<-hy]at this;exact this
 have g9:Hid (l7=if ye=0 then vK.yes (dP y L) else vK.bad):=aB (by
  have l5:bT b cv (((⟨ho,(A:Int),hb⟩:Nd),D,hk),L)=true:=by
   unfold bT;simp only;rw[XN aA,XN aA,XN aA,XN aA,XP G,b9,YG,<-hq,b6];simp only;rw[U,XR b8];rfl
  rw[h0.o,i5 l5];unfold lA;simp only;rw[XN aA,XN aA,XN aA,XN aA,XN aA,U9,<-hy];by_cases h:ye=0
  . simp only;rw[XP h,XP h]
  simp only;rw[XN h,XN h])
 have l3:=aB j5;have c9:=aB (fun (V:aAB) (Q:Nat->Prop) (t:iA) (hQ:∀q,Q q->q<V.heap.size) (ht:fI Q V t ((⟨ho,(A:Int),hb⟩:Nd),D,hk))=>E5 hQ ht (free:=(cv.length:Int)) aA (by have:=k8.o.few;omega) hF.head G);rw[<-hy]at c9;have dS:(so != 10)=false:=by rw[U];rfl
 clear hy j5;have d5:(ho==5)=false:=by rw[XY];omega
 have d7:(ho==7)=false:=by rw[XY];omega
 have d1:(ho==1)=false:=by rw[XY];omega
 have d8:(ho==8)=false:=by rw[XY];omega
 have n5:(ho==11)=false:=by rw[XY];omega
 have n6:(ho==12)=true:=by simp[G]
 obtain rfl:Cf=some ⟨bf,of,Z⟩:=g2.o;obtain rfl:KB=some ⟨ba,oa,Z⟩:=f7.o;clear hF h9 i0 h7 h8 f5 f6 a3 b9 a2 i7 f2 i4 i6 G f4 g2 b8 b5 hq i8 b6 j2 j1 i1 f0 f3 c0 f7 i9 U;obtain⟨⟨qo,qa,qb⟩,o9,qk⟩:=q;obtain⟨q0,j6,q2,q3,q4,q5⟩:=k7.o;simp only at q0 j6 q2 q3 q4 q5;go_upto_region 33 with fail
 generalize ((w4.alloc (I #[O X ho,O X (A:Int),O X hb,Y Ck pk ek,Y Ca pa ea,Y (some ⟨bf,of,Z⟩) pf ef] 85)).alloc (I #[O X ho,O X (A:Int),O X hb] 46))=W5 at *;have k9:=c2;go_upto_region 36 with fail
 go_wp2_with fail;refine (a0.o).mono ?_;rintro e w6 ⟨f1,⟨d6,e7,e1,d9,e6,e3,e0,e8,e4⟩,PB,pd,rfl,l6,l4,a3⟩;have i3:=aQ w6 (I #[O X so,O X sa,O X sb,Y d6 e7 e1,Y d9 e6 e3,Y e0 e8 e4] 85);have f9:=aB (f1.trans (i3.mono f1.size));obtain⟨g7,g3⟩:=aAC (k9.o.below HR.o f9.o) (aT.new w6 85 #[O X so,O X sa,O X sb,Y d6 e7 e1,Y d9 e6 e3,Y e0 e8 e4]);clear f1 i3 l6 l4 a3 zh zn q0 j6 q2 q3 q4 q5 a0 q1;go_upto_region 37 with fail
 generalize (w6.alloc (I #[O X so,O X sa,O X sb,Y d6 e7 e1,Y d9 e6 e3,Y e0 e8 e4] 85))=wd at *;have a4:=g7;have zc:=aT.cell g3.o;obtain⟨⟨yo,ya,yb⟩,k6,yk⟩:=y;have c8:=aB (c9.o wd (bM R V0 wd) _ (a4.o.lt HR.o) a4.o.th);unfold WH at c8;simp only at c8;have zh:∀i:Nat,wd.cell? ⟨w4.heap.size,i,Z⟩=(#[O X ho,O X (A:Int),O X hb,Y Ck pk ek,Y Ca pa ea,Y (some ⟨bf,of,Z⟩) pf ef]:Array Value)[i]?:=aT.cell a4.o.h;obtain⟨⟨⟨zo,za,zb⟩,l9,zk⟩,hZ⟩:∃z,z=dP ((⟨yo,ya,yb⟩:Nd),k6,yk) L:=⟨_,rfl⟩;rw[<-hZ]at g9;have HZ:=aB hZ;clear hZ c9;go_upto_region 42 with fail
 clear zc;go_wp2_with fail;refine (c8.o).mono ?_;rintro e w8 ⟨b4,⟨a5,b2,a8,a6,b1,a9,a7,b3,b0⟩,rfl,j3⟩;have a1:=aQ w8 (I #[O X yo,O X ya,O X yb,Y a5 b2 a8,Y a6 b1 a9,Y a7 b3 b0] 85);have g1:=aB (b4.trans (a1.mono b4.size));have c7:=aB (a4.o.below HR.o g1.o);have h6:Hid (fI (bM R V0 (w8.alloc (I #[O X yo,O X ya,O X yb,Y a5 b2 a8,Y a6 b1 a9,Y a7 b3 b0] 85))) (w8.alloc (I #[O X yo,O X ya,O X yb,Y a5 b2 a8,Y a6 b1 a9,Y a7 b3 b0] 85)) ⟨a5,b2,a8,a6,b1,a9,a7,b3,b0⟩ ((⟨yo,ya,yb⟩:Nd),k6,yk)):=aB (j3.keep fun q hq=>⟨(gK (fun q h=>h) a4.o.s.sz b4.size hq:bM R V0 w8 q).to (XU _) a1.size,fun o=>a1.cell (p:=⟨q,o,Z⟩) (by
  rcases hq with hq|hq
  . exact XT (a4.o.lt HR.o q hq) b4.size
  exact hq.2)⟩)
 have g8:=aB (gZ (c7.o.lt HR.o) h6.o c7.o.kd aA);rw[<-HZ.o]at g8;have HX:=aB (aT.new w8 85 #[O X yo,O X ya,O X yb,Y a5 b2 a8,Y a6 b1 a9,Y a7 b3 b0]);have z7:=aT.cell HX.o;have b7:=c7;clear b4 a1 j3 zh;clear HX;go_wp2_with fail;refine (g8.o).mono ?_;rintro e w9 ⟨a1,⟨j7,k4,k0,j8,k3,k1,j9,k5,k2⟩,rfl,j4⟩;obtain⟨g0,l1,d0⟩:=aAF a1 j4 (b7.o.s.r.below a1 b7.o.s.r.lt);have zr:=aT.cell d0.o;have p1:=aT.frozen d0.o;clear a1 j4 z7;go_wp2_with fail;refine XW (v:=.tuple #[.agg #[O X zo,O X za,O X zb,Y j7 k4 k0,Y j8 k3 k1,Y j9 k5 k2],.bool true,O X ye]) ?_ rfl ?_
 . exact dZ (g:=w.heap.size+1+1) (cK d0.o _ _ _ _ _ _) aD
 exact kN (V0:=V0) (ty:=⟨j7,k4,k0,j8,k3,k1,j9,k5,k2⟩) (y:=((⟨zo,za,zb⟩:Nd),l9,zk)) HR.o l2.o b7.o g0.o (fun q hq=>gK (fun q h=>h) b7.o.s.sz g0.o.size hq) l1.o (PJ g9.o l3.o)
end
end Go.Proofs.YtjoddliplahgkaaGreat
