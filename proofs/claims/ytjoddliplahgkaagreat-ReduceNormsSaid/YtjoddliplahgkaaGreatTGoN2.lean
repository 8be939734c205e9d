/- The reference's Go at a match that goes on. -/
import Derived.Test.YtjoddliplahgkaaGreatTGoI
namespace Go.Proofs.YtjoddliplahgkaaGreat
set_option linter.unusedVariables false
set_option linter.unusedSimpArgs false
open Go.RowKit
open Go.Value renaming int → O, slice → Y
open Go.IntKind renaming i64 → X
open Option renaming none → Z
open Go.Obj renaming cells → I
open Go.Lib renaming hid->aB
set_option maxRecDepth 100000 in
set_option maxHeartbeats 4000000 in
theorem JK{v:bR}{b:Bk}{w0:aAB}{cA:ZZ}{cn cc:Nat}{cv:aAA}{e9:Nat}{w:aAB}{R:Nat->Prop}{t:iA}{x:TT}(H:uE v b w0 cA cn cc cv e9 w R t x)(a1:((bX x).1.1.op=11/\fA b (bX x).1.1 (bX (eM (bX x).1 1))=false/\True)):yL v b cA cn cc cv e9 w R t x:=by
 obtain⟨⟨xo,xa,xb⟩,j8,xk⟩:=x;obtain⟨Ak,nk,ck,Aa,na,ca,Af,nf,cf⟩:=t;obtain⟨g9,U,ha,hb,a6,hk,L,kl,V0,l5,t6,r5,D4,C6,k8,p1,p2,D0,m3,g3,HR,l7,p0,HX,x4,C4,C9,HT,y7,l6⟩:=kO H;rw[t6]at a1;simp only at a1 m3 r5 l6;unfold yL;rw[l5];clear l5 t6 H;show Calls Tryz.prog 45 #[.agg #[O X b.vars,Y v.Ao v.no v.co,Y v.Ae v.ne v.ce,O X b.nat,Y v.Ap v.np v.cp],Y cA cn cc,.agg #[O X xo,O X xa,O X xb,Y Ak nk ck,Y Aa na ca,Y Af nf cf]] w _;go_in;go_upto_region 1 with fail
 clear r5;have B5:=aT.cell m3.o.x;go_wp2_with fail;refine (l6.o).mono ?_;rintro e w4 ⟨Ck,pk,ek,Ca,pa,ea,Cf,pf,ef,KB,kd,rfl,q7,m6,m7,l1,l0,k6,B6,o6,z0⟩;clear l6 m3 B5;have k7:Hid (DR w V0 R #[O X b.vars,Y v.Ao v.no v.co,Y v.Ae v.ne v.ce,O X b.nat,Y v.Ap v.np v.cp] #[O X xo,O X xa,O X xb,Y Ak nk ck,Y Aa na ca,Y Af nf cf] w4.heap.size (w4.heap.size+1) ⟨Ak,nk,ck,Aa,na,ca,Af,nf,cf⟩ ((⟨xo,xa,xb⟩:Nd),j8,xk) ⟨Ck,pk,ek,Ca,pa,ea,Cf,pf,ef⟩ ((⟨U,ha,hb⟩:Nd),a6,hk) KB kl kd L ((w4.alloc (I #[O X U,O X ha,O X hb,Y Ck pk ek,Y Ca pa ea,Y Cf pf ef] 85)).alloc (I #[O X U,O X ha,O X hb] 46))):=aB ⟨q7.o,m6.o,m7.o,l1.o,l0.o.keep fun q hq=>⟨Or.inl hq,fun _=>rfl⟩,k6.o⟩;have zh:=aT.cell m6.o;have zn:=aT.cell m7.o;clear q7 m6 m7 l1 l0 k6 o6;obtain⟨a1,j5,z2⟩:=a1;have hF:=p1.o;obtain⟨n1,n2,n3,n4⟩:=lI hF.head a1;obtain⟨p,q,D1,a7,r8⟩:=eT hF.head.okt a1;simp only at n1 n2 n3 n4 a7 r8;have hq:=hF.head.kid0 (i:=1) (by rw[a7];rfl) (eQ (.inr (.inr a1)));obtain⟨s9,l3⟩:=oW hF.head.okt a1 (by simp only;rw[a7];simp) (x:=((⟨U,ha,hb⟩:Nd),a6,hk)) ((⟨0,0,0⟩:Nd),[],.nil);have p4:=aB (fun y=>(oW hF.head.okt a1 (by simp only;rw[a7];simp) y).1);have x7:=aB l3;obtain⟨z,n6⟩:∃z:Nat,ha=(z:Int):=⟨ha.toNat,by omega⟩;obtain⟨nb,t0⟩:∃nb:Nat,hb=(nb:Int):=⟨hb.toNat,by omega⟩;have z4:=l7.o.entries.len;obtain⟨be,oe,r4,r7,⟨As,ns,cs,Ap,np,cp,Ai,ni,ci,Ac,nc,D2,At,nt,ct,Ab,D8,cb⟩,_,_,c2,_,c4,_,_,a0⟩:=l7.o.entries.at_ (k:=z) aA;have s6:bP b (z:Int)=b.entries.getD z default:=by unfold bP;rw[YG]
 rw[<-s6]at a0;simp only at c2 c4;have j7:=a0.params.len;have l4:=a0.params.few;simp only at j7 l4;obtain⟨⟨⟨so,sa,sb⟩,a5,sk⟩,M,f5⟩:∃F L,bX q=(F,L):=⟨_,_,rfl⟩;have s7:eM ((⟨U,ha,hb⟩:Nd),a6,hk) 1=q:=dO (i:=1) (by simp only;rw[a7];rfl);rw[s7,f5]at j5;have o4:=lQ hq;have v3:=eY hq;rw[f5]at o4 v3;have l8:=aB (fun h=>p9 o4.head h);simp only at l8;obtain⟨ml,o0⟩:=aAJ M.length;have z6:M.length<=4096:=by
  have h3:dA (((⟨so,sa,sb⟩:Nd),a5,sk),M)=bL ((⟨so,sa,sb⟩:Nd),a5,sk)+cB M:=rfl;have h4:bL q<=4096:=hq.few;have:=oV M;omega
 have t7:bL q<e9:=by
  have h2:=oH (show q∈bH hk by rw[a7];simp);have e:bL ((⟨U,ha,hb⟩:Nd),a6,hk)=1+a6.length+(row hk).length:=cS _ _ _;have h3:=p2.o;have h4:dA (((⟨U,ha,hb⟩:Nd),a6,hk),L)=bL ((⟨U,ha,hb⟩:Nd),a6,hk)+cB L:=rfl;have:=y7.o;omega
 have i2:Hid (g9=if fA b ⟨U,ha,hb⟩ (((⟨so,sa,sb⟩:Nd),a5,sk),M)=true then vK.yes (dP (cX hk (2+sb.toNat)) (M.drop np++L)) else match nS b cv e9 (((⟨so,sa,sb⟩:Nd),a5,sk),M) with | .no=>.no | .bad=>.bad | .yes y=>.yes (dP ((⟨U,ha,hb⟩:Nd),[],iP ((bH hk).set 1 y)) L)):=aB (by
  have n7:eM ((⟨U,ha,hb⟩:Nd),a6,hk) 1=q:=dO (i:=1) (by simp only;rw[a7];rfl);have t9:bT b cv (((⟨U,ha,hb⟩:Nd),a6,hk),L)=fA b ⟨U,ha,hb⟩ (((⟨so,sa,sb⟩:Nd),a5,sk),M):=by
   unfold bT;simp only;rw[XN aA,XN aA,XN aA,XP a1,n7,f5]
  by_cases h:fA b ⟨U,ha,hb⟩ (((⟨so,sa,sb⟩:Nd),a5,sk),M)=true
  . rw[XP h,k8.o,i5 (by rw[t9];exact h)];have D6:0<=sb/\sb<hb:=by
     unfold fA at h;simp only[YC,beq_iff_eq,YJ]at h;exact⟨(l8.o h.1).2.1,h.2.2.1⟩
    have z3:eM ((⟨U,ha,hb⟩:Nd),a6,hk) (2+sb.toNat)=cX hk (2+sb.toNat):=by
     refine dO ?_;simp only;unfold cX;have:2+sb.toNat<(bH hk).length:=by rw[a7];simp only[YA];omega
     rw[YD,YB this];rfl
    unfold lA;simp only;rw[XN aA,XN aA,XN aA,XN aA,XP a1,n7,f5];simp only;rw[z3,n6,j7]
  rw[XN h,k8.o,qV (p:=q) (by rw[t9];exact h) (by unfold cQ;simp only;rw[XP a1,n7]),f5];cases nS b cv e9 (((⟨so,sa,sb⟩:Nd),a5,sk),M) with
  | no=>rfl
  | bad=>rfl
  | yes y =>
   simp only
   congr 1
   show dP (dW _ y).1 (dW _ y).2=_;unfold dW;simp only;rw[XP a1];simp only;rw[p4.o y])
 rw[n6,t0]at i2 p4 j5;have x3:=aB j5;clear j5 s7 z2;subst n6;subst t0;have g8:=k7.o;have o2:=g8.th.nk;simp only at o2;have f4:pk=2+nb:=by rw[o2,a7];simp only[YA];omega
 obtain⟨bq,oq,⟨A0,B0,A4,A2,A7,A5,A3,B1,A6⟩,j3,m9,j4,i9⟩:=g8.th.kid (j:=1) (by simp only;omega);have n8:cX hk 1=q:=by unfold cX;rw[a7];rfl
 simp only at j3 j4 i9;rw[n8,Nat.one_mul]at j4;rw[n8]at i9;have C5:=aB (fun (j:Nat) (hj:j<pk)=>(by
  obtain⟨b',o',t',h1,h2,h3,h4⟩:=g8.th.kid (j:=j) hj;simp only at h1 h3 h4;rw[j3]at h1;injection h1 with h1;injection h1 with h1 h1';subst h1;subst h1';exact⟨t',h3,h4⟩:∃t',T0 (((w4.alloc (I #[O X U,O X (z:Int),O X (nb:Int),Y Ck pk ek,Y Ca pa ea,Y Cf pf ef] 85)).alloc (I #[O X U,O X (z:Int),O X (nb:Int)] 46))) bq (oq+j*6) t' (cX hk j).1/\fI (bM R V0 (((w4.alloc (I #[O X U,O X (z:Int),O X (nb:Int),Y Ck pk ek,Y Ca pa ea,Y Cf pf ef] 85)).alloc (I #[O X U,O X (z:Int),O X (nb:Int)] 46)))) (((w4.alloc (I #[O X U,O X (z:Int),O X (nb:Int),Y Ck pk ek,Y Ca pa ea,Y Cf pf ef] 85)).alloc (I #[O X U,O X (z:Int),O X (nb:Int)] 46))) t' (cX hk j)))
 have c7:=aB (kX (g8.lt HR.o) i9 hq.rt);rw[f5]at c7;unfold VJ at c7;simp only at c7;rw[<-o0]at c7;obtain⟨o5,y4,o9,y9,y2,y6,y3,o8⟩:=aAG j3 m9 j4 i9 hq f5 t7 (g8.lt HR.o _ m9);obtain⟨q6,x8,y0,w9,o7,x0,x1,x2⟩:=aAG f4 o0 j7 r4 r7 c2 c4 a0;have x5:Hid (z<v.ne):=aB aA;have x9:=aB n4;clear hF n1 n2 n3 n4 a7 r8 hq s9 l3 z4 r4 r7 c2 c4 a0 s6 j7 l4 f5 o4 v3 o0 z6 t7 g8 o2 f4 j3 m9 j4 i9 n8;have d5:(U==5)=false:=by rw[XY];omega
 have d7:(U==7)=false:=by rw[XY];omega
 have d1:(U==1)=false:=by rw[XY];omega
 have d8:(U==8)=false:=by rw[XY];omega
 have D3:(U==11)=true:=by simp[a1]
 obtain rfl:Ck=some ⟨bq,oq,Z⟩:=o5.o;clear o5 a1;obtain⟨⟨qo,qa,qb⟩,B2,qk⟩:=q;have t5:1<pk:=by have:=q6.o;omega
 have C3:(1:Int)<(pk:Int):=aA;obtain⟨q0,q1,q2,q3,q4,q5⟩:=o9.o;simp only at q0 q1 q2 q3 q4 q5;go_upto_region 24 with fail
 generalize ((w4.alloc (I #[O X U,O X (z:Int),O X (nb:Int),Y (some ⟨bq,oq,Z⟩) pk ek,Y Ca pa ea,Y Cf pf ef] 85)).alloc (I #[O X U,O X (z:Int),O X (nb:Int)] 46))=W5 at *;have i1:=k7;go_wp2_with fail;refine (c7.o).mono ?_;rintro e w6 ⟨g4,⟨d9,e6,e2,e0,e5,e3,e1,e8,e4⟩,PB,pd,rfl,v4,t4,z9⟩;have i3:=aQ w6 (I #[O X so,O X sa,O X sb,Y d9 e6 e2,Y e0 e5 e3,Y e1 e8 e4] 85);have f9:=aB (g4.trans (i3.mono g4.size));have p5:=aB (i1.o.below HR.o f9.o);have j9:=aB (aT.new w6 85 #[O X so,O X sa,O X sb,Y d9 e6 e2,Y e0 e5 e3,Y e1 e8 e4]);have r2:Hid (fI (bM R V0 (w6.alloc (I #[O X so,O X sa,O X sb,Y d9 e6 e2,Y e0 e5 e3,Y e1 e8 e4] 85))) (w6.alloc (I #[O X so,O X sa,O X sb,Y d9 e6 e2,Y e0 e5 e3,Y e1 e8 e4] 85)) ⟨d9,e6,e2,e0,e5,e3,e1,e8,e4⟩ ((⟨so,sa,sb⟩:Nd),a5,sk)):=aB (v4.keep fun q hq=>⟨hq.to (XU _) f9.o.size,fun o=>i3.cell (p:=⟨q,o,Z⟩) (XT (i1.o.lt HR.o q hq) g4.size)⟩);have p8:Hid (eX (bM R V0 (w6.alloc (I #[O X so,O X sa,O X sb,Y d9 e6 e2,Y e0 e5 e3,Y e1 e8 e4] 85))) (w6.alloc (I #[O X so,O X sa,O X sb,Y d9 e6 e2,Y e0 e5 e3,Y e1 e8 e4] 85)) PB ml pd (iP M)):=aB (t4.keep fun q hq=>⟨(gK (fun q h=>h) i1.o.s.sz g4.size hq:bM R V0 w6 q).to (XU _) i3.size,fun o=>i3.cell (p:=⟨q,o,Z⟩) (by
  rcases hq with hq|hq
  . exact XT (i1.o.lt HR.o q hq) g4.size
  exact hq.2)⟩)
 clear g4 i3 v4 t4 z9 zh zn q0 q1 q2 q3 q4 q5 c7;go_upto_region 25 with fail
 generalize (w6.alloc (I #[O X so,O X sa,O X sb,Y d9 e6 e2,Y e0 e5 e3,Y e1 e8 e4] 85))=W7 at *;have f6:=p5;have zh:∀i:Nat,W7.cell? ⟨w4.heap.size,i,Z⟩=(#[O X U,O X (z:Int),O X (nb:Int),Y (some ⟨bq,oq,Z⟩) pk ek,Y Ca pa ea,Y Cf pf ef]:Array Value)[i]?:=aT.cell f6.o.h;have zn:∀i:Nat,W7.cell? ⟨w4.heap.size+1,i,Z⟩=(#[O X U,O X (z:Int),O X (nb:Int)]:Array Value)[i]?:=aT.cell f6.o.n;have zc:=aT.cell j9.o;have zb:=aT.cell f6.o.s.bk;rw[w9.o]at zb;have C0:z<v.ne:=x5.o;have C1:(z:Int)<(v.ne:Int):=aA;have z1:=(f6.o.s.bel.cell (p:=⟨be,oe+z*7+2,Z⟩) o7.o).trans x0.o;have r3:=(f6.o.s.bel.cell (p:=⟨be,oe+z*7+4,Z⟩) o7.o).trans x1.o;have a0:=x2.o.below f6.o.s.bel;obtain⟨rb,o3⟩:=aAJ (fA b ⟨U,(z:Int),(nb:Int)⟩ (((⟨so,sa,sb⟩:Nd),a5,sk),M));have k9:Hid (g9=if rb=true then vK.yes (dP (cX hk (2+sb.toNat)) (M.drop np++L)) else match nS b cv e9 (((⟨so,sa,sb⟩:Nd),a5,sk),M) with | .no=>.no | .bad=>.bad | .yes y=>.yes (dP ((⟨U,(z:Int),(nb:Int)⟩:Nd),[],iP ((bH hk).set 1 y)) L)):=aB (by rw[o3];exact i2.o);have g2:=aB o3;clear i2 o3;go_upto_region 26 with fail
 go_cut [193] (fun bv wx=>bv=.bool rb/\Hid (ZY W7 wx))
 case first =>
  as_aux_lemma =>
  by_cases q1:so=10;rotate_left
  . have d1:(so==10)=false:=by simpa using q1
    have f7:Hid (rb=false):=aB (by rw[g2.o];unfold fA;simp only;rw[d1];rfl);clear q1 a0;go_quiet (fail)
    go_wp2_with fail;go_meet;exact⟨by rw[f7.o],aB (aU (XS _ _) _)⟩
  have d1:(so==10)=true:=by simpa using q1
  obtain⟨t1,t2,t3⟩:=l8.o q1;clear q1;by_cases q2:sa=(z:Int);rotate_left
  . have d2:(sa==(z:Int))=false:=by simpa using q2
    have f7:Hid (rb=false):=aB (by rw[g2.o];unfold fA;simp only;rw[d1,d2];rfl);clear q2 t1 t2 t3 a0;go_quiet (fail)
    go_wp2_with fail;go_meet;exact⟨by rw[f7.o],aB (aU (XS _ _) _)⟩
  have d2:(sa==(z:Int))=true:=by simpa using q2
  by_cases q3:sb<(nb:Int);rotate_left
  . have d3:decide (sb<(nb:Int))=false:=XQ q3;have f7:Hid (rb=false):=aB (by rw[g2.o];unfold fA;simp only;rw[d1,d2,d3];rfl);clear q2 q3 t1 t2 t3 a0;go_quiet (fail)
    go_wp2_with fail;go_meet;exact⟨by rw[f7.o],aB (aU (XS _ _) _)⟩
  have d3:decide (sb<(nb:Int))=true:=XR q3;obtain⟨ib,s8⟩:∃ib:Nat,sb=(ib:Int):=⟨sb.toNat,by omega⟩;rw[q2]at t3;have r9:=a0.ctors.len;have z8:=a0.params.few;simp only at r9 z8;have l2:ib<nc:=aA;have B9:(ib:Int)<(nc:Int):=aA;obtain⟨bc,oc,A1,n1,c1,ec,D5,k0,r6⟩:=a0.ctors.arg_at (k:=ib) l2;simp only at ec;rw[ec]at r3;have hr:rb=(ml==np+n1):=by
   rw[g2.o];unfold fA;simp only;rw[d1,d2,d3,y0.o,s8,show ((ib:Int)).toNat=ib from by omega,r6,x8.o];rfl
  have d4:((ml:Int)==(np:Int)+(n1:Int))=(ml==np+n1):=by
   rw[YK];simp only[beq_iff_eq];omega
  have C2:n1<=5864062014805:=by
   obtain⟨_,_,_,_,z5⟩:=a0.ctors.mem (by simp only;omega);obtain⟨A9,n9,c9,_,_,_,_,_,t8,_⟩:=z5 ib l2;have:=t8.len;have:=t8.few;omega
  have f7:=aB hr;have d5:decide (ib<nb)=true:=XR aA;have d6:ib<nb:=aA;subst s8;clear q2 q3 hr t1 t2 t3 r9 r6 a0;generalize (ml==np+n1)=rv at *;go_quiet (fail)
  go_wp2_with fail;go_meet;exact⟨by rw[f7.o],aB (aU (XS _ _) _)⟩
 case rest =>
 obtain⟨rfl,n0⟩:=hcut;obtain⟨wd,rfl⟩:=aAJ wc;obtain⟨a2,h6⟩:=aAC (f6.o.below HR.o n0.o) (f9.o.trans (n0.o.mono f9.o.size));have n5:=a2.o.h.lt;have D7:w.heap.size+3<=w4.heap.size:=by have:=z0.o;have:=g3.o;omega
 have g5:bq<wd.heap.size:=XT o8.o h6.o.size;have B7:bq≠w.heap.size+1+1:=by
  rcases y4.o with h|h
  . have:=HR.o _ h;omega
  have:=h.1;have:=g3.o;omega
 clear zb z1 r3 a0 zh zn zc j9 r2 p8 n0;cases rb with
 | true =>
  have h9:=g2.o.trans x3.o;cases h9
 | false =>
  have j1:Hid (g9=match nS b cv e9 (((⟨so,sa,sb⟩:Nd),a5,sk),M) with | .no=>.no | .bad=>.bad | .yes y=>.yes (dP ((⟨U,(z:Int),(nb:Int)⟩:Nd),[],iP ((bH hk).set 1 y)) L)):=aB (by
   have h:=k9.o;rw[XN aD]at h;exact h)
  clear k9 g2;obtain⟨k0,k1,k2,k3,k4,k5⟩:=o9.o.below h6.o o8.o;simp only at k0 k1 k2 k3 k4 k5;have g1:=aB (fun (V:aAB) (hV:ZY wd V)=>x4.o V (bM R V0 wd) ⟨A0,B0,A4,A2,A7,A5,A3,B1,A6⟩ ((⟨qo,qa,qb⟩:Nd),B2,qk) (l7.o.below (a2.o.s.bel.trans (hV.mono a2.o.s.bel.size))) (jG p0.o (a2.o.s.bel.trans (hV.mono a2.o.s.bel.size))) (fun q hq=>XT (a2.o.lt HR.o q hq) hV.size) ((y9.o.keep (kR HR.o i1.o.s.bel.size h6.o)).below (a2.o.lt HR.o) hV) y2.o y3.o);rw[y6.o]at g1;obtain⟨rr,v0⟩:=aAJ (nS b cv e9 (((⟨so,sa,sb⟩:Nd),a5,sk),M));rw[<-v0]at g1 j1;unfold VB at g1;have zh:∀i:Nat,wd.cell? ⟨w4.heap.size,i,Z⟩=(#[O X U,O X (z:Int),O X (nb:Int),Y (some ⟨bq,oq,Z⟩) pk ek,Y Ca pa ea,Y Cf pf ef]:Array Value)[i]?:=aT.cell a2.o.h;have h0:=aT.cell a2.o.s.bk;have i4:=a2.o.s.bk.lt;clear v0;go_upto_region 28 with fail
  go_cut [24,25,26] (fun pv bv ev wx=>∃(g7:Nat)(b5 b6 b7:ZZ)(c5 b8 c3 b9 c6 c0:Nat)(yo ya yb:Int)(a4:List Nd)(yk:Fo)(is:Bool)(f8:Int),pv=.pointer (some ⟨g7,0,Z⟩)/\bv=.bool is/\ev=O X f8/\Hid (VC rr ((⟨yo,ya,yb⟩:Nd),a4,yk) is f8)/\Hid (GD w V0 R #[O X b.vars,Y v.Ao v.no v.co,Y v.Ae v.ne v.ce,O X b.nat,Y v.Ap v.np v.cp] #[O X xo,O X xa,O X xb,Y Ak nk ck,Y Aa na ca,Y Af nf cf] w4.heap.size (w4.heap.size+1) ⟨Ak,nk,ck,Aa,na,ca,Af,nf,cf⟩ ((⟨xo,xa,xb⟩:Nd),j8,xk) ⟨(some ⟨bq,oq,Z⟩),pk,ek,Ca,pa,ea,Cf,pf,ef⟩ ((⟨U,(z:Int),(nb:Int)⟩:Nd),a6,hk) KB kl kd L wd wx g7 ⟨b5,c5,b8,b6,c3,b9,b7,c6,c0⟩ ((⟨yo,ya,yb⟩:Nd),a4,yk)))
  case first =>
   as_aux_lemma =>
   go_wp2_with fail;have C8:=aB (a2.o.lt HR.o);have v2:wd.drew.heap.size=wd.heap.size:=rfl;refine wp_region_held_drew (S:=(fun w'=>ZY wd w')) aC ?_ (fun G=>?_)
   . (try dsimp only);exact aU (XS _ _) 1
   have a9:Hid (ZY wd wd.drew):=aB (aU (XS _ _) 1);generalize wd.drew=W1 at *;have q8:=aB v2;clear v2;refine tk 0 ?_ (fun wq hSw=>?_) G ?_;rotate_left
   . have b0:=(hSw.cell (p:=⟨w.heap.size,0,Z⟩) i4).trans (h0 0);have b1:=(hSw.cell (p:=⟨w.heap.size,1,Z⟩) i4).trans (h0 1);have b2:=(hSw.cell (p:=⟨w.heap.size,2,Z⟩) i4).trans (h0 2);have b3:=(hSw.cell (p:=⟨w.heap.size,3,Z⟩) i4).trans (h0 3);have b4:=(hSw.cell (p:=⟨w.heap.size,4,Z⟩) i4).trans (h0 4);go_simp;try with_reducible rfl
   try simp only[p7]
   refine aL 1 G ?_;refine aL 2 G ?_;refine tk 3 ?_ (fun wq hSw=>?_) G ?_;rotate_left
   . have f3:=(hSw.cell (p:=⟨w4.heap.size,3,Z⟩) n5).trans (zh 3);go_simp;try with_reducible rfl
   try simp only[p7]
   refine aL 4 G ?_;refine tk 5 ?_ (fun wq hSw=>?_) G ?_;rotate_left
   . have s0:=(hSw.cell (p:=⟨bq,oq+6,Z⟩) g5).trans k0;have s1:=(hSw.cell (p:=⟨bq,oq+6+1,Z⟩) g5).trans k1;have s2:=(hSw.cell (p:=⟨bq,oq+6+2,Z⟩) g5).trans k2;have s3:=(hSw.cell (p:=⟨bq,oq+6+3,Z⟩) g5).trans k3;have s4:=(hSw.cell (p:=⟨bq,oq+6+4,Z⟩) g5).trans k4;have s5:=(hSw.cell (p:=⟨bq,oq+6+5,Z⟩) g5).trans k5;go_simp;try with_reducible rfl
   try simp only[p7]
   refine wpAnyH_ready (rs:=[6,11]) aC aD ?_;refine AllReadyH.cons rfl (fun K hK=>?_) (AllReadyH.cons rfl (fun K hK=>?_) (AllReadyH.nil))
   . go_simp;go_at_call 45
     refine (g1.o _ a9.o).mono ?_;rintro e v1 ⟨a3,⟨b5,c5,b8,b6,c3,b9,b7,c6,c0⟩,⟨⟨yo,ya,yb⟩,a4,yk⟩,is,f8,rfl,a8,i6⟩;obtain⟨j0,m5⟩:=aAC a3 a8;have h8:=bY a9 a3;clear a3 a8;have i0:=aB i6;clear i6;go_wp2_with fail;refine hK.o _ _ (by exact h8.o) fun G=>?_;clear hK K;try simp only[p7]
     refine aL 7 G ?_;refine aL 8 G ?_;refine aL 9 G ?_;refine aL 10 G ?_;have h5:=aB (aQ v1 (I #[O X 0,O X 0,O X 0,Y Z 0 0,Y Z 0 0,Y Z 0 0] 85));obtain⟨h7,HK⟩:=aAC (h8.o.trans (h5.o.mono h8.o.size)) (aT.new v1 85 #[O X 0,O X 0,O X 0,Y Z 0 0,Y Z 0 0,Y Z 0 0]);have m4:Hid ((v1.alloc (I #[O X 0,O X 0,O X 0,Y Z 0 0,Y Z 0 0,Y Z 0 0] 85)).heap.size=v1.heap.size+1):=aB aD;refine r1 11 fun K hK=>?_;go_simp;refine hK.o _ _ (by exact h7.o) fun G=>?_;clear hK K;try simp only[p7]
     generalize (v1.alloc (I #[O X 0,O X 0,O X 0,Y Z 0 0,Y Z 0 0,Y Z 0 0] 85))=va at *;have zg:=aT.cell HK.o;have B4:=aT.frozen HK.o;have HX:=aB (J9 (ty:=⟨b5,c5,b8,b6,c3,b9,b7,c6,c0⟩) (y:=((⟨yo,ya,yb⟩:Nd),a4,yk)) HR.o a2.o a9.o q8.o j0.o h5.o m4.o HK.o m5.o);refine r1 12 fun K hK=>?_;go_simp;refine hK.o _ _ (by exact HX.o.be) fun G=>?_;clear hK K;try simp only[p7]
     refine aL 13 G ?_;refine aL 14 G ?_;refine wpAnyH_done aC ?_ _;go_wp2_with fail;go_meet;exact⟨v1.heap.size,b5,b6,b7,c5,b8,c3,b9,c6,c0,yo,ya,yb,a4,yk,is,f8,rfl,rfl,rfl,i0,HX⟩
   have h5:=aB (aQ W1 (I #[O X 0,O X 0,O X 0,Y Z 0 0,Y Z 0 0,Y Z 0 0] 85));obtain⟨h7,HK⟩:=aAC (a9.o.trans (h5.o.mono a9.o.size)) (aT.new W1 85 #[O X 0,O X 0,O X 0,Y Z 0 0,Y Z 0 0,Y Z 0 0]);have m4:Hid ((W1.alloc (I #[O X 0,O X 0,O X 0,Y Z 0 0,Y Z 0 0,Y Z 0 0] 85)).heap.size=W1.heap.size+1):=aB aD;go_simp;refine hK.o _ _ (by exact h7.o) fun G=>?_;clear hK K;try simp only[p7]
   generalize (W1.alloc (I #[O X 0,O X 0,O X 0,Y Z 0 0,Y Z 0 0,Y Z 0 0] 85))=va at *;refine r1 6 fun K hK=>?_;go_simp;go_at_call 45
   refine (g1.o _ h7.o).mono ?_;rintro e v1 ⟨a3,⟨b5,c5,b8,b6,c3,b9,b7,c6,c0⟩,⟨⟨yo,ya,yb⟩,a4,yk⟩,is,f8,rfl,a8,i6⟩;obtain⟨j0,m5⟩:=aAC a3 a8;have h8:=bY h7 a3;clear a3 a8;have i0:=aB i6;clear i6;go_wp2_with fail;refine hK.o _ _ (by exact h8.o) fun G=>?_;clear hK K;try simp only[p7]
   refine aL 7 G ?_;refine aL 8 G ?_;refine aL 9 G ?_;refine aL 10 G ?_;have p3:=aB (HK.o.below j0.o HK.o.lt);have zg:=aT.cell p3.o;have B4:=aT.frozen p3.o;have HX:=aB (J8 (ty:=⟨b5,c5,b8,b6,c3,b9,b7,c6,c0⟩) (y:=((⟨yo,ya,yb⟩:Nd),a4,yk)) HR.o a2.o a9.o q8.o h5.o m4.o HK.o j0.o m5.o);refine r1 12 fun K hK=>?_;go_simp;refine hK.o _ _ (by exact HX.o.be) fun G=>?_;clear hK K;try simp only[p7]
   refine aL 13 G ?_;refine aL 14 G ?_;refine wpAnyH_done aC ?_ _;go_wp2_with fail;go_meet;exact⟨W1.heap.size,b5,b6,b7,c5,b8,c3,b9,c6,c0,yo,ya,yb,a4,yk,is,f8,rfl,rfl,rfl,i0,HX⟩
  case rest =>
  obtain⟨g7,b5,b6,b7,c5,b8,c3,b9,c6,c0,yo,ya,yb,a4,yk,is,f8,rfl,rfl,rfl,i0,HX⟩:=hcut;clear zh h0 k0 k1 k2 k3 k4 k5 g1;have D:=aB HX.o.nn;rcases i0.o with⟨hr,rfl,rfl⟩|⟨hr,rfl,rfl⟩|⟨hr,rfl,rfl⟩
  . have m1:Hid (g9=.no):=aB (by rw[j1.o,hr]);have zx:=aT.cell D.o.s.x;have zr:=aT.cell D.o.s.r;have zf:=aT.frozen D.o.s.r;clear hr;go_wp2_with fail;refine XW (v:=.tuple #[.agg #[O X xo,O X xa,O X xb,Y Ak nk ck,Y Aa na ca,Y Af nf cf],.bool false,O X 0]) ?_ rfl ?_
    . exact dZ (g:=w.heap.size+1+1) (cK D.o.s.r _ _ _ _ _ _) aD
    exact kN (V0:=V0) (ty:=⟨Ak,nk,ck,Aa,na,ca,Af,nf,cf⟩) (y:=((⟨xo,xa,xb⟩:Nd),j8,xk)) HR.o g3.o D.o (XS _ _) (fun q h=>h) D.o.tx (.inl ⟨m1.o,rfl,rfl⟩)
  . have m1:Hid (g9=.bad):=aB (by rw[j1.o,hr]);have zx:=aT.cell D.o.s.x;have zr:=aT.cell D.o.s.r;have zf:=aT.frozen D.o.s.r;clear hr;go_wp2_with fail;refine XW (v:=.tuple #[.agg #[O X xo,O X xa,O X xb,Y Ak nk ck,Y Aa na ca,Y Af nf cf],.bool true,O X 9]) ?_ rfl ?_
    . exact dZ (g:=w.heap.size+1+1) (cK D.o.s.r _ _ _ _ _ _) aD
    exact kN (V0:=V0) (ty:=⟨Ak,nk,ck,Aa,na,ca,Af,nf,cf⟩) (y:=((⟨xo,xa,xb⟩:Nd),j8,xk)) HR.o g3.o D.o (XS _ _) (fun q h=>h) D.o.tx (.inr (.inl ⟨m1.o,rfl,rfl⟩))
  have m0:Hid (g9=vK.yes (dP ((⟨U,(z:Int),(nb:Int)⟩:Nd),[],iP ((bH hk).set 1 ((⟨yo,ya,yb⟩:Nd),a4,yk))) L)):=aB (by rw[j1.o,hr]);have f4:pk<=1000000:=by have:=q6.o;have:=x9.o;omega
  have i7:=D.o.th.kids;try simp only at i7
  have i8:=x7.o;try simp only at i8
  rw[i8]at i7;have j2:Hid (∀V,ZY wc V->Calls Tryz.prog 84 #[Y (some ⟨bq,oq,Z⟩) pk ek,O X 1,.agg #[O X yo,O X ya,O X yb,Y b5 c5 b8,Y b6 c3 b9,Y b7 c6 c0]] V (VT (bM R V0 wc) V ((bH hk).set 1 ((⟨yo,ya,yb⟩:Nd),a4,yk)))):=aB (fun V hV=>AT (i:=1) (t:=⟨b5,c5,b8,b6,c3,b9,b7,c6,c0⟩) (x:=((⟨yo,ya,yb⟩:Nd),a4,yk)) (fun q hq=>XT (D.o.lt HR.o q hq) hV.size) (HX.o.tr.below (D.o.lt HR.o) hV) (i7.below (D.o.lt HR.o) hV) (fun h=>by cases h) f4 t5);obtain⟨LS,m8⟩:=aAJ ((bH hk).set 1 ((⟨yo,ya,yb⟩:Nd),a4,yk));rw[<-m8]at j2 m0;obtain⟨ls,j6⟩:=aAJ LS.length;unfold VT at j2;rw[<-j6]at j2;have x6:=aB j6;have C7:Hid (ls<=1000000):=aB (by
   have h:=i7.len;rw[iC]at h;rw[j6,m8,List.length_set];omega)
  obtain⟨⟨⟨zo,za,zb⟩,B3,zk⟩,G⟩:∃y,y=dP ((⟨U,(z:Int),(nb:Int)⟩:Nd),[],iP LS) L:=⟨_,rfl⟩;rw[<-G]at m0;have HZ:=aB G;have g6:=HX.o.bk.lt;have B8:w.heap.size+3<=g7:=by have:=HX.o.ge;have:=a2.o.s.sz;have:=g3.o;omega
  have z7:=aT.cell HX.o.bk;have zn:∀i:Nat,wc.cell? ⟨w4.heap.size+1,i,Z⟩=(#[O X U,O X (z:Int),O X (nb:Int)]:Array Value)[i]?:=aT.cell D.o.n;have zh:∀i:Nat,wc.cell? ⟨w4.heap.size,i,Z⟩=(#[O X U,O X (z:Int),O X (nb:Int),Y (some ⟨bq,oq,Z⟩) pk ek,Y Ca pa ea,Y Cf pf ef]:Array Value)[i]?:=aT.cell D.o.h;have o1:=D.o.n.lt;have n5:=D.o.h.lt;clear hr i7 i8 m8 j6 G f4;go_upto_region 31 with fail
  refine wp_region_held_drew (S:=(fun w'=>∀q,q<wc.heap.size->q≠w.heap.size+1+1->w'.heap[q]? = wc.heap[q]?)) aC ?_ (fun G=>?_)
  . (try dsimp only);exact fun q _ _=>rfl
  have a9:Hid (ZY wc wc.drew):=aB (aU (XS _ _) 1);generalize wc.drew=W1 at *;refine tk 0 ?_ (fun wq hSw=>?_) G ?_;rotate_left
  . have f0:=(aP (hSw (w4.heap.size+1) (o1) aA) (0)).trans (zn 0);have f1:=(aP (hSw (w4.heap.size+1) (o1) aA) (1)).trans (zn 1);have f2:=(aP (hSw (w4.heap.size+1) (o1) aA) (2)).trans (zn 2);go_simp;try with_reducible rfl
  try simp only[p7]
  refine aL 1 G ?_;refine tk 2 ?_ (fun wq hSw=>?_) G ?_;rotate_left
  . have f3:=(aP (hSw (w4.heap.size) (n5) aA) (3)).trans (zh 3);go_simp;try with_reducible rfl
  try simp only[p7]
  refine tk 3 ?_ (fun wq hSw=>?_) G ?_;rotate_left
  . have s0:=(aP (hSw (g7) (g6) aA) (0)).trans (z7 0);have s1:=(aP (hSw (g7) (g6) aA) (1)).trans (z7 1);have s2:=(aP (hSw (g7) (g6) aA) (2)).trans (z7 2);have s3:=(aP (hSw (g7) (g6) aA) (3)).trans (z7 3);have s4:=(aP (hSw (g7) (g6) aA) (4)).trans (z7 4);have s5:=(aP (hSw (g7) (g6) aA) (5)).trans (z7 5);go_simp;try with_reducible rfl
  try simp only[p7]
  refine aL 6 G ?_;refine r1 4 fun K hK=>?_;go_simp;go_at_call 84
  refine (j2.o _ a9.o).mono ?_;rintro e v8 ⟨a3,A8,c8,rfl,a8⟩;have g0:=bY a9 a3;obtain⟨r0,y5⟩:=aAC a8 a9.o.size;clear a8;clear a3;go_wp2_with fail;refine hK.o _ _ (by exact fun q h1 _=>g0.o.block q h1) fun G=>?_;clear hK K;try simp only[p7]
  refine aL 5 G ?_;have y1:Hid (eX (bM R V0 v8) v8 A8 ls c8 (iP LS)):=aB (r0.o.keep fun q hq=>⟨gK (fun q h=>h) (by have:=D.o.s.sz;have:=y5.o;omega) g0.o.size hq,fun _=>rfl⟩);have l9:=aB (D.o.below HR.o g0.o);have p6:=aB (gZ (x:=((⟨U,(z:Int),(nb:Int)⟩:Nd),[],iP LS)) (l9.o.lt HR.o) (U3 x6.o y1.o) l9.o.kd aA);rw[<-HZ.o]at p6;clear r0;refine r1 7 fun K hK=>?_;go_simp;go_at_call 81
  refine (p6.o).mono ?_;rintro e v9 ⟨a3,⟨v5,w7,w1,v6,w5,w2,v7,w8,w3⟩,rfl,a8⟩;have d0:=bY g0 a3;obtain⟨y8,q9⟩:=aAC a8 a3.size;clear a8;clear a3;go_wp2_with fail;refine hK.o _ _ (by exact fun q h1 _=>d0.o.block q h1) fun G=>?_;clear hK K;try simp only[p7]
  have m2:=aB (D.o.s.r.below d0.o D.o.s.r.lt);have zr:=aT.cell m2.o;have D9:=aT.frozen m2.o;refine r1 8 fun K hK=>?_;go_simp;refine hK.o _ _ (by exact fun q h1 h2=>((e7 _ (w.heap.size+1+1) _ _ _ _ _ _).block q (XT h1 d0.o.size) (by intro e;injection e with e;exact h2 e)).trans (d0.o.block q h1)) fun G=>?_;clear hK K;try simp only[p7]
  refine aL 9 G ?_;refine aL 10 G ?_;refine wpAnyH_done aC ?_ _;go_wp2_with fail;refine XW (v:=.tuple #[.agg #[O X zo,O X za,O X zb,Y v5 w7 w1,Y v6 w5 w2,Y v7 w8 w3],.bool true,O X 0]) ?_ rfl ?_
  . exact dZ (g:=w.heap.size+1+1) (cK m2.o _ _ _ _ _ _) aD
  exact kN (V0:=V0) (ty:=⟨v5,w7,w1,v6,w5,w2,v7,w8,w3⟩) (y:=((⟨zo,za,zb⟩:Nd),B3,zk)) HR.o g3.o D.o d0.o (fun q hq=>gK (fun q h=>h) l9.o.s.sz q9.o hq) y8.o (.inr (.inr ⟨m0.o,rfl,rfl⟩))
end Go.Proofs.YtjoddliplahgkaaGreat
