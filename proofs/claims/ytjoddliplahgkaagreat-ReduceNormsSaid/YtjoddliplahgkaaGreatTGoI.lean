/- Merged: GoV, GoI. -/
import Derived.Test.YtjoddliplahgkaaGreatTGoH
namespace Go.Proofs.YtjoddliplahgkaaGreat
set_option linter.unusedVariables false
set_option linter.unusedSimpArgs false
open Go.RowKit
open Go.Value renaming int → O, slice → Y
open Go.IntKind renaming i64 → X
open Go.Obj renaming cells → Z
theorem EP:∀(F:Fo)(m:Nat),Wf (List.replicate m false) F->F=iP (bH F)
 | .nil,_,_=>rfl
 | .cons p n a k x,0,h=>h.elim
 | .cons p n a k x,m+1,h=>by
  rw[ZX]at h;obtain⟨D,_,_,_,G⟩:=h;have I:p=[]:=D;subst I;rw[e8];show Fo.cons [] n a k x=Fo.cons [] n a k (iP (bH x));rw[<-EP x _ G]
theorem QS:∀(L:List TT)(y:TT),2<=L.length->gB (iP L) y=iP (L.set 1 y)
 | [],_,h=>by simp at h
 | [_],_,h=>by simp at h
 | a::c::r,y,_=>rfl
theorem oW{x:TT}(h:nF x)(G:x.1.op=11)(I:2<=(bH x.2.2).length)(y:TT):(x.1,x.2.1,gB x.2.2 y)=((x.1,[],iP ((bH x.2.2).set 1 y)):TT)/\x.2.2=iP (bH x.2.2):=by
 have ha:x.2.1=[]:=by
  have:=h.at_;unfold iU at this;rw[XN aA]at this;exact this
 have F:x.2.2=iP (bH x.2.2):=by
  have D:=h.wf;unfold ds at D;rw[XN aA]at D;exact EP _ _ D
 refine⟨?_,F⟩;rw[ha]
 conv=>lhs;rw[F]
 rw[QS _ _ I]
theorem U3{R:Nat->Prop}{W:aAB}{n:Nd}{A:ZZ}{c:Nat}{L:List TT}{m:Nat}(D:m=L.length)(h:eX R W A m c (iP L)):fI R W ⟨A,m,c,none,0,0,none,0,0⟩ (n,[],iP L):=by
 subst D;refine⟨_,_,_,rfl,⟨_,_,_,rfl,h⟩,gE.nil _ _,?_⟩;rw[AG];exact gE.nil _ _
section
open Go.Lib renaming hid->aB
set_option maxRecDepth 100000 in
set_option maxHeartbeats 4000000 in
theorem JL{v:bR}{b:Bk}{w0:aAB}{cA:ZZ}{cn cc:Nat}{cv:aAA}{c7:Nat}{w:aAB}{R:Nat->Prop}{t:iA}{x:TT}(H:uE v b w0 cA cn cc cv c7 w R t x)(I:((bX x).1.1.op=11/\fA b (bX x).1.1 (bX (eM (bX x).1 1))=true/\True)):yL v b cA cn cc cv c7 w R t x:=by
 obtain⟨⟨xo,xa,xb⟩,x6,xk⟩:=x;obtain⟨Ak,nk,ck,Aa,na,ca,Af,nf,cf⟩:=t;obtain⟨f8,D,ha,hb,a2,hk,L,kl,V0,h5,o7,m9,A2,z0,g3,l3,l4,z7,i3,f0,HR,l0,x9,HX,y9,y8,z4,HT,t8,h7⟩:=kO H;rw[o7]at I;simp only at I i3 m9 h7;unfold yL;rw[h5];clear h5 o7 H;show Calls Tryz.prog 45 #[.agg #[O X b.vars,Y v.Ao v.no v.co,Y v.Ae v.ne v.ce,O X b.nat,Y v.Ap v.np v.cp],Y cA cn cc,.agg #[O X xo,O X xa,O X xb,Y Ak nk ck,Y Aa na ca,Y Af nf cf]] w _;go_in;go_upto_region 1 with fail
 clear m9;have x8:=aT.cell i3.o.x;go_wp2_with fail;refine (h7.o).mono ?_;rintro e w4 ⟨Ck,pk,ek,Ca,pa,ea,Cf,pf,ef,KB,kd,rfl,m3,i6,i7,g5,g4,f9,y0,k8,v0⟩;clear h7 i3 x8;have g0:Hid (DR w V0 R #[O X b.vars,Y v.Ao v.no v.co,Y v.Ae v.ne v.ce,O X b.nat,Y v.Ap v.np v.cp] #[O X xo,O X xa,O X xb,Y Ak nk ck,Y Aa na ca,Y Af nf cf] w4.heap.size (w4.heap.size+1) ⟨Ak,nk,ck,Aa,na,ca,Af,nf,cf⟩ ((⟨xo,xa,xb⟩:Nd),x6,xk) ⟨Ck,pk,ek,Ca,pa,ea,Cf,pf,ef⟩ ((⟨D,ha,hb⟩:Nd),a2,hk) KB kl kd L ((w4.alloc (Z #[O X D,O X ha,O X hb,Y Ck pk ek,Y Ca pa ea,Y Cf pf ef] 85)).alloc (Z #[O X D,O X ha,O X hb] 46))):=aB ⟨m3.o,i6.o,i7.o,g5.o,g4.o.keep fun q hq=>⟨Or.inl hq,fun _=>rfl⟩,f9.o⟩;have zh:=aT.cell i6.o;have zn:=aT.cell i7.o;clear m3 i6 i7 g5 g4 f9 k8;obtain⟨I,f5,v4⟩:=I;have hF:=l3.o;obtain⟨n1,n2,n3,n4⟩:=lI hF.head I;obtain⟨p,q,z8,a0,n6⟩:=eT hF.head.okt I;simp only at n1 n2 n3 n4 a0 n6;have hq:=hF.head.kid0 (i:=1) (by rw[a0];rfl) (eQ (.inr (.inr I)));obtain⟨o3,g7⟩:=oW hF.head.okt I (by simp only;rw[a0];simp) (x:=((⟨D,ha,hb⟩:Nd),a2,hk)) ((⟨0,0,0⟩:Nd),[],.nil);have l6:=aB (fun y=>(oW hF.head.okt I (by simp only;rw[a0];simp) y).1);have z1:=aB g7;obtain⟨ia,j0⟩:∃ia:Nat,ha=(ia:Int):=⟨ha.toNat,by omega⟩;obtain⟨nb,o4⟩:∃nb:Nat,hb=(nb:Int):=⟨hb.toNat,by omega⟩;have w1:=l0.o.entries.len;obtain⟨be,oe,m8,n5,⟨As,ns,cs,Ap,np,cp,Ai,ni,ci,Ac,nc,z9,At,nt,ct,Ab,C9,cb⟩,_,_,c2,_,c4,_,_,G⟩:=l0.o.entries.at_ (k:=ia) aA;have o0:bP b (ia:Int)=b.entries.getD ia default:=by unfold bP;rw[YG]
 rw[<-o0]at G;simp only at c2 c4;have f7:=G.params.len;have g8:=G.params.few;simp only at f7 g8;obtain⟨⟨⟨so,sa,U⟩,a3,sk⟩,M,b8⟩:∃F L,bX q=(F,L):=⟨_,_,rfl⟩;have o1:eM ((⟨D,ha,hb⟩:Nd),a2,hk) 1=q:=dO (i:=1) (by simp only;rw[a0];rfl);rw[o1,b8]at f5;have j6:=lQ hq;have p1:=eY hq;rw[b8]at j6 p1;have e8:=aB (fun h=>p9 j6.head h);simp only at e8;obtain⟨ml,j3⟩:=aAJ M.length;have w3:M.length<=4096:=by
  have h3:dA (((⟨so,sa,U⟩:Nd),a3,sk),M)=bL ((⟨so,sa,U⟩:Nd),a3,sk)+cB M:=rfl;have h4:bL q<=4096:=hq.few;have:=oV M;omega
 have o8:bL q<c7:=by
  have h2:=oH (show q∈bH hk by rw[a0];simp);have e:bL ((⟨D,ha,hb⟩:Nd),a2,hk)=1+a2.length+(row hk).length:=cS _ _ _;have h3:=l4.o;have h4:dA (((⟨D,ha,hb⟩:Nd),a2,hk),L)=bL ((⟨D,ha,hb⟩:Nd),a2,hk)+cB L:=rfl;have:=t8.o;omega
 have e1:Hid (f8=if fA b ⟨D,ha,hb⟩ (((⟨so,sa,U⟩:Nd),a3,sk),M)=true then vK.yes (dP (cX hk (2+U.toNat)) (M.drop np++L)) else match nS b cv c7 (((⟨so,sa,U⟩:Nd),a3,sk),M) with | .no=>.no | .bad=>.bad | .yes y=>.yes (dP ((⟨D,ha,hb⟩:Nd),[],iP ((bH hk).set 1 y)) L)):=aB (by
  have j1:eM ((⟨D,ha,hb⟩:Nd),a2,hk) 1=q:=dO (i:=1) (by simp only;rw[a0];rfl);have p0:bT b cv (((⟨D,ha,hb⟩:Nd),a2,hk),L)=fA b ⟨D,ha,hb⟩ (((⟨so,sa,U⟩:Nd),a3,sk),M):=by
   unfold bT;simp only;rw[XN aA,XN aA,XN aA,XP I,j1,b8]
  by_cases h:fA b ⟨D,ha,hb⟩ (((⟨so,sa,U⟩:Nd),a3,sk),M)=true
  . rw[XP h,g3.o,i5 (by rw[p0];exact h)];have A5:0<=U/\U<hb:=by
     unfold fA at h;simp only[YC,beq_iff_eq,YJ]at h;exact⟨(e8.o h.1).2.1,h.2.2.1⟩
    have v7:eM ((⟨D,ha,hb⟩:Nd),a2,hk) (2+U.toNat)=cX hk (2+U.toNat):=by
     refine dO ?_;simp only;unfold cX;have:2+U.toNat<(bH hk).length:=by rw[a0];simp only[YA];omega
     rw[YD,YB this];rfl
    unfold lA;simp only;rw[XN aA,XN aA,XN aA,XN aA,XP I,j1,b8];simp only;rw[v7,j0,f7]
  rw[XN h,g3.o,qV (p:=q) (by rw[p0];exact h) (by unfold cQ;simp only;rw[XP I,j1]),b8];cases nS b cv c7 (((⟨so,sa,U⟩:Nd),a3,sk),M) with
  | no=>rfl
  | bad=>rfl
  | yes y =>
   simp only
   congr 1
   show dP (dW _ y).1 (dW _ y).2=_;unfold dW;simp only;rw[XP I];simp only;rw[l6.o y])
 rw[j0,o4]at e1 l6 f5;have e9:=aB f5;clear f5 o1 v4;subst j0;subst o4;have d9:=g0.o;have j4:=d9.th.nk;simp only at j4;have h0:pk=2+nb:=by rw[j4,a0];simp only[YA];omega
 obtain⟨bq,oq,⟨C0,C7,C3,C1,C6,C4,C2,C8,C5⟩,f1,i8,f2,e6⟩:=d9.th.kid (j:=1) (by simp only;omega);have j2:cX hk 1=q:=by unfold cX;rw[a0];rfl
 simp only at f1 f2 e6;rw[j2,Nat.one_mul]at f2;rw[j2]at e6;have r9:=aB (fun (j:Nat) (hj:j<pk)=>(by
  obtain⟨b',o',t',h1,h2,h3,h4⟩:=d9.th.kid (j:=j) hj;simp only at h1 h3 h4;rw[f1]at h1;injection h1 with h1;injection h1 with h1 h1';subst h1;subst h1';exact⟨t',h3,h4⟩:∃t',T0 (((w4.alloc (Z #[O X D,O X (ia:Int),O X (nb:Int),Y Ck pk ek,Y Ca pa ea,Y Cf pf ef] 85)).alloc (Z #[O X D,O X (ia:Int),O X (nb:Int)] 46))) bq (oq+j*6) t' (cX hk j).1/\fI (bM R V0 (((w4.alloc (Z #[O X D,O X (ia:Int),O X (nb:Int),Y Ck pk ek,Y Ca pa ea,Y Cf pf ef] 85)).alloc (Z #[O X D,O X (ia:Int),O X (nb:Int)] 46)))) (((w4.alloc (Z #[O X D,O X (ia:Int),O X (nb:Int),Y Ck pk ek,Y Ca pa ea,Y Cf pf ef] 85)).alloc (Z #[O X D,O X (ia:Int),O X (nb:Int)] 46))) t' (cX hk j)))
 have a4:=aB (kX (d9.lt HR.o) e6 hq.rt);rw[b8]at a4;unfold VJ at a4;simp only at a4;rw[<-j3]at a4;obtain⟨k7,t5,r6,z6,z2,z5,z3,l1⟩:=aAG f1 i8 f2 e6 hq b8 o8 (d9.lt HR.o _ i8);obtain⟨m1,i0⟩:=aAC h0 j3;have l5:Hid (ml<=4096):=aB aA;obtain⟨l8,r3,k9,r4,r5,r7⟩:=aAH f7 m8 n5 c2 c4 G;have r8:Hid (ia<v.ne):=aB aA;have s6:=aB n4;clear hF n1 n2 n3 n4 a0 n6 hq o3 g7 w1 m8 n5 c2 c4 G o0 f7 g8 b8 j6 p1 j3 w3 o8 d9 j4 h0 f1 i8 f2 e6 j2;have d5:(D==5)=false:=by rw[XY];omega
 have d7:(D==7)=false:=by rw[XY];omega
 have d1:(D==1)=false:=by rw[XY];omega
 have d8:(D==8)=false:=by rw[XY];omega
 have A0:(D==11)=true:=by simp[I]
 obtain rfl:Ck=some ⟨bq,oq,none⟩:=k7.o;clear k7 I;obtain⟨⟨qo,qa,qb⟩,D1,qk⟩:=q;have y6:1<pk:=by have:=m1.o;omega
 have y7:(1:Int)<(pk:Int):=aA;obtain⟨q0,q1,q2,q3,q4,q5⟩:=r6.o;simp only at q0 q1 q2 q3 q4 q5;go_upto_region 24 with fail
 generalize ((w4.alloc (Z #[O X D,O X (ia:Int),O X (nb:Int),Y (some ⟨bq,oq,none⟩) pk ek,Y Ca pa ea,Y Cf pf ef] 85)).alloc (Z #[O X D,O X (ia:Int),O X (nb:Int)] 46))=W5 at *;have c6:=g0;go_wp2_with fail;refine (a4.o).mono ?_;rintro e w6 ⟨c0,⟨a9,b6,b2,b0,b5,b3,b1,b7,b4⟩,PB,pd,rfl,p2,o5,o6⟩;have e2:=aQ w6 (Z #[O X so,O X sa,O X U,Y a9 b6 b2,Y b0 b5 b3,Y b1 b7 b4] 85);have c3:=aB (c0.trans (e2.mono c0.size));have l7:=aB (c6.o.below HR.o c3.o);have c5:=aB (aT.new w6 85 #[O X so,O X sa,O X U,Y a9 b6 b2,Y b0 b5 b3,Y b1 b7 b4]);have m6:Hid (fI (bM R V0 (w6.alloc (Z #[O X so,O X sa,O X U,Y a9 b6 b2,Y b0 b5 b3,Y b1 b7 b4] 85))) (w6.alloc (Z #[O X so,O X sa,O X U,Y a9 b6 b2,Y b0 b5 b3,Y b1 b7 b4] 85)) ⟨a9,b6,b2,b0,b5,b3,b1,b7,b4⟩ ((⟨so,sa,U⟩:Nd),a3,sk)):=aB (p2.keep fun q hq=>⟨hq.to (XU _) c3.o.size,fun o=>e2.cell (p:=⟨q,o,none⟩) (XT (c6.o.lt HR.o q hq) c0.size)⟩);have g1:Hid (eX (bM R V0 (w6.alloc (Z #[O X so,O X sa,O X U,Y a9 b6 b2,Y b0 b5 b3,Y b1 b7 b4] 85))) (w6.alloc (Z #[O X so,O X sa,O X U,Y a9 b6 b2,Y b0 b5 b3,Y b1 b7 b4] 85)) PB ml pd (iP M)):=aB (o5.keep fun q hq=>⟨(gK (fun q h=>h) c6.o.s.sz c0.size hq:bM R V0 w6 q).to (XU _) e2.size,fun o=>e2.cell (p:=⟨q,o,none⟩) (by
  rcases hq with hq|hq
  . exact XT (c6.o.lt HR.o q hq) c0.size
  exact hq.2)⟩)
 obtain⟨s7,t6⟩:=aAC o6 c0.size;clear c0 e2 p2 o5 o6 zh zn q0 q1 q2 q3 q4 q5 a4;go_upto_region 25 with fail
 generalize (w6.alloc (Z #[O X so,O X sa,O X U,Y a9 b6 b2,Y b0 b5 b3,Y b1 b7 b4] 85))=W7 at *;have a8:=l7;have zh:∀i:Nat,W7.cell? ⟨w4.heap.size,i,none⟩=(#[O X D,O X (ia:Int),O X (nb:Int),Y (some ⟨bq,oq,none⟩) pk ek,Y Ca pa ea,Y Cf pf ef]:Array Value)[i]?:=aT.cell a8.o.h;have zn:∀i:Nat,W7.cell? ⟨w4.heap.size+1,i,none⟩=(#[O X D,O X (ia:Int),O X (nb:Int)]:Array Value)[i]?:=aT.cell a8.o.n;have zc:=aT.cell c5.o;have zb:=aT.cell a8.o.s.bk;rw[r3.o]at zb;have y3:ia<v.ne:=r8.o;have y4:(ia:Int)<(v.ne:Int):=aA;have v2:=(a8.o.s.bel.cell (p:=⟨be,oe+ia*7+2,none⟩) k9.o).trans r4.o;have m7:=(a8.o.s.bel.cell (p:=⟨be,oe+ia*7+4,none⟩) k9.o).trans r5.o;have G:=r7.o.below a8.o.s.bel;obtain⟨rb,j5⟩:=aAJ (fA b ⟨D,(ia:Int),(nb:Int)⟩ (((⟨so,sa,U⟩:Nd),a3,sk),M));have m2:Hid (f8=if rb=true then vK.yes (dP (cX hk (2+U.toNat)) (M.drop np++L)) else match nS b cv c7 (((⟨so,sa,U⟩:Nd),a3,sk),M) with | .no=>.no | .bad=>.bad | .yes y=>.yes (dP ((⟨D,(ia:Int),(nb:Int)⟩:Nd),[],iP ((bH hk).set 1 y)) L)):=aB (by rw[j5];exact e1.o);have a6:=aB j5;clear e1 j5;go_upto_region 26 with fail
 go_cut [193] (fun bv wx=>bv=.bool rb/\Hid (ZY W7 wx))
 case first =>
  by_cases q1:so=10;rotate_left
  . have d1:(so==10)=false:=by simpa using q1
    have b9:Hid (rb=false):=aB (by rw[a6.o];unfold fA;simp only;rw[d1];rfl);clear q1 G;have h9:=a6.o.trans e9.o;rw[b9.o]at h9;cases h9
  have d1:(so==10)=true:=by simpa using q1
  obtain⟨t1,t2,t3⟩:=e8.o q1;clear q1;by_cases q2:sa=(ia:Int);rotate_left
  . have d2:(sa==(ia:Int))=false:=by simpa using q2
    have b9:Hid (rb=false):=aB (by rw[a6.o];unfold fA;simp only;rw[d1,d2];rfl);clear q2 t1 t2 t3 G;have h9:=a6.o.trans e9.o;rw[b9.o]at h9;cases h9
  have d2:(sa==(ia:Int))=true:=by simpa using q2
  by_cases q3:U<(nb:Int);rotate_left
  . have d3:decide (U<(nb:Int))=false:=XQ q3;have b9:Hid (rb=false):=aB (by rw[a6.o];unfold fA;simp only;rw[d1,d2,d3];rfl);clear q2 q3 t1 t2 t3 G;have h9:=a6.o.trans e9.o;rw[b9.o]at h9;cases h9
  have d3:decide (U<(nb:Int))=true:=XR q3;obtain⟨ib,f6⟩:∃ib:Nat,U=(ib:Int):=⟨U.toNat,by omega⟩;rw[q2]at t3;have n7:=G.ctors.len;have w5:=G.params.few;simp only at n7 w5;have g6:ib<nc:=aA;have y2:(ib:Int)<(nc:Int):=aA;obtain⟨bc,oc,A1,n1,c1,ec,A4,k0,n0⟩:=G.ctors.arg_at (k:=ib) g6;simp only at ec;rw[ec]at m7;have hr:rb=(ml==np+n1):=by
   rw[a6.o];unfold fA;simp only;rw[d1,d2,d3,l8.o,f6,show ((ib:Int)).toNat=ib from by omega,n0,i0.o];rfl
  have d4:((ml:Int)==(np:Int)+(n1:Int))=(ml==np+n1):=by
   rw[YK];simp only[beq_iff_eq];omega
  have y5:n1<=5864062014805:=by
   obtain⟨_,_,_,_,w2⟩:=G.ctors.mem (by simp only;omega);obtain⟨A9,n9,c9,_,_,_,_,_,o9,_⟩:=w2 ib g6;have:=o9.len;have:=o9.few;omega
  have b9:=aB hr;have d5:decide (ib<nb)=true:=XR aA;have d6:ib<nb:=aA;subst f6;clear q2 q3 hr t1 t2 t3 n7 n0 G;generalize (ml==np+n1)=rv at *;go_quiet (fail)
  go_wp2_with fail;go_meet;exact⟨by rw[b9.o],aB (aU (XS _ _) _)⟩
 case rest =>
 obtain⟨rfl,e3⟩:=hcut;obtain⟨wd,rfl⟩:=aAJ wc;obtain⟨a1,l2,g2,e0⟩:=aAE (a8.o.below HR.o e3.o) (c5.o.below e3.o c5.o.lt) (g1.o.keep (kR HR.o a8.o.s.bel.size e3.o)) (c3.o.trans (e3.o.mono c3.o.size));have v5:=a1.o.h.lt;have v3:=l2.o.lt;have A6:w.heap.size+3<=w4.heap.size:=by have:=v0.o;have:=f0.o;omega
 have A7:w.heap.size+3<=w6.heap.size:=by have:=c6.o.s.sz;have:=f0.o;have:=t6.o;omega
 have d0:bq<wd.heap.size:=XT l1.o e0.o.size;have y1:bq≠w.heap.size+1+1:=by
  rcases t5.o with h|h
  . have:=HR.o _ h;omega
  have:=h.1;have:=f0.o;omega
 clear zb v2 m7 G zh zn zc c5 m6 g1 e3;cases rb with
 | true =>
  have i4:=a6.o.symm;unfold fA at i4;simp only[YC,beq_iff_eq,YJ]at i4;obtain⟨t1,t2,t3,t4⟩:=i4;obtain⟨u1,u2,u3⟩:=e8.o t1;obtain⟨ib,f6⟩:∃ib:Nat,U=(ib:Int):=⟨U.toNat,by omega⟩;subst f6;have g9:np<=ml:=by have:=i0.o;have:=l8.o;omega
  obtain⟨jb,o2⟩:∃jb:Nat,jb=2+ib:=⟨_,rfl⟩;have v6:jb<pk:=by have:=m1.o;omega
  have A8:IntKind.i64.wrap (2+(ib:Int))=(jb:Int):=by rw[XV];have:=s6.o;omega
  obtain⟨⟨B0,B8,B4,B2,B7,B5,B3,B9,B6⟩,e4,j7⟩:=r9.o jb v6;obtain⟨z,hz⟩:=aAJ (cX hk jb);rw[<-hz]at e4 j7;have s9:Hid (f8=vK.yes (dP z (M.drop np++L))):=aB (by
   have h:=m2.o;rw[XP rfl]at h;rw[h,hz,o2,YG])
  obtain⟨⟨zo,za,zb⟩,x7,zk⟩:=z;obtain⟨k0,k1,k2,k3,k4,k5⟩:=e4.below e0.o l1.o;simp only at k0 k1 k2 k3 k4 k5;have h6:=j7.keep (kR HR.o c6.o.s.bel.size e0.o);obtain⟨B1,A3,n8⟩:=KE (B:=PB) (L:=M) (n:=ml) (c:=pd) (k:=np) i0.o.symm g9 g2.o.cap s7.o;have m0:=aB (fun (V:aAB) (hV:ZY wd V)=>gZ (fun q hq=>XT (a1.o.lt HR.o q hq) hV.size) (h6.below (a1.o.lt HR.o) hV) ((n8 _ _ g2.o).below (a1.o.lt HR.o) hV) (by have:=l5.o;omega));obtain⟨⟨⟨yo,ya,yb⟩,r2,yk⟩,hY⟩:∃y,y=dP ((⟨zo,za,zb⟩:Nd),x7,zk) (M.drop np):=⟨_,rfl⟩;obtain⟨⟨⟨k6,j8,j9⟩,xat',r0⟩,i9⟩:∃y,y=dP ((⟨yo,ya,yb⟩:Nd),r2,yk) L:=⟨_,rfl⟩;rw[<-hY]at m0;have t0:Hid (f8=vK.yes ((⟨k6,j8,j9⟩:Nd),xat',r0)):=aB (by rw[s9.o,D0,<-hY,i9]);have v1:=aB i9;have zh:∀i:Nat,wd.cell? ⟨w4.heap.size,i,none⟩=(#[O X D,O X (ia:Int),O X (nb:Int),Y (some ⟨bq,oq,none⟩) pk ek,Y Ca pa ea,Y Cf pf ef]:Array Value)[i]?:=aT.cell a1.o.h;have zc:=aT.cell l2.o;clear t1 t2 t3 t4 u1 u2 u3 g9 o2 e4 j7 hz h6 n8 hY i9;go_upto_region 27 with fail
  refine wp_region_held_drew (S:=(fun w'=>∀q,q<wd.heap.size->q≠w.heap.size+1+1->w'.heap[q]? = wd.heap[q]?)) aC ?_ (fun hZ=>?_)
  . (try dsimp only);exact fun q _ _=>rfl
  have h8:Hid (ZY wd wd.drew):=aB (aU (XS _ _) 1);generalize wd.drew=W1 at *;refine aL 0 hZ ?_;refine tk 1 ?_ (fun wq hSw=>?_) hZ ?_;rotate_left
  . have f3:=(aP (hSw (w4.heap.size) (v5) aA) (3)).trans (zh 3);go_simp;try with_reducible rfl
  try simp only[p7]
  refine aL 2 hZ ?_;refine aL 3 hZ ?_;refine tk 4 ?_ (fun wq hSw=>?_) hZ ?_;rotate_left
  . have f4:=(aP (hSw (w6.heap.size) (v3) aA) (2)).trans (zc 2);go_simp;try with_reducible rfl
  try simp only[p7]
  refine aL 5 hZ ?_;refine aL 6 hZ ?_;refine tk 7 ?_ (fun wq hSw=>?_) hZ ?_;rotate_left
  . have s0:=(aP (hSw (bq) (d0) aA) (oq+jb*6)).trans (k0);have s1:=(aP (hSw (bq) (d0) aA) (oq+jb*6+1)).trans (k1);have s2:=(aP (hSw (bq) (d0) aA) (oq+jb*6+2)).trans (k2);have s3:=(aP (hSw (bq) (d0) aA) (oq+jb*6+3)).trans (k3);have s4:=(aP (hSw (bq) (d0) aA) (oq+jb*6+4)).trans (k4);have s5:=(aP (hSw (bq) (d0) aA) (oq+jb*6+5)).trans (k5);go_simp;try with_reducible rfl
  try simp only[p7]
  refine aL 8 hZ ?_;refine aL 9 hZ ?_;refine aL 10 hZ ?_;refine aL 12 hZ ?_;refine r1 11 fun K hK=>?_;go_simp;go_at_call 81
  refine (m0.o _ h8.o).mono ?_;rintro e v8 ⟨c8,⟨w7,x4,x0,w8,x3,x1,w9,x5,x2⟩,rfl,e5⟩;have a7:=bY h8 c8;obtain⟨m5,t7⟩:=aAC e5 h8.o.size;clear e5;clear c8;go_wp2_with fail;refine hK.o _ _ (by exact fun q h1 _=>a7.o.block q h1) fun hZ=>?_;clear hK K;try simp only[p7]
  have s8:Hid (fI (bM R V0 v8) v8 ⟨w7,x4,x0,w8,x3,x1,w9,x5,x2⟩ ((⟨yo,ya,yb⟩:Nd),r2,yk)):=aB (m5.o.keep fun q hq=>⟨gK (fun q h=>h) (by have:=a1.o.s.sz;have:=t7.o;omega) a7.o.size hq,fun _=>rfl⟩);have i1:=aB (a1.o.below HR.o a7.o);have l9:=aB (gZ (i1.o.lt HR.o) s8.o i1.o.kd aA);rw[<-v1.o]at l9;clear m5;refine r1 13 fun K hK=>?_;go_simp;go_at_call 81
  refine (l9.o).mono ?_;rintro e v9 ⟨c8,⟨p3,q8,p6,p4,q7,p8,p5,q9,q6⟩,rfl,e5⟩;have a5:=bY a7 c8;obtain⟨t9,m4⟩:=aAC e5 c8.size;clear e5;clear c8;go_wp2_with fail;refine hK.o _ _ (by exact fun q h1 _=>a5.o.block q h1) fun hZ=>?_;clear hK K;try simp only[p7]
  have i2:=aB (a1.o.s.r.below a5.o a1.o.s.r.lt);have zr:=aT.cell i2.o;have D2:=aT.frozen i2.o;refine r1 14 fun K hK=>?_;go_simp;refine hK.o _ _ (by exact fun q h1 h2=>((e7 _ (w.heap.size+1+1) _ _ _ _ _ _).block q (XT h1 a5.o.size) (by intro e;injection e with e;exact h2 e)).trans (a5.o.block q h1)) fun hZ=>?_;clear hK K;try simp only[p7]
  refine aL 15 hZ ?_;refine aL 16 hZ ?_;refine wpAnyH_done aC ?_ _;go_wp2_with fail;refine XW (v:=.tuple #[.agg #[O X k6,O X j8,O X j9,Y p3 q8 p6,Y p4 q7 p8,Y p5 q9 q6],.bool true,O X 0]) ?_ rfl ?_
  . exact dZ (g:=w.heap.size+1+1) (cK i2.o _ _ _ _ _ _) aD
  exact kN (V0:=V0) (ty:=⟨p3,q8,p6,p4,q7,p8,p5,q9,q6⟩) (y:=((⟨k6,j8,j9⟩:Nd),xat',r0)) HR.o f0.o a1.o a5.o (fun q hq=>gK (fun q h=>h) i1.o.s.sz (by have:=a5.o.size;have:=a7.o.size;exact m4.o) hq) t9.o (.inr (.inr ⟨t0.o,rfl,rfl⟩))
 | false =>
  have h9:=a6.o.trans e9.o;cases h9
end
end Go.Proofs.YtjoddliplahgkaaGreat
