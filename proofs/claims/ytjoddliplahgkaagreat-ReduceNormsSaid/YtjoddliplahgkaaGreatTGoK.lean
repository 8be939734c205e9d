/- Merged: GoJ, RvV, GoK. -/
import Derived.Test.YtjoddliplahgkaaGreatTGoH
namespace Go.Proofs.YtjoddliplahgkaaGreat
set_option maxHeartbeats 4000000
set_option maxRecDepth 100000
set_option linter.unusedVariables false
set_option linter.unusedSimpArgs false
open Go.RowKit
open Go.Value renaming int → O, slice → Y
open Go.IntKind renaming i64 → X
open Option renaming none → Z
open Go.Obj renaming cells → I
section
open Go.Lib renaming hid->aB
theorem TI{v:bR}{b:Bk}{w0:aAB}{cA:ZZ}{cn cc:Nat}{cv:aAA}{g6:Nat}{w:aAB}{R:Nat->Prop}{t:iA}{x:TT}(H:uE v b w0 cA cn cc cv g6 w R t x)(G:(bX x).1.1.op=7):yL v b cA cn cc cv g6 w R t x:=by
 obtain⟨⟨xo,xa,xb⟩,i8,xk⟩:=x;obtain⟨Ak,nk,ck,Aa,na,ca,Af,nf,cf⟩:=t;obtain⟨k7,ho,ha,hb,h1,hk,L,kl,V0,d9,h4,g9,m2,l6,g3,f9,l2,m0,e6,j8,HR,l4,l1,HX,l5,j6,l7,HT,l8,e0⟩:=kO H;rw[h4]at G;simp only at G e6 g9 e0;unfold yL;rw[d9];clear d9 h4 H;show Calls Tryz.prog 45 #[.agg #[O X b.vars,Y v.Ao v.no v.co,Y v.Ae v.ne v.ce,O X b.nat,Y v.Ap v.np v.cp],Y cA cn cc,.agg #[O X xo,O X xa,O X xb,Y Ak nk ck,Y Aa na ca,Y Af nf cf]] w _;go_in;go_upto_region 1 with fail
 clear g9;have l0:=aT.cell e6.o.x;go_wp2_with fail;refine (e0.o).mono ?_;rintro e w4 ⟨Ck,pk,ek,Ca,pa,ea,Cf,pf,ef,KB,kd,rfl,g4,e9,f0,d8,d6,d3,l3,f5,l9⟩;clear e0 e6 l0;have d4:Hid (DR w V0 R #[O X b.vars,Y v.Ao v.no v.co,Y v.Ae v.ne v.ce,O X b.nat,Y v.Ap v.np v.cp] #[O X xo,O X xa,O X xb,Y Ak nk ck,Y Aa na ca,Y Af nf cf] w4.heap.size (w4.heap.size+1) ⟨Ak,nk,ck,Aa,na,ca,Af,nf,cf⟩ ((⟨xo,xa,xb⟩:Nd),i8,xk) ⟨Ck,pk,ek,Ca,pa,ea,Cf,pf,ef⟩ ((⟨ho,ha,hb⟩:Nd),h1,hk) KB kl kd L ((w4.alloc (I #[O X ho,O X ha,O X hb,Y Ck pk ek,Y Ca pa ea,Y Cf pf ef] 85)).alloc (I #[O X ho,O X ha,O X hb] 46))):=aB ⟨g4.o,e9.o,f0.o,d8.o,d6.o.keep fun q hq=>⟨Or.inl hq,fun _=>rfl⟩,d3.o⟩;have zh:=aT.cell e9.o;have zn:=aT.cell f0.o;clear g4 e9 f0 d8 d6 d3 f5;have hF:=f9.o;obtain⟨p,a,q,b4⟩:=mU hF.head.okt G;have hA:=hF.head.kid0 (i:=1) (by rw[b4];rfl) (eQ (.inr (.inl ⟨G,by decide⟩)));have hq:=hF.head.kid (i:=2) (by rw[b4];rfl);have h0:aR ho hb ((2:Nat):Int)=1:=jF (n:=⟨ho,ha,hb⟩) (.inr ⟨G,rfl⟩);rw[h0]at hq;obtain⟨⟨y,ye⟩,hy⟩:∃y,y=cI q a:=⟨_,rfl⟩;have h7:ye=0\/ye=9:=by have:=xY q a;rw[<-hy]at this;exact this
 have e4:Hid (k7=if ye=0 then vK.yes (dP y L) else vK.bad):=aB (by
  rw[g3.o,i5 (by unfold bT;simp only;rw[XN aA,XP (.inl G)])];unfold lA;simp only;rw[XN aA,XP G,dO (i:=1) (y:=a) (by simp only;rw[b4];rfl),dO (i:=2) (y:=q) (by simp only;rw[b4];rfl),<-hy];by_cases h:ye=0
  . simp only;rw[XP h,XP h]
  simp only;rw[XN h,XN h])
 have j9:=aB h7;have b5:=d4.o;have c2:=b5.th.nk;simp only at c2;rw[b4]at c2;simp only[YA,ZD]at c2;obtain⟨bq,oq,⟨n2,n9,n5,n3,n8,n6,n4,o0,n7⟩,c7,g8,c9,d1⟩:=b5.th.kid (j:=2) (by simp only;omega);obtain⟨ba,oa,⟨m3,n0,m6,m4,m9,m7,m5,n1,m8⟩,c6,k6,c8,d0⟩:=b5.th.kid (j:=1) (by simp only;omega);have h3:cX hk 2=q:=by unfold cX;rw[b4];rfl
 have f2:cX hk 1=a:=by unfold cX;rw[b4];rfl
 simp only at c7 c9 d1 c6 c8 d0;obtain⟨rfl,rfl⟩:bq=ba/\oq=oa:=by rw[c7]at c6;injection c6 with e;injection e with e1 e2;exact⟨e1,e2⟩
 rw[h3]at c9 d1;rw[f2,Nat.one_mul]at c8;rw[f2]at d0;have c1:=aB (fun (V:aAB) (hV:Below (((w4.alloc (I #[O X ho,O X ha,O X hb,Y Ck pk ek,Y Ca pa ea,Y Cf pf ef] 85)).alloc (I #[O X ho,O X ha,O X hb] 46))).heap.size (((w4.alloc (I #[O X ho,O X ha,O X hb,Y Ck pk ek,Y Ca pa ea,Y Cf pf ef] 85)).alloc (I #[O X ho,O X ha,O X hb] 46))) V)=>qB (b:=b) (free:=(cv.length:Int)) (fun q hq=>XT (b5.lt HR.o q hq) hV.size) (d1.below (b5.lt HR.o) hV) (d0.below (b5.lt HR.o) hV) hq hA aA (by have:=j6.o.few;omega));rw[<-hy]at c1;have f4:=aB c7;have f8:=aB c9;have f7:=aB c8;have i9:=aB (b5.lt HR.o _ g8);have g2:=aB c2;clear hF b4 hq h0 hA hy h7 b5 c2 c7 g8 c9 d1 c6 k6 c8 d0 h3 f2;have d5:(ho==5)=false:=by rw[XY];omega
 have d7:(ho==7)=true:=by simp[G]
 obtain rfl:Ck=some ⟨bq,oq,Z⟩:=f4.o;obtain rfl:pk=3:=g2.o;clear f4 g2 G;obtain⟨⟨qo,qa,qb⟩,o1,qk⟩:=q;obtain⟨⟨ao,aa,ab⟩,m1,ak⟩:=a;obtain⟨⟨yo,ya,yb⟩,d2,yk⟩:=y;obtain⟨q0,q1,q2,q3,q4,q5⟩:=f8.o;obtain⟨a0,a1,a2,a3,a4,a5⟩:=f7.o;simp only at q0 q1 q2 q3 q4 q5 a0 a1 a2 a3 a4 a5 c1 e4;go_upto_region 10 with fail
 generalize ((w4.alloc (I #[O X ho,O X ha,O X hb,Y (some ⟨bq,oq,Z⟩) 3 ek,Y Ca pa ea,Y Cf pf ef] 85)).alloc (I #[O X ho,O X ha,O X hb] 46))=W5 at *;have e3:=d4;have F:=i9.o;have h2:=e3.o.h.lt;go_cut [14,15] (fun pv ev wx=>∃(g7:Nat)(U a6 a7:ZZ)(b2 a8 b1 a9 b3 b0:Nat),pv=.pointer (some ⟨g7,0,Z⟩)/\ev=O X ye/\Hid (GD w V0 R #[O X b.vars,Y v.Ao v.no v.co,Y v.Ae v.ne v.ce,O X b.nat,Y v.Ap v.np v.cp] #[O X xo,O X xa,O X xb,Y Ak nk ck,Y Aa na ca,Y Af nf cf] w4.heap.size (w4.heap.size+1) ⟨Ak,nk,ck,Aa,na,ca,Af,nf,cf⟩ ((⟨xo,xa,xb⟩:Nd),i8,xk) ⟨(some ⟨bq,oq,Z⟩),3,ek,Ca,pa,ea,Cf,pf,ef⟩ ((⟨ho,ha,hb⟩:Nd),h1,hk) KB kl kd L W5 wx g7 ⟨U,b2,a8,a6,b1,a9,a7,b3,b0⟩ ((⟨yo,ya,yb⟩:Nd),d2,yk)))
 case first =>
  go_wp2_with fail;have h5:W5.drew.heap.size=W5.heap.size:=rfl;refine wp_region_held_drew (S:=(fun w'=>ZY W5 w')) aC ?_ (fun D=>?_)
  . (try dsimp only);exact aU (XS _ _) 1
  have b7:Hid (ZY W5 W5.drew):=aB (aU (XS _ _) 1);generalize W5.drew=W1 at *;have g5:=aB h5;clear h5;refine aL 0 D ?_;refine tk 1 ?_ (fun wq hSw=>?_) D ?_;rotate_left
  . have f3:=(hSw.cell (p:=⟨w4.heap.size,3,Z⟩) h2).trans (zh 3);go_simp;try with_reducible rfl
  try simp only[p7]
  refine aL 2 D ?_;refine tk 3 ?_ (fun wq hSw=>?_) D ?_;rotate_left
  . have k0:=(hSw.cell (p:=⟨bq,oq+2*6,Z⟩) F).trans q0;have k1:=(hSw.cell (p:=⟨bq,oq+2*6+1,Z⟩) F).trans q1;have k2:=(hSw.cell (p:=⟨bq,oq+2*6+2,Z⟩) F).trans q2;have k3:=(hSw.cell (p:=⟨bq,oq+2*6+3,Z⟩) F).trans q3;have k4:=(hSw.cell (p:=⟨bq,oq+2*6+4,Z⟩) F).trans q4;have k5:=(hSw.cell (p:=⟨bq,oq+2*6+5,Z⟩) F).trans q5;go_simp;try with_reducible rfl
  try simp only[p7]
  refine aL 4 D ?_;refine tk 5 ?_ (fun wq hSw=>?_) D ?_;rotate_left
  . have f3:=(hSw.cell (p:=⟨w4.heap.size,3,Z⟩) h2).trans (zh 3);go_simp;try with_reducible rfl
  try simp only[p7]
  refine aL 6 D ?_;refine tk 7 ?_ (fun wq hSw=>?_) D ?_;rotate_left
  . have j0:=(hSw.cell (p:=⟨bq,oq+6,Z⟩) F).trans a0;have j1:=(hSw.cell (p:=⟨bq,oq+6+1,Z⟩) F).trans a1;have j2:=(hSw.cell (p:=⟨bq,oq+6+2,Z⟩) F).trans a2;have j3:=(hSw.cell (p:=⟨bq,oq+6+3,Z⟩) F).trans a3;have j4:=(hSw.cell (p:=⟨bq,oq+6+4,Z⟩) F).trans a4;have j5:=(hSw.cell (p:=⟨bq,oq+6+5,Z⟩) F).trans a5;go_simp;try with_reducible rfl
  try simp only[p7]
  refine wpAnyH_ready (rs:=[8,12]) aC aD ?_;refine AllReadyH.cons rfl (fun K hK=>?_) (AllReadyH.cons rfl (fun K hK=>?_) (AllReadyH.nil))
  . go_simp;go_at_call 80
    refine (c1.o _ b7.o).mono ?_;rintro e v1 ⟨b6,⟨U,b2,a8,a6,b1,a9,a7,b3,b0⟩,rfl,c3⟩;obtain⟨c4,e8⟩:=aAC b6 c3;have c0:=bY b7 b6;clear b6 c3;go_wp2_with fail;refine hK.o _ _ (by exact c0.o) fun D=>?_;clear hK K;try simp only[p7]
    refine aL 9 D ?_;refine aL 10 D ?_;refine aL 11 D ?_;have b8:=aB (aQ v1 (I #[O X 0,O X 0,O X 0,Y Z 0 0,Y Z 0 0,Y Z 0 0] 85));obtain⟨b9,HK⟩:=aAC (c0.o.trans (b8.o.mono c0.o.size)) (aT.new v1 85 #[O X 0,O X 0,O X 0,Y Z 0 0,Y Z 0 0,Y Z 0 0]);have e7:Hid ((v1.alloc (I #[O X 0,O X 0,O X 0,Y Z 0 0,Y Z 0 0,Y Z 0 0] 85)).heap.size=v1.heap.size+1):=aB aD;refine r1 12 fun K hK=>?_;go_simp;refine hK.o _ _ (by exact b9.o) fun D=>?_;clear hK K;try simp only[p7]
    generalize (v1.alloc (I #[O X 0,O X 0,O X 0,Y Z 0 0,Y Z 0 0,Y Z 0 0] 85))=va at *;have zg:=aT.cell HK.o;have k9:=aT.frozen HK.o;have HX:=aB (J9 (ty:=⟨U,b2,a8,a6,b1,a9,a7,b3,b0⟩) (y:=((⟨yo,ya,yb⟩:Nd),d2,yk)) HR.o e3.o b7.o g5.o c4.o b8.o e7.o HK.o e8.o);refine r1 13 fun K hK=>?_;go_simp;refine hK.o _ _ (by exact HX.o.be) fun D=>?_;clear hK K;try simp only[p7]
    refine aL 14 D ?_;refine wpAnyH_done aC ?_ _;go_wp2_with fail;go_meet;exact⟨v1.heap.size,U,a6,a7,b2,a8,b1,a9,b3,b0,rfl,rfl,HX⟩
  have b8:=aB (aQ W1 (I #[O X 0,O X 0,O X 0,Y Z 0 0,Y Z 0 0,Y Z 0 0] 85));obtain⟨b9,HK⟩:=aAC (b7.o.trans (b8.o.mono b7.o.size)) (aT.new W1 85 #[O X 0,O X 0,O X 0,Y Z 0 0,Y Z 0 0,Y Z 0 0]);have e7:Hid ((W1.alloc (I #[O X 0,O X 0,O X 0,Y Z 0 0,Y Z 0 0,Y Z 0 0] 85)).heap.size=W1.heap.size+1):=aB aD;go_simp;refine hK.o _ _ (by exact b9.o) fun D=>?_;clear hK K;try simp only[p7]
  generalize (W1.alloc (I #[O X 0,O X 0,O X 0,Y Z 0 0,Y Z 0 0,Y Z 0 0] 85))=va at *;refine r1 8 fun K hK=>?_;go_simp;go_at_call 80
  refine (c1.o _ b9.o).mono ?_;rintro e v1 ⟨b6,⟨U,b2,a8,a6,b1,a9,a7,b3,b0⟩,rfl,c3⟩;obtain⟨c4,e8⟩:=aAC b6 c3;have c0:=bY b9 b6;clear b6 c3;go_wp2_with fail;refine hK.o _ _ (by exact c0.o) fun D=>?_;clear hK K;try simp only[p7]
  refine aL 9 D ?_;refine aL 10 D ?_;refine aL 11 D ?_;have g0:=aB (HK.o.below c4.o HK.o.lt);have zg:=aT.cell g0.o;have k9:=aT.frozen g0.o;have HX:=aB (J8 (ty:=⟨U,b2,a8,a6,b1,a9,a7,b3,b0⟩) (y:=((⟨yo,ya,yb⟩:Nd),d2,yk)) HR.o e3.o b7.o g5.o b8.o e7.o HK.o c4.o e8.o);refine r1 13 fun K hK=>?_;go_simp;refine hK.o _ _ (by exact HX.o.be) fun D=>?_;clear hK K;try simp only[p7]
  refine aL 14 D ?_;refine wpAnyH_done aC ?_ _;go_wp2_with fail;go_meet;exact⟨W1.heap.size,U,a6,a7,b2,a8,b1,a9,b3,b0,rfl,rfl,HX⟩
 case rest =>
 obtain⟨g7,U,a6,a7,b2,a8,b1,a9,b3,b0,rfl,rfl,HX⟩:=hcut;clear q0 q1 q2 q3 q4 q5 a0 a1 a2 a3 a4 a5 c1 f8 f7 zh zn;have g1:=aB (gZ (HX.o.nn.lt HR.o) HX.o.tr HX.o.nn.kd aA);obtain⟨⟨⟨zo,za,zb⟩,k8,zk⟩,D⟩:∃z,z=dP ((⟨yo,ya,yb⟩:Nd),d2,yk) L:=⟨_,rfl⟩;rw[<-D]at g1 e4;clear D;have z7:=aT.cell HX.o.bk;have c5:=aB HX.o.nn;clear HX;go_wp2_with fail;refine (g1.o).mono ?_;rintro e w9 ⟨f1,⟨h8,i6,i1,h9,i4,i2,i0,i7,i3⟩,rfl,h6⟩;obtain⟨f6,j7,e5⟩:=aAF f1 h6 (c5.o.s.r.below f1 c5.o.s.r.lt);have zr:=aT.cell e5.o;have o2:=aT.frozen e5.o;clear f1 h6 z7;go_wp2_with fail;refine XW (v:=.tuple #[.agg #[O X zo,O X za,O X zb,Y h8 i6 i1,Y h9 i4 i2,Y i0 i7 i3],.bool true,O X ye]) ?_ rfl ?_
 . exact dZ (g:=w.heap.size+1+1) (cK e5.o _ _ _ _ _ _) aD
 exact kN (V0:=V0) (ty:=⟨h8,i6,i1,h9,i4,i2,i0,i7,i3⟩) (y:=((⟨zo,za,zb⟩:Nd),k8,zk)) HR.o j8.o c5.o f6.o (fun q hq=>gK (fun q h=>h) c5.o.s.sz f6.o.size hq) j7.o (PJ e4.o j9.o)
end
theorem sY{x:TT}(h:nF x)(D:x.1.op=12):x.1.a.toNat<(cG x.2.2).length/\(bC (cG x.2.2) x.1.a.toNat).a=dG x:=by
 obtain⟨G,_⟩:=VZ h D;obtain⟨_,_,U,o,_⟩:=fN h D;have F:x.1.a.toNat<(cG x.2.2).length:=aA;refine⟨F,?_⟩;unfold dG mX bC;rw[YD,YD,List.getElem?_map,YB F];rfl
section
open Go.Lib renaming hid->aB
theorem QJ{v:bR}{b:Bk}{w0:aAB}{cA:ZZ}{cn cc:Nat}{cv:aAA}{c5:Nat}{w:aAB}{R:Nat->Prop}{t:iA}{x:TT}(H:uE v b w0 cA cn cc cv c5 w R t x)(D:(bX x).1.1.op=12/\¬ (dG (bX x).1).toNat<(bX x).2.length):yL v b cA cn cc cv c5 w R t x:=by
 obtain⟨⟨xo,xa,xb⟩,d2,xk⟩:=x;obtain⟨Ak,nk,ck,Aa,na,ca,Af,nf,cf⟩:=t;obtain⟨d6,G,ha,hb,b2,hk,L,kl,V0,a7,d0,c6,f4,d3,b9,b8,e1,f0,a9,d4,HR,e4,e0,HX,e6,e5,e7,HT,e8,a8⟩:=kO H;rw[d0]at D;simp only at D a9 c6 a8;unfold yL;rw[a7];clear a7 d0 H;show Calls Tryz.prog 45 #[.agg #[O X b.vars,Y v.Ao v.no v.co,Y v.Ae v.ne v.ce,O X b.nat,Y v.Ap v.np v.cp],Y cA cn cc,.agg #[O X xo,O X xa,O X xb,Y Ak nk ck,Y Aa na ca,Y Af nf cf]] w _;go_in;go_upto_region 1 with fail
 clear c6;have d9:=aT.cell a9.o.x;go_wp2_with fail;refine (a8.o).mono ?_;rintro e w4 ⟨Ck,pk,ek,Ca,pa,ea,Cf,pf,ef,KB,kd,rfl,c0,b0,b1,a6,a5,a3,e2,b6,e9⟩;clear a8 a9 d9;have a4:Hid (DR w V0 R #[O X b.vars,Y v.Ao v.no v.co,Y v.Ae v.ne v.ce,O X b.nat,Y v.Ap v.np v.cp] #[O X xo,O X xa,O X xb,Y Ak nk ck,Y Aa na ca,Y Af nf cf] w4.heap.size (w4.heap.size+1) ⟨Ak,nk,ck,Aa,na,ca,Af,nf,cf⟩ ((⟨xo,xa,xb⟩:Nd),d2,xk) ⟨Ck,pk,ek,Ca,pa,ea,Cf,pf,ef⟩ ((⟨G,ha,hb⟩:Nd),b2,hk) KB kl kd L ((w4.alloc (I #[O X G,O X ha,O X hb,Y Ck pk ek,Y Ca pa ea,Y Cf pf ef] 85)).alloc (I #[O X G,O X ha,O X hb] 46))):=aB ⟨c0.o,b0.o,b1.o,a6.o,a5.o.keep fun q hq=>⟨Or.inl hq,fun _=>rfl⟩,a3.o⟩;have zh:=aT.cell b0.o;have zn:=aT.cell b1.o;clear c0 b0 b1 a6 a5 a3 b6;obtain⟨D,a1⟩:=D;have hF:=b8.o;obtain⟨c3,c4,c1,c2,_⟩:=fN hF.head.okt D;have b4:=mE hF.head.okt D;obtain⟨b5,U⟩:=sY hF.head.okt D;simp only at c3 c4 c1 c2 b4 b5 U;obtain⟨A,hA⟩:∃A:Nat,ha=(A:Int):=⟨ha.toNat,by omega⟩;subst hA;rw[YG]at b5 U;obtain⟨pz,a0⟩:∃z:Nat,dG ((⟨G,(A:Int),hb⟩:Nd),b2,hk)=(z:Int):=⟨(dG ((⟨G,(A:Int),hb⟩:Nd),b2,hk)).toNat,by omega⟩;rw[a0]at U b4;simp only[a0,YG]at a1;have a2:=a4.o;have c9:=a2.th.funs.len;simp only at c9;obtain⟨bf,of,b3,c7,c8⟩:=a2.th.funs.mem (by simp only;omega);obtain⟨_,q1,_⟩:=c8 A (by simp only;omega);rw[U]at q1;simp only at b3;have f3:(A:Int)<(pf:Int):=aA;have b7:=aB b3;have e3:=aB (a2.lt HR.o _ c7);have HN:Hid (d6=.no):=aB (by
  rw[b9.o];refine oT ?_ ?_
  . unfold bT;simp only;rw[XN aA,XN aA,XN aA,XN aA,XP D,a0,YG,XQ a1];simp
  unfold cQ;simp only;rw[XN aA,XP D,a0,YG,XN a1])
 have f5:kl<=pz:=by have:=d3.o;omega
 have d5:(G==5)=false:=by rw[XY];omega
 have d7:(G==7)=false:=by rw[XY];omega
 have d1:(G==1)=false:=by rw[XY];omega
 have d8:(G==8)=false:=by rw[XY];omega
 have f1:(G==11)=false:=by rw[XY];omega
 have f2:(G==12)=true:=by simp[D]
 obtain rfl:Cf=some ⟨bf,of,Z⟩:=b7.o;clear hF c3 c4 c1 c2 b4 b5 U a0 a2 c9 b3 c7 c8 D a1 b7;go_upto_region 33 with fail
 generalize ((w4.alloc (I #[O X G,O X (A:Int),O X hb,Y Ck pk ek,Y Ca pa ea,Y (some ⟨bf,of,Z⟩) pf ef] 85)).alloc (I #[O X G,O X (A:Int),O X hb] 46))=W5 at *;have F:=a4;have zx:=aT.cell F.o.s.x;have zr:=aT.cell F.o.s.r;have zf:=aT.frozen F.o.s.r;go_wp2_with fail;refine XW (v:=.tuple #[.agg #[O X xo,O X xa,O X xb,Y Ak nk ck,Y Aa na ca,Y Af nf cf],.bool false,O X 0]) ?_ rfl ?_
 . exact dZ (g:=w.heap.size+1+1) (cK F.o.s.r _ _ _ _ _ _) aD
 exact kN (V0:=V0) (ty:=⟨Ak,nk,ck,Aa,na,ca,Af,nf,cf⟩) (y:=((⟨xo,xa,xb⟩:Nd),d2,xk)) HR.o d4.o F.o (XS _ _) (fun q h=>h) F.o.tx (.inl ⟨HN.o,rfl,rfl⟩)
end
end Go.Proofs.YtjoddliplahgkaaGreat
