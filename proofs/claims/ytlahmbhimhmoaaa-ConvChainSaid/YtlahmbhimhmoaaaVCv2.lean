/- core's comparer: compare, by induction. -/
import Derived.Test.YtlahmbhimhmoaaaVCvR
import Derived.Test.YtlahmbhimhmoaaaVCvZ
namespace Go.Proofs.Ytlahmbhimhmoaaa
set_option linter.unusedVariables false
set_option linter.unusedSimpArgs false
open Go.RowKit
open Go.Lib renaming hid->aB
variable {b:Bk}{cv:OD}{g:Nat}{w0:OE}{v:bA}
theorem lW.fuel{w:OE}{cA:OC}{cn cc:Nat}{f:Nat}(h:lW w0 g v b cA cn cc cv f w)(k:Nat):lW w0 g v b cA cn cc cv k (w.setCell ⟨g,6,none⟩ (.int .i64 (k:Int)))/\aS (fun q=>q=g) none w (w.setCell ⟨g,6,none⟩ (.int .i64 (k:Int))):=by
 have D:aS (fun q=>q=g) none w (w.setCell ⟨g,6,none⟩ (.int .i64 (k:Int))):=aS.setCell (S:=fun q=>q=g) (aS.of_below (MC _ _)) (p:=⟨g,6,none⟩) rfl _;exact⟨h.moved D (by simpa using h.blk.set_ 6 (.int .i64 (k:Int))),D⟩
theorem lW.fault{w:OE}{cA:OC}{cn cc:Nat}{f:Nat}(h:lW w0 g v b cA cn cc cv f w)(z:Int):zF g v b cA cn cc (.bad z) w (.returned (.bool false)) (w.setCell ⟨g,7,none⟩ (.int .i64 z)) :=
 ⟨aS.setCell (S:=fun q=>q=g) (aS.of_below (MC _ _)) (p:=⟨g,7,none⟩) rfl _,.inl ⟨z,(f:Int),rfl,rfl,by simpa using h.blk.set_ 7 (.int .i64 z)⟩⟩
theorem a6.mov{w w':OE}{A:OC}{n c:Nat}{l:List Nd}(h:a6 (fun q=>q<w.heap.size/\q≠g) w A n c l)(F:aS (fun q=>q=g) none w w'):a6 (fun q=>q<w'.heap.size/\q≠g) w' A n c l :=
 h.keep fun q D=>⟨⟨MD D.1 F.size,D.2⟩,fun o=>aP (F.block q D.1 D.2 aD) o⟩
theorem uB:∀(L:List TT),L.length<=cF L
 | []=>by simp[cF]
 | x::r=>by
  have:=uB r;simp only[cF,MN];omega
theorem LJ{f:Fc}(D:bX b cv f=false):f.1.1.op≠7:=fun h=>by
 unfold bX at D;rw[aN aA,LZ (.inl h)]at D;cases D
theorem FW{x:TT}{k:Nat}:(∃z,DD b cv x k=.bad z/\kS b cv k (cV x) 4096=.bad z)\/∃D j,DD b cv x k=.done (aT (eR D)) j/\kS b cv k (cV x) 4096=.done D j:=by
 unfold DD zD;cases h:kS b cv k (cV x) 4096 with
 | bad z=>exact .inl ⟨z,rfl,rfl⟩
 | done D j=>exact .inr ⟨D,j,rfl,rfl⟩
set_option maxRecDepth 100000 in
set_option maxHeartbeats 4000000 in
theorem BH(hr:bD b=0)(hb:bO w0 v b){a3:Nat}(H:GB w0 g v b a3):GB w0 g v b (a3+1):=by
 intro w cA cn cc cv f u A n c x B m d y hw ht hu a0 a4 hf q7;have hc:=a0.1;have d7:(cv.length:Int)<=990000:=by have:=hc.few;omega
 have o7:cn<=990000:=by have:=hw.ctx.len;omega
 have e5:=hw.ctx.len;have h0:cn=cv.length:=e5.symm;have q8:=hw.lt;obtain⟨HW,HT,HU,o3,o4,HH,HR,f7⟩:=OH hw ht hu a0 a4 H hr hb;have i7:=aB h0;have zc:=aW.cell hw.blk;have zf:=aW.frozen hw.blk;by_cases l2:f=0
 . subst l2;clear hw ht hu a0 a4 H hr hb h0 e5 hc d7;go_in;go_wp2_with fail;go_ret;simp only[dJ];exact HW.o.fault 10
 obtain⟨k,rfl⟩:∃k,f=k+1:=⟨f-1,by omega⟩;obtain⟨fi,l3⟩:=OM ((k+1:Nat):Int);unfold wO at zc;rw[<-l3]at zc;have d0:(fi==0)=false:=by rw[MM];omega
 have o8:0<fi/\fi<=100000:=aA;obtain⟨p9,q0⟩:=o8;have l4:fi-1=(k:Int):=aA;have n8:=aB l4;obtain⟨a7,D⟩:=OM (dJ b (a3+1) cv u (k+1) x y);rw[<-D];simp only[dJ]at D;have F:=aB D;clear D l3 l4 hw ht hu a0 a4 H hr hb h0 e5 l2;go_in;go_upto_region 5 with fail
 rw[n8.o];obtain⟨f5,f6⟩:=HW.o.fuel k;obtain⟨i4,f1⟩:=OF f5 f6;clear f5 f6;generalize hW1:w.setCell ⟨g,6,none⟩ (.int .i64 (k:Int))=W1 at *;obtain⟨g5,g6⟩:=OF (HT.o.mov f1.o) (HU.o.mov f1.o);have i8:=aB (GS W1 (g5.o.keep fun q Z=>⟨Z.1,fun _=>rfl⟩:aX W1 _ _ _ _) (g6.o.keep fun q Z=>⟨Z.1,fun _=>rfl⟩:aX W1 _ _ _ _));clear hW1 zc zf;go_wp2_with fail;refine (i8.o).mono ?_;rintro e w2 ⟨rfl,c7⟩;obtain⟨a9,f2,o5,o6⟩:=OI (i4.o.below c7) (aY f1.o (aS.of_below c7)) (g5.o.mov (aS.of_below c7)) (g6.o.mov (aS.of_below c7));clear c7 i8 g5 g6 i4 f1;by_cases he:aT x=aT y
 . have d1:decide (aT x=aT y)=true:=MB he;have U:Hid (a7=.done true k):=aB (by rw[F.o,LZ he]);clear he;go_wp2_with fail;go_ret;rw[U.o];exact (a9.o.stays (MC _ _) true).base f2.o
 have d1:decide (aT x=aT y)=false:=MA he;have D:=F.o;rw[aN he]at D;have zc:=aW.cell a9.o.blk;have zf:=aW.frozen a9.o.blk;clear he F;by_cases hl:256<cn
 . have e1:decide ((256:Int)<(cn:Int))=true:=MB aA;have U:Hid (a7=.bad 5):=aB (by rw[D,LZ (by have:=i7.o;omega)]);clear D hc d7 hl;go_wp2_with fail;go_ret;rw[U.o];exact (a9.o.fault 5).base f2.o
 have e1:decide ((256:Int)<(cn:Int))=false:=MA aA;rw[aN (by have:=i7.o;omega)]at D;have F:=aB D;have a0:=o3.o.mono (Nat.le_succ k);have a4:=o4.o.mono (Nat.le_succ k);have b9:=aB (uJ HR.o f7.o hc aA a9.o o5.o a0.2.1);clear D hl;rcases FW (b:=b) (cv:=cv) (x:=x) (k:=k) with⟨z,s,Y⟩|⟨fx,k1,s,Y⟩
 . have U:Hid (a7=.bad z):=aB (by rw[F.o,Y]);rw[s]at b9;clear s Y a0 a4 hc d7;go_wp2_with fail;refine (b9.o).mono ?_;rintro e w3 ⟨b1,h3⟩;rcases h3 with⟨z',I,rfl,e3⟩|⟨_,_,_,_,_,I,_⟩;rotate_left
   . cases I
   injection I with I;subst I;obtain⟨f3,n9⟩:=OF (aY f2.o b1) e3;clear b1 e3 zc zf;go_wp2_with fail;go_ret;exact⟨f3.o,.inl ⟨z,0,U.o,rfl,n9.o⟩⟩
 obtain⟨q1,q2,q3,q4,q5,_⟩:=iD HR.o hc a0.2.1 a0.2.2 Y;have D:=F.o;rw[Y]at D;simp only at D;have F:=aB D;rw[s]at b9;have b0:=q1.fit q2;obtain⟨i9,b7,o2,g4,b8⟩:=OG b0 q1 q2 q4 q5;have a5:=a4.mono q3;clear s Y a0 D;go_wp2_with fail;refine (b9.o).mono ?_;rintro e w3 ⟨b1,h3⟩;rcases h3 with⟨_,I,_⟩|⟨l,j,A3,n3,c3,I,rfl,m3,e3⟩
 . cases I
 injection I with I hj;subst I hj;have f9:=aB (a9.o.moved b1 e3);have f3:=aB (aY f2.o b1);have j9:=aB (o6.o.mov b1);have o9:g<w2.heap.size:=a9.o.lt;have k0:Hid (a6 (fun q=>q<w3.heap.size/\q≠g) w3 A3 n3 c3 (aT (eR fx))):=aB ((gH m3 (by have h1:(aT (eR fx)).length=bZ (eR fx):=rfl;have h2:=i9.o.few;omega)).keep fun q Z=>⟨⟨Z.2,by have:=Z.1;omega⟩,fun _=>rfl⟩);have c0:=aB (uJ HR.o f7.o hc aA f9.o j9.o a5.2.1);clear b1 m3 e3 b9 zc zf o9;go_upto_region 13 with fail
 rcases FW (b:=b) (cv:=cv) (x:=y) (k:=k1) with⟨z,s,Y⟩|⟨fy,k2,s,Y⟩
 . have U:Hid (a7=.bad z):=aB (by rw[F.o,Y]);rw[s]at c0;clear s Y a4 a5 hc d7 b0 q1 q2 q3 q4 q5;go_wp2_with fail;refine (c0.o).mono ?_;rintro e w4 ⟨b2,h4⟩;rcases h4 with⟨z',I,rfl,e4⟩|⟨_,_,_,_,_,I,_⟩;rotate_left
   . cases I
   injection I with I;subst I;obtain⟨g2,o0⟩:=OF (aY f3.o b2) e4;clear b2 e4;go_wp2_with fail;go_ret;exact⟨g2.o,.inl ⟨z,0,U.o,rfl,o0.o⟩⟩
 obtain⟨p1,p2,p3,p4,p5,_⟩:=iD HR.o hc a5.2.1 a5.2.2 Y;have D:=F.o;rw[Y]at D;simp only at D;have F:=aB D;rw[s]at c0;have e2:=p1.fit p2;obtain⟨j0,b6,q6,j3,g3,b8⟩:=OJ e2 p1 p2 p4 p5 (b8.o.mono p3);have q9:k2<=k:=MO p3 q3;clear s Y a4 a5 D b0 e2 q1 q2 q3 q4 q5 p1 p2 p3 p4 p5;go_wp2_with fail;refine (c0.o).mono ?_;rintro e w4 ⟨b2,h4⟩;rcases h4 with⟨_,I,_⟩|⟨l,j,A4,n4,c4,I,rfl,m4,e4⟩
 . cases I
 injection I with I hj;subst I hj;have i5:=aB (f9.o.moved b2 e4);have g2:=aB (aY f3.o b2);have k4:=aB (k0.o.mov b2);have p0:g<w3.heap.size:=f9.o.lt;have k7:Hid (a6 (fun q=>q<w4.heap.size/\q≠g) w4 A4 n4 c4 (aT (eR fy))):=aB ((gH m4 (by have h1:(aT (eR fy)).length=bZ (eR fy):=rfl;have h2:=j0.o.few;omega)).keep fun q Z=>⟨⟨Z.2,by have:=Z.1;omega⟩,fun _=>rfl⟩);clear b2 m4 e4 c0 p0 k0 j9;go_upto_region 16 with fail
 have h9:=mW (k4.o.keep fun q Z=>⟨Z.1,fun _=>rfl⟩:aX w4 _ _ _ _);rw[mX i9.o,vA b7.o.ne]at h9;have j6:=aB h9;clear h9;go_wp2_with fail;refine (j6.o).mono ?_;rintro e w5 ⟨c8,A5,n5,c5,B5,m5,d5,r0,rfl,g8,m7,h5⟩;simp only at g8 h5;have p6:g<w4.heap.size:=i5.o.lt;have p8:=c8.size;have n0:=aB (i5.o.below c8);have o1:=aB (aY g2.o (aS.of_below c8));have k8:=aB (k7.o.mov (aS.of_below c8));have k5:Hid (a6 (fun q=>q<w5.heap.size/\q≠g) w5 A5 n5 c5 (aT fx.1)):=aB (g8.keep fun q Z=>⟨⟨Z.2.1,by have:=Z.1;omega⟩,fun _=>rfl⟩);have j1:=aB (tY.of_own (g:=g) (L:=fx.2) aA m7 h5);clear c8 g8 m7 h5 j6 k7 k4;have i0:=mW (k8.o.keep fun q Z=>⟨Z.1,fun _=>rfl⟩:aX w5 _ _ _ _);rw[mX j0.o,vA b6.o.ne]at i0;have j7:=aB i0;clear i0;go_upto_region 17 with fail
 go_wp2_with fail;refine (j7.o).mono ?_;rintro e w6 ⟨c9,A6,n6,c6,B6,m6,d6,r3,rfl,g9,m8,h6⟩;simp only at g9 h6;have e9:=aB (n0.o.below c9);have f4:=aB (aY o1.o (aS.of_below c9));have c1:=aB (k5.o.mov (aS.of_below c9));have f0:=aB (j1.o.moved (aS.of_below c9));have c2:Hid (a6 (fun q=>q<w6.heap.size/\q≠g) w6 A6 n6 c6 (aT fy.1)):=aB (g9.keep fun q Z=>⟨⟨Z.2.1,by have:=Z.1;omega⟩,fun _=>rfl⟩);have g1:=aB (tY.of_own (g:=g) (L:=fy.2) aA m8 h6);clear c9 g9 m8 h6 j7 k8 k5 j1 p6 p8;have m1:0<n5:=by rw[<-c1.o.len];exact eJ _
 have l7:0<n6:=by rw[<-c2.o.len];exact eJ _
 have k6:=aB c1.o;have k9:=aB c2.o;obtain⟨bf,off,rfl,l0,l8⟩:=c1.o.mem m1;obtain⟨bg,i2,rfl,l1,m0⟩:=c2.o.mem l7;obtain⟨d4,_,_⟩:=l8 0 (by rw[c1.o.len];exact m1);obtain⟨e0,_,_⟩:=m0 0 (by rw[c2.o.len];exact l7);simp only[NE,MQ]at d4 e0;rw[show bB (aT fx.1) 0=fx.1.1 from rfl]at d4;rw[show bB (aT fy.1) 0=fy.1.1 from rfl]at e0;obtain⟨so,h8⟩:=OM fx.1.1.op;obtain⟨tp,i1⟩:=OM fy.1.1.op;rw[<-h8]at d4;rw[<-i1]at e0;have j4:=aB h8;have j8:=aB i1;have f8:=aB d4;have g0:=aB e0;have b4:=aB l0;have b5:=aB l1;clear l8 m0 h8 i1 d4 e0 l0 l1 k6 k9;go_upto_region 18 with fail
 by_cases b3:so=tp;rotate_left
 . have d2:(so != tp)=true:=by simpa using b3
   have U:Hid (a7=.done false k2):=aB (by
    rw[F.o];unfold zO;rw[aN];rintro⟨h1,_⟩;exact b3 (j4.o.trans (h1.trans j8.o.symm)))
   clear b3;refine wp_region_held_drew (S:=(fun w'=>aS (fun q=>q=g) none w6 w')) aC ?_ (fun G=>?_)
   . (try dsimp only);exact aS.of_below (aU (MC _ _) 1)
   have a8:Hid (OB w6 w6.drew):=aB (aU (MC _ _) 1);generalize w6.drew=W7 at *;refine wpAnyH_take (i:=0) (v:=?_) rfl aC aC aC (fun _ _ _ h=>h) (Or.inl ⟨by rfl,fun O hSw=>?_⟩) G ?_;rotate_left
   . (go_simp;try with_reducible rfl)
   try simp only[p7]
   refine wpAnyH_take (i:=1) (v:=?_) rfl aC aC aC (fun _ _ _ h=>h) (Or.inl ⟨by rfl,fun O hSw=>?_⟩) G ?_;rotate_left
   . (go_simp;try with_reducible rfl)
   try simp only[p7]
   refine wpAnyH_take (i:=2) (v:=?_) rfl aC aC aC (fun _ _ _ h=>h) (Or.inl ⟨by rfl,fun O hSw=>?_⟩) G ?_;rotate_left
   . (go_simp;try with_reducible rfl)
   try simp only[p7]
   refine tk 3 ?_ (fun O hSw=>?_) G ?_;rotate_left
   . have z0:=(aP (hSw.block bf b4.o.1 b4.o.2 aD) (off)).trans f8.o;go_simp;try with_reducible rfl
   try simp only[p7]
   refine wpAnyH_take (i:=4) (v:=?_) rfl aC aC aC (fun _ _ _ h=>h) (Or.inl ⟨by rfl,fun O hSw=>?_⟩) G ?_;rotate_left
   . (go_simp;try with_reducible rfl)
   try simp only[p7]
   refine wpAnyH_take (i:=5) (v:=?_) rfl aC aC aC (fun _ _ _ h=>h) (Or.inl ⟨by rfl,fun O hSw=>?_⟩) G ?_;rotate_left
   . (go_simp;try with_reducible rfl)
   try simp only[p7]
   refine wpAnyH_take (i:=6) (v:=?_) rfl aC aC aC (fun _ _ _ h=>h) (Or.inl ⟨by rfl,fun O hSw=>?_⟩) G ?_;rotate_left
   . (go_simp;try with_reducible rfl)
   try simp only[p7]
   refine tk 7 ?_ (fun O hSw=>?_) G ?_;rotate_left
   . have z0:=(aP (hSw.block bg b5.o.1 b5.o.2 aD) (i2)).trans g0.o;go_simp;try with_reducible rfl
   try simp only[p7]
   refine wpAnyH_take (i:=8) (v:=?_) rfl aC aC aC (fun _ _ _ h=>h) (Or.inl ⟨by rfl,fun O hSw=>?_⟩) G ?_;rotate_left
   . (go_simp;try with_reducible rfl)
   try simp only[p7]
   refine wpAnyH_take (i:=9) (v:=?_) rfl aC aC aC (fun _ _ _ h=>h) (Or.inl ⟨by rfl,fun O hSw=>?_⟩) G ?_;rotate_left
   . (go_simp;try with_reducible rfl)
   try simp only[p7]
   refine aM 10 G ?_;refine aM 11 G ?_;refine aM 12 G ?_;refine aM 13 G ?_;refine aM 14 G ?_;refine wpAnyH_take (i:=15) (v:=?_) rfl aC aC aC (fun _ _ _ h=>h) (Or.inl ⟨by rfl,fun O hSw=>?_⟩) G ?_;rotate_left
   . (go_simp;try with_reducible rfl)
   try simp only[p7]
   refine wpAnyH_done aC ?_ _;go_wp2_with fail;go_ret;rw[U.o];exact (e9.o.stays a8.o false).base f4.o
 have d2:(so != tp)=false:=by simpa using b3
 by_cases e6:m5=m6;rotate_left
 . have d3:((m5:Int) != (m6:Int))=true:=by simp;omega
   have U:Hid (a7=.done false k2):=aB (by
    rw[F.o];unfold zO;rw[aN];rintro⟨_,h1,_⟩;exact e6 (by rw[<-f0.o.len,<-g1.o.len,h1]))
   clear b3 e6;refine wp_region_held_drew (S:=(fun w'=>aS (fun q=>q=g) none w6 w')) aC ?_ (fun G=>?_)
   . (try dsimp only);exact aS.of_below (aU (MC _ _) 1)
   have a8:Hid (OB w6 w6.drew):=aB (aU (MC _ _) 1);generalize w6.drew=W7 at *;refine wpAnyH_take (i:=0) (v:=?_) rfl aC aC aC (fun _ _ _ h=>h) (Or.inl ⟨by rfl,fun O hSw=>?_⟩) G ?_;rotate_left
   . (go_simp;try with_reducible rfl)
   try simp only[p7]
   refine wpAnyH_take (i:=1) (v:=?_) rfl aC aC aC (fun _ _ _ h=>h) (Or.inl ⟨by rfl,fun O hSw=>?_⟩) G ?_;rotate_left
   . (go_simp;try with_reducible rfl)
   try simp only[p7]
   refine wpAnyH_take (i:=2) (v:=?_) rfl aC aC aC (fun _ _ _ h=>h) (Or.inl ⟨by rfl,fun O hSw=>?_⟩) G ?_;rotate_left
   . (go_simp;try with_reducible rfl)
   try simp only[p7]
   refine tk 3 ?_ (fun O hSw=>?_) G ?_;rotate_left
   . have z0:=(aP (hSw.block bf b4.o.1 b4.o.2 aD) (off)).trans f8.o;go_simp;try with_reducible rfl
   try simp only[p7]
   refine wpAnyH_take (i:=4) (v:=?_) rfl aC aC aC (fun _ _ _ h=>h) (Or.inl ⟨by rfl,fun O hSw=>?_⟩) G ?_;rotate_left
   . (go_simp;try with_reducible rfl)
   try simp only[p7]
   refine wpAnyH_take (i:=5) (v:=?_) rfl aC aC aC (fun _ _ _ h=>h) (Or.inl ⟨by rfl,fun O hSw=>?_⟩) G ?_;rotate_left
   . (go_simp;try with_reducible rfl)
   try simp only[p7]
   refine wpAnyH_take (i:=6) (v:=?_) rfl aC aC aC (fun _ _ _ h=>h) (Or.inl ⟨by rfl,fun O hSw=>?_⟩) G ?_;rotate_left
   . (go_simp;try with_reducible rfl)
   try simp only[p7]
   refine tk 7 ?_ (fun O hSw=>?_) G ?_;rotate_left
   . have z0:=(aP (hSw.block bg b5.o.1 b5.o.2 aD) (i2)).trans g0.o;go_simp;try with_reducible rfl
   try simp only[p7]
   refine wpAnyH_take (i:=8) (v:=?_) rfl aC aC aC (fun _ _ _ h=>h) (Or.inl ⟨by rfl,fun O hSw=>?_⟩) G ?_;rotate_left
   . (go_simp;try with_reducible rfl)
   try simp only[p7]
   refine wpAnyH_take (i:=9) (v:=?_) rfl aC aC aC (fun _ _ _ h=>h) (Or.inl ⟨by rfl,fun O hSw=>?_⟩) G ?_;rotate_left
   . (go_simp;try with_reducible rfl)
   try simp only[p7]
   refine wpAnyH_take (i:=10) (v:=?_) rfl aC aC aC (fun _ _ _ h=>h) (Or.inl ⟨by rfl,fun O hSw=>?_⟩) G ?_;rotate_left
   . (go_simp;try with_reducible rfl)
   try simp only[p7]
   refine wpAnyH_take (i:=11) (v:=?_) rfl aC aC aC (fun _ _ _ h=>h) (Or.inl ⟨by rfl,fun O hSw=>?_⟩) G ?_;rotate_left
   . (go_simp;try with_reducible rfl)
   try simp only[p7]
   refine wpAnyH_take (i:=12) (v:=?_) rfl aC aC aC (fun _ _ _ h=>h) (Or.inl ⟨by rfl,fun O hSw=>?_⟩) G ?_;rotate_left
   . (go_simp;try with_reducible rfl)
   try simp only[p7]
   refine wpAnyH_take (i:=13) (v:=?_) rfl aC aC aC (fun _ _ _ h=>h) (Or.inl ⟨by rfl,fun O hSw=>?_⟩) G ?_;rotate_left
   . (go_simp;try with_reducible rfl)
   try simp only[p7]
   refine wpAnyH_take (i:=14) (v:=?_) rfl aC aC aC (fun _ _ _ h=>h) (Or.inl ⟨by rfl,fun O hSw=>?_⟩) G ?_;rotate_left
   . (go_simp;try with_reducible rfl)
   try simp only[p7]
   refine wpAnyH_take (i:=15) (v:=?_) rfl aC aC aC (fun _ _ _ h=>h) (Or.inl ⟨by rfl,fun O hSw=>?_⟩) G ?_;rotate_left
   . (go_simp;try with_reducible rfl)
   try simp only[p7]
   refine wpAnyH_done aC ?_ _;go_wp2_with fail;go_ret;rw[U.o];exact (e9.o.stays a8.o false).base f4.o
 have d3:((m5:Int) != (m6:Int))=false:=by simp;omega
 have e7:fx.1.1.op=fy.1.1.op:=by rw[<-j4.o,<-j8.o,b3]
 have l6:fx.2.length=fy.2.length:=by rw[f0.o.len,g1.o.len,e6]
 have D:=F.o;rw[GK e7 l6]at D;have F:=aB D;have n2:=aB (fun (W:OE) (hB:OB w6 W)=>xG HR.o f7.o HH.o (e9.o.below hB) aA aA o7 (c1.o.mov (aS.of_below hB)) (c2.o.mov (aS.of_below hB)) b7.o.head b6.o.head (LJ g4.o) e7 u (fun Z q a a' ha g7=>j5 hc b7.o b6.o g4.o j3.o b8.o g3.o e7 Z (.inl ⟨q,rfl,ha,g7⟩)));have m9:=aB (fun (W:OE) (l:Nat) (hl:l<=k2) (hM:aS (fun q=>q=g) none w6 W) (hB:aW W g 60 (wO v b cA cn cc (l:Int) 0))=>uE (c:=d5) (d:=d6) HR.o HH.o (e9.o.moved hM hB) aA aA (f0.o.moved hM) (g1.o.moved hM) e6 (by have h1:=uB fx.2;have h2:=o2.o;have h3:cJ fx=bZ fx.1+cF fx.2:=rfl;have h4:=f0.o.len;omega) (fun a ha=>by
  obtain⟨i,hi,rfl⟩:=NZ ha;exact (zL hc b7.o b8.o (MI hi)).1.mono hl) (fun a ha=>by
  obtain⟨i,hi,rfl⟩:=NZ ha;exact (zL hc b6.o g3.o (MI hi)).1.mono hl))
 have n7:Hid (∀l,l9 (dJ b a3) b cv u fx.1 fy.1 k2=.done true l->l<=k2):=aB (fun l hl=>by
  unfold l9 at hl;split at hl
  . rename_i Z
    refine (sS (cm':=dJ b a3) (J:=0) _ _ _ _ _ _ hl (fun q a a' i ha g7 hi z l' hh=>?_)).1;obtain⟨a1,a2⟩:=j5 hc b7.o b6.o g4.o j3.o b8.o g3.o e7 Z (.inl ⟨q,rfl,ha,g7⟩);rw[ML]at hh ⊢;obtain⟨r1,r2⟩:=jE HR.o a3 _ _ _ _ _ (a1.mono hi) (a2.mono hi) _ _ hh;refine⟨Nat.le_of_lt r1,fun j hj=>?_⟩;obtain rfl:j=0:=aA;exact r2 a3 0 (a1.mono (NH _)) (a2.mono (NH _)) aA
  injection hl with hl;cases hl)
 generalize l9 (dJ b a3) b cv u fx.1 fy.1 k2=hd at *;subst b3;subst e6;clear e7 l6 D hc d7;refine wp_region_held_drew (S:=(fun w'=>aS (fun q=>q=g) none w6 w')) aC ?_ (fun G=>?_)
 . (try dsimp only);exact aS.of_below (aU (MC _ _) 1)
 have a8:Hid (OB w6 w6.drew):=aB (aU (MC _ _) 1);generalize w6.drew=W7 at *;refine wpAnyH_take (i:=0) (v:=?_) rfl aC aC aC (fun _ _ _ h=>h) (Or.inl ⟨by rfl,fun O hSw=>?_⟩) G ?_;rotate_left
 . (go_simp;try with_reducible rfl)
 try simp only[p7]
 refine wpAnyH_take (i:=1) (v:=?_) rfl aC aC aC (fun _ _ _ h=>h) (Or.inl ⟨by rfl,fun O hSw=>?_⟩) G ?_;rotate_left
 . (go_simp;try with_reducible rfl)
 try simp only[p7]
 refine wpAnyH_take (i:=2) (v:=?_) rfl aC aC aC (fun _ _ _ h=>h) (Or.inl ⟨by rfl,fun O hSw=>?_⟩) G ?_;rotate_left
 . (go_simp;try with_reducible rfl)
 try simp only[p7]
 refine tk 3 ?_ (fun O hSw=>?_) G ?_;rotate_left
 . have z0:=(aP (hSw.block bf b4.o.1 b4.o.2 aD) (off)).trans f8.o;go_simp;try with_reducible rfl
 try simp only[p7]
 refine wpAnyH_take (i:=4) (v:=?_) rfl aC aC aC (fun _ _ _ h=>h) (Or.inl ⟨by rfl,fun O hSw=>?_⟩) G ?_;rotate_left
 . (go_simp;try with_reducible rfl)
 try simp only[p7]
 refine wpAnyH_take (i:=5) (v:=?_) rfl aC aC aC (fun _ _ _ h=>h) (Or.inl ⟨by rfl,fun O hSw=>?_⟩) G ?_;rotate_left
 . (go_simp;try with_reducible rfl)
 try simp only[p7]
 refine wpAnyH_take (i:=6) (v:=?_) rfl aC aC aC (fun _ _ _ h=>h) (Or.inl ⟨by rfl,fun O hSw=>?_⟩) G ?_;rotate_left
 . (go_simp;try with_reducible rfl)
 try simp only[p7]
 refine tk 7 ?_ (fun O hSw=>?_) G ?_;rotate_left
 . have z0:=(aP (hSw.block bg b5.o.1 b5.o.2 aD) (i2)).trans g0.o;go_simp;try with_reducible rfl
 try simp only[p7]
 refine wpAnyH_take (i:=8) (v:=?_) rfl aC aC aC (fun _ _ _ h=>h) (Or.inl ⟨by rfl,fun O hSw=>?_⟩) G ?_;rotate_left
 . (go_simp;try with_reducible rfl)
 try simp only[p7]
 refine wpAnyH_take (i:=9) (v:=?_) rfl aC aC aC (fun _ _ _ h=>h) (Or.inl ⟨by rfl,fun O hSw=>?_⟩) G ?_;rotate_left
 . (go_simp;try with_reducible rfl)
 try simp only[p7]
 refine wpAnyH_take (i:=10) (v:=?_) rfl aC aC aC (fun _ _ _ h=>h) (Or.inl ⟨by rfl,fun O hSw=>?_⟩) G ?_;rotate_left
 . (go_simp;try with_reducible rfl)
 try simp only[p7]
 refine wpAnyH_take (i:=11) (v:=?_) rfl aC aC aC (fun _ _ _ h=>h) (Or.inl ⟨by rfl,fun O hSw=>?_⟩) G ?_;rotate_left
 . (go_simp;try with_reducible rfl)
 try simp only[p7]
 refine wpAnyH_take (i:=12) (v:=?_) rfl aC aC aC (fun _ _ _ h=>h) (Or.inl ⟨by rfl,fun O hSw=>?_⟩) G ?_;rotate_left
 . (go_simp;try with_reducible rfl)
 try simp only[p7]
 refine wpAnyH_take (i:=13) (v:=?_) rfl aC aC aC (fun _ _ _ h=>h) (Or.inl ⟨by rfl,fun O hSw=>?_⟩) G ?_;rotate_left
 . (go_simp;try with_reducible rfl)
 try simp only[p7]
 refine wpAnyH_take (i:=14) (v:=?_) rfl aC aC aC (fun _ _ _ h=>h) (Or.inl ⟨by rfl,fun O hSw=>?_⟩) G ?_;rotate_left
 . (go_simp;try with_reducible rfl)
 try simp only[p7]
 refine wpAnyH_take (i:=15) (v:=?_) rfl aC aC aC (fun _ _ _ h=>h) (Or.inl ⟨by rfl,fun O hSw=>?_⟩) G ?_;rotate_left
 . (go_simp;try with_reducible rfl)
 try simp only[p7]
 refine wpAnyH_done aC ?_ _;go_wp2_with fail;refine (n2.o W7 a8.o).mono ?_;rintro e w8 d8;obtain⟨n1,j2⟩:=OF d8 (aY (aS.of_below a8.o) d8.1);rcases d8.two with⟨rfl,m2⟩|⟨k3,rfl,h7,l5⟩
 . have U:Hid (a7=hd):=aB (by rw[F.o,qD m2]);clear d8 m2;go_wp2_with fail;go_ret;rw[U.o];exact n1.o.base (aY f4.o (aS.of_below a8.o))
 have h3:=n7.o k3 h7;have i3:=aB (m9.o w8 k3 h3 j2.o l5);have e8:=F.o;rw[h7]at e8
 replace e8:a7=gD (dJ b a3) (fun _=>cv) (fun _=>false) 0 fx.2 fy.2 k3:=e8
 rw[<-e8]at i3;clear d8 l5 h7 e8 h3;go_wp2_with fail;refine (i3.o).mono ?_;rintro e w9 d9;have i6:=aB d9;obtain⟨is,rfl⟩:=d9.bool;clear d9;go_wp2_with fail;go_ret;exact i6.o.base (aY f4.o j2.o)
theorem uF{w0:OE}{g:Nat}{v:bA}{b:Bk}(G:bD b=0)(F:bO w0 v b):∀D,GB w0 g v b D
 | 0=>fun _ _ _ _ _ _ _ _ _ _ _ _ _ _ _ _ _ _ _ _ I _=>absurd I (Nat.not_lt_zero _)
 | D+1=>BH G F (uF G F D)
end Go.Proofs.Ytlahmbhimhmoaaa
