/- core's comparer: heads. -/
import Derived.Test.YtlahmbhimhmoaaaVCvJ
namespace Go.Proofs.Ytlahmbhimhmoaaa
set_option linter.unusedVariables false
set_option linter.unusedSimpArgs false
open Go.RowKit
open Option renaming none → O
open Go.Lib renaming hid->aB
variable {b:Bk}{n:Nat}{w:OE}
def l9(D:List (List Nd)->Bool->Nat->TT->TT->lV)(b:Bk)(cv:OD)(u:Bool)(x y:TT)(n:Nat):lV :=
 if cD b u x y=true then gD D (cL cv x.1) (fun i=>u&&decide (x.1.op=4)&&decide (i=1)) 0 (a9 x.2.2) (a9 y.2.2) n else .done false n
theorem GK{D:List (List Nd)->Bool->Nat->TT->TT->lV}{cv:OD}{u:Bool}{f k:Fc}(G:f.1.1.op=k.1.1.op)(F:f.2.length=k.2.length):zO D b cv u f k n=I4 (l9 D b cv u f.1 k.1 n) (gD D (fun _=>cv) (fun _=>false) 0 f.2 k.2):=by
 unfold zO l9;by_cases h:cD b u f.1 k.1=true
 . rw[LZ ⟨G,F,h⟩,LZ h];unfold I4;cases gD D (cL cv f.1.1) (fun i=>u&&decide (f.1.1.op=4)&&decide (i=1)) 0 (a9 f.1.2.2) (a9 k.1.2.2) n with
   | bad e=>rfl
   | done I m=>cases I<;>rfl
 rw[aN (fun e=>h e.2.2),aN h];rfl
theorem DY{D:List (List Nd)->Bool->Nat->TT->TT->lV}{cv:OD}{u:Bool}{x y F G I U:TT}(h:x.1.op=4\/x.1.op=5)(Z:a9 x.2.2=[F,G])(o:a9 y.2.2=[I,U]):l9 D b cv u x y n=I4 (D cv false n F I) (fun l=>D (cv++List.replicate 1 []) (u&&decide (x.1.op=4)) l G U):=by
 have Y:cD b u x y=true:=by
  unfold cD;rw[aN aA,LZ h]
 have s:cL cv x.1 0=cv:=by
  unfold cL aR;rw[aN aA,aN aA];simp
 have k1:cL cv x.1 1=cv++List.replicate 1 []:=by
  unfold cL aR;rw[LZ aA];rfl
 unfold l9;rw[LZ Y,Z,o,nX,s]
 congr 1
 . simp
 funext l
 rw[nX,k1];simp only[ML,decide_true,Bool.and_true];exact JW _
theorem rP:∀(F:Fo),(a9 F).length<=(row F).length
 | .nil=>by simp[a9]
 | .cons p n a k x=>by
  have:=rP x;rw[dX];simp only[row,MN,MG];omega
theorem CG(x:TT):(a9 x.2.2).length<=bZ x:=by
 have D:=rP x.2.2;have F:bZ x=1+x.2.1.length+(row x.2.2).length:=cS x.1 x.2.1 x.2.2;omega
theorem zF.bool{g:Nat}{v:bA}{cA:OC}{cn cc:Nat}{r:lV}{w':OE}{e:Ending}(h:zF g v b cA cn cc r w e w'):∃D,e=.returned (.bool D):=by
 rcases h.2 with⟨z,f,_,rfl,_⟩|⟨D,k,_,rfl,_⟩
 . exact⟨false,rfl⟩
 exact⟨D,rfl⟩
theorem GJ(A:OC)(n c:Nat):sL (w.alloc (.cells #[.slice A n c,.slice O 0 0] 54)) (some ⟨w.heap.size,0,O⟩) 1 1 [.slice A n c]:=by
 have D:=aW.new w 54 #[.slice A n c,.slice O 0 0];refine⟨rfl,MF _,by decide,fun x G=>⟨_,_,_,List.mem_singleton.1 G⟩,fun _=>⟨w.heap.size,rfl,D.lt,fun k F=>?_⟩⟩;obtain rfl:k=0:=aA;exact⟨D.cell 0,D.cell 1⟩
theorem tY.at2{g:Nat}{A:OC}{Y Z:TT}(h:tY g w A n [Y,Z]):∃b off F n0 I G n1 U,n=2/\A=some ⟨b,off,O⟩/\b<w.heap.size/\b≠g/\w.cell? ⟨b,off,O⟩=some (.slice F n0 I)/\w.cell? ⟨b,off+1,O⟩=some (.slice G n1 U)/\∀W,aS (fun q=>q=g) O w W->a6 (fun q=>q<W.heap.size/\q≠g) W F n0 I (aT Y)/\a6 (fun q=>q<W.heap.size/\q≠g) W G n1 U (aT Z):=by
 have s:aS (fun q=>q=g) O w w:=aS.of_below (MC _ _);obtain⟨z,off,F,n0,I,rfl,h1,h2,h3,h4⟩:=h.at_ w s 0 Y rfl;obtain⟨a0,off',G,n1,U,e,h5,h6,h7,h8⟩:=h.at_ w s 1 Z rfl;injection e with e;injection e with e1 e2;subst e1 e2;refine⟨z,off,F,n0,I,G,n1,U,h.len.symm,rfl,h1,h2,h3,h7,fun W hM=>⟨h4.keep fun q D=>?_,h8.keep fun q D=>?_⟩⟩
 . exact⟨⟨MD D.1 hM.size,D.2⟩,fun o=>aP (hM.block q D.1 D.2 aD) o⟩
 exact⟨⟨MD D.1 hM.size,D.2⟩,fun o=>aP (hM.block q D.1 D.2 aD) o⟩
set_option maxRecDepth 100000 in
set_option maxHeartbeats 4000000 in
theorem xG{w0:OE}{g:Nat}{v:bA}{cA:OC}{cn cc:Nat}{cv:OD}(hr:bD b=0)(hb:bO w0 v b){a7:Nat}(H:GB w0 g v b a7){f:Nat}(hw:lW w0 g v b cA cn cc cv f w)(hf:f<a7)(i1:f<=100000)(l7:cn<=990000){A:OC}{c:Nat}{x:TT}(ht:a6 (fun q=>q<w.heap.size/\q≠g) w A n c (aT x)){B:OC}{m d:Nat}{y:TT}(hu:a6 (fun q=>q<w.heap.size/\q≠g) w B m d (aT y))(hx:bJ b (cv.length:Int) x)(hy:bJ b (cv.length:Int) y)(h7:x.1.op≠7)(g1:x.1.op=y.1.op)(u:Bool)
 (hK:cD b u x y=true->∀(q:Nat)(a a':TT),(a9 x.2.2)[q]? = some a->(a9 y.2.2)[q]? = some a'->eZ b (cL cv x.1 q) f a/\eZ b (cL cv x.1 q) f a') :
 Calls Try.prog 27 #[.pointer (some ⟨g,0,O⟩),.slice A n c,.slice B m d,.bool u] w (zF g v b cA cn cc (l9 (dJ b a7) b cv u x y f) w):=by
 have i9:aX w A n c (aT x):=ht.keep fun q hq=>⟨hq.1,fun _=>rfl⟩;have j2:aX w B m d (aT y):=hu.keep fun q hq=>⟨hq.1,fun _=>rfl⟩;have m7:0<n:=by rw[<-ht.len];exact eJ x
 have m4:0<m:=by rw[<-hu.len];exact eJ y
 obtain⟨bf,off,rfl,o0,m5⟩:=ht.mem m7;obtain⟨bg,z,rfl,o1,m6⟩:=hu.mem m4;obtain⟨d3,d6,d7⟩:=m5 0 (by rw[ht.len];exact m7);obtain⟨d8,d9,e0⟩:=m6 0 (by rw[hu.len];exact m4);simp only[NE,MQ]at d3 d6 d7 d8 d9 e0;rw[show bB (aT x) 0=x.1 from rfl]at d3 d6 d7;rw[show bB (aT y) 0=y.1 from rfl]at d8 d9 e0;obtain⟨g5,g6⟩:=o0;obtain⟨g7,g8⟩:=o1;have o9:=hw.lt;have h8:=aB (fun (W:OE) (hB:OB w W)=>(i5 hx) ▸ fJ (i9.below hB) hx.rt.shape);have h9:=aB (fun (W:OE) (hB:OB w W)=>(i5 hy) ▸ fJ (j2.below hB) hy.rt.shape);have l0:=aB g1;have HX:=aB hx;have HY:=aB hy;have k6:=aB i9;have k8:=aB j2;have HW:=aB hw;have HH:=aB H;have HK:=aB hK;have HR:=aB hr;have n7:=aB hb;have H7:=aB h7;obtain⟨so,c9⟩:=OM x.1.op;obtain⟨sa,i4⟩:=OM x.1.a;obtain⟨sb,i6⟩:=OM x.1.b;obtain⟨ta,i7⟩:=OM y.1.a;obtain⟨tb,i8⟩:=OM y.1.b;rw[<-c9]at d3;rw[<-i4]at d6;rw[<-i6]at d7;rw[<-g1,<-c9]at d8;rw[<-i7]at d9;rw[<-i8]at e0;have s:=aB c9;have h4:=aB d3;have j4:=aB d6;have j5:=aB d7;have j7:=aB d8;have j8:=aB d9;have j9:=aB e0;have k3:Hid (x.1=⟨so,sa,sb⟩):=aB (by rw[c9,i4,i6]);have k4:Hid (y.1=⟨so,ta,tb⟩):=aB (by rw[c9,i7,i8,g1]);have b3:=aB g5;have U:=aB g6;have c5:=aB g7;have Y:=aB g8;obtain⟨b7,a1⟩:=OM (l9 (dJ b a7) b cv u x y f);rw[<-a1];have b5:=aB a1;unfold zG at h8 h9;clear a1 c9 i4 i6 i7 i8 g1 hx hy i9 j2 hw H hK hr hb h7 ht hu m5 m6 d3 d6 d7 d8 d9 e0 g5 g6 g7 g8;go_in;go_wp2_with fail;refine (h8.o w (MC _ _)).mono ?_;rintro e w1 ⟨l2,A1,n1,c1,p4,rfl,m8,n4⟩;have e8:=aB l2;have k5:=aB (tY.of_own (g:=g) aA m8 n4);clear l2 m8 n4;go_wp2_with fail;refine (h9.o w1 e8.o).mono ?_;rintro e w2 ⟨i0,A2,n2,c2,p5,rfl,m9,n5⟩;have Z:=bK e8 i0;have HP:=aB (k5.o.moved (aS.of_below i0));have HQ:=aB (tY.of_own (g:=g) (by have:=e8.o.size;omega) m9 n5);have l6:=(Z.o.cell (p:=⟨bf,off,O⟩) b3.o).trans h4.o;have b4:=aB (HW.o.below Z.o);have a2:Hid (bf<w2.heap.size):=aB (by have:=Z.o.size;have:=b3.o;omega);have a3:Hid (bg<w2.heap.size):=aB (by have:=Z.o.size;have:=c5.o;omega);have f1:=aB ((Z.o.cell (p:=⟨bf,off,O⟩) b3.o).trans h4.o);have f2:=aB ((Z.o.cell (p:=⟨bf,off+1,O⟩) b3.o).trans j4.o);have f3:=aB ((Z.o.cell (p:=⟨bf,off+2,O⟩) b3.o).trans j5.o);have f4:=aB ((Z.o.cell (p:=⟨bg,z,O⟩) c5.o).trans j7.o);have f5:=aB ((Z.o.cell (p:=⟨bg,z+1,O⟩) c5.o).trans j8.o);have f6:=aB ((Z.o.cell (p:=⟨bg,z+2,O⟩) c5.o).trans j9.o);have b1:Hid (aS (fun q=>q=g) O w w2):=aB (aS.of_below Z.o);clear i0 m9 n5 h8 h9 k5 e8 h4 j4 j5 j7 j8 j9;by_cases o2:so=2
 . have n8:=aB (xJ n7.o b4.o (k6.o.below Z.o) HX.o (k8.o.below Z.o) HY.o (by rw[<-s.o];exact o2) (by rw[<-l0.o,<-s.o];exact o2) u);have b6:Hid (b7=.done (cD b u x y) f):=aB (by
    have hk:a9 x.2.2=[]:=by
     have hw:=HX.o.okt.wf;have hd:ds x.1=[]:=by
      unfold ds;rw[<-s.o,o2];rfl
     rw[hd]at hw;cases hF:x.2.2 with
     | nil=>rfl
     | cons p n a k x=>rw[hF]at hw;exact hw.elim
    rw[b5.o];unfold l9;rw[hk];cases cD b u x y<;>simp[gD])
   generalize cD b u x y=hq at *;subst o2;go_wp2_with fail;refine (n8.o).mono ?_;rintro e w3 ⟨rfl,l3⟩;have n6:=aB l3;clear l3 l6;go_wp2_with fail;go_ret;rw[b6.o];exact (b4.o.stays n6.o hq).base b1.o
 by_cases g2:so=4\/so=5
 . obtain⟨x0,x1,e2⟩:=gO HX.o.okt (by have:=s.o;omega);obtain⟨y0,y1,e3⟩:=gO HY.o.okt (by have:=s.o;have:=l0.o;omega);have a1:=b5.o;rw[DY (by have:=s.o;omega) e2 e3,<-s.o]at a1;have b8:cD b u x y=true:=by
    have:=s.o;unfold cD;rw[aN aA,LZ aA]
   have k0:cL cv x.1 0=cv:=by
    have:=s.o;unfold cL aR;rw[aN aA,aN aA];simp
   have k1:cL cv x.1 1=cv++List.replicate 1 []:=by
    have:=s.o;unfold cL aR;rw[LZ aA];rfl
   obtain⟨p0,q0⟩:=HK.o b8 0 x0 y0 (by rw[e2];rfl) (by rw[e3];rfl);obtain⟨p1,q1⟩:=HK.o b8 1 x1 y1 (by rw[e2];rfl) (by rw[e3];rfl);rw[k0]at p0 q0;rw[k1]at p1 q1;obtain⟨bx,ox,Ax,nx,cx,o3,p2,o7,rfl,rfl,l4,m1,l8,g9,j0⟩:=tY.at2 (e2 ▸ HP.o);obtain⟨f9,oy,Ay,ny,cy,o6,p3,o8,rfl,rfl,l5,m2,m0,h0,j1⟩:=tY.at2 (e3 ▸ HQ.o);obtain⟨uu,c4⟩:=OM (u&&decide (so=4));rw[<-c4]at a1;have d0:=aB (fun (W:OE) (hB:OB w2 W)=>HH.o W cA cn cc cv f false Ax nx cx x0 Ay ny cy y0 (b4.o.below hB) (j0 W (aS.of_below hB)).1 (j1 W (aS.of_below hB)).1 p0 q0 hf i1);have HD:=aB (fun (is:Bool) (j:Nat) (h:dJ b a7 cv false f x0 y0=.done is j)=>(jE HR.o a7 cv false f x0 y0 p0 q0 is j h).1);have f8:=aB (fun (W:OE) (l:Nat) (hl:l<=f) (hM:aS (fun q=>q=g) O w2 W) (hB:aW W g 60 (wO v b cA cn cc (l:Int) 0))=>nI (w:=W.alloc (.cells #[.slice Ax nx cx,.slice O 0 0] 54)) HH.o ((b4.o.moved hM hB).below (aQ _ _)) aA aA l7 (GJ Ax nx cx) (fun q e=>by injection e with e;injection e with e;have h1:=hB.lt;omega) (j0 _ (aY hM (aS.of_below (aQ _ _)))).2 (j1 _ (aY hM (aS.of_below (aQ _ _)))).2 (p1.mono hl) (q1.mono hl) uu);generalize dJ b a7 cv false f x0 y0=rr at *;have c8:=aB a1;have f0:=aB l8;have g3:=aB g9;have j6:=aB m0;have g4:=aB h0;have c6:=aB l4;have e9:=aB l5;have c7:=aB m1;have f7:=aB m2;have k7:=aB c4;clear a1 b8 k0 k1 p0 q0 p1 q1 l8 g9 m0 h0 l4 l5 m1 m2 j0 j1 e2 e3 c4 o2;rcases g2 with o4|o5
   . have c4:uu=u:=by rw[k7.o,o4];simp
     subst c4;subst o4;go_wp2_with fail;refine wp_region_held_drew (S:=(fun w'=>aS (fun q=>q=g) O w2 w')) aC ?_ (fun D=>?_)
     . (try dsimp only);exact aS.of_below (aU (MC _ _) 1)
     have I:Hid (OB w2 w2.drew):=aB (aU (MC _ _) 1);generalize w2.drew=W1 at *;refine wpAnyH_take (i:=0) (v:=?_) rfl aC aC aC (fun _ _ _ h=>h) (Or.inl ⟨by rfl,fun F hSw=>?_⟩) D ?_;rotate_left
     . (go_simp;try with_reducible rfl)
     try simp only[p7]
     refine wpAnyH_take (i:=1) (v:=?_) rfl aC aC aC (fun _ _ _ h=>h) (Or.inl ⟨by rfl,fun F hSw=>?_⟩) D ?_;rotate_left
     . (go_simp;try with_reducible rfl)
     try simp only[p7]
     refine wpAnyH_take (i:=2) (v:=?_) rfl aC aC aC (fun _ _ _ h=>h) (Or.inl ⟨by rfl,fun F hSw=>?_⟩) D ?_;rotate_left
     . (go_simp;try with_reducible rfl)
     try simp only[p7]
     refine tk 3 ?_ (fun F hSw=>?_) D ?_;rotate_left
     . have zx:=(aP (hSw.block bx c6.o c7.o aD) (ox)).trans f0.o;go_simp;try with_reducible rfl
     try simp only[p7]
     refine wpAnyH_take (i:=4) (v:=?_) rfl aC aC aC (fun _ _ _ h=>h) (Or.inl ⟨by rfl,fun F hSw=>?_⟩) D ?_;rotate_left
     . (go_simp;try with_reducible rfl)
     try simp only[p7]
     refine wpAnyH_take (i:=5) (v:=?_) rfl aC aC aC (fun _ _ _ h=>h) (Or.inl ⟨by rfl,fun F hSw=>?_⟩) D ?_;rotate_left
     . (go_simp;try with_reducible rfl)
     try simp only[p7]
     refine tk 6 ?_ (fun F hSw=>?_) D ?_;rotate_left
     . have zy:=(aP (hSw.block f9 e9.o f7.o aD) (oy)).trans j6.o;go_simp;try with_reducible rfl
     try simp only[p7]
     refine r1 7 fun K hK=>?_;go_simp;go_at_call 19
     refine (d0.o _ I.o).mono ?_;rintro e w3 a8;obtain⟨h5,a0⟩:=OF a8 (aY (aS.of_below I.o) a8.1);rcases a8.two with⟨rfl,e5⟩|⟨kk,rfl,c3,e1⟩
     . have b6:Hid (b7=rr):=aB (by rw[c8.o,qD e5]);clear a8 e5;go_wp2_with fail;refine hK.o _ _ (by exact a0.o) fun D=>?_;clear hK K;try simp only[p7]
       refine wpAnyH_take (i:=8) (v:=?_) rfl aC aC aC (fun _ _ _ h=>h) (Or.inl ⟨by rfl,fun F hSw=>?_⟩) D ?_;rotate_left
       . (go_simp;try with_reducible rfl)
       try simp only[p7]
       refine aM 9 D ?_;refine aM 10 D ?_;refine aM 11 D ?_;refine aM 12 D ?_;refine aM 13 D ?_;refine aM 14 D ?_;refine aM 15 D ?_;refine aM 16 D ?_;refine aM 17 D ?_;refine aM 18 D ?_;refine aM 19 D ?_;refine aM 20 D ?_;refine aM 21 D ?_;refine aM 22 D ?_;refine wpAnyH_take (i:=23) (v:=?_) rfl aC aC aC (fun _ _ _ h=>h) (Or.inl ⟨by rfl,fun F hSw=>?_⟩) D ?_;rotate_left
       . (go_simp;try with_reducible rfl)
       try simp only[p7]
       refine wpAnyH_take (i:=24) (v:=?_) rfl aC aC aC (fun _ _ _ h=>h) (Or.inl ⟨by rfl,fun F hSw=>?_⟩) D ?_;rotate_left
       . (go_simp;try with_reducible rfl)
       try simp only[p7]
       refine wpAnyH_done aC ?_ _;go_wp2_with fail;go_ret;rw[b6.o];exact h5.o.base (aY b1.o (aS.of_below I.o))
     have h6:=aB e1;have b2:=HD.o _ _ c3;have b0:=c8.o;rw[c3]at b0
     replace b0:b7=dJ b a7 (cv++List.replicate 1 []) uu kk x1 y1:=b0
     have HI:=aB (f8.o w3 kk aA a0.o h6.o);rw[<-b0]at HI;clear a8 e1 c3 b0 f8 c8;go_wp2_with fail;refine hK.o _ _ (by exact a0.o) fun D=>?_;clear hK K;try simp only[p7]
     refine wpAnyH_take (i:=8) (v:=?_) rfl aC aC aC (fun _ _ _ h=>h) (Or.inl ⟨by rfl,fun F hSw=>?_⟩) D ?_;rotate_left
     . (go_simp;try with_reducible rfl)
     try simp only[p7]
     refine wpAnyH_take (i:=9) (v:=?_) rfl aC aC aC (fun _ _ _ h=>h) (Or.inl ⟨by rfl,fun F hSw=>?_⟩) D ?_;rotate_left
     . (go_simp;try with_reducible rfl)
     try simp only[p7]
     refine wpAnyH_take (i:=10) (v:=?_) rfl aC aC aC (fun _ _ _ h=>h) (Or.inl ⟨by rfl,fun F hSw=>?_⟩) D ?_;rotate_left
     . (go_simp;try with_reducible rfl)
     try simp only[p7]
     refine wpAnyH_take (i:=11) (v:=?_) rfl aC aC aC (fun _ _ _ h=>h) (Or.inl ⟨by rfl,fun F hSw=>?_⟩) D ?_;rotate_left
     . (go_simp;try with_reducible rfl)
     try simp only[p7]
     refine tk 12 ?_ (fun F hSw=>?_) D ?_;rotate_left
     . have zx:=(aP (hSw.block bx c6.o c7.o aD) (ox)).trans f0.o;go_simp;try with_reducible rfl
     try simp only[p7]
     refine wpAnyH_take (i:=13) (v:=?_) rfl aC aC aC (fun _ _ _ h=>h) (Or.inl ⟨by rfl,fun F hSw=>?_⟩) D ?_;rotate_left
     . (go_simp;try with_reducible rfl)
     try simp only[p7]
     refine wpAnyH_take (i:=15) (v:=?_) rfl aC aC aC (fun _ _ _ h=>h) (Or.inl ⟨by rfl,fun F hSw=>?_⟩) D ?_;rotate_left
     . (go_simp;try with_reducible rfl)
     try simp only[p7]
     refine wpAnyH_take (i:=16) (v:=?_) rfl aC aC aC (fun _ _ _ h=>h) (Or.inl ⟨by rfl,fun F hSw=>?_⟩) D ?_;rotate_left
     . (go_simp;try with_reducible rfl)
     try simp only[p7]
     refine tk 17 ?_ (fun F hSw=>?_) D ?_;rotate_left
     . have zx:=(aP (hSw.block bx c6.o c7.o aD) (ox+1)).trans g3.o;go_simp;try with_reducible rfl
     try simp only[p7]
     refine wpAnyH_take (i:=18) (v:=?_) rfl aC aC aC (fun _ _ _ h=>h) (Or.inl ⟨by rfl,fun F hSw=>?_⟩) D ?_;rotate_left
     . (go_simp;try with_reducible rfl)
     try simp only[p7]
     refine wpAnyH_take (i:=19) (v:=?_) rfl aC aC aC (fun _ _ _ h=>h) (Or.inl ⟨by rfl,fun F hSw=>?_⟩) D ?_;rotate_left
     . (go_simp;try with_reducible rfl)
     try simp only[p7]
     refine tk 20 ?_ (fun F hSw=>?_) D ?_;rotate_left
     . have zy:=(aP (hSw.block f9 e9.o f7.o aD) (oy+1)).trans g4.o;go_simp;try with_reducible rfl
     try simp only[p7]
     refine wpAnyH_take (i:=21) (v:=?_) rfl aC aC aC (fun _ _ _ h=>h) (Or.inl ⟨by rfl,fun F hSw=>?_⟩) D ?_;rotate_left
     . (go_simp;try with_reducible rfl)
     try simp only[p7]
     refine r1 14 fun K hK=>?_;go_simp;refine hK.o _ _ (by exact aY a0.o (aS.of_below (aQ _ _))) fun D=>?_;clear hK K;try simp only[p7]
     refine r1 22 fun K hK=>?_;go_simp;go_at_call 49
     refine (HI.o).mono ?_;rintro e w7 G;obtain⟨a4,a5⟩:=OF G (aY (aY a0.o (aS.of_below (aQ _ _))) G.1);obtain⟨is,rfl⟩:=G.bool;clear G;go_wp2_with fail;refine hK.o _ _ (by exact a5.o) fun D=>?_;clear hK K;try simp only[p7]
     refine wpAnyH_take (i:=23) (v:=?_) rfl aC aC aC (fun _ _ _ h=>h) (Or.inl ⟨by rfl,fun F hSw=>?_⟩) D ?_;rotate_left
     . (go_simp;try with_reducible rfl)
     try simp only[p7]
     refine wpAnyH_take (i:=24) (v:=?_) rfl aC aC aC (fun _ _ _ h=>h) (Or.inl ⟨by rfl,fun F hSw=>?_⟩) D ?_;rotate_left
     . (go_simp;try with_reducible rfl)
     try simp only[p7]
     refine wpAnyH_done aC ?_ _;go_wp2_with fail;go_ret;exact a4.o.base (aY b1.o (aY a0.o (aS.of_below (aQ _ _))))
   have c4:uu=false:=by rw[k7.o,o5];simp
   subst c4;subst o5;go_wp2_with fail;refine wp_region_held_drew (S:=(fun w'=>aS (fun q=>q=g) O w2 w')) aC ?_ (fun D=>?_)
   . (try dsimp only);exact aS.of_below (aU (MC _ _) 1)
   have I:Hid (OB w2 w2.drew):=aB (aU (MC _ _) 1);generalize w2.drew=W1 at *;refine wpAnyH_take (i:=0) (v:=?_) rfl aC aC aC (fun _ _ _ h=>h) (Or.inl ⟨by rfl,fun F hSw=>?_⟩) D ?_;rotate_left
   . (go_simp;try with_reducible rfl)
   try simp only[p7]
   refine wpAnyH_take (i:=1) (v:=?_) rfl aC aC aC (fun _ _ _ h=>h) (Or.inl ⟨by rfl,fun F hSw=>?_⟩) D ?_;rotate_left
   . (go_simp;try with_reducible rfl)
   try simp only[p7]
   refine wpAnyH_take (i:=2) (v:=?_) rfl aC aC aC (fun _ _ _ h=>h) (Or.inl ⟨by rfl,fun F hSw=>?_⟩) D ?_;rotate_left
   . (go_simp;try with_reducible rfl)
   try simp only[p7]
   refine tk 3 ?_ (fun F hSw=>?_) D ?_;rotate_left
   . have zx:=(aP (hSw.block bx c6.o c7.o aD) (ox)).trans f0.o;go_simp;try with_reducible rfl
   try simp only[p7]
   refine wpAnyH_take (i:=4) (v:=?_) rfl aC aC aC (fun _ _ _ h=>h) (Or.inl ⟨by rfl,fun F hSw=>?_⟩) D ?_;rotate_left
   . (go_simp;try with_reducible rfl)
   try simp only[p7]
   refine wpAnyH_take (i:=5) (v:=?_) rfl aC aC aC (fun _ _ _ h=>h) (Or.inl ⟨by rfl,fun F hSw=>?_⟩) D ?_;rotate_left
   . (go_simp;try with_reducible rfl)
   try simp only[p7]
   refine tk 6 ?_ (fun F hSw=>?_) D ?_;rotate_left
   . have zy:=(aP (hSw.block f9 e9.o f7.o aD) (oy)).trans j6.o;go_simp;try with_reducible rfl
   try simp only[p7]
   refine r1 7 fun K hK=>?_;go_simp;go_at_call 19
   refine (d0.o _ I.o).mono ?_;rintro e w3 a8;obtain⟨h5,a0⟩:=OF a8 (aY (aS.of_below I.o) a8.1);rcases a8.two with⟨rfl,e5⟩|⟨kk,rfl,c3,e1⟩
   . have b6:Hid (b7=rr):=aB (by rw[c8.o,qD e5]);clear a8 e5;go_wp2_with fail;refine hK.o _ _ (by exact a0.o) fun D=>?_;clear hK K;try simp only[p7]
     refine wpAnyH_take (i:=8) (v:=?_) rfl aC aC aC (fun _ _ _ h=>h) (Or.inl ⟨by rfl,fun F hSw=>?_⟩) D ?_;rotate_left
     . (go_simp;try with_reducible rfl)
     try simp only[p7]
     refine aM 9 D ?_;refine aM 10 D ?_;refine aM 11 D ?_;refine aM 12 D ?_;refine aM 13 D ?_;refine aM 14 D ?_;refine aM 15 D ?_;refine aM 16 D ?_;refine aM 17 D ?_;refine aM 18 D ?_;refine aM 19 D ?_;refine aM 20 D ?_;refine aM 21 D ?_;refine wpAnyH_take (i:=22) (v:=?_) rfl aC aC aC (fun _ _ _ h=>h) (Or.inl ⟨by rfl,fun F hSw=>?_⟩) D ?_;rotate_left
     . (go_simp;try with_reducible rfl)
     try simp only[p7]
     refine wpAnyH_take (i:=23) (v:=?_) rfl aC aC aC (fun _ _ _ h=>h) (Or.inl ⟨by rfl,fun F hSw=>?_⟩) D ?_;rotate_left
     . (go_simp;try with_reducible rfl)
     try simp only[p7]
     refine wpAnyH_done aC ?_ _;go_wp2_with fail;go_ret;rw[b6.o];exact h5.o.base (aY b1.o (aS.of_below I.o))
   have h6:=aB e1;have b2:=HD.o _ _ c3;have b0:=c8.o;rw[c3]at b0
   replace b0:b7=dJ b a7 (cv++List.replicate 1 []) false kk x1 y1:=b0
   have HI:=aB (f8.o w3 kk aA a0.o h6.o);rw[<-b0]at HI;clear a8 e1 c3 b0 f8 c8;go_wp2_with fail;refine hK.o _ _ (by exact a0.o) fun D=>?_;clear hK K;try simp only[p7]
   refine wpAnyH_take (i:=8) (v:=?_) rfl aC aC aC (fun _ _ _ h=>h) (Or.inl ⟨by rfl,fun F hSw=>?_⟩) D ?_;rotate_left
   . (go_simp;try with_reducible rfl)
   try simp only[p7]
   refine wpAnyH_take (i:=9) (v:=?_) rfl aC aC aC (fun _ _ _ h=>h) (Or.inl ⟨by rfl,fun F hSw=>?_⟩) D ?_;rotate_left
   . (go_simp;try with_reducible rfl)
   try simp only[p7]
   refine wpAnyH_take (i:=10) (v:=?_) rfl aC aC aC (fun _ _ _ h=>h) (Or.inl ⟨by rfl,fun F hSw=>?_⟩) D ?_;rotate_left
   . (go_simp;try with_reducible rfl)
   try simp only[p7]
   refine wpAnyH_take (i:=11) (v:=?_) rfl aC aC aC (fun _ _ _ h=>h) (Or.inl ⟨by rfl,fun F hSw=>?_⟩) D ?_;rotate_left
   . (go_simp;try with_reducible rfl)
   try simp only[p7]
   refine tk 12 ?_ (fun F hSw=>?_) D ?_;rotate_left
   . have zx:=(aP (hSw.block bx c6.o c7.o aD) (ox)).trans f0.o;go_simp;try with_reducible rfl
   try simp only[p7]
   refine wpAnyH_take (i:=13) (v:=?_) rfl aC aC aC (fun _ _ _ h=>h) (Or.inl ⟨by rfl,fun F hSw=>?_⟩) D ?_;rotate_left
   . (go_simp;try with_reducible rfl)
   try simp only[p7]
   refine wpAnyH_take (i:=15) (v:=?_) rfl aC aC aC (fun _ _ _ h=>h) (Or.inl ⟨by rfl,fun F hSw=>?_⟩) D ?_;rotate_left
   . (go_simp;try with_reducible rfl)
   try simp only[p7]
   refine wpAnyH_take (i:=16) (v:=?_) rfl aC aC aC (fun _ _ _ h=>h) (Or.inl ⟨by rfl,fun F hSw=>?_⟩) D ?_;rotate_left
   . (go_simp;try with_reducible rfl)
   try simp only[p7]
   refine tk 17 ?_ (fun F hSw=>?_) D ?_;rotate_left
   . have zx:=(aP (hSw.block bx c6.o c7.o aD) (ox+1)).trans g3.o;go_simp;try with_reducible rfl
   try simp only[p7]
   refine wpAnyH_take (i:=18) (v:=?_) rfl aC aC aC (fun _ _ _ h=>h) (Or.inl ⟨by rfl,fun F hSw=>?_⟩) D ?_;rotate_left
   . (go_simp;try with_reducible rfl)
   try simp only[p7]
   refine wpAnyH_take (i:=19) (v:=?_) rfl aC aC aC (fun _ _ _ h=>h) (Or.inl ⟨by rfl,fun F hSw=>?_⟩) D ?_;rotate_left
   . (go_simp;try with_reducible rfl)
   try simp only[p7]
   refine tk 20 ?_ (fun F hSw=>?_) D ?_;rotate_left
   . have zy:=(aP (hSw.block f9 e9.o f7.o aD) (oy+1)).trans g4.o;go_simp;try with_reducible rfl
   try simp only[p7]
   refine r1 14 fun K hK=>?_;go_simp;refine hK.o _ _ (by exact aY a0.o (aS.of_below (aQ _ _))) fun D=>?_;clear hK K;try simp only[p7]
   refine r1 21 fun K hK=>?_;go_simp;go_at_call 49
   refine (HI.o).mono ?_;rintro e w7 G;obtain⟨a4,a5⟩:=OF G (aY (aY a0.o (aS.of_below (aQ _ _))) G.1);obtain⟨is,rfl⟩:=G.bool;clear G;go_wp2_with fail;refine hK.o _ _ (by exact a5.o) fun D=>?_;clear hK K;try simp only[p7]
   refine wpAnyH_take (i:=22) (v:=?_) rfl aC aC aC (fun _ _ _ h=>h) (Or.inl ⟨by rfl,fun F hSw=>?_⟩) D ?_;rotate_left
   . (go_simp;try with_reducible rfl)
   try simp only[p7]
   refine wpAnyH_take (i:=23) (v:=?_) rfl aC aC aC (fun _ _ _ h=>h) (Or.inl ⟨by rfl,fun F hSw=>?_⟩) D ?_;rotate_left
   . (go_simp;try with_reducible rfl)
   try simp only[p7]
   refine wpAnyH_done aC ?_ _;go_wp2_with fail;go_ret;exact a4.o.base (aY b1.o (aY a0.o (aS.of_below (aQ _ _))))
 have d2:(so==2)=false:=by rw[MM];omega
 have d4:(so==4)=false:=by rw[MM];omega
 have d5:(so==5)=false:=by rw[MM];omega
 have e4:(fun i:Nat=>u&&decide (x.1.op=4)&&decide (i=1))=fun _=>false:=by
  funext i
  rw[MA (p:=x.1.op=4) (by have:=s.o;omega)];simp
 by_cases b9:(⟨so,sa,sb⟩:Nd)=⟨so,ta,tb⟩;rotate_left
 . have b6:Hid (b7=.done false f):=aB (by
    have h1:=s.o;rw[b5.o];unfold l9 cD;rw[aN (by omega:¬ x.1.op=2),aN (by omega:¬ (x.1.op=4\/x.1.op=5)),k3.o,k4.o,MA b9];simp)
   have d1:=aB (fun w=>(k9 ⟨so,sa,sb⟩ ⟨so,ta,tb⟩ w).trans (by simp only[MA b9]:_=Result.ok (Value.bool false) w));clear b9 e4 o2 g2;by_cases e7:so=12
   . subst e7;go_wp2_with fail;refine wp_region_held_drew (S:=(fun w'=>aS (fun q=>q=g) O w2 w')) aC ?_ (fun D=>?_)
     . (try dsimp only);exact aS.of_below (aU (MC _ _) 1)
     have I:Hid (OB w2 w2.drew):=aB (aU (MC _ _) 1);generalize w2.drew=W1 at *;refine wpAnyH_take (i:=0) (v:=?_) rfl aC aC aC (fun _ _ _ h=>h) (Or.inl ⟨by rfl,fun F hSw=>?_⟩) D ?_;rotate_left
     . (go_simp;try with_reducible rfl)
     try simp only[p7]
     refine wpAnyH_take (i:=1) (v:=?_) rfl aC aC aC (fun _ _ _ h=>h) (Or.inl ⟨by rfl,fun F hSw=>?_⟩) D ?_;rotate_left
     . (go_simp;try with_reducible rfl)
     try simp only[p7]
     refine tk 2 ?_ (fun F hSw=>?_) D ?_;rotate_left
     . have z0:=(aP (hSw.block bf a2.o U.o aD) (off)).trans f1.o;have z1:=(aP (hSw.block bf a2.o U.o aD) (off+1)).trans f2.o;have z2:=(aP (hSw.block bf a2.o U.o aD) (off+2)).trans f3.o;go_simp;try with_reducible rfl
     try simp only[p7]
     refine wpAnyH_take (i:=3) (v:=?_) rfl aC aC aC (fun _ _ _ h=>h) (Or.inl ⟨by rfl,fun F hSw=>?_⟩) D ?_;rotate_left
     . (go_simp;try with_reducible rfl)
     try simp only[p7]
     refine wpAnyH_take (i:=4) (v:=?_) rfl aC aC aC (fun _ _ _ h=>h) (Or.inl ⟨by rfl,fun F hSw=>?_⟩) D ?_;rotate_left
     . (go_simp;try with_reducible rfl)
     try simp only[p7]
     refine tk 5 ?_ (fun F hSw=>?_) D ?_;rotate_left
     . have z0:=(aP (hSw.block bg a3.o Y.o aD) (z)).trans f4.o;have z1:=(aP (hSw.block bg a3.o Y.o aD) (z+1)).trans f5.o;have z2:=(aP (hSw.block bg a3.o Y.o aD) (z+2)).trans f6.o;go_simp;try with_reducible rfl
     try simp only[p7]
     refine tk 6 ?_ (fun F hSw=>?_) D ?_;rotate_left
     . have i3:=d1.o;go_simp;try with_reducible rfl
     try simp only[p7]
     refine wpAnyH_take (i:=7) (v:=?_) rfl aC aC aC (fun _ _ _ h=>h) (Or.inl ⟨by rfl,fun F hSw=>?_⟩) D ?_;rotate_left
     . (go_simp;try with_reducible rfl)
     try simp only[p7]
     refine aM 8 D ?_;refine aM 9 D ?_;refine aM 10 D ?_;refine aM 11 D ?_;refine aM 12 D ?_;refine aM 13 D ?_;refine wpAnyH_take (i:=14) (v:=?_) rfl aC aC aC (fun _ _ _ h=>h) (Or.inl ⟨by rfl,fun F hSw=>?_⟩) D ?_;rotate_left
     . (go_simp;try with_reducible rfl)
     try simp only[p7]
     refine wpAnyH_take (i:=15) (v:=?_) rfl aC aC aC (fun _ _ _ h=>h) (Or.inl ⟨by rfl,fun F hSw=>?_⟩) D ?_;rotate_left
     . (go_simp;try with_reducible rfl)
     try simp only[p7]
     refine wpAnyH_done aC ?_ _;go_wp2_with fail;go_ret;rw[b6.o];exact (b4.o.stays I.o false).base b1.o
   have n9:(so==12)=false:=by rw[MM];omega
   go_wp2_with fail;refine wp_region_held_drew (S:=(fun w'=>aS (fun q=>q=g) O w2 w')) aC ?_ (fun D=>?_)
   . (try dsimp only);exact aS.of_below (aU (MC _ _) 1)
   have I:Hid (OB w2 w2.drew):=aB (aU (MC _ _) 1);generalize w2.drew=W1 at *;refine wpAnyH_take (i:=0) (v:=?_) rfl aC aC aC (fun _ _ _ h=>h) (Or.inl ⟨by rfl,fun F hSw=>?_⟩) D ?_;rotate_left
   . (go_simp;try with_reducible rfl)
   try simp only[p7]
   refine wpAnyH_take (i:=1) (v:=?_) rfl aC aC aC (fun _ _ _ h=>h) (Or.inl ⟨by rfl,fun F hSw=>?_⟩) D ?_;rotate_left
   . (go_simp;try with_reducible rfl)
   try simp only[p7]
   refine tk 2 ?_ (fun F hSw=>?_) D ?_;rotate_left
   . have z0:=(aP (hSw.block bf a2.o U.o aD) (off)).trans f1.o;have z1:=(aP (hSw.block bf a2.o U.o aD) (off+1)).trans f2.o;have z2:=(aP (hSw.block bf a2.o U.o aD) (off+2)).trans f3.o;go_simp;try with_reducible rfl
   try simp only[p7]
   refine wpAnyH_take (i:=3) (v:=?_) rfl aC aC aC (fun _ _ _ h=>h) (Or.inl ⟨by rfl,fun F hSw=>?_⟩) D ?_;rotate_left
   . (go_simp;try with_reducible rfl)
   try simp only[p7]
   refine wpAnyH_take (i:=4) (v:=?_) rfl aC aC aC (fun _ _ _ h=>h) (Or.inl ⟨by rfl,fun F hSw=>?_⟩) D ?_;rotate_left
   . (go_simp;try with_reducible rfl)
   try simp only[p7]
   refine tk 5 ?_ (fun F hSw=>?_) D ?_;rotate_left
   . have z0:=(aP (hSw.block bg a3.o Y.o aD) (z)).trans f4.o;have z1:=(aP (hSw.block bg a3.o Y.o aD) (z+1)).trans f5.o;have z2:=(aP (hSw.block bg a3.o Y.o aD) (z+2)).trans f6.o;go_simp;try with_reducible rfl
   try simp only[p7]
   refine tk 6 ?_ (fun F hSw=>?_) D ?_;rotate_left
   . have i3:=d1.o;go_simp;try with_reducible rfl
   try simp only[p7]
   refine wpAnyH_take (i:=7) (v:=?_) rfl aC aC aC (fun _ _ _ h=>h) (Or.inl ⟨by rfl,fun F hSw=>?_⟩) D ?_;rotate_left
   . (go_simp;try with_reducible rfl)
   try simp only[p7]
   refine aM 8 D ?_;refine aM 9 D ?_;refine aM 10 D ?_;refine aM 11 D ?_;refine wpAnyH_take (i:=12) (v:=?_) rfl aC aC aC (fun _ _ _ h=>h) (Or.inl ⟨by rfl,fun F hSw=>?_⟩) D ?_;rotate_left
   . (go_simp;try with_reducible rfl)
   try simp only[p7]
   refine wpAnyH_take (i:=13) (v:=?_) rfl aC aC aC (fun _ _ _ h=>h) (Or.inl ⟨by rfl,fun F hSw=>?_⟩) D ?_;rotate_left
   . (go_simp;try with_reducible rfl)
   try simp only[p7]
   refine wpAnyH_done aC ?_ _;go_wp2_with fail;go_ret;rw[b6.o];exact (b4.o.stays I.o false).base b1.o
 have d1:=aB (fun w=>(k9 ⟨so,sa,sb⟩ ⟨so,ta,tb⟩ w).trans (by simp only[MB b9]:_=Result.ok (Value.bool true) w));have c0:x.1=y.1:=by rw[k3.o,k4.o,b9]
 by_cases e7:so=12
 . have g0:x.1.op=12:=by rw[<-s.o];exact e7
   have e6:b7=if tQ x.2.2=tQ y.2.2 then gD (dJ b a7) (cL cv x.1) (fun _=>false) 0 (a9 x.2.2) (a9 y.2.2) f else .done false f:=by
    rw[b5.o];unfold l9 cD;rw[aN (by omega:¬ x.1.op=2),aN (by omega:¬ (x.1.op=4\/x.1.op=5)),LZ g0,e4,MB c0,NI];by_cases hp:tQ x.2.2=tQ y.2.2
    . rw[LZ hp,LZ (MB hp)]
    rw[aN hp,aN (by simp[hp])]
   have b2:tQ x.2.2=tQ y.2.2->∀(q:Nat)(a a':TT),(a9 x.2.2)[q]? = some a->(a9 y.2.2)[q]? = some a'->eZ b (cL cv x.1 q) f a/\eZ b (cL cv x.1 q) f a':=fun e=>HK.o (by
    unfold cD;rw[aN (by omega:¬ x.1.op=2),aN (by omega:¬ (x.1.op=4\/x.1.op=5)),LZ g0,MB c0,MB e];rfl)
   have k2:=aB (fun (W:OE) (hB:OB w2 W)=>xE (pc:=c1) (qc:=c2) HR.o HH.o (b4.o.below hB) hf i1 l7 (k6.o.below (Z.o.trans (hB.mono Z.o.size))) (k8.o.below (Z.o.trans (hB.mono Z.o.size))) HX.o HY.o g0 c0 (HP.o.moved (aS.of_below hB)) (HQ.o.moved (aS.of_below hB)) b2);rw[<-e6]at k2;clear e6 b2 g0 c0 b9 e4 o2 g2;subst e7;go_wp2_with fail;refine wp_region_held_drew (S:=(fun w'=>aS (fun q=>q=g) O w2 w')) aC ?_ (fun D=>?_)
   . (try dsimp only);exact aS.of_below (aU (MC _ _) 1)
   have I:Hid (OB w2 w2.drew):=aB (aU (MC _ _) 1);generalize w2.drew=W1 at *;refine wpAnyH_take (i:=0) (v:=?_) rfl aC aC aC (fun _ _ _ h=>h) (Or.inl ⟨by rfl,fun F hSw=>?_⟩) D ?_;rotate_left
   . (go_simp;try with_reducible rfl)
   try simp only[p7]
   refine wpAnyH_take (i:=1) (v:=?_) rfl aC aC aC (fun _ _ _ h=>h) (Or.inl ⟨by rfl,fun F hSw=>?_⟩) D ?_;rotate_left
   . (go_simp;try with_reducible rfl)
   try simp only[p7]
   refine tk 2 ?_ (fun F hSw=>?_) D ?_;rotate_left
   . have z0:=(aP (hSw.block bf a2.o U.o aD) (off)).trans f1.o;have z1:=(aP (hSw.block bf a2.o U.o aD) (off+1)).trans f2.o;have z2:=(aP (hSw.block bf a2.o U.o aD) (off+2)).trans f3.o;go_simp;try with_reducible rfl
   try simp only[p7]
   refine wpAnyH_take (i:=3) (v:=?_) rfl aC aC aC (fun _ _ _ h=>h) (Or.inl ⟨by rfl,fun F hSw=>?_⟩) D ?_;rotate_left
   . (go_simp;try with_reducible rfl)
   try simp only[p7]
   refine wpAnyH_take (i:=4) (v:=?_) rfl aC aC aC (fun _ _ _ h=>h) (Or.inl ⟨by rfl,fun F hSw=>?_⟩) D ?_;rotate_left
   . (go_simp;try with_reducible rfl)
   try simp only[p7]
   refine tk 5 ?_ (fun F hSw=>?_) D ?_;rotate_left
   . have z0:=(aP (hSw.block bg a3.o Y.o aD) (z)).trans f4.o;have z1:=(aP (hSw.block bg a3.o Y.o aD) (z+1)).trans f5.o;have z2:=(aP (hSw.block bg a3.o Y.o aD) (z+2)).trans f6.o;go_simp;try with_reducible rfl
   try simp only[p7]
   refine tk 6 ?_ (fun F hSw=>?_) D ?_;rotate_left
   . have i3:=d1.o;go_simp;try with_reducible rfl
   try simp only[p7]
   refine wpAnyH_take (i:=7) (v:=?_) rfl aC aC aC (fun _ _ _ h=>h) (Or.inl ⟨by rfl,fun F hSw=>?_⟩) D ?_;rotate_left
   . (go_simp;try with_reducible rfl)
   try simp only[p7]
   refine wpAnyH_take (i:=8) (v:=?_) rfl aC aC aC (fun _ _ _ h=>h) (Or.inl ⟨by rfl,fun F hSw=>?_⟩) D ?_;rotate_left
   . (go_simp;try with_reducible rfl)
   try simp only[p7]
   refine wpAnyH_take (i:=9) (v:=?_) rfl aC aC aC (fun _ _ _ h=>h) (Or.inl ⟨by rfl,fun F hSw=>?_⟩) D ?_;rotate_left
   . (go_simp;try with_reducible rfl)
   try simp only[p7]
   refine wpAnyH_take (i:=10) (v:=?_) rfl aC aC aC (fun _ _ _ h=>h) (Or.inl ⟨by rfl,fun F hSw=>?_⟩) D ?_;rotate_left
   . (go_simp;try with_reducible rfl)
   try simp only[p7]
   refine wpAnyH_take (i:=11) (v:=?_) rfl aC aC aC (fun _ _ _ h=>h) (Or.inl ⟨by rfl,fun F hSw=>?_⟩) D ?_;rotate_left
   . (go_simp;try with_reducible rfl)
   try simp only[p7]
   refine wpAnyH_take (i:=12) (v:=?_) rfl aC aC aC (fun _ _ _ h=>h) (Or.inl ⟨by rfl,fun F hSw=>?_⟩) D ?_;rotate_left
   . (go_simp;try with_reducible rfl)
   try simp only[p7]
   refine r1 13 fun K hK=>?_;go_simp;go_at_call 50
   refine (k2.o _ I.o).mono ?_;rintro e w7 G;obtain⟨a4,a5⟩:=OF G (aY (aS.of_below I.o) G.1);obtain⟨is,rfl⟩:=G.bool;clear G;go_wp2_with fail;refine hK.o _ _ (by exact a5.o) fun D=>?_;clear hK K;try simp only[p7]
   refine wpAnyH_take (i:=14) (v:=?_) rfl aC aC aC (fun _ _ _ h=>h) (Or.inl ⟨by rfl,fun F hSw=>?_⟩) D ?_;rotate_left
   . (go_simp;try with_reducible rfl)
   try simp only[p7]
   refine wpAnyH_take (i:=15) (v:=?_) rfl aC aC aC (fun _ _ _ h=>h) (Or.inl ⟨by rfl,fun F hSw=>?_⟩) D ?_;rotate_left
   . (go_simp;try with_reducible rfl)
   try simp only[p7]
   refine wpAnyH_done aC ?_ _;go_wp2_with fail;go_ret;exact a4.o.base (aY b1.o (aS.of_below I.o))
 have n9:(so==12)=false:=by rw[MM];omega
 have i2:cL cv x.1=fun _=>cv:=by
  funext i
  have h1:=s.o;have h2:=H7.o;unfold cL aR;rw[aN aA,aN aA];simp
 have b8:cD b u x y=true:=by
  have h1:=s.o;unfold cD;rw[aN aA,aN aA,aN aA];exact MB c0
 have e6:b7=gD (dJ b a7) (fun _=>cv) (fun _=>false) 0 (a9 x.2.2) (a9 y.2.2) f:=by
  rw[b5.o];unfold l9;rw[LZ b8,e4,i2]
 have b2:=HK.o b8;rw[i2]at b2;have m3:(a9 x.2.2).length=(a9 y.2.2).length:=by
  rw[fP HX.o.okt.wf,fP HY.o.okt.wf,c0]
 have n0:∀a∈a9 x.2.2,eZ b cv f a:=fun a ha=>by
  obtain⟨i,hi,rfl⟩:=NZ ha;exact (b2 i _ _ (MI hi) (MI aA)).1
 have n3:∀a∈a9 y.2.2,eZ b cv f a:=fun a ha=>by
  obtain⟨i,hi,rfl⟩:=NZ ha;exact (b2 i _ _ (MI aA) (MI hi)).2
 have l1:n1<=5000:=by
  have h1:=HP.o.len;have h2:=HX.o.few;have h3:=CG x;omega
 have j3:=aB (fun (W:OE) (hB:OB w2 W)=>uE (c:=c1) (d:=c2) HR.o HH.o (b4.o.below hB) hf i1 (HP.o.moved (aS.of_below hB)) (HQ.o.moved (aS.of_below hB)) (by rw[<-HP.o.len,<-HQ.o.len];exact m3) l1 n0 n3);rw[<-e6]at j3;clear e6 b2 i2 b8 m3 n0 n3 l1 c0 b9 e4 o2 g2 e7;go_wp2_with fail;refine wp_region_held_drew (S:=(fun w'=>aS (fun q=>q=g) O w2 w')) aC ?_ (fun D=>?_)
 . (try dsimp only);exact aS.of_below (aU (MC _ _) 1)
 have I:Hid (OB w2 w2.drew):=aB (aU (MC _ _) 1);generalize w2.drew=W1 at *;refine wpAnyH_take (i:=0) (v:=?_) rfl aC aC aC (fun _ _ _ h=>h) (Or.inl ⟨by rfl,fun F hSw=>?_⟩) D ?_;rotate_left
 . (go_simp;try with_reducible rfl)
 try simp only[p7]
 refine wpAnyH_take (i:=1) (v:=?_) rfl aC aC aC (fun _ _ _ h=>h) (Or.inl ⟨by rfl,fun F hSw=>?_⟩) D ?_;rotate_left
 . (go_simp;try with_reducible rfl)
 try simp only[p7]
 refine tk 2 ?_ (fun F hSw=>?_) D ?_;rotate_left
 . have z0:=(aP (hSw.block bf a2.o U.o aD) (off)).trans f1.o;have z1:=(aP (hSw.block bf a2.o U.o aD) (off+1)).trans f2.o;have z2:=(aP (hSw.block bf a2.o U.o aD) (off+2)).trans f3.o;go_simp;try with_reducible rfl
 try simp only[p7]
 refine wpAnyH_take (i:=3) (v:=?_) rfl aC aC aC (fun _ _ _ h=>h) (Or.inl ⟨by rfl,fun F hSw=>?_⟩) D ?_;rotate_left
 . (go_simp;try with_reducible rfl)
 try simp only[p7]
 refine wpAnyH_take (i:=4) (v:=?_) rfl aC aC aC (fun _ _ _ h=>h) (Or.inl ⟨by rfl,fun F hSw=>?_⟩) D ?_;rotate_left
 . (go_simp;try with_reducible rfl)
 try simp only[p7]
 refine tk 5 ?_ (fun F hSw=>?_) D ?_;rotate_left
 . have z0:=(aP (hSw.block bg a3.o Y.o aD) (z)).trans f4.o;have z1:=(aP (hSw.block bg a3.o Y.o aD) (z+1)).trans f5.o;have z2:=(aP (hSw.block bg a3.o Y.o aD) (z+2)).trans f6.o;go_simp;try with_reducible rfl
 try simp only[p7]
 refine tk 6 ?_ (fun F hSw=>?_) D ?_;rotate_left
 . have i3:=d1.o;go_simp;try with_reducible rfl
 try simp only[p7]
 refine wpAnyH_take (i:=7) (v:=?_) rfl aC aC aC (fun _ _ _ h=>h) (Or.inl ⟨by rfl,fun F hSw=>?_⟩) D ?_;rotate_left
 . (go_simp;try with_reducible rfl)
 try simp only[p7]
 refine wpAnyH_take (i:=8) (v:=?_) rfl aC aC aC (fun _ _ _ h=>h) (Or.inl ⟨by rfl,fun F hSw=>?_⟩) D ?_;rotate_left
 . (go_simp;try with_reducible rfl)
 try simp only[p7]
 refine wpAnyH_take (i:=9) (v:=?_) rfl aC aC aC (fun _ _ _ h=>h) (Or.inl ⟨by rfl,fun F hSw=>?_⟩) D ?_;rotate_left
 . (go_simp;try with_reducible rfl)
 try simp only[p7]
 refine wpAnyH_take (i:=10) (v:=?_) rfl aC aC aC (fun _ _ _ h=>h) (Or.inl ⟨by rfl,fun F hSw=>?_⟩) D ?_;rotate_left
 . (go_simp;try with_reducible rfl)
 try simp only[p7]
 refine r1 11 fun K hK=>?_;go_simp;go_at_call 28
 refine (j3.o _ I.o).mono ?_;rintro e w7 G;obtain⟨a4,a5⟩:=OF G (aY (aS.of_below I.o) G.1);obtain⟨is,rfl⟩:=G.bool;clear G;go_wp2_with fail;refine hK.o _ _ (by exact a5.o) fun D=>?_;clear hK K;try simp only[p7]
 refine wpAnyH_take (i:=12) (v:=?_) rfl aC aC aC (fun _ _ _ h=>h) (Or.inl ⟨by rfl,fun F hSw=>?_⟩) D ?_;rotate_left
 . (go_simp;try with_reducible rfl)
 try simp only[p7]
 refine wpAnyH_take (i:=13) (v:=?_) rfl aC aC aC (fun _ _ _ h=>h) (Or.inl ⟨by rfl,fun F hSw=>?_⟩) D ?_;rotate_left
 . (go_simp;try with_reducible rfl)
 try simp only[p7]
 refine wpAnyH_done aC ?_ _;go_wp2_with fail;go_ret;exact a4.o.base (aY b1.o (aS.of_below I.o))
end Go.Proofs.Ytlahmbhimhmoaaa
