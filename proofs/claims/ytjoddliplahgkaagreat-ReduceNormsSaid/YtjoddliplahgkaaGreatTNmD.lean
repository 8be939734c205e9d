/- core: norm. -/
import Derived.Test.YtjoddliplahgkaaGreatTNmC
namespace Go.Proofs.YtjoddliplahgkaaGreat
set_option linter.unusedVariables false
set_option linter.unusedSimpArgs false
open Go.RowKit
open Option renaming none → O, some → Y
open Go.Value renaming slice → X
open Go.Lib renaming hid->aB
variable {f:Fc}{cv:aAA}{g n:Nat}{v:Value}{w w':aAB}
theorem CQ{b:Bk}{D k:Nat}{x:TT}{z:Int}(h:kI b cv k (bX x) 4096=.bad z):jS b (D+1) cv k x=.bad z:=by
 conv=>lhs;unfold jS
 rw[h]
theorem wK{b:Bk}{D k m:Nat}{x:TT}(h:kI b cv k (bX x) 4096=.done f m):jS b (D+1) cv k x=EZ (jS b D) cv f m:=by
 conv=>lhs;unfold jS
 rw[h]
theorem nY{D:List (List Nd)->Nat->TT->uO}{z:Int}(h:fV D (eI cv f.1.1) 0 (bH f.1.2.2) n=.bad z):EZ D cv f n=.bad z:=by
 unfold EZ;rw[h]
theorem nX{D:List (List Nd)->Nat->TT->uO}{n2:Nat}{G:List TT}{z:Int}(h:fV D (eI cv f.1.1) 0 (bH f.1.2.2) n=.done G n2)(F:fV D (fun _=>cv) 0 f.2 n2=.bad z):EZ D cv f n=.bad z:=by
 unfold EZ;rw[h];simp only;rw[F]
theorem wJ{F:List (List Nd)->Nat->TT->uO}{n2 G:Nat}{D rs:List TT}(h:fV F (eI cv f.1.1) 0 (bH f.1.2.2) n=.done D n2)(I:fV F (fun _=>cv) 0 f.2 n2=.done rs G):EZ F cv f n=if 4096<bL (cU f.1 D) then .bad 9 else if 4096<bL (cU f.1 D)+cB rs then .bad 9 else .done (dP (cU f.1 D) rs) G:=by
 unfold EZ;rw[h];simp only;rw[I]
def VO(g:Nat)(v:bR)(b:Bk)(cA:ZZ)(cn cc:Nat)(r:uO)(w:aAB)(e:Ending)(w':aAB):Prop:=aZ (fun q=>q=g) O w w'/\((∃z,r=.bad z/\e=.panicked (nJ z))\/∃y k A n c,r=.done y k/\e=.returned (X A n c)/\bK w' w.heap.size (X A n c) (aW y)/\aT w' g 76 (zB v b cA cn cc k))
def zD(g:Nat)(v:Value)(q:Nat):Prop:=q=g\/v.ownBlock=Y q
theorem oX(h:aZ (fun q=>q=g) O w w'):aZ (zD g v) O w w':=h.mono fun _ e=>.inl e
theorem sT{I:aAB}(h:aZ (fun q=>q=g) O w I)(D:aZ (zD g v) O I w')(hv:∀q,v.ownBlock=Y q->w.heap.size<=q):aZ (fun q=>q=g) O w w' :=
 ⟨D.os.trans h.os,D.tape.trans h.tape,D.output.trans h.output,YE h.size D.size,fun q F G U=>(D.block q (XT F h.size) (fun e=>by
  rcases e with e|e
  . exact G e
  have:=hv q e;omega) aD).trans (h.block q F G U)⟩
theorem oZ{base sz m:Nat}{e:TypeId}{D:List Value}(h:w.ownsRow base e sz v m D)(G:aZ (fun q=>q=g) O w w')(F:g<base):w'.ownsRow base e sz v m D:=tX h G F
theorem lG{base:Nat}{G:List Value}{ls:aAA}(h:bD (dT base w v) w G ls)(F:aZ (fun q=>q=g) O w w')(I:g<base):bD (dT base w' v) w' G ls :=
 bD.keep (fun q D=>⟨⟨D.1,XT D.2.1 F.size,D.2.2⟩,fun o=>aP (F.block q D.2.1 (by have:=D.1;omega) aD) o⟩) h
theorem LE{base m c gk:Nat}{s:List Value}{L:List TT}(ho:w.ownsRow base 29 1 (X (Y ⟨gk,0,O⟩) m c) m s)(hr:bD (dT base w (X (Y ⟨gk,0,O⟩) m c)) w s (L.map aW)){A:ZZ}{G z:Nat}{y:TT}(hy:bK w z (X A n G) (aW y))(hb:base<=z)(a1:gk<z)(hl:(aW y).length<=4096)(i:Nat):
 (w.setCell ⟨gk,i,O⟩ (X A n G)).ownsRow base 29 1 (X (Y ⟨gk,0,O⟩) m c) m (s.set i (X A n G))/\bD (dT base (w.setCell ⟨gk,i,O⟩ (X A n G)) (X (Y ⟨gk,0,O⟩) m c)) (w.setCell ⟨gk,i,O⟩ (X A n G)) (s.set i (X A n G)) ((L.set i y).map aW):=by
 refine⟨mC ho i _,?_⟩;have F:∀q,q≠gk->∀o,(w.setCell ⟨gk,i,O⟩ (X A n G)).cell? ⟨q,o,O⟩=w.cell? ⟨q,o,O⟩:=fun q I o=>aP (XZ w ⟨gk,i,O⟩ _ q I) o;have Z:∀q,(Value.slice (Y ⟨gk,0,O⟩) m c).ownBlock≠Y q->q≠gk:=fun q h e=>h (by rw[e];rfl);rw[List.map_set];refine bD.setAt ?_ i (bD.keep (fun q I=>⟨⟨I.1,by rw[eE];exact I.2.1,I.2.2⟩,F q (Z q I.2.2)⟩) hr);have ht:aX w A n G (aW y):=l7 hy aA;refine⟨ht.len,ht.cap,ht.few,ht.nul,fun hp=>?_⟩;obtain⟨b,off,e,a0,hm⟩:=ht.mem hp;subst e;have U:=aS hy (g:=b) rfl;have D:b≠gk:=by have:=U.1;omega
 refine⟨b,off,rfl,⟨YE hb U.1,by rw[eE];exact a0,fun e=>by injection e with e;exact D e.symm⟩,fun j hj=>?_⟩;obtain⟨h1,h2,h3⟩:=hm j hj;exact⟨(F b D _).trans h1,(F b D _).trans h2,(F b D _).trans h3⟩
set_option maxRecDepth 100000 in
set_option maxHeartbeats 4000000 in
theorem MI{w0:aAB}{v:bR}{b:Bk}(hr:bU b=0)(hb:cE w0 v b):∀(a0:Nat)(w:aAB)(cA:ZZ)(cn cc:Nat)(cv:aAA)(k:Nat)(A:ZZ)(n c:Nat)(x:TT),yO w0 g v b cA cn cc cv k w->bF (fun q=>q<w.heap.size/\q≠g) w A n c (aW x)->GI b cv k x->k<=100000->jS b a0 cv k x≠.bad 99 →
 Calls Tryz.prog 62 #[.pointer (Y ⟨g,0,O⟩),X A n c] w (VO g v b cA cn cc (jS b a0 cv k x) w):=by
 intro a0
 induction a0 with
 | zero=>intro w cA cn cc cv k A n c x _ _ _ _ h9;exact absurd rfl h9
 | succ a0 ih =>
 intro w cA cn cc cv k A n c x hw ht hQ hk p4;have IH:=aB ih;clear ih;obtain⟨hc,hx,hB⟩:=hQ;have J3:=hc.few;obtain⟨d5,k4⟩:=aAJ (jS b (a0+1) cv k x);rw[<-k4]at p4 ⊢;obtain⟨m0,r7⟩:=aAC k4 p4;have G7:=eY hx;have C3:bL x<=4096:=hx.few;have D8:=aB (fR (ht.keep fun q D=>⟨D.1,fun _=>rfl⟩) hx);have m9:=qH hr hc (k*4097+dA (bX x)+1) k (bX x) 4096 (lQ hx) aA aA aA;obtain⟨G9,q7⟩:=aAJ (kI b cv k (bX x) 4096);have e9:mK b cv (k*4097+dA (bX x)+1) k (bX x) 4096=G9:=q7.symm;have y1:=aB (fun (W:aAB) (hB:ZY w W) (A4 B4:ZZ) (n4 c4 m4 d4:Nat) (h9:fL w.heap.size W (bX x) A4 n4 c4 B4 m4 d4)=>zP (w0:=w0) (g:=g) (cA:=cA) (cn:=cn) (cc:=cc) hr hb hc aA (k*4097+dA (bX x)+1) _ (XU _) W (bX x) A4 B4 n4 c4 m4 d4 w.heap.size k 4096 (hw.below hB) hw.lt hB.size h9 (lQ hx) aA aA aA m9.1);rw[e9]at y1;obtain⟨HW,HR,HC,HX,D3,t4,x1⟩:=aAI hw hr hc hx hB hk q7;have J5:=hw.lt;clear hr hb hc hx hB hw ht k4 p4 G7 C3 m9 q7 e9 hk;go_in;go_wp2_with fail;refine (D8.o).mono ?_;rintro e w2 ⟨y4,A2,n2,c2,B2,m2,d2,rfl,z0⟩;obtain⟨r9,D5⟩:=aAC y4 z0;clear y4 z0;go_wp2_with fail;refine (y1.o w2 r9.o A2 B2 n2 c2 m2 d2 D5.o).mono ?_;rintro e w3 ⟨j8,h3⟩;have o5:Hid (aZ (fun q=>q=g) O w w3):=aB ((aZ.of_below r9.o).trans (row':=O) j8 (fun _ e=>by cases e));clear j8;rcases h3 with⟨z,hz,rfl⟩|⟨f,m,A3,n3,c3,B3,m3,d3,hd,rfl,q2,q3⟩
 . have HE:Hid (d5=.bad z):=aB (m0.o.trans (CQ (x1.o.symm.trans hz)));clear hz;go_wp2_with fail;exact⟨rfl,o5.o,.inl ⟨z,HE.o,rfl⟩⟩
 have r4:=x1.o.symm.trans hd;have HE:Hid (d5=EZ (jS b a0) cv f m):=aB (m0.o.trans (wK r4));obtain⟨s,D6⟩:=aAC (DM HR.o HC.o HX.o D3.o r4) q2;obtain⟨b5,p8⟩:=aAJ w3.heap.size;obtain⟨w4,l3⟩:=aAJ (w3.alloc (.cells #[X A3 n3 c3,X B3 m3 d3] 78));have e4:ZY w3 w4:=by rw[l3];exact aQ _ _
 have l0:aT w4 b5 78 #[X A3 n3 c3,X B3 m3 d3]:=by rw[l3];exact aT.new' p8
 have o6:Hid (aZ (fun q=>q=g) O w w4):=aB (o5.o.trans (row':=O) (aZ.of_below e4) (fun _ e=>by cases e));obtain⟨o2,o3,E4⟩:=aAF (q2.below e4) (q3.below e4 q3.lt) l0;have I6:=e4.size;have J0:=o5.o.size;have q5:b5<w4.heap.size:=l0.lt;have z5:=l0.cell;have k8:bO b (cv.length:Int) f.1:=s.o.1.head;have j7:=kE (w:=w4) (o2.o.1.keep (R':=(· < w4.heap.size)) fun q D=>⟨D.2.1,fun _=>rfl⟩) k8.rt.shape;rw[lL k8]at j7;obtain⟨E5,b4,t7⟩:=aAF j7 k8 (fun (W:aAB) (hB:ZY w4 W)=>bF.keep o2.o.1 (R':=(· < W.heap.size)) (w':=W) fun q D=>⟨XT D.2.1 hB.size,fun o=>hB.cell (p:=⟨q,o,O⟩) D.2.1⟩);have y5:w.heap.size<=b5:=aA;have H6:w3.heap.size<=b5:=aA;clear hd q2 q3 r4 l0 e4 k8 j7;go_upto_region 2 with fail
 rw[<-p8,<-l3];clear l3 p8;go_wp2_with fail;refine (E5.o).mono ?_;rintro e w5 ⟨e5,Ak,nk,ck,xs,rfl,U,a1⟩;obtain⟨s0,i7,x5⟩:=aAF e5 U a1;have B1:nk=(bH f.1.2.2).length:=by have:=a1.len;have:=U.1;rw[YR]at *;omega
 have d9:=aB B1;have I7:=e5.size;have H0:=fun i=>(e5.cell (p:=⟨b5,i,O⟩) q5).trans (z5 i);have p9:=BR (t7.o w5 e5) b4.o.rt.shape;rw[(tQ b4.o).1,(tQ b4.o).2]at p9;have D1:=aB p9;clear e5 U a1 B1 p9;go_wp2_with fail;refine (D1.o).mono ?_;rintro e w6 ⟨b3,Ar,nr,cr,rfl,j4⟩;have g8:=bY s0 b3;have t1:=aB j4;have B5:nr=(bH f.1.2.2).length:=by have:=j4.len;rw[BP]at this;rw[wC];exact this.symm
 have v6:=aB B5;have I8:=b3.size;have H1:=fun i=>(g8.o.cell (p:=⟨b5,i,O⟩) q5).trans (z5 i);have i8:=aB (bI i7.o b3);have m1:Hid (bD (dT w4.heap.size w6 (X Ak nk ck)) w6 xs ((bH f.1.2.2).map aW)):=aB (bD.keep (fun q D=>⟨⟨D.1,XT D.2.1 b3.size,D.2.2⟩,fun o=>b3.cell (p:=⟨q,o,O⟩) D.2.1⟩) x5.o);have J6:=q8 b4.o;have t5:=aB (jL i8.o (by rw[YR];exact d9.o) (by have:=d9.o;omega) m1.o (R:=(· < w6.heap.size)) (fun q D=>D.2.1) (fun q D=>(aS i8.o D).2.1));have D2:=aB (GZ aA aA (t7.o w6 g8.o) b4.o t5.o);clear b3 j4 B5 H0;go_wp2_with fail;refine (D2.o).mono ?_;rintro e w7 ⟨a8,Ad,cd,bx,rfl,q0,y8,l2⟩;have g9:=bY g8 a8;have I9:=a8.size;obtain⟨nd,l1⟩:=aAJ (pY f.1.1);rw[<-l1]at q0 l2 ⊢;have n5:nd<=1000:=by
  have U:=b4.o.okt.ok;simp only[eW,YC]at U;have J8:=aV.1 U.1.1;rw[l1];unfold pY;split
  . omega
  split<;>omega
 have E6:=aB l1;have l4:=aB (GC.of_own l2 q0 y8 n5);have r8:Hid (∀q,Ad=Y ⟨q,0,O⟩->w6.heap.size<=q):=aB (fun q e=>by subst e;exact (aS l2 rfl).1);have v9:=aB (bI i8.o a8);have x6:Hid (bD (dT w4.heap.size w7 (X Ak nk ck)) w7 xs ((bH f.1.2.2).map aW)):=aB (bD.keep (fun q D=>⟨⟨D.1,XT D.2.1 a8.size,D.2.2⟩,fun o=>a8.cell (p:=⟨q,o,O⟩) D.2.1⟩) m1.o);have t2:Hid (qM (fun q=>w5.heap.size<=q/\q<w6.heap.size) w7 Ar nr cr (GB f.1.1.op f.1.1.b 0 f.1.2.2)):=aB (t1.o.keep fun q D=>⟨D,fun o=>a8.cell (p:=⟨q,o,O⟩) D.2⟩);have s8:=aB (o3.o.below g9.o o3.o.lt);have k6:Hid (aZ (fun q=>q=g) O w w7):=aB (o6.o.trans (row':=O) (aZ.of_below g9.o) (fun _ e=>by cases e));have d7:Hid (∀q,(Value.slice Ak nk ck).ownBlock=Y q->w4.heap.size<=q/\q<w5.heap.size):=aB (fun q e=>⟨(aS i7.o e).1,(aS i7.o e).2.1⟩);have K5:=s8.o.cell;have J4:g<w4.heap.size:=o3.o.lt;have D4:=aB (fun (W:aAB)=>MF (w:=W) HW.o.ctx.cap HW.o.ctx.nul);have y9:cn<=990000:=by have:=HW.o.ctx.len;omega
 clear a8 q0 y8 l2 l1 n5 H1;go_upto_region 6 with fail
 go_wp2_with fail;go_loopw [34] (fun iv wr=>∃(i ki:Nat)(g7:List Value)(ys:List TT),i<=nk/\iv=.int .i64 (i:Int)/\Hid (DS (jS b a0) (eI cv f.1.1) (bH f.1.2.2) m i ys ki)/\Hid (∀(j:Nat)(z:TT),ys[j]? = Y z->bO b ((eI cv f.1.1 j).length:Int) z)/\Hid (aZ (zD g (X Ak nk ck)) O w7 wr)/\Hid (wr.ownsRow w4.heap.size 29 1 (X Ak nk ck) nk g7)/\Hid (bD (dT w4.heap.size wr (X Ak nk ck)) wr g7 ((ys++(bH f.1.2.2).drop i).map aW))/\Hid (∃(b7:ZZ)(F6 b8:Nat),aT wr g 76 (zB v b b7 F6 b8 ki))) (fun iv _=>nk-(intOf iv).toNat)
 case atStart=>exact⟨0,m,xs,[],by omega,rfl,aB (DS.start _ _ _ _),aB (fun j z h=>by simp at h),aB (aZ.refl _ _ _),v9,x6,aB ⟨_,_,_,s8.o⟩⟩
 case round =>
  obtain⟨i,ki,g7,ys,hi,rfl,a6,c0,G,U,a1,c5⟩:=hrel;obtain⟨F,rfl⟩:=aAJ wr;have Z:=a6.o.len;have q4:=a6.o.le;by_cases f7:i<nk
  . have e1:decide ((i:Int)<(nk:Int))=true:=XR aA;have e2:decide (i<nk)=true:=XR f7;have e3:(i:Int)<(nk:Int):=aA;have e8:i<(bH f.1.2.2).length:=by have:=d9.o;omega
    obtain⟨y0,g3⟩:∃y,(bH f.1.2.2)[i]? = Y y:=⟨_,YB e8⟩;obtain⟨q6,gk,A1,n1,c1,G1,I2,I3,G3,g1⟩:=kA U.o a1.o (i:=i) (by rw[XX,YS,Z];omega);rw[uU Z g3]at g1;clear q6;have b6:=aB g3;have b2:=aB a6.o;have g6:=aB c0.o;have o7:=aB G.o;have p2:=aB g1;subst G1;have o9:=aB U.o;have p1:=aB a1.o;obtain⟨F4,F7,F5,e7⟩:=c5.o;have f3:=aB e7;have C2:=G.o.size;have z2:g≠gk:=aA
    -- what is read
    have C1:∃bb oo,Ar=Y ⟨bb,oo,O⟩/\bb<F.heap.size/\bb≠g/\F.cell? ⟨bb,oo+i,O⟩=Y (.int .i64 (aR f.1.1.op f.1.1.b (i:Int))):=by
     have j4:i<nr:=by rw[v6.o];exact e8
     obtain⟨bb,oo,e,j0,hm⟩:=t2.o.mem aA;have h9:=hm i j4;rw[OL _ _ _ _ _ (by rw[<-wC];exact e8),YH]at h9;refine⟨bb,oo,e,by have:=j0.2;omega,by have:=j0.1;omega,?_⟩;exact (aP (G.o.block bb (by have:=j0.2;omega) (fun e=>by
      rcases e with e|e
      . have:=j0.1;omega
      have:=(d7.o bb e).2;have:=j0.1;omega) aD) _).trans h9
    obtain⟨bb,oo,rfl,y7,H8,m5⟩:=C1;obtain⟨G2,p5⟩:=mM (cv:=cv) s.o.1 s.o.2.2.2.1 i;obtain⟨ai,p6⟩:∃ai:Nat,aR f.1.1.op f.1.1.b (i:Int)=(ai:Int):=⟨(aR f.1.1.op f.1.1.b (i:Int)).toNat,by omega⟩;rw[p6]at m5 p5;have y2:ai<=nd:=by rw[E6.o];simpa using p5
    have B0:∀q,Ad=Y ⟨q,0,O⟩->¬ zD g (Value.slice (Y ⟨gk,0,O⟩) nk ck) q:=fun q e h=>by
     have D:=r8.o q e;rcases h with h|h
     . omega
     have:=(d7.o q h).2;omega
    have s2:=aB (l4.o.moved G.o B0);have H4:(ai:Int)<=(cd:Int):=by have:=l4.o.cap;omega
    have H5:(0:Int)<=(ai:Int):=aA;have a3:Hid (aZ (fun q=>q=g) O w F):=aB (sT k6.o G.o (fun q e=>by have:=(d7.o q e).1;have:=o6.o.size;omega));have s4:Hid (jU (fun q=>q<w.heap.size/\q≠g) F cA cn cc cv):=aB (HW.o.ctx.keep fun q D=>⟨D,fun o=>aP (a3.o.block q D.1 D.2 aD) o⟩);have G4:g<F.heap.size:=f3.o.lt;have C4:=G.o.size;have C5:=k6.o.size;have C9:=aB p6;have I4:i<nr:=by rw[v6.o];exact e8
    have G5:(i:Int)<(nr:Int):=aA;clear a6 c0 G U a1 c5 g1 e7 B0 p6 G2 p5 Z g3;go_upto_region 9 with fail
    refine wp_region_held_drew (S:=(fun w'=>∀q,q<F.heap.size->q≠g->w'.heap[q]? = F.heap[q]?)) aC ?_ (fun hZ=>?_)
    . (try dsimp only);exact fun q _ _=>rfl
    have a7:Hid (ZY F F.drew):=aB (aU (XS _ _) 1);generalize F.drew=W1 at *;refine wpAnyH_take (i:=0) (v:=?_) rfl aC aC aC (fun _ _ _ h=>h) (Or.inl ⟨by rfl,fun wz hSw=>?_⟩) hZ ?_;rotate_left
    . (go_simp;try with_reducible rfl)
    try simp only[p7]
    refine wpAnyH_take (i:=1) (v:=?_) rfl aC aC aC (fun _ _ _ h=>h) (Or.inl ⟨by rfl,fun wz hSw=>?_⟩) hZ ?_;rotate_left
    . (go_simp;try with_reducible rfl)
    try simp only[p7]
    refine wpAnyH_take (i:=3) (v:=?_) rfl aC aC aC (fun _ _ _ h=>h) (Or.inl ⟨by rfl,fun wz hSw=>?_⟩) hZ ?_;rotate_left
    . (go_simp;try with_reducible rfl)
    try simp only[p7]
    refine wpAnyH_take (i:=4) (v:=?_) rfl aC aC aC (fun _ _ _ h=>h) (Or.inl ⟨by rfl,fun wz hSw=>?_⟩) hZ ?_;rotate_left
    . (go_simp;try with_reducible rfl)
    try simp only[p7]
    refine wpAnyH_take (i:=5) (v:=?_) rfl aC aC aC (fun _ _ _ h=>h) (Or.inl ⟨by rfl,fun wz hSw=>?_⟩) hZ ?_;rotate_left
    . (go_simp;try with_reducible rfl)
    try simp only[p7]
    refine wpAnyH_take (i:=6) (v:=?_) rfl aC aC aC (fun _ _ _ h=>h) (Or.inl ⟨by rfl,fun wz hSw=>?_⟩) hZ ?_;rotate_left
    . (go_simp;try with_reducible rfl)
    try simp only[p7]
    refine wpAnyH_take (i:=7) (v:=?_) rfl aC aC aC (fun _ _ _ h=>h) (Or.inl ⟨by rfl,fun wz hSw=>?_⟩) hZ ?_;rotate_left
    . (have r0:=(aP (hSw (bb) y7 aA) (oo+i)).trans m5;go_simp;try with_reducible rfl)
    try simp only[p7]
    refine wpAnyH_take (i:=8) (v:=?_) rfl aC aC aC (fun _ _ _ h=>h) (Or.inl ⟨by rfl,fun wz hSw=>?_⟩) hZ ?_;rotate_left
    . (go_simp;try with_reducible rfl)
    try simp only[p7]
    refine r1 2 fun K hK=>?_;go_simp;go_at_call 107
    refine (D4.o W1).mono ?_;rintro en W1 ⟨rfl,rfl⟩;go_wp2_with fail;refine hK.o _ _ (by exact fun q h1 _=>a7.o.block q h1) fun hZ=>?_;clear hK K;try simp only[p7]
    have s3:=aB (s4.o.keep (R':=fun q=>q<w.heap.size/\q≠g) (w':=W1) fun q D=>⟨D,fun o=>a7.o.cell (p:=⟨q,o,O⟩) (show q<F.heap.size by have:=D.1;omega)⟩);have s1:=aB (s2.o.moved (aZ.of_below (S:=fun _=>False) a7.o) (fun _ _ h=>h));refine r1 9 fun K hK=>?_;refine uK rfl (.tmp 41) (.tmp 47) rfl s3.o (fun q D=>by have:=D.1;have:=a7.o.size;omega) y9 aF s1.o y2 aF ?_;intro b7 b8 w9 f6 m8;have f2:=bY a7 f6;have s5:=aB m8;clear f6 m8;refine hK.o _ _ (by exact fun q h1 _=>f2.o.block q h1) fun hZ=>?_;clear hK K;try simp only[p7]
    refine wpAnyH_take (i:=10) (v:=?_) rfl aC aC aC (fun _ _ _ h=>h) (Or.inl ⟨by rfl,fun wz hSw=>?_⟩) hZ ?_;rotate_left
    . ((try dsimp only at hSw);go_simp;try with_reducible rfl)
    try simp only[p7]
    refine wpAnyH_take (i:=11) (v:=?_) rfl aC aC aC (fun _ _ _ h=>h) (Or.inl ⟨by rfl,fun wz hSw=>?_⟩) hZ ?_;rotate_left
    . ((try dsimp only at hSw);go_simp;try with_reducible rfl)
    try simp only[p7]
    have l5:=aB (f3.o.below f2.o f3.o.lt);have K6:=l5.o.cell;have J2:=l5.o.frozen;refine r1 12 fun K hK=>?_;go_simp;refine hK.o _ _ (by exact fun q h1 h2=>(XZ _ ⟨g,5,O⟩ _ q h2).trans (f2.o.block q h1)) fun hZ=>?_;clear hK K;try simp only[p7]
    refine wpAnyH_done aC ?_ _;obtain⟨wn,g2⟩:=aAJ (w9.setCell ⟨g,5,O⟩ (X b7 (cn+ai) b8));have K1:wn.heap.size=w9.heap.size:=by rw[g2];exact eE _ _ _ _
    have K0:=f2.o.size;have z9:∀q,q<F.heap.size->q≠g->wn.heap[q]? = F.heap[q]?:=fun q h1 h2=>by rw[g2];exact (XZ _ ⟨g,5,O⟩ _ q h2).trans (f2.o.block q h1)
    have j9:aZ (fun q=>q=g) O F wn:=by rw[g2];exact (aZ.of_below (S:=fun q=>q=g) (row:=O) f2.o).setCell (p:=⟨g,5,O⟩) rfl _
    have E0:Hid (aT wn g 76 (zB v b b7 (cn+ai) b8 ki)):=aB (by rw[g2];have:=(f3.o.below f2.o f3.o.lt).set_ 5 (X b7 (cn+ai) b8);simpa[zB] using this);have s6:Hid (jU (fun q=>q<wn.heap.size/\q≠g) wn b7 (cn+ai) b8 (eI cv f.1.1 i)):=aB (by
     unfold eI;rw[C9.o,YG,g2];refine s5.o.keep fun q D=>?_;have B8:q≠g:=by
      rcases D with D|D
      . exact D.2
      have:=a7.o.size;omega
     refine⟨⟨?_,B8⟩,fun o=>aP (XZ _ ⟨g,5,O⟩ _ q B8) o⟩;rw[eE];rcases D with D|D
     . omega
     exact D.2)
    have l7:Hid (aZ (fun q=>q=g) O w wn):=aB (a3.o.trans (row':=O) j9 (fun _ e=>by cases e));have t9:Hid (yO w0 g v b b7 (cn+ai) b8 (eI cv f.1.1 i) ki wn):=aB ⟨HW.o.bel.trans (l7.o.to_below HW.o.bel.size (fun q e=>by rw[e];exact HW.o.ge) (fun _ e=>by cases e)),E0.o,HW.o.ge,s6.o⟩;have v2:=aB (o7.o.trans (row':=O) (oX (v:=X (Y ⟨gk,0,O⟩) nk ck) j9) (fun _ e=>by cases e));have w1:=aB (oZ o9.o j9 aA);have x7:=aB (lG p1.o j9 aA);have F3:Hid (bF (fun q=>q<wn.heap.size/\q≠g) wn A1 n1 c1 (aW y0)):=aB (p2.o.keep fun q D=>⟨⟨by have:=D.2.1;omega,by have:=D.1;omega⟩,fun o=>aP (z9 q D.2.1 (by have:=D.1;omega)) o⟩);have A0:=KP HC.o s.o.1 s.o.2.2.2.1 s.o.2.2.2.2.1 b6.o;have f9:=A0.1.mono q4;have f0:jS b a0 (eI cv f.1.1 i) ki y0≠.bad 99:=fun e=>r7.o (HE.o.trans (nY (b2.o.bad b6.o e)));have z4:ki<=100000:=by have:=s.o.2.2.1;have:=t4.o;omega
    have h6:=aB (IH.o wn b7 (cn+ai) b8 (eI cv f.1.1 i) ki A1 n1 c1 y0 t9.o F3.o f9 z4 f0);obtain⟨r3,g0⟩:=aAJ (jS b a0 (eI cv f.1.1 i) ki y0);rw[<-g0]at h6;obtain⟨f4,p0⟩:=aAC g0 f9;clear A0 f9 f0 g0 j9 z9;go_upto_region 10 with fail
    rw[<-g2];clear g2;go_wp2_with fail;refine (h6.o).mono ?_;rintro e wm ⟨a9,q9⟩;have i2:Hid (aZ (fun q=>q=g) O w wm):=aB (l7.o.trans (row':=O) a9 (fun _ e=>by cases e));rcases q9 with⟨z,hz,rfl⟩|⟨y,k2,A6,n6,c6,hd,rfl,k3,j5⟩
    . have a2:Hid (d5=.bad z):=aB (HE.o.trans (nY (b2.o.bad b6.o (f4.o.symm.trans hz))));clear hz a9;go_wp2_with fail;exact⟨rfl,i2.o,.inl ⟨z,a2.o,rfl⟩⟩
    have I:=jI HR.o a0 _ _ _ p0.o y k2 (f4.o.symm.trans hd);have i3:=aB (b2.o.next b6.o (f4.o.symm.trans hd) I.2);have h4:Hid (∀(j:Nat)(z:TT),(ys++[y])[j]? = Y z->bO b ((eI cv f.1.1 j).length:Int) z):=aB (fun j z hz=>by
     by_cases hj:j<ys.length
     . rw[List.getElem?_append_left hj]at hz;exact g6.o j z hz
     rw[List.getElem?_append_right aA]at hz;have k9:j-ys.length<[y].length:=(ZH.1 hz).1;have G6:j=i:=by have:=b2.o.len;simp at k9;omega
     have r6:z=y:=by
      rw[show j-ys.length=0 from by simp at k9;omega]at hz;simpa using hz.symm
     rw[G6,r6];exact I.1)
    obtain⟨a4,i9,i0⟩:=aAF (oZ w1.o a9 aA) (lG x7.o a9 aA) (v2.o.trans (row':=O) (oX (v:=X (Y ⟨gk,0,O⟩) nk ck) a9) (fun _ e=>by cases e));have b0:=LE a4.o i9.o k3 aA aA I.1.few i;rw[rU b2.o.len e8]at b0;have e0:=aB b0;obtain⟨b9,e6⟩:∃b9,aT wm gk 29 b9:=by
     obtain⟨F9,b9,e,_,j1,_⟩:=mW a4.o aA;simp only[YT,Addr.mk.injEq]at e;exact⟨b9,by rw[e.1];exact j1⟩
    have fk:=e6.frozen;have q1:∃u,wm.cell? ⟨gk,i,O⟩=Y u:=by
     have h9:=a4.o.cellAt (g:=gk) i aA;have r5:i<g7.length:=by have:=a4.o.1;omega
     exact⟨_,h9.trans (YB r5)⟩
    obtain⟨u3,G8⟩:=q1;have o4:Hid (aT (wm.setCell ⟨gk,i,O⟩ (X A6 n6 c6)) g 76 (zB v b b7 (cn+ai) b8 k2)):=aB (j5.far (p:=⟨gk,i,O⟩) z2 _);have i1:=aB (i0.o.setCell (p:=⟨gk,i,O⟩) (.inr rfl) (X A6 n6 c6));clear a9 hd I k3 j5 b0 e6;go_wp2_with fail;go_roundw
    case rel=>exact⟨i+1,k2,g7.set i (X A6 n6 c6),ys++[y],by omega,by go_num,i3,h4,i1,aB e0.o.1,aB e0.o.2,aB ⟨_,_,_,o4.o⟩⟩
    case measure=>simp[intOf];omega
  have e1:decide ((i:Int)<(nk:Int))=false:=XQ aA;have e2:decide (i<nk)=false:=XQ f7;have j3:i=nk:=aA;obtain⟨F4,F7,F5,e7⟩:=c5.o;have i4:=aB (a6.o.fin (by have:=d9.o;omega));have l6:=aB q4;have g6:=aB c0.o;have C8:ys.length=(bH f.1.2.2).length:=by rw[Z,j3];exact d9.o
  have k7:=aB C8;have j2:ys++(bH f.1.2.2).drop i=ys:=by rw[YY (by have:=d9.o;omega),YP]
  have b1:=a1.o;rw[j2]at b1;have a3:Hid (aZ (fun q=>q=g) O w F):=aB (sT k6.o G.o (fun q e=>by have:=(d7.o q e).1;have:=o6.o.size;omega));have G4:g<F.heap.size:=e7.lt;have H2:=e7.cell;have F8:=e7.frozen;have C4:=G.o.size;have C5:=k6.o.size
  -- the machine has its context again
  obtain⟨wp,k5⟩:=aAJ (F.setCell ⟨g,5,O⟩ (X cA cn cc));have K2:wp.heap.size=F.heap.size:=by rw[k5];exact eE _ _ _ _
  have k0:aZ (fun q=>q=g) O F wp:=by rw[k5];exact (aZ.refl (fun q=>q=g) O F).setCell (p:=⟨g,5,O⟩) rfl _
  have E1:Hid (aT wp g 76 (zB v b cA cn cc ki)):=aB (by rw[k5];have:=e7.set_ 5 (X cA cn cc);simpa[zB] using this);have v4:Hid (aZ (fun q=>q=g) O w wp):=aB (a3.o.trans (row':=O) k0 (fun _ e=>by cases e));have x0:=aB (oZ U.o k0 aA);have x8:=aB (lG b1 k0 aA);have v3:Hid (aZ (zD g (X Ak nk ck)) O w7 wp):=aB (G.o.trans (row':=O) (oX k0) (fun _ e=>by cases e));have g4:∀q,q<w4.heap.size->q≠g->wp.heap[q]? = w4.heap[q]?:=fun q h1 h2=>(v3.o.block q aA (fun e=>by
   rcases e with e|e
   . exact h2 e
   have:=(d7.o q e).1;omega) aD).trans (g9.o.block q h1)
  have s7:Hid (fL w.heap.size wp f A3 n3 c3 B3 m3 d3):=aB (o2.o.keep (fun q h1 h2=>g4 q h2 aA) aA (fun K4 h9=>mA h9 (fun q e=>g4 q (aS h9 e).2.1 (by have:=(aS h9 e).1;omega))));have h7:Hid (aT wp b5 78 #[X A3 n3 c3,X B3 m3 d3]):=aB (E4.o.same (g4 b5 q5 aA));have K7:=h7.o.cell;have A9:b5<wp.heap.size:=h7.o.lt;have m6:b5≠g:=aA;obtain⟨z3,xa,B7,B9⟩:=s7.o;have E8:=aB B7;have E9:=aB B9;have E2:=aB z3;have j8:m3=f.2.length:=s7.o.len.2;have d8:=aB j8;have y6:∀q,(Value.slice B3 m3 d3).ownBlock=Y q->w.heap.size<=q/\q<w3.heap.size:=fun q e=>by
   obtain⟨_,K3,h9,_⟩:=D6.o;exact⟨(aS h9 e).1,(aS h9 e).2.1⟩
  have g5:=aB y6;have I5:m3<=4096:=by have:=dM.argsLen s.o.1 s.o.2.1;omega
  clear a6 c0 G U a1 c5 e7 k0 f7 j3 C8 j2 b1 z3 B7 B9 j8 y6 g4 Z q4;go_upto_region 13 with fail
  rw[<-k5];clear k5 H2 F8;go_wp2_with fail;go_loopw [65] (fun iv wr=>∃(i kj:Nat)(f1:List Value)(rs:List TT),i<=m3/\iv=.int .i64 (i:Int)/\Hid (DS (jS b a0) (fun _=>cv) f.2 ki i rs kj)/\Hid (∀(j:Nat)(z:TT),rs[j]? = Y z->bO b (cv.length:Int) z)/\Hid (aZ (zD g (X B3 m3 d3)) O wp wr)/\Hid (wr.ownsRow w.heap.size 29 1 (X B3 m3 d3) m3 f1)/\Hid (bD (dT w.heap.size wr (X B3 m3 d3)) wr f1 ((rs++f.2.drop i).map aW))/\Hid (aT wr g 76 (zB v b cA cn cc kj))) (fun iv _=>m3-(intOf iv).toNat)
  case atStart=>exact⟨0,ki,xa,[],by omega,rfl,aB (DS.start _ _ _ _),aB (fun j z h=>by simp at h),aB (aZ.refl _ _ _),E8,E9,E1⟩
  case round =>
   obtain⟨i,kj,f1,rs,hi,rfl,a6,c0,G,U,a1,c5⟩:=hrel;obtain⟨F,rfl⟩:=aAJ wr;have Z:=a6.o.len;have z6:=a6.o.le;have C2:=G.o.size;have h8:Hid (aT F b5 78 #[X A3 n3 c3,X B3 m3 d3]):=aB (h7.o.same (G.o.block b5 A9 (fun e=>by
    rcases e with e|e
    . exact m6 e
    have:=(g5.o b5 e).2;omega) aD))
   have H3:=h8.o.cell;have n0:b5<F.heap.size:=h8.o.lt;have a3:Hid (aZ (fun q=>q=g) O w F):=aB (sT v4.o G.o (fun q e=>(g5.o q e).1));by_cases f7:i<m3
   . have e1:decide ((i:Int)<(m3:Int))=true:=XR aA;have e2:decide (i<m3)=true:=XR f7;have e3:(i:Int)<(m3:Int):=aA;have e8:i<f.2.length:=by have:=d8.o;omega
     obtain⟨y0,g3⟩:∃y,f.2[i]? = Y y:=⟨_,YB e8⟩;obtain⟨q6,ga,A1,n1,c1,G0,I0,I1,G3,g1⟩:=kA U.o a1.o (i:=i) (by rw[XX,YS,Z];omega);rw[uU Z g3]at g1;clear q6;have b6:=aB g3;have b2:=aB a6.o;have g6:=aB c0.o;have o7:=aB G.o;have p2:Hid (bF (fun q=>q<F.heap.size/\q≠g) F A1 n1 c1 (aW y0)):=aB (g1.keep fun q D=>⟨⟨D.2.1,by have:=D.1;omega⟩,fun _=>rfl⟩);subst G0;have o9:=aB U.o;have p1:=aB a1.o;have h5:=aB c5.o;have z1:g≠ga:=aA;have H7:b5≠ga:=by have:=(g5.o ga rfl).2;omega
     have v0:Hid (yO w0 g v b cA cn cc cv kj F):=aB (HW.o.moved a3.o h5.o);have y3:=J7 HC.o s.o.1 s.o.2.2.2.2.1 b6.o;have f9:=y3.1.mono (YE z6 l6.o);have f0:jS b a0 cv kj y0≠.bad 99:=fun e=>r7.o (HE.o.trans (nX i4.o (b2.o.bad b6.o e)));have z7:kj<=100000:=by have:=s.o.2.2.1;have:=l6.o;have:=t4.o;omega
     have h6:=aB (fun (W:aAB) (hB:ZY F W)=>IH.o W cA cn cc cv kj A1 n1 c1 y0 (v0.o.below hB) (bF.keep p2.o (R':=fun q=>q<W.heap.size/\q≠g) (w':=W) fun q D=>⟨⟨XT D.1 hB.size,D.2⟩,fun o=>hB.cell (p:=⟨q,o,O⟩) D.1⟩) f9 z7 f0);obtain⟨r3,g0⟩:=aAJ (jS b a0 cv kj y0);rw[<-g0]at h6;obtain⟨f4,p0⟩:=aAC g0 f9;clear a6 c0 G U a1 c5 g1 y3 f9 f0 g0 Z g3;go_upto_region 16 with fail
     refine wp_region_held_drew (S:=(fun w'=>∀q,q<F.heap.size->q≠g->q≠ga->w'.heap[q]? = F.heap[q]?)) aC ?_ (fun hZ=>?_)
     . (try dsimp only);exact fun q _ _ _=>rfl
     have a7:Hid (ZY F F.drew):=aB (aU (XS _ _) 1);generalize F.drew=W1 at *;refine wpAnyH_take (i:=0) (v:=?_) rfl aC aC aC (fun _ _ _ h=>h) (Or.inl ⟨by rfl,fun wz hSw=>?_⟩) hZ ?_;rotate_left
     . (go_simp;try with_reducible rfl)
     try simp only[p7]
     refine wpAnyH_take (i:=1) (v:=?_) rfl aC aC aC (fun _ _ _ h=>h) (Or.inl ⟨by rfl,fun wz hSw=>?_⟩) hZ ?_;rotate_left
     . (have r0:=(aP (hSw (b5) n0 aA aA) 1).trans (H3 1);go_simp;try with_reducible rfl)
     try simp only[p7]
     refine wpAnyH_take (i:=2) (v:=?_) rfl aC aC aC (fun _ _ _ h=>h) (Or.inl ⟨by rfl,fun wz hSw=>?_⟩) hZ ?_;rotate_left
     . (go_simp;try with_reducible rfl)
     try simp only[p7]
     refine wpAnyH_take (i:=3) (v:=?_) rfl aC aC aC (fun _ _ _ h=>h) (Or.inl ⟨by rfl,fun wz hSw=>?_⟩) hZ ?_;rotate_left
     . (go_simp;try with_reducible rfl)
     try simp only[p7]
     refine wpAnyH_take (i:=4) (v:=?_) rfl aC aC aC (fun _ _ _ h=>h) (Or.inl ⟨by rfl,fun wz hSw=>?_⟩) hZ ?_;rotate_left
     . (go_simp;try with_reducible rfl)
     try simp only[p7]
     refine r1 5 fun K hK=>?_;go_simp;go_at_call 62
     refine (h6.o W1 a7.o).mono ?_;rintro en wm ⟨a9,q9⟩;have i2:Hid (aZ (fun q=>q=g) O w wm):=aB ((a3.o.trans (row':=O) (aZ.of_below a7.o) (fun _ e=>by cases e)).trans (row':=O) a9 (fun _ e=>by cases e));rcases q9 with⟨z,hz,rfl⟩|⟨y,k2,A6,n6,c6,hd,rfl,k3,j5⟩
     . have a2:Hid (d5=.bad z):=aB (HE.o.trans (nX i4.o (b2.o.bad b6.o (f4.o.symm.trans hz))));clear hz a9;go_wp2_with fail;exact⟨rfl,i2.o,.inl ⟨z,a2.o,rfl⟩⟩
     have I:=jI HR.o a0 _ _ _ p0.o y k2 (f4.o.symm.trans hd);have i3:=aB (b2.o.next b6.o (f4.o.symm.trans hd) I.2);have h4:Hid (∀(j:Nat)(z:TT),(rs++[y])[j]? = Y z->bO b (cv.length:Int) z):=aB (fun j z hz=>by
      by_cases hj:j<rs.length
      . rw[List.getElem?_append_left hj]at hz;exact g6.o j z hz
      rw[List.getElem?_append_right aA]at hz;have k9:j-rs.length<[y].length:=(ZH.1 hz).1;have r6:z=y:=by
       rw[show j-rs.length=0 from by simp at k9;omega]at hz;simpa using hz.symm
      rw[r6];exact I.1)
     have k1:aZ (fun q=>q=g) O F wm:=(aZ.of_below a7.o).trans (row':=O) a9 (fun _ e=>by cases e);have v1:=aB k1;have a4:=aB (oZ o9.o k1 aA);have i9:=aB (lG p1.o k1 aA);have i0:=aB (o7.o.trans (row':=O) (oX (v:=X (Y ⟨ga,0,O⟩) m3 d3) k1) (fun _ e=>by cases e));have b0:=LE a4.o i9.o k3 (by have:=a7.o.size;have:=a3.o.size;omega) (by have:=a7.o.size;omega) I.1.few i;rw[rU b2.o.len e8]at b0;have e0:=aB b0;obtain⟨b9,e6⟩:∃b9,aT wm ga 29 b9:=by
      obtain⟨F9,b9,e,_,j1,_⟩:=mW a4.o aA;simp only[YT,Addr.mk.injEq]at e;exact⟨b9,by rw[e.1];exact j1⟩
     have fk:=e6.frozen;have q1:∃u,wm.cell? ⟨ga,i,O⟩=Y u:=by
      have h9:=a4.o.cellAt (g:=ga) i aA;have r5:i<f1.length:=by have:=a4.o.1;omega
      exact⟨_,h9.trans (YB r5)⟩
     obtain⟨u3,G8⟩:=q1;have o4:Hid (aT (wm.setCell ⟨ga,i,O⟩ (X A6 n6 c6)) g 76 (zB v b cA cn cc k2)):=aB (j5.far (p:=⟨ga,i,O⟩) z1 _);have i1:=aB (i0.o.setCell (p:=⟨ga,i,O⟩) (.inr rfl) (X A6 n6 c6));clear a9 k1 hd I k3 j5 b0 e6;go_wp2_with fail;refine hK.o _ _ (by exact fun q h1 h2 _=>v1.o.block q h1 h2 aD) fun hZ=>?_;clear hK K;try simp only[p7]
     refine wpAnyH_take (i:=6) (v:=?_) rfl aC aC aC (fun _ _ _ h=>h) (Or.inl ⟨by rfl,fun wz hSw=>?_⟩) hZ ?_;rotate_left
     . ((try dsimp only at hSw);go_simp;try with_reducible rfl)
     try simp only[p7]
     refine r1 7 fun K hK=>?_;go_simp;refine hK.o _ _ (by exact fun q h1 h2 h3=>(XZ _ ⟨ga,i,O⟩ _ q h3).trans (v1.o.block q h1 h2 aD)) fun hZ=>?_;clear hK K;try simp only[p7]
     refine wpAnyH_done aC ?_ _;go_wp2_with fail;go_roundw
     case rel=>exact⟨i+1,k2,f1.set i (X A6 n6 c6),rs++[y],by omega,by go_num,i3,h4,i1,aB e0.o.1,aB e0.o.2,o4⟩
     case measure=>simp[intOf];omega
   have e1:decide ((i:Int)<(m3:Int))=false:=XQ aA;have e2:decide (i<m3)=false:=XQ f7;have j3:i=m3:=aA;have C0:rs.length=f.2.length:=by rw[Z,j3];exact d8.o
   have j2:rs++f.2.drop i=rs:=by rw[YY (by have:=d8.o;omega),YP]
   have b1:=a1.o;rw[j2]at b1;have v7:=aB (a6.o.fin (by have:=d8.o;omega));have v5:Hid (d5=if 4096<bL (cU f.1 ys) then .bad 9 else if 4096<bL (cU f.1 ys)+cB rs then .bad 9 else .done (dP (cU f.1 ys) rs) kj):=aB (HE.o.trans (wJ i4.o v7.o));have D9:=aB c0.o;have F1:=aB C0;have h5:=aB c5.o;have i5:=aB U.o;have x3:=aB b1;have c9:∀q,q<wp.heap.size->q≠g->(Value.slice B3 m3 d3).ownBlock≠Y q->F.heap[q]? = wp.heap[q]?:=fun q h1 h2 h3=>G.o.block q h1 (fun e=>by
    rcases e with e|e
    . exact h2 e
    exact h3 e) aD
   have t0:Hid (bF (fun q=>q<F.heap.size/\q≠g) F A3 n3 c3 (aW f.1)):=aB (E2.o.keep fun q D=>⟨⟨by have:=D.2.1;omega,by have:=D.1;omega⟩,fun o=>aP (c9 q D.2.1 (by have:=D.1;omega) D.2.2) o⟩);have l9:=aB (mA x0.o (fun q e=>c9 q (by have:=(d7.o q e).2;omega) (by have:=(d7.o q e).1;omega) (fun e2=>by have:=(d7.o q e).1;have:=(g5.o q e2).2;omega)));have x9:Hid (bD (fun q=>q<F.heap.size) F g7 (ys.map aW)):=aB (bD.keep (fun q D=>⟨by have:=D.2.1;omega,fun o=>aP (c9 q D.2.1 (by have:=D.1;omega) (fun e2=>by have:=(g5.o q e2).2;have:=D.1;omega)) o⟩) x8.o);have t6:=aB (jL l9.o (by rw[YR,k7.o];exact d9.o) (by have:=d9.o;omega) x9.o (R:=(· < F.heap.size)) (fun q D=>D) (fun q D=>(aS l9.o D).2.1));have C7:∀y∈ys,bL y<=4096:=fun y hy=>by
    obtain⟨j,hj,rfl⟩:=ZL hy;exact (g6.o j _ (YB hj)).few
   have J1:=BJ (x:=f.1) C7;have H9:bL f.1<=4096:=b4.o.few;have F0:=aB (BZ t0.o (fun q D=>D.1) b4.o k7.o t6.o (by have:=k7.o;omega));have v8:=aB (rG i5.o);clear a6 c0 G U a1 c5 Z f7 j3 C0 j2 b1 c9 C7 z6;go_wp2_with fail;refine (F0.o).mono ?_;rintro e w8 ⟨f5,A8,n8,c8,rfl,r2⟩;have d6:=aB (h8.o.below f5 n0);have z8:=d6.o.cell;have f8:=d6.o.frozen;obtain⟨wz,d0⟩:=aAJ (w8.setCell ⟨b5,0,O⟩ (X A8 n8 c8));have o0:wz.heap.size=w8.heap.size:=by rw[d0];exact eE _ _ _ _
   have t3:Hid (aT wz b5 78 #[X A8 n8 c8,X B3 m3 d3]):=aB (by rw[d0];simpa using d6.o.set_ 0 (X A8 n8 c8));have A5:∀q,q<F.heap.size->q≠b5->wz.heap[q]? = F.heap[q]?:=fun q h1 h2=>by rw[d0];exact (XZ _ ⟨b5,0,O⟩ _ q h2).trans (f5.block q h1)
   have o8:Hid (aZ (fun q=>q=g) O w wz):=aB (by rw[d0];exact (a3.o.trans (row':=O) (aZ.of_below f5) (fun _ e=>by cases e)).setNew (p:=⟨b5,0,O⟩) y5 _);have s9:Hid (aT wz g 76 (zB v b cA cn cc kj)):=aB (by rw[d0];exact (h5.o.below f5 h5.o.lt).far (p:=⟨b5,0,O⟩) (fun e=>m6 e.symm) _);have p3:bL (cU f.1 ys)=n8:=r2.len;have m7:∀{R:Nat->Prop} {A':ZZ} {n' c':Nat} {y:TT},bF R w8 A' n' c' (aW y)->(∀q,R q->q<w8.heap.size/\q≠g)->bF (fun q=>q<wz.heap.size/\q≠g) wz A' n' c' (aW y):=fun h hR=>h.box (iH _) d6.o (fun q D=>by rw[d0];exact XZ _ ⟨b5,0,O⟩ _ q D) (fun q D _=>⟨by rw[o0];exact (hR q D).1,(hR q D).2⟩);have J9:=f5.size;have F2:Hid (bF (fun q=>q<wz.heap.size/\q≠g) wz A8 n8 c8 (aW (cU f.1 ys))):=aB (m7 r2 (fun q D=>by
    rcases D with D|D
    . exact⟨by have:=D.1;omega,D.2⟩
    exact⟨D.2,by have:=D.1;have:=h5.o.lt;omega⟩))
   have i6:Hid (wz.ownsRow w.heap.size 29 1 (X B3 m3 d3) m3 f1):=aB (mA i5.o (fun q e=>A5 q (aS i5.o e).2.1 (by have:=(g5.o q e).2;omega)));have x2:Hid (bD (fun q=>q<w8.heap.size/\q≠g) w8 f1 (rs.map aW)):=aB (bD.keep (fun q D=>⟨⟨by have:=D.2.1;omega,by have:=D.1;omega⟩,fun o=>f5.cell (p:=⟨q,o,O⟩) D.2.1⟩) x3.o);have x4:Hid (bD (fun q=>q<wz.heap.size/\q≠g) wz f1 (rs.map aW)):=aB (bD.box d6.o (fun q D=>by rw[d0];exact XZ _ ⟨b5,0,O⟩ _ q D) (fun q D _=>⟨by rw[o0];exact D.1,D.2⟩) x2.o);have D0:=aB (jL i6.o (by rw[YR,F1.o];exact d8.o) aA x4.o (R:=fun q=>q<wz.heap.size/\q≠g) (fun q D=>D) (fun q D=>⟨(aS i6.o D).2.1,by have:=(aS i6.o D).1;omega⟩));have E3:Hid (j6 g wz ((cU f.1 ys,rs):Fc) A8 n8 c8 B3 m3 d3):=aB ⟨F2.o,D0.o,v8.o⟩;have K8:=t3.o.cell;have C6:w.heap.size<=wz.heap.size:=o8.o.size;have o1:=aB p3;clear f5 r2 A5 m7;go_upto_region 19 with fail
   rw[<-d0];clear d0 z8 f8;by_cases a5:4096<n8
   . have d1:decide ((n8:Int)>4096)=true:=XR aA;have d2:decide ((4096:Int)<(n8:Int))=true:=XR aA;have d3:decide (4096<n8)=true:=XR a5;have a2:Hid (d5=.bad 9):=aB (by rw[v5.o,XP (by rw[o1.o];exact a5)]);clear a5 p3;go_wp2_with fail;exact⟨rfl,o8.o,.inl ⟨9,a2.o,rfl⟩⟩
   have d1:decide ((n8:Int)>4096)=false:=XQ aA;have d2:decide ((4096:Int)<(n8:Int))=false:=XQ aA;have d4:decide (4096<n8)=false:=XQ a5;have I:bO b (cv.length:Int) (cU f.1 ys):=IR b4.o k7.o (fun j y hy=>by
    have h9:=g6.o j y hy;have h0:=(mM (cv:=cv) s.o.1 s.o.2.2.2.1 j).1;have e:((eI cv f.1.1 j).length:Int)=(cv.length:Int)+aR f.1.1.op f.1.1.b (j:Int):=by rw[oU];omega
    rwa [e]at h9) (by rw[o1.o];omega)
   have D7:Hid (dM b (cv.length:Int) ((cU f.1 ys,rs):Fc)):=aB ⟨I,s.o.1.ne,fun a ha=>by
    obtain⟨j,hj,rfl⟩:=ZL ha;exact D9.o j _ (YB hj)⟩
   have l8:Hid (d5=if 4096<bL (cU f.1 ys)+cB rs then .bad 9 else .done (dP (cU f.1 ys) rs) kj):=aB (by have h:=v5.o;rw[XN (by rw[o1.o];exact a5)]at h;exact h);clear a5 I p3;go_wp2_with fail;refine (nR E3.o D7.o).mono ?_;rintro e w9 ⟨f6,h9⟩;have t8:Hid (aZ (fun q=>q=g) O w w9):=aB (o8.o.trans (row':=O) (aZ.of_below f6) (fun _ e=>by cases e));have f3:=aB (s9.o.below f6 s9.o.lt);rcases h9 with⟨n9,A7,n7,c7,rfl,_,B6⟩|⟨a5,rfl⟩
   . have a2:Hid (d5=.done (dP (cU f.1 ys) rs) kj):=aB (by
      have h:bL (cU f.1 ys)+cB rs<=4096:=n9;rw[l8.o,XN aA])
     have E7:=aB (gN B6 C6);clear f6 n9 B6;go_wp2_with fail;go_ret;exact⟨t8.o,.inr ⟨_,kj,A7,n7,c7,a2.o,rfl,E7.o,f3.o⟩⟩
   have a2:Hid (d5=.bad 9):=aB (by
    have h:4096<bL (cU f.1 ys)+cB rs:=a5;rw[l8.o,XP h])
   clear f6 a5;go_wp2_with fail;exact⟨rfl,t8.o,.inl ⟨9,a2.o,rfl⟩⟩
end Go.Proofs.YtjoddliplahgkaaGreat
