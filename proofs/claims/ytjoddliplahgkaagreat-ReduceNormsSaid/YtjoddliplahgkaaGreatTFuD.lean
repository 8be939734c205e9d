/- The reference's Full: a term to its norm. -/
import Derived.Test.YtjoddliplahgkaaGreatTGoT
namespace Go.Proofs.YtjoddliplahgkaaGreat
set_option linter.unusedVariables false
set_option linter.unusedSimpArgs false
open Go.RowKit
open Go.Value renaming int → O, slice → Y
open Go.IntKind renaming i64 → X
open Option renaming none → Z, some → I
open Go.Lib renaming hid->aB
theorem vH{b:Bk}{cv:aAA}:∀(g n:Nat)(f:Fc)(room z:Int),mK b cv g n f room=.bad z->z≠0
 | 0,n,f,room,z,h=>by injection h with h;omega
 | g+1,n,f,room,z,h=>by
  have key:∀(n:Nat)(f:Fc),yI b cv g n f room=.bad z->z≠0:=by
   intro n f h;unfold yI at h;split at h
   . split at h
     . injection h with h;omega
     split at h
     . injection h with h;omega
     split at h
     . injection h with h;omega
     exact vH g _ _ _ z h
   cases h
  cases hp:cQ f with
  | none =>
   rw[lM hp]at h;exact key _ _ h
  | some p =>
   rw[pK hp]at h;cases hw:mK b cv g n (bX p) (room-dA f+bL p) with
   | bad e =>
    rw[hw]at h;injection h with h;subst h;exact vH g _ _ _ _ hw
   | done y m =>
    rw[hw]at h;exact key _ _ h
theorem CS{D:List (List Nd)->Nat->TT->uO}{cvs:Nat->List (List Nd)}(H:∀cv n x z,D cv n x=.bad z->z≠0):∀(L:List TT)(i n:Nat)(z:Int),fV D cvs i L n=.bad z->z≠0
 | [],_,_,_,h=>by cases h
 | x::r,i,n,z,h=>by
  rw[wL]at h;cases F:D (cvs i) n x with
  | bad e=>rw[F]at h;injection h with h;subst h;exact H _ _ _ _ F
  | done y m =>
   rw[F]at h;simp only at h;cases G:fV D cvs (i+1) r m with
   | bad e=>rw[G]at h;injection h with h;subst h;exact CS H r _ _ _ G
   | done U k=>rw[G]at h;cases h
theorem rB{b:Bk}:∀(g:Nat)(cv:aAA)(n:Nat)(x:TT)(z:Int),jS b g cv n x=.bad z->z≠0
 | 0,_,_,_,_,h=>by injection h with h;omega
 | g+1,cv,n,x,z,h=>by
  cases hw:kI b cv n (bX x) 4096 with
  | bad e=>rw[CQ hw]at h;injection h with h;subst h;exact vH _ _ _ _ _ hw
  | done f m =>
   rw[wK hw]at h;cases D:fV (jS b g) (eI cv f.1.1) 0 (bH f.1.2.2) m with
   | bad e=>rw[nY D]at h;injection h with h;subst h;exact CS (rB g) _ _ _ _ D
   | done G n2 =>
    cases F:fV (jS b g) (fun _=>cv) 0 f.2 n2 with
    | bad e=>rw[nX D F]at h;injection h with h;subst h;exact CS (rB g) _ _ _ _ F
    | done rs U =>
     rw[wJ D F]at h;split at h
     . injection h with h;omega
     . split at h
       . injection h with h;omega
       cases h
def DU(q:List Nd×Int×Int)(w:aAB)(e:Ending)(w':aAB):Prop:=ZY w w'/\∃A n c,e=.returned (.tuple #[Y A n c,O X q.2.1,O X q.2.2])/\bF (eC w w') w' A n c q.1
theorem DU.bad{w w':aAB}{r:uO}{z:Int}(h:r=.bad z)(D:ZY w w'):DU (lH r) w (.returned (.tuple #[Y Z 0 0,O X 0,O X z])) w':=by
 rw[h];exact⟨D,Z,0,0,rfl,⟨rfl,XU _,ZA _,fun _=>rfl,fun h=>absurd h aA⟩⟩
theorem xL{base m c gk:Nat}{w:aAB}{s:List Value}{L:List TT}(ho:w.ownsRow base 29 1 (Y (I ⟨gk,0,Z⟩) m c) m s)(hr:bD (dT base w (Y (I ⟨gk,0,Z⟩) m c)) w s (L.map aW)){A:ZZ}{n F:Nat}{y:TT}{R:Nat->Prop}(hy:bF R w A n F (aW y))(hR:∀q,R q->base<=q/\q<w.heap.size/\q≠gk)(i:Nat):
 (w.setCell ⟨gk,i,Z⟩ (Y A n F)).ownsRow base 29 1 (Y (I ⟨gk,0,Z⟩) m c) m (s.set i (Y A n F))/\bD (dT base (w.setCell ⟨gk,i,Z⟩ (Y A n F)) (Y (I ⟨gk,0,Z⟩) m c)) (w.setCell ⟨gk,i,Z⟩ (Y A n F)) (s.set i (Y A n F)) ((L.set i y).map aW):=by
 refine⟨mC ho i _,?_⟩;have G:∀q,q≠gk->∀o,(w.setCell ⟨gk,i,Z⟩ (Y A n F)).cell? ⟨q,o,Z⟩=w.cell? ⟨q,o,Z⟩:=fun q D o=>aP (XZ w ⟨gk,i,Z⟩ _ q D) o;have U:∀q,(Value.slice (I ⟨gk,0,Z⟩) m c).ownBlock≠I q->q≠gk:=fun q h e=>h (by rw[e];rfl);rw[List.map_set];refine bD.setAt ?_ i (bD.keep (fun q D=>⟨⟨D.1,by rw[eE];exact D.2.1,D.2.2⟩,G q (U q D.2.2)⟩) hr);exact hy.keep fun q D=>by
  obtain⟨h1,h2,z⟩:=hR q D;exact⟨⟨h1,by rw[eE];exact h2,fun e=>by injection e with e;exact z e.symm⟩,G q z⟩
set_option maxRecDepth 100000 in
set_option maxHeartbeats 4000000 in
theorem JG{v:bR}{b:Bk}(hr:bU b=0):∀(a5:Nat)(w:aAB)(cA:ZZ)(cn cc:Nat)(cv:aAA)(k:Nat)(A:ZZ)(n c:Nat)(x:TT),cE w v b->jU (· < w.heap.size) w cA cn cc cv->aX w A n c (aW x)->GI b cv k x->k<=100000->jS b a5 cv k x≠.bad 99 →
 Calls Tryz.prog 36 #[.agg #[O X b.vars,Y v.Ao v.no v.co,Y v.Ae v.ne v.ce,O X b.nat,Y v.Ap v.np v.cp],Y cA cn cc,Y A n c,O X (k:Int)] w (DU (lH (jS b a5 cv k x)) w):=by
 intro a5
 induction a5 with
 | zero=>intro w cA cn cc cv k A n c x _ _ _ _ _ h9;exact absurd rfl h9
 | succ a5 ih =>
 intro w cA cn cc cv k A n c x o1 j2 ht hQ hk n4;have IH:=aB ih;clear ih;obtain⟨hc,hx,hB⟩:=hQ;obtain⟨d9,j5⟩:=aAJ (jS b (a5+1) cv k x);rw[<-j5]at n4 ⊢;obtain⟨l3,p3⟩:=aAC j5 n4;obtain⟨w1,l0⟩:=aAJ (w.alloc (.cells #[O X b.vars,Y v.Ao v.no v.co,Y v.Ae v.ne v.ce,O X b.nat,Y v.Ap v.np v.cp] 26));have U:ZY w w1:=by rw[l0];exact aQ _ _
 have s7:aT w1 w.heap.size 26 #[O X b.vars,Y v.Ao v.no v.co,Y v.Ae v.ne v.ce,O X b.nat,Y v.Ap v.np v.cp]:=by rw[l0];exact aT.new _ _ _
 have k1:=aB (JI (A:=A) (n:=n) (c:=c) hr (o1.below U) hc (jG j2 U) (ht.below U) hx hk);rw[WD hr hc k x hx]at k1;obtain⟨x3,o6⟩:=aAJ (kI b cv k (bX x) 4096);rw[<-o6]at k1;obtain⟨HR,HC,HX,v2,q3,m9,p8,h8⟩:=aAG hr hc hx hB hk o6 o1 j2;obtain⟨p5,m3⟩:=aAC U s7;clear hr hc hx hB hk o6 o1 j2 ht U s7 j5 n4;go_in;go_upto_region 1 with fail
 rw[<-l0];clear l0;have x4:=m3.o.cell;cases x3 with
 | bad z =>
  have f1:z≠0:=vH _ _ _ _ _ m9.o.symm;have dz:(z != 0)=true:=by simpa using f1
  have HE:Hid (d9=.bad z):=aB (l3.o.trans (CQ m9.o.symm));clear f1;go_wp2_with fail;refine (k1.o).mono ?_;rintro e w2 ⟨h4,A2,n2,c2,rfl,j6⟩;have j7:=bY p5 h4;simp only[XD,lH];clear h4 j6;go_wp2_with fail;go_ret3
  exact DU.bad HE.o j7.o
 | done f m =>
  have p1:=m9.o.symm;have HE:Hid (d9=EZ (jS b a5) cv f m):=aB (l3.o.trans (wK p1));have a4:=aB (DM HR.o HC.o HX.o v2.o p1);have s:=a4.o.1.fit a4.o.2.1;have o8:=AZ s;rw[vY a4.o.1.ne]at o8;have w5:=aB o8;have s3:bO b (cv.length:Int) f.1:=a4.o.1.head;have g7:=aB s3;clear p1 s o8 s3;go_wp2_with fail;refine (k1.o).mono ?_;rintro e w2 ⟨h4,A2,n2,c2,rfl,j6⟩;have j7:=bY p5 h4;have m4:=aB (m3.o.below h4 m3.o.lt);simp only[XD,lH]at j6 ⊢;have r8:=aB (yV j6);rw[w5.o]at r8;clear h4 j6 x4;go_wp2_with fail;refine (r8.o).mono ?_;rintro e w3 ⟨k4,A3,n3,c3,B,ml,d,xa,rfl,o2,o4,o7⟩;have p6:=aB k4;have j8:=bY j7 k4;obtain⟨m5,v5,m6,v7⟩:=aAE (m4.o.below k4 m4.o.lt) o2 o4 o7;have t1:ml=f.2.length:=by have:=o7.len;have:=o4.1;rw[YR]at *;omega
  have g9:=aB t1;have q1:Hid (aX w3 A3 n3 c3 (aW f.1)):=aB (o2.keep fun q D=>⟨D.2.1,fun _=>rfl⟩);have q4:=aB (rO q1.o);rw[lL g7.o]at q4;clear k4 o2 o4 o7 t1;go_wp2_with fail;refine (q4.o).mono ?_;rintro e w4 ⟨o0,Ak,nk,ck,xs,rfl,a3,a6⟩;have h6:=aB o0;have v0:=bY j8 o0;have t3:nk=(bH f.1.2.2).length:=by have:=a6.len;have:=a3.1;rw[YR]at *;omega
  have f3:=aB t3;have m7:=aB a3;have v9:=aB a6;clear o0 a3 a6 t3;have y3:=q8 g7.o;have y2:=h8.o.len;have y1:=HC.o.few;have i2:Hid (nk<=4096):=aB (by have:=f3.o;omega);go_upto_region 6 with fail
  go_wp2_with fail;go_loopw [3,11,15] (fun fv ev iv wr=>∃(i ki:Nat)(b1:List Value)(ys:List TT),i<=nk/\fv=O X (ki:Int)/\ev=O X 0/\iv=O X (i:Int)/\Hid (DS (jS b a5) (eI cv f.1.1) (bH f.1.2.2) m i ys ki)/\Hid (∀(j:Nat)(z:TT),ys[j]? = I z->bO b ((eI cv f.1.1 j).length:Int) z)/\Hid (aZ (fun q=>(Value.slice Ak nk ck).ownBlock=I q) Z w4 wr)/\Hid (wr.ownsRow w3.heap.size 29 1 (Y Ak nk ck) nk b1)/\Hid (bD (dT w3.heap.size wr (Y Ak nk ck)) wr b1 ((ys++(bH f.1.2.2).drop i).map aW))) (fun _ _ iv _=>nk-(intOf iv).toNat)
  case atStart=>exact⟨0,m,xs,[],by omega,rfl,rfl,rfl,aB (DS.start _ _ _ _),aB (fun j z h=>by simp at h),aB (aZ.refl _ _ _),m7,v9⟩
  case round =>
   obtain⟨i,ki,b1,ys,hi,rfl,rfl,rfl,b2,d7,b8,a3,a6⟩:=hrel;have a2:=b2.o.len;have o3:=b2.o.le;have j0:Below w3.heap.size w4 wr:=b8.o.to_below h6.o.size (fun q e=>(aS m7.o e).1) (fun _ e=>by cases e);have a7:=aB (h6.o.trans j0);obtain⟨b5,g8⟩:=aAC (j8.o.trans (a7.o.mono j8.o.size)) (m5.o.below a7.o m5.o.lt);have b7:=g8.o.lt;have d1:=g8.o.cell;by_cases f5:i<nk
   . have e1:decide ((i:Int)<(nk:Int))=true:=XR aA;have e2:decide (i<nk)=true:=XR f5;have e3:(i:Int)<(nk:Int):=aA;have j3:i<(bH f.1.2.2).length:=by have:=f3.o;omega
     obtain⟨y0,d0⟩:∃y,(bH f.1.2.2)[i]? = I y:=⟨_,YB j3⟩;obtain⟨o5,gk,A1,n1,c1,n5,g6,s4,k6,g0⟩:=kA a3.o a6.o (i:=i) (by rw[XX,YS,a2];omega);rw[uU a2 d0]at g0;clear o5;have i9:=aB d0;have d3:=aB b2.o;have m2:=aB d7.o;subst n5;have k0:=aB b8.o;have g2:=aB a3.o;have g3:=aB a6.o;have h7:f.1.1.op≠7:=fun h=>by
      have h9:=a4.o.2.2.2.1;unfold bT at h9;rw[XN aA,XP (.inl h)]at h9;cases h9
     have q2:=aB (fun (V:aAB) (hV:ZY wr V)=>FK (free:=(cv.length:Int)) (i:=i) aA aA (jG h8.o (b5.o.trans (hV.mono b5.o.size))) aA (q1.o.below (a7.o.trans (hV.mono a7.o.size))) g7.o h7 (by have:=i2.o;omega));have s9:=KP HC.o a4.o.1 a4.o.2.2.2.1 a4.o.2.2.2.2.1 d0;have f6:=s9.1.mono o3;have e9:jS b a5 (eI cv f.1.1 i) ki y0≠.bad 99:=fun e=>p3.o (HE.o.trans (nY (d3.o.bad d0 e)));have e8:ki<=100000:=by have:=a4.o.2.2.1;have:=q3.o;omega
     have n0:=aB g0;have e0:=aB (fun (V:aAB) (hV:ZY wr V) (A7:ZZ) (n7 c7:Nat) (f4:jU (· < V.heap.size) V A7 n7 c7 (eI cv f.1.1 i))=>IH.o V A7 n7 c7 (eI cv f.1.1 i) ki A1 n1 c1 y0 (p8.o.below (b5.o.trans (hV.mono b5.o.size))) f4 (n0.o.keep fun q D=>⟨XT D.2.1 hV.size,fun o=>hV.cell (p:=⟨q,o,Z⟩) D.2.1⟩) f6 e8 e9);obtain⟨r3,f9⟩:=aAJ (jS b a5 (eI cv f.1.1 i) ki y0);rw[<-f9]at e0;obtain⟨d6,m8⟩:=aAC f9 f6;obtain⟨⟨ql,qf,qe⟩,f7⟩:∃q,q=lH r3:=⟨_,rfl⟩;rw[<-f7]at e0;have i7:=aB f7;have k7:i<b1.length:=by have:=a3.o.1;omega
     have x2:w.heap.size<gk:=by have:=m5.o.lt;omega
     clear b2 d7 b8 a3 a6 g0 a2 d0 s9 f6 e9 f9 f7 j0 h7 e8;go_upto_region 9 with fail
     go_cut [3,11] (fun fv ev wx=>fv=O X qf/\ev=O X qe/\∃(A6:ZZ)(n6 c6:Nat),Hid (aZ (fun q=>(Value.slice (I ⟨gk,0,Z⟩) nk ck).ownBlock=I q) Z w4 wx)/\Hid (∀y,ql=aW y->wx.ownsRow w3.heap.size 29 1 (Y (I ⟨gk,0,Z⟩) nk ck) nk (b1.set i (Y A6 n6 c6))/\bD (dT w3.heap.size wx (Y (I ⟨gk,0,Z⟩) nk ck)) wx (b1.set i (Y A6 n6 c6)) (((ys++(bH f.1.2.2).drop i).set i y).map aW)))
     case first =>
      refine wp_region_held_drew (S:=(fun w'=>∀q,q<wr.heap.size->q≠gk->w'.heap[q]? = wr.heap[q]?)) aC ?_ (fun G=>?_)
      . (try dsimp only);exact fun q _ _=>rfl
      have b3:Hid (ZY wr wr.drew):=aB (aU (XS _ _) 1);generalize wr.drew=W1 at *;refine aL 0 G ?_;refine aL 1 G ?_;refine tk 2 ?_ (fun wq hSw=>?_) G ?_;rotate_left
      . have c0:=(aP (hSw (w.heap.size) (b7) aA) (0)).trans (d1 0);have c1:=(aP (hSw (w.heap.size) (b7) aA) (1)).trans (d1 1);have c2:=(aP (hSw (w.heap.size) (b7) aA) (2)).trans (d1 2);have c3:=(aP (hSw (w.heap.size) (b7) aA) (3)).trans (d1 3);have c4:=(aP (hSw (w.heap.size) (b7) aA) (4)).trans (d1 4);go_simp;try with_reducible rfl
      try simp only[p7]
      refine aL 3 G ?_;refine aL 4 G ?_;refine aL 5 G ?_;refine aL 7 G ?_;refine aL 8 G ?_;refine aL 9 G ?_;refine aL 11 G ?_;refine wpAnyH_ready (rs:=[6,10]) aC aD ?_;refine AllReadyH.cons rfl (fun K hK=>?_) (AllReadyH.cons rfl (fun K hK=>?_) (AllReadyH.nil))
      . go_simp;go_at_call 65
        refine (q2.o _ b3.o).mono ?_;rintro e v1 ⟨U,A7,n7,c7,rfl,f4⟩;have a0:=bY b3 U;have m1:=aB f4;clear U f4;go_wp2_with fail;refine hK.o _ _ (by exact fun q h1 _=>a0.o.block q h1) fun G=>?_;clear hK K;try simp only[p7]
        have s1:=(a0.o.cell (p:=⟨gk,i,Z⟩) g6).trans k6;refine r1 10 fun K hK=>?_;go_simp;refine hK.o _ _ (by exact fun q h1 _=>a0.o.block q h1) fun G=>?_;clear hK K;try simp only[p7]
        refine r1 12 fun K hK=>?_;go_simp;go_at_call 36
        refine (e0.o _ a0.o A7 n7 c7 m1.o).mono ?_;rintro e v3 ⟨U,A6,n6,c6,rfl,f0⟩;have F:=bY a0 U;obtain⟨e5,i8⟩:=aAC a0.o.size f0;clear U f0;go_wp2_with fail;refine hK.o _ _ (by exact fun q h1 _=>F.o.block q h1) fun G=>?_;clear hK K;try simp only[p7]
        refine aL 13 G ?_;refine aL 14 G ?_;refine aL 15 G ?_;refine aL 16 G ?_;refine aL 17 G ?_;have a1:=aB (bI g2.o F.o);have e4:Hid (bD (dT w3.heap.size v3 (Y (I ⟨gk,0,Z⟩) nk ck)) v3 b1 ((ys++(bH f.1.2.2).drop i).map aW)):=aB (bD.keep (fun q D=>⟨⟨D.1,XT D.2.1 F.o.size,D.2.2⟩,fun o=>F.o.cell (p:=⟨q,o,Z⟩) D.2.1⟩) g3.o);obtain⟨b0,e7⟩:∃b0,aT v3 gk 29 b0:=by
         obtain⟨r9,b0,e,_,e6,_⟩:=mW a1.o aA;simp only[YT,Addr.mk.injEq]at e;exact⟨b0,by rw[e.1];exact e6⟩
        have fk:=e7.frozen;have j1:∃u,v3.cell? ⟨gk,i,Z⟩=I u:=⟨_,(a1.o.cellAt (g:=gk) i aA).trans (YB k7)⟩;obtain⟨u3,t5⟩:=j1;have b6:Hid (aZ (fun q=>(Value.slice (I ⟨gk,0,Z⟩) nk ck).ownBlock=I q) Z w4 (v3.setCell ⟨gk,i,Z⟩ (Y A6 n6 c6))):=aB ((k0.o.trans (row':=Z) (aZ.of_below F.o) (fun _ e=>by cases e)).setCell (p:=⟨gk,i,Z⟩) rfl (Y A6 n6 c6));have a9:Hid (∀y,ql=aW y->(v3.setCell ⟨gk,i,Z⟩ (Y A6 n6 c6)).ownsRow w3.heap.size 29 1 (Y (I ⟨gk,0,Z⟩) nk ck) nk (b1.set i (Y A6 n6 c6))/\bD (dT w3.heap.size (v3.setCell ⟨gk,i,Z⟩ (Y A6 n6 c6)) (Y (I ⟨gk,0,Z⟩) nk ck)) (v3.setCell ⟨gk,i,Z⟩ (Y A6 n6 c6)) (b1.set i (Y A6 n6 c6)) (((ys++(bH f.1.2.2).drop i).set i y).map aW)):=aB (fun y e=>xL (R:=eC v1 v3) a1.o e4.o (y:=y) (by rw[<-e];exact i8.o) (fun q D=>⟨by have:=D.1;have:=e5.o;omega,D.2,by have:=D.1;have:=e5.o;omega⟩) i);refine r1 18 fun K hK=>?_;go_simp;refine hK.o _ _ (by exact fun q h1 h2=>(XZ _ ⟨gk,i,Z⟩ _ q h2).trans (F.o.block q h1)) fun G=>?_;clear hK K;try simp only[p7]
        refine aL 19 G ?_;refine aL 20 G ?_;refine wpAnyH_done aC ?_ _;go_wp2_with fail;go_meet;exact⟨rfl,rfl,A6,n6,c6,b6,a9⟩
      have s1:=(b3.o.cell (p:=⟨gk,i,Z⟩) g6).trans k6;go_simp;refine hK.o _ _ (by exact fun q h1 _=>b3.o.block q h1) fun G=>?_;clear hK K;try simp only[p7]
      refine r1 6 fun K hK=>?_;go_simp;go_at_call 65
      refine (q2.o _ b3.o).mono ?_;rintro e v1 ⟨U,A7,n7,c7,rfl,f4⟩;have a0:=bY b3 U;have m1:=aB f4;clear U f4;go_wp2_with fail;refine hK.o _ _ (by exact fun q h1 _=>a0.o.block q h1) fun G=>?_;clear hK K;try simp only[p7]
      refine r1 12 fun K hK=>?_;go_simp;go_at_call 36
      refine (e0.o _ a0.o A7 n7 c7 m1.o).mono ?_;rintro e v3 ⟨U,A6,n6,c6,rfl,f0⟩;have F:=bY a0 U;obtain⟨e5,i8⟩:=aAC a0.o.size f0;clear U f0;go_wp2_with fail;refine hK.o _ _ (by exact fun q h1 _=>F.o.block q h1) fun G=>?_;clear hK K;try simp only[p7]
      refine aL 13 G ?_;refine aL 14 G ?_;refine aL 15 G ?_;refine aL 16 G ?_;refine aL 17 G ?_;have a1:=aB (bI g2.o F.o);have e4:Hid (bD (dT w3.heap.size v3 (Y (I ⟨gk,0,Z⟩) nk ck)) v3 b1 ((ys++(bH f.1.2.2).drop i).map aW)):=aB (bD.keep (fun q D=>⟨⟨D.1,XT D.2.1 F.o.size,D.2.2⟩,fun o=>F.o.cell (p:=⟨q,o,Z⟩) D.2.1⟩) g3.o);obtain⟨b0,e7⟩:∃b0,aT v3 gk 29 b0:=by
       obtain⟨r9,b0,e,_,e6,_⟩:=mW a1.o aA;simp only[YT,Addr.mk.injEq]at e;exact⟨b0,by rw[e.1];exact e6⟩
      have fk:=e7.frozen;have j1:∃u,v3.cell? ⟨gk,i,Z⟩=I u:=⟨_,(a1.o.cellAt (g:=gk) i aA).trans (YB k7)⟩;obtain⟨u3,t5⟩:=j1;have b6:Hid (aZ (fun q=>(Value.slice (I ⟨gk,0,Z⟩) nk ck).ownBlock=I q) Z w4 (v3.setCell ⟨gk,i,Z⟩ (Y A6 n6 c6))):=aB ((k0.o.trans (row':=Z) (aZ.of_below F.o) (fun _ e=>by cases e)).setCell (p:=⟨gk,i,Z⟩) rfl (Y A6 n6 c6));have a9:Hid (∀y,ql=aW y->(v3.setCell ⟨gk,i,Z⟩ (Y A6 n6 c6)).ownsRow w3.heap.size 29 1 (Y (I ⟨gk,0,Z⟩) nk ck) nk (b1.set i (Y A6 n6 c6))/\bD (dT w3.heap.size (v3.setCell ⟨gk,i,Z⟩ (Y A6 n6 c6)) (Y (I ⟨gk,0,Z⟩) nk ck)) (v3.setCell ⟨gk,i,Z⟩ (Y A6 n6 c6)) (b1.set i (Y A6 n6 c6)) (((ys++(bH f.1.2.2).drop i).set i y).map aW)):=aB (fun y e=>xL (R:=eC v1 v3) a1.o e4.o (y:=y) (by rw[<-e];exact i8.o) (fun q D=>⟨by have:=D.1;have:=e5.o;omega,D.2,by have:=D.1;have:=e5.o;omega⟩) i);refine r1 18 fun K hK=>?_;go_simp;refine hK.o _ _ (by exact fun q h1 h2=>(XZ _ ⟨gk,i,Z⟩ _ q h2).trans (F.o.block q h1)) fun G=>?_;clear hK K;try simp only[p7]
      refine aL 19 G ?_;refine aL 20 G ?_;refine wpAnyH_done aC ?_ _;go_wp2_with fail;go_meet;exact⟨rfl,rfl,A6,n6,c6,b6,a9⟩
     case rest =>
     obtain⟨rfl,rfl,A6,n6,c6,t2,x1⟩:=hcut;have l4:Below w3.heap.size w4 wc:=t2.o.to_below h6.o.size (fun q e=>(aS m7.o e).1) (fun _ e=>by cases e);have m0:=aB (v0.o.trans (l4.mono j8.o.size));clear l4;cases r3 with
     | bad z =>
      have f1:z≠0:=rB _ _ _ _ _ d6.o.symm;have f8:qf=0/\qe=z:=by have:=i7.o;simp only[lH,ZB]at this;exact this.2
      obtain⟨rfl,rfl⟩:=f8;have dz:(qe != 0)=true:=by simpa using f1
      have a8:Hid (d9=.bad qe):=aB (HE.o.trans (nY (d3.o.bad i9.o d6.o.symm)));clear f1;go_wp2_with fail;go_ret3
      exact DU.bad a8.o m0.o
     | done y k2 =>
      have f8:ql=aW y/\qf=(k2:Int)/\qe=0:=by have:=i7.o;simp only[lH,ZB]at this;exact this
      obtain⟨j4,rfl,rfl⟩:=f8;have s:=jI HR.o a5 _ _ _ m8.o y k2 d6.o.symm;have i3:=aB (d3.o.next i9.o d6.o.symm s.2);have i0:Hid (∀(j:Nat)(z:TT),(ys++[y])[j]? = I z->bO b ((eI cv f.1.1 j).length:Int) z):=aB (fun j z hz=>by
       by_cases hj:j<ys.length
       . rw[List.getElem?_append_left hj]at hz;exact m2.o j z hz
       rw[List.getElem?_append_right aA]at hz;have k8:j-ys.length<[y].length:=(ZH.1 hz).1;have x0:j=i:=by have:=d3.o.len;simp at k8;omega
       have p2:z=y:=by
        rw[show j-ys.length=0 from by simp at k8;omega]at hz;simpa using hz.symm
       rw[x0,p2];exact s.1)
      have b9:=x1.o y j4;rw[rU d3.o.len j3]at b9;have a9:=aB b9;clear j4 s b9;go_wp2_with fail;go_roundw
      case rel=>exact⟨i+1,k2,b1.set i (Y A6 n6 c6),ys++[y],by omega,rfl,rfl,by go_num,i3,i0,t2,aB a9.o.1,aB a9.o.2⟩
      case measure=>simp[intOf];omega
   have s5:i=nk:=aA;have i4:=aB (b2.o.fin (by have:=f3.o;omega));have l1:=aB o3;have i1:=aB d7.o;have t8:ys.length=(bH f.1.2.2).length:=by rw[a2,s5];exact f3.o
   have k3:=aB t8;have s2:ys++(bH f.1.2.2).drop i=ys:=by rw[YY (by have:=f3.o;omega),YP]
   have c5:=a6.o;rw[s2]at c5;obtain⟨r6,i5,q9⟩:=aAF c5 a3.o (bI m6.o a7.o);have r4:Hid (bD (dT w2.heap.size wr (Y B ml d)) wr xa (f.2.map aW)):=aB (bD.keep (fun q D=>⟨⟨D.1,XT D.2.1 a7.o.size,D.2.2⟩,fun o=>a7.o.cell (p:=⟨q,o,Z⟩) D.2.1⟩) v7.o);have g1:Hid (∀q,(Value.slice B ml d).ownBlock=I q->w2.heap.size<=q/\q<w3.heap.size):=aB (fun q e=>⟨(aS m6.o e).1,(aS m6.o e).2.1⟩);have x6:ml<=4096:=by have:=dM.argsLen a4.o.1 a4.o.2.1;have:=g9.o;omega
   obtain⟨wp,rfl⟩:=aAJ wr;have p9:=b5;have v6:=g8;have x7:=p6.o.size;have x8:=a7.o.size;have l7:=j7.o.size;have t0:=m4.o.lt;have d2:decide (i<nk)=false:=XQ f5;clear b2 d7 b8 a3 a6 f5 s5 t8 s2 c5 a2 o3 j0;go_upto_region 12 with fail
   go_wp2_with fail;go_loopw [3,11,16] (fun fv ev iv wr=>∃(j kj:Nat)(f2:List Value)(rs:List TT),j<=ml/\fv=O X (kj:Int)/\ev=O X 0/\iv=O X (j:Int)/\Hid (DS (jS b a5) (fun _=>cv) f.2 ki j rs kj)/\Hid (∀(q:Nat)(z:TT),rs[q]? = I z->bO b (cv.length:Int) z)/\Hid (aZ (fun q=>(Value.slice B ml d).ownBlock=I q) Z wp wr)/\Hid (wr.ownsRow w2.heap.size 29 1 (Y B ml d) ml f2)/\Hid (bD (dT w2.heap.size wr (Y B ml d)) wr f2 ((rs++f.2.drop j).map aW))) (fun _ _ iv _=>ml-(intOf iv).toNat)
   case atStart=>exact⟨0,ki,xa,[],by omega,rfl,rfl,rfl,aB (DS.start _ _ _ _),aB (fun j z h=>by simp at h),aB (aZ.refl _ _ _),q9,r4⟩
   case round =>
    obtain⟨j,kj,f2,rs,hj,rfl,rfl,rfl,b2,d7,b8,a3,a6⟩:=hrel;have a2:=b2.o.len;have s8:=b2.o.le;have g5:Below w2.heap.size wp wr:=b8.o.to_below aA (fun q e=>(g1.o q e).1) (fun _ e=>by cases e);have b5:=aB (p9.o.trans (g5.mono l7));have g8:Hid (aT wr w.heap.size 26 #[O X b.vars,Y v.Ao v.no v.co,Y v.Ae v.ne v.ce,O X b.nat,Y v.Ap v.np v.cp]):=aB (v6.o.same (g5.block _ t0));have b7:=g8.o.lt;have d1:=g8.o.cell;by_cases f5:j<ml;rotate_left
    . have s6:j=ml:=aA;have q7:=aB (b2.o.fin (by have:=g9.o;omega));have t4:rs.length=f.2.length:=by rw[a2,s6];exact g9.o
      have l6:rs++f.2.drop j=rs:=by rw[YY (by have:=g9.o;omega),YP]
      have c5:=a6.o;rw[l6]at c5;have q6:Hid (d9=if 4096<bL (cU f.1 ys) then .bad 9 else if 4096<bL (cU f.1 ys)+cB rs then .bad 9 else .done (dP (cU f.1 ys) rs) kj):=aB (HE.o.trans (wJ i4.o q7.o));have v4:=aB d7.o;have w0:=aB t4;have r0:=aB a3.o;have r5:=aB c5;have d8:∀q,q<wp.heap.size->(Value.slice B ml d).ownBlock≠I q->wr.heap[q]? = wp.heap[q]?:=fun q h1 h3=>b8.o.block q h1 h3 aD;have x9:=b8.o.size;have q0:Hid (aX wr A3 n3 c3 (aW f.1)):=aB (v5.o.keep fun q D=>⟨by have:=D.2.1;omega,fun o=>(aP (d8 q (by have:=D.2.1;omega) D.2.2) o).trans (a7.o.cell (p:=⟨q,o,Z⟩) D.2.1)⟩);have r2:=aB (mA i5.o (fun q e=>d8 q (aS i5.o e).2.1 (fun e2=>by have:=(aS i5.o e).1;have:=(g1.o q e2).2;omega)));have r7:Hid (bD (fun q=>q<wr.heap.size) wr b1 (ys.map aW)):=aB (bD.keep (fun q D=>⟨by have:=D.2.1;omega,fun o=>aP (d8 q D.2.1 (fun e2=>by have:=(g1.o q e2).2;have:=D.1;omega)) o⟩) r6.o);have q5:=aB (rH r2.o (by rw[YR,k3.o];exact f3.o) (by have:=i2.o;omega) r7.o (fun q D=>D));have p4:=aB (rH r0.o (by rw[YR,w0.o];exact g9.o) aA r5.o (fun q D=>D.2.1));have t7:∀y∈ys,bL y<=4096:=fun y hy=>by
       obtain⟨q,D,rfl⟩:=ZL hy;exact (i1.o q _ (YB D)).few
      have t6:=BJ (x:=f.1) t7;have x5:bL f.1<=4096:=g7.o.few;have v8:=aB (JJ q0.o g7.o k3.o (fun y hy=>by
       obtain⟨q,D,rfl⟩:=ZL hy;exact (i1.o q _ (YB D)).okt) q5.o (by have:=k3.o;have:=f3.o;have:=i2.o;omega))
      have d4:decide (j<ml)=false:=XQ f5;clear b2 d7 b8 a3 a6 a2 f5 s6 t4 l6 c5 d8 t7 t6 s8 g5;go_upto_region 18 with fail
      go_wp2_with fail;refine (v8.o).mono ?_;rintro e w8 ⟨k5,A8,n8,c8,rfl,o9⟩;have j9:=bY b5 k5;have l8:Hid (bL (cU f.1 ys)=n8):=aB o9.len;have w6:=aB o9;have t9:Hid (fG (· < w8.heap.size) w8 B ml d (rs.map aW)):=aB ((xN p4.o k5).keep (fun q D=>⟨XT D k5.size,fun _=>rfl⟩));clear k5 o9;by_cases g4:4096<n8
      . have d5:decide ((n8:Int)>4096)=true:=XR aA;have a8:Hid (d9=.bad 9):=aB (by rw[q6.o,XP (by rw[l8.o];exact g4)]);clear g4;go_wp2_with fail;go_ret3
        exact DU.bad a8.o j9.o
      have d5:decide ((n8:Int)>4096)=false:=XQ aA;have s:bO b (cv.length:Int) (cU f.1 ys):=IR g7.o k3.o (fun q y hy=>by
       have h9:=i1.o q y hy;have h0:=(mM (cv:=cv) a4.o.1 a4.o.2.2.2.1 q).1;have e:((eI cv f.1.1 q).length:Int)=(cv.length:Int)+aR f.1.1.op f.1.1.b (q:Int):=by rw[oU];omega
       rwa [e]at h9) (by rw[l8.o];omega)
      have l2:Hid (d9=if 4096<bL (cU f.1 ys)+cB rs then .bad 9 else .done (dP (cU f.1 ys) rs) kj):=aB (by have h:=q6.o;rw[XN (by rw[l8.o];exact g4)]at h;exact h);have h5:=aB (C1 w6.o t9.o);rw[vO s (fun a ha=>by
       obtain⟨q,D,rfl⟩:=ZL ha;exact v4.o q _ (YB D))]at h5
      clear g4 s;by_cases b4:4096<bL (cU f.1 ys)+cB rs
      . rw[XP b4]at h5;have a8:Hid (d9=.bad 9):=aB (by rw[l2.o,XP b4]);clear b4;go_wp2_with fail;refine (h5.o).mono ?_;rintro e w9 ⟨b4,A9,n9,c9,rfl,k9⟩;have l9:=bY j9 b4;clear b4 k9;go_wp2_with fail;go_ret3
        exact DU.bad a8.o l9.o
      rw[XN b4]at h5;have a8:Hid (d9=.done (dP (cU f.1 ys) rs) kj):=aB (by rw[l2.o,XN b4]);clear b4;go_wp2_with fail;refine (h5.o).mono ?_;rintro e w9 ⟨b4,A9,n9,c9,rfl,k9⟩;have l9:=bY j9 b4;have w7:Hid (bF (eC w w9) w9 A9 n9 c9 (aW (dP (cU f.1 ys) rs))):=aB (k9.keep fun q D=>⟨⟨YE j9.o.size D.1,D.2⟩,fun _=>rfl⟩);clear b4 k9;go_wp2_with fail;go_ret3
      rw[a8.o];exact⟨l9.o,A9,n9,c9,rfl,w7.o⟩
    have e1:decide ((j:Int)<(ml:Int))=true:=XR aA;have e2:decide (j<ml)=true:=XR f5;have e3:(j:Int)<(ml:Int):=aA;have j3:j<f.2.length:=by have:=g9.o;omega
    obtain⟨y0,d0⟩:∃y,f.2[j]? = I y:=⟨_,YB j3⟩;obtain⟨o5,gk,A1,n1,c1,n5,g6,s4,k6,g0⟩:=kA a3.o a6.o (i:=j) (by rw[XX,YS,a2];omega);rw[uU a2 d0]at g0;clear o5;have i9:=aB d0;have d3:=aB b2.o;have m2:=aB d7.o;subst n5;have k0:=aB b8.o;have g2:=aB a3.o;have g3:=aB a6.o;have s0:=J7 HC.o a4.o.1 a4.o.2.2.2.2.1 d0;have f6:=s0.1.mono (YE s8 l1.o);have e9:jS b a5 cv kj y0≠.bad 99:=fun e=>p3.o (HE.o.trans (nX i4.o (d3.o.bad d0 e)));have e8:kj<=100000:=by have:=a4.o.2.2.1;have:=q3.o;have:=l1.o;omega
    have n0:=aB g0;have e0:=aB (fun (V:aAB) (hV:ZY wr V)=>IH.o V cA cn cc cv kj A1 n1 c1 y0 (p8.o.below (b5.o.trans (hV.mono b5.o.size))) (jG h8.o (b5.o.trans (hV.mono b5.o.size))) (n0.o.keep fun q D=>⟨XT D.2.1 hV.size,fun o=>hV.cell (p:=⟨q,o,Z⟩) D.2.1⟩) f6 e8 e9);obtain⟨r3,f9⟩:=aAJ (jS b a5 cv kj y0);rw[<-f9]at e0;obtain⟨d6,m8⟩:=aAC f9 f6;obtain⟨⟨ql,qf,qe⟩,f7⟩:∃q,q=lH r3:=⟨_,rfl⟩;rw[<-f7]at e0;have i7:=aB f7;have k7:j<f2.length:=by have:=a3.o.1;omega
    have x2:w.heap.size<gk:=aA;clear b2 d7 b8 a3 a6 g0 a2 d0 s0 f6 e9 f9 f7 g5 e8;go_upto_region 15 with fail
    refine wp_region_held_drew (S:=(fun w'=>∀q,q<wr.heap.size->q≠gk->w'.heap[q]? = wr.heap[q]?)) aC ?_ (fun G=>?_)
    . (try dsimp only);exact fun q _ _=>rfl
    have b3:Hid (ZY wr wr.drew):=aB (aU (XS _ _) 1);generalize wr.drew=W1 at *;refine aL 0 G ?_;refine aL 1 G ?_;refine tk 2 ?_ (fun wq hSw=>?_) G ?_;rotate_left
    . have c0:=(aP (hSw (w.heap.size) (b7) aA) (0)).trans (d1 0);have c1:=(aP (hSw (w.heap.size) (b7) aA) (1)).trans (d1 1);have c2:=(aP (hSw (w.heap.size) (b7) aA) (2)).trans (d1 2);have c3:=(aP (hSw (w.heap.size) (b7) aA) (3)).trans (d1 3);have c4:=(aP (hSw (w.heap.size) (b7) aA) (4)).trans (d1 4);go_simp;try with_reducible rfl
    try simp only[p7]
    refine aL 3 G ?_;refine aL 4 G ?_;refine aL 5 G ?_;refine aL 6 G ?_;refine aL 8 G ?_;have s1:=(b3.o.cell (p:=⟨gk,j,Z⟩) g6).trans k6;refine r1 7 fun K hK=>?_;go_simp;refine hK.o _ _ (by exact fun q h1 _=>b3.o.block q h1) fun G=>?_;clear hK K;try simp only[p7]
    refine r1 9 fun K hK=>?_;go_simp;go_at_call 36
    refine (e0.o _ b3.o).mono ?_;rintro e v3 ⟨U,A6,n6,c6,rfl,f0⟩;have F:=bY b3 U;obtain⟨e5,i8⟩:=aAC b3.o.size f0;clear U f0;go_wp2_with fail;refine hK.o _ _ (by exact fun q h1 _=>F.o.block q h1) fun G=>?_;clear hK K;try simp only[p7]
    refine aL 10 G ?_;refine aL 11 G ?_;refine aL 12 G ?_;refine aL 13 G ?_;refine aL 14 G ?_;have a1:=aB (bI g2.o F.o);have e4:Hid (bD (dT w2.heap.size v3 (Y (I ⟨gk,0,Z⟩) ml d)) v3 f2 ((rs++f.2.drop j).map aW)):=aB (bD.keep (fun q D=>⟨⟨D.1,XT D.2.1 F.o.size,D.2.2⟩,fun o=>F.o.cell (p:=⟨q,o,Z⟩) D.2.1⟩) g3.o);obtain⟨b0,e7⟩:∃b0,aT v3 gk 29 b0:=by
     obtain⟨r9,b0,e,_,e6,_⟩:=mW a1.o aA;simp only[YT,Addr.mk.injEq]at e;exact⟨b0,by rw[e.1];exact e6⟩
    have fk:=e7.frozen;have j1:∃u,v3.cell? ⟨gk,j,Z⟩=I u:=⟨_,(a1.o.cellAt (g:=gk) j aA).trans (YB k7)⟩;obtain⟨u3,t5⟩:=j1;have b6:Hid (aZ (fun q=>(Value.slice (I ⟨gk,0,Z⟩) ml d).ownBlock=I q) Z wp (v3.setCell ⟨gk,j,Z⟩ (Y A6 n6 c6))):=aB ((k0.o.trans (row':=Z) (aZ.of_below F.o) (fun _ e=>by cases e)).setCell (p:=⟨gk,j,Z⟩) rfl (Y A6 n6 c6));have a9:Hid (∀y,ql=aW y->(v3.setCell ⟨gk,j,Z⟩ (Y A6 n6 c6)).ownsRow w2.heap.size 29 1 (Y (I ⟨gk,0,Z⟩) ml d) ml (f2.set j (Y A6 n6 c6))/\bD (dT w2.heap.size (v3.setCell ⟨gk,j,Z⟩ (Y A6 n6 c6)) (Y (I ⟨gk,0,Z⟩) ml d)) (v3.setCell ⟨gk,j,Z⟩ (Y A6 n6 c6)) (f2.set j (Y A6 n6 c6)) (((rs++f.2.drop j).set j y).map aW)):=aB (fun y e=>xL (R:=eC W1 v3) a1.o e4.o (y:=y) (by rw[<-e];exact i8.o) (fun q D=>⟨by have:=D.1;have:=e5.o;omega,D.2,by have:=D.1;have:=e5.o;omega⟩) j);refine r1 15 fun K hK=>?_;go_simp;refine hK.o _ _ (by exact fun q h1 h2=>(XZ _ ⟨gk,j,Z⟩ _ q h2).trans (F.o.block q h1)) fun G=>?_;clear hK K;try simp only[p7]
    refine aL 16 G ?_;refine aL 17 G ?_;refine wpAnyH_done aC ?_ _;obtain⟨wc,p0⟩:=aAJ (v3.setCell ⟨gk,j,Z⟩ (Y A6 n6 c6));rw[<-p0]at b6 a9;have l5:Below w2.heap.size wp wc:=b6.o.to_below aA (fun q e=>(g1.o q e).1) (fun _ e=>by cases e);have m0:=aB (p9.o.trans (l5.mono l7));clear l5;go_upto_region 16 with fail
    rw[<-p0];clear p0;cases r3 with
    | bad z =>
     have f1:z≠0:=rB _ _ _ _ _ d6.o.symm;have f8:qf=0/\qe=z:=by have:=i7.o;simp only[lH,ZB]at this;exact this.2
     obtain⟨rfl,rfl⟩:=f8;have dz:(qe != 0)=true:=by simpa using f1
     have a8:Hid (d9=.bad qe):=aB (HE.o.trans (nX i4.o (d3.o.bad i9.o d6.o.symm)));clear f1;go_wp2_with fail;go_ret3
     exact DU.bad a8.o m0.o
    | done y k2 =>
     have f8:ql=aW y/\qf=(k2:Int)/\qe=0:=by have:=i7.o;simp only[lH,ZB]at this;exact this
     obtain⟨j4,rfl,rfl⟩:=f8;have s:=jI HR.o a5 _ _ _ m8.o y k2 d6.o.symm;have i3:=aB (d3.o.next i9.o d6.o.symm s.2);have i0:Hid (∀(q:Nat)(z:TT),(rs++[y])[q]? = I z->bO b (cv.length:Int) z):=aB (fun q z hz=>by
      by_cases D:q<rs.length
      . rw[List.getElem?_append_left D]at hz;exact m2.o q z hz
      rw[List.getElem?_append_right aA]at hz;have k8:q-rs.length<[y].length:=(ZH.1 hz).1;have p2:z=y:=by
       rw[show q-rs.length=0 from by simp at k8;omega]at hz;simpa using hz.symm
      rw[p2];exact s.1)
     have b9:=a9.o y j4;rw[rU d3.o.len j3]at b9;have i6:=aB b9;clear j4 s b9;go_wp2_with fail;go_roundw
     case rel=>exact⟨j+1,k2,f2.set j (Y A6 n6 c6),rs++[y],by omega,rfl,rfl,by go_num,i3,i0,b6,aB i6.o.1,aB i6.o.2⟩
     case measure=>simp[intOf];omega
end Go.Proofs.YtjoddliplahgkaaGreat
