/- core: whnf. -/
import Derived.Test.YtjoddliplahgkaaGreatTWhY
namespace Go.Proofs.YtjoddliplahgkaaGreat
set_option linter.unusedVariables false
set_option linter.unusedSimpArgs false
open Go.RowKit
open Go.Value renaming slice → O
open Option renaming none → S
open Go.Lib renaming hid->aB
variable {b:Bk}{cv:aAA}{g:Nat}
abbrev zB(v:bR)(b:Bk)(cA:ZZ)(cn cc f:Nat):Array Value:=#[.int .i64 b.vars,O v.Ao v.no v.co,O v.Ae v.ne v.ce,.int .i64 b.nat,O v.Ap v.np v.cp,O cA cn cc,.int .i64 (f:Int)]
theorem yO.moved{w0 w w':aAB}{f G cn cc:Nat}{v:bR}{cA:ZZ}(h:yO w0 g v b cA cn cc cv f w)(F:aZ (fun q=>q=g) S w w')(I:aT w' g 76 (zB v b cA cn cc G)):yO w0 g v b cA cn cc cv G w' :=
 ⟨h.bel.trans (F.to_below h.bel.size (fun k e=>by rw[e];exact h.ge) (fun _ e=>by cases e)),I,h.ge,h.ctx.keep fun q D=>⟨⟨XT D.1 F.size,D.2⟩,fun o=>aP (F.block q D.1 D.2 aD) o⟩⟩
def VU(g:Nat)(v:bR)(b:Bk)(cA:ZZ)(cn cc D:Nat)(r:R4)(w:aAB)(e:Ending)(w':aAB):Prop:=aZ (fun q=>q=g) S w w'/\((∃z,r=.bad z/\e=.panicked (nJ z))\/∃y k A n c B m d,r=.done y k/\e=.returned (.agg #[O A n c,O B m d])/\fL D w' y A n c B m d/\aT w' g 76 (zB v b cA cn cc k))
theorem C9{w:aAB}{c0 c1:Value}{D:Array Value}(h:aT w g 78 #[c0,c1])(ht:D.getD 6 undef=.pointer (some ⟨g,0,S⟩)):
 (results Tryz.f60 D).run Tryz.prog w=.ok (.agg #[c0,c1]) w:=by
 have G:=h.cell;have F:D[6]?.getD undef=.pointer (some ⟨g,0,S⟩):=by rw[<-ht];simp
 simp[results,Tryz.results60,go_sem,F,G]
def CI(g:Nat)(w:aAB):Nat:=match w.cell? ⟨g,6,S⟩ with
 | some v=>(intOf v).toNat
 | none=>0
theorem vW{w:aAB}{v:bR}{cA:ZZ}{cn cc f:Nat}(h:aT w g 76 (zB v b cA cn cc f)):CI g w=f:=by
 unfold CI;rw[h.cell];simp[zB,intOf]
theorem OB{q k:Nat}{f:Fc}{room:Int}(h:bT b cv f=true):yI b cv q k f room=if k=0 then .bad 10 else match jJ b cv f with
 | none=>.bad 9
 | some y=>if room<(dA y:Int) then .bad 9 else mK b cv q (k-1) y room:=by
 unfold yI;rw[XP h];rfl
theorem OC{q k:Nat}{f:Fc}{room:Int}(h:¬ bT b cv f=true):yI b cv q k f room=.done f k:=by
 unfold yI;rw[XN h]
set_option maxRecDepth 100000 in
set_option maxHeartbeats 4000000 in
theorem zP{w0:aAB}{v:bR}{cA:ZZ}{cn cc:Nat}(hr:bU b=0)(hb:cE w0 v b)(hc:gG b cv)(p8:(cv.length:Int)<=990000):∀(G b0:Nat),b0<=G->∀(w:aAB)(s:Fc)(A B:ZZ)(n c m d lo k:Nat)(room:Int),yO w0 g v b cA cn cc cv k w->g<lo->lo<=w.heap.size->fL lo w s A n c B m d->dM b (cv.length:Int) s->(dA s:Int)<=room->room<=4096->k<=1000000->mK b cv b0 k s room≠.bad 99 →
 Calls Tryz.prog 60 #[.pointer (some ⟨g,0,S⟩),.agg #[O A n c,O B m d],.int .i64 room] w (VU g v b cA cn cc lo (mK b cv b0 k s room) w):=by
 intro G
 induction G with
 | zero =>
  intro b0 x5 w s A B n c m d lo k room _ _ _ _ _ _ _ _ h9;obtain rfl:b0=0:=aA;exact absurd rfl h9
 | succ G ih =>
 intro b0 j4 w s A B n c m d lo k room hw q3 q7 hs fs g0 r4 hk k9;have IH:=aB ih;clear ih;obtain⟨w1,b4⟩:=aAJ ((w.alloc (.cells #[O A n c,O B m d] 78)).alloc (.cells #[O S 0 0,O S 0 0] 78));have g5:ZY w w1:=by rw[b4];exact bS _ _ _
 have zs:aT w1 w.heap.size 78 #[O A n c,O B m d]:=by rw[b4];exact (aT.new _ _ _).alloc _
 have zr:aT w1 (w.heap.size+1) 78 #[O S 0 0,O S 0 0]:=by rw[b4];exact aT.new' aD
 obtain⟨I,a1⟩:=aAJ (mK b cv b0 k s room);rw[<-a1]at k9 ⊢;have HW:=aB hw;have j8:=aB hb;have HR:=aB hr;have HC:=aB hc;have r8:=aB p8;have b5:=aB r4;have e4:=aB q3;have s9:=aB q7;have m9:=aB k9;have v3:=hw.lt;have RL:∃RL:World->Prop,RL=fun wr=>∃(q k':Nat)(f':Fc)(A' B':ZZ)(n' c' m' d':Nat),I=mK b cv q k' f' room/\q<=G+1/\k'<=1000000/\aZ (fun q=>q=g) S w wr/\aT wr g 76 (zB v b cA cn cc k')/\aT wr w.heap.size 78 #[O A' n' c',O B' m' d']/\aT wr (w.heap.size+1) 78 #[O S 0 0,O S 0 0]/\fL lo wr f' A' n' c' B' m' d'/\dM b (cv.length:Int) f'/\(dA f':Int)<=room:=⟨_,rfl⟩;obtain⟨RL,l0⟩:=RL;have o7:=aB l0;have o9:Hid (RL w1):=aB (by
  rw[l0];exact⟨b0,k,s,A,B,n,c,m,d,a1,j4,hk,aZ.of_below g5,hw.blk.below g5 v3,zs,zr,hs.below g5,fs,g0⟩)
 clear hr hb hc p8 hw hs fs a1 g5 zs zr g0 r4 j4 q3 q7 hk k9 l0;go_in;go_upto_region 1 with fail
 rw[<-b4];clear b4;go_loopw [] (fun wr=>Hid (RL wr)) (fun wr=>CI g wr)
 case atStart=>exact o9
 case round =>
  have f9:=hrel.o;rw[o7.o]at f9;obtain⟨q,k',f',A',B',n',c',m',d',a1,hq,hk,r3,c3,i2,m5,g7,l5,g0⟩:=f9;clear hrel o9;obtain⟨wb,rfl⟩:=aAJ wr;cases q with
  | zero=>exact absurd (show I=.bad 99 from a1) m9.o
  | succ q =>
  have l8:=g7.len.2;have l1:=dM.argsLen l5 (by have:=b5.o;omega);have b1:dA f'<=4096:=by have:=b5.o;omega
  obtain⟨i8,HM,r7,t9,t8,s4,e1,p1⟩:=aAG a1 r3 c3 i2 m5 g7 l5 g0;obtain⟨o1,HQ,k3,HI⟩:=aAE b1 hq hk (g7.read e4.o aA);have m0:w.heap.size<wb.heap.size:=i2.lt;have f9:w.heap.size+1<wb.heap.size:=m5.lt;have q2:g<wb.heap.size:=c3.lt;have v8:=i2.cell;have s5:Hid (CI g wb=k'):=aB (vW c3);have x6:lo<=w.heap.size:=s9.o;have q4:g<lo:=e4.o;clear a1 r3 c3 i2 m5 g7 l5 g0 l8 l1 b1 hq hk;go_wp2_with fail;refine (zM q2 HI.o e1.o).mono ?_;rintro en F ⟨a2,h3⟩;have v6:∃(Ap:ZZ)(np cp:Nat)(bl:Bool),en=.returned (.tuple #[O Ap np cp,.bool bl])/\Hid ((bl=false/\cQ f'=S)\/(bl=true/\∃p,cQ f'=some p/\bF (fun q=>q<F.heap.size/\q≠g) F Ap np cp (aW p))):=by
   cases b7:cQ f' with
   | none=>rw[b7]at h3;exact⟨S,0,0,false,h3,aB (.inl ⟨rfl,rfl⟩)⟩
   | some p=>rw[b7]at h3;obtain⟨Ap,np,cp,e,ht⟩:=h3;exact⟨Ap,np,cp,true,e,aB (.inr ⟨rfl,p,rfl,ht⟩)⟩
  obtain⟨Ap,np,cp,bl,rfl,o5⟩:=v6;have i3:=fun i=>(a2.cell (p:=⟨w.heap.size,i,S⟩) m0).trans (v8 i);have c9:w.heap.size<F.heap.size:=XT m0 a2.size;have w2:w.heap.size+1<F.heap.size:=XT f9 a2.size;have g4:Hid (aZ (fun q=>q=g) S w F):=aB (HM.o.trans (row':=S) (aZ.of_below a2) (fun _ e=>by cases e));obtain⟨j2,j1,i4,i6,s6⟩:=aAD (t9.o.below a2 m0) (t8.o.below a2 f9) (r7.o.below a2 q2) (s4.o.below a2) (HI.o.below a2);clear a2 h3;go_upto_if 14 with fail
  go_cut [] (fun wx=>∃(f2:Fc)(k2:Nat)(A2 B2:ZZ)(n2 c2 m2 d2:Nat),Hid (I=yI b cv q k2 f2 room)/\Hid (k2<=k')/\Hid (aZ (fun q=>q=g) S w wx)/\Hid (aT wx g 76 (zB v b cA cn cc k2))/\Hid (aT wx w.heap.size 78 #[O A2 n2 c2,O B2 m2 d2])/\Hid (aT wx (w.heap.size+1) 78 #[O S 0 0,O S 0 0])/\Hid (fL lo wx f2 A2 n2 c2 B2 m2 d2)/\Hid (dM b (cv.length:Int) f2)/\Hid ((dA f2:Int)<=room))
  case first =>
   cases bl with
   | false =>
    have t4:Hid (I=yI b cv q k' f' room):=aB (by
     rcases o5.o with⟨_,h⟩|⟨h,_⟩
     . exact i8.o.trans (lM h q k' room)
     cases h)
    go_wp2_with fail;go_meet;exact⟨f',k',A',B',n',c',m',d',t4,aB (XU _),g4,i4,j2,j1,i6,e1,p1⟩
   | true =>
    have v7:∃p,cQ f'=some p/\bF (fun q=>q<F.heap.size/\q≠g) F Ap np cp (aW p):=by
     rcases o5.o with⟨h,_⟩|⟨_,h⟩
     . cases h
     exact h
    obtain⟨p,b7,m1⟩:=v7;have HP:=aB m1;have i0:=gU e1.o b7;have j3:=eY i0.1;have g9:bL p=np:=m1.len;obtain⟨fz,b1⟩:=aAJ (dA f');have a9:Hid (I=match mK b cv q k' (bX p) (room-(fz:Int)+(np:Int)) with | .bad e=>.bad e | .done y m=>yI b cv q m (dW f' (gA y)) room):=aB (by rw[i8.o,b1,<-g9];exact pK b7 q k' room);have o6:=aB b7;have k5:=aB i0;have i7:=aB j3;have e8:=aB g9;have h1:=p1.o;have h2:=b5.o;have h4:=i0.2;rw[g9]at h4;rw[<-b1]at h1 h4;have x0:IntKind.i64.wrap (room-(fz:Int))=room-(fz:Int):=by rw[XV];omega
    obtain⟨b8,j6⟩:=aAJ (room-(fz:Int)+(np:Int));have x1:IntKind.i64.wrap (room-(fz:Int)+(np:Int))=b8:=by rw[XV];omega
    rw[<-j6]at a9;have Z:Hid ((np:Int)<=b8/\b8<=4096/\b8+(fz:Int)=room+(np:Int)):=aB aA;have e3:=aB b1;have o0:=aB (fun (W:aAB) (hB:ZY F W)=>fR (A:=Ap) (n:=np) (c:=cp) (w:=W) (bF.keep HP.o (R':=(· < W.heap.size)) fun q hq=>⟨XT hq.1 hB.size,fun o=>hB.cell (p:=⟨q,o,S⟩) hq.1⟩) k5.o.1);have o8:=aB (fun (W:aAB) (hB:ZY F W)=>sK (s6.o.below hB) (by have:=o1.o;omega));rw[<-b1]at o8;obtain⟨r2,b3⟩:=aAJ (mK b cv q k' (bX p) b8);rw[<-b3]at a9;have o4:Hid (r2≠.bad 99):=aB (fun e=>m9.o (by rw[a9.o,e]));have t3:=aB (HW.o.moved g4.o i4.o);have o3:=aB (fun (W:aAB) (hB:ZY F W) (A4 B4:ZZ) (n4 c4 m4 d4 l4:Nat) (x4:F.heap.size<=l4) (hl:l4<=W.heap.size) (h9:fL l4 W (bX p) A4 n4 c4 B4 m4 d4)=>IH.o q (by have:=HQ.o;omega) W (bX p) A4 B4 n4 c4 m4 d4 l4 k' b8 (t3.o.below hB) aA hl h9 (lQ k5.o.1) (by rw[i7.o,e8.o];exact Z.o.1) Z.o.2.1 k3.o (by rw[<-b3];exact o4.o));rw[<-b3]at o3;have p0:=aB b3;have l9:w.heap.size≠g:=aA;have c5:w.heap.size+1≠g:=aA;clear m1 b7 i0 j3 g9 b1 h1 h2 h4 j6 b3;go_upto_region 3 with fail
    refine gF 14 (fun w'=>∀q,q<F.heap.size->q≠g->w'.heap[q]? = F.heap[q]?) aC ?_ (fun hZ=>?_)
    . (try dsimp only);exact fun q _ _=>rfl
    have j7:Hid (ZY F F.drew):=aB (aU (XS _ _) 1);generalize F.drew=W1 at *;refine bA (i:=0) (v:=?_) rfl aC aC aC aC aC (fun _ _ _ h=>h) (Or.inl ⟨by rfl,fun wq hSw=>?_⟩) hZ ?_;rotate_left
    . (have s0:=(aP (hSw (w.heap.size) c9 aA) 0).trans (i3 0);have s1:=(aP (hSw (w.heap.size) c9 aA) 1).trans (i3 1);go_simp;try with_reducible rfl)
    try simp only[p7]
    refine bA (i:=1) (v:=?_) rfl aC aC aC aC aC (fun _ _ _ h=>h) (Or.inl ⟨by rfl,fun wq hSw=>?_⟩) hZ ?_;rotate_left
    . (go_simp;try with_reducible rfl)
    try simp only[p7]
    refine bA (i:=2) (v:=?_) rfl aC aC aC aC aC (fun _ _ _ h=>h) (Or.inl ⟨by rfl,fun wq hSw=>?_⟩) hZ ?_;rotate_left
    . (go_simp;try with_reducible rfl)
    try simp only[p7]
    refine bA (i:=4) (v:=?_) rfl aC aC aC aC aC (fun _ _ _ h=>h) (Or.inl ⟨by rfl,fun wq hSw=>?_⟩) hZ ?_;rotate_left
    . (go_simp;try with_reducible rfl)
    try simp only[p7]
    refine bA (i:=5) (v:=?_) rfl aC aC aC aC aC (fun _ _ _ h=>h) (Or.inl ⟨by rfl,fun wq hSw=>?_⟩) hZ ?_;rotate_left
    . (have s0:=(aP (hSw (w.heap.size) c9 aA) 0).trans (i3 0);have s1:=(aP (hSw (w.heap.size) c9 aA) 1).trans (i3 1);go_simp;try with_reducible rfl)
    try simp only[p7]
    refine bA (i:=8) (v:=?_) rfl aC aC aC aC aC (fun _ _ _ h=>h) (Or.inl ⟨by rfl,fun wq hSw=>?_⟩) hZ ?_;rotate_left
    . (go_simp;try with_reducible rfl)
    try simp only[p7]
    refine bA (i:=9) (v:=?_) rfl aC aC aC aC aC (fun _ _ _ h=>h) (Or.inl ⟨by rfl,fun wq hSw=>?_⟩) hZ ?_;rotate_left
    . (go_simp;try with_reducible rfl)
    try simp only[p7]
    refine bV (i:=3) aC rfl rfl (fun K hK=>?_);go_simp;go_at_call 42
    refine (o0.o _ j7.o).mono ?_;rintro en w4 ⟨l2,A4,n4,c4,B4,m4,d4,rfl,p9⟩;have g1:Hid (ZY F w4):=bY j7 l2;have r9:=aB p9;have q8:F.heap.size<=W1.heap.size:=j7.o.size;have q9:W1.heap.size<=w4.heap.size:=l2.size;clear l2 p9;go_wp2_with fail;refine hK.o _ _ (fun _=>?_) ?_
    . (try dsimp only);exact fun (q:Nat) (h1:q<F.heap.size) (_:q≠g)=>g1.o.block q h1
    clear hK K;try simp only[p7]
    replace hZ:=fun (q:Nat) (h1:q<F.heap.size) (_:q≠g)=>g1.o.block q h1
    refine bV (i:=6) aC rfl rfl (fun K hK=>?_);go_simp;go_at_call 73
    refine (o8.o _ g1.o).mono ?_;rintro en w5 ⟨rfl,g6⟩;have g2:Hid (ZY F w5):=bY g1 g6;have s2:=aB (r9.o.below g6);have r0:W1.heap.size<=w5.heap.size:=YE q9 g6.size;clear g6;go_wp2_with fail;refine hK.o _ _ (fun _=>?_) ?_
    . (try dsimp only);exact fun (q:Nat) (h1:q<F.heap.size) (_:q≠g)=>g2.o.block q h1
    clear hK K;try simp only[p7]
    replace hZ:=fun (q:Nat) (h1:q<F.heap.size) (_:q≠g)=>g2.o.block q h1
    refine bA (i:=7) (v:=?_) rfl aC aC aC aC aC (fun _ _ _ h=>h) (Or.inl ⟨by rfl,fun wq hSw=>?_⟩) hZ ?_;rotate_left
    . (go_simp;try with_reducible rfl)
    try simp only[p7]
    refine bA (i:=10) (v:=?_) rfl aC aC aC aC aC (fun _ _ _ h=>h) (Or.inl ⟨by rfl,fun wq hSw=>?_⟩) hZ ?_;rotate_left
    . (go_simp;try with_reducible rfl)
    try simp only[p7]
    refine bV (i:=11) aC rfl rfl (fun K hK=>?_);go_simp;go_at_call 60
    refine (o3.o _ g2.o A4 B4 n4 c4 m4 d4 _ q8 r0 s2.o).mono ?_;rintro en w6 ⟨l7,h6⟩;have a7:Hid (aZ (fun q=>q=g) S F w6):=aB ((aZ.of_below g2.o).trans (row':=S) l7 (fun _ e=>by cases e));rcases h6 with⟨z,d3,rfl⟩|⟨y,k2,A6,n6,c6,B6,m6,d6,d3,rfl,l3,q5⟩
    . have D:Hid (I=.bad z):=aB (by rw[a9.o,d3]);clear d3 l7;go_wp2_with fail;exact⟨rfl,g4.o.trans (row':=S) a7.o (fun _ e=>by cases e),.inl ⟨z,D.o,rfl⟩⟩
    have a0:=aB (tK HR.o HC.o q k' (bX p) b8 (lQ k5.o.1) (by rw[i7.o,e8.o];exact Z.o.1) Z.o.2.1 y k2 (p0.o.symm.trans d3));have D:Hid (I=yI b cv q k2 (dW f' (gA y)) room):=aB (by rw[a9.o,d3]);have a3:=aB q5;have m3:dA y<=4096:=by have:=a0.o.2.1;have:=Z.o.2.1;omega
    have v5:=l3.len.2;have v1:=dM.argsLen a0.o.1 m3;obtain⟨s8,k8,e2⟩:=aAF (l3.read (g:=g) aA aA) m3 (i6.o.movedG q4 a7.o);have x7:=a7.o.size;clear d3 l7 l3 q5 m3 v5 v1;go_wp2_with fail;refine hK.o _ _ (fun _=>?_) ?_
    . (try dsimp only);exact fun (q:Nat) (h1:q<F.heap.size) (h2:q≠g)=>a7.o.block q h1 h2 aD
    clear hK K;try simp only[p7]
    replace hZ:=fun (q:Nat) (h1:q<F.heap.size) (h2:q≠g)=>a7.o.block q h1 h2 aD
    refine bV (i:=12) aC rfl rfl (fun K hK=>?_);go_simp;go_at_call 43
    refine (nR s8.o a0.o.1).mono ?_;rintro en w7 ⟨a4,h7⟩;have e6:Hid (aZ (fun q=>q=g) S F w7):=aB (a7.o.trans (row':=S) (aZ.of_below a4) (fun _ e=>by cases e));rcases h7 with⟨_,A7,n7,c7,rfl,r5,_⟩|⟨c1,rfl⟩;rotate_left
    . exact absurd c1 (by have:=k8.o;omega)
    have t6:=aB (r5.keep (R':=fun q=>lo<=q/\q<w7.heap.size) (w':=w7) fun q hq=>⟨⟨by have:=hq.1;omega,hq.2⟩,fun _=>rfl⟩);have n3:=aB (e2.o.below a4);have i5:=aB (a3.o.below a4 a3.o.lt);have x8:=a4.size;clear a4 r5;go_wp2_with fail;refine hK.o _ _ (fun _=>?_) ?_
    . (try dsimp only);exact fun (q:Nat) (h1:q<F.heap.size) (h2:q≠g)=>e6.o.block q h1 h2 aD
    clear hK K;try simp only[p7]
    replace hZ:=fun (q:Nat) (h1:q<F.heap.size) (h2:q≠g)=>e6.o.block q h1 h2 aD
    refine bV (i:=13) aC rfl rfl (fun K hK=>?_);go_simp;go_at_call 74
    refine (zQ aA n3.o e1.o o1.o o6.o (by have h9:=a0.o.2.1;have h8:=Z.o.2.2;have h7:=b5.o;have h6:=e8.o;have h5:=e3.o;have h4:=gM y;omega) t6.o (a0.o.1.fit k8.o)).mono ?_;rintro en w8 ⟨b6,A8,n8,c8,B8,m8,d8,rfl,q1⟩;have a8:Hid (aZ (fun q=>q=g) S F w8):=aB (e6.o.trans (row':=S) (aZ.of_below b6) (fun _ e=>by cases e));have n5:=aB q1;have d9:=aB (i5.o.below b6 i5.o.lt);clear b6 q1;have U:=aB (j2.o.moved a8.o l9 aD);have f1:=aB (j1.o.moved a8.o c5 aD);have z8:=U.o.cell;have f8:=U.o.frozen;go_wp2_with fail;refine hK.o _ _ (fun _=>?_) ?_
    . (try dsimp only);exact fun (q:Nat) (h1:q<F.heap.size) (h2:q≠g)=>a8.o.block q h1 h2 aD
    clear hK K;try simp only[p7]
    replace hZ:=fun (q:Nat) (h1:q<F.heap.size) (h2:q≠g)=>a8.o.block q h1 h2 aD
    refine bV (i:=14) aC rfl rfl (fun K hK=>?_);go_simp;refine hK.o _ _ (fun h=>absurd rfl h) ?_;clear hK K;try simp only[p7]
    refine gW aC ?_ _;have p4:=aB (jA e1.o o6.o (a0.o.1.fit k8.o) (by have h9:=a0.o.2.1;have h8:=Z.o.2.2;have h7:=b5.o;have h6:=e8.o;have h5:=e3.o;have h4:=gM y;omega));have t7:Hid ((dA (dW f' (gA y)):Int)<=room):=aB (by have h0:=p4.o.2;have h9:=a0.o.2.1;have h8:=Z.o.2.2;have h7:=b5.o;have h6:=e8.o;have h5:=e3.o;have h4:=gM y;omega);go_wp2_with fail;go_meet;refine⟨dW f' (gA y),k2,A8,B8,n8,c8,m8,d8,D,aB a0.o.2.2,aB (((g4.o.trans (row':=S) a8.o (fun _ e=>by cases e)).setNew (p:=⟨w.heap.size,0,S⟩) (XU _) _).setNew (p:=⟨w.heap.size,1,S⟩) (XU _) _),aB ((d9.o.far (p:=⟨w.heap.size,0,S⟩) (fun e=>l9 e.symm) _).far (p:=⟨w.heap.size,1,S⟩) (fun e=>l9 e.symm) _),aB (by have:=(U.o.set_ 0 (O A8 n8 c8)).set_ 1 (O B8 m8 d8);simpa using this),aB ((f1.o.far (p:=⟨w.heap.size,0,S⟩) aD _).far (p:=⟨w.heap.size,1,S⟩) aD _),aB (n5.o.box2 U.o _ _),aB p4.o.1,t7⟩
  case rest =>
  obtain⟨f2,k2,A2,B2,n2,c2,m2,d2,e9,k1,e5,a5,f3,f0,b9,a6,p2⟩:=hcut;obtain⟨w5,rfl⟩:=aAJ wc;have r6:=f3.o.cell;have e7:=aB (HW.o.moved e5.o a5.o);have l8:=b9.o.len.2;have f5:dA f2<=4096:=by have:=p2.o;have:=b5.o;omega
  have l1:=dM.argsLen a6.o f5;obtain⟨o2,k0⟩:=aAC f5 (b9.o.read e4.o aA);have d0:w.heap.size<w5.heap.size:=f3.o.lt;have j5:w.heap.size+1<w5.heap.size:=f0.o.lt;have f7:g<w5.heap.size:=a5.o.lt;have r1:m2<=d2:=by obtain⟨_,xs,h2,_⟩:=b9.o;exact wN h2
  have t1:=aB r1;clear l8 f5 l1 r1;by_cases b2:bT b cv f2=true;rotate_left
  . have k6:=aB b2;have D:Hid (I=.done f2 k2):=aB (e9.o.trans (OC b2));have k7:Hid (Calls Tryz.prog 69 #[.pointer (some ⟨g,0,S⟩),.agg #[O A2 n2 c2,O B2 m2 d2]] w5 (gT false w5)):=aB (by rw[<-Bool.eq_false_iff.2 b2];exact mR HR.o j8.o HC.o e7.o k0.o a6.o);clear b2;go_wp2_with fail;refine (k7.o).mono ?_;rintro en w6 ⟨rfl,Y⟩;have d1:=aB Y;have v9:=fun i=>(Y.cell (p:=⟨w.heap.size,i,S⟩) d0).trans (r6 i);have c0:=aB (f0.o.below Y j5);have a3:=aB (a5.o.below Y f7);have e2:=aB (b9.o.below Y);have a7:Hid (aZ (fun q=>q=g) S w w6):=aB (e5.o.trans (row':=S) (aZ.of_below Y) (fun _ e=>by cases e));have z6:=c0.o.cell;have f6:=c0.o.frozen;have c5:g≠w.heap.size+1:=aA;clear Y;go_wp2_with fail;refine XW (v:=.agg #[O A2 n2 c2,O B2 m2 d2]) (C9 (g:=w.heap.size+1) (by have:=(c0.o.set_ 0 (O A2 n2 c2)).set_ 1 (O B2 m2 d2);simpa using this) aD) rfl ⟨?_,.inr ⟨f2,k2,A2,n2,c2,B2,m2,d2,D.o,rfl,?_,?_⟩⟩
    . exact (a7.o.setNew (p:=⟨w.heap.size+1,0,S⟩) (Nat.le_succ _) _).setNew (p:=⟨w.heap.size+1,1,S⟩) (Nat.le_succ _) _
    . exact e2.o.box2 c0.o _ _
    exact (a3.o.far (p:=⟨w.heap.size+1,0,S⟩) c5 _).far (p:=⟨w.heap.size+1,1,S⟩) c5 _
  have k6:=aB b2;have p3:Hid (I=if k2=0 then .bad 10 else match jJ b cv f2 with
   | none=>.bad 9
   | some y=>if room<(dA y:Int) then .bad 9 else mK b cv q (k2-1) y room):=aB (e9.o.trans (OB b2))
  have k7:Hid (Calls Tryz.prog 69 #[.pointer (some ⟨g,0,S⟩),.agg #[O A2 n2 c2,O B2 m2 d2]] w5 (gT true w5)):=aB (by rw[<-b2];exact mR HR.o j8.o HC.o e7.o k0.o a6.o);clear b2;go_wp2_with fail;refine (k7.o).mono ?_;rintro en w6 ⟨rfl,Y⟩;have d1:=aB Y;have v9:=fun i=>(Y.cell (p:=⟨w.heap.size,i,S⟩) d0).trans (r6 i);have a3:=aB (a5.o.below Y f7);have y0:=a3.o.cell;have w9:w.heap.size<w6.heap.size:=XT d0 Y.size;clear Y;by_cases g8:k2=0
  . have D:Hid (I=.bad 10):=aB (by rw[p3.o,XP g8]);have t2:Hid (aZ (fun q=>q=g) S w w6):=aB (e5.o.trans (row':=S) (aZ.of_below d1.o) (fun _ e=>by cases e));subst g8;go_wp2_with fail;exact⟨rfl,t2.o,.inl ⟨10,D.o,rfl⟩⟩
  have i9:Hid (I=match jJ b cv f2 with
   | none=>.bad 9
   | some y=>if room<(dA y:Int) then .bad 9 else mK b cv q (k2-1) y room):=aB (by have h:=p3.o;rw[XN g8]at h;exact h)
  have x2:((k2:Int)==0)=false:=by simpa using g8
  obtain⟨kq,q6⟩:∃kq:Nat,kq+1=k2:=⟨k2-1,by omega⟩;have x9:IntKind.i64.wrap ((k2:Int)-1)=(kq:Int):=by have:=k1.o;have:=k3.o;rw[XV];omega
  have k4:=aB q6;clear q6;go_wp2_with fail;refine (EA HR.o j8.o HC.o r8.o (e7.o.below d1.o) (k0.o.below d1.o) a6.o t1.o o2.o k6.o).mono ?_;rintro en w7 ⟨a4,h7⟩;have n0:Hid (ZY w5 w7):=bY d1 a4;have e6:Hid (aZ (fun q=>q=g) S w w7):=aB (e5.o.trans (row':=S) (aZ.of_below n0.o) (fun _ e=>by cases e));rcases h7 with⟨y,hy,A7,n7,c7,B7,m7,d7,rfl,q0⟩|⟨hy,rfl⟩;rotate_left
  . have D:Hid (I=.bad 9):=aB (by rw[i9.o,hy]);clear a4 hy;go_wp2_with fail;exact⟨rfl,e6.o,.inl ⟨9,D.o,rfl⟩⟩
  have j9:=aB (q0.base (lo':=lo) (by have:=d1.o.size;omega));have i1:=lJ HR.o HC.o a6.o k6.o hy;have a0:=aB i1;have j0:Hid (I=if room<(dA y:Int) then .bad 9 else mK b cv q (k2-1) y room):=aB (by rw[i9.o,hy]);have v4:=j9.o.len.2;have v0:=dM.argsLen i1.1 i1.2;have s7:=aB (j9.o.read e4.o aA);clear a4 q0 hy i1 v4 v0;go_wp2_with fail;refine (tR s7.o (by have:=a0.o.2;omega) room).mono ?_;rintro en w8 ⟨b6,h8⟩;have g3:Hid (ZY w5 w8):=bY n0 b6;have a8:Hid (aZ (fun q=>q=g) S w w8):=aB (e5.o.trans (row':=S) (aZ.of_below g3.o) (fun _ e=>by cases e));have s3:=aB (j9.o.below b6);clear b6;rcases h8 with⟨f4,rfl⟩|⟨c1,rfl⟩;rotate_left
  . have D:Hid (I=.bad 9):=aB (by rw[j0.o,XP c1]);clear c1;go_wp2_with fail;exact⟨rfl,a8.o,.inl ⟨9,D.o,rfl⟩⟩
  have t5:Hid (I=mK b cv q kq y room):=aB (by have h:=j0.o;have h9:=k4.o;rw[XN f4,show k2-1=kq from by omega]at h;exact h);have n1:=aB f4;have U:=aB (f3.o.below g3.o d0);have f1:=aB (f0.o.below g3.o j5);have d9:=aB (a5.o.below g3.o f7);have z8:=U.o.cell;have f8:=U.o.frozen;have l6:g≠w.heap.size:=aA;have v2:g≠w.heap.size+1:=aA;have e0:Hid (aT ((w8.setCell ⟨w.heap.size,0,S⟩ (O A7 n7 c7)).setCell ⟨w.heap.size,1,S⟩ (O B7 m7 d7)) g 76 (zB v b cA cn cc k2)):=aB ((d9.o.far (p:=⟨w.heap.size,0,S⟩) l6 _).far (p:=⟨w.heap.size,1,S⟩) l6 _);have y1:=e0.o.cell;have x3:=e0.o.frozen;have p6:Hid (aT ((w8.setCell ⟨w.heap.size,0,S⟩ (O A7 n7 c7)).setCell ⟨w.heap.size,1,S⟩ (O B7 m7 d7)) w.heap.size 78 #[O A7 n7 c7,O B7 m7 d7]):=aB (by have:=(U.o.set_ 0 (O A7 n7 c7)).set_ 1 (O B7 m7 d7);simpa using this);have p5:Hid (aT ((w8.setCell ⟨w.heap.size,0,S⟩ (O A7 n7 c7)).setCell ⟨w.heap.size,1,S⟩ (O B7 m7 d7)) (w.heap.size+1) 78 #[O S 0 0,O S 0 0]):=aB ((f1.o.far (p:=⟨w.heap.size,0,S⟩) aD _).far (p:=⟨w.heap.size,1,S⟩) aD _);have n9:=aB (s3.o.box2 U.o (O A7 n7 c7) (O B7 m7 d7));have t0:Hid (aZ (fun q=>q=g) S w ((w8.setCell ⟨w.heap.size,0,S⟩ (O A7 n7 c7)).setCell ⟨w.heap.size,1,S⟩ (O B7 m7 d7))):=aB ((a8.o.setNew (p:=⟨w.heap.size,0,S⟩) (XU _) _).setNew (p:=⟨w.heap.size,1,S⟩) (XU _) _);clear f4;go_upto_region 9 with fail
  generalize ((w8.setCell ⟨w.heap.size,0,S⟩ (O A7 n7 c7)).setCell ⟨w.heap.size,1,S⟩ (O B7 m7 d7))=W9 at *;go_wp2_with fail;have d5:Hid (aT (W9.setCell ⟨g,6,S⟩ (.int .i64 (kq:Int))) g 76 (zB v b cA cn cc kq)):=aB (by have:=e0.o.set_ 6 (.int .i64 (kq:Int));simpa[zB] using this);go_roundw
  case rel =>
   refine aB ?_;rw[o7.o];refine⟨q,kq,y,A7,B7,n7,c7,m7,d7,t5.o,by have:=HQ.o;omega,by have:=k4.o;have:=k1.o;have:=k3.o;omega,t0.o.setCell (p:=⟨g,6,S⟩) rfl _,d5.o,p6.o.far (p:=⟨g,6,S⟩) (fun e=>l6 e.symm) _,p5.o.far (p:=⟨g,6,S⟩) (fun e=>v2 e.symm) _,n9.o.set e4.o _ _,a0.o.1,by have:=n1.o;omega⟩
  case measure =>
   have h1:=vW d5.o;have h2:=s5.o;have h3:=k4.o;have h4:=k1.o;omega
end Go.Proofs.YtjoddliplahgkaaGreat
