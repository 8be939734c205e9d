/- core: whnf. -/
import Derived.Test.YtlahmbhimhmoaaaVWhY
namespace Go.Proofs.Ytlahmbhimhmoaaa
set_option linter.unusedVariables false
set_option linter.unusedSimpArgs false
open Go.RowKit
open Go.Value renaming slice → O
open Option renaming none → S
open Go.Lib renaming hid->aB
variable {b:Bk}{cv:OD}{g:Nat}
abbrev FZ(v:bA)(b:Bk)(cA:OC)(cn cc f:Nat):Array Value:=#[.int .i64 b.vars,O v.Ao v.no v.co,O v.Ae v.ne v.ce,.int .i64 b.nat,O v.Ap v.np v.cp,O cA cn cc,.int .i64 (f:Int)]
theorem wS.moved{w0 w w':OE}{f G cn cc:Nat}{v:bA}{cA:OC}(h:wS w0 g v b cA cn cc cv f w)(F:aS (fun q=>q=g) S w w')(I:aW w' g 134 (FZ v b cA cn cc G)):wS w0 g v b cA cn cc cv G w' :=
 ⟨h.bel.trans (F.to_below h.bel.size (fun k e=>by rw[e];exact h.ge) (fun _ e=>by cases e)),I,h.ge,h.ctx.keep fun q D=>⟨⟨MD D.1 F.size,D.2⟩,fun o=>aP (F.block q D.1 D.2 aD) o⟩⟩
def KA(g:Nat)(v:bA)(b:Bk)(cA:OC)(cn cc D:Nat)(r:IQ)(w:OE)(e:Ending)(w':OE):Prop:=aS (fun q=>q=g) S w w'/\((∃z,r=.bad z/\e=.panicked (nE z))\/∃y k A n c B m d,r=.done y k/\e=.returned (.agg #[O A n c,O B m d])/\dM D w' y A n c B m d/\aW w' g 134 (FZ v b cA cn cc k))
theorem tH{w:OE}{G I:Value}{D:Array Value}(h:aW w g 109 #[G,I])(ht:D.getD 6 undef=.pointer (some ⟨g,0,S⟩)):
 (results Try.f57 D).run Try.prog w=.ok (.agg #[G,I]) w:=by
 have U:=h.cell;have F:D[6]?.getD undef=.pointer (some ⟨g,0,S⟩):=by rw[<-ht];simp
 simp[results,Try.results57,go_sem,F,U]
def s8(g:Nat)(w:OE):Nat:=match w.cell? ⟨g,6,S⟩ with
 | some v=>(intOf v).toNat
 | none=>0
theorem oZ{w:OE}{v:bA}{cA:OC}{cn cc f:Nat}(h:aW w g 134 (FZ v b cA cn cc f)):s8 g w=f:=by
 unfold s8;rw[h.cell];simp[FZ,intOf]
theorem DE{q k:Nat}{f:Fc}{room:Int}(h:bX b cv f=true):qJ b cv q k f room=if k=0 then .bad 10 else match hY b cv f with
 | none=>.bad 9
 | some y=>if room<(cJ y:Int) then .bad 9 else i9 b cv q (k-1) y room:=by
 unfold qJ;rw[LZ h];rfl
theorem DF{q k:Nat}{f:Fc}{room:Int}(h:¬ bX b cv f=true):qJ b cv q k f room=.done f k:=by
 unfold qJ;rw[aN h]
set_option maxRecDepth 100000 in
set_option maxHeartbeats 4000000 in
theorem BT{w0:OE}{v:bA}{cA:OC}{cn cc:Nat}(hr:bD b=0)(hb:bO w0 v b)(hc:fA b cv)(q4:(cv.length:Int)<=990000):∀(G b3:Nat),b3<=G->∀(w:OE)(s:Fc)(A B:OC)(n c m d lo k:Nat)(room:Int),wS w0 g v b cA cn cc cv k w->g<lo->lo<=w.heap.size->dM lo w s A n c B m d->cG b (cv.length:Int) s->(cJ s:Int)<=room->room<=4096->k<=1000000->i9 b cv b3 k s room≠.bad 99 →
 Calls Try.prog 57 #[.pointer (some ⟨g,0,S⟩),.agg #[O A n c,O B m d],.int .i64 room] w (KA g v b cA cn cc lo (i9 b cv b3 k s room) w):=by
 intro G
 induction G with
 | zero =>
  intro b3 y9 w s A B n c m d lo k room _ _ _ _ _ _ _ _ h9;obtain rfl:b3=0:=aA;exact absurd rfl h9
 | succ G ih =>
 intro b3 j8 w s A B n c m d lo k room hw q8 r3 hs fs g4 r8 hk l3;have IH:=aB ih;clear ih;obtain⟨w1,b8⟩:=OM ((w.alloc (.cells #[O A n c,O B m d] 109)).alloc (.cells #[O S 0 0,O S 0 0] 109));have g9:OB w w1:=by rw[b8];exact cB _ _ _
 have zs:aW w1 w.heap.size 109 #[O A n c,O B m d]:=by rw[b8];exact (aW.new _ _ _).alloc _
 have zr:aW w1 (w.heap.size+1) 109 #[O S 0 0,O S 0 0]:=by rw[b8];exact aW.new' aD
 obtain⟨U,a3⟩:=OM (i9 b cv b3 k s room);rw[<-a3]at l3 ⊢;have HW:=aB hw;have k3:=aB hb;have HR:=aB hr;have HC:=aB hc;have s4:=aB q4;have b9:=aB r8;have e6:=aB q8;have t4:=aB r3;have o0:=aB l3;have v8:=hw.lt;have RL:∃RL:World->Prop,RL=fun wr=>∃(q k':Nat)(f':Fc)(A' B':OC)(n' c' m' d':Nat),U=i9 b cv q k' f' room/\q<=G+1/\k'<=1000000/\aS (fun q=>q=g) S w wr/\aW wr g 134 (FZ v b cA cn cc k')/\aW wr w.heap.size 109 #[O A' n' c',O B' m' d']/\aW wr (w.heap.size+1) 109 #[O S 0 0,O S 0 0]/\dM lo wr f' A' n' c' B' m' d'/\cG b (cv.length:Int) f'/\(cJ f':Int)<=room:=⟨_,rfl⟩;obtain⟨RL,l5⟩:=RL;have p3:=aB l5;have p5:Hid (RL w1):=aB (by
  rw[l5];exact⟨b3,k,s,A,B,n,c,m,d,a3,j8,hk,aS.of_below g9,hw.blk.below g9 v8,zs,zr,hs.below g9,fs,g4⟩)
 clear hr hb hc q4 hw hs fs a3 g9 zs zr g4 r8 j8 q8 r3 hk l3 l5;go_in;go_upto_region 1 with fail
 rw[<-b8];clear b8;go_loopw [] (fun wr=>Hid (RL wr)) (fun wr=>s8 g wr)
 case atStart=>exact p5
 case round =>
  have g3:=hrel.o;rw[p3.o]at g3;obtain⟨q,k',f',A',B',n',c',m',d',a3,hq,hk,m9,b4,i5,n9,i1,l9,g4⟩:=g3;clear hrel p5;obtain⟨wb,rfl⟩:=OM wr;cases q with
  | zero=>exact absurd (show U=.bad 99 from a3) o0.o
  | succ q =>
  have m5:=i1.len.2;have l6:=cG.argsLen l9 (by have:=b9.o;omega);have b5:cJ f'<=4096:=by have:=b9.o;omega
  obtain⟨j2,HM,s3,v4,v3,s9,e3,p8⟩:=OH a3 m9 b4 i5 n9 i1 l9 g4;obtain⟨o7,HQ,k7,y4,HI⟩:=OG b5 hq hk (HW.o.moved m9 b4) (i1.read e6.o aA);have n1:w.heap.size<wb.heap.size:=i5.lt;have g3:w.heap.size+1<wb.heap.size:=n9.lt;have m0:g<wb.heap.size:=b4.lt;have x2:=i5.cell;have t0:Hid (s8 g wb=k'):=aB (oZ b4);have z1:lo<=w.heap.size:=t4.o;have q9:g<lo:=e6.o;clear a3 m9 b4 i5 n9 i1 l9 g4 m5 l6 b5 hq hk;go_wp2_with fail;refine (BO m0 HI.o e3.o).mono ?_;rintro en I ⟨a1,h3⟩;have y3:=aB a1;have x0:∃(Ap:OC)(np cp:Nat)(bl:Bool),en=.returned (.tuple #[O Ap np cp,.bool bl])/\Hid ((bl=false/\cW f'=S)\/(bl=true/\∃p,cW f'=some p/\a6 (fun q=>q<I.heap.size/\q≠g) I Ap np cp (aT p))):=by
   cases c1:cW f' with
   | none=>rw[c1]at h3;exact⟨S,0,0,false,h3,aB (.inl ⟨rfl,rfl⟩)⟩
   | some p=>rw[c1]at h3;obtain⟨Ap,np,cp,e,ht⟩:=h3;exact⟨Ap,np,cp,true,e,aB (.inr ⟨rfl,p,rfl,ht⟩)⟩
  obtain⟨Ap,np,cp,bl,rfl,p1⟩:=x0;have i6:=fun i=>(a1.cell (p:=⟨w.heap.size,i,S⟩) n1).trans (x2 i);have d5:w.heap.size<I.heap.size:=MD n1 a1.size;have x4:g<I.heap.size:=MD m0 a1.size;have x9:w.heap.size+1<I.heap.size:=MD g3 a1.size;have g8:Hid (aS (fun q=>q=g) S w I):=aB (HM.o.trans (row':=S) (aS.of_below a1) (fun _ e=>by cases e));obtain⟨j6,j5,i7,j0,t1⟩:=OG (v4.o.below a1 n1) (v3.o.below a1 g3) (s3.o.below a1 m0) (s9.o.below a1) (HI.o.below a1);have x8:lo<=I.heap.size:=aA;clear a1 h3;go_upto_if 14 with fail
  go_cut [] (fun wx=>∃(f2:Fc)(k2:Nat)(A2 B2:OC)(n2 c2 m2 d2:Nat),Hid (U=qJ b cv q k2 f2 room)/\Hid (k2<=k')/\Hid (aS (fun q=>q=g) S w wx)/\Hid (aW wx g 134 (FZ v b cA cn cc k2))/\Hid (aW wx w.heap.size 109 #[O A2 n2 c2,O B2 m2 d2])/\Hid (aW wx (w.heap.size+1) 109 #[O S 0 0,O S 0 0])/\Hid (dM lo wx f2 A2 n2 c2 B2 m2 d2)/\Hid (cG b (cv.length:Int) f2)/\Hid ((cJ f2:Int)<=room))
  case first =>
   cases bl with
   | false =>
    have t9:Hid (U=qJ b cv q k' f' room):=aB (by
     rcases p1.o with⟨_,h⟩|⟨h,_⟩
     . exact j2.o.trans (gX h q k' room)
     cases h)
    go_wp2_with fail;go_meet;exact⟨f',k',A',B',n',c',m',d',t9,aB (MF _),g8,i7,j6,j5,j0,e3,p8⟩
   | true =>
    have x1:∃p,cW f'=some p/\a6 (fun q=>q<I.heap.size/\q≠g) I Ap np cp (aT p):=by
     rcases p1.o with⟨h,_⟩|⟨_,h⟩
     . cases h
     exact h
    obtain⟨p,c1,n3⟩:=x1;have HP:=aB n3;have i3:=iL e3.o c1;have j7:=eO i3.1;have i2:bZ p=np:=n3.len;obtain⟨fz,b5⟩:=OM (cJ f');have b1:Hid (U=match i9 b cv q k' (cV p) (room-(fz:Int)+(np:Int)) with | .bad e=>.bad e | .done y m=>qJ b cv q m (eX f' (eR y)) room):=aB (by rw[j2.o,b5,<-i2];exact kC c1 q k' room);have p2:=aB c1;have k9:=aB i3;have j1:=aB j7;have f1:=aB i2;have h1:=p8.o;have h2:=b9.o;have h4:=i3.2;rw[i2]at h4;rw[<-b5]at h1 h4;have y1:IntKind.i64.wrap (room-(fz:Int))=room-(fz:Int):=by rw[MP];omega
    obtain⟨c3,k0⟩:=OM (room-(fz:Int)+(np:Int));have y2:IntKind.i64.wrap (room-(fz:Int)+(np:Int))=c3:=by rw[MP];omega
    rw[<-k0]at b1;have Z:Hid ((np:Int)<=c3/\c3<=4096/\c3+(fz:Int)=room+(np:Int)):=aB aA;have e5:=aB b5;have o6:=aB (fun (W:OE) (hB:OB I W)=>eT (A:=Ap) (n:=np) (c:=cp) (w:=W) (a6.keep HP.o (R':=(· < W.heap.size)) fun q hq=>⟨MD hq.1 hB.size,fun o=>hB.cell (p:=⟨q,o,S⟩) hq.1⟩) k9.o.1);have p4:=aB (fun (W:OE) (hB:OB I W)=>rM (t1.o.below hB) (by have:=o7.o;omega));rw[<-b5]at p4;obtain⟨r2,b7⟩:=OM (i9 b cv q k' (cV p) c3);rw[<-b7]at b1;have p0:Hid (r2≠.bad 99):=aB (fun e=>o0.o (by rw[b1.o,e]));have t8:=aB (HW.o.moved g8.o i7.o);have o9:=aB (fun (W:OE) (hB:OB I W) (A4 B4:OC) (n4 c4 m4 d4 l4:Nat) (y8:I.heap.size<=l4) (hl:l4<=W.heap.size) (h9:dM l4 W (cV p) A4 n4 c4 B4 m4 d4)=>IH.o q (by have:=HQ.o;omega) W (cV p) A4 B4 n4 c4 m4 d4 l4 k' c3 (t8.o.below hB) aA hl h9 (nK k9.o.1) (by rw[j1.o,f1.o];exact Z.o.1) Z.o.2.1 k7.o (by rw[<-b7];exact p0.o));rw[<-b7]at o9;have p6:=aB b7;have n0:w.heap.size≠g:=aA;have d3:w.heap.size+1≠g:=aA;clear n3 c1 i3 j7 i2 b5 h1 h2 h4 k0 b7;go_upto_region 3 with fail
    refine fW 14 (fun w'=>∀q,q<I.heap.size->q≠g->w'.heap[q]? = I.heap[q]?) aC ?_ (fun hZ=>?_)
    . (try dsimp only);exact fun q _ _=>rfl
    have k1:Hid (OB I I.drew):=aB (aU (MC _ _) 1);generalize I.drew=W1 at *;refine a7 (i:=0) (v:=?_) rfl aC aC aC aC aC (fun _ _ _ h=>h) (Or.inl ⟨by rfl,fun wq hSw=>?_⟩) hZ ?_;rotate_left
    . (have s0:=(aP (hSw (w.heap.size) d5 aA) 0).trans (i6 0);have s1:=(aP (hSw (w.heap.size) d5 aA) 1).trans (i6 1);go_simp;try with_reducible rfl)
    try simp only[p7]
    refine a7 (i:=1) (v:=?_) rfl aC aC aC aC aC (fun _ _ _ h=>h) (Or.inl ⟨by rfl,fun wq hSw=>?_⟩) hZ ?_;rotate_left
    . (go_simp;try with_reducible rfl)
    try simp only[p7]
    refine a7 (i:=2) (v:=?_) rfl aC aC aC aC aC (fun _ _ _ h=>h) (Or.inl ⟨by rfl,fun wq hSw=>?_⟩) hZ ?_;rotate_left
    . (go_simp;try with_reducible rfl)
    try simp only[p7]
    refine a7 (i:=4) (v:=?_) rfl aC aC aC aC aC (fun _ _ _ h=>h) (Or.inl ⟨by rfl,fun wq hSw=>?_⟩) hZ ?_;rotate_left
    . (go_simp;try with_reducible rfl)
    try simp only[p7]
    refine a7 (i:=5) (v:=?_) rfl aC aC aC aC aC (fun _ _ _ h=>h) (Or.inl ⟨by rfl,fun wq hSw=>?_⟩) hZ ?_;rotate_left
    . (have s0:=(aP (hSw (w.heap.size) d5 aA) 0).trans (i6 0);have s1:=(aP (hSw (w.heap.size) d5 aA) 1).trans (i6 1);go_simp;try with_reducible rfl)
    try simp only[p7]
    refine a7 (i:=8) (v:=?_) rfl aC aC aC aC aC (fun _ _ _ h=>h) (Or.inl ⟨by rfl,fun wq hSw=>?_⟩) hZ ?_;rotate_left
    . (go_simp;try with_reducible rfl)
    try simp only[p7]
    refine a7 (i:=9) (v:=?_) rfl aC aC aC aC aC (fun _ _ _ h=>h) (Or.inl ⟨by rfl,fun wq hSw=>?_⟩) hZ ?_;rotate_left
    . (go_simp;try with_reducible rfl)
    try simp only[p7]
    refine bW (i:=3) aC rfl rfl (fun K hK=>?_);go_simp;go_at_call 58
    refine (o6.o _ k1.o).mono ?_;rintro en w4 ⟨l7,A4,n4,c4,B4,m4,d4,rfl,q5⟩;have g5:Hid (OB I w4):=bK k1 l7;have s5:=aB q5;have r4:I.heap.size<=W1.heap.size:=k1.o.size;have r5:W1.heap.size<=w4.heap.size:=l7.size;clear l7 q5;go_wp2_with fail;refine hK.o _ _ (fun _=>?_) ?_
    . (try dsimp only);exact fun (q:Nat) (h1:q<I.heap.size) (_:q≠g)=>g5.o.block q h1
    clear hK K;try simp only[p7]
    replace hZ:=fun (q:Nat) (h1:q<I.heap.size) (_:q≠g)=>g5.o.block q h1
    refine bW (i:=6) aC rfl rfl (fun K hK=>?_);go_simp;go_at_call 76
    refine (p4.o _ g5.o).mono ?_;rintro en w5 ⟨rfl,i0⟩;have g6:Hid (OB I w5):=bK g5 i0;have s6:=aB (s5.o.below i0);have r6:W1.heap.size<=w5.heap.size:=MO r5 i0.size;clear i0;go_wp2_with fail;refine hK.o _ _ (fun _=>?_) ?_
    . (try dsimp only);exact fun (q:Nat) (h1:q<I.heap.size) (_:q≠g)=>g6.o.block q h1
    clear hK K;try simp only[p7]
    replace hZ:=fun (q:Nat) (h1:q<I.heap.size) (_:q≠g)=>g6.o.block q h1
    refine a7 (i:=7) (v:=?_) rfl aC aC aC aC aC (fun _ _ _ h=>h) (Or.inl ⟨by rfl,fun wq hSw=>?_⟩) hZ ?_;rotate_left
    . (go_simp;try with_reducible rfl)
    try simp only[p7]
    refine a7 (i:=10) (v:=?_) rfl aC aC aC aC aC (fun _ _ _ h=>h) (Or.inl ⟨by rfl,fun wq hSw=>?_⟩) hZ ?_;rotate_left
    . (go_simp;try with_reducible rfl)
    try simp only[p7]
    refine bW (i:=11) aC rfl rfl (fun K hK=>?_);go_simp;go_at_call 57
    refine (o9.o _ g6.o A4 B4 n4 c4 m4 d4 _ r4 r6 s6.o).mono ?_;rintro en w6 ⟨m3,h6⟩;have a9:Hid (aS (fun q=>q=g) S I w6):=aB ((aS.of_below g6.o).trans (row':=S) m3 (fun _ e=>by cases e));rcases h6 with⟨z,e1,rfl⟩|⟨y,k2,A6,n6,c6,B6,m6,d6,e1,rfl,l8,r0⟩
    . have D:Hid (U=.bad z):=aB (by rw[b1.o,e1]);clear e1 m3;go_wp2_with fail;exact⟨rfl,g8.o.trans (row':=S) a9.o (fun _ e=>by cases e),.inl ⟨z,D.o,rfl⟩⟩
    have a0:=aB (nC HR.o HC.o q k' (cV p) c3 (nK k9.o.1) (by rw[j1.o,f1.o];exact Z.o.1) Z.o.2.1 y k2 (p6.o.symm.trans e1));have D:Hid (U=qJ b cv q k2 (eX f' (eR y)) room):=aB (by rw[b1.o,e1]);have a2:=aB r0;have n5:cJ y<=4096:=by have:=a0.o.2.1;have:=Z.o.2.1;omega
    have w9:=l8.len.2;have v6:=cG.argsLen a0.o.1 n5;obtain⟨t3,l2,e4⟩:=OK (l8.read (g:=g) aA aA) n5 (j0.o.movedG q9 a9.o);have z2:=a9.o.size;clear e1 m3 l8 r0 n5 w9 v6;go_wp2_with fail;refine hK.o _ _ (fun _=>?_) ?_
    . (try dsimp only);exact fun (q:Nat) (h1:q<I.heap.size) (h2:q≠g)=>a9.o.block q h1 h2 aD
    clear hK K;try simp only[p7]
    replace hZ:=fun (q:Nat) (h1:q<I.heap.size) (h2:q≠g)=>a9.o.block q h1 h2 aD
    refine bW (i:=12) aC rfl rfl (fun K hK=>?_);go_simp;go_at_call 59
    refine (uY t3.o a0.o.1).mono ?_;rintro en w7 ⟨a4,h7⟩;have e9:Hid (aS (fun q=>q=g) S I w7):=aB (a9.o.trans (row':=S) (aS.of_below a4) (fun _ e=>by cases e));rcases h7 with⟨_,A7,n7,c7,rfl,r9,_⟩|⟨d1,rfl⟩;rotate_left
    . exact absurd d1 (by have:=l2.o;omega)
    have v1:=aB (r9.keep (R':=fun q=>lo<=q/\q<w7.heap.size) (w':=w7) fun q hq=>⟨⟨by have:=hq.1;omega,hq.2⟩,fun _=>rfl⟩);have o3:=aB (e4.o.below a4);have i8:=aB (a2.o.below a4 a2.o.lt);have z3:=a4.size;clear a4 r9;go_wp2_with fail;refine hK.o _ _ (fun _=>?_) ?_
    . (try dsimp only);exact fun (q:Nat) (h1:q<I.heap.size) (h2:q≠g)=>e9.o.block q h1 h2 aD
    clear hK K;try simp only[p7]
    replace hZ:=fun (q:Nat) (h1:q<I.heap.size) (h2:q≠g)=>e9.o.block q h1 h2 aD
    refine bW (i:=13) aC rfl rfl (fun K hK=>?_);go_simp;go_at_call 75
    refine (BU aA o3.o e3.o o7.o p2.o (by have h9:=a0.o.2.1;have h8:=Z.o.2.2;have h7:=b9.o;have h6:=f1.o;have h5:=e5.o;have h4:=fT y;omega) v1.o (a0.o.1.fit l2.o)).mono ?_;rintro en w8 ⟨c0,A8,n8,c8,B8,m8,d8,rfl,q7⟩;have b0:Hid (aS (fun q=>q=g) S I w8):=aB (e9.o.trans (row':=S) (aS.of_below c0) (fun _ e=>by cases e));have o4:=aB q7;have c5:=aB (i8.o.below c0 i8.o.lt);clear c0 q7;have F:=aB (j6.o.moved b0.o n0 aD);have f5:=aB (j5.o.moved b0.o d3 aD);have z8:=F.o.cell;have f8:=F.o.frozen;have v9:w.heap.size<w8.heap.size:=F.o.lt;go_wp2_with fail;refine hK.o _ _ (fun _=>?_) ?_
    . (try dsimp only);exact fun (q:Nat) (h1:q<I.heap.size) (h2:q≠g)=>b0.o.block q h1 h2 aD
    clear hK K;try simp only[p7]
    replace hZ:=fun (q:Nat) (h1:q<I.heap.size) (h2:q≠g)=>b0.o.block q h1 h2 aD
    refine bW (i:=14) aC rfl rfl (fun K hK=>?_);go_simp;refine hK.o _ _ (fun h=>absurd rfl h) ?_;clear hK K;try simp only[p7]
    refine gV aC ?_ _;have q1:=aB (iS e3.o p2.o (a0.o.1.fit l2.o) (by have h9:=a0.o.2.1;have h8:=Z.o.2.2;have h7:=b9.o;have h6:=f1.o;have h5:=e5.o;have h4:=fT y;omega));have v2:Hid ((cJ (eX f' (eR y)):Int)<=room):=aB (by have h0:=q1.o.2;have h9:=a0.o.2.1;have h8:=Z.o.2.2;have h7:=b9.o;have h6:=f1.o;have h5:=e5.o;have h4:=fT y;omega);go_wp2_with fail;go_meet;refine⟨eX f' (eR y),k2,A8,B8,n8,c8,m8,d8,D,aB a0.o.2.2,aB (((g8.o.trans (row':=S) b0.o (fun _ e=>by cases e)).setNew (p:=⟨w.heap.size,0,S⟩) (MF _) _).setNew (p:=⟨w.heap.size,1,S⟩) (MF _) _),aB ((c5.o.far (p:=⟨w.heap.size,0,S⟩) (fun e=>n0 e.symm) _).far (p:=⟨w.heap.size,1,S⟩) (fun e=>n0 e.symm) _),aB (by have:=(F.o.set_ 0 (O A8 n8 c8)).set_ 1 (O B8 m8 d8);simpa using this),aB ((f5.o.far (p:=⟨w.heap.size,0,S⟩) aD _).far (p:=⟨w.heap.size,1,S⟩) aD _),aB (o4.o.box2 F.o _ _),aB q1.o.1,v2⟩
  case rest =>
  obtain⟨f2,k2,A2,B2,n2,c2,m2,d2,f3,k6,e7,a5,f7,f4,d0,a8,p9⟩:=hcut;obtain⟨w5,rfl⟩:=OM wc;have s2:=f7.o.cell;have f0:=aB (HW.o.moved e7.o a5.o);have m5:=d0.o.len.2;have g0:cJ f2<=4096:=by have:=p9.o;have:=b9.o;omega
  have l6:=cG.argsLen a8.o g0;obtain⟨o8,k5⟩:=OF g0 (d0.o.read e6.o aA);have d9:w.heap.size<w5.heap.size:=f7.o.lt;have j9:w.heap.size+1<w5.heap.size:=f4.o.lt;have g1:g<w5.heap.size:=a5.o.lt;have r7:m2<=d2:=by obtain⟨_,xs,h2,_⟩:=d0.o;exact vN h2
  have t6:=aB r7;clear m5 g0 l6 r7;by_cases b6:bX b cv f2=true;rotate_left
  . have l0:=aB b6;have D:Hid (U=.done f2 k2):=aB (f3.o.trans (DF b6));have l1:Hid (Calls Try.prog 77 #[.pointer (some ⟨g,0,S⟩),.agg #[O A2 n2 c2,O B2 m2 d2]] w5 (e8 false w5)):=aB (by rw[<-Bool.eq_false_iff.2 b6];exact oS HR.o k3.o HC.o f0.o k5.o a8.o);clear b6;go_wp2_with fail;refine (l1.o).mono ?_;rintro en w6 ⟨rfl,Y⟩;have e0:=aB Y;have x3:=fun i=>(Y.cell (p:=⟨w.heap.size,i,S⟩) d9).trans (s2 i);have b2:=aB (f4.o.below Y j9);have a2:=aB (a5.o.below Y g1);have e4:=aB (d0.o.below Y);have a9:Hid (aS (fun q=>q=g) S w w6):=aB (e7.o.trans (row':=S) (aS.of_below Y) (fun _ e=>by cases e));have z6:=b2.o.cell;have f6:=b2.o.frozen;have z0:w.heap.size+1<w6.heap.size:=b2.o.lt;have d3:g≠w.heap.size+1:=aA;clear Y;go_wp2_with fail;refine NG (v:=.agg #[O A2 n2 c2,O B2 m2 d2]) (tH (g:=w.heap.size+1) (by have:=(b2.o.set_ 0 (O A2 n2 c2)).set_ 1 (O B2 m2 d2);simpa using this) aD) rfl ⟨?_,.inr ⟨f2,k2,A2,n2,c2,B2,m2,d2,D.o,rfl,?_,?_⟩⟩
    . exact (a9.o.setNew (p:=⟨w.heap.size+1,0,S⟩) (Nat.le_succ _) _).setNew (p:=⟨w.heap.size+1,1,S⟩) (Nat.le_succ _) _
    . exact e4.o.box2 b2.o _ _
    exact (a2.o.far (p:=⟨w.heap.size+1,0,S⟩) d3 _).far (p:=⟨w.heap.size+1,1,S⟩) d3 _
  have l0:=aB b6;have q0:Hid (U=if k2=0 then .bad 10 else match hY b cv f2 with
   | none=>.bad 9
   | some y=>if room<(cJ y:Int) then .bad 9 else i9 b cv q (k2-1) y room):=aB (f3.o.trans (DE b6))
  have l1:Hid (Calls Try.prog 77 #[.pointer (some ⟨g,0,S⟩),.agg #[O A2 n2 c2,O B2 m2 d2]] w5 (e8 true w5)):=aB (by rw[<-b6];exact oS HR.o k3.o HC.o f0.o k5.o a8.o);clear b6;go_wp2_with fail;refine (l1.o).mono ?_;rintro en w6 ⟨rfl,Y⟩;have e0:=aB Y;have x3:=fun i=>(Y.cell (p:=⟨w.heap.size,i,S⟩) d9).trans (s2 i);have a2:=aB (a5.o.below Y g1);have z5:=a2.o.cell;have x5:g<w6.heap.size:=a2.o.lt;have y0:w.heap.size<w6.heap.size:=MD d9 Y.size;clear Y;by_cases g2:k2=0
  . have D:Hid (U=.bad 10):=aB (by rw[q0.o,LZ g2]);have t7:Hid (aS (fun q=>q=g) S w w6):=aB (e7.o.trans (row':=S) (aS.of_below e0.o) (fun _ e=>by cases e));subst g2;go_wp2_with fail;exact⟨rfl,t7.o,.inl ⟨10,D.o,rfl⟩⟩
  have j3:Hid (U=match hY b cv f2 with
   | none=>.bad 9
   | some y=>if room<(cJ y:Int) then .bad 9 else i9 b cv q (k2-1) y room):=aB (by have h:=q0.o;rw[aN g2]at h;exact h)
  have y5:((k2:Int)==0)=false:=by simpa using g2
  have y6:(k2==0)=false:=by simpa using g2
  obtain⟨kq,r1⟩:∃kq:Nat,kq+1=k2:=⟨k2-1,by omega⟩;have z4:IntKind.i64.wrap ((k2:Int)-1)=(kq:Int):=by have:=k6.o;have:=k7.o;rw[MP];omega
  have k8:=aB r1;clear r1;go_wp2_with fail;refine (DZ HR.o k3.o HC.o s4.o (f0.o.below e0.o) (k5.o.below e0.o) a8.o t6.o o8.o l0.o).mono ?_;rintro en w7 ⟨a4,h7⟩;have o1:Hid (OB w5 w7):=bK e0 a4;have e9:Hid (aS (fun q=>q=g) S w w7):=aB (e7.o.trans (row':=S) (aS.of_below o1.o) (fun _ e=>by cases e));rcases h7 with⟨y,hy,A7,n7,c7,B7,m7,d7,rfl,q6⟩|⟨hy,rfl⟩;rotate_left
  . have D:Hid (U=.bad 9):=aB (by rw[j3.o,hy]);clear a4 hy;go_wp2_with fail;exact⟨rfl,e9.o,.inl ⟨9,D.o,rfl⟩⟩
  have k4:=aB (q6.base (lo':=lo) (by have:=e0.o.size;omega));have i4:=jY HR.o HC.o a8.o l0.o hy;have a0:=aB i4;have j4:Hid (U=if room<(cJ y:Int) then .bad 9 else i9 b cv q (k2-1) y room):=aB (by rw[j3.o,hy]);have w2:=k4.o.len.2;have v5:=cG.argsLen i4.1 i4.2;have t2:=aB (k4.o.read e6.o aA);clear a4 q6 hy i4 w2 v5;go_wp2_with fail;refine (uN t2.o (by have:=a0.o.2;omega) room).mono ?_;rintro en w8 ⟨c0,h8⟩;have g7:Hid (OB w5 w8):=bK o1 c0;have b0:Hid (aS (fun q=>q=g) S w w8):=aB (e7.o.trans (row':=S) (aS.of_below g7.o) (fun _ e=>by cases e));have s7:=aB (k4.o.below c0);clear c0;rcases h8 with⟨f9,rfl⟩|⟨d1,rfl⟩;rotate_left
  . have D:Hid (U=.bad 9):=aB (by rw[j4.o,LZ d1]);clear d1;go_wp2_with fail;exact⟨rfl,b0.o,.inl ⟨9,D.o,rfl⟩⟩
  have v0:Hid (U=i9 b cv q kq y room):=aB (by have h:=j4.o;have h9:=k8.o;rw[aN f9,show k2-1=kq from by omega]at h;exact h);have o2:=aB f9;have F:=aB (f7.o.below g7.o d9);have f5:=aB (f4.o.below g7.o j9);have c5:=aB (a5.o.below g7.o g1);have z8:=F.o.cell;have f8:=F.o.frozen;have v9:w.heap.size<w8.heap.size:=F.o.lt;have x6:g<w8.heap.size:=c5.o.lt;have m1:g≠w.heap.size:=aA;have v7:g≠w.heap.size+1:=aA;have c9:Hid (aW ((w8.setCell ⟨w.heap.size,0,S⟩ (O A7 n7 c7)).setCell ⟨w.heap.size,1,S⟩ (O B7 m7 d7)) g 134 (FZ v b cA cn cc k2)):=aB ((c5.o.far (p:=⟨w.heap.size,0,S⟩) m1 _).far (p:=⟨w.heap.size,1,S⟩) m1 _);have z7:=c9.o.cell;have y7:=c9.o.frozen;have q3:Hid (aW ((w8.setCell ⟨w.heap.size,0,S⟩ (O A7 n7 c7)).setCell ⟨w.heap.size,1,S⟩ (O B7 m7 d7)) w.heap.size 109 #[O A7 n7 c7,O B7 m7 d7]):=aB (by have:=(F.o.set_ 0 (O A7 n7 c7)).set_ 1 (O B7 m7 d7);simpa using this);have q2:Hid (aW ((w8.setCell ⟨w.heap.size,0,S⟩ (O A7 n7 c7)).setCell ⟨w.heap.size,1,S⟩ (O B7 m7 d7)) (w.heap.size+1) 109 #[O S 0 0,O S 0 0]):=aB ((f5.o.far (p:=⟨w.heap.size,0,S⟩) aD _).far (p:=⟨w.heap.size,1,S⟩) aD _);have o5:=aB (s7.o.box2 F.o (O A7 n7 c7) (O B7 m7 d7));have t5:Hid (aS (fun q=>q=g) S w ((w8.setCell ⟨w.heap.size,0,S⟩ (O A7 n7 c7)).setCell ⟨w.heap.size,1,S⟩ (O B7 m7 d7))):=aB ((b0.o.setNew (p:=⟨w.heap.size,0,S⟩) (MF _) _).setNew (p:=⟨w.heap.size,1,S⟩) (MF _) _);clear f9;go_upto_region 9 with fail
  generalize ((w8.setCell ⟨w.heap.size,0,S⟩ (O A7 n7 c7)).setCell ⟨w.heap.size,1,S⟩ (O B7 m7 d7))=W9 at *;have x7:g<W9.heap.size:=c9.o.lt;go_wp2_with fail;have e2:Hid (aW (W9.setCell ⟨g,6,S⟩ (.int .i64 (kq:Int))) g 134 (FZ v b cA cn cc kq)):=aB (by have:=c9.o.set_ 6 (.int .i64 (kq:Int));simpa[FZ] using this);go_roundw
  case rel =>
   refine aB ?_;rw[p3.o];refine⟨q,kq,y,A7,B7,n7,c7,m7,d7,v0.o,by have:=HQ.o;omega,by have:=k8.o;have:=k6.o;have:=k7.o;omega,t5.o.setCell (p:=⟨g,6,S⟩) rfl _,e2.o,q3.o.far (p:=⟨g,6,S⟩) (fun e=>m1 e.symm) _,q2.o.far (p:=⟨g,6,S⟩) (fun e=>v7 e.symm) _,o5.o.set e6.o _ _,a0.o.1,by have:=o2.o;omega⟩
  case measure =>
   have h1:=oZ e2.o;have h2:=t0.o;have h3:=k8.o;have h4:=k6.o;omega
end Go.Proofs.Ytlahmbhimhmoaaa
