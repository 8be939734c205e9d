/- core: step. -/
import Derived.Test.YtjoddliplahgkaaGreatTWhX
namespace Go.Proofs.YtjoddliplahgkaaGreat
set_option linter.unusedVariables false
set_option linter.unusedSimpArgs false
open Go.RowKit
open Go.Value renaming slice → O
open Option renaming none → X
open Go.Obj renaming cells → Y
open Go.Lib renaming hid->aB
section
variable {lo g : Nat}{w w' : aAB}{f : Fc}{A B a1 a2 : ZZ}{n c m d n1 c1 n2 c2 : Nat}
theorem bF.box{R R':Nat->Prop}{l:List Nd}(h:bF R w A n c l)(o:0<l.length)(Z:aT w g 78 #[O a1 n1 c1,O a2 n2 c2])(G:∀q,q≠g->w'.heap[q]? = w.heap[q]?)(hR:∀q,R q->q≠g->R' q):bF R' w' A n c l:=by
 refine⟨h.len,h.cap,h.few,h.nul,fun s=>?_⟩;obtain⟨b,off,e,U,I⟩:=h.mem s;have F:b≠g:=by
  rintro rfl;have D:=(I 0 o).1;rw[Z.cell]at D;generalize off+0*3=z at D
  match z,D with
  | 0,D=>simp at D
  | 1,D=>simp at D
  | z+2,D=>simp at D
 refine⟨b,off,e,hR b U F,fun p hp=>?_⟩;obtain⟨x,y,z⟩:=I p hp;exact⟨(aP (G b F) _).trans x,(aP (G b F) _).trans y,(aP (G b F) _).trans z⟩
theorem bD.box{R R':Nat->Prop}(F:aT w g 78 #[O a1 n1 c1,O a2 n2 c2])(G:∀q,q≠g->w'.heap[q]? = w.heap[q]?)(hR:∀q,R q->q≠g->R' q):∀{D:List Value} {L:List TT},bD R w D (L.map aW)->bD R' w' D (L.map aW)
 | [],[],_=>trivial
 | [],_::_,h=>h.elim
 | _::_,[],h=>h.elim
 | x::D,y::ys,h=>by
  obtain⟨⟨I,o,U,e,ht⟩,Z⟩:=h;exact⟨⟨I,o,U,e,ht.box (iH y) F G hR⟩,bD.box F G hR Z⟩
theorem V3:(78:TypeId) ≠ 29:=by decide
theorem S0{base z k:Nat}{v:Value}{o:List Value}(h:w.ownsRow base 29 z v k o){cs:Array Value}(U:aT w g 78 cs):∀q,v.ownBlock=some q->q≠g:=by
 rintro q F rfl;rcases h.2 with⟨hv,_⟩|⟨b,cap,G,hv,_,Z,_⟩
 . subst hv;cases F
 subst hv;have e:b=q:=Option.some.inj (show some b=some q from F);subst e;have D:=Z.symm.trans U;injection D with D;injection D with _ I _;exact V3 I.symm
theorem fL.box(h:fL lo w f A n c B m d)(F:aT w g 78 #[O a1 n1 c1,O a2 n2 c2])(G:∀q,q≠g->w'.heap[q]? = w.heap[q]?)(U:w'.heap.size=w.heap.size):fL lo w' f A n c B m d:=by
 obtain⟨Z,s,I,o⟩:=h;refine⟨Z.box (iH _) F G fun q D _=>⟨D.1,by rw[U];exact D.2.1,D.2.2⟩,s,mA I fun q D=>G q (S0 I F q D),bD.box F G (fun q D _=>⟨D.1,by rw[U];exact D.2.1,D.2.2⟩) o⟩
theorem fL.box2(h:fL lo w f A n c B m d)(F:aT w g 78 #[O a1 n1 c1,O a2 n2 c2])(u0 u1:Value):fL lo ((w.setCell ⟨g,0,X⟩ u0).setCell ⟨g,1,X⟩ u1) f A n c B m d :=
 h.box F (fun q D=>(XZ _ ⟨g,1,X⟩ u1 q D).trans (XZ w ⟨g,0,X⟩ u0 q D)) (by rw[eE,eE])
end
def DW(lo:Nat)(r:VE)(A:ZZ)(n c:Nat)(B:ZZ)(m d:Nat)(D:ZZ)(h I:Nat)(F:ZZ)(Z U:Nat)(G:Bool)(w':aAB):Prop:=(r=.no/\G=false/\D=A/\h=n/\I=c/\F=B/\Z=m/\U=d)\/(∃y,r=.yes y/\G=true/\fL lo w' y D h I F Z U)
def VR(lo:Nat)(r:VE)(A:ZZ)(n c:Nat)(B:ZZ)(m d:Nat)(w:aAB)(e:Ending)(w':aAB):Prop:=ZY w w'/\((r=.big/\e=.panicked (nJ 9))\/∃D h I F Z U G,e=.returned (.tuple #[.agg #[O D h I,O F Z U],.bool G])/\DW lo r A n c B m d D h I F Z U G w')
theorem DW.below{lo:Nat}{r:VE}{A D B F:ZZ}{n c m d o I Z U:Nat}{G:Bool}{w w':aAB}(h:DW lo r A n c B m d D o I F Z U G w)(hb:ZY w w'):DW lo r A n c B m d D o I F Z U G w':=by
 rcases h with h|⟨y,s,z,h3⟩
 . exact .inl h
 exact .inr ⟨y,s,z,h3.below hb⟩
theorem kB{w:aAB}{g:Nat}{c0 c1:Value}{F:Bool}{D:Array Value}(h:aT w g 78 #[c0,c1])(ht:D.getD 6 undef=.pointer (some ⟨g,0,X⟩))(U:D.getD 7 undef=.bool F):
 (results Tryz.f41 D).run Tryz.prog w=.ok (.tuple #[.agg #[c0,c1],.bool F]) w:=by
 have Z:=h.cell;have I:D[6]?.getD undef=.pointer (some ⟨g,0,X⟩):=by rw[<-ht];simp
 have G:D[7]?.getD undef=.bool F:=by rw[<-U];simp
 simp[results,Tryz.results41,go_sem,I,G,Z]
theorem TP{b:Bk}{cv:aAA}{D:Nat}{s:Fc}{p:TT}{room:Int}(h:¬ bT b cv s=true)(F:cQ s=some p):qJ b cv (D+1) s room=match qJ b cv D (bX p) (room-(dA s:Int)+(bL p:Int)) with | .no=>.no | .big=>.big | .yes y=>.yes (dW s (gA y)):=by
 conv=>lhs;unfold qJ
 rw[XN h,F];rfl
theorem TO{b:Bk}{cv:aAA}{D:Nat}{s:Fc}{room:Int}(h:¬ bT b cv s=true)(F:cQ s=X):qJ b cv (D+1) s room=.no:=by
 conv=>lhs;unfold qJ
 rw[XN h,F]
theorem Q0{b:Bk}{cv:aAA}{D:Nat}{s:Fc}{room:Int}(h:bT b cv s=true):qJ b cv (D+1) s room=match jJ b cv s with|none=>.big|some y=>if room<(dA y:Int) then .big else .yes y:=by
 conv=>lhs;unfold qJ
 rw[XP h];rfl
theorem QZ{b:Bk}{cv:aAA}(s:bU b=0)(U:gG b cv){D:Nat}{f y:Fc}{room:Int}(Z:dM b (cv.length:Int) f)(G:(dA f:Int)<=room)(I:room<=4096)(o:dA f<D)(h:qJ b cv D f room=.yes y):dM b (cv.length:Int) y/\(dA y:Int)<=room:=by
 have F:=vB s U D f room Z G I o;rw[h]at F;exact⟨F.1,F.2.1⟩
set_option maxRecDepth 100000 in
set_option maxHeartbeats 4000000 in
theorem MK{w0:aAB}{g:Nat}{v:bR}{b:Bk}{cA:ZZ}{cn cc:Nat}{cv:aAA}{f:Nat}(hr:bU b=0)(hb:cE w0 v b)(hc:gG b cv)(l5:(cv.length:Int)<=990000):∀(b7:Nat)(w:aAB)(s:Fc)(A B:ZZ)(n c m d lo:Nat)(room:Int),yO w0 g v b cA cn cc cv f w->g<lo->lo<=w.heap.size->fL lo w s A n c B m d->dM b (cv.length:Int) s->(dA s:Int)<=room->room<=4096->dA s<b7 →
 Calls Tryz.prog 41 #[.pointer (some ⟨g,0,X⟩),.agg #[O A n c,O B m d],.int .i64 room] w (VR lo (qJ b cv b7 s room) A n c B m d w):=by
 intro b7
 induction b7 with
 | zero=>intro w s A B n c m d lo room _ _ _ _ _ _ _ h9;exact absurd h9 aA
 | succ b7 ih =>
 intro w s A B n c m d lo room hw j8 l9 hs fs m6 m2 i3;have IH:=aB ih;clear ih;obtain⟨w1,c9⟩:=aAJ ((w.alloc (Y #[O A n c,O B m d] 78)).alloc (Y #[O X 0 0,O X 0 0] 78));have g5:ZY w w1:=by rw[c9];exact bS _ _ _
 have zs:aT w1 w.heap.size 78 #[O A n c,O B m d]:=by rw[c9];exact (aT.new _ _ _).alloc _
 have zr:aT w1 (w.heap.size+1) 78 #[O X 0 0,O X 0 0]:=by rw[c9];exact aT.new' aD
 have q1:=hs.len.2;have p4:=dM.argsLen fs aA;have i2:dA s<=4096:=aA;have k8:=aB (hs.below g5);have HI:=aB (k8.o.read j8 aA);have m0:m<=d:=by obtain⟨_,xs,h2,_⟩:=hs;exact wN h2
 obtain⟨o5,HW,h,i7,HR,HC,n9,d1⟩:=aAG m0 (hw.below g5) g5 hb hr hc l5 fs;obtain⟨j4,p0,k9,k5,o1,j1,j0⟩:=aAI zr m6 m2 i3 j8 l9 i2;obtain⟨a9,f7⟩:=aAJ (qJ b cv (b7+1) s room);rw[<-f7];have f0:=aB f7;have g9:w.heap.size<w1.heap.size:=zs.lt;have k0:w.heap.size+1<w1.heap.size:=zr.lt;have h0:=zs.cell;clear hr hb hc l5 hw hs fs f7 g5 zs zr q1 p4 m0 m6 m2 i3 j8 l9 i2;go_in;go_upto_region 1 with fail
 rw[<-c9];clear c9;by_cases g8:bT b cv s=true
 . have b8:=aB g8;have l0:Hid (a9=match jJ b cv s with|none=>.big|some y=>if room<(dA y:Int) then .big else .yes y):=aB (f0.o.trans (Q0 b8.o));have j3:Hid (Calls Tryz.prog 69 #[.pointer (some ⟨g,0,X⟩),.agg #[O A n c,O B m d]] w1 (gT true w1)):=aB (by rw[<-b8.o];exact mR HR.o i7.o HC.o HW.o HI.o d1.o);clear g8;go_wp2_with fail;refine (j3.o).mono ?_;rintro en w2 ⟨rfl,c6⟩;have d0:=aB c6;have q2:=fun i=>(c6.cell (p:=⟨w.heap.size,i,X⟩) g9).trans (h0 i);clear c6;go_wp2_with fail;refine (EA HR.o i7.o HC.o n9.o (HW.o.below d0.o) (HI.o.below d0.o) d1.o o5.o j0.o b8.o).mono ?_;rintro en w3 ⟨e7,h3⟩;have z:=bY d0 e7;rcases h3 with⟨y,hy,A3,n3,c3,B3,m3,d3,rfl,l6⟩|⟨hy,rfl⟩;rotate_left
   . have D:Hid (a9=.big):=aB (by rw[l0.o,hy]);clear e7 hy;go_wp2_with fail;exact⟨rfl,h.o.trans (z.o.mono h.o.size),.inl ⟨D.o,rfl⟩⟩
   have i8:=aB (l6.base (lo':=w1.heap.size) d0.o.size);have b6:=lJ HR.o HC.o d1.o b8.o hy;have g4:=aB b6;have d9:Hid (a9=if room<(dA y:Int) then .big else .yes y):=aB (by rw[l0.o,hy]);have p9:=i8.o.len.2;have p2:=dM.argsLen b6.1 b6.2;have o3:=aB (i8.o.read (g:=g) (by have:=o1.o;have:=j1.o;omega) aA);clear e7 l6 hy b6 p9 p2;go_wp2_with fail;refine (tR o3.o (by have:=g4.o.2;omega) room).mono ?_;rintro en w4 ⟨b3,h4⟩;have a3:=bY z b3;have e4:=aB (i8.o.below b3);clear b3;rcases h4 with⟨i0,rfl⟩|⟨e2,rfl⟩
   . have D:Hid (a9=.yes y):=aB (by rw[d9.o,XN i0]);have e0:=aB (j4.o.below a3.o k0);have z4:=e0.o.cell;have f4:=e0.o.frozen;clear i0;go_wp2_with fail;refine XW (v:=.tuple #[.agg #[O A3 n3 c3,O B3 m3 d3],.bool true]) (kB (g:=w.heap.size+1) (by have:=(e0.o.set_ 0 (O A3 n3 c3)).set_ 1 (O B3 m3 d3);simpa using this) aD aD) rfl ⟨?_,.inr ⟨A3,n3,c3,B3,m3,d3,true,rfl,.inr ⟨y,D.o,rfl,?_⟩⟩⟩
     . exact ((h.o.trans (a3.o.mono h.o.size)).setCell (p:=⟨w.heap.size+1,0,X⟩) (Nat.le_succ _) _).setCell (p:=⟨w.heap.size+1,1,X⟩) (Nat.le_succ _) _
     exact (e4.o.box2 e0.o _ _).base (by have:=j1.o;omega)
   have D:Hid (a9=.big):=aB (by rw[d9.o,XP e2]);clear e2;go_wp2_with fail;exact⟨rfl,h.o.trans (a3.o.mono h.o.size),.inl ⟨D.o,rfl⟩⟩
 have b8:=aB g8;have j3:Hid (Calls Tryz.prog 69 #[.pointer (some ⟨g,0,X⟩),.agg #[O A n c,O B m d]] w1 (gT false w1)):=aB (by rw[<-Bool.eq_false_iff.2 b8.o];exact mR HR.o i7.o HC.o HW.o HI.o d1.o);clear g8;go_wp2_with fail;refine (j3.o).mono ?_;rintro en w2 ⟨rfl,c6⟩;have d0:=aB c6;have q2:=fun i=>(c6.cell (p:=⟨w.heap.size,i,X⟩) g9).trans (h0 i);have l8:g<w2.heap.size:=(HW.o.below c6).lt;clear c6;go_wp2_with fail;refine (zM l8 (HI.o.below d0.o) d1.o).mono ?_;rintro en w3 ⟨e7,h3⟩;have z:=bY d0 e7;have n0:=fun i=>(z.o.cell (p:=⟨w.heap.size,i,X⟩) g9).trans (h0 i);have b9:=aB (j4.o.below z.o k0);clear e7;cases hpt:cQ s with
 | none =>
  rw[hpt]at h3;simp only at h3;subst h3;have D:Hid (a9=.no):=aB (f0.o.trans (TO b8.o hpt));have z3:=b9.o.cell;have f3:=b9.o.frozen;clear hpt;go_wp2_with fail;refine XW (v:=.tuple #[.agg #[O A n c,O B m d],.bool false]) (kB (g:=w.heap.size+1) (by have:=(b9.o.set_ 0 (O A n c)).set_ 1 (O B m d);simpa using this) aD aD) rfl ⟨?_,.inr ⟨A,n,c,B,m,d,false,rfl,.inl ⟨D.o,rfl,rfl,rfl,rfl,rfl,rfl,rfl⟩⟩⟩;exact ((h.o.trans (z.o.mono h.o.size)).setCell (p:=⟨w.heap.size+1,0,X⟩) (Nat.le_succ _) _).setCell (p:=⟨w.heap.size+1,1,X⟩) (Nat.le_succ _) _
 | some p =>
 rw[hpt]at h3;simp only at h3;obtain⟨Ap,np,cp,rfl,k1⟩:=h3;have HP:=aB k1;have g7:=gU d1.o hpt;have i1:=eY g7.1;have g6:bL p=np:=k1.len;obtain⟨fz,f2⟩:=aAJ (dA s);have b5:Hid (a9=match qJ b cv b7 (bX p) (room-(fz:Int)+(np:Int)) with | .no=>.no | .big=>.big | .yes y=>.yes (dW s (gA y))):=aB (by rw[f0.o,f2,<-g6];exact TP b8.o hpt);have o8:=aB hpt;have j2:=aB g7;have d7:=aB i1;have e9:=aB g6;have h1:=p0.o;have h2:=k9.o;have h4:=g7.2;rw[g6]at h4;rw[<-f2]at h1 h4;have q6:IntKind.i64.wrap (room-(fz:Int))=room-(fz:Int):=by rw[XV];omega
 obtain⟨e8,i5⟩:=aAJ (room-(fz:Int)+(np:Int));have q7:IntKind.i64.wrap (room-(fz:Int)+(np:Int))=e8:=by rw[XV];omega
 rw[<-i5]at b5;have b0:Hid ((np:Int)<=e8/\e8<=4096/\np<b7/\e8+(fz:Int)=room+(np:Int)):=aB (by have:=k5.o;omega);have k4:=aB f2;have z3:=b9.o.cell;have f3:=b9.o.frozen;have k3:=aB (fun (W:aAB) (hB:ZY w3 W)=>fR (A:=Ap) (n:=np) (c:=cp) (w:=W) (bF.keep HP.o (R':=(· < W.heap.size)) fun q hq=>⟨XT hq.1 hB.size,fun o=>hB.cell (p:=⟨q,o,X⟩) hq.1⟩) j2.o.1);have g3:=aB (fun (W:aAB) (hB:ZY w3 W)=>sK ((HI.o.below z.o).below hB) (by have:=j0.o;omega));rw[<-f2]at g3;have k7:=aB (HW.o.below z.o);have p5:g<w3.heap.size:=k7.o.lt;have i6:w.heap.size<w3.heap.size:=by have:=z.o.size;omega
 have g2:=aB (fun (W:aAB) (hB:ZY w3 W) (A4 B4:ZZ) (n4 c4 m4 d4 l4:Nat) (q8:w3.heap.size<=l4) (hl:l4<=W.heap.size) (h9:fL l4 W (bX p) A4 n4 c4 B4 m4 d4)=>IH.o W (bX p) A4 B4 n4 c4 m4 d4 l4 e8 (k7.o.below hB) aA hl h9 (lQ j2.o.1) (by rw[d7.o,e9.o];exact b0.o.1) b0.o.2.1 (by rw[d7.o,e9.o];exact b0.o.2.2.1));generalize hst2:qJ b cv b7 (bX p) e8=r2 at *;have d9:=aB hst2;clear k1 hpt g7 i1 g6 f2 h1 h2 h4 i5 hst2;go_upto_region 6 with fail
 go_cut [10,11] (fun pv bv wx=>∃(d6:Nat)(A5 B5:ZZ)(n5 c5 m5 d5:Nat)(bl:Bool),pv=.pointer (some ⟨d6,0,X⟩)/\bv=.bool bl/\Hid (w3.heap.size<=d6)/\Hid (ZY w3 wx)/\Hid (aT wx d6 78 #[O A5 n5 c5,O B5 m5 d5])/\Hid ((r2=.no/\bl=false)\/∃y,r2=.yes y/\bl=true/\fL w3.heap.size wx y A5 n5 c5 B5 m5 d5))
 case first =>
  refine wp_region_held_drew (S:=(fun w'=>ZY w3 w')) aC ?_ (fun F=>?_)
  . (try dsimp only);exact aU (XS _ _) 1
  have b2:Hid (ZY w3 w3.drew):=aB (aU (XS _ _) 1);generalize w3.drew=W1 at *;refine aL 0 F ?_;refine aL 1 F ?_;refine aL 3 F ?_;refine tk 4 ?_ (fun wq hSw=>?_) F ?_;rotate_left
  . have s0:=(hSw.cell (p:=⟨w.heap.size,0,X⟩) i6).trans (n0 0);have s1:=(hSw.cell (p:=⟨w.heap.size,1,X⟩) i6).trans (n0 1);go_simp;try with_reducible rfl
  try simp only[p7]
  refine aL 7 F ?_;refine aL 8 F ?_;refine wpAnyH_ready (rs:=[2,14]) aC aD ?_;refine AllReadyH.cons rfl (fun K hK=>?_) (AllReadyH.cons rfl (fun K hK=>?_) (AllReadyH.nil))
  . go_simp;go_at_call 42
    refine (k3.o W1 b2.o).mono ?_;rintro en w4 ⟨b3,A4,n4,c4,B4,m4,d4,rfl,f1⟩;have a3:Hid (ZY w3 w4):=bY b2 b3;have e4:=aB f1;have a7:w3.heap.size<=W1.heap.size:=b2.o.size;have I:W1.heap.size<=w4.heap.size:=b3.size;clear b3 f1;go_wp2_with fail;refine hK.o _ _ (by exact a3.o) fun F=>?_;clear hK K;try simp only[p7]
    refine wpAnyH_ready (rs:=[5,14]) aC aD ?_;refine AllReadyH.cons rfl (fun K hK=>?_) (AllReadyH.cons rfl (fun K hK=>?_) (AllReadyH.nil))
    . go_simp;go_at_call 73
      refine (g3.o w4 a3.o).mono ?_;rintro en w5 ⟨rfl,a5⟩;have a4:Hid (ZY w3 w5):=bY a3 a5;have e5:=aB (e4.o.below a5);have I:=YE I a5.size;clear a5;go_wp2_with fail;refine hK.o _ _ (by exact a4.o) fun F=>?_;clear hK K;try simp only[p7]
      refine aL 6 F ?_;refine aL 9 F ?_;refine wpAnyH_ready (rs:=[10,14]) aC aD ?_;refine AllReadyH.cons rfl (fun K hK=>?_) (AllReadyH.cons rfl (fun K hK=>?_) (AllReadyH.nil))
      . go_simp;go_at_call 41
        refine (g2.o w5 a4.o A4 B4 n4 c4 m4 d4 _ a7 I e5.o).mono ?_;rintro en w6 ⟨a0,h6⟩;have Z:Hid (ZY w3 w6):=bY a4 a0;rcases h6 with⟨U,rfl⟩|⟨A5,n5,c5,B5,m5,d5,bl,rfl,U⟩
        . have D:Hid (a9=.big):=aB (by rw[b5.o,U]);clear U a0;go_wp2_with fail;exact⟨rfl,h.o.trans ((z.o.trans (Z.o.mono z.o.size)).mono h.o.size),.inl ⟨D.o,rfl⟩⟩
        have d2:=aB U;clear a0 U;go_wp2_with fail;refine hK.o _ _ (by exact Z.o) fun F=>?_;clear hK K;try simp only[p7]
        refine aL 11 F ?_;refine aL 12 F ?_;refine aL 13 F ?_;refine r1 14 fun K hK=>?_;go_simp;refine hK.o _ _ (by exact Z.o.alloc Z.o.size _) fun F=>?_;clear hK K;try simp only[p7]
        have b4:ZY w6 (w6.alloc (Y #[O X 0 0,O X 0 0] 78)):=aQ _ _;have b1:Hid (ZY w3 (w6.alloc (Y #[O X 0 0,O X 0 0] 78))):=aB (Z.o.alloc Z.o.size _);have a8:Hid (aT (w6.alloc (Y #[O X 0 0,O X 0 0] 78)) w6.heap.size 78 #[O X 0 0,O X 0 0]):=aB (aT.new _ _ _);have o9:=aB (DW.below d2.o b4);generalize (w6.alloc (Y #[O X 0 0,O X 0 0] 78))=Wa at *;have G:w3.heap.size<=w6.heap.size:=Z.o.size;clear b4;have zb:=a8.o.cell;have fb:=a8.o.frozen;refine r1 15 fun K hK=>?_;go_simp;refine hK.o _ _ (by exact (b1.o.setCell (p:=⟨w6.heap.size,0,X⟩) G _).setCell (p:=⟨w6.heap.size,1,X⟩) G _) fun F=>?_;clear hK K;try simp only[p7]
        refine aL 16 F ?_;refine wpAnyH_done aC ?_ _;go_wp2_with fail;go_meet;refine⟨_,A5,B5,n5,c5,m5,d5,bl,rfl,rfl,aB G,aB ((b1.o.setCell (p:=⟨w6.heap.size,0,X⟩) G _).setCell (p:=⟨w6.heap.size,1,X⟩) G _),aB (by have:=(a8.o.set_ 0 (O A5 n5 c5)).set_ 1 (O B5 m5 d5);simpa using this),aB ?_⟩;rcases o9.o with⟨h1,h2,_⟩|⟨y,h1,h2,h3⟩
        . exact .inl ⟨h1,h2⟩
        exact .inr ⟨y,h1,h2,(h3.box2 a8.o _ _).base a7⟩
      go_simp;refine hK.o _ _ (by exact a4.o.alloc a4.o.size _) fun F=>?_;clear hK K;try simp only[p7]
      have b4:ZY w5 (w5.alloc (Y #[O X 0 0,O X 0 0] 78)):=aQ _ _;have b1:Hid (ZY w3 (w5.alloc (Y #[O X 0 0,O X 0 0] 78))):=aB (a4.o.alloc a4.o.size _);have a8:Hid (aT (w5.alloc (Y #[O X 0 0,O X 0 0] 78)) w5.heap.size 78 #[O X 0 0,O X 0 0]):=aB (aT.new _ _ _);have i9:=aB (e5.o.below b4);have I:=YE I b4.size;generalize (w5.alloc (Y #[O X 0 0,O X 0 0] 78))=Wa at *;have G:w3.heap.size<=w5.heap.size:=a4.o.size;clear b4;refine r1 10 fun K hK=>?_;go_simp;go_at_call 41
      refine (g2.o Wa b1.o A4 B4 n4 c4 m4 d4 _ a7 I i9.o).mono ?_;rintro en w6 ⟨a0,h6⟩;have Z:Hid (ZY w3 w6):=bY b1 a0;have a6:=aB (a8.o.below a0 a8.o.lt);rcases h6 with⟨U,rfl⟩|⟨A5,n5,c5,B5,m5,d5,bl,rfl,U⟩
      . have D:Hid (a9=.big):=aB (by rw[b5.o,U]);clear U a0;go_wp2_with fail;exact⟨rfl,h.o.trans ((z.o.trans (Z.o.mono z.o.size)).mono h.o.size),.inl ⟨D.o,rfl⟩⟩
      have d2:=aB U;clear a0 U;go_wp2_with fail;refine hK.o _ _ (by exact Z.o) fun F=>?_;clear hK K;try simp only[p7]
      refine aL 11 F ?_;refine aL 12 F ?_;refine aL 13 F ?_;have zb:=a6.o.cell;have fb:=a6.o.frozen;refine r1 15 fun K hK=>?_;go_simp;refine hK.o _ _ (by exact (Z.o.setCell (p:=⟨w5.heap.size,0,X⟩) G _).setCell (p:=⟨w5.heap.size,1,X⟩) G _) fun F=>?_;clear hK K;try simp only[p7]
      refine aL 16 F ?_;refine wpAnyH_done aC ?_ _;go_wp2_with fail;go_meet;refine⟨_,A5,B5,n5,c5,m5,d5,bl,rfl,rfl,aB G,aB ((Z.o.setCell (p:=⟨w5.heap.size,0,X⟩) G _).setCell (p:=⟨w5.heap.size,1,X⟩) G _),aB (by have:=(a6.o.set_ 0 (O A5 n5 c5)).set_ 1 (O B5 m5 d5);simpa using this),aB ?_⟩;rcases d2.o with⟨h1,h2,_⟩|⟨y,h1,h2,h3⟩
      . exact .inl ⟨h1,h2⟩
      exact .inr ⟨y,h1,h2,(h3.box2 a6.o _ _).base a7⟩
    go_simp;refine hK.o _ _ (by exact a3.o.alloc a3.o.size _) fun F=>?_;clear hK K;try simp only[p7]
    have b4:ZY w4 (w4.alloc (Y #[O X 0 0,O X 0 0] 78)):=aQ _ _;have b1:Hid (ZY w3 (w4.alloc (Y #[O X 0 0,O X 0 0] 78))):=aB (a3.o.alloc a3.o.size _);have a8:Hid (aT (w4.alloc (Y #[O X 0 0,O X 0 0] 78)) w4.heap.size 78 #[O X 0 0,O X 0 0]):=aB (aT.new _ _ _);have i9:=aB (e4.o.below b4);have I:=YE I b4.size;generalize (w4.alloc (Y #[O X 0 0,O X 0 0] 78))=Wa at *;have G:w3.heap.size<=w4.heap.size:=a3.o.size;clear b4;refine r1 5 fun K hK=>?_;go_simp;go_at_call 73
    refine (g3.o Wa b1.o).mono ?_;rintro en w5 ⟨rfl,a5⟩;have a4:Hid (ZY w3 w5):=bY b1 a5;obtain⟨e6,e5⟩:=aAC (a8.o.below a5 a8.o.lt) (i9.o.below a5);have I:=YE I a5.size;clear a5;go_wp2_with fail;refine hK.o _ _ (by exact a4.o) fun F=>?_;clear hK K;try simp only[p7]
    refine aL 6 F ?_;refine aL 9 F ?_;refine r1 10 fun K hK=>?_;go_simp;go_at_call 41
    refine (g2.o w5 a4.o A4 B4 n4 c4 m4 d4 _ a7 I e5.o).mono ?_;rintro en w6 ⟨a0,h6⟩;have Z:Hid (ZY w3 w6):=bY a4 a0;have a6:=aB (e6.o.below a0 e6.o.lt);rcases h6 with⟨U,rfl⟩|⟨A5,n5,c5,B5,m5,d5,bl,rfl,U⟩
    . have D:Hid (a9=.big):=aB (by rw[b5.o,U]);clear U a0;go_wp2_with fail;exact⟨rfl,h.o.trans ((z.o.trans (Z.o.mono z.o.size)).mono h.o.size),.inl ⟨D.o,rfl⟩⟩
    have d2:=aB U;clear a0 U;go_wp2_with fail;refine hK.o _ _ (by exact Z.o) fun F=>?_;clear hK K;try simp only[p7]
    refine aL 11 F ?_;refine aL 12 F ?_;refine aL 13 F ?_;have zb:=a6.o.cell;have fb:=a6.o.frozen;refine r1 15 fun K hK=>?_;go_simp;refine hK.o _ _ (by exact (Z.o.setCell (p:=⟨w4.heap.size,0,X⟩) G _).setCell (p:=⟨w4.heap.size,1,X⟩) G _) fun F=>?_;clear hK K;try simp only[p7]
    refine aL 16 F ?_;refine wpAnyH_done aC ?_ _;go_wp2_with fail;go_meet;refine⟨_,A5,B5,n5,c5,m5,d5,bl,rfl,rfl,aB G,aB ((Z.o.setCell (p:=⟨w4.heap.size,0,X⟩) G _).setCell (p:=⟨w4.heap.size,1,X⟩) G _),aB (by have:=(a6.o.set_ 0 (O A5 n5 c5)).set_ 1 (O B5 m5 d5);simpa using this),aB ?_⟩;rcases d2.o with⟨h1,h2,_⟩|⟨y,h1,h2,h3⟩
    . exact .inl ⟨h1,h2⟩
    exact .inr ⟨y,h1,h2,(h3.box2 a6.o _ _).base a7⟩
  go_simp;refine hK.o _ _ (by exact b2.o.alloc b2.o.size _) fun F=>?_;clear hK K;try simp only[p7]
  have b4:ZY W1 (W1.alloc (Y #[O X 0 0,O X 0 0] 78)):=aQ _ _;have b1:Hid (ZY w3 (W1.alloc (Y #[O X 0 0,O X 0 0] 78))):=aB (b2.o.alloc b2.o.size _);have a8:Hid (aT (W1.alloc (Y #[O X 0 0,O X 0 0] 78)) W1.heap.size 78 #[O X 0 0,O X 0 0]):=aB (aT.new _ _ _);generalize (W1.alloc (Y #[O X 0 0,O X 0 0] 78))=Wa at *;have G:w3.heap.size<=W1.heap.size:=b2.o.size;clear b4;refine r1 2 fun K hK=>?_;go_simp;go_at_call 42
  refine (k3.o Wa b1.o).mono ?_;rintro en w4 ⟨b3,A4,n4,c4,B4,m4,d4,rfl,f1⟩;have a3:Hid (ZY w3 w4):=bY b1 b3;obtain⟨k6,e4⟩:=aAC (a8.o.below b3 a8.o.lt) f1;have a7:w3.heap.size<=Wa.heap.size:=b1.o.size;have I:Wa.heap.size<=w4.heap.size:=b3.size;clear b3 f1;go_wp2_with fail;refine hK.o _ _ (by exact a3.o) fun F=>?_;clear hK K;try simp only[p7]
  refine r1 5 fun K hK=>?_;go_simp;go_at_call 73
  refine (g3.o w4 a3.o).mono ?_;rintro en w5 ⟨rfl,a5⟩;have a4:Hid (ZY w3 w5):=bY a3 a5;obtain⟨e6,e5⟩:=aAC (k6.o.below a5 k6.o.lt) (e4.o.below a5);have I:=YE I a5.size;clear a5;go_wp2_with fail;refine hK.o _ _ (by exact a4.o) fun F=>?_;clear hK K;try simp only[p7]
  refine aL 6 F ?_;refine aL 9 F ?_;refine r1 10 fun K hK=>?_;go_simp;go_at_call 41
  refine (g2.o w5 a4.o A4 B4 n4 c4 m4 d4 _ a7 I e5.o).mono ?_;rintro en w6 ⟨a0,h6⟩;have Z:Hid (ZY w3 w6):=bY a4 a0;have a6:=aB (e6.o.below a0 e6.o.lt);rcases h6 with⟨U,rfl⟩|⟨A5,n5,c5,B5,m5,d5,bl,rfl,U⟩
  . have D:Hid (a9=.big):=aB (by rw[b5.o,U]);clear U a0;go_wp2_with fail;exact⟨rfl,h.o.trans ((z.o.trans (Z.o.mono z.o.size)).mono h.o.size),.inl ⟨D.o,rfl⟩⟩
  have d2:=aB U;clear a0 U;go_wp2_with fail;refine hK.o _ _ (by exact Z.o) fun F=>?_;clear hK K;try simp only[p7]
  refine aL 11 F ?_;refine aL 12 F ?_;refine aL 13 F ?_;have zb:=a6.o.cell;have fb:=a6.o.frozen;refine r1 15 fun K hK=>?_;go_simp;refine hK.o _ _ (by exact (Z.o.setCell (p:=⟨W1.heap.size,0,X⟩) G _).setCell (p:=⟨W1.heap.size,1,X⟩) G _) fun F=>?_;clear hK K;try simp only[p7]
  refine aL 16 F ?_;refine wpAnyH_done aC ?_ _;go_wp2_with fail;go_meet;refine⟨_,A5,B5,n5,c5,m5,d5,bl,rfl,rfl,aB G,aB ((Z.o.setCell (p:=⟨W1.heap.size,0,X⟩) G _).setCell (p:=⟨W1.heap.size,1,X⟩) G _),aB (by have:=(a6.o.set_ 0 (O A5 n5 c5)).set_ 1 (O B5 m5 d5);simpa using this),aB ?_⟩;rcases d2.o with⟨h1,h2,_⟩|⟨y,h1,h2,h3⟩
  . exact .inl ⟨h1,h2⟩
  exact .inr ⟨y,h1,h2,(h3.box2 a6.o _ _).base a7⟩
 case rest =>
 obtain⟨d6,A5,B5,n5,c5,m5,d5,bl,rfl,rfl,p6,j6,f5,j9⟩:=hcut;obtain⟨w6,rfl⟩:=aAJ wc;have e3:=aB (z.o.trans (j6.o.mono z.o.size));have n6:=fun i=>(e3.o.cell (p:=⟨w.heap.size,i,X⟩) g9).trans (h0 i);have c0:=aB (j4.o.below e3.o k0);have z6:=c0.o.cell;have f6:=c0.o.frozen;have p8:w.heap.size+1<w6.heap.size:=c0.o.lt;rcases j9.o with⟨m1,j5⟩|⟨y,f9,j5,j7⟩
 . have D:Hid (a9=.no):=aB (by rw[b5.o,m1]);subst j5;clear m1 j9 f5 j6;go_wp2_with fail;refine XW (v:=.tuple #[.agg #[O A n c,O B m d],.bool false]) (kB (g:=w.heap.size+1) (by have:=(c0.o.set_ 0 (O A n c)).set_ 1 (O B m d);simpa using this) aD aD) rfl ⟨?_,.inr ⟨A,n,c,B,m,d,false,rfl,.inl ⟨D.o,rfl,rfl,rfl,rfl,rfl,rfl,rfl⟩⟩⟩;exact ((h.o.trans (e3.o.mono h.o.size)).setCell (p:=⟨w.heap.size+1,0,X⟩) (Nat.le_succ _) _).setCell (p:=⟨w.heap.size+1,1,X⟩) (Nat.le_succ _) _
 have D:Hid (a9=.yes (dW s (gA y))):=aB (by rw[b5.o,f9]);subst j5;have b6:=QZ HR.o HC.o (lQ j2.o.1) (by rw[d7.o,e9.o];exact b0.o.1) b0.o.2.1 (by rw[d7.o,e9.o];exact b0.o.2.2.1) (d9.o.trans f9);have g4:=aB b6;have k2:dA y<=4096:=by have:=b6.2;have:=b0.o.2.1;omega
 have q0:=j7.len.2;have p3:=dM.argsLen b6.1 k2;obtain⟨o4,l1⟩:=aAC (j7.read (g:=g) p5 aA) k2;have m9:=f5.o.cell;have e6:=aB f5.o;have i4:d6<w6.heap.size:=f5.o.lt;have o6:=aB (k8.o.below e3.o);have q3:=p6.o;have q5:=z.o.size;have q4:lo<=w6.heap.size:=by have:=j1.o;omega
 have o2:Hid (dA s+bL (gA y)<=4096+bL p):=aB (by
  have h9:=b6.2;have h8:=b0.o.2.2.2;have h7:=k9.o;have h6:=e9.o;have h5:=k4.o;have h4:=gM y;omega)
 clear f9 j9 f5 j6 b6 k2 q0 p3 j7;go_upto_region 9 with fail
 refine wp_region_held_drew (S:=(fun w'=>∀q,q<w6.heap.size->q≠w.heap.size+1->w'.heap[q]? = w6.heap[q]?)) aC ?_ (fun F=>?_)
 . (try dsimp only);exact fun q _ _=>rfl
 have b2:Hid (ZY w6 w6.drew):=aB (aU (XS _ _) 1);generalize w6.drew=W1 at *;refine tk 0 ?_ (fun wq hSw=>?_) F ?_;rotate_left
 . have s0:=(aP (hSw (w.heap.size) (show w.heap.size<w6.heap.size by omega) aA) 0).trans (n6 0);have s1:=(aP (hSw (w.heap.size) (show w.heap.size<w6.heap.size by omega) aA) 1).trans (n6 1);go_simp;try with_reducible rfl
 try simp only[p7]
 refine tk 1 ?_ (fun wq hSw=>?_) F ?_;rotate_left
 . have s0:=(aP (hSw (d6) i4 aA) 0).trans (m9 0);have s1:=(aP (hSw (d6) i4 aA) 1).trans (m9 1);go_simp;try with_reducible rfl
 try simp only[p7]
 refine r1 2 fun K hK=>?_;go_simp;go_at_call 43
 refine (nR (o4.o.below b2.o) g4.o.1).mono ?_;rintro en w7 ⟨l2,h7⟩;have g0:Hid (ZY w6 w7):=bY b2 l2;rcases h7 with⟨_,A7,n7,c7,rfl,m7,_⟩|⟨e2,rfl⟩;rotate_left
 . exact absurd e2 (by have:=l1.o;omega)
 have p1:=aB (m7.keep (R':=fun q=>lo<=q/\q<w7.heap.size) (w':=w7) fun q hq=>⟨⟨by have:=hq.1;have:=b2.o.size;omega,hq.2⟩,fun _=>rfl⟩);have o7:=aB (o6.o.below g0.o);clear l2 m7;go_wp2_with fail;refine hK.o _ _ (by exact fun q h1 _=>g0.o.block q h1) fun F=>?_;clear hK K;try simp only[p7]
 refine r1 3 fun K hK=>?_;go_simp;go_at_call 74
 refine (zQ (by have:=g0.o.size;omega) o7.o d1.o j0.o o8.o o2.o p1.o (g4.o.1.fit l1.o)).mono ?_;rintro en w8 ⟨l3,A8,n8,c8,B8,m8,d8,rfl,l7⟩;have g1:Hid (ZY w6 w8):=bY g0 l3;have o0:=aB l7;clear l3 l7;go_wp2_with fail;refine hK.o _ _ (by exact fun q h1 _=>g1.o.block q h1) fun F=>?_;clear hK K;try simp only[p7]
 have e1:=aB (c0.o.below g1.o p8);have z8:=e1.o.cell;have f8:=e1.o.frozen;refine r1 4 fun K hK=>?_;go_simp;refine hK.o _ _ (by exact fun q h1 h2=>(XZ _ ⟨w.heap.size+1,1,X⟩ _ q h2).trans ((XZ _ ⟨w.heap.size+1,0,X⟩ _ q h2).trans (g1.o.block q h1))) fun F=>?_;clear hK K;try simp only[p7]
 refine aL 5 F ?_;refine wpAnyH_done aC ?_ _;go_wp2_with fail;refine XW (v:=.tuple #[.agg #[O A8 n8 c8,O B8 m8 d8],.bool true]) (kB (g:=w.heap.size+1) (by have:=(e1.o.set_ 0 (O A8 n8 c8)).set_ 1 (O B8 m8 d8);simpa using this) aD aD) rfl ⟨?_,.inr ⟨A8,n8,c8,B8,m8,d8,true,rfl,.inr ⟨_,D.o,rfl,?_⟩⟩⟩
 . exact ((h.o.trans ((e3.o.trans (g1.o.mono e3.o.size)).mono h.o.size)).setCell (p:=⟨w.heap.size+1,0,X⟩) (Nat.le_succ _) _).setCell (p:=⟨w.heap.size+1,1,X⟩) (Nat.le_succ _) _
 exact o0.o.box2 e1.o _ _
end Go.Proofs.YtjoddliplahgkaaGreat
