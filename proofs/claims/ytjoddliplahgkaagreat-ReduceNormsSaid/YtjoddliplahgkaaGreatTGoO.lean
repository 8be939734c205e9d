/- The reference's Opened, in a context: a fix's body with the functions, lifted, in their variables' places. -/
import Derived.Test.YtjoddliplahgkaaGreatTWhQ
namespace Go.Proofs.YtjoddliplahgkaaGreat
set_option linter.unusedVariables false
set_option linter.unusedSimpArgs false
open Go.RowKit
open Go.Value renaming int → O, slice → Y
open Go.IntKind renaming i64 → X
open Option renaming none → Z, some → I
open Go.Obj renaming cells → J
open Go.Lib renaming hid->aB
def oL(h:TT):Nat->TT->TT×Int
 | 0,x=>(x,0)
 | i+1,x=>if (cI x (jD (eL h i) (i:Int))).2=0 then oL h i (cI x (jD (eL h i) (i:Int))).1 else cI x (jD (eL h i) (i:Int))
def DJ(h:TT):TT×Int:=oL h h.1.b.toNat (eM h (2*h.1.a.toNat+1))
theorem RD(h:TT):∀(i:Nat)(x:TT),tG h i x=if (oL h i x).2=0 then I (oL h i x).1 else Z
 | 0,x=>rfl
 | i+1,x=>by
  by_cases D:(cI x (jD (eL h i) (i:Int))).2=0
  . have F:tG h (i+1) x=tG h i (cI x (jD (eL h i) (i:Int))).1:=by
     conv=>lhs;unfold tG
     rw[XP D]
    have G:oL h (i+1) x=oL h i (cI x (jD (eL h i) (i:Int))).1:=by
     conv=>lhs;unfold oL
     rw[XP D]
    rw[F,G,RD h i]
  . have F:tG h (i+1) x=Z:=by
     conv=>lhs;unfold tG
     rw[XN D]
    have G:oL h (i+1) x=cI x (jD (eL h i) (i:Int)):=by
     conv=>lhs;unfold oL
     rw[XN D]
    rw[F,G,XN D]
theorem U9(h:TT):rW h=if (DJ h).2=0 then I (DJ h).1 else Z:=RD h _ _
theorem qE{b:Bk}{w:aAB}{R:Nat->Prop}{t:iA}{u:TT}{free:Int}(hR:∀b,R b->b<w.heap.size)(ht:fI R w t u)(D:bO b free u){i:Int}(F:0<=i)(U:i<=1100000):
 Calls Tryz.prog 83 #[.agg (fE t u.1),O X i,O X 0] w (R0 R w (jD u i)):=by
 have h:=fB u.2.2;have o:=cS u.1 u.2.1 u.2.2;have s:=D.few;have z:bL u=bL (u.1,u.2.1,u.2.2):=rfl;refine (xP hR ht D.okt.ok D.okt.all F aA (YI 0) aA).mono ?_;intro e w' G;have:=fF.tt (x:=(lE i u.1 0,s9 u.1 u.2.1 0,tA i u.1 u.2.2 0)) G;rw[RH D.okt i]at this;exact this
set_option maxRecDepth 100000 in
set_option maxHeartbeats 8000000 in
theorem E5{b:Bk}{w:aAB}{R:Nat->Prop}{t:iA}{h:TT}(hR:∀b,R b->b<w.heap.size)(ht:fI R w t h){free:Int}(n0:0<=free)(n1:free<=990000)(hf:bO b free h)(c3:h.1.op=12):
 Calls Tryz.prog 85 #[.agg (fE t h.1)] w (WH R w (DJ h)):=by
 obtain⟨b1,b4,a0,ab,f3⟩:=fN hf.okt c3;obtain⟨y0,g8⟩:=aAJ (eM h (2*h.1.a.toNat+1));have e6:(bH h.2.2)[2*h.1.a.toNat+1]? = I y0:=by rw[g8];exact jR (x:=h) aA
 have g6:bO b (free+(h.1.b.toNat:Int)) y0:=by
  have hk:=hf.kid e6;rw[pX c3]at hk;rw[show ((h.1.b.toNat:Nat):Int)=h.1.b from by omega];exact hk
 have e2:DJ h=oL h h.1.b.toNat y0:=by unfold DJ;rw[<-g8]
 obtain⟨A,hA⟩:∃A:Nat,h.1.a=(A:Int):=⟨h.1.a.toNat,by omega⟩;obtain⟨B,hB⟩:∃B:Nat,h.1.b=(B:Int):=⟨h.1.b.toNat,by omega⟩;have g4:=ht.nk;rw[f3,hB,YG]at g4;rw[hA,YG]at e6;rw[hB,YG]at g6 e2;rw[hA,hB]at ab;rw[hB]at b1 b4;obtain⟨bk,ok,ty,j4,l6,hc,c9⟩:=ht.kid (j:=2*A+1) aA;have f2:cX h.2.2 (2*A+1)=y0:=by unfold cX;rw[YD,e6];rfl
 rw[f2]at hc c9;have c1:=aB (fun (i:Nat) (hi:i<B)=>sJ hf c3 (i:=i) (by rw[hB];omega));have i4:=aB (fun (W:aAB) (hb:ZY w W) (i:Nat) (hi:i<B)=>nU (R:=R) (up:=(i:Int)) (u:=0) (fun b g0=>XT (hR b g0) hb.size) ((P4 ht c3 hf.okt i).below hR hb) (c1.o i hi).okt.ok (c1.o i hi).okt.all aA aA (YI 0) (by
  have h2:=fB (eL h i).2.2;have h3:=cS (eL h i).1 (eL h i).2.1 (eL h i).2.2;have h4:=(c1.o i hi).few;have h5:bL (eL h i)=bL ((eL h i).1,(eL h i).2.1,(eL h i).2.2):=rfl;omega))
 obtain⟨i3,f8,j0⟩:=aAF (fun (i:Nat) (hi:i<B)=>v4 (c1.o i hi) (up:=(i:Int)) aA) (fun (W:aAB) (hb:ZY w W) (i:Nat) (hi:i<B)=>qE (b:=b) (free:=free) (R:=R) (i:=(i:Int)) (fun b g0=>XT (hR b g0) hb.size) ((P4 ht c3 hf.okt i).below hR hb) (c1.o i hi) aA aA) (fun (i:Nat) (hi:i<B)=>(tH (c1.o i hi) (up:=(i:Int)) aA aA).1);obtain⟨i7,i8⟩:=aAC (fun (W:aAB) (hb:ZY w W) (i:Nat) (hi:i<B) (y:TT) (h3:bO b (free+(i:Int)+1) y) (R':Nat->Prop) (l5 : ∀q,R' q->q<W.heap.size) (t1 t2:iA) (h1:fI R' W t1 y) (h2:fI R' W t2 (jD (eL h i) (i:Int)))=>qB (b:=b) (free:=free+(i:Int)) l5 h1 h2 h3 (j0.o i hi) aA aA) (fun (i:Nat) (hi:i<B) (y:TT) (h3:bO b (free+(i:Int)+1) y)=>(lB (b:=b) (free:=free+(i:Int)) aA aA h3 (j0.o i hi)).2.2);obtain⟨V0,m9⟩:∃V0:World,V0.heap.size=w.heap.size+3:=⟨((w.alloc (J #[O X 0,O X 0,O X 0,Y Z 0 0,Y Z 0 0,Y Z 0 0] 85)).alloc (J #[O X 0,O X 0,O X 0,Y Z 0 0,Y Z 0 0,Y Z 0 0] 85)).alloc (J #[O X 0,O X 0,O X 0,Y Z 0 0,Y Z 0 0,Y Z 0 0] 85),by simp⟩;obtain⟨i9,h9,i1,HR⟩:=aAE (fun (W:aAB) (hb:ZY w W)=>(c9.below hR hb).keep (R':=bM R V0 W) (w':=W) fun q D=>⟨Or.inl D,fun o=>rfl⟩) (fun (W:aAB) (hb:ZY w W)=>hc.below hb (hR _ l6)) g6 hR;obtain⟨l4,f1⟩:=aAJ (DJ h);rw[<-f1]at e2 ⊢;have e9:=aB e2;obtain⟨⟨op,va,vb⟩,c2,k⟩:=h;obtain⟨Ak,nk,ck,Aa,na,ca,Af,nf,cf⟩:=t;simp only at c3 hA hB j4 g4;subst c3;subst hA;subst hB;subst j4;obtain⟨⟨l1,k8,l0⟩,k9,m6⟩:=y0;obtain⟨h6,k6,j3,g9,k4,j1,h0,k5,j2⟩:=ty;clear hf ht hc c9 e2 f1 g8 e6 g6 f2 f3 b1 a0;have m3:IntKind.i64.wrap (2*(A:Int))=2*(A:Int):=by rw[XV];omega
 have m4:IntKind.i64.wrap (2*(A:Int)+1)=2*(A:Int)+1:=by rw[XV];omega
 have m5:IntKind.i64.wrap ((B:Int)-1)=(B:Int)-1:=by rw[XV];omega
 have j8:(2*(A:Int)+1).toNat=2*A+1:=aA;have m0:2*A+1<nk:=aA;clear g4;have d9:=aB (bS w (J #[O X 12,O X (A:Int),O X (B:Int),Y (I ⟨bk,ok,Z⟩) nk ck,Y Aa na ca,Y Af nf cf] 85) (J #[O X 0,O X 0,O X 0,Y Z 0 0,Y Z 0 0,Y Z 0 0] 85));have l7:=h9.o _ d9.o;obtain⟨q0,q1,q2,q3,q4,q5⟩:=l7;simp only at q0 q1 q2 q3 q4 q5;show Calls Tryz.prog 85 #[.agg #[O X 12,O X (A:Int),O X (B:Int),Y (I ⟨bk,ok,Z⟩) nk ck,Y Aa na ca,Y Af nf cf]] w _;go_in;go_wp2_with fail;go_loopw [5] (fun iv wr=>∃(m:Nat)(z:Int)(y:TT)(t':iA),iv=O X z/\z=(m:Int)-1/\m<=B/\Hid (l4=oL ((⟨12,(A:Int),(B:Int)⟩:Nd),c2,k) m y)/\Hid (bO b (free+(m:Int)) y)/\Hid (fI (bM R V0 wr) wr t' y)/\Hid (aT wr w.heap.size 85 #[O X 12,O X (A:Int),O X (B:Int),Y (I ⟨bk,ok,Z⟩) nk ck,Y Aa na ca,Y Af nf cf])/\Hid (aT wr (w.heap.size+1) 85 #[O X 0,O X 0,O X 0,Y Z 0 0,Y Z 0 0,Y Z 0 0])/\Hid (aT wr (w.heap.size+1+1) 85 (fE t' y.1))/\Hid (ZY w wr)) (fun iv _=>(intOf iv+1).toNat)
 case atStart =>
  have j5:=d9.o.alloc d9.o.size (J #[O X l1,O X k8,O X l0,Y h6 k6 j3,Y g9 k4 j1,Y h0 k5 j2] 85);exact⟨B,(B:Int)-1,(⟨l1,k8,l0⟩,k9,m6),⟨h6,k6,j3,g9,k4,j1,h0,k5,j2⟩,rfl,rfl,XU _,e9,i1,aB (i9.o _ j5),aB (((aT.new _ _ _).alloc _).alloc _),aB ((aT.new' aD).alloc _),aB (aT.new' aD),aB j5⟩
 case round =>
  clear q0 q1 q2 q3 q4 q5 d9 i9 h9 i1 e9 m3 m4 m5 j8 m0;obtain⟨m,z,y,t',rfl,hz,n3,f4,l8,c9,g3,d7,c8,g1⟩:=hrel;have m8:=c8.o.lt;cases m with
  | zero =>
   obtain rfl:z = -1:=aA;clear hz;obtain⟨⟨yo,ya,yb⟩,c5,yk⟩:=y;obtain⟨Ck,pk,ek,Ca,pa,ea,Cf,pf,ef⟩:=t';simp only at c8;have zy:=aT.cell c8.o;have zz:=aT.cell d7.o;have zf:=aT.frozen d7.o;go_wp2_with fail;refine XW (v:=.tuple #[.agg #[O X yo,O X ya,O X yb,Y Ck pk ek,Y Ca pa ea,Y Cf pf ef],O X 0]) ?_ rfl ?_
   . exact oD (g:=w.heap.size+1) (cK d7.o _ _ _ _ _ _) aD
   rw[f4.o];exact pB (V:=V0) (t:=⟨Ck,pk,ek,Ca,pa,ea,Cf,pf,ef⟩) HR.o aA aA g1.o c9.o
  | succ i =>
   obtain rfl:z=(i:Int):=aA;clear hz;have hi:i<B:=aA;have n5:IntKind.i64.wrap ((i:Int)-1)=(i:Int)-1:=by rw[XV];omega
   obtain⟨⟨yo,ya,yb⟩,c5,yk⟩:=y;obtain⟨Ck,pk,ek,Ca,pa,ea,Cf,pf,ef⟩:=t';simp only at c8;have m1:=aT.cell g3.o;have e3:=aQ wr (J #[O X 12,O X (i:Int),O X (B:Int),Y (I ⟨bk,ok,Z⟩) nk ck,Y Z 0 0,Y Af nf cf] 85);have h7:=bY g1 e3;have i5:=aB (aT.new wr 85 #[O X 12,O X (i:Int),O X (B:Int),Y (I ⟨bk,ok,Z⟩) nk ck,Y Z 0 0,Y Af nf cf]);have HH:=i4.o _ h7.o i hi;have j7:=i3.o i hi;obtain⟨H,hH⟩:=aAJ (p8 (i:Int) (eL ((⟨12,(A:Int),(B:Int)⟩:Nd),c2,k) i).1 (eL ((⟨12,(A:Int),(B:Int)⟩:Nd),c2,k) i).2.2 0);rw[<-hH]at HH j7;have i2:=aB HH;have dH:decide (H>1048576)=false:=XQ aA;clear HH hH;go_wp2_with fail;refine (i2.o).mono ?_;rintro e w7 ⟨rfl,e4⟩;have b7:=e3.trans (e4.mono e3.size);have s:=bY h7 e4;have i6:=aB (i5.o.below e4 i5.o.lt);have b3:=aB (g3.o.below b7 g3.o.lt);have b5:=aB (d7.o.below b7 d7.o.lt);have a1:=aB (c8.o.below b7 c8.o.lt);have b6:Hid (fI (bM R V0 w7) w7 ⟨Ck,pk,ek,Ca,pa,ea,Cf,pf,ef⟩ ((⟨yo,ya,yb⟩:Nd),c5,yk)):=aB (c9.o.keep fun q D=>⟨D.to (XU _) b7.size,fun o=>b7.cell (p:=⟨q,o,Z⟩) (show q<wr.heap.size by
    rcases D with D|D
    . have:=HR.o _ D;have:=g1.o.size;omega
    exact D.2)⟩)
   clear e3 e4 b7 m1 j7 i2;have g2:bO b (free+(i:Int)+1) ((⟨yo,ya,yb⟩:Nd),c5,yk):=by have:=l8.o;rwa [show free+(((i+1:Nat)):Int)=free+(i:Int)+1 from by omega]at this
   obtain⟨qq,g5⟩:=aAJ (cI ((⟨yo,ya,yb⟩:Nd),c5,yk) (jD (eL ((⟨12,(A:Int),(B:Int)⟩:Nd),c2,k) i) (i:Int)));have d2:=aB (fun W hb=>i7.o W hb i hi _ g2);have c4:=i8.o i hi _ g2;have hu:oL ((⟨12,(A:Int),(B:Int)⟩:Nd),c2,k) (i+1) ((⟨yo,ya,yb⟩:Nd),c5,yk)=if qq.2=0 then oL ((⟨12,(A:Int),(B:Int)⟩:Nd),c2,k) i qq.1 else qq:=by rw[g5];rfl
   have f9:=aB (f4.o.trans hu);have d5:=fun h=>TQ (x:=((⟨yo,ya,yb⟩:Nd),c5,yk)) (u:=jD (eL ((⟨12,(A:Int),(B:Int)⟩:Nd),c2,k) i) (i:Int)) h;rw[<-g5]at d5 d2 c4;obtain⟨h8,i0⟩:=aAC d5 c4;clear g5 c4 hu d5 g2;obtain⟨⟨⟨qo,qa,qb⟩,k7,qk⟩,qe⟩:=qq;simp only at f9 h8 i0;go_upto_region 8 with fail
   go_cut [7,8] (fun pv ev wx=>∃(g7:Nat)(Dk Da Df:ZZ)(rk gk ra ga rf gf:Nat),pv=.pointer (I ⟨g7,0,Z⟩)/\ev=O X qe/\Hid (fI (bM R V0 wx) wx ⟨Dk,rk,gk,Da,ra,ga,Df,rf,gf⟩ ((⟨qo,qa,qb⟩:Nd),k7,qk))/\Hid (aT wx w.heap.size 85 #[O X 12,O X (A:Int),O X (B:Int),Y (I ⟨bk,ok,Z⟩) nk ck,Y Aa na ca,Y Af nf cf])/\Hid (aT wx (w.heap.size+1) 85 #[O X 0,O X 0,O X 0,Y Z 0 0,Y Z 0 0,Y Z 0 0])/\Hid (aT wx (w.heap.size+1+1) 85 #[O X yo,O X ya,O X yb,Y Ck pk ek,Y Ca pa ea,Y Cf pf ef])/\Hid (fI (bM R V0 wx) wx ⟨Ck,pk,ek,Ca,pa,ea,Cf,pf,ef⟩ ((⟨yo,ya,yb⟩:Nd),c5,yk))/\Hid (aT wx g7 85 #[O X qo,O X qa,O X qb,Y Dk rk gk,Y Da ra ga,Y Df rf gf])/\Hid (ZY w wx))
   case first =>
    go_wp2_with fail;have a4:=aB (fun (W:aAB) (hb:ZY w7 W)=>(by
     have a:=(a1.o.below hb a1.o.lt).cell;have c:=(i6.o.below hb i6.o.lt).cell;exact⟨a 0,a 1,a 2,a 3,a 4,a 5,c 0,c 1,c 2,c 3,c 4,c 5⟩:W.cell? ⟨w.heap.size+1+1,0,Z⟩=I (O X yo)/\W.cell? ⟨w.heap.size+1+1,1,Z⟩=I (O X ya)/\W.cell? ⟨w.heap.size+1+1,2,Z⟩=I (O X yb)/\W.cell? ⟨w.heap.size+1+1,3,Z⟩=I (Y Ck pk ek)/\W.cell? ⟨w.heap.size+1+1,4,Z⟩=I (Y Ca pa ea)/\W.cell? ⟨w.heap.size+1+1,5,Z⟩=I (Y Cf pf ef)/\W.cell? ⟨wr.heap.size,0,Z⟩=I (O X 12)/\W.cell? ⟨wr.heap.size,1,Z⟩=I (O X (i:Int))/\W.cell? ⟨wr.heap.size,2,Z⟩=I (O X (B:Int))/\W.cell? ⟨wr.heap.size,3,Z⟩=I (Y (I ⟨bk,ok,Z⟩) nk ck)/\W.cell? ⟨wr.heap.size,4,Z⟩=I (Y Z 0 0)/\W.cell? ⟨wr.heap.size,5,Z⟩=I (Y Af nf cf)))
    have e0:Hid (ZY w7 w7.drew):=aB (aU (XS w7.heap.size w7) 1);have b9:=aB (fun q (D:bM R V0 w7 q)=>(by
     rcases D with D|D
     . have:=HR.o _ D;have:=s.o.size;omega
     exact D.2:q<w7.heap.size))
    have k1:w7.drew.heap.size=w7.heap.size:=rfl;have n4:w.heap.size+3<=w7.heap.size:=by have:=a1.o.lt;omega
    refine wp_region_held_drew (S:=(fun w'=>w'.cell? ⟨w.heap.size+1+1,0,Z⟩=I (O X yo)/\w'.cell? ⟨w.heap.size+1+1,1,Z⟩=I (O X ya)/\w'.cell? ⟨w.heap.size+1+1,2,Z⟩=I (O X yb)/\w'.cell? ⟨w.heap.size+1+1,3,Z⟩=I (Y Ck pk ek)/\w'.cell? ⟨w.heap.size+1+1,4,Z⟩=I (Y Ca pa ea)/\w'.cell? ⟨w.heap.size+1+1,5,Z⟩=I (Y Cf pf ef)/\w'.cell? ⟨wr.heap.size,0,Z⟩=I (O X 12)/\w'.cell? ⟨wr.heap.size,1,Z⟩=I (O X (i:Int))/\w'.cell? ⟨wr.heap.size,2,Z⟩=I (O X (B:Int))/\w'.cell? ⟨wr.heap.size,3,Z⟩=I (Y (I ⟨bk,ok,Z⟩) nk ck)/\w'.cell? ⟨wr.heap.size,4,Z⟩=I (Y Z 0 0)/\w'.cell? ⟨wr.heap.size,5,Z⟩=I (Y Af nf cf))) aC ?_ (fun hZ=>?_)
    . (try dsimp only);exact a4.o _ e0.o
    generalize w7.drew=V7 at *;have F:=aB k1;clear k1;refine aL 0 hZ ?_;refine aL 1 hZ ?_;refine aL 2 hZ ?_;refine wpAnyH_ready (rs:=[3,8]) aC aD ?_;refine AllReadyH.cons rfl (fun K hK=>?_) (AllReadyH.cons rfl (fun K hK=>?_) (AllReadyH.nil))
    . go_simp;go_at_call 83
      refine (f8.o _ (s.o.trans (e0.o.mono s.o.size)) i hi).mono ?_;rintro e v1 ⟨a8,⟨Ek,sk,fk,Ea,sa,fa,Ef,sf,ff⟩,rfl,d8⟩;have U:=bY e0 a8;obtain⟨e1,d3⟩:=aAC d8 a8;clear a8 d8;go_wp2_with fail;refine hK.o _ _ (by exact a4.o _ U.o) fun hZ=>?_;clear hK K;try simp only[p7]
      refine wpAnyH_ready (rs:=[4,8]) aC aD ?_;refine AllReadyH.cons rfl (fun K hK=>?_) (AllReadyH.cons rfl (fun K hK=>?_) (AllReadyH.nil))
      . go_simp;go_at_call 80
        refine (d2.o _ (s.o.trans (U.o.mono s.o.size)) (bM R V0 v1) ?_ ⟨Ck,pk,ek,Ca,pa,ea,Cf,pf,ef⟩ ⟨Ek,sk,fk,Ea,sa,fa,Ef,sf,ff⟩ ?_ ?_).mono ?_
        . intro q D;exact D.elim (fun h=>by have:=HR.o _ h;have:=U.o.size;have:=F.o;omega) (fun h=>h.2)
        . exact b6.o.keep fun q D=>⟨D.to (XU _) U.o.size,fun o=>U.o.cell (p:=⟨q,o,Z⟩) (b9.o q D)⟩
        . exact e1.o.keep fun q D=>⟨D.to (by have:=F.o;omega) (XU _),fun o=>rfl⟩
        rintro e v2 ⟨d6,⟨Dk,rk,gk,Da,ra,ga,Df,rf,gf⟩,rfl,b2⟩;have d0:=bY U d6;obtain⟨d4,f0⟩:=aAC b2 d6;clear d6 b2;go_wp2_with fail;refine hK.o _ _ (by exact a4.o _ d0.o) fun hZ=>?_;clear hK K;try simp only[p7]
        refine aL 5 hZ ?_;refine aL 6 hZ ?_;refine aL 7 hZ ?_;have b0:=aQ v2 (J #[O X 0,O X 0,O X 0,Y Z 0 0,Y Z 0 0,Y Z 0 0] 85);have a3:=bY d0 b0;obtain⟨a6,f5⟩:=aAC (aT.new v2 85 #[O X 0,O X 0,O X 0,Y Z 0 0,Y Z 0 0,Y Z 0 0]) b0;clear b0;refine r1 8 fun K hK=>?_;go_simp;refine hK.o _ _ (by exact a4.o _ a3.o) fun hZ=>?_;clear hK K;try simp only[p7]
        have n2:=d0.o.size;have k2:v2.heap.size<(v2.alloc (J #[O X 0,O X 0,O X 0,Y Z 0 0,Y Z 0 0,Y Z 0 0] 85)).heap.size:=by simp
        generalize hgV:(v2.alloc (J #[O X 0,O X 0,O X 0,Y Z 0 0,Y Z 0 0,Y Z 0 0] 85))=v3 at *;clear hgV;have k0:∀q,bM (bM R V0 v1) v1 v2 q->q<v2.heap.size:=fun q D=>by
         rcases D with (D|D)|D
         . have:=HR.o _ D;have:=F.o;omega
         . have:=U.o.size;have:=f0.o.size;have:=D.2;have:=F.o;omega
         exact D.2
        have f6:=aB k0;clear k0;have a2:=e7 v3 v2.heap.size (O X qo) (O X qa) (O X qb) (Y Dk rk gk) (Y Da ra ga) (Y Df rf gf);have a7:=aB a2;have G:=aB (a3.o.grown a2 (a3.o.size) (fun q D=>by injection D with D;have:=F.o;omega));have zg:=aT.cell a6.o;have l2:=aT.frozen a6.o;clear a2;refine r1 9 fun K hK=>?_;go_simp;refine hK.o _ _ (by exact a4.o _ G.o) fun hZ=>?_;clear hK K;try simp only[p7]
        refine aL 10 hZ ?_;refine wpAnyH_done aC ?_ _;go_wp2_with fail;go_meet;refine⟨v2.heap.size,Dk,Da,Df,rk,gk,ra,ga,rf,gf,rfl,rfl,aB ?_,aB (b3.o.below G.o b3.o.lt),aB (b5.o.below G.o b5.o.lt),aB (a1.o.below G.o a1.o.lt),aB (b6.o.keep fun q D=>⟨bM.to D (XU _) G.o.size,fun o=>G.o.cell (p:=⟨q,o,Z⟩) (b9.o q D)⟩),aB (cK a6.o _ _ _ _ _ _),aB (s.o.trans (G.o.mono s.o.size))⟩;refine d4.o.keep fun q D=>⟨?_,fun o=>?_⟩
        . exact D.idem (by have:=U.o.size;have:=F.o;omega) (by have:=f0.o.size;have:=a7.o.size;have:=F.o;omega) (by have:=a7.o.size;have:=F.o;omega)
        exact (aP (a7.o.block q (by have:=f6.o q D;have:=F.o;omega) (by intro e;injection e with e;have:=f6.o q D;have:=F.o;omega)) o).trans (f5.o.cell (p:=⟨q,o,Z⟩) (f6.o q D))
      have b0:=aQ v1 (J #[O X 0,O X 0,O X 0,Y Z 0 0,Y Z 0 0,Y Z 0 0] 85);have a3:=bY U b0;obtain⟨b8,f5⟩:=aAC (aT.new v1 85 #[O X 0,O X 0,O X 0,Y Z 0 0,Y Z 0 0,Y Z 0 0]) b0;clear b0;go_simp;refine hK.o _ _ (by exact a4.o _ a3.o) fun hZ=>?_;clear hK K;try simp only[p7]
      have k2:(v1.alloc (J #[O X 0,O X 0,O X 0,Y Z 0 0,Y Z 0 0,Y Z 0 0] 85)).heap.size=v1.heap.size+1:=by simp
      have j6:=U.o.size;generalize hgV:(v1.alloc (J #[O X 0,O X 0,O X 0,Y Z 0 0,Y Z 0 0,Y Z 0 0] 85))=va at *;clear hgV;refine r1 4 fun K hK=>?_;go_simp;go_at_call 80
      refine (d2.o _ (s.o.trans (a3.o.mono s.o.size)) (fun q=>bM R V0 v1 q/\q≠v1.heap.size) ?_ ⟨Ck,pk,ek,Ca,pa,ea,Cf,pf,ef⟩ ⟨Ek,sk,fk,Ea,sa,fa,Ef,sf,ff⟩ ?_ ?_).mono ?_
      . intro q D;exact D.1.elim (fun h=>by have:=HR.o _ h;have:=F.o;omega) (fun h=>by have:=h.2;have:=F.o;omega)
      . exact b6.o.keep fun q D=>⟨⟨D.to (XU _) j6,by have:=b9.o q D;have:=F.o;omega⟩,fun o=>a3.o.cell (p:=⟨q,o,Z⟩) (b9.o q D)⟩
      . exact e1.o.keep fun q D=>⟨⟨D.to (by have:=F.o;omega) (XU _),D.elim (fun h=>by have:=HR.o _ h;have:=F.o;omega) (fun h=>by have:=h.2;have:=F.o;omega)⟩,fun o=>f5.o.cell (p:=⟨q,o,Z⟩) (show q<v1.heap.size from D.elim (fun h=>by have:=HR.o _ h;have:=F.o;omega) (fun h=>h.2))⟩
      rintro e v3 ⟨a9,⟨Dk,rk,gk,Da,ra,ga,Df,rf,gf⟩,rfl,b2⟩;have a5:=bY a3 a9;obtain⟨d4,c0⟩:=aAC b2 a9;clear a9 b2;go_wp2_with fail;refine hK.o _ _ (by exact a4.o _ a5.o) fun hZ=>?_;clear hK K;try simp only[p7]
      refine aL 5 hZ ?_;refine aL 6 hZ ?_;refine aL 7 hZ ?_;have a6:=aB (b8.o.below c0.o b8.o.lt);have l9:=c0.o.size;have a2:=e7 v3 v1.heap.size (O X qo) (O X qa) (O X qb) (Y Dk rk gk) (Y Da ra ga) (Y Df rf gf);have a7:=aB a2;have G:=aB (a5.o.grown a2 (a5.o.size) (fun q D=>by injection D with D;have:=F.o;omega));have zg:=aT.cell a6.o;have l2:=aT.frozen a6.o;clear a2;refine r1 9 fun K hK=>?_;go_simp;refine hK.o _ _ (by exact a4.o _ G.o) fun hZ=>?_;clear hK K;try simp only[p7]
      refine aL 10 hZ ?_;refine wpAnyH_done aC ?_ _;go_wp2_with fail;go_meet;refine⟨v1.heap.size,Dk,Da,Df,rk,gk,ra,ga,rf,gf,rfl,rfl,aB ?_,aB (b3.o.below G.o b3.o.lt),aB (b5.o.below G.o b5.o.lt),aB (a1.o.below G.o a1.o.lt),aB (b6.o.keep fun q D=>⟨bM.to D (XU _) G.o.size,fun o=>G.o.cell (p:=⟨q,o,Z⟩) (b9.o q D)⟩),aB (cK a6.o _ _ _ _ _ _),aB (s.o.trans (G.o.mono s.o.size))⟩;refine d4.o.keep fun q D=>⟨?_,fun o=>?_⟩
      . rcases D with D|D
        . exact D.1.to (XU _) (by have:=a7.o.size;have:=F.o;omega)
        exact Or.inr ⟨by have:=D.1;have:=F.o;omega,XT D.2 a7.o.size⟩
      refine aP (a7.o.block q ?_ ?_) o
      . rcases D with D|D
        . rcases D.1 with h|h
          . have:=HR.o _ h;have:=F.o;omega
          have:=h.2;have:=F.o;omega
        exact D.2
      intro e;injection e with e;rcases D with D|D
      . exact D.2 (by have:=F.o;omega)
      have:=D.1;have:=F.o;omega
    have b0:=aQ V7 (J #[O X 0,O X 0,O X 0,Y Z 0 0,Y Z 0 0,Y Z 0 0] 85);have a3:=bY e0 b0;have b8:=aB (aT.new V7 85 #[O X 0,O X 0,O X 0,Y Z 0 0,Y Z 0 0,Y Z 0 0]);have k2:(V7.alloc (J #[O X 0,O X 0,O X 0,Y Z 0 0,Y Z 0 0,Y Z 0 0] 85)).heap.size=V7.heap.size+1:=by simp
    clear b0;go_simp;refine hK.o _ _ (by exact a4.o _ a3.o) fun hZ=>?_;clear hK K;try simp only[p7]
    generalize hgV:(V7.alloc (J #[O X 0,O X 0,O X 0,Y Z 0 0,Y Z 0 0,Y Z 0 0] 85))=va at *;clear hgV;refine r1 3 fun K hK=>?_;go_simp;go_at_call 83
    refine (f8.o _ (s.o.trans (a3.o.mono s.o.size)) i hi).mono ?_;rintro e v1 ⟨a8,⟨Ek,sk,fk,Ea,sa,fa,Ef,sf,ff⟩,rfl,d8⟩;have U:=bY a3 a8;obtain⟨e1,d3⟩:=aAC d8 a8;clear a8 d8;go_wp2_with fail;refine hK.o _ _ (by exact a4.o _ U.o) fun hZ=>?_;clear hK K;try simp only[p7]
    have j6:=d3.o.size;have e8:=aB (b8.o.below d3.o b8.o.lt);refine r1 4 fun K hK=>?_;go_simp;go_at_call 80
    refine (d2.o _ (s.o.trans (U.o.mono s.o.size)) (fun q=>bM R V0 v1 q/\q≠V7.heap.size) ?_ ⟨Ck,pk,ek,Ca,pa,ea,Cf,pf,ef⟩ ⟨Ek,sk,fk,Ea,sa,fa,Ef,sf,ff⟩ ?_ ?_).mono ?_
    . intro q D;exact D.1.elim (fun h=>by have:=HR.o _ h;have:=F.o;omega) (fun h=>h.2)
    . exact b6.o.keep fun q D=>⟨⟨D.to (XU _) (by have:=F.o;omega),by have:=b9.o q D;have:=F.o;omega⟩,fun o=>U.o.cell (p:=⟨q,o,Z⟩) (b9.o q D)⟩
    . exact e1.o.keep fun q D=>⟨⟨D.to (by have:=F.o;omega) (XU _),D.elim (fun h=>by have:=HR.o _ h;have:=F.o;omega) (fun h=>by have:=h.1;have:=F.o;omega)⟩,fun o=>rfl⟩
    rintro e v3 ⟨a9,⟨Dk,rk,gk,Da,ra,ga,Df,rf,gf⟩,rfl,b2⟩;have a5:=bY U a9;obtain⟨d4,c0⟩:=aAC b2 a9;clear a9 b2;go_wp2_with fail;refine hK.o _ _ (by exact a4.o _ a5.o) fun hZ=>?_;clear hK K;try simp only[p7]
    refine aL 5 hZ ?_;refine aL 6 hZ ?_;refine aL 7 hZ ?_;have a6:=aB (e8.o.below c0.o e8.o.lt);have l9:=c0.o.size;have a2:=e7 v3 V7.heap.size (O X qo) (O X qa) (O X qb) (Y Dk rk gk) (Y Da ra ga) (Y Df rf gf);have a7:=aB a2;have G:=aB (a5.o.grown a2 (a5.o.size) (fun q D=>by injection D with D;have:=F.o;omega));have zg:=aT.cell a6.o;have l2:=aT.frozen a6.o;clear a2;refine r1 9 fun K hK=>?_;go_simp;refine hK.o _ _ (by exact a4.o _ G.o) fun hZ=>?_;clear hK K;try simp only[p7]
    refine aL 10 hZ ?_;refine wpAnyH_done aC ?_ _;go_wp2_with fail;go_meet;refine⟨V7.heap.size,Dk,Da,Df,rk,gk,ra,ga,rf,gf,rfl,rfl,aB ?_,aB (b3.o.below G.o b3.o.lt),aB (b5.o.below G.o b5.o.lt),aB (a1.o.below G.o a1.o.lt),aB (b6.o.keep fun q D=>⟨bM.to D (XU _) G.o.size,fun o=>G.o.cell (p:=⟨q,o,Z⟩) (b9.o q D)⟩),aB (cK a6.o _ _ _ _ _ _),aB (s.o.trans (G.o.mono s.o.size))⟩;refine d4.o.keep fun q D=>⟨?_,fun o=>?_⟩
    . rcases D with D|D
      . exact D.1.to (XU _) (by have:=a7.o.size;have:=F.o;omega)
      exact Or.inr ⟨by have:=D.1;have:=F.o;omega,XT D.2 a7.o.size⟩
    refine aP (a7.o.block q ?_ ?_) o
    . rcases D with D|D
      . rcases D.1 with h|h
        . have:=HR.o _ h;have:=F.o;omega
        have:=h.2;have:=F.o;omega
      exact D.2
    intro e;injection e with e;rcases D with D|D
    . exact D.2 (by have:=F.o;omega)
    have:=D.1;have:=F.o;omega
   case rest =>
   obtain⟨g7,Dk,Da,Df,rk,gk,ra,ga,rf,gf,rfl,rfl,b2,j9,c7,c6,k3,m2,e5⟩:=hcut;clear i4 i3 f8 i7 i8 c1 d2;by_cases he:qe=0
   . subst he;have f7:=aB (f9.o.trans (XP rfl));have zq:=aT.cell m2.o;have zy:=aT.cell c6.o;have m7:=aT.frozen c6.o;go_wp2_with fail;have a2:=e7 wc (w.heap.size+1+1) (O X qo) (O X qa) (O X qb) (Y Dk rk gk) (Y Da ra ga) (Y Df rf gf);have d1:=aB a2;clear a2 zq zy m7;go_roundw
     case rel =>
      refine⟨i,(i:Int)-1,(⟨qo,qa,qb⟩,k7,qk),⟨Dk,rk,gk,Da,ra,ga,Df,rf,gf⟩,rfl,rfl,by omega,f7,aB (i0.o rfl),aB ?_,aB (j9.o.grown d1.o aK),aB (c7.o.grown d1.o aK),aB (cK c6.o _ _ _ _ _ _),aB (e5.o.grown d1.o (by have:=e5.o.size;omega) (fun q D=>by injection D with D;omega))⟩;exact b2.o.keep fun q D=>⟨D.elim Or.inl (fun h=>Or.inr ⟨h.1,XT h.2 d1.o.size⟩),fun o=>aP (d1.o.block q (by
       rcases D with D|D
       . have:=HR.o _ D;have:=e5.o.size;omega
       . exact D.2) (by
       intro e;injection e with e;rcases D with D|D
       . have:=HR.o _ D;omega
       have:=D.1;omega)) o⟩
     case measure=>simp[intOf]<;>omega
   . have de:(qe != 0)=true:=by simpa using he
     obtain⟨l3,f7⟩:=aAC (h8.o he) (f9.o.trans (XN he));have zy:=aT.cell c6.o;have zz:=aT.cell c7.o;have zf:=aT.frozen c7.o;go_wp2_with fail;refine XW (v:=.tuple #[.agg #[O X yo,O X ya,O X yb,Y Ck pk ek,Y Ca pa ea,Y Cf pf ef],O X qe]) ?_ rfl ?_
     . exact oD (g:=w.heap.size+1) (cK c7.o _ _ _ _ _ _) aD
     rw[f7.o,l3.o];exact pB (V:=V0) (t:=⟨Ck,pk,ek,Ca,pa,ea,Cf,pf,ef⟩) HR.o aA aA e5.o k3.o
end Go.Proofs.YtjoddliplahgkaaGreat
