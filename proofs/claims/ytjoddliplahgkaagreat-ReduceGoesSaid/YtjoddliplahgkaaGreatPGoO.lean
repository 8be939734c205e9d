/- The reference's Opened, in a context: a fix's body with the functions, lifted, in their variables' places. -/
import Derived.Test.YtjoddliplahgkaaGreatPWhQ
namespace Go.Proofs.YtjoddliplahgkaaGreat
set_option linter.unusedVariables false
set_option linter.unusedSimpArgs false
open Go.RowKit
open Go.Value renaming int → O, slice → Y
open Go.IntKind renaming i64 → X
open Option renaming none → Z, some → I
open Go.Obj renaming cells → J
open Go.Lib renaming hid->aB
def nB (h:TT):Nat->TT->TT×Int
 | 0,x=>(x,0)
 | i+1,x=>if (cH x (i5 (eD h i) (i:Int))).2=0 then nB h i (cH x (i5 (eD h i) (i:Int))).1 else cH x (i5 (eD h i) (i:Int))
def AD (h:TT):TT×Int:=nB h h.1.b.toNat (eQ h (2*h.1.a.toNat+1))
theorem NZ (h:TT) : ∀(i:Nat) (x:TT),rO h i x=if (nB h i x).2=0 then I (nB h i x).1 else Z
 | 0,x=>rfl
 | i+1,x=>by
  by_cases h9:(cH x (i5 (eD h i) (i:Int))).2=0
  · have e1:rO h (i+1) x=rO h i (cH x (i5 (eD h i) (i:Int))).1:=by
     conv=>lhs;unfold rO
     rw[if_pos h9]
    have e2:nB h (i+1) x=nB h i (cH x (i5 (eD h i) (i:Int))).1:=by
     conv=>lhs;unfold nB
     rw[if_pos h9]
    rw[e1,e2,NZ h i]
  · have e1:rO h (i+1) x=Z:=by
     conv=>lhs;unfold rO
     rw[if_neg h9]
    have e2:nB h (i+1) x=cH x (i5 (eD h i) (i:Int)):=by
     conv=>lhs;unfold nB
     rw[if_neg h9]
    rw[e1,e2,if_neg h9]
theorem RG (h:TT):qH h=if (AD h).2=0 then I (AD h).1 else Z:=NZ h _ _
theorem uS {b:Bk} {w:World} {R:Nat->Prop} {t:iE} {u:TT} {free:Int} (hR:∀b,R b->b<w.heap.size) (ht:dX R w t u) (hu:bR b free u) {i:Int} (h0:0<=i) (h1:i<=1100000) :
 Calls Tryz.prog 83 #[.agg (bH t u.1),O X i,O X 0] w (OH R w (i5 u i)):=by
 have h2:=eT u.2.2;have h3:=dL u.1 u.2.1 u.2.2;have h4:=hu.few;have h5:bI u=bI (u.1,u.2.1,u.2.2):=rfl;refine (uR hR ht hu.okt.ok hu.okt.all h0 aA (Int.le_refl 0) aA).mono ?_;intro e w' hp;have:=eZ.tt (x:=(kK i u.1 0,rG u.1 u.2.1 0,rH i u.1 u.2.2 0)) hp;rw[N2 hu.okt i] at this;exact this
set_option maxRecDepth 100000 in
set_option maxHeartbeats 8000000 in
theorem CK {b:Bk} {w:World} {R:Nat->Prop} {t:iE} {h:TT} (hR:∀b,R b->b<w.heap.size) (ht:dX R w t h) {free:Int} (hf0:0<=free) (hf1:free<=990000) (hf:bR b free h) (h12:h.1.op=12) :
 Calls Tryz.prog 85 #[.agg (bH t h.1)] w (SM R w (AD h)):=by
 obtain⟨b1,b4,a0,ab,d8⟩:=hI hf.okt h12;obtain⟨y0,f6⟩ : ∃y,y=eQ h (2*h.1.a.toNat+1):=⟨_,rfl⟩;have e8:(cI h.2.2)[2*h.1.a.toNat+1]? = I y0:=by rw[f6];exact kY (x:=h) aA
 have f7:bR b (free+(h.1.b.toNat:Int)) y0:=by
  have hk:=hf.kid e8;rw[oR h12] at hk;rw[show ((h.1.b.toNat:Nat):Int)=h.1.b from by omega];exact hk
 have f2:AD h=nB h h.1.b.toNat y0:=by unfold AD;rw[<-f6]
 obtain⟨A,hA⟩ : ∃A:Nat,h.1.a=(A:Int):=⟨h.1.a.toNat,by omega⟩;obtain⟨B,hB⟩ : ∃B:Nat,h.1.b=(B:Int):=⟨h.1.b.toNat,by omega⟩;have g0:=ht.nk;rw[d8,hB,Int.toNat_natCast] at g0;rw[hA,Int.toNat_natCast] at e8;rw[hB,Int.toNat_natCast] at f7 f2;rw[hA,hB] at ab;rw[hB] at b1 b4;obtain⟨bk,ok,ty,i4,l4,hc,d4⟩:=ht.kid (j:=2*A+1) aA;have e0:cU h.2.2 (2*A+1)=y0:=by unfold cU;rw[List.getD_eq_getElem?_getD,e8];rfl
 rw[e0] at hc d4;have d2:=aB (fun (i:Nat) (hi:i<B)=>qU hf h12 (i:=i) (by rw[hB];omega));have j5:=aB (fun (W:World) (hb:Below w.heap.size w W) (i:Nat) (hi:i<B)=>mM (R:=R) (up:=(i:Int)) (u:=0) (fun b hb'=>Nat.lt_of_lt_of_le (hR b hb') hb.size) ((MQ ht h12 hf.okt i).below hR hb) (d2.o i hi).okt.ok (d2.o i hi).okt.all aA aA (Int.le_refl 0) (by
  have h2:=eT (eD h i).2.2;have h3:=dL (eD h i).1 (eD h i).2.1 (eD h i).2.2;have h4:=(d2.o i hi).few;have h5:bI (eD h i)=bI ((eD h i).1,(eD h i).2.1,(eD h i).2.2):=rfl;omega))
 have j6:=aB (fun (i:Nat) (hi:i<B)=>tO (d2.o i hi) (up:=(i:Int)) aA);have g8:=aB (fun (W:World) (hb:Below w.heap.size w W) (i:Nat) (hi:i<B)=>uS (b:=b) (free:=free) (R:=R) (i:=(i:Int)) (fun b hb'=>Nat.lt_of_lt_of_le (hR b hb') hb.size) ((MQ ht h12 hf.okt i).below hR hb) (d2.o i hi) aA aA);have i9:=aB (fun (i:Nat) (hi:i<B)=>(AE (d2.o i hi) (up:=(i:Int)) aA aA).1);have j2:=aB (fun (W:World) (hb:Below w.heap.size w W) (i:Nat) (hi:i<B) (y:TT) (h3:bR b (free+(i:Int)+1) y) (R':Nat->Prop) (hR' : ∀q,R' q->q<W.heap.size) (t1 t2:iE) (h1:dX R' W t1 y) (h2:dX R' W t2 (i5 (eD h i) (i:Int)))=>oW (b:=b) (free:=free+(i:Int)) hR' h1 h2 h3 (i9.o i hi) aA aA);have j1:=aB (fun (i:Nat) (hi:i<B) (y:TT) (h3:bR b (free+(i:Int)+1) y)=>(kF (b:=b) (free:=free+(i:Int)) aA aA h3 (i9.o i hi)).2.2);obtain⟨V0,m0⟩ : ∃V0:World,V0.heap.size=w.heap.size+3:=⟨((w.alloc (J #[O X 0,O X 0,O X 0,Y Z 0 0,Y Z 0 0,Y Z 0 0] 85)).alloc (J #[O X 0,O X 0,O X 0,Y Z 0 0,Y Z 0 0,Y Z 0 0] 85)).alloc (J #[O X 0,O X 0,O X 0,Y Z 0 0,Y Z 0 0,Y Z 0 0] 85),by simp⟩;have j0:=aB (fun (W:World) (hb:Below w.heap.size w W)=>(d4.below hR hb).keep (R':=bB R V0 W) (w':=W) fun q hq=>⟨Or.inl hq,fun o=>rfl⟩);have k0:=aB (fun (W:World) (hb:Below w.heap.size w W)=>hc.below hb (hR _ l4));have j8:=aB f7;have HR:=aB hR;obtain⟨RES,e1⟩ : ∃r,r=AD h:=⟨_,rfl⟩;rw[<-e1] at f2 ⊢;have e4:=aB f2;obtain⟨⟨op,va,vb⟩,ats,k⟩:=h;obtain⟨Ak,nk,ck,Aa,na,ca,Af,nf,cf⟩:=t;simp only at h12 hA hB i4 g0;subst h12;subst hA;subst hB;subst i4;obtain⟨⟨yo0,ya0,yb0⟩,yat0,yk0⟩:=y0;obtain⟨Ck0,pk0,i6,Ca0,pa0,i8,Cf0,pf0,i7⟩:=ty;clear hf ht hc d4 f2 e1 f6 e8 f7 e0 d8 b1 a0;have k6:IntKind.i64.wrap (2*(A:Int))=2*(A:Int):=by rw[IntKind.wrap_i64];omega
 have k5:IntKind.i64.wrap (2*(A:Int)+1)=2*(A:Int)+1:=by rw[IntKind.wrap_i64];omega
 have k4:IntKind.i64.wrap ((B:Int)-1)=(B:Int)-1:=by rw[IntKind.wrap_i64];omega
 have g3:(2*(A:Int)+1).toNat=2*A+1:=aA;have l0:2*A+1<nk:=aA;clear g0;have f5:=aB (a7 w (J #[O X 12,O X (A:Int),O X (B:Int),Y (I ⟨bk,ok,Z⟩) nk ck,Y Aa na ca,Y Af nf cf] 85) (J #[O X 0,O X 0,O X 0,Y Z 0 0,Y Z 0 0,Y Z 0 0] 85));have l3:=k0.o _ f5.o;obtain⟨q0,q1,q2,q3,q4,q5⟩:=l3;simp only at q0 q1 q2 q3 q4 q5;show Calls Tryz.prog 85 #[.agg #[O X 12,O X (A:Int),O X (B:Int),Y (I ⟨bk,ok,Z⟩) nk ck,Y Aa na ca,Y Af nf cf]] w _;go_in;go_wp2_with fail;go_loopw [5] (fun iv wr=>∃(m:Nat) (z:Int) (y:TT) (t':iE),iv=O X z/\z=(m:Int)-1/\m<=B/\Hid (RES=nB ((⟨12,(A:Int),(B:Int)⟩:Nd),ats,k) m y)/\Hid (bR b (free+(m:Int)) y)/\Hid (dX (bB R V0 wr) wr t' y)/\Hid (aS wr w.heap.size 85 #[O X 12,O X (A:Int),O X (B:Int),Y (I ⟨bk,ok,Z⟩) nk ck,Y Aa na ca,Y Af nf cf])/\Hid (aS wr (w.heap.size+1) 85 #[O X 0,O X 0,O X 0,Y Z 0 0,Y Z 0 0,Y Z 0 0])/\Hid (aS wr (w.heap.size+1+1) 85 (bH t' y.1))/\Hid (Below w.heap.size w wr)) (fun iv _=>(intOf iv+1).toNat)
 case atStart =>
  have i3:=f5.o.alloc f5.o.size (J #[O X yo0,O X ya0,O X yb0,Y Ck0 pk0 i6,Y Ca0 pa0 i8,Y Cf0 pf0 i7] 85);exact⟨B,(B:Int)-1,(⟨yo0,ya0,yb0⟩,yat0,yk0),⟨Ck0,pk0,i6,Ca0,pa0,i8,Cf0,pf0,i7⟩,rfl,rfl,Nat.le_refl _,e4,j8,aB (j0.o _ i3),aB (((aS.new _ _ _).alloc _).alloc _),aB ((aS.new' aD).alloc _),aB (aS.new' aD),aB i3⟩
 case round =>
  clear q0 q1 q2 q3 q4 q5 f5 j0 k0 j8 e4 k6 k5 k4 g3 l0;obtain⟨m,z,y,t',rfl,hz,l8,d7,l2,d4,g2,d9,d5,g5⟩:=hrel;have k7:=d5.o.lt;cases m with
  | zero =>
   obtain rfl:z = -1:=aA;clear hz;obtain⟨⟨yo,ya,yb⟩,yat,yk⟩:=y;obtain⟨Ck,pk,ek,Ca,pa,ea,Cf,pf,ef⟩:=t';simp only at d5;have zy:=aS.cell d5.o;have zz:=aS.cell d9.o;have zf:=aS.frozen d9.o;go_wp2_with fail;refine bodyPost_ret (v:=.tuple #[.agg #[O X yo,O X ya,O X yb,Y Ck pk ek,Y Ca pa ea,Y Cf pf ef],O X 0]) ?_ rfl ?_
   · exact mT (g:=w.heap.size+1) (cJ d9.o _ _ _ _ _ _) aD
   rw[d7.o];exact nP (V:=V0) (t:=⟨Ck,pk,ek,Ca,pa,ea,Cf,pf,ef⟩) HR.o aA aA g5.o d4.o
  | succ i =>
   obtain rfl:z=(i:Int):=aA;clear hz;have hi:i<B:=aA;have l6:IntKind.i64.wrap ((i:Int)-1)=(i:Int)-1:=by rw[IntKind.wrap_i64];omega
   obtain⟨⟨yo,ya,yb⟩,yat,yk⟩:=y;obtain⟨Ck,pk,ek,Ca,pa,ea,Cf,pf,ef⟩:=t';simp only at d5;have k9:=aS.cell g2.o;have f1:=aP wr (J #[O X 12,O X (i:Int),O X (B:Int),Y (I ⟨bk,ok,Z⟩) nk ck,Y Z 0 0,Y Af nf cf] 85);have k2:=bZ g5 f1;have j4:=aB (aS.new wr 85 #[O X 12,O X (i:Int),O X (B:Int),Y (I ⟨bk,ok,Z⟩) nk ck,Y Z 0 0,Y Af nf cf]);have HH:=j5.o _ k2.o i hi;have i1:=j6.o i hi;obtain⟨H,hH⟩ : ∃H,H=oT (i:Int) (eD ((⟨12,(A:Int),(B:Int)⟩:Nd),ats,k) i).1 (eD ((⟨12,(A:Int),(B:Int)⟩:Nd),ats,k) i).2.2 0:=⟨_,rfl⟩;rw[<-hH] at HH i1;have j7:=aB HH;have dH:decide (H>1048576)=false:=decide_eq_false aA;clear HH hH;go_wp2_with fail;refine (j7.o).mono ?_;rintro e w7 ⟨rfl,f0⟩;have b2:=f1.trans (f0.mono f1.size);have a5:=bZ k2 f0;have j3:=aB (j4.o.below f0 j4.o.lt);have b6:=aB (g2.o.below b2 g2.o.lt);have b5:=aB (d9.o.below b2 d9.o.lt);have a4:=aB (d5.o.below b2 d5.o.lt);have b3:Hid (dX (bB R V0 w7) w7 ⟨Ck,pk,ek,Ca,pa,ea,Cf,pf,ef⟩ ((⟨yo,ya,yb⟩:Nd),yat,yk)):=aB (d4.o.keep fun q hq=>⟨hq.to (Nat.le_refl _) b2.size,fun o=>b2.cell (p:=⟨q,o,Z⟩) (show q<wr.heap.size by
    rcases hq with hq | hq
    · have:=HR.o _ hq;have:=g5.o.size;omega
    exact hq.2)⟩)
   clear f1 f0 b2 k9 i1 j7;have g4:bR b (free+(i:Int)+1) ((⟨yo,ya,yb⟩:Nd),yat,yk):=by have:=l2.o;rwa [show free+(((i+1:Nat)):Int)=free+(i:Int)+1 from by omega] at this
   obtain⟨qq,f9⟩ : ∃q,q=cH ((⟨yo,ya,yb⟩:Nd),yat,yk) (i5 (eD ((⟨12,(A:Int),(B:Int)⟩:Nd),ats,k) i) (i:Int)):=⟨_,rfl⟩;have e5:=aB (fun W hb=>j2.o W hb i hi _ g4);have b9:=j1.o i hi _ g4;have hu:nB ((⟨12,(A:Int),(B:Int)⟩:Nd),ats,k) (i+1) ((⟨yo,ya,yb⟩:Nd),yat,yk)=if qq.2=0 then nB ((⟨12,(A:Int),(B:Int)⟩:Nd),ats,k) i qq.1 else qq:=by rw[f9];rfl
   have g6:=aB (d7.o.trans hu);have d0:=fun h=>PW (x:=((⟨yo,ya,yb⟩:Nd),yat,yk)) (u:=i5 (eD ((⟨12,(A:Int),(B:Int)⟩:Nd),ats,k) i) (i:Int)) h;rw[<-f9] at d0 e5 b9;have k1:=aB d0;have j9:=aB b9;clear f9 b9 hu d0 g4;obtain⟨⟨⟨qo,qa,qb⟩,qat,qk⟩,qe⟩:=qq;simp only at g6 k1 j9;go_upto_region 8 with fail
   go_cut [7,8] (fun pv ev wx=>∃(g7:Nat) (Dk Da Df:Option Addr) (rk gk ra ga rf gf:Nat),pv=.pointer (I ⟨g7,0,Z⟩)/\ev=O X qe/\Hid (dX (bB R V0 wx) wx ⟨Dk,rk,gk,Da,ra,ga,Df,rf,gf⟩ ((⟨qo,qa,qb⟩:Nd),qat,qk))/\Hid (aS wx w.heap.size 85 #[O X 12,O X (A:Int),O X (B:Int),Y (I ⟨bk,ok,Z⟩) nk ck,Y Aa na ca,Y Af nf cf])/\Hid (aS wx (w.heap.size+1) 85 #[O X 0,O X 0,O X 0,Y Z 0 0,Y Z 0 0,Y Z 0 0])/\Hid (aS wx (w.heap.size+1+1) 85 #[O X yo,O X ya,O X yb,Y Ck pk ek,Y Ca pa ea,Y Cf pf ef])/\Hid (dX (bB R V0 wx) wx ⟨Ck,pk,ek,Ca,pa,ea,Cf,pf,ef⟩ ((⟨yo,ya,yb⟩:Nd),yat,yk))/\Hid (aS wx g7 85 #[O X qo,O X qa,O X qb,Y Dk rk gk,Y Da ra ga,Y Df rf gf])/\Hid (Below w.heap.size w wx))
   case first =>
    go_wp2_with fail;have b7:=aB (fun (W:World) (hb:Below w7.heap.size w7 W)=>(by
     have a:=(a4.o.below hb a4.o.lt).cell;have c:=(j3.o.below hb j3.o.lt).cell;exact⟨a 0,a 1,a 2,a 3,a 4,a 5,c 0,c 1,c 2,c 3,c 4,c 5⟩:W.cell? ⟨w.heap.size+1+1,0,Z⟩=I (O X yo)/\W.cell? ⟨w.heap.size+1+1,1,Z⟩=I (O X ya)/\W.cell? ⟨w.heap.size+1+1,2,Z⟩=I (O X yb)/\W.cell? ⟨w.heap.size+1+1,3,Z⟩=I (Y Ck pk ek)/\W.cell? ⟨w.heap.size+1+1,4,Z⟩=I (Y Ca pa ea)/\W.cell? ⟨w.heap.size+1+1,5,Z⟩=I (Y Cf pf ef)/\W.cell? ⟨wr.heap.size,0,Z⟩=I (O X 12)/\W.cell? ⟨wr.heap.size,1,Z⟩=I (O X (i:Int))/\W.cell? ⟨wr.heap.size,2,Z⟩=I (O X (B:Int))/\W.cell? ⟨wr.heap.size,3,Z⟩=I (Y (I ⟨bk,ok,Z⟩) nk ck)/\W.cell? ⟨wr.heap.size,4,Z⟩=I (Y Z 0 0)/\W.cell? ⟨wr.heap.size,5,Z⟩=I (Y Af nf cf)))
    have f4:Hid (Below w7.heap.size w7 w7.drew):=aB (aT (Below.refl w7.heap.size w7) 1);have c8:=aB (fun q (hq:bB R V0 w7 q)=>(by
     rcases hq with hq | hq
     · have:=HR.o _ hq;have:=a5.o.size;omega
     exact hq.2:q<w7.heap.size))
    have h9:w7.drew.heap.size=w7.heap.size:=rfl;have l7:w.heap.size+3<=w7.heap.size:=by have:=a4.o.lt;omega
    refine wp_region_held_drew (S:=(fun w'=>w'.cell? ⟨w.heap.size+1+1,0,Z⟩=I (O X yo)/\w'.cell? ⟨w.heap.size+1+1,1,Z⟩=I (O X ya)/\w'.cell? ⟨w.heap.size+1+1,2,Z⟩=I (O X yb)/\w'.cell? ⟨w.heap.size+1+1,3,Z⟩=I (Y Ck pk ek)/\w'.cell? ⟨w.heap.size+1+1,4,Z⟩=I (Y Ca pa ea)/\w'.cell? ⟨w.heap.size+1+1,5,Z⟩=I (Y Cf pf ef)/\w'.cell? ⟨wr.heap.size,0,Z⟩=I (O X 12)/\w'.cell? ⟨wr.heap.size,1,Z⟩=I (O X (i:Int))/\w'.cell? ⟨wr.heap.size,2,Z⟩=I (O X (B:Int))/\w'.cell? ⟨wr.heap.size,3,Z⟩=I (Y (I ⟨bk,ok,Z⟩) nk ck)/\w'.cell? ⟨wr.heap.size,4,Z⟩=I (Y Z 0 0)/\w'.cell? ⟨wr.heap.size,5,Z⟩=I (Y Af nf cf))) aC ?_ (fun hZ => ?_)
    · (try dsimp only);exact b7.o _ f4.o
    generalize w7.drew=V7 at *;have a1:=aB h9;clear h9;refine aL 0 hZ ?_;refine aL 1 hZ ?_;refine aL 2 hZ ?_;refine wpAnyH_ready (rs:=[3,8]) aC aD ?_;refine AllReadyH.cons rfl (fun K hK => ?_) (AllReadyH.cons rfl (fun K hK => ?_) (AllReadyH.nil))
    · go_simp;go_at_call 83
      refine (g8.o _ (a5.o.trans (f4.o.mono a5.o.size)) i hi).mono ?_;rintro e v1 ⟨a8,⟨Ek,sk,fk,Ea,sa,fa,Ef,sf,ff⟩,rfl,d6⟩;have a2:=bZ f4 a8;have f3:=aB d6;have d1:=aB a8;clear a8 d6;go_wp2_with fail;refine hK.o _ _ (by exact b7.o _ a2.o) fun hZ => ?_;clear hK K;try simp only[p7]
      refine wpAnyH_ready (rs:=[4,8]) aC aD ?_;refine AllReadyH.cons rfl (fun K hK => ?_) (AllReadyH.cons rfl (fun K hK => ?_) (AllReadyH.nil))
      · go_simp;go_at_call 80
        refine (e5.o _ (a5.o.trans (a2.o.mono a5.o.size)) (bB R V0 v1) ?_ ⟨Ck,pk,ek,Ca,pa,ea,Cf,pf,ef⟩ ⟨Ek,sk,fk,Ea,sa,fa,Ef,sf,ff⟩ ?_ ?_).mono ?_
        · intro q hq;exact hq.elim (fun h=>by have:=HR.o _ h;have:=a2.o.size;have:=a1.o;omega) (fun h=>h.2)
        · exact b3.o.keep fun q hq=>⟨hq.to (Nat.le_refl _) a2.o.size,fun o=>a2.o.cell (p:=⟨q,o,Z⟩) (c8.o q hq)⟩
        · exact f3.o.keep fun q hq=>⟨hq.to (by have:=a1.o;omega) (Nat.le_refl _),fun o=>rfl⟩
        rintro e v2 ⟨c9,⟨Dk,rk,gk,Da,ra,ga,Df,rf,gf⟩,rfl,c4⟩;have d3:=bZ a2 c9;have e2:=aB c4;have e3:=aB c9;clear c9 c4;go_wp2_with fail;refine hK.o _ _ (by exact b7.o _ d3.o) fun hZ => ?_;clear hK K;try simp only[p7]
        refine aL 5 hZ ?_;refine aL 6 hZ ?_;refine aL 7 hZ ?_;have c5:=aP v2 (J #[O X 0,O X 0,O X 0,Y Z 0 0,Y Z 0 0,Y Z 0 0] 85);have b8:=bZ d3 c5;have c3:=aB (aS.new v2 85 #[O X 0,O X 0,O X 0,Y Z 0 0,Y Z 0 0,Y Z 0 0]);have h6:=aB c5;clear c5;refine r1 8 fun K hK => ?_;go_simp;refine hK.o _ _ (by exact b7.o _ b8.o) fun hZ => ?_;clear hK K;try simp only[p7]
        have l9:=d3.o.size;have h8:v2.heap.size<(v2.alloc (J #[O X 0,O X 0,O X 0,Y Z 0 0,Y Z 0 0,Y Z 0 0] 85)).heap.size:=by simp
        generalize hgV:(v2.alloc (J #[O X 0,O X 0,O X 0,Y Z 0 0,Y Z 0 0,Y Z 0 0] 85))=v3 at *;clear hgV;have i0:∀q,bB (bB R V0 v1) v1 v2 q->q<v2.heap.size:=fun q hq=>by
         rcases hq with (hq | hq) | hq
         · have:=HR.o _ hq;have:=a1.o;omega
         · have:=a2.o.size;have:=e3.o.size;have:=hq.2;have:=a1.o;omega
         exact hq.2
        have h0:=aB i0;clear i0;have b0:=eR v3 v2.heap.size (O X qo) (O X qa) (O X qb) (Y Dk rk gk) (Y Da ra ga) (Y Df rf gf);have c1:=aB b0;have a3:=aB (b8.o.grown b0 (b8.o.size) (fun q hq=>by injection hq with hq;have:=a1.o;omega));have zg:=aS.cell c3.o;have h7:=aS.frozen c3.o;clear b0;refine r1 9 fun K hK => ?_;go_simp;refine hK.o _ _ (by exact b7.o _ a3.o) fun hZ => ?_;clear hK K;try simp only[p7]
        refine aL 10 hZ ?_;refine wpAnyH_done aC ?_ _;go_wp2_with fail;go_meet;refine⟨v2.heap.size,Dk,Da,Df,rk,gk,ra,ga,rf,gf,rfl,rfl,aB ?_,aB (b6.o.below a3.o b6.o.lt),aB (b5.o.below a3.o b5.o.lt),aB (a4.o.below a3.o a4.o.lt),aB (b3.o.keep fun q hq=>⟨bB.to hq (Nat.le_refl _) a3.o.size,fun o=>a3.o.cell (p:=⟨q,o,Z⟩) (c8.o q hq)⟩),aB (cJ c3.o _ _ _ _ _ _),aB (a5.o.trans (a3.o.mono a5.o.size))⟩;refine e2.o.keep fun q hq=>⟨?_,fun o => ?_⟩
        · exact hq.idem (by have:=a2.o.size;have:=a1.o;omega) (by have:=e3.o.size;have:=c1.o.size;have:=a1.o;omega) (by have:=c1.o.size;have:=a1.o;omega)
        exact (aQ (c1.o.block q (by have:=h0.o q hq;have:=a1.o;omega) (by intro e;injection e with e;have:=h0.o q hq;have:=a1.o;omega)) o).trans (h6.o.cell (p:=⟨q,o,Z⟩) (h0.o q hq))
      have c5:=aP v1 (J #[O X 0,O X 0,O X 0,Y Z 0 0,Y Z 0 0,Y Z 0 0] 85);have b8:=bZ a2 c5;have c2:=aB (aS.new v1 85 #[O X 0,O X 0,O X 0,Y Z 0 0,Y Z 0 0,Y Z 0 0]);have h6:=aB c5;clear c5;go_simp;refine hK.o _ _ (by exact b7.o _ b8.o) fun hZ => ?_;clear hK K;try simp only[p7]
      have h8:(v1.alloc (J #[O X 0,O X 0,O X 0,Y Z 0 0,Y Z 0 0,Y Z 0 0] 85)).heap.size=v1.heap.size+1:=by simp
      have i2:=a2.o.size;generalize hgV:(v1.alloc (J #[O X 0,O X 0,O X 0,Y Z 0 0,Y Z 0 0,Y Z 0 0] 85))=va at *;clear hgV;refine r1 4 fun K hK => ?_;go_simp;go_at_call 80
      refine (e5.o _ (a5.o.trans (b8.o.mono a5.o.size)) (fun q=>bB R V0 v1 q/\q ≠ v1.heap.size) ?_ ⟨Ck,pk,ek,Ca,pa,ea,Cf,pf,ef⟩ ⟨Ek,sk,fk,Ea,sa,fa,Ef,sf,ff⟩ ?_ ?_).mono ?_
      · intro q hq;exact hq.1.elim (fun h=>by have:=HR.o _ h;have:=a1.o;omega) (fun h=>by have:=h.2;have:=a1.o;omega)
      · exact b3.o.keep fun q hq=>⟨⟨hq.to (Nat.le_refl _) i2,by have:=c8.o q hq;have:=a1.o;omega⟩,fun o=>b8.o.cell (p:=⟨q,o,Z⟩) (c8.o q hq)⟩
      · exact f3.o.keep fun q hq=>⟨⟨hq.to (by have:=a1.o;omega) (Nat.le_refl _),hq.elim (fun h=>by have:=HR.o _ h;have:=a1.o;omega) (fun h=>by have:=h.2;have:=a1.o;omega)⟩,fun o=>h6.o.cell (p:=⟨q,o,Z⟩) (show q<v1.heap.size from hq.elim (fun h=>by have:=HR.o _ h;have:=a1.o;omega) (fun h=>h.2))⟩
      rintro e v3 ⟨a6,⟨Dk,rk,gk,Da,ra,ga,Df,rf,gf⟩,rfl,c4⟩;have a9:=bZ b8 a6;have e2:=aB c4;have c0:=aB a6;clear a6 c4;go_wp2_with fail;refine hK.o _ _ (by exact b7.o _ a9.o) fun hZ => ?_;clear hK K;try simp only[p7]
      refine aL 5 hZ ?_;refine aL 6 hZ ?_;refine aL 7 hZ ?_;have c3:=aB (c2.o.below c0.o c2.o.lt);have l1:=c0.o.size;have b0:=eR v3 v1.heap.size (O X qo) (O X qa) (O X qb) (Y Dk rk gk) (Y Da ra ga) (Y Df rf gf);have c1:=aB b0;have a3:=aB (a9.o.grown b0 (a9.o.size) (fun q hq=>by injection hq with hq;have:=a1.o;omega));have zg:=aS.cell c3.o;have h7:=aS.frozen c3.o;clear b0;refine r1 9 fun K hK => ?_;go_simp;refine hK.o _ _ (by exact b7.o _ a3.o) fun hZ => ?_;clear hK K;try simp only[p7]
      refine aL 10 hZ ?_;refine wpAnyH_done aC ?_ _;go_wp2_with fail;go_meet;refine⟨v1.heap.size,Dk,Da,Df,rk,gk,ra,ga,rf,gf,rfl,rfl,aB ?_,aB (b6.o.below a3.o b6.o.lt),aB (b5.o.below a3.o b5.o.lt),aB (a4.o.below a3.o a4.o.lt),aB (b3.o.keep fun q hq=>⟨bB.to hq (Nat.le_refl _) a3.o.size,fun o=>a3.o.cell (p:=⟨q,o,Z⟩) (c8.o q hq)⟩),aB (cJ c3.o _ _ _ _ _ _),aB (a5.o.trans (a3.o.mono a5.o.size))⟩;refine e2.o.keep fun q hq=>⟨?_,fun o => ?_⟩
      · rcases hq with hq | hq
        · exact hq.1.to (Nat.le_refl _) (by have:=c1.o.size;have:=a1.o;omega)
        exact Or.inr ⟨by have:=hq.1;have:=a1.o;omega,Nat.lt_of_lt_of_le hq.2 c1.o.size⟩
      refine aQ (c1.o.block q ?_ ?_) o
      · rcases hq with hq | hq
        · rcases hq.1 with h | h
          · have:=HR.o _ h;have:=a1.o;omega
          have:=h.2;have:=a1.o;omega
        exact hq.2
      intro e;injection e with e;rcases hq with hq | hq
      · exact hq.2 (by have:=a1.o;omega)
      have:=hq.1;have:=a1.o;omega
    have c5:=aP V7 (J #[O X 0,O X 0,O X 0,Y Z 0 0,Y Z 0 0,Y Z 0 0] 85);have b8:=bZ f4 c5;have c2:=aB (aS.new V7 85 #[O X 0,O X 0,O X 0,Y Z 0 0,Y Z 0 0,Y Z 0 0]);have h8:(V7.alloc (J #[O X 0,O X 0,O X 0,Y Z 0 0,Y Z 0 0,Y Z 0 0] 85)).heap.size=V7.heap.size+1:=by simp
    clear c5;go_simp;refine hK.o _ _ (by exact b7.o _ b8.o) fun hZ => ?_;clear hK K;try simp only[p7]
    generalize hgV:(V7.alloc (J #[O X 0,O X 0,O X 0,Y Z 0 0,Y Z 0 0,Y Z 0 0] 85))=va at *;clear hgV;refine r1 3 fun K hK => ?_;go_simp;go_at_call 83
    refine (g8.o _ (a5.o.trans (b8.o.mono a5.o.size)) i hi).mono ?_;rintro e v1 ⟨a8,⟨Ek,sk,fk,Ea,sa,fa,Ef,sf,ff⟩,rfl,d6⟩;have a2:=bZ b8 a8;have f3:=aB d6;have d1:=aB a8;clear a8 d6;go_wp2_with fail;refine hK.o _ _ (by exact b7.o _ a2.o) fun hZ => ?_;clear hK K;try simp only[p7]
    have i2:=d1.o.size;have e6:=aB (c2.o.below d1.o c2.o.lt);refine r1 4 fun K hK => ?_;go_simp;go_at_call 80
    refine (e5.o _ (a5.o.trans (a2.o.mono a5.o.size)) (fun q=>bB R V0 v1 q/\q ≠ V7.heap.size) ?_ ⟨Ck,pk,ek,Ca,pa,ea,Cf,pf,ef⟩ ⟨Ek,sk,fk,Ea,sa,fa,Ef,sf,ff⟩ ?_ ?_).mono ?_
    · intro q hq;exact hq.1.elim (fun h=>by have:=HR.o _ h;have:=a1.o;omega) (fun h=>h.2)
    · exact b3.o.keep fun q hq=>⟨⟨hq.to (Nat.le_refl _) (by have:=a1.o;omega),by have:=c8.o q hq;have:=a1.o;omega⟩,fun o=>a2.o.cell (p:=⟨q,o,Z⟩) (c8.o q hq)⟩
    · exact f3.o.keep fun q hq=>⟨⟨hq.to (by have:=a1.o;omega) (Nat.le_refl _),hq.elim (fun h=>by have:=HR.o _ h;have:=a1.o;omega) (fun h=>by have:=h.1;have:=a1.o;omega)⟩,fun o=>rfl⟩
    rintro e v3 ⟨a6,⟨Dk,rk,gk,Da,ra,ga,Df,rf,gf⟩,rfl,c4⟩;have a9:=bZ a2 a6;have e2:=aB c4;have c0:=aB a6;clear a6 c4;go_wp2_with fail;refine hK.o _ _ (by exact b7.o _ a9.o) fun hZ => ?_;clear hK K;try simp only[p7]
    refine aL 5 hZ ?_;refine aL 6 hZ ?_;refine aL 7 hZ ?_;have c3:=aB (e6.o.below c0.o e6.o.lt);have l1:=c0.o.size;have b0:=eR v3 V7.heap.size (O X qo) (O X qa) (O X qb) (Y Dk rk gk) (Y Da ra ga) (Y Df rf gf);have c1:=aB b0;have a3:=aB (a9.o.grown b0 (a9.o.size) (fun q hq=>by injection hq with hq;have:=a1.o;omega));have zg:=aS.cell c3.o;have h7:=aS.frozen c3.o;clear b0;refine r1 9 fun K hK => ?_;go_simp;refine hK.o _ _ (by exact b7.o _ a3.o) fun hZ => ?_;clear hK K;try simp only[p7]
    refine aL 10 hZ ?_;refine wpAnyH_done aC ?_ _;go_wp2_with fail;go_meet;refine⟨V7.heap.size,Dk,Da,Df,rk,gk,ra,ga,rf,gf,rfl,rfl,aB ?_,aB (b6.o.below a3.o b6.o.lt),aB (b5.o.below a3.o b5.o.lt),aB (a4.o.below a3.o a4.o.lt),aB (b3.o.keep fun q hq=>⟨bB.to hq (Nat.le_refl _) a3.o.size,fun o=>a3.o.cell (p:=⟨q,o,Z⟩) (c8.o q hq)⟩),aB (cJ c3.o _ _ _ _ _ _),aB (a5.o.trans (a3.o.mono a5.o.size))⟩;refine e2.o.keep fun q hq=>⟨?_,fun o => ?_⟩
    · rcases hq with hq | hq
      · exact hq.1.to (Nat.le_refl _) (by have:=c1.o.size;have:=a1.o;omega)
      exact Or.inr ⟨by have:=hq.1;have:=a1.o;omega,Nat.lt_of_lt_of_le hq.2 c1.o.size⟩
    refine aQ (c1.o.block q ?_ ?_) o
    · rcases hq with hq | hq
      · rcases hq.1 with h | h
        · have:=HR.o _ h;have:=a1.o;omega
        have:=h.2;have:=a1.o;omega
      exact hq.2
    intro e;injection e with e;rcases hq with hq | hq
    · exact hq.2 (by have:=a1.o;omega)
    have:=hq.1;have:=a1.o;omega
   case rest =>
   obtain⟨g7,Dk,Da,Df,rk,gk,ra,ga,rf,gf,rfl,rfl,c4,g1,c6,c7,f8,k8,e9⟩:=hcut;clear j5 j6 g8 j2 j1 d2 e5;by_cases he:qe=0
   · subst he;have g9:=aB (g6.o.trans (if_pos rfl));have zq:=aS.cell k8.o;have zy:=aS.cell c7.o;have k3:=aS.frozen c7.o;go_wp2_with fail;have b0:=eR wc (w.heap.size+1+1) (O X qo) (O X qa) (O X qb) (Y Dk rk gk) (Y Da ra ga) (Y Df rf gf);have e7:=aB b0;clear b0 zq zy k3;go_roundw
     case rel =>
      refine⟨i,(i:Int)-1,(⟨qo,qa,qb⟩,qat,qk),⟨Dk,rk,gk,Da,ra,ga,Df,rf,gf⟩,rfl,rfl,by omega,g9,aB (j9.o rfl),aB ?_,aB (g1.o.grown e7.o aK),aB (c6.o.grown e7.o aK),aB (cJ c7.o _ _ _ _ _ _),aB (e9.o.grown e7.o (by have:=e9.o.size;omega) (fun q hq=>by injection hq with hq;omega))⟩;exact c4.o.keep fun q hq=>⟨hq.elim Or.inl (fun h=>Or.inr ⟨h.1,Nat.lt_of_lt_of_le h.2 e7.o.size⟩),fun o=>aQ (e7.o.block q (by
       rcases hq with hq | hq
       · have:=HR.o _ hq;have:=e9.o.size;omega
       · exact hq.2) (by
       intro e;injection e with e;rcases hq with hq | hq
       · have:=HR.o _ hq;omega
       have:=hq.1;omega)) o⟩
     case measure=>simp[intOf]<;>omega
   · have de:(qe != 0)=true:=by simpa using he
     have l5:=aB (k1.o he);have g9:=aB (g6.o.trans (if_neg he));have zy:=aS.cell c7.o;have zz:=aS.cell c6.o;have zf:=aS.frozen c6.o;go_wp2_with fail;refine bodyPost_ret (v:=.tuple #[.agg #[O X yo,O X ya,O X yb,Y Ck pk ek,Y Ca pa ea,Y Cf pf ef],O X qe]) ?_ rfl ?_
     · exact mT (g:=w.heap.size+1) (cJ c6.o _ _ _ _ _ _) aD
     rw[g9.o,l5.o];exact nP (V:=V0) (t:=⟨Ck,pk,ek,Ca,pa,ea,Cf,pf,ef⟩) HR.o aA aA e9.o f8.o
end Go.Proofs.YtjoddliplahgkaaGreat
