/- Merged: GoB, Fold2, RvP, RvS, Times, Highest. -/
import Derived.Test.YtjoddliplahgkaaGreatTGoA
namespace Go.Proofs.YtjoddliplahgkaaGreat
set_option maxHeartbeats 8000000
set_option maxRecDepth 100000
set_option linter.unusedVariables false
set_option linter.unusedSimpArgs false
open Go.RowKit
open Go.Value renaming int → O, slice → Z
open Go.IntKind renaming i64 → X
open Option renaming none → Y, some → I
variable {xs:List Value}{c:Nat}{R:Nat->Prop}{n:Nd}{u x:TT}{w:aAB}
section
open Go.Lib renaming hid->aB
theorem zW{R:Nat->Prop}{w:aAB}{b:Nat}:∀(L:List TT)(off:Nat),uD R w (iP L) b off->∃D:List Value,D.length=L.length*6/\(∀j u,D[j]? = I u->w.cell? ⟨b,off+j,Y⟩=I u)/\lO R w (iP L) D
 | [],off,_=>⟨[],rfl,fun j u h=>by simp at h,rfl⟩
 | y::r,off,h=>by
  obtain⟨⟨h0,h1,h2⟩,⟨s,c',h3,F,G⟩,⟨v,h4,⟨Av,nv,cv,rfl,U⟩⟩,⟨u,h5,⟨Au,nu,cu,rfl,o⟩⟩,h6⟩:=h;obtain⟨D,e1,e2,e3⟩:=zW r (off+6) h6;refine⟨[O X y.1.op,O X y.1.a,O X y.1.b,Z s (bE y.2.2) c',Z Av nv cv,Z Au nu cu]++D,by simp only[XX,YA,ZD];omega,fun j z hz=>?_,⟨_,_,rfl,⟨_,_,_,rfl,⟨s,_,c',rfl,⟨rfl,F,G⟩⟩,⟨_,_,_,rfl,U⟩,⟨_,_,_,rfl,o⟩⟩,e3⟩⟩
  match j,hz with
  | 0,hz=>simp at hz;subst hz;exact h0
  | 1,hz=>simp at hz;subst hz;exact h1
  | 2,hz=>simp at hz;subst hz;exact h2
  | 3,hz=>simp at hz;subst hz;exact h3
  | 4,hz=>simp at hz;subst hz;exact h4
  | 5,hz=>simp at hz;subst hz;exact h5
  | j+6,hz =>
   have:=e2 j z (by simpa using hz);rw[show off+(j+6)=off+6+j from by omega];exact this
theorem IP{A:ZZ}{n:Nat}{L:List TT}(h:eX R w A n c (iP L)):∃D:List Value,D.length=n*6/\(∀F,A=I F->∀j u,D[j]? = I u->w.cell? (F.add j)=I u)/\lO R w (iP L) D/\(A=Y->n=0)/\(0<n->∃b off,A=I ⟨b,off,Y⟩/\R b):=by
 have hl:L.length=n:=by rw[<-iC];exact h.len
 rcases Nat.eq_zero_or_pos n with U|U
 . have:L=[]:=ZC aA;subst this;exact⟨[],by simp[U],fun F e j u o=>by simp at o,rfl,fun _=>U,fun h=>absurd h aA⟩
 obtain⟨b,off,e,hr,hf⟩:=h.mem U;obtain⟨D,s,z,e3⟩:=zW L off hf;refine⟨D,by rw[s,hl],fun F G j u o=>?_,e3,fun en=>(by rw[e]at en;cases en),fun _=>⟨b,off,e,hr⟩⟩;rw[e]at G;injection G with G;subst G;have e9:(⟨b,off,Y⟩:Addr).add j=⟨b,off+j,Y⟩:=by unfold Addr.add;split<;>simp_all
 rw[e9];exact z j u o
theorem mB{base g n sz:Nat}{e:TypeId}(h:w.ownsRow base e sz (Z (I ⟨g,0,Y⟩) n c) n xs)(i:Nat)(u:Value):(w.setCell ⟨g,i,Y⟩ u).ownsRow base e sz (Z (I ⟨g,0,Y⟩) n c) n (xs.set i u):=by
 obtain⟨hl,hc⟩:=h;refine⟨by simpa using hl,.inr ?_⟩;rcases hc with⟨G,_⟩|⟨g',cap,D,hv,hg,hh,G,o,s,z⟩
 . cases G
 injection hv with F e2 U;injection F with F;injection F with F;subst F U;refine⟨g,c,D.setIfInBounds i u,rfl,hg,?_,G,o,by simpa using s,?_⟩
 . have hb:aT w g e D:=hh;exact hb.set_ i u
 rw[Array.toList_setIfInBounds,List.take_set,z]
def QT(D:List Value)(i:Nat)(u0 u1 u2 u3 u4 u5:Value):List Value:=(((((D.set (i*6) u0).set (i*6+1) u1).set (i*6+2) u2).set (i*6+3) u3).set (i*6+4) u4).set (i*6+5) u5
theorem NW(D a1 a2 F G U:Value)(h:List Value)(i:Nat)(u0 u1 u2 u3 u4 u5:Value):QT (D::a1::a2::F::G::U::h) (i+1) u0 u1 u2 u3 u4 u5=D::a1::a2::F::G::U::QT h i u0 u1 u2 u3 u4 u5:=by
 unfold QT;rw[show (i+1)*6=i*6+6 from by omega];rfl
theorem KJ{R:Nat->Prop}{w:aAB}{x:TT}{t:iA}(o:fI R w t x):∀(L:List TT)(D:List Value)(i:Nat),i<L.length->lO R w (iP L) D->lO R w (iP (L.set i x)) (QT D i (O X x.1.op) (O X x.1.a) (O X x.1.b) (Z t.Ak t.nk t.ck) (Z t.Aa t.na t.ca) (Z t.Af t.nf t.cf))
 | [],_,_,h,_=>absurd h aD
 | y::r,D,0,_,h=>by
  obtain⟨ys,G,rfl,⟨sk,s,z,rfl,_,_,_⟩,F⟩:=h;exact⟨[O X x.1.op,O X x.1.a,O X x.1.b,Z t.Ak t.nk t.ck,Z t.Aa t.na t.ca,Z t.Af t.nf t.cf],G,rfl,o,F⟩
 | y::r,D,i+1,hi,h=>by
  obtain⟨ys,G,rfl,U,F⟩:=h;obtain⟨sk,s,z,rfl,_⟩:=id U;have h3:=KJ o r G i (by simpa using hi) F;exact⟨[O X y.1.op,O X y.1.a,O X y.1.b,sk,s,z],_,NW _ _ _ _ _ _ _ _ _ _ _ _ _ _,U,h3⟩
theorem P7{base g n:Nat}{e:TypeId}(h:w.ownsRow base e 6 (Z (I ⟨g,0,Y⟩) n c) n xs)(i:Nat)(u0 u1 u2 u3 u4 u5:Value):((((((w.setCell ⟨g,i*6,Y⟩ u0).setCell ⟨g,i*6+1,Y⟩ u1).setCell ⟨g,i*6+2,Y⟩ u2).setCell ⟨g,i*6+3,Y⟩ u3).setCell ⟨g,i*6+4,Y⟩ u4).setCell ⟨g,i*6+5,Y⟩ u5).ownsRow base e 6 (Z (I ⟨g,0,Y⟩) n c) n (QT xs i u0 u1 u2 u3 u4 u5) :=
 mB (mB (mB (mB (mB (mB h _ u0) _ u1) _ u2) _ u3) _ u4) _ u5
theorem ID(w:aAB)(g i:Nat)(s z x2 x3 x4 x5:Value):w.grownBy ((((((w.setCell ⟨g,i*6,Y⟩ s).setCell ⟨g,i*6+1,Y⟩ z).setCell ⟨g,i*6+2,Y⟩ x2).setCell ⟨g,i*6+3,Y⟩ x3).setCell ⟨g,i*6+4,Y⟩ x4).setCell ⟨g,i*6+5,Y⟩ x5) (I g):=by
 have D:∀(w:aAB)(j:Nat)(u:Value),w.grownBy (w.setCell ⟨g,j,Y⟩ u) (I g):=fun w j u=>⟨rfl,rfl,rfl,by simp,fun k _ U=>XZ w ⟨g,j,Y⟩ u k (by show k≠g;intro e;exact U (by rw[e]))⟩;have G:∀{a b c:aAB},a.grownBy b (I g)->b.grownBy c (I g)->a.grownBy c (I g):=fun h F=>⟨F.os.trans h.os,F.tape.trans h.tape,F.output.trans h.output,YE h.size F.size,fun k U o=>(F.block k (XT U h.size) o).trans (h.block k U o)⟩;exact G (G (G (G (G (D _ _ _) (D _ _ _)) (D _ _ _)) (D _ _ _)) (D _ _ _)) (D _ _ _)
theorem P8{base n:Nat}{A:ZZ}{e:TypeId}(h:w.ownsRow base e 6 (Z A n c) n xs)(hn:0<n):∃g D,A=I ⟨g,0,Y⟩/\base<=g/\aT w g e D/\n*6<=D.size:=by
 obtain⟨hl,hc⟩:=h;rcases hc with⟨F,s⟩|⟨o,cap,D,hv,hg,hh,F,s,z,h4⟩
 . omega
 injection hv with G e2 U;subst G U;exact⟨o,D,rfl,hg,hh,by rw[z];exact Nat.mul_le_mul_right _ F⟩
def VT(R:Nat->Prop)(w:aAB)(L:List TT)(e:Ending)(w':aAB):Prop:=ZY w w'/\∃A c,e=.returned (Z A L.length c)/\eX (bM R w w') w' A L.length c (iP L)
theorem AT{t:iA}{B:ZZ}{m d i:Nat}{L:List TT}(hR:∀b,R b->b<w.heap.size)(ht:fI R w t x)(hk:eX R w B m d (iP L))(hn:B=Y->d=0)(hm:m<=1000000)(hi:i<m):
 Calls Tryz.prog 84 #[Z B m d,O X (i:Int),.agg (fE t x.1)] w (VT R w (L.set i x)):=by
 have b7:m=L.length:=by rw[<-hk.len,iC]
 obtain⟨vs,c7,c6,a7,c8,c5⟩:=IP hk;obtain⟨i0,b6,c9,d0,d1⟩:=info_parts Tryz.infoT;have d3:=aB b6;have d9:=aB c9;have e0:=aB d0;have e4:=aB d1;have d5:Hid (B=Y->m=0/\d=0):=aB fun e=>⟨c8 e,hn e⟩;have d8:=aB (CH (iP L) vs a7);have d7:=aB c7;obtain⟨b,off,rfl,b1⟩:=c5 aA;have b2:=hR _ b1;have d6:Hid (∀W,ZY w W->∀ad,I (⟨b,off,Y⟩:Addr)=I ad->∀j u,vs[j]? = I u->W.cell? (ad.add j)=I u):=aB (by
  intro W hb ad e j u hu;have h0:=c6 ad e j u hu;injection e with e;subst e;have e9:(⟨b,off,Y⟩:Addr).add j=⟨b,off+j,Y⟩:=by unfold Addr.add;split<;>simp_all
  rw[e9]at h0 ⊢;exact (hb.cell (p:=⟨b,off+j,Y⟩) b2).trans h0)
 have d2:=aB (fun (W:aAB) (hb:ZY w W)=>KJ (ht.below hR hb) L vs i aA (lO.keep (R':=R) (w':=W) (fun q z=>⟨z,fun o=>hb.cell (p:=⟨q,o,Y⟩) (hR q z)⟩) _ _ a7));have a3:Hid ((L.set i x).length=m):=aB (by rw[List.length_set];exact b7.symm);generalize L.set i x=L2 at *;clear hR ht hk hn b7 c6 a7 c8 c5 b6 c9 d0 d1 b1 b2 c7;obtain⟨⟨xo,xa,xb⟩,g0,xk⟩:=x;obtain⟨Ak,nk,ck,Aa,na,ca,Af,nf,cf⟩:=t;obtain⟨s,a0⟩:=aAJ (w.alloc (.cells #[O X xo,O X xa,O X xb,Z Ak nk ck,Z Aa na ca,Z Af nf cf] 85));have a5:ZY w s:=by rw[a0];exact aQ _ _
 have a6:aT s w.heap.size 85 #[O X xo,O X xa,O X xb,Z Ak nk ck,Z Aa na ca,Z Af nf cf]:=by rw[a0];exact aT.new _ _ _
 obtain⟨a9,d4⟩:=aAC (a5.alloc a5.size (.cells #[] 85)) (a6.alloc (.cells #[] 85));have a4:Hid ((s.alloc (.cells #[] 85)).ownsRow s.heap.size 85 6 (Z (I ⟨s.heap.size,0,Y⟩) 0 0) 0 []):=aB (World.ownsRow_made s #[] 0 (XU _) (ZA _) rfl);have h:Hid (w.heap.size<s.heap.size):=aB a6.lt;have b0:Hid ((s.alloc (.cells #[] 85)).heap.size=s.heap.size+1):=aB aD;clear a5 a6;show Calls Tryz.prog 84 #[Z (I ⟨b,off,Y⟩) m d,O X (i:Int),.agg #[O X xo,O X xa,O X xb,Z Ak nk ck,Z Aa na ca,Z Af nf cf]] w _;go_in;go_upto_region 1 with fail
 rw[<-a0];clear a0;go_wp2_with (at_builtin;refine a8 rfl (bW (.tmp 8) (.tmp 9) 83 rfl s.heap.size 85 i0 _ 6 96 Tryz.underlying83 d3.o d9.o e0.o e4.o rfl aE (Z (I ⟨s.heap.size,0,Y⟩) 0 0) 0 [] aF a4.o (I ⟨b,off,Y⟩) m d vs aF d7.o d5.o (d6.o _ a9.o) d8.o aJ aA (by rw[b0.o];omega) ?_);intro A3 c3 w3 F;rw[YH,YO]at F;obtain⟨G,U,rfl,f7,D,f6⟩:=P8 F.own aA;have a1:=aB (a9.o.grown F.grown (Nat.le_of_lt (XT h.o (by rw[b0.o];omega))) (fun q z=>by have:=(aS a4.o z).1;have:=h.o;omega));have e8:=aT.cell (d4.o.grown F.grown (eF a4.o h.o));obtain⟨u0,b8⟩:∃u,U[i*6]? = I u:=⟨_,Array.getElem?_eq_getElem aA⟩;have n0:w3.cell? ⟨G,i*6,Y⟩=I u0:=(D.cell (i*6)).trans b8;have f0:=D.frozen (i*6);clear b8;obtain⟨u1,b9⟩:∃u,U[i*6+1]? = I u:=⟨_,Array.getElem?_eq_getElem aA⟩;have n1:w3.cell? ⟨G,i*6+1,Y⟩=I u1:=(D.cell (i*6+1)).trans b9;have f1:=D.frozen (i*6+1);clear b9;obtain⟨u2,c0⟩:∃u,U[i*6+2]? = I u:=⟨_,Array.getElem?_eq_getElem aA⟩;have n2:w3.cell? ⟨G,i*6+2,Y⟩=I u2:=(D.cell (i*6+2)).trans c0;have f2:=D.frozen (i*6+2);clear c0;obtain⟨u3,c1⟩:∃u,U[i*6+3]? = I u:=⟨_,Array.getElem?_eq_getElem aA⟩;have n3:w3.cell? ⟨G,i*6+3,Y⟩=I u3:=(D.cell (i*6+3)).trans c1;have f3:=D.frozen (i*6+3);clear c1;obtain⟨u4,c2⟩:∃u,U[i*6+4]? = I u:=⟨_,Array.getElem?_eq_getElem aA⟩;have n4:w3.cell? ⟨G,i*6+4,Y⟩=I u4:=(D.cell (i*6+4)).trans c2;have f4:=D.frozen (i*6+4);clear c2;obtain⟨u5,c4⟩:∃u,U[i*6+5]? = I u:=⟨_,Array.getElem?_eq_getElem aA⟩;have n5:w3.cell? ⟨G,i*6+5,Y⟩=I u5:=(D.cell (i*6+5)).trans c4;have f5:=D.frozen (i*6+5);clear c4)
 have b5:=ID w3 G i (O X xo) (O X xa) (O X xb) (Z Ak nk ck) (Z Aa na ca) (Z Af nf cf);have a2:=aB b5;clear b5 n0 n1 n2 n3 n4 n5 f0 f1 f2 f3 f4 f5 e8;go_ret;have b3:=a1.o.grown a2.o a1.o.size (fun q z=>by have e7:G=q:=(by injection z with h9);have:=h.o;omega);have ho:=P7 F.own i (O X xo) (O X xa) (O X xb) (Z Ak nk ck) (Z Aa na ca) (Z Af nf cf);have hf:=d2.o _ b3;have f8:=a2.o.size;have f9:=D.lt;clear a2 F D a1;generalize ((((((w3.setCell ⟨G,i*6,Y⟩ (O X xo)).setCell ⟨G,i*6+1,Y⟩ (O X xa)).setCell ⟨G,i*6+2,Y⟩ (O X xb)).setCell ⟨G,i*6+3,Y⟩ (Z Ak nk ck)).setCell ⟨G,i*6+4,Y⟩ (Z Aa na ca)).setCell ⟨G,i*6+5,Y⟩ (Z Af nf cf))=Wn at *;have b4:bE (iP L2)=m:=by rw[iC];exact a3.o
 rw[<-b4]at ho;obtain⟨A',n',c',e,hk⟩:=iQ (R:=bM R w Wn) ho (lO.keep (R':=bM R w Wn) (fun q z=>⟨Or.inl z,fun _=>rfl⟩) _ _ hf) (fun q z=>by
  have e7:G=q:=by injection z with h9
  exact Or.inr ⟨by have:=h.o;omega,by omega⟩)
 injection e with e1 e2 e3;subst e1 e2 e3;have e5:eX (bM R w Wn) Wn (I ⟨G,0,Y⟩) m c3 (iP L2):=by rw[b4]at hk;exact hk
 have e6:eX (bM R w Wn) Wn (I ⟨G,0,Y⟩) L2.length c3 (iP L2):=by rw[a3.o];exact e5
 exact⟨b3,I ⟨G,0,Y⟩,c3,by rw[a3.o];rfl,e6⟩
end
theorem DI(D G:Int)(ha:∀k:Int,0<=aR D G k/\aR D G k<=4):∀(j:Nat)(v:Int)(F:Fo),dI F->0<=(vF D G j v F).1/\(vF D G j v F).1<=aY F/\0<=(vF D G j v F).2/\(vF D G j v F).2<=4*aY F
 | _,_,.nil,_=>by simp[vF,aY]
 | j,v,.cons p n a k x,h=>by
  obtain⟨U,o,s⟩:=h;have z:=DI n.op n.b (fun i=>dY U i) 0 (v+aR D G j) k o;have hx:=DI D G ha (j+1) v x s;obtain⟨a1,a2⟩:=ha j;have hq:0<=(iI n k (v+aR D G j)).1/\(iI n k (v+aR D G j)).1<=aY k+1/\0<=(iI n k (v+aR D G j)).2/\(iI n k (v+aR D G j)).2<=4*aY k:=by
   simp only[iI];split
   . split<;>(simp only;omega)
   omega
  rw[mI];simp only[aY];refine⟨by omega,by omega,?_,?_⟩<;>split<;>omega
theorem JV(h:eW n=true)(j:Nat)(v:Int)(F:Fo)(hF:dI F):0<=(vF n.op n.b j v F).1/\(vF n.op n.b j v F).1<=aY F/\0<=(vF n.op n.b j v F).2/\(vF n.op n.b j v F).2<=4*aY F :=
 DI n.op n.b (fun i=>dY h i) j v F hF
theorem LN(h:eW n=true)(v:Int)(F:Fo)(hF:dI F):0<=(iI n F v).1/\(iI n F v).1<=aY F+1/\0<=(iI n F v).2/\(iI n F v).2<=4*aY F:=by
 have:=JV h 0 v F hF;simp only[iI];split
 . split<;>(simp only;omega)
 omega
theorem nF.vk(h:nF x):Vk x.2.2:=rY _ _ h.wf
theorem yE:∀(F:Fo),Vk F->dI F
 | .nil,_=>trivial
 | .cons _ _ _ k x,h=>⟨h.1,yE k h.2.2.1,yE x h.2.2.2⟩
theorem nF.all(h:nF x):dI x.2.2:=yE _ h.vk
theorem nF.leaf(h:nF x)(D:x.1.op=1):x.2.1=[]/\x.2.2=.nil:=DK h.at_ h.wf D
theorem RH(D:nF u)(d:Int):(lE d u.1 0,s9 u.1 u.2.1 0,tA d u.1 u.2.2 0)=jD u d:=by
 have h:=FE (up:=d) (fr:=0) (a:=0) D.ok D.leaf (I9 d 0 u.1.op u.1.b 0 0 u.2.2 D.vk);simp only[YQ]at h;rw[h.1,h.2.1,h.2.2];rfl
theorem FB(hu:nF u){a:Int}{D:List Nd}{k:Fo}(F:eW n=true)(z:n.op=1->D=[]/\k=.nil)(ih:rL ⟨u.1,u.2.1,u.2.2⟩ n.op n.b 0 a a k=y8 (t8 u) n.op n.b 0 a k):
 (lD ⟨u.1,u.2.1,u.2.2⟩ n a a,s8 ⟨u.1,u.2.1,u.2.2⟩ n D a a,uL ⟨u.1,u.2.1,u.2.2⟩ n k a a)=DP (t8 u) a (n,D,k):=by
 by_cases h:n.op=1
 . have hb:=RI F h;obtain⟨o,s⟩:=z h;subst o s;rw[pJ h];unfold lD s8 uL t8;simp only[XP h];by_cases G:n.a=a
   . simp only[XP G];exact RH hu a
   simp only[XN G];by_cases U:a<n.a
   . simp only[XP U];rw[h,hb.2.2]
   simp only[XN U]
 rw[kH h];unfold lD s8 uL;simp only[XN h,ih]
theorem CZ{u:TT}(U:nF u)(D G:Int):∀(j:Nat)(a:Int)(F:Fo),Vk F->rL ⟨u.1,u.2.1,u.2.2⟩ D G j a a F=y8 (t8 u) D G j a F
 | _,_,.nil,_=>rfl
 | j,a,.cons p n ats k x,h=>by
  have o:=FB U (a:=a+aR D G j) h.1 h.2.1 (CZ U n.op n.b 0 _ k h.2.2.1);have s:=CZ U D G (j+1) a x h.2.2.2;rw[kF,lC,s,<-o]
theorem U2(D:nF x)(F:nF u):(lD ⟨u.1,u.2.1,u.2.2⟩ x.1 0 0,s8 ⟨u.1,u.2.1,u.2.2⟩ x.1 x.2.1 0 0,uL ⟨u.1,u.2.1,u.2.2⟩ x.1 x.2.2 0 0)=DP (t8 u) 0 x :=
 FB F D.ok D.leaf (CZ F _ _ 0 0 _ D.vk)
theorem LO{v a:Int}{k:Fo}(F:n.op=1->k=.nil)(ih:(vF n.op n.b 0 (v+a) k).1=BU v n.op n.b 0 a k):(iI n k (v+a)).1=(if n.op=1/\n.a-a=v then 1 else 0)+BU v n.op n.b 0 a k:=by
 unfold iI;by_cases h:n.op=1
 . rw[XP h,F h];by_cases D:n.a=v+a
   . rw[XP D,XP ⟨h,by omega⟩];rfl
   rw[XN D,XN aA];rfl
 rw[XN h,ih,XN (fun q=>h q.1),Int.zero_add]
theorem JW(v:Int)(D G:Int):∀(j:Nat)(a:Int)(F:Fo),Vk F->(vF D G j (v+a) F).1=BU v D G j a F
 | _,_,.nil,_=>rfl
 | j,a,.cons p n ats k x,h=>by
  have U:=LO (v:=v) (a:=a+aR D G j) (n:=n) (k:=k) (fun q=>(h.2.1 q).2) (JW v n.op n.b 0 _ k h.2.2.1);have o:=JW v D G (j+1) a x h.2.2.2;rw[mI];simp only;rw[Int.add_assoc,U,o];rfl
theorem RA(h:nF x):(iI x.1 x.2.2 0).1=qR 0 x.1 x.2.2:=by
 have D:=LO (v:=0) (a:=0) (n:=x.1) (k:=x.2.2) (fun q=>(h.leaf q).2) (JW 0 x.1.op x.1.b 0 0 x.2.2 h.vk);simp only[YQ,Int.sub_zero]at D;rw[D];rfl
theorem CN{up free M:Int}(hM : -1<=M)(D G:Int)(U:∀k:Int,0<=aR D G k/\aR D G k<=4):∀(j:Nat)(a:Int)(F:Fo),Vk F->oP (fun v z=>decide (free<=v-z)) D G j a F=false->a+4*aY F+free+up<=M->PN D G up j a F<=M
 | _,_,.nil,_,_,_=>hM
 | j,a,.cons p n ats k x,h,o,hb=>by
  rw[eK,ZG]at o;obtain⟨t1,t2⟩:=nO o.1;have hp:=U j;have hs:aY (Fo.cons p n ats k x)=aY k+aY x+1:=rfl;have i1:=CN (up:=up) hM n.op n.b (fun i=>dY h.1 i) 0 (a+aR D G j) k h.2.2.1 t2 aA;have i2:=CN (up:=up) hM D G U (j+1) a x h.2.2.2 o.2 aA;rw[vZ];refine Int.max_le.2 ⟨?_,i2⟩;unfold p8;split
  . rename_i s
    have:=t1 s;rw[YM]at this;split<;>omega
  . exact i1
theorem v4{b:Bk}{free:Int}(h:bO b free x){up:Int}(G:free+up<=1030000):p8 up x.1 x.2.2 0<=1048576:=by
 obtain⟨D,F⟩:=nO h.low;have hs:aY x.2.2<=4096:=by
  have U:=fB x.2.2;have o:=h.few;have s:=cS x.1 x.2.1 x.2.2;have z:bL x=bL (x.1,x.2.1,x.2.2):=rfl;omega
 unfold p8;split
 . rename_i hv
   have:=D hv;rw[YM]at this;split<;>omega
 exact CN aA _ _ (fun i=>dY h.okt.ok i) 0 0 _ h.okt.vk F aA
section
open Go.Lib renaming hid->aB
theorem JN(m:Nat) (ih:∀(w:aAB)(R:Nat->Prop)(t:iA)(x:TT),(∀b,R b->b<w.heap.size)->fI R w t x->bL x<m->bL x<=1000000000 →
      Calls Tryz.prog 46 #[.agg (fE t x.1)] w (eO ((bL x:Nat):Int) w))
 (w:aAB) (R:Nat->Prop) (t:iA) (x:TT) (hR:∀b,R b->b<w.heap.size) (ht:fI R w t x) (hm:bL x<=m) (G:bL x<=1000000000) :
 Calls Tryz.prog 46 #[.agg (fE t x.1)] w (eO ((bL x:Nat):Int) w):=by
 obtain⟨HI,HR,HT⟩:=aAF ih hR ht;have D:=TR x;have b1:=ht.atoms.len;have b2:=ht.funs.len;have a7:=ht.nk;obtain⟨S,hS⟩:=aAJ (bL x);obtain⟨L,hL⟩:=aAJ (bH x.2.2);rw[<-hS,<-hL,b1,b2]at D;rw[<-hL]at a7;rw[<-hS]at hm G ⊢;obtain⟨HL,d2,a3,a1⟩:=aAE hL hS a7 (aQ w (.cells (fE t x.1) 85));have a2:Hid (aT (w.alloc (.cells (fE t x.1) 85)) w.heap.size 85 (fE t x.1)):=aB (aT.new _ _ _);obtain⟨⟨op,va,vb⟩,d3,k⟩:=x;obtain⟨Ak,nk,ck,Aa,na,ca,Af,nf,cf⟩:=t;simp only at D a3 a2 a1 HL ⊢;have d7:L.length=nk:=a3.o.symm;have b0:∀l:List TT,l.length<=DG l:=by
  intro l
  induction l with
  | nil=>exact XU _
  | cons y r e1 =>
   simp only[YA,DG];have h1:1<=bL y:=(by obtain⟨n,a,k⟩:=y;rw[cS];omega);omega
 have c8:nk<=1000000000:=by have:=b0 L;omega
 have h:∀z:Nat,z<=3000000000->IntKind.i64.wrap (z:Int)=(z:Int):=fun z hz=>by rw[XV];omega
 have c5:IntKind.i64.wrap (1+(na:Int))=((1+na:Nat):Int):=by rw[show (1:Int)+(na:Int)=((1+na:Nat):Int) from by omega];exact h _ aA
 have b4:IntKind.i64.wrap (((1+na:Nat):Int)+(nf:Int))=((1+na+nf:Nat):Int):=by rw[show ((1+na:Nat):Int)+(nf:Int)=((1+na+nf:Nat):Int) from by omega];exact h _ aA
 have c7:1+na+nf<=1000000000:=aA;obtain⟨b8,b7,c0⟩:=aAF D (And.intro hm G) h;clear hm G ih hR ht D b1 b2 a7 hS hL b0 h a3;go_in;go_wp2_with fail;go_loopw [3,4] (fun nv iv wr=>∃(i s:Nat),nv=O X (s:Int)/\iv=O X (i:Int)/\i<=nk/\1<=s/\Hid (s+DG (L.drop i)=S)/\Hid (ZY w wr)/\Hid (aT wr w.heap.size 85 #[O X op,O X va,O X vb,Z Ak nk ck,Z Aa na ca,Z Af nf cf])) (fun _ iv _=>nk-(intOf iv).toNat)
 case atStart=>exact⟨0,1+na+nf,by first|rfl|(rw[b4])|(rw[c5,b4])|go_num,rfl,ZA _,by omega,aB (by rw[List.drop_zero];exact b8.o.symm),a1,a2⟩
 case round =>
  clear a1 a2;obtain⟨i,s,rfl,rfl,hi,d9,hs,F,a5⟩:=hrel;have zc:=aT.cell a5.o;have c6:=zc 3;by_cases a6:i<nk;rotate_left
  . have hd:decide ((i:Int)<(nk:Int))=false:=XQ aA;have d8:decide (i<nk)=false:=XQ a6;have a8:=hs.o;rw[YY aA]at a8;simp only[DG,YF]at a8;subst a8;clear a6;go_wp2_with fail;go_ret;exact⟨rfl,F.o⟩
  have hd:decide ((i:Int)<(nk:Int))=true:=XR aA;have a0:=fI.kid HT.o (j:=i) a6;simp only at a0;obtain⟨b,o,t',hA,c2,hc,b3⟩:=a0;subst hA;have c3:=hc.below F.o (HR.o b c2);have a9:L.drop i=cX k i::L.drop (i+1):=by rw[HL.o];exact IL (by rw[<-HL.o];omega)
  have U:=hs.o;rw[a9]at U;simp only[DG]at U;have c4:=b7.o;have HC:=aB (HI.o wr R t' (cX k i) (fun b' c1=>XT (HR.o b' c1) F.o.size) (b3.below HR.o F.o) aA aA);generalize cX k i=y at *;obtain⟨z,hz⟩:=aAJ (bL y);rw[<-hz]at HC U;have e0:IntKind.i64.wrap ((s:Int)+(z:Int))=((s+z:Nat):Int):=by rw[show (s:Int)+(z:Int)=((s+z:Nat):Int) from by omega];exact c0.o _ aA
  obtain⟨⟨yo,ya,yb⟩,yats,yk⟩:=y;obtain⟨d1,e4,d6,c9,e2,d4,d0,e3,d5⟩:=t';obtain⟨y0,y1,y2,y3,y4,y5⟩:=c3;simp only at y0 y1 y2 y3 y4 y5 HC;have b9:=aB U;clear hc b3 a9 U c4 hz;go_wp2_with fail;refine (HC.o).mono ?_;rintro e w2 ⟨rfl,a4⟩;have b5:=bY F a4;have b6:=aB (a5.o.below a4 a5.o.lt);clear a4 y0 y1 y2 y3 y4 y5 zc c6;go_wp2_with fail;go_roundw
  case rel=>exact⟨i+1,s+z,by first|rfl|go_num,by go_num,by omega,by omega,aB (by have:=b9.o;omega),b5,b6⟩
  case measure=>simp[intOf];omega
theorem AS:∀(m:Nat)(w:aAB)(R:Nat->Prop)(t:iA)(x:TT),(∀b,R b->b<w.heap.size)->fI R w t x->bL x<m->bL x<=1000000000 →
      Calls Tryz.prog 46 #[.agg (fE t x.1)] w (eO ((bL x:Nat):Int) w)
 | 0,_,_,_,_,_,_,h,_=>absurd h (Nat.not_lt_zero _)
 | m+1,w,R,t,x,D,F,U,G=>JN m (AS m) w R t x D F aA G
theorem tE{t:iA}(hR:∀b,R b->b<w.heap.size)(ht:fI R w t x)(h:bL x<=1000000000):Calls Tryz.prog 46 #[.agg (fE t x.1)] w (eO ((bL x:Nat):Int) w) :=
 AS _ w R t x hR ht (YL _) h
end
section
open Go.Lib renaming hid->aB
set_option maxHeartbeats 2000000
set_option maxRecDepth 100000
def qO(a b:Int)(w:aAB)(e:Ending)(w':aAB):Prop:=e=.returned (.tuple #[O X a,O X b])/\ZY w w'
theorem xG{k D:IntKind}{a b c d:Int}(h:a=c)(F:b=d):Ending.returned (.tuple #[.int k a,.int D b])=.returned (.tuple #[.int k c,.int D d]):=by rw[h,F]
theorem JY(m:Nat) (ih:∀(w:aAB)(R:Nat->Prop)(xs:List Value)(n:Nd)(atoms:List Nd)(kids:Fo)(u:Int),(∀b,R b->b<w.heap.size)->cJ R w xs n atoms kids->eW n=true->dI kids->0<=u->u+4*aY kids<=1000000000000->aY kids<m →
      Calls Tryz.prog 123 #[.agg xs.toArray,O X u] w (qO (iI n kids u).1 (iI n kids u).2 w))
 (w:aAB) (R:Nat->Prop) (xs:List Value) (n:Nd) (atoms:List Nd) (kids:Fo) (u:Int) (hR:∀b,R b->b<w.heap.size) (ht:cJ R w xs n atoms kids) (a3:eW n=true) (a4:dI kids) (h6:0<=u) (b8:u+4*aY kids<=1000000000000) (c6:aY kids<=m) :
 Calls Tryz.prog 123 #[.agg xs.toArray,O X u] w (qO (iI n kids u).1 (iI n kids u).2 w):=by
 have HI:=aB ih;clear ih;obtain⟨sk,sa,sf,rfl,⟨Ak,nk,ck,rfl,b6⟩,⟨Aa,na,ca,rfl,g8⟩,⟨Af,nf,cf,rfl,h0⟩⟩:=ht;have e3:=(fZ ((by simp only[eW,YC]at a3;exact a3.1.1):cD n.op n.a n.b=true));by_cases D:n.op=1
 . have d9:(n.op==1)=true:=by simp[D]
   have H1:=aB D;clear D b8;obtain⟨e7,e8⟩:=e3;go_in;by_cases hc:n.a=u
   . have e1:(n.a==u)=true:=by simp[hc]
     have HC:=aB hc;clear hc;go_wp2_with fail;go_ret2;refine⟨xG ?_ ?_,aQ _ _⟩<;>simp only[iI,XP H1.o,XP HC.o]
   have e1:(n.a==u)=false:=by simp[hc]
   go_wp2_with fail;go_ret2;refine⟨xG ?_ ?_,aQ _ _⟩<;>simp only[iI,XP H1.o,XN hc]
 have d9:(n.op==1)=false:=by simp[D]
 obtain⟨H1,HU,d7,b9,b1⟩:=aAD D b8 c6 b6.len a3;have h4:nk<=1000000000000000:=by
  have D:=eP kids;have h2:=b6.len;omega
 clear D b8 c6 a3;go_in;go_wp2_with fail;go_loopw [6,7,8] (fun c v i wr=>∃(F1 F2:Fo)(j:Nat)(s t:Int),kids=F1.app F2/\bE F1=j/\c=O X s/\v=O X t/\i=O X (j:Int)/\0<=t/\t<=4*aY kids/\0<=s/\s<=aY F1/\s+(vF n.op n.b j u F2).1=(vF n.op n.b 0 u kids).1/\max t (vF n.op n.b j u F2).2=(vF n.op n.b 0 u kids).2/\ZY w wr ∧
  aT wr w.heap.size 85 #[O X n.op,O X n.a,O X n.b,Z Ak nk ck,Z Aa na ca,Z Af nf cf]) (fun _ _ i _=>nk-(intOf i).toNat)
 case atStart =>
  have hb:=JV b1.o 0 u kids a4;exact⟨.nil,kids,0,0,0,rfl,rfl,rfl,rfl,rfl,YI _,by omega,YI _,YI _,by omega,by omega,aQ _ _,aT.new _ _ _⟩
 case round =>
  obtain⟨F1,F2,j,s,t,hk,hj,rfl,rfl,rfl,e5,c7,h5,c5,he,c2,U,G⟩:=hrel;obtain⟨HK,HJ,HE,b0,b2,b3⟩:=aAH hk hj he c2 c5 c7;have a7:=b6.keep (R':=R) (w':=wr) (fun b hb=>⟨hb,fun o=>U.cell (p:=⟨b,o,Y⟩) (hR b hb)⟩);have zc:=aT.cell G;have f2:w.heap.size+1<=wr.heap.size:=aT.lt G;clear he c2 c5 c7;cases F2 with
  | nil =>
   have c3:j=nk:=by rw[<-b9.o,hk,bN,hj];rfl
   have e6:¬ j<nk:=aA;clear hk hj c3;go_wp2_with fail;go_ret2;refine⟨xG ?_ ?_,U⟩
   . have D:=HE.o;simp only[iI,XN H1.o,<-D,vF];omega
   . have D:=b0.o;simp only[iI,XN H1.o,<-D,vF];omega
  | cons pre nd z h F2 =>
   have c3:j<nk:=by rw[<-b9.o,hk,bN,hj];simp[bE]
   have a6:eX R wr Ak nk ck (F1.app (.cons pre nd z h F2)):=by rw[<-hk];exact a7
   obtain⟨b,off,d1,c9,d0,rfl,e4,b7,g0,g1,g2,g3,g4,g5⟩:=a6.at_;rw[hj]at g0 g1 g2 g3 g4 g5;obtain⟨_,a8,a0,b4⟩:=(dI.app F1 _).1 (hk ▸ a4);have g9:b<w.heap.size:=hR b e4;clear hk hj a6 a7;have hB:w.heap.size<wr.heap.size:=aT.lt G;obtain⟨g6,g7⟩:=dY b1.o (j:Int);have a9:aY kids=aY F1+(aY h+aY F2+1):=by rw[HK.o,dQ];rfl
   have e2:u+4*(aY F1+(aY h+aY F2+1))<=1000000000000:=by
    have:=HU.o;omega
   have a5:aY h<m:=by
    have:=d7.o;omega
   have hq:=LN a8 (u+aR n.op n.b (j:Int)) h a0;have hr:=JV b1.o (j+1) u F2 b4;obtain⟨q1,q2,q3,q4⟩:=hq;obtain⟨r1,r2,r3,r4⟩:=hr;have c0:0<=u+aR n.op n.b (j:Int):=aA;have c1:u+aR n.op n.b (j:Int)+4*aY h<=1000000000000:=aA;obtain⟨d2,d3,d4,d6⟩:=aAE c0 c1 a5 a9;have h7:u<=1000000000000:=aA;have f1:s<=1000000000000:=by have:=b2.o;omega
   have f3:t<=1000000000000:=by have:=b3.o;omega
   have e9:(iI nd h (u+aR n.op n.b (j:Int))).1<=1000000000000:=aA;have f0:(iI nd h (u+aR n.op n.b (j:Int))).2<=1000000000000:=aA;obtain⟨Q2,Q4⟩:=aAC q2 q4;clear c0 c1 e2 a5 a9 q2 q4 r1 r2 r3 r4;have F:b<wr.heap.size:=aA;have f4:=fun o=>(World.cell?_alloc_lt wr o ⟨b,off+j*6,Y⟩ F).trans g0;have f5:=fun o=>(World.cell?_alloc_lt wr o ⟨b,off+j*6+1,Y⟩ F).trans g1;have f6:=fun o=>(World.cell?_alloc_lt wr o ⟨b,off+j*6+2,Y⟩ F).trans g2;have f7:=fun o=>(World.cell?_alloc_lt wr o ⟨b,off+j*6+3,Y⟩ F).trans g3;have f8:=fun o=>(World.cell?_alloc_lt wr o ⟨b,off+j*6+4,Y⟩ F).trans g4;have f9:=fun o=>(World.cell?_alloc_lt wr o ⟨b,off+j*6+5,Y⟩ F).trans g5;have h8:=fun o=>aT.cell (G.alloc o);have c8:∀W:World,ZY wr W->cJ R W [O X nd.op,O X nd.a,O X nd.b,d1,c9,d0] nd z h:=fun W hW =>
    b7.keep fun b' a2=>⟨a2,fun o=>hW.cell (p:=⟨b',o,Y⟩) (XT (hR b' a2) U.size)⟩
   have c4:∀W:World,ZY wr W->∀b',R b'->b'<W.heap.size:=fun W hW b' a2=>XT (hR b' a2) (YE U.size hW.size);have d8:=aB c8;have d5:=aB c4;clear c8 c4;go_wp2_with (go_at_call 125;refine (kK _ _ _ _ _ aA).mono ?_;rintro e w2 ⟨rfl,rfl⟩)
   refine (HI.o _ R [O X nd.op,O X nd.a,O X nd.b,d1,c9,d0] nd z h _ (d5.o _ ((XS _ _).alloc (XU _) _)) (d8.o _ ((XS _ _).alloc (XU _) _)) a8 a0 d2.o d3.o d4.o).mono ?_;rintro e w3 ⟨rfl,e0⟩;have b5:ZY wr w3:=mO ((XS _ _).alloc (XU _) _) e0 (XU _);have a1:=G.below b5 hB;by_cases hm:0<(iI nd h (u+aR n.op n.b (j:Int))).1
   . go_wp2_with fail;all_goals
      go_roundw
      case rel =>
       refine⟨F1.app (.cons pre nd z h .nil),F2,j+1,_,_,by rw[HK.o,cV];rfl,by rw[bN];simp[bE,HJ.o],rfl,rfl,by go_num,?_,?_,?_,?_,?_,?_,U.trans (b5.mono U.size),a1⟩
       . omega
       . have D:=b3.o;have h2:=d6.o;have h3:=Q4.o;omega
       . omega
       . have D:=b2.o;have h3:=Q2.o;rw[dQ];simp only[aY];omega
       . have D:=HE.o;rw[mI]at D;simp only at D;omega
       have D:=b0.o;rw[mI]at D;simp only[XP hm]at D;omega
      case measure=>simp[intOf];omega
   . go_wp2_with fail;go_roundw
     case rel =>
      refine⟨F1.app (.cons pre nd z h .nil),F2,j+1,_,_,by rw[HK.o,cV];rfl,by rw[bN];simp[bE,HJ.o],rfl,rfl,by go_num,e5,b3.o,?_,?_,?_,?_,U.trans (b5.mono U.size),a1⟩
      . omega
      . have D:=b2.o;have h3:=Q2.o;rw[dQ];simp only[aY];omega
      . have D:=HE.o;rw[mI]at D;simp only at D;omega
      have D:=b0.o;rw[mI]at D;rw[XN aA]at D;exact D
     case measure=>simp[intOf];omega
theorem BD:∀(m:Nat)(w:aAB)(R:Nat->Prop)(xs:List Value)(n:Nd)(atoms:List Nd)(kids:Fo)(u:Int),(∀b,R b->b<w.heap.size)->cJ R w xs n atoms kids->eW n=true->dI kids->0<=u->u+4*aY kids<=1000000000000->aY kids<m →
      Calls Tryz.prog 123 #[.agg xs.toArray,O X u] w (qO (iI n kids u).1 (iI n kids u).2 w)
 | 0,_,_,_,_,_,_,_,_,_,_,_,_,_,h=>absurd h aA
 | m+1,w,R,xs,n,atoms,kids,u,D,F,G,U,o,s,z=>JY m (BD m) w R xs n atoms kids u D F G U o s aA
theorem N7{atoms:List Nd}{kids:Fo}{u:Int}(hR:∀b,R b->b<w.heap.size)(ht:cJ R w xs n atoms kids)(F:eW n=true)(D:dI kids)(G:0<=u)(U:u+4*aY kids<=1000000000000):
 Calls Tryz.prog 123 #[.agg xs.toArray,O X u] w (qO (iI n kids u).1 (iI n kids u).2 w) :=
 BD (aY kids+1) w R xs n atoms kids u hR ht F D G U (YL _)
end
section
open Go.Lib renaming hid->aB
theorem CO(m:Nat) (ih:∀(w:aAB)(R:Nat->Prop)(xs:List Value)(n:Nd)(atoms:List Nd)(kids:Fo)(up u:Int),(∀b,R b->b<w.heap.size)->cJ R w xs n atoms kids->eW n=true->dI kids->0<=up->up<=1000000000000->0<=u->u+4*aY kids<=1000000000000->aY kids<m →
      Calls Tryz.prog 82 #[.agg xs.toArray,O X up,O X u] w (eO (p8 up n kids u) w))
 (w:aAB) (R:Nat->Prop) (xs:List Value) (n:Nd) (atoms:List Nd) (kids:Fo) (up u:Int) (hR:∀b,R b->b<w.heap.size) (ht:cJ R w xs n atoms kids) (a0:eW n=true) (b4:dI kids) (c2:0<=up) (c3:up<=1000000000000) (e6:0<=u) (b2:u+4*aY kids<=1000000000000) (c0:aY kids<=m) :
 Calls Tryz.prog 82 #[.agg xs.toArray,O X up,O X u] w (eO (p8 up n kids u) w):=by
 have HI:=aB ih;clear ih;obtain⟨sk,sa,sf,rfl,⟨Ak,nk,ck,rfl,b0⟩,⟨Aa,na,ca,rfl,e3⟩,⟨Af,nf,cf,rfl,e4⟩⟩:=ht;have d6:=(fZ ((by simp only[eW,YC]at a0;exact a0.1.1):cD n.op n.a n.b=true));by_cases U:n.op=1
 . have d1:(n.op==1)=true:=by simp[U]
   have H1:=aB U;clear U b2;obtain⟨d9,e0⟩:=d6;go_in;by_cases d5:u<=n.a
   . go_wp2_with fail;go_ret;refine⟨cW ?_,aQ _ _⟩;simp only[p8,XP H1.o,XP d5]
   go_wp2_with fail;go_ret;refine⟨cW ?_,aQ _ _⟩;simp only[p8,XP H1.o,XN (by omega:¬ u<=n.a)]
 have d1:(n.op==1)=false:=by simp[U]
 obtain⟨H1,HU,c9,b3,c7⟩:=aAD U b2 c0 b0.len a0;have e5:nk<=1000000000000000:=by
  have U:=eP kids;have h2:=b0.len;omega
 clear U b2 c0 a0;go_in;go_wp2_with fail;go_loopw [7,8] (fun v i wr=>∃(F1 F2:Fo)(j:Nat)(t:Int),kids=F1.app F2/\bE F1=j/\v=O X t/\i=O X (j:Int)/\-1<=t/\max t (PN n.op n.b up j u F2)=PN n.op n.b up 0 u kids/\ZY w wr ∧
  aT wr w.heap.size 85 #[O X n.op,O X n.a,O X n.b,Z Ak nk ck,Z Aa na ca,Z Af nf cf]) (fun _ i _=>nk-(intOf i).toNat)
 case atStart=>exact⟨.nil,kids,0,-1,rfl,rfl,rfl,rfl,YI _,KS _ _ _ _ _ _,aQ _ _,aT.new _ _ _⟩
 case round =>
  obtain⟨F1,F2,j,t,hk,hj,rfl,rfl,ht,he,F,D⟩:=hrel;obtain⟨HK,HJ,HE,HT⟩:=aAE hk hj he ht;have a6:=b0.keep (R':=R) (w':=wr) (fun b hb=>⟨hb,fun o=>F.cell (p:=⟨b,o,Y⟩) (hR b hb)⟩);have zc:=aT.cell D;clear he ht;cases F2 with
  | nil =>
   have b7:j=nk:=by rw[<-b3.o,hk,bN,hj];rfl
   have d8:¬ j<nk:=aA;clear hk hj b7;go_wp2_with fail;go_ret;refine⟨cW ?_,F⟩;have U:=HE.o;have h2:=HT.o;simp only[p8,XN H1.o,<-U,PN];omega
  | cons pre nd h ks F2 =>
   have b7:j<nk:=by rw[<-b3.o,hk,bN,hj];simp[bE]
   have a5:eX R wr Ak nk ck (F1.app (.cons pre nd h ks F2)):=by rw[<-hk];exact a6
   obtain⟨b,off,a3,a1,a2,rfl,d7,b1,g0,g1,g2,g3,g4,g5⟩:=a5.at_;rw[hj]at g0 g1 g2 g3 g4 g5;obtain⟨_,b8,a8,_⟩:=(dI.app F1 _).1 (hk ▸ b4);have d3:b<w.heap.size:=hR b d7;clear hk hj a5 a6;have hB:w.heap.size<wr.heap.size:=aT.lt D;obtain⟨e1,e2⟩:=dY c7.o (j:Int);have d4:u+4*(aY F1+(aY ks+aY F2+1))<=1000000000000:=by
    have:=HU.o;rw[HK.o,dQ]at this;simp only[aY]at this;omega
   have a4:aY ks<m:=by
    have:=c9.o;rw[HK.o,dQ]at this;simp only[aY]at this;omega
   have hw:IntKind.i64.wrap (u+aR n.op n.b (j:Int))=u+aR n.op n.b (j:Int):=IntWalk.i64_in _ aA;have b5:0<=u+aR n.op n.b (j:Int):=aA;have b6:u+aR n.op n.b (j:Int)+4*aY ks<=1000000000000:=aA;obtain⟨c4,c5,c6⟩:=aAF b5 b6 a4;have c1:∀W:World,ZY wr W->cJ R W [O X nd.op,O X nd.a,O X nd.b,a3,a1,a2] nd h ks:=fun W hW =>
    b1.keep fun b' s=>⟨s,fun o=>hW.cell (p:=⟨b',o,Y⟩) (XT (hR b' s) F.size)⟩
   have b9:∀W:World,ZY wr W->∀b',R b'->b'<W.heap.size:=fun W hW b' s=>XT (hR b' s) (YE F.size hW.size);have G:∀W:World,ZY wr W->(W.cell? ⟨w.heap.size,0,Y⟩=I (O X n.op)/\W.cell? ⟨w.heap.size,1,Y⟩=I (O X n.a)/\W.cell? ⟨w.heap.size,2,Y⟩=I (O X n.b)/\W.cell? ⟨w.heap.size,3,Y⟩=I (Z (I ⟨b,off,Y⟩) nk ck) ∧
    W.cell? ⟨b,off+j*6,Y⟩=I (O X nd.op)/\W.cell? ⟨b,off+j*6+1,Y⟩=I (O X nd.a)/\W.cell? ⟨b,off+j*6+2,Y⟩=I (O X nd.b)/\W.cell? ⟨b,off+j*6+3,Y⟩=I a3/\W.cell? ⟨b,off+j*6+4,Y⟩=I a1/\W.cell? ⟨b,off+j*6+5,Y⟩=I a2):=fun W hW=>by
    have hB:∀o,W.cell? ⟨w.heap.size,o,Y⟩=wr.cell? ⟨w.heap.size,o,Y⟩:=fun o=>hW.cell (p:=⟨w.heap.size,o,Y⟩) hB;have hC:∀o,W.cell? ⟨b,o,Y⟩=wr.cell? ⟨b,o,Y⟩:=fun o=>hW.cell (p:=⟨b,o,Y⟩) (XT d3 F.size);rw[hB,hB,hB,hB,hC,hC,hC,hC,hC,hC];exact⟨D.cell 0,D.cell 1,D.cell 2,D.cell 3,g0,g1,g2,g3,g4,g5⟩
   have z:=G wr (XS _ _);obtain⟨d0,c8,a7⟩:=aAF c1 b9 G;clear b5 b6 d4 a4 c1 b9 G zc g0 g1 g2 g3 g4 g5;by_cases hm:t<p8 up nd ks (u+aR n.op n.b (j:Int));all_goals
    obtain⟨g0,g1,g2,g3,g4,g5,g6,g7,g8,g9⟩:=z;go_wp2_with fail;go_region_held3 (fun w'=>w'.cell? ⟨w.heap.size,0,Y⟩=I (O X n.op)/\w'.cell? ⟨w.heap.size,1,Y⟩=I (O X n.a)/\w'.cell? ⟨w.heap.size,2,Y⟩=I (O X n.b)/\w'.cell? ⟨w.heap.size,3,Y⟩=I (Z (I ⟨b,off,Y⟩) nk ck) ∧
     w'.cell? ⟨b,off+j*6,Y⟩=I (O X nd.op)/\w'.cell? ⟨b,off+j*6+1,Y⟩=I (O X nd.a)/\w'.cell? ⟨b,off+j*6+2,Y⟩=I (O X nd.b)/\w'.cell? ⟨b,off+j*6+3,Y⟩=I a3/\w'.cell? ⟨b,off+j*6+4,Y⟩=I a1/\w'.cell? ⟨b,off+j*6+5,Y⟩=I a2) (first|go_keep|exact a7.o _ a9)
     (first
      | (go_at_call 125;refine (kK _ _ _ _ _ aA).mono ?_;rintro e w2 ⟨rfl,rfl⟩)
      | (go_at_call 82;refine (HI.o _ R [O X nd.op,O X nd.a,O X nd.b,a3,a1,a2] nd h ks up _ (c8.o _ (((XS _ _).alloc (XU _) _).drew)) (d0.o _ (((XS _ _).alloc (XU _) _).drew)) b8 a8 c2 c3 c4.o c5.o c6.o).mono ?_;rintro e w3 ⟨rfl,d2⟩;have a9:ZY wr w3:=mO (((XS _ _).alloc (XU _) _).drew) d2 (XU _)))
    go_wp2_with fail;go_roundw
    case rel =>
     refine⟨F1.app (.cons pre nd h ks .nil),F2,j+1,_,by rw[HK.o,cV];rfl,by rw[bN];simp[bE,HJ.o],rfl,by go_num,?_,?_,F.trans (a9.mono F.size),D.below a9 hB⟩
     . have:=HT.o;omega
     have U:=HE.o;rw[vZ]at U;rw[<-U];omega
    case measure=>simp[intOf];omega
theorem tT:∀(m:Nat)(w:aAB)(R:Nat->Prop)(xs:List Value)(n:Nd)(atoms:List Nd)(kids:Fo)(up u:Int),(∀b,R b->b<w.heap.size)->cJ R w xs n atoms kids->eW n=true->dI kids->0<=up->up<=1000000000000->0<=u->u+4*aY kids<=1000000000000->aY kids<m →
      Calls Tryz.prog 82 #[.agg xs.toArray,O X up,O X u] w (eO (p8 up n kids u) w)
 | 0,_,_,_,_,_,_,_,_,_,_,_,_,_,_,_,_,h=>absurd h aA
 | m+1,w,R,xs,n,atoms,kids,up,u,D,F,G,U,o,s,z,h8,h9=>CO m (tT m) w R xs n atoms kids up u D F G U o s z h8 aA
theorem nU{atoms:List Nd}{kids:Fo}{up u:Int}(hR:∀b,R b->b<w.heap.size)(ht:cJ R w xs n atoms kids)(U:eW n=true)(D:dI kids)(F:0<=up)(G:up<=1000000000000)(h:0<=u)(o:u+4*aY kids<=1000000000000):
 Calls Tryz.prog 82 #[.agg xs.toArray,O X up,O X u] w (eO (p8 up n kids u) w) :=
 tT (aY kids+1) w R xs n atoms kids up u hR ht U D F G h o (YL _)
end
end Go.Proofs.YtjoddliplahgkaaGreat
