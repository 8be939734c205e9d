/- Merged: GoB, Fold2, RvP, RvS. -/
import Derived.Test.YtjoddliplahgkaaGreatPGoA
namespace Go.Proofs.YtjoddliplahgkaaGreat
set_option linter.unusedVariables false
set_option linter.unusedSimpArgs false
open Go.RowKit
open Go.Value renaming int → O, slice → Y
open Go.IntKind renaming i64 → X
open Option renaming none → Z, some → I
section
open Go.Lib renaming hid->aB
theorem wR {R:Nat->Prop} {w:World} {b:Nat} : ∀(L:List TT) (off:Nat),sD R w (gH L) b off->∃vs:List Value,vs.length=L.length*6/\(∀j u,vs[j]? = I u->w.cell? ⟨b,off+j,Z⟩=I u)/\kP R w (gH L) vs
 | [],off,_=>⟨[],rfl,fun j u h=>by simp at h,rfl⟩
 | y::r,off,h=>by
  obtain⟨⟨h0,h1,h2⟩,⟨A',c',h3,a3,a2⟩,⟨v,h4,⟨Av,nv,cv,rfl,a1⟩⟩,⟨u,h5,⟨Au,nu,cu,rfl,a0⟩⟩,h6⟩:=h;obtain⟨vs,e1,e2,e3⟩:=wR r (off+6) h6;refine⟨[O X y.1.op,O X y.1.a,O X y.1.b,Y A' (bF y.2.2) c',Y Av nv cv,Y Au nu cu]++vs,by simp only[List.length_append,List.length_cons,List.length_nil];omega,fun j z hz => ?_,⟨_,_,rfl,⟨_,_,_,rfl,⟨A',_,c',rfl,⟨rfl,a3,a2⟩⟩,⟨_,_,_,rfl,a1⟩,⟨_,_,_,rfl,a0⟩⟩,e3⟩⟩
  match j,hz with
  | 0,hz=>simp at hz;subst hz;exact h0
  | 1,hz=>simp at hz;subst hz;exact h1
  | 2,hz=>simp at hz;subst hz;exact h2
  | 3,hz=>simp at hz;subst hz;exact h3
  | 4,hz=>simp at hz;subst hz;exact h4
  | 5,hz=>simp at hz;subst hz;exact h5
  | j+6,hz =>
   have:=e2 j z (by simpa using hz);rw[show off+(j+6)=off+6+j from by omega];exact this
theorem EY {R:Nat->Prop} {w:World} {A:Option Addr} {n c:Nat} {L:List TT} (h:dM R w A n c (gH L)) : ∃vs:List Value,vs.length=n*6/\(∀ad,A=I ad->∀j u,vs[j]? = I u->w.cell? (ad.add j)=I u)/\kP R w (gH L) vs/\(A=Z->n=0)/\(0<n->∃b off,A=I ⟨b,off,Z⟩/\R b):=by
 have hl:L.length=n:=by rw[<-gR];exact h.len
 rcases Nat.eq_zero_or_pos n with h0 | h0
 · have:L=[]:=List.eq_nil_of_length_eq_zero aA;subst this;exact⟨[],by simp[h0],fun ad e j u hu=>by simp at hu,rfl,fun _=>h0,fun h=>absurd h aA⟩
 obtain⟨b,off,e,hr,hf⟩:=h.mem h0;obtain⟨vs,e1,e2,e3⟩:=wR L off hf;refine⟨vs,by rw[e1,hl],fun ad ea j u hu => ?_,e3,fun en=>(by rw[e] at en;cases en),fun _=>⟨b,off,e,hr⟩⟩;rw[e] at ea;injection ea with ea;subst ea;have e9:(⟨b,off,Z⟩:Addr).add j=⟨b,off+j,Z⟩:=by unfold Addr.add;split<;>simp_all
 rw[e9];exact e2 j u hu
theorem lC {w:World} {base g n c sz:Nat} {e:TypeId} {xs:List Value} (h:w.ownsRow base e sz (Y (I ⟨g,0,Z⟩) n c) n xs) (i:Nat) (u:Value):(w.setCell ⟨g,i,Z⟩ u).ownsRow base e sz (Y (I ⟨g,0,Z⟩) n c) n (xs.set i u):=by
 obtain⟨hl,hc⟩:=h;refine⟨by simpa using hl,.inr ?_⟩;rcases hc with⟨h1,_⟩ | ⟨g',cap,cur,hv,hg,hh,h1,h2,h3,h4⟩
 · cases h1
 injection hv with e1 e2 e3;injection e1 with e1;injection e1 with e1;subst e1 e3;refine⟨g,c,cur.setIfInBounds i u,rfl,hg,?_,h1,h2,by simpa using h3,?_⟩
 · have hb:aS w g e cur:=hh;exact hb.set_ i u
 rw[Array.toList_setIfInBounds,List.take_set,h4]
def NH (vs:List Value) (i:Nat) (u0 u1 u2 u3 u4 u5:Value):List Value:=(((((vs.set (i*6) u0).set (i*6+1) u1).set (i*6+2) u2).set (i*6+3) u3).set (i*6+4) u4).set (i*6+5) u5
theorem J8 (a0 a1 a2 a3 a4 a5:Value) (vs:List Value) (i:Nat) (u0 u1 u2 u3 u4 u5:Value):NH (a0::a1::a2::a3::a4::a5::vs) (i+1) u0 u1 u2 u3 u4 u5=a0::a1::a2::a3::a4::a5::NH vs i u0 u1 u2 u3 u4 u5:=by
 unfold NH;rw[show (i+1)*6=i*6+6 from by omega];rfl
theorem GO {R:Nat->Prop} {w:World} {x:TT} {t:iE} (hx:dX R w t x) : ∀(L:List TT) (vs:List Value) (i:Nat),i<L.length->kP R w (gH L) vs->kP R w (gH (L.set i x)) (NH vs i (O X x.1.op) (O X x.1.a) (O X x.1.b) (Y t.Ak t.nk t.ck) (Y t.Aa t.na t.ca) (Y t.Af t.nf t.cf))
 | [],_,_,h,_=>absurd h aD
 | y::r,vs,0,_,h=>by
  obtain⟨ys,zs,rfl,⟨sk,sa,sf,rfl,_,_,_⟩,h2⟩:=h;exact⟨[O X x.1.op,O X x.1.a,O X x.1.b,Y t.Ak t.nk t.ck,Y t.Aa t.na t.ca,Y t.Af t.nf t.cf],zs,rfl,hx,h2⟩
 | y::r,vs,i+1,hi,h=>by
  obtain⟨ys,zs,rfl,h1,h2⟩:=h;obtain⟨sk,sa,sf,rfl,_⟩:=id h1;have h3:=GO hx r zs i (by simpa using hi) h2;exact⟨[O X y.1.op,O X y.1.a,O X y.1.b,sk,sa,sf],_,J8 _ _ _ _ _ _ _ _ _ _ _ _ _ _,h1,h3⟩
theorem MT {w:World} {base g n c:Nat} {e:TypeId} {xs:List Value} (h:w.ownsRow base e 6 (Y (I ⟨g,0,Z⟩) n c) n xs) (i:Nat) (u0 u1 u2 u3 u4 u5:Value):((((((w.setCell ⟨g,i*6,Z⟩ u0).setCell ⟨g,i*6+1,Z⟩ u1).setCell ⟨g,i*6+2,Z⟩ u2).setCell ⟨g,i*6+3,Z⟩ u3).setCell ⟨g,i*6+4,Z⟩ u4).setCell ⟨g,i*6+5,Z⟩ u5).ownsRow base e 6 (Y (I ⟨g,0,Z⟩) n c) n (NH xs i u0 u1 u2 u3 u4 u5) :=
 lC (lC (lC (lC (lC (lC h _ u0) _ u1) _ u2) _ u3) _ u4) _ u5
theorem ER (w:World) (g i:Nat) (x0 x1 x2 x3 x4 x5:Value):w.grownBy ((((((w.setCell ⟨g,i*6,Z⟩ x0).setCell ⟨g,i*6+1,Z⟩ x1).setCell ⟨g,i*6+2,Z⟩ x2).setCell ⟨g,i*6+3,Z⟩ x3).setCell ⟨g,i*6+4,Z⟩ x4).setCell ⟨g,i*6+5,Z⟩ x5) (I g):=by
 have h1:∀(w:World) (j:Nat) (u:Value),w.grownBy (w.setCell ⟨g,j,Z⟩ u) (I g):=fun w j u=>⟨rfl,rfl,rfl,by simp,fun k _ hk=>Below.heap_setCell w ⟨g,j,Z⟩ u k (by show k ≠ g;intro e;exact hk (by rw[e]))⟩;have h2:∀{a b c:World},a.grownBy b (I g)->b.grownBy c (I g)->a.grownBy c (I g):=fun h h'=>⟨h'.os.trans h.os,h'.tape.trans h.tape,h'.output.trans h.output,Nat.le_trans h.size h'.size,fun k hk hr=>(h'.block k (Nat.lt_of_lt_of_le hk h.size) hr).trans (h.block k hk hr)⟩;exact h2 (h2 (h2 (h2 (h2 (h1 _ _ _) (h1 _ _ _)) (h1 _ _ _)) (h1 _ _ _)) (h1 _ _ _)) (h1 _ _ _)
theorem MU {w:World} {base n c:Nat} {A:Option Addr} {e:TypeId} {xs:List Value} (h:w.ownsRow base e 6 (Y A n c) n xs) (hn:0<n) : ∃g cur,A=I ⟨g,0,Z⟩/\base<=g/\aS w g e cur/\n*6<=cur.size:=by
 obtain⟨hl,hc⟩:=h;rcases hc with⟨h1,h2⟩ | ⟨g',cap,cur,hv,hg,hh,h1,h2,h3,h4⟩
 · omega
 injection hv with e1 e2 e3;subst e1 e3;exact⟨g',cur,rfl,hg,hh,by rw[h3];exact Nat.mul_le_mul_right _ h1⟩
def R0 (R:Nat->Prop) (w:World) (L:List TT) (e:Ending) (w':World):Prop:=Below w.heap.size w w'/\∃A c,e=.returned (Y A L.length c)/\dM (bB R w w') w' A L.length c (gH L)
set_option maxRecDepth 100000 in
set_option maxHeartbeats 4000000 in
theorem xS {w:World} {R:Nat->Prop} {t:iE} {x:TT} {B:Option Addr} {m d i:Nat} {L:List TT} (hR:∀b,R b->b<w.heap.size) (ht:dX R w t x) (hk:dM R w B m d (gH L)) (hn:B=Z->d=0) (hm:m<=1000000) (hi:i<m) :
 Calls Tryz.prog 84 #[Y B m d,O X (i:Int),.agg (bH t x.1)] w (R0 R w (L.set i x)):=by
 have c5:m=L.length:=by rw[<-hk.len,gR]
 obtain⟨vs,b5,b6,a4,b4,b7⟩:=EY hk;obtain⟨i0,c6,b3,b2,b1⟩:=info_parts Tryz.infoT;have f7:=aB c6;have e4:=aB b3;have e0:=aB b2;have d9:=aB b1;have e8:Hid (B=Z->m=0/\d=0):=aB fun e=>⟨b4 e,hn e⟩;have e5:=aB (y9 (gH L) vs a4);have e6:=aB b5;obtain⟨b,off,rfl,d1⟩:=b7 aA;have d0:=hR _ d1;have e7:Hid (∀W,Below w.heap.size w W->∀ad,I (⟨b,off,Z⟩:Addr)=I ad->∀j u,vs[j]? = I u->W.cell? (ad.add j)=I u):=aB (by
  intro W hb ad e j u hu;have h0:=b6 ad e j u hu;injection e with e;subst e;have e9:(⟨b,off,Z⟩:Addr).add j=⟨b,off+j,Z⟩:=by unfold Addr.add;split<;>simp_all
  rw[e9] at h0 ⊢;exact (hb.cell (p:=⟨b,off+j,Z⟩) d0).trans h0)
 have f8:=aB (fun (W:World) (hb:Below w.heap.size w W)=>GO (ht.below hR hb) L vs i aA (kP.keep (R':=R) (w':=W) (fun q hq=>⟨hq,fun o=>hb.cell (p:=⟨q,o,Z⟩) (hR q hq)⟩) _ _ a4));have a8:Hid ((L.set i x).length=m):=aB (by rw[List.length_set];exact c5.symm);generalize L.set i x=L2 at *;clear hR ht hk hn c5 b6 a4 b4 b7 c6 b3 b2 b1 d1 d0 b5;obtain⟨⟨xo,xa,xb⟩,xat,xk⟩:=x;obtain⟨Ak,nk,ck,Aa,na,ca,Af,nf,cf⟩:=t;obtain⟨w1,a3⟩ : ∃w1:World,w1=w.alloc (.cells #[O X xo,O X xa,O X xb,Y Ak nk ck,Y Aa na ca,Y Af nf cf] 85):=⟨_,rfl⟩;have a6:Below w.heap.size w w1:=by rw[a3];exact aP _ _
 have a5:aS w1 w.heap.size 85 #[O X xo,O X xa,O X xb,Y Ak nk ck,Y Aa na ca,Y Af nf cf]:=by rw[a3];exact aS.new _ _ _
 have d3:=aB (a6.alloc a6.size (.cells #[] 85));have f6:=aB (a5.alloc (.cells #[] 85));have a7:Hid ((w1.alloc (.cells #[] 85)).ownsRow w1.heap.size 85 6 (Y (I ⟨w1.heap.size,0,Z⟩) 0 0) 0 []):=aB (World.ownsRow_made w1 #[] 0 (Nat.le_refl _) (Nat.zero_le _) rfl);have a2:Hid (w.heap.size<w1.heap.size):=aB a5.lt;have d2:Hid ((w1.alloc (.cells #[] 85)).heap.size=w1.heap.size+1):=aB aD;clear a6 a5;show Calls Tryz.prog 84 #[Y (I ⟨b,off,Z⟩) m d,O X (i:Int),.agg #[O X xo,O X xa,O X xb,Y Ak nk ck,Y Aa na ca,Y Af nf cf]] w _;go_in;go_upto_region 1 with fail
 rw[<-a3];clear a3;go_wp2_with (at_builtin;refine bL rfl (eE (.tmp 8) (.tmp 9) 83 rfl w1.heap.size 85 i0 _ 6 96 Tryz.underlying83 f7.o e4.o e0.o d9.o rfl aE (Y (I ⟨w1.heap.size,0,Z⟩) 0 0) 0 [] aF a7.o (I ⟨b,off,Z⟩) m d vs aF e6.o e8.o (e7.o _ d3.o) e5.o aJ aA (by rw[d2.o];omega) ?_);intro A3 c3 w3 a1;rw[Nat.zero_add,List.nil_append] at a1;obtain⟨g3,cur,rfl,g1,a0,d8⟩:=MU a1.own aA;have b0:=aB (d3.o.grown a1.grown (Nat.le_of_lt (Nat.lt_of_lt_of_le a2.o (by rw[d2.o];omega))) (fun q hq=>by have:=(aU a7.o hq).1;have:=a2.o;omega));have d4:=aS.cell (f6.o.grown a1.grown (eY a7.o a2.o));obtain⟨u0,c4⟩ : ∃u,cur[i*6]? = I u:=⟨_,Array.getElem?_eq_getElem aA⟩;have n0:w3.cell? ⟨g3,i*6,Z⟩=I u0:=(a0.cell (i*6)).trans c4;have f0:=a0.frozen (i*6);clear c4;obtain⟨u1,c2⟩ : ∃u,cur[i*6+1]? = I u:=⟨_,Array.getElem?_eq_getElem aA⟩;have n1:w3.cell? ⟨g3,i*6+1,Z⟩=I u1:=(a0.cell (i*6+1)).trans c2;have f1:=a0.frozen (i*6+1);clear c2;obtain⟨u2,c1⟩ : ∃u,cur[i*6+2]? = I u:=⟨_,Array.getElem?_eq_getElem aA⟩;have n2:w3.cell? ⟨g3,i*6+2,Z⟩=I u2:=(a0.cell (i*6+2)).trans c1;have f2:=a0.frozen (i*6+2);clear c1;obtain⟨u3,c0⟩ : ∃u,cur[i*6+3]? = I u:=⟨_,Array.getElem?_eq_getElem aA⟩;have n3:w3.cell? ⟨g3,i*6+3,Z⟩=I u3:=(a0.cell (i*6+3)).trans c0;have f3:=a0.frozen (i*6+3);clear c0;obtain⟨u4,b9⟩ : ∃u,cur[i*6+4]? = I u:=⟨_,Array.getElem?_eq_getElem aA⟩;have n4:w3.cell? ⟨g3,i*6+4,Z⟩=I u4:=(a0.cell (i*6+4)).trans b9;have f4:=a0.frozen (i*6+4);clear b9;obtain⟨u5,b8⟩ : ∃u,cur[i*6+5]? = I u:=⟨_,Array.getElem?_eq_getElem aA⟩;have n5:w3.cell? ⟨g3,i*6+5,Z⟩=I u5:=(a0.cell (i*6+5)).trans b8;have f5:=a0.frozen (i*6+5);clear b8)
 have c7:=ER w3 g3 i (O X xo) (O X xa) (O X xb) (Y Ak nk ck) (Y Aa na ca) (Y Af nf cf);have a9:=aB c7;clear c7 n0 n1 n2 n3 n4 n5 f0 f1 f2 f3 f4 f5 d4;go_ret;have c9:=b0.o.grown a9.o b0.o.size (fun q hq=>by have d5:g3=q:=(by injection hq with h9);have:=a2.o;omega);have ho:=MT a1.own i (O X xo) (O X xa) (O X xb) (Y Ak nk ck) (Y Aa na ca) (Y Af nf cf);have hf:=f8.o _ c9;have g0:=a9.o.size;have f9:=a0.lt;clear a9 a1 a0 b0;generalize ((((((w3.setCell ⟨g3,i*6,Z⟩ (O X xo)).setCell ⟨g3,i*6+1,Z⟩ (O X xa)).setCell ⟨g3,i*6+2,Z⟩ (O X xb)).setCell ⟨g3,i*6+3,Z⟩ (Y Ak nk ck)).setCell ⟨g3,i*6+4,Z⟩ (Y Aa na ca)).setCell ⟨g3,i*6+5,Z⟩ (Y Af nf cf))=Wn at *;have c8:bF (gH L2)=m:=by rw[gR];exact a8.o
 rw[<-c8] at ho;obtain⟨A',n',c',e,hk⟩:=hP (R:=bB R w Wn) ho (kP.keep (R':=bB R w Wn) (fun q hq=>⟨Or.inl hq,fun _=>rfl⟩) _ _ hf) (fun q hq=>by
  have d5:g3=q:=by injection hq with h9
  exact Or.inr ⟨by have:=a2.o;omega,by omega⟩)
 injection e with e1 e2 e3;subst e1 e2 e3;have d7:dM (bB R w Wn) Wn (I ⟨g3,0,Z⟩) m c3 (gH L2):=by rw[c8] at hk;exact hk
 have d6:dM (bB R w Wn) Wn (I ⟨g3,0,Z⟩) L2.length c3 (gH L2):=by rw[a8.o];exact d7
 exact⟨c9,I ⟨g3,0,Z⟩,c3,by rw[a8.o];rfl,d6⟩
end
theorem AC (pop pb:Int) (ha:∀k:Int,0<=aR pop pb k/\aR pop pb k<=4) : ∀(j:Nat) (v:Int) (F:Fo),dC F->0<=(sY pop pb j v F).1/\(sY pop pb j v F).1<=aX F/\0<=(sY pop pb j v F).2/\(sY pop pb j v F).2<=4*aX F
 | _,_,.nil,_=>by simp[sY,aX]
 | j,v,.cons p n a k x,h=>by
  obtain⟨h1,h2,h3⟩:=h;have hk:=AC n.op n.b (fun i=>eA h1 i) 0 (v+aR pop pb j) k h2;have hx:=AC pop pb ha (j+1) v x h3;obtain⟨a1,a2⟩:=ha j;have hq:0<=(gV n k (v+aR pop pb j)).1/\(gV n k (v+aR pop pb j)).1<=aX k+1/\0<=(gV n k (v+aR pop pb j)).2/\(gV n k (v+aR pop pb j)).2<=4*aX k:=by
   simp only[gV];split
   · split<;>(simp only;omega)
   omega
  rw[lJ];simp only[aX];refine⟨by omega,by omega,?_,?_⟩<;>split<;>omega
theorem FZ {n:Nd} (h:eN n=true) (j:Nat) (v:Int) (F:Fo) (hF:dC F):0<=(sY n.op n.b j v F).1/\(sY n.op n.b j v F).1<=aX F/\0<=(sY n.op n.b j v F).2/\(sY n.op n.b j v F).2<=4*aX F :=
 AC n.op n.b (fun i=>eA h i) j v F hF
theorem IB {n:Nd} (h:eN n=true) (v:Int) (F:Fo) (hF:dC F):0<=(gV n F v).1/\(gV n F v).1<=aX F+1/\0<=(gV n F v).2/\(gV n F v).2<=4*aX F:=by
 have:=FZ h 0 v F hF;simp only[gV];split
 · split<;>(simp only;omega)
 omega
theorem oH.vk {x:TT} (h:oH x):Vk x.2.2:=qJ _ _ h.wf
theorem vB:∀(F:Fo),Vk F->dC F
 | .nil,_=>trivial
 | .cons _ _ _ k x,h=>⟨h.1,vB k h.2.2.1,vB x h.2.2.2⟩
theorem oH.all {x:TT} (h:oH x):dC x.2.2:=vB _ h.vk
theorem oH.leaf {x:TT} (h:oH x) (h1:x.1.op=1):x.2.1=[]/\x.2.2=.nil:=AF h.at_ h.wf h1
theorem N2 {u:TT} (hu:oH u) (d:Int):(kK d u.1 0,rG u.1 u.2.1 0,rH d u.1 u.2.2 0)=i5 u d:=by
 have h:=CU (up:=d) (fr:=0) (a:=0) hu.ok hu.leaf (FG d 0 u.1.op u.1.b 0 0 u.2.2 hu.vk);simp only[Int.add_zero] at h;rw[h.1,h.2.1,h.2.2];rfl
theorem CQ {u:TT} (hu:oH u) {a:Int} {n:Nd} {ats:List Nd} {k:Fo} (hok:eN n=true) (h1:n.op=1->ats=[]/\k=.nil) (ih:qA ⟨u.1,u.2.1,u.2.2⟩ n.op n.b 0 a a k=vY (sA u) n.op n.b 0 a k) :
 (kJ ⟨u.1,u.2.1,u.2.2⟩ n a a,rF ⟨u.1,u.2.1,u.2.2⟩ n ats a a,sI ⟨u.1,u.2.1,u.2.2⟩ n k a a)=AK (sA u) a (n,ats,k):=by
 by_cases h:n.op=1
 · have hb:=N3 hok h;obtain⟨e1,e2⟩:=h1 h;subst e1 e2;rw[nY h];unfold kJ rF sI sA;simp only[if_pos h];by_cases h2:n.a=a
   · simp only[if_pos h2];exact N2 hu a
   simp only[if_neg h2];by_cases h3:a<n.a
   · simp only[if_pos h3];rw[h,hb.2.2]
   simp only[if_neg h3]
 rw[jT h];unfold kJ rF sI;simp only[if_neg h,ih]
theorem zO {u:TT} (hu:oH u) (pop pb:Int) : ∀(j:Nat) (a:Int) (F:Fo),Vk F->qA ⟨u.1,u.2.1,u.2.2⟩ pop pb j a a F=vY (sA u) pop pb j a F
 | _,_,.nil,_=>rfl
 | j,a,.cons p n ats k x,h=>by
  have h1:=CQ hu (a:=a+aR pop pb j) h.1 h.2.1 (zO hu n.op n.b 0 _ k h.2.2.1);have h2:=zO hu pop pb (j+1) a x h.2.2.2;rw[jS,kG,h2,<-h1]
theorem Q9 {x u:TT} (hx:oH x) (hu:oH u):(kJ ⟨u.1,u.2.1,u.2.2⟩ x.1 0 0,rF ⟨u.1,u.2.1,u.2.2⟩ x.1 x.2.1 0 0,sI ⟨u.1,u.2.1,u.2.2⟩ x.1 x.2.2 0 0)=AK (sA u) 0 x :=
 CQ hu hx.ok hx.leaf (zO hu _ _ 0 0 _ hx.vk)
theorem IC {v a:Int} {n:Nd} {k:Fo} (h1:n.op=1->k=.nil) (ih:(sY n.op n.b 0 (v+a) k).1=yR v n.op n.b 0 a k):(gV n k (v+a)).1=(if n.op=1/\n.a-a=v then 1 else 0)+yR v n.op n.b 0 a k:=by
 unfold gV;by_cases h:n.op=1
 · rw[if_pos h,h1 h];by_cases h2:n.a=v+a
   · rw[if_pos h2,if_pos ⟨h,by omega⟩];rfl
   rw[if_neg h2,if_neg aA];rfl
 rw[if_neg h,ih,if_neg (fun q=>h q.1),Int.zero_add]
theorem F0 (v:Int) (pop pb:Int) : ∀(j:Nat) (a:Int) (F:Fo),Vk F->(sY pop pb j (v+a) F).1=yR v pop pb j a F
 | _,_,.nil,_=>rfl
 | j,a,.cons p n ats k x,h=>by
  have h1:=IC (v:=v) (a:=a+aR pop pb j) (n:=n) (k:=k) (fun q=>(h.2.1 q).2) (F0 v n.op n.b 0 _ k h.2.2.1);have h2:=F0 v pop pb (j+1) a x h.2.2.2;rw[lJ];simp only;rw[Int.add_assoc,h1,h2];rfl
theorem NX {x:TT} (h:oH x):(gV x.1 x.2.2 0).1=pJ 0 x.1 x.2.2:=by
 have h1:=IC (v:=0) (a:=0) (n:=x.1) (k:=x.2.2) (fun q=>(h.leaf q).2) (F0 0 x.1.op x.1.b 0 0 x.2.2 h.vk);simp only[Int.add_zero,Int.sub_zero] at h1;rw[h1];rfl
theorem zG {up free M:Int} (hM : -1<=M) (pop pb:Int) (hpa:∀k:Int,0<=aR pop pb k/\aR pop pb k<=4) : ∀(j:Nat) (a:Int) (F:Fo),Vk F->oD (fun v z=>decide (free<=v-z)) pop pb j a F=false->a+4*aX F+free+up<=M->MC pop pb up j a F<=M
 | _,_,.nil,_,_,_=>hM
 | j,a,.cons p n ats k x,h,h0,hb=>by
  rw[eJ,Bool.or_eq_false_iff] at h0;obtain⟨t1,t2⟩:=mI h0.1;have hp:=hpa j;have hs:aX (Fo.cons p n ats k x)=aX k+aX x+1:=rfl;have i1:=zG (up:=up) hM n.op n.b (fun i=>eA h.1 i) 0 (a+aR pop pb j) k h.2.2.1 t2 aA;have i2:=zG (up:=up) hM pop pb hpa (j+1) a x h.2.2.2 h0.2 aA;rw[tN];refine Int.max_le.2 ⟨?_,i2⟩;unfold oT;split
  · rename_i h1
    have:=t1 h1;rw[decide_eq_false_iff_not] at this;split<;>omega
  · exact i1
theorem tO {b:Bk} {free:Int} {x:TT} (h:bR b free x) {up:Int} (h1:free+up<=1030000):oT up x.1 x.2.2 0<=1048576:=by
 obtain⟨t1,t2⟩:=mI h.low;have hs:aX x.2.2<=4096:=by
  have h2:=eT x.2.2;have h3:=h.few;have h4:=dL x.1 x.2.1 x.2.2;have h5:bI x=bI (x.1,x.2.1,x.2.2):=rfl;omega
 unfold oT;split
 · rename_i hv
   have:=t1 hv;rw[decide_eq_false_iff_not] at this;split<;>omega
 exact zG aA _ _ (fun i=>eA h.okt.ok i) 0 0 _ h.okt.vk t2 aA
section
open Go.Lib renaming hid->aB
set_option maxRecDepth 100000 in
set_option maxHeartbeats 8000000 in
theorem FR (m:Nat) (ih:∀(w:World) (R:Nat->Prop) (t:iE) (x:TT),(∀b,R b->b<w.heap.size)->dX R w t x->bI x<m->bI x<=1000000000 →
      Calls Tryz.prog 46 #[.agg (bH t x.1)] w (eF ((bI x:Nat):Int) w))
 (w:World) (R:Nat->Prop) (t:iE) (x:TT) (hR:∀b,R b->b<w.heap.size) (ht:dX R w t x) (hm:bI x<=m) (hmax:bI x<=1000000000) :
 Calls Tryz.prog 46 #[.agg (bH t x.1)] w (eF ((bI x:Nat):Int) w):=by
 have HI:=aB ih;have HR:=aB hR;have HT:=aB ht;have a0:=PX x;have b5:=ht.atoms.len;have b4:=ht.funs.len;have a6:=ht.nk;obtain⟨S,hS⟩ : ∃S,S=bI x:=⟨_,rfl⟩;obtain⟨L,hL⟩ : ∃L,L=cI x.2.2:=⟨_,rfl⟩;rw[<-hS,<-hL,b5,b4] at a0;rw[<-hL] at a6;rw[<-hS] at hm hmax ⊢;have HL:=aB hL;have d5:=aB hS;have a9:=aB a6;have b1:=aB (aP w (.cells (bH t x.1) 85));have b0:Hid (aS (w.alloc (.cells (bH t x.1) 85)) w.heap.size 85 (bH t x.1)):=aB (aS.new _ _ _);obtain⟨⟨op,va,vb⟩,ats,k⟩:=x;obtain⟨Ak,nk,ck,Aa,na,ca,Af,nf,cf⟩:=t;simp only at a0 a9 b0 b1 HL ⊢;have d4:L.length=nk:=a9.o.symm;have b6:∀l:List TT,l.length<=AA l:=by
  intro l
  induction l with
  | nil=>exact Nat.le_refl _
  | cons y r ih2 =>
   simp only[List.length_cons,AA];have h1:1<=bI y:=(by obtain⟨n,a,k⟩:=y;rw[dL];omega);omega
 have c0:nk<=1000000000:=by have:=b6 L;omega
 have a4:∀z:Nat,z<=3000000000->IntKind.i64.wrap (z:Int)=(z:Int):=fun z hz=>by rw[IntKind.wrap_i64];omega
 have b9:IntKind.i64.wrap (1+(na:Int))=((1+na:Nat):Int):=by rw[show (1:Int)+(na:Int)=((1+na:Nat):Int) from by omega];exact a4 _ aA
 have b2:IntKind.i64.wrap (((1+na:Nat):Int)+(nf:Int))=((1+na+nf:Nat):Int):=by rw[show ((1+na:Nat):Int)+(nf:Int)=((1+na+nf:Nat):Int) from by omega];exact a4 _ aA
 have c3:1+na+nf<=1000000000:=aA;have c7:=aB a0;have c8:=aB (And.intro hm hmax);have c5:=aB a4;clear hm hmax ih hR ht a0 b5 b4 a6 hS hL b6 a4 a9;go_in;go_wp2_with fail;go_loopw [3,4] (fun nv iv wr=>∃(i s:Nat),nv=O X (s:Int)/\iv=O X (i:Int)/\i<=nk/\1<=s/\Hid (s+AA (L.drop i)=S)/\Hid (Below w.heap.size w wr)/\Hid (aS wr w.heap.size 85 #[O X op,O X va,O X vb,Y Ak nk ck,Y Aa na ca,Y Af nf cf])) (fun _ iv _=>nk-(intOf iv).toNat)
 case atStart=>exact⟨0,1+na+nf,by first | rfl | (rw[b2]) | (rw[b9,b2]) | go_num,rfl,Nat.zero_le _,by omega,aB (by rw[List.drop_zero];exact c7.o.symm),b1,b0⟩
 case round =>
  clear b1 b0;obtain⟨i,s,rfl,rfl,hi,d2,hs,a3,a7⟩:=hrel;have zc:=aS.cell a7.o;have b8:=zc 3;by_cases hlt:i<nk;rotate_left
  · have hd:decide ((i:Int)<(nk:Int))=false:=decide_eq_false aA;have d3:decide (i<nk)=false:=decide_eq_false hlt;have a5:=hs.o;rw[List.drop_of_length_le aA] at a5;simp only[AA,Nat.add_zero] at a5;subst a5;clear hlt;go_wp2_with fail;go_ret;exact⟨rfl,a3.o⟩
  have hd:decide ((i:Int)<(nk:Int))=true:=decide_eq_true aA;have a2:=dX.kid HT.o (j:=i) hlt;simp only at a2;obtain⟨b,o,t',hA,c4,hc,b3⟩:=a2;subst hA;have c2:=hc.below a3.o (HR.o b c4);have b7:L.drop i=cU k i::L.drop (i+1):=by rw[HL.o];exact EW (by rw[<-HL.o];omega)
  have a1:=hs.o;rw[b7] at a1;simp only[AA] at a1;have c1:=c8.o;have HC:=aB (HI.o wr R t' (cU k i) (fun b' hb'=>Nat.lt_of_lt_of_le (HR.o b' hb') a3.o.size) (b3.below HR.o a3.o) aA aA);generalize cU k i=y at *;obtain⟨z,hz⟩ : ∃z,z=bI y:=⟨_,rfl⟩;rw[<-hz] at HC a1;have d1:IntKind.i64.wrap ((s:Int)+(z:Int))=((s+z:Nat):Int):=by rw[show (s:Int)+(z:Int)=((s+z:Nat):Int) from by omega];exact c5.o _ aA
  obtain⟨⟨yo,ya,yb⟩,yats,yk⟩:=y;obtain⟨Ak1,nk1,ck1,Aa1,na1,ca1,Af1,nf1,cf1⟩:=t';obtain⟨y0,y1,y2,y3,y4,y5⟩:=c2;simp only at y0 y1 y2 y3 y4 y5 HC;have c6:=aB a1;clear hc b3 b7 a1 c1 hz;go_wp2_with fail;refine (HC.o).mono ?_;rintro e w2 ⟨rfl,a8⟩;have d0:=bZ a3 a8;have c9:=aB (a7.o.below a8 a7.o.lt);clear a8 y0 y1 y2 y3 y4 y5 zc b8;go_wp2_with fail;go_roundw
  case rel=>exact⟨i+1,s+z,by first | rfl | go_num,by go_num,by omega,by omega,aB (by have:=c6.o;omega),d0,c9⟩
  case measure=>simp[intOf];omega
theorem xQ:∀(m:Nat) (w:World) (R:Nat->Prop) (t:iE) (x:TT),(∀b,R b->b<w.heap.size)->dX R w t x->bI x<m->bI x<=1000000000 →
      Calls Tryz.prog 46 #[.agg (bH t x.1)] w (eF ((bI x:Nat):Int) w)
 | 0,_,_,_,_,_,_,h,_=>absurd h (Nat.not_lt_zero _)
 | m+1,w,R,t,x,h1,h2,h3,h4=>FR m (xQ m) w R t x h1 h2 aA h4
theorem nU {w:World} {R:Nat->Prop} {t:iE} {x:TT} (hR:∀b,R b->b<w.heap.size) (ht:dX R w t x) (h:bI x<=1000000000):Calls Tryz.prog 46 #[.agg (bH t x.1)] w (eF ((bI x:Nat):Int) w) :=
 xQ _ w R t x hR ht (Nat.lt_succ_self _) h
end
end Go.Proofs.YtjoddliplahgkaaGreat
