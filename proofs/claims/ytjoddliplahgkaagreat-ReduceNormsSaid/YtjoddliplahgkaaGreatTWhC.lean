/- core: with. -/
import Derived.Test.YtjoddliplahgkaaGreatTWhB
namespace Go.Proofs.YtjoddliplahgkaaGreat
set_option linter.unusedVariables false
set_option linter.unusedSimpArgs false
open Go.RowKit
open Go.Value renaming int → O, slice → Z
open Go.IntKind renaming i64 → X
open Option renaming none → Y, some → I
open Go.Lib renaming hid->aB
variable {n:Nat}{w:aAB}
theorem bD.setAt{S:Nat->Prop}{w:aAB}{A:ZZ}{n c:Nat}{l:List Nd}(ht:bF S w A n c l):∀{D:List Value} {ls:aAA} (i:Nat),bD S w D ls->bD S w (D.set i (Z A n c)) (ls.set i l)
 | [],[],_,_=>trivial
 | [],_::_,_,h=>h.elim
 | _::_,[],_,h=>h.elim
 | x::D,y::ys,0,h=>⟨⟨A,n,c,rfl,ht⟩,h.2⟩
 | x::D,y::ys,i+1,h=>⟨h.1,bD.setAt ht i h.2⟩
theorem mW{base d:Nat}{A:ZZ}{e:TypeId}{G:List Value}(h:w.ownsRow base e 1 (Z A n d) n G)(hn:0<n):∃gk D,A=I ⟨gk,0,Y⟩/\base<=gk/\aT w gk e D/\∀i,i<n->D[i]? = G[i]?:=by
 have o:=h;rcases h.2 with⟨_,h2⟩|⟨gk,cap,D,hv,s,F,_⟩
 . omega
 injection hv with U z e3;subst U;refine⟨gk,D,rfl,s,F,fun i hi=>?_⟩;have:=o.cellAt (g:=gk) i aA;rw[<-this];exact (aT.cell (show aT w gk e D from F) i).symm
theorem rR{S:Nat->Prop}{w:aAB}:∀{D:List Value} {ls:aAA},bD S w D ls->∀u∈D,u.oneCell'=true
 | [],[],_,u,hu=>by cases hu
 | [],_::_,h,_,_=>h.elim
 | _::_,[],h,_,_=>h.elim
 | x::D,l::ls,h,u,hu=>by
  obtain⟨⟨A,n,c,e,_⟩,F⟩:=h;rcases YV.1 hu with rfl|hu
  . rw[e];rfl
  . exact rR F u hu
theorem FM:∀(F:Fo)(n:Nat),Wf (List.replicate n false) F->row F=((bH F).map aW).flatten
 | .nil,_,_=>rfl
 | .cons p nd a k x,0,h=>h.elim
 | .cons p nd a k x,n+1,h=>by
  obtain⟨D,_,_,_,G⟩:=h;simp only at D;subst D;rw[e8];simp only[row,YO,List.map_cons,ZR,FM x n G,aW];simp
theorem M2{b:Bk}{free:Int}{x:TT}(o:bO b free x)(F:x.1.op=11):aW x=x.1::((bH x.2.2).map aW).flatten:=by
 obtain⟨n,a,k⟩:=x;have D:=o.okt.at_;unfold iU at D;have h:n.op=11:=F;rw[XN (by show ¬ n.op=2;omega)]at D;have U:=o.okt.wf;have G:ds n=List.replicate (dU n.op n.b).toNat false:=by unfold ds;rw[XN aA]
 simp only at D U ⊢;rw[G]at U;subst D;simp only[aW,YO,FM k _ U]
theorem mA{w':aAB}{base sz:Nat}{e:TypeId}{v:Value}{F:List Value}(h:w.ownsRow base e sz v n F)(U:∀q,v.ownBlock=I q->w'.heap[q]? = w.heap[q]?):w'.ownsRow base e sz v n F:=by
 obtain⟨G,D⟩:=h;refine⟨G,?_⟩;rcases D with D|⟨b,cap,cur,hv,hb,hh,r⟩
 . exact Or.inl D
 subst hv;exact Or.inr ⟨b,cap,cur,rfl,hb,(U b rfl).trans hh,r⟩
theorem mY{g:Nat}{c0 c1:Value}{D:Array Value}(h:aT w g 78 #[c0,c1])(ht:D.getD 4 undef=.pointer (I ⟨g,0,Y⟩)):
 (results Tryz.f74 D).run Tryz.prog w=.ok (.agg #[c0,c1]) w:=by
 have G:=h.cell;have F:D[4]?.getD undef=.pointer (I ⟨g,0,Y⟩):=by rw[<-ht];simp
 simp[results,Tryz.results74,go_sem,F,G]
def T2(D:Nat)(f:Fc)(w:aAB)(e:Ending)(w':aAB):Prop:=ZY w w'/\∃A n c B m d,e=.returned (.agg #[Z A n c,Z B m d])/\fL D w' f A n c B m d
theorem q8{b:Bk}{free:Int}{x:TT}(G:bO b free x):(bH x.2.2).length<=4096:=by
 have U:=mZ G.okt.wf;rw[sF G.okt.ok]at U;have D:∀F:Fo,(bH F).length<=(row F).length:=by
  intro F
  induction F with
  | nil=>simp[bH]
  | cons p n a k x _ ih =>
   rw[e8,eG,YA];have:1<=bL (n,a,k):=by rw[cS];omega
   omega
 have h:=D x.2.2;have o:=G.few;have s:bL x=1+x.2.1.length+(row x.2.2).length:=cS x.1 x.2.1 x.2.2;omega
theorem KQ{base:Nat}{D F:Int}(G:base<=w.heap.size):bK (w.alloc (.cells #[O X 11,O X D,O X F] 46)) base (Z (I ⟨w.heap.size,0,Y⟩) 1 1) [⟨11,D,F⟩] :=
 ⟨by simp[jC,gP],.inr ⟨w.heap.size,1,#[O X 11,O X D,O X F],rfl,G,heap_alloc_new w _,by simp,by unfold maxLen;decide,rfl,rfl⟩⟩
theorem yJ{s:Fc}{p':TT}{lo:Nat}{w1 W w7:aAB}{B A7:ZZ}{m d n6 c7:Nat}{G U:Int}{cc:aAA}{xs:List Value}{f':Fc}(b4:f'=((s.1.1,s.1.2.1,gB s.1.2.2 p'),s.2))(a8:aW ((s.1.1,s.1.2.1,gB s.1.2.2 p'):TT)=s.1.1::(((bH s.1.2.2).set 1 p').map aW).flatten)(h0:(11:Int)=s.1.1.op)(h1:G=s.1.1.a)(h2:U=s.1.1.b)(b0:cc=((bH s.1.2.2).set 1 p').map aW)(b6:lo<=w.heap.size)(b8:w.heap.size+1<W.heap.size)(b9:w.heap.size+1<w1.heap.size)(b1:∀q,q<w1.heap.size->W.heap[q]? = w1.heap[q]?)(z:ZY W w7)(a1:ZY w W)(b2:bK w7 W.heap.size (Z A7 ([(⟨11,G,U⟩:Nd)].length+n6) c7) ([⟨11,G,U⟩]++cc.flatten))(b5:cc.flatten.length=n6)(a3:(aW ((s.1.1,s.1.2.1,gB s.1.2.2 p'):TT)).length<=4096)(a7:w1.ownsRow lo 29 1 (Z B m d) m xs)(a0:bD (dT lo w (Z B m d)) w1 xs (s.2.map aW))(a2:∀q,(Value.slice B m d).ownBlock=I q->q<w.heap.size):
 T2 lo f' w (.returned (.agg #[Z A7 ([(⟨11,G,U⟩:Nd)].length+n6) c7,Z B m d])) ((w7.setCell ⟨w.heap.size+1,0,Y⟩ (Z A7 ([(⟨11,G,U⟩:Nd)].length+n6) c7)).setCell ⟨w.heap.size+1,1,Y⟩ (Z B m d)):=by
 obtain⟨W9,F⟩:=aAJ ((w7.setCell ⟨w.heap.size+1,0,Y⟩ (Z A7 ([(⟨11,G,U⟩:Nd)].length+n6) c7)).setCell ⟨w.heap.size+1,1,Y⟩ (Z B m d));have a9:ZY w W9:=by
  rw[F];exact ((a1.trans (z.mono a1.size)).setCell (p:=⟨w.heap.size+1,0,Y⟩) (Nat.le_succ _) _).setCell (p:=⟨w.heap.size+1,1,Y⟩) (Nat.le_succ _) _
 have h:W9.heap.size=w7.heap.size:=by rw[F,eE,eE]
 have b7:=z.size;have a5:∀q,q≠w.heap.size+1->W9.heap[q]? = w7.heap[q]?:=fun q D=>by
  rw[F];exact (XZ _ ⟨w.heap.size+1,1,Y⟩ _ q D).trans (XZ _ ⟨w.heap.size+1,0,Y⟩ _ q D)
 have a4:∀q,q<w.heap.size->W9.heap[q]? = w1.heap[q]?:=fun q D=>(a5 q aA).trans ((z.block q aA).trans (b1 q aA));have b3:aW ((s.1.1,s.1.2.1,gB s.1.2.2 p'):TT)=[(⟨11,G,U⟩:Nd)]++cc.flatten:=by
  rw[a8,b0,h0,h1,h2];rfl
 rw[<-F];refine⟨a9,_,_,_,_,_,_,rfl,?_⟩;rw[b4];refine⟨?_,xs,?_,?_⟩
 . show bF _ _ _ _ _ (aW ((s.1.1,s.1.2.1,gB s.1.2.2 p'):TT));rw[b3]at a3 ⊢;have a6:bK w7 W.heap.size (Z A7 ([(⟨11,G,U⟩:Nd)].length+n6) c7) ([⟨11,G,U⟩]++cc.flatten):=b2;obtain⟨A',n',c',e,ht⟩:=bK.termS a6 aA;injection e with e1 e2 e3;subst e1 e2 e3;refine ht.keep fun q D=>?_;have h8:=aS a6 D;exact⟨⟨by omega,by rw[h];exact h8.2.1,fun e=>by have:=a2 q e;omega⟩,fun o=>aP (a5 q aA) o⟩
 . exact mA a7 fun q D=>a4 q (a2 q D)
 exact bD.keep (fun q D=>⟨⟨D.1,by rw[h];have:=D.2.1;omega,D.2.2⟩,fun o=>aP (a4 q D.2.1) o⟩) a0
set_option maxRecDepth 100000 in
set_option maxHeartbeats 4000000 in
theorem zQ{b:Bk}{free:Int}{lo:Nat}{s:Fc}{A B Ap:ZZ}{c m d np cp:Nat}{p p':TT}(k3:lo<=w.heap.size)(hs:fL lo w s A n c B m d)(fs:dM b free s)(o2:dA s<=4096)(d4:cQ s=I p)(k7:dA s+bL p'<=4096+bL p)(hp:bF (fun q=>lo<=q/\q<w.heap.size) w Ap np cp (aW p'))(fp:bO b free p'):
 Calls Tryz.prog 74 #[.agg #[Z A n c,Z B m d],Z Ap np cp] w (T2 lo (dW s p') w):=by
 obtain⟨gx,n8⟩:=aAJ w.heap.size;have g3:=hs.len.2;have m8:=dM.argsLen fs o2;have g8:j6 (w.heap.size+5) w s A n c B m d:=by
  obtain⟨h1,xs,h2,h3⟩:=hs;exact⟨h1.keep fun q D=>⟨⟨D.2.1,by have:=D.2.1;omega⟩,fun _=>rfl⟩,jL h2 (by simpa using g3) aA h3 (fun q D=>⟨D.2.1,by have:=D.2.1;omega⟩) (fun q D=>⟨(aS h2 D).2.1,by have:=(aS h2 D).2.1;omega⟩),rG h2⟩
 obtain⟨bs,os,rfl,p9,g1,h0,h1,h2⟩:=g8.node;obtain⟨so,h5⟩:=aAJ s.1.1.op;obtain⟨sa,g9⟩:=aAJ s.1.1.a;obtain⟨sb,h4⟩:=aAJ s.1.1.b;rw[<-h5]at h0;rw[<-g9]at h1;rw[<-h4]at h2;obtain⟨w1,a8⟩:=aAJ ((w.alloc (.cells #[Z (I ⟨bs,os,Y⟩) n c,Z B m d] 78)).alloc (.cells #[Z Y 0 0,Z Y 0 0] 78));have a3:ZY w w1:=by rw[a8];exact bS _ _ _
 have zs:aT w1 w.heap.size 78 #[Z (I ⟨bs,os,Y⟩) n c,Z B m d]:=by rw[a8];exact (aT.new _ _ _).alloc _
 have zr:aT w1 (w.heap.size+1) 78 #[Z Y 0 0,Z Y 0 0]:=by rw[a8];exact aT.new' aD
 have k0:=(a3.cell (p:=⟨bs,os,Y⟩) g1).trans h0;have k1:=(a3.cell (p:=⟨bs,os+1,Y⟩) g1).trans h1;have k2:=(a3.cell (p:=⟨bs,os+2,Y⟩) g1).trans h2;have l7:=aB g3;have p8:m<=4096:=aA;obtain⟨f1,xs,b8,a9⟩:=hs;have m3:Hid (bF (fun q=>lo<=q/\q<w.heap.size) w1 (I ⟨bs,os,Y⟩) n c (aW s.1)):=aB (bF.keep f1 (R':=fun q=>lo<=q/\q<w.heap.size) (w':=w1) fun q D=>⟨⟨D.1,D.2.1⟩,fun o=>a3.cell (p:=⟨q,o,Y⟩) D.2.1⟩);have c4:Hid (bD (fun q=>lo<=q/\q<w.heap.size) w1 xs (s.2.map aW)):=aB (bD.keep (fun q D=>⟨⟨D.1,D.2.1⟩,fun o=>a3.cell (p:=⟨q,o,Y⟩) D.2.1⟩) a9);have c2:Hid (bD (dT lo w (Z B m d)) w1 xs (s.2.map aW)):=aB (bD.keep (fun q D=>⟨D,fun o=>a3.cell (p:=⟨q,o,Y⟩) D.2.1⟩) a9);have h7:Hid (∀q,(Value.slice B m d).ownBlock=I q->q<w.heap.size):=aB (fun q D=>(aS b8 D).2.1);obtain⟨b9,HI,d7,b0,b3,i6,i7,HP⟩:=aAG (bI b8 a3) (g8.below a3) a3 fs h5 g9 h4 (hp.keep (R':=fun q=>lo<=q/\q<w.heap.size) (w':=w1) fun q D=>⟨D,fun o=>a3.cell (p:=⟨q,o,Y⟩) D.2⟩);obtain⟨e1,j3,f9,l5,m1⟩:=aAD d4 zs zr fp k7;have p4:w1.heap.size=w.heap.size+1+1:=by rw[a8];simp
 have e6:w.heap.size<w1.heap.size:=aA;have l2:=zs.cell;have c9:bs<w1.heap.size:=aA;clear f1 b8 a9 fs h5 g9 h4 a3 zs zr h0 h1 h2 g8 hp d4 n8 fp g3 m8 k7;go_in;go_upto_region 1 with fail
 rw[<-a8];clear a8;by_cases c1:so=11
 . have e3:=b3.o.symm.trans c1;obtain⟨u0,q0,br,hk,_⟩:=eT b0.o.head.okt e3;have c5:Hid (dW s p'=((s.1.1,s.1.2.1,gB s.1.2.2 p'),s.2)):=aB (by unfold dW;rw[XP e3]);have o1:p=eM s.1 1:=by
    have:=e1.o;unfold cQ at this;rw[XP e3]at this;injection this with this;exact this.symm
   have c0:=jA b0.o e1.o l5.o m1.o;rw[c5.o]at c0;have d5:aW ((s.1.1,s.1.2.1,gB s.1.2.2 p'):TT)=s.1.1::(((bH s.1.2.2).set 1 p').map aW).flatten:=by
    have h9:=M2 c0.1.head (by exact e3);simp only at h9;rw[h9,xS hk,hk];rfl
   have b6:(aW ((s.1.1,s.1.2.1,gB s.1.2.2 p'):TT)).length<=4096:=c0.1.head.few;have d1:=fun (W:aAB) (hB:ZY w1 W)=>kE (HI.o.below hB).head b0.o.head.rt.shape;rw[lL b0.o.head]at d1;have HK:=aB d1;have l6:Hid (1<(bH s.1.2.2).length):=aB (by rw[hk];simp);have f0:=aB d5;have d2:(((bH s.1.2.2).set 1 p').map aW).flatten.length<=4096:=by
    have h9:=b6;rw[d5,YA]at h9;omega
   obtain⟨e0,i2⟩:=aAC d2 b6;obtain⟨cc,g2⟩:=aAJ (((bH s.1.2.2).set 1 p').map aW);have b2:=aB g2;have k6:0<cc.flatten.length:=by
    rw[g2,hk];have h9:=iH u0;simp only[List.set_cons_succ,List.set_cons_zero,List.map_cons,ZR,XX];omega
   have e9:=aB k6;obtain⟨i0,j9,f2,f3,f4⟩:=info_parts kP;obtain⟨i3,i9,j0,j1⟩:=aAE j9 f2 f3 f4;subst c1;clear d1 hk o1 c0 d5 b6 d2 g2 j9 f2 f3 f4;go_wp2_with fail;refine (HK.o _ (XS _ _)).mono ?_;rintro en w3 ⟨a6,A3,n3,c3,o7,rfl,a4,g7⟩;have k4:n3=(bH s.1.2.2).length:=by have h8:=g7.len;rw[YR]at h8;have:=a4.1;omega
   have p2:1<n3:=by have:=l6.o;omega
   have p3:(1:Int)<(n3:Int):=aA;obtain⟨gk,m5,rfl,n7,a7,d0⟩:=mW a4 aA;have n5:=a7.frozen;have p0:gk<w3.heap.size:=a7.lt;have m9:∃u,w3.cell? ⟨gk,1,Y⟩=I u:=by
    have h9:=a4.cellAt (g:=gk) 1 aA;have o4:1<o7.length:=by have:=a4.1;omega
    exact⟨_,h9.trans (YB o4)⟩
   obtain⟨u3,o3⟩:=m9;have q2:=a6.size;obtain⟨W,b5⟩:=aAJ (w3.setCell ⟨gk,1,Y⟩ (Z Ap np cp));have m7:W.heap.size=w3.heap.size:=by rw[b5,eE]
   have b7:∀q,q<w1.heap.size->W.heap[q]? = w1.heap[q]?:=fun q D=>by
    rw[b5];exact (XZ w3 ⟨gk,1,Y⟩ _ q (by show q≠gk;omega)).trans (a6.block q D)
   have d9:=aB b7;have i1:Hid (ZY w W):=aB (by rw[b5];exact (d7.o.trans (a6.mono d7.o.size)).setCell (p:=⟨gk,1,Y⟩) (by show w.heap.size<=gk;omega) _);have j7:fG (· < W.heap.size) W (I ⟨gk,0,Y⟩) n3 c3 cc:=by
    rw[b2.o,List.map_set];have g4:=mC a4 1 (Z Ap np cp);rw[<-b5]at g4;refine jL g4 (by rw[List.length_set,YR];exact k4) (by have:=b0.o.head.few;have h8:=q8 b0.o.head;omega) (S:=(· < W.heap.size)) (bD.setAt (HP.o.keep fun q D=>⟨by omega,fun o=>aP (b7 q aA) o⟩) 1 (bD.keep (fun q D=>⟨by rw[m7];exact D.2.1,fun o=>?_⟩) g7)) (fun q D=>D) (fun q D=>(aS g4 D).2.1);rw[b5];exact aP (XZ w3 ⟨gk,1,Y⟩ _ q (fun e=>D.2.2 (by rw[e];rfl))) o
   have i5:=aB j7;have l3:=(j3.o.same (b7 _ e6)).cell;have n0:W.cell? ⟨bs,os,Y⟩=I (O X 11):=(aP (b7 bs c9) os).trans k0;have n1:W.cell? ⟨bs,os+1,Y⟩=I (O X sa):=(aP (b7 bs c9) (os+1)).trans k1;have n2:W.cell? ⟨bs,os+2,Y⟩=I (O X sb):=(aP (b7 bs c9) (os+2)).trans k2;have G:bs<W.heap.size:=aA;have a0:w.heap.size<W.heap.size:=aA;have f5:=aB a6;have h6:=fun i=>(a6.cell (p:=⟨w.heap.size,i,Y⟩) e6).trans (l2 i);have q0:=l3 0;have q1:=l3 1;clear a6 a4 g7 a7 d0 b7 j7 k4;go_upto_region 4 with fail
   rw[<-b5];clear b5 h6 o3 n5;refine wp_region_held_drew (S:=(fun w'=>w'.cell? ⟨w.heap.size,0,Y⟩=I (Z (I ⟨bs,os,Y⟩) n c)/\w'.cell? ⟨w.heap.size,1,Y⟩=I (Z B m d)/\w'.cell? ⟨bs,os,Y⟩=I (O X 11)/\w'.cell? ⟨bs,os+1,Y⟩=I (O X sa)/\w'.cell? ⟨bs,os+2,Y⟩=I (O X sb))) aC ?_ (fun hZ=>?_)
   . (try dsimp only);exact⟨q0,q1,n0,n1,n2⟩
   have z:Hid (ZY W W.drew):=aB (aU (XS _ _) 1);generalize W.drew=W1 at *;refine aL 0 hZ ?_;refine aL 1 hZ ?_;refine aL 2 hZ ?_;refine aL 3 hZ ?_;refine aL 5 hZ ?_;refine aL 8 hZ ?_;refine aL 9 hZ ?_;refine wpAnyH_ready (rs:=[4,6]) aC aD ?_;refine AllReadyH.cons rfl (fun K hK=>?_) (AllReadyH.cons rfl (fun K hK=>?_) (AllReadyH.nil))
   . go_simp;refine hK.o _ _ (by exact⟨((z.o.alloc z.o.size _).cell (p:=⟨w.heap.size,0,Y⟩) a0).trans q0,((z.o.alloc z.o.size _).cell (p:=⟨w.heap.size,1,Y⟩) a0).trans q1,((z.o.alloc z.o.size _).cell (p:=⟨bs,os,Y⟩) G).trans n0,((z.o.alloc z.o.size _).cell (p:=⟨bs,os+1,Y⟩) G).trans n1,((z.o.alloc z.o.size _).cell (p:=⟨bs,os+2,Y⟩) G).trans n2⟩) fun hZ=>?_;clear hK K;try simp only[p7]
     have f6:Hid (ZY W (W1.alloc (.cells #[O X 11,O X sa,O X sb] 46))):=aB (z.o.alloc z.o.size _);refine r1 6 fun K hK=>?_;go_simp;go_at_call 117
     refine (pZ (i5.o.keep fun q D=>⟨XT D f6.o.size,fun o=>f6.o.cell (p:=⟨q,o,Y⟩) D⟩) e9.o (by have:=e0.o;rw[<-b2.o]at this;omega)).mono ?_;rintro en w6 ⟨g0,A6,n6,c6,rfl,k9⟩;have HX:=bY f6 g0;have b4:Hid (bF (· < w6.heap.size) w6 A6 n6 c6 cc.flatten):=aB (k9.keep fun q D=>⟨D.2,fun _=>rfl⟩);have f7:Hid (bK w6 W.heap.size (Z (I ⟨W1.heap.size,0,Y⟩) 1 1) [⟨11,sa,sb⟩]):=aB (bI (KQ z.o.size) g0);clear g0 k9;go_wp2_with fail;refine hK.o _ _ (by exact⟨(HX.o.cell (p:=⟨w.heap.size,0,Y⟩) a0).trans q0,(HX.o.cell (p:=⟨w.heap.size,1,Y⟩) a0).trans q1,(HX.o.cell (p:=⟨bs,os,Y⟩) G).trans n0,(HX.o.cell (p:=⟨bs,os+1,Y⟩) G).trans n1,(HX.o.cell (p:=⟨bs,os+2,Y⟩) G).trans n2⟩) fun hZ=>?_;clear hK K;try simp only[p7]
     have b1:Hid (bK w6 W.heap.size (Z (I ⟨W1.heap.size,0,Y⟩) 1 1) [⟨11,sa,sb⟩]):=aB (f7.o);refine r1 7 fun K hK=>?_;refine bG (.tmp 23) (.tmp 25) 29 29 rfl W.heap.size i0 Tryz.underlying29 Tryz.underlying29 i3.o i9.o j0.o j1.o (Z (I ⟨W1.heap.size,0,Y⟩) 1 1) [⟨11,sa,sb⟩] cc.flatten rfl b1.o rfl b4.o (by have:=b4.o.len;have:=e0.o;rw[<-b2.o]at this;simp only[List.length_singleton];omega) HX.o.size ?_;intro A7 c7 w7 a5 a2;have F:Hid (ZY W w7):=aB (HX.o.grown a2.grown HX.o.size (fun g hg=>(aS b1.o hg).1));have f8:=aB a5;clear a5 a2;refine hK.o _ _ (by exact⟨(F.o.cell (p:=⟨w.heap.size,0,Y⟩) a0).trans q0,(F.o.cell (p:=⟨w.heap.size,1,Y⟩) a0).trans q1,(F.o.cell (p:=⟨bs,os,Y⟩) G).trans n0,(F.o.cell (p:=⟨bs,os+1,Y⟩) G).trans n1,(F.o.cell (p:=⟨bs,os+2,Y⟩) G).trans n2⟩) fun hZ=>?_;clear hK K;try simp only[p7]
     refine aL 10 hZ ?_;have a1:Hid (aT w7 (w.heap.size+1) 78 #[Z Y 0 0,Z Y 0 0]):=aB ((f9.o.same (d9.o _ aA)).below F.o aA);have o8:=a1.o.cell;have m6:=a1.o.frozen;refine r1 11 fun K hK=>?_;go_simp;refine hK.o _ _ (by exact⟨(aP (XZ _ ⟨w.heap.size+1,1,Y⟩ _ w.heap.size (by show w.heap.size≠w.heap.size+1;omega)) 0).trans ((aP (XZ _ ⟨w.heap.size+1,0,Y⟩ _ w.heap.size (by show w.heap.size≠w.heap.size+1;omega)) 0).trans ((F.o.cell (p:=⟨w.heap.size,0,Y⟩) a0).trans q0)),(aP (XZ _ ⟨w.heap.size+1,1,Y⟩ _ w.heap.size (by show w.heap.size≠w.heap.size+1;omega)) 1).trans ((aP (XZ _ ⟨w.heap.size+1,0,Y⟩ _ w.heap.size (by show w.heap.size≠w.heap.size+1;omega)) 1).trans ((F.o.cell (p:=⟨w.heap.size,1,Y⟩) a0).trans q1)),(aP (XZ _ ⟨w.heap.size+1,1,Y⟩ _ bs (by show bs≠w.heap.size+1;omega)) os).trans ((aP (XZ _ ⟨w.heap.size+1,0,Y⟩ _ bs (by show bs≠w.heap.size+1;omega)) os).trans ((F.o.cell (p:=⟨bs,os,Y⟩) G).trans n0)),(aP (XZ _ ⟨w.heap.size+1,1,Y⟩ _ bs (by show bs≠w.heap.size+1;omega)) (os+1)).trans ((aP (XZ _ ⟨w.heap.size+1,0,Y⟩ _ bs (by show bs≠w.heap.size+1;omega)) (os+1)).trans ((F.o.cell (p:=⟨bs,(os+1),Y⟩) G).trans n1)),(aP (XZ _ ⟨w.heap.size+1,1,Y⟩ _ bs (by show bs≠w.heap.size+1;omega)) (os+2)).trans ((aP (XZ _ ⟨w.heap.size+1,0,Y⟩ _ bs (by show bs≠w.heap.size+1;omega)) (os+2)).trans ((F.o.cell (p:=⟨bs,(os+2),Y⟩) G).trans n2))⟩) fun hZ=>?_;clear hK K;try simp only[p7]
     refine wpAnyH_done aC ?_ _;go_wp2_with fail;refine XW (v:=.agg #[Z A7 ([⟨11,sa,sb⟩].length+n6) c7,Z B m d]) (mY (g:=w.heap.size+1) (by have:=(a1.o.set_ 0 (Z A7 ([(⟨11,sa,sb⟩:Nd)].length+n6) c7)).set_ 1 (Z B m d);simpa using this) aD) rfl (yJ c5.o f0.o b3.o i6.o i7.o b2.o k3 aA aA d9.o F.o i1.o f8.o b4.o.len i2.o b9.o c2.o h7.o)
   go_simp;go_at_call 117
   refine (pZ (i5.o.keep fun q D=>⟨XT D z.o.size,fun o=>z.o.cell (p:=⟨q,o,Y⟩) D⟩) e9.o (by have:=e0.o;rw[<-b2.o]at this;omega)).mono ?_;rintro en w5 ⟨j8,A6,n6,c6,rfl,k8⟩;have U:=bY z j8;have m2:=aB k8;clear j8 k8;go_wp2_with fail;refine hK.o _ _ (by exact⟨(U.o.cell (p:=⟨w.heap.size,0,Y⟩) a0).trans q0,(U.o.cell (p:=⟨w.heap.size,1,Y⟩) a0).trans q1,(U.o.cell (p:=⟨bs,os,Y⟩) G).trans n0,(U.o.cell (p:=⟨bs,os+1,Y⟩) G).trans n1,(U.o.cell (p:=⟨bs,os+2,Y⟩) G).trans n2⟩) fun hZ=>?_;clear hK K;try simp only[p7]
   refine r1 4 fun K hK=>?_;go_simp;refine hK.o _ _ (by exact⟨((U.o.alloc U.o.size _).cell (p:=⟨w.heap.size,0,Y⟩) a0).trans q0,((U.o.alloc U.o.size _).cell (p:=⟨w.heap.size,1,Y⟩) a0).trans q1,((U.o.alloc U.o.size _).cell (p:=⟨bs,os,Y⟩) G).trans n0,((U.o.alloc U.o.size _).cell (p:=⟨bs,os+1,Y⟩) G).trans n1,((U.o.alloc U.o.size _).cell (p:=⟨bs,os+2,Y⟩) G).trans n2⟩) fun hZ=>?_;clear hK K;try simp only[p7]
   have HX:Hid (ZY W (w5.alloc (.cells #[O X 11,O X sa,O X sb] 46))):=aB (U.o.alloc U.o.size _);have b4:Hid (bF (· < (w5.alloc (.cells #[O X 11,O X sa,O X sb] 46)).heap.size) (w5.alloc (.cells #[O X 11,O X sa,O X sb] 46)) A6 n6 c6 cc.flatten):=aB (m2.o.keep fun q D=>⟨by have:=D.2;simp;omega,fun o=>(aQ w5 _).cell (p:=⟨q,o,Y⟩) D.2⟩);have f7:Hid (bK (w5.alloc (.cells #[O X 11,O X sa,O X sb] 46)) W.heap.size (Z (I ⟨w5.heap.size,0,Y⟩) 1 1) [⟨11,sa,sb⟩]):=aB (KQ U.o.size);have b1:Hid (bK (w5.alloc (.cells #[O X 11,O X sa,O X sb] 46)) W.heap.size (Z (I ⟨w5.heap.size,0,Y⟩) 1 1) [⟨11,sa,sb⟩]):=aB (f7.o);refine r1 7 fun K hK=>?_;refine bG (.tmp 23) (.tmp 25) 29 29 rfl W.heap.size i0 Tryz.underlying29 Tryz.underlying29 i3.o i9.o j0.o j1.o (Z (I ⟨w5.heap.size,0,Y⟩) 1 1) [⟨11,sa,sb⟩] cc.flatten rfl b1.o rfl b4.o (by have:=b4.o.len;have:=e0.o;rw[<-b2.o]at this;simp only[List.length_singleton];omega) HX.o.size ?_;intro A7 c7 w7 a5 a2;have F:Hid (ZY W w7):=aB (HX.o.grown a2.grown HX.o.size (fun g hg=>(aS b1.o hg).1));have f8:=aB a5;clear a5 a2;refine hK.o _ _ (by exact⟨(F.o.cell (p:=⟨w.heap.size,0,Y⟩) a0).trans q0,(F.o.cell (p:=⟨w.heap.size,1,Y⟩) a0).trans q1,(F.o.cell (p:=⟨bs,os,Y⟩) G).trans n0,(F.o.cell (p:=⟨bs,os+1,Y⟩) G).trans n1,(F.o.cell (p:=⟨bs,os+2,Y⟩) G).trans n2⟩) fun hZ=>?_;clear hK K;try simp only[p7]
   refine aL 10 hZ ?_;have a1:Hid (aT w7 (w.heap.size+1) 78 #[Z Y 0 0,Z Y 0 0]):=aB ((f9.o.same (d9.o _ aA)).below F.o aA);have o8:=a1.o.cell;have m6:=a1.o.frozen;refine r1 11 fun K hK=>?_;go_simp;refine hK.o _ _ (by exact⟨(aP (XZ _ ⟨w.heap.size+1,1,Y⟩ _ w.heap.size (by show w.heap.size≠w.heap.size+1;omega)) 0).trans ((aP (XZ _ ⟨w.heap.size+1,0,Y⟩ _ w.heap.size (by show w.heap.size≠w.heap.size+1;omega)) 0).trans ((F.o.cell (p:=⟨w.heap.size,0,Y⟩) a0).trans q0)),(aP (XZ _ ⟨w.heap.size+1,1,Y⟩ _ w.heap.size (by show w.heap.size≠w.heap.size+1;omega)) 1).trans ((aP (XZ _ ⟨w.heap.size+1,0,Y⟩ _ w.heap.size (by show w.heap.size≠w.heap.size+1;omega)) 1).trans ((F.o.cell (p:=⟨w.heap.size,1,Y⟩) a0).trans q1)),(aP (XZ _ ⟨w.heap.size+1,1,Y⟩ _ bs (by show bs≠w.heap.size+1;omega)) os).trans ((aP (XZ _ ⟨w.heap.size+1,0,Y⟩ _ bs (by show bs≠w.heap.size+1;omega)) os).trans ((F.o.cell (p:=⟨bs,os,Y⟩) G).trans n0)),(aP (XZ _ ⟨w.heap.size+1,1,Y⟩ _ bs (by show bs≠w.heap.size+1;omega)) (os+1)).trans ((aP (XZ _ ⟨w.heap.size+1,0,Y⟩ _ bs (by show bs≠w.heap.size+1;omega)) (os+1)).trans ((F.o.cell (p:=⟨bs,(os+1),Y⟩) G).trans n1)),(aP (XZ _ ⟨w.heap.size+1,1,Y⟩ _ bs (by show bs≠w.heap.size+1;omega)) (os+2)).trans ((aP (XZ _ ⟨w.heap.size+1,0,Y⟩ _ bs (by show bs≠w.heap.size+1;omega)) (os+2)).trans ((F.o.cell (p:=⟨bs,(os+2),Y⟩) G).trans n2))⟩) fun hZ=>?_;clear hK K;try simp only[p7]
   refine wpAnyH_done aC ?_ _;go_wp2_with fail;refine XW (v:=.agg #[Z A7 ([⟨11,sa,sb⟩].length+n6) c7,Z B m d]) (mY (g:=w.heap.size+1) (by have:=(a1.o.set_ 0 (Z A7 ([(⟨11,sa,sb⟩:Nd)].length+n6) c7)).set_ 1 (Z B m d);simpa using this) aD) rfl (yJ c5.o f0.o b3.o i6.o i7.o b2.o k3 aA aA d9.o F.o i1.o f8.o b4.o.len i2.o b9.o c2.o h7.o)
 have l1:so=12:=by
  have:=e1.o;unfold cQ at this;rw[<-b3.o,XN c1]at this;by_cases h:so=12
  . exact h
  rw[XN h]at this;cases this
 have j5:=b3.o.symm.trans l1;obtain⟨o5,o6⟩:=mE b0.o.head.okt j5;obtain⟨ip,e5⟩:∃ip:Nat,dG s.1=(ip:Int):=⟨(dG s.1).toNat,by omega⟩;have n9:ip<m:=by
  have:=e1.o;unfold cQ at this;rw[<-b3.o,XN c1,XP l1,e5]at this;by_cases h:ip<m
  . exact h
  rw[XN (by rw[<-l7.o];exact h)]at this;cases this
 have g6:=fun (W:aAB) (hB:ZY w1 W)=>mQ (HI.o.below hB).head b0.o.head.rt j5;rw[e5]at g6;have m0:=aB g6;have c5:Hid (dW s p'=(s.1,s.2.set ip p')):=aB (by unfold dW;rw[<-b3.o,XN c1,e5];rfl);have m4:=aB (rR c4.o);have l0:xs.length=m:=by have:=b9.o.1;omega
 obtain⟨l4,i8⟩:=aAC (G0 b9.o m4.o aA) l0;have o9:(ip:Int)<(m:Int):=aA;clear g6 e5 o5 o6 c1;clear l0;go_wp2_with fail;refine (l4.o).mono ?_;rintro en w3 ⟨a6,A3,c3,rfl,a4⟩;rw[i8.o]at a4 ⊢;obtain⟨gk,m5,rfl,n7,a7,d0⟩:=mW a4 aA;obtain⟨f5,l9,e8⟩:=aAF a6 a4 a7;have h6:=fun i=>(a6.cell (p:=⟨w.heap.size,i,Y⟩) e6).trans (l2 i);clear a6 a4 a7 d0;go_wp2_with fail;refine (m0.o _ f5.o).mono ?_;rintro en w4 ⟨rfl,e4⟩;have d8:=bY f5 e4;obtain⟨i4,e7⟩:=aAC (bI l9.o e4) (e8.o.below e4 e8.o.lt);have p6:=e7.o.frozen;have p1:gk<w4.heap.size:=e7.o.lt;have n4:∃u,w4.cell? ⟨gk,ip,Y⟩=I u:=by
  have h9:=i4.o.cellAt (g:=gk) ip aA;obtain⟨u,hu⟩:∃u,xs[ip]? = I u:=⟨_,YB (by rw[i8.o];exact n9)⟩;exact⟨u,h9.trans hu⟩
 obtain⟨u4,q3⟩:=n4;have j2:=aB (f9.o.below d8.o aA);have j4:=aB (j3.o.below d8.o e6);have o0:w.heap.size≠gk:=aA;have k5:w.heap.size+1≠gk:=aA;have c8:=aB (j2.o.far (p:=⟨gk,ip,Y⟩) k5 (Z Ap np cp));have q4:=c8.o.cell;have p5:=c8.o.frozen;have q5:=(j4.o.far (p:=⟨gk,ip,Y⟩) o0 (Z Ap np cp)).cell;clear e4 h6;go_wp2_with fail;refine XW (v:=.agg #[Z (I ⟨bs,os,Y⟩) n c,Z (I ⟨gk,0,Y⟩) m c3]) (mY (g:=w.heap.size+1) (by have:=(c8.o.set_ 0 (Z (I ⟨bs,os,Y⟩) n c)).set_ 1 (Z (I ⟨gk,0,Y⟩) m c3);simpa using this) aD) rfl ⟨?_,I ⟨bs,os,Y⟩,n,c,I ⟨gk,0,Y⟩,m,c3,rfl,?_⟩
 . have h9:ZY w w4:=d7.o.trans (d8.o.mono d7.o.size);exact ((h9.setCell (p:=⟨gk,ip,Y⟩) (by show w.heap.size<=gk;omega) _).setCell (p:=⟨w.heap.size+1,0,Y⟩) (Nat.le_succ _) _).setCell (p:=⟨w.heap.size+1,1,Y⟩) (Nat.le_succ _) _
 have h9:∀q,q<w1.heap.size->q≠w.heap.size+1->∀o,(((w4.setCell ⟨gk,ip,Y⟩ (Z Ap np cp)).setCell ⟨w.heap.size+1,0,Y⟩ (Z (I ⟨bs,os,Y⟩) n c)).setCell ⟨w.heap.size+1,1,Y⟩ (Z (I ⟨gk,0,Y⟩) m c3)).cell? ⟨q,o,Y⟩=w1.cell? ⟨q,o,Y⟩:=fun q h1 h2 o =>
  (aP (XZ _ ⟨w.heap.size+1,1,Y⟩ _ q h2) o).trans ((aP (XZ _ ⟨w.heap.size+1,0,Y⟩ _ q h2) o).trans ((aP (XZ w4 ⟨gk,ip,Y⟩ _ q (by show q≠gk;omega)) o).trans (d8.o.cell (p:=⟨q,o,Y⟩) h1)))
 have d6:(((w4.setCell ⟨gk,ip,Y⟩ (Z Ap np cp)).setCell ⟨w.heap.size+1,0,Y⟩ (Z (I ⟨bs,os,Y⟩) n c)).setCell ⟨w.heap.size+1,1,Y⟩ (Z (I ⟨gk,0,Y⟩) m c3)).heap.size=w4.heap.size:=by rw[eE,eE,eE]
 have g5:=l8 (base':=lo) (ownsRow_setCell_below (ownsRow_setCell_below (mC i4.o ip (Z Ap np cp)) (a:=⟨w.heap.size+1,0,Y⟩) (show w.heap.size+1<w1.heap.size by omega) (Z (I ⟨bs,os,Y⟩) n c)) (a:=⟨w.heap.size+1,1,Y⟩) (show w.heap.size+1<w1.heap.size by omega) (Z (I ⟨gk,0,Y⟩) m c3)) aA;rw[c5.o];have d3:∀q,q<w.heap.size->(Value.slice (I ⟨gk,0,Y⟩) m c3).ownBlock≠I q:=fun q D e=>by have e2:gk=q:=(Option.some.inj (show I gk=I q from e));omega
 refine⟨bF.keep m3.o (fun q D=>?_),_,g5,?_⟩
 . exact⟨⟨D.1,by rw[d6];omega,d3 q D.2⟩,h9 q aA aA⟩
 rw[List.map_set];exact bD.setAt (HP.o.keep fun q D=>⟨⟨D.1,by rw[d6];omega,d3 q D.2⟩,h9 q aA aA⟩) ip (bD.keep (fun q D=>⟨⟨D.1,by rw[d6];omega,d3 q D.2⟩,h9 q aA aA⟩) c4.o)
end Go.Proofs.YtjoddliplahgkaaGreat
