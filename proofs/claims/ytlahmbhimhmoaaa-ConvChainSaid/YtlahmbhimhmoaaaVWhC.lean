/- core: with. -/
import Derived.Test.YtlahmbhimhmoaaaVWhB
namespace Go.Proofs.Ytlahmbhimhmoaaa
set_option linter.unusedVariables false
set_option linter.unusedSimpArgs false
open Go.RowKit
open Go.Value renaming int → O, slice → Z
open Go.IntKind renaming i64 → X
open Option renaming none → Y, some → I
open Go.Lib renaming hid->aB
variable {n:Nat}{w:OE}
theorem a8.setAt{S:Nat->Prop}{w:OE}{A:OC}{n c:Nat}{l:List Nd}(ht:a6 S w A n c l):∀{D:List Value} {ls:OD} (i:Nat),a8 S w D ls->a8 S w (D.set i (Z A n c)) (ls.set i l)
 | [],[],_,_=>trivial
 | [],_::_,_,h=>h.elim
 | _::_,[],_,h=>h.elim
 | x::D,y::ys,0,h=>⟨⟨A,n,c,rfl,ht⟩,h.2⟩
 | x::D,y::ys,i+1,h=>⟨h.1,a8.setAt ht i h.2⟩
theorem AE{base d:Nat}{A:OC}{e:TypeId}{G:List Value}(h:w.ownsRow base e 1 (Z A n d) n G)(hn:0<n):∃gk D,A=I ⟨gk,0,Y⟩/\base<=gk/\aW w gk e D/\∀i,i<n->D[i]? = G[i]?:=by
 have o:=h;rcases h.2 with⟨_,h2⟩|⟨gk,cap,D,hv,s,F,_⟩
 . omega
 injection hv with U z e3;subst U;refine⟨gk,D,rfl,s,F,fun i hi=>?_⟩;have:=o.cellAt (g:=gk) i aA;rw[<-this];exact (aW.cell (show aW w gk e D from F) i).symm
theorem lO{S:Nat->Prop}{w:OE}:∀{D:List Value} {ls:OD},a8 S w D ls->∀u∈D,u.oneCell'=true
 | [],[],_,u,hu=>by cases hu
 | [],_::_,h,_,_=>h.elim
 | _::_,[],h,_,_=>h.elim
 | x::D,l::ls,h,u,hu=>by
  obtain⟨⟨A,n,c,e,_⟩,F⟩:=h;rcases MU.1 hu with rfl|hu
  . rw[e];rfl
  . exact lO F u hu
theorem vY:∀(F:Fo)(n:Nat),Wf (List.replicate n false) F->row F=((a9 F).map aT).flatten
 | .nil,_,_=>rfl
 | .cons p nd a k x,0,h=>h.elim
 | .cons p nd a k x,n+1,h=>by
  obtain⟨D,_,_,_,G⟩:=h;simp only at D;subst D;rw[dX];simp only[row,MY,List.map_cons,NS,vY x n G,aT];simp
theorem CI{b:Bk}{free:Int}{x:TT}(o:bJ b free x)(F:x.1.op=11):aT x=x.1::((a9 x.2.2).map aT).flatten:=by
 obtain⟨n,a,k⟩:=x;have D:=o.okt.at_;unfold gI at D;have h:n.op=11:=F;rw[aN (by show ¬ n.op=2;omega)]at D;have U:=o.okt.wf;have G:ds n=List.replicate (cK n.op n.b).toNat false:=by unfold ds;rw[aN aA]
 simp only at D U ⊢;rw[G]at U;subst D;simp only[aT,MY,vY k _ U]
theorem vO{w':OE}{base F:Nat}{e:TypeId}{v:Value}{G:List Value}(h:w.ownsRow base e F v n G)(o:∀q,v.ownBlock=I q->w'.heap[q]? = w.heap[q]?):w'.ownsRow base e F v n G:=by
 obtain⟨U,D⟩:=h;refine⟨U,?_⟩;rcases D with D|⟨b,cap,cur,hv,hb,hh,r⟩
 . exact Or.inl D
 subst hv;exact Or.inr ⟨b,cap,cur,rfl,hb,(o b rfl).trans hh,r⟩
theorem iZ{g:Nat}{G U:Value}{D:Array Value}(h:aW w g 109 #[G,U])(ht:D.getD 4 undef=.pointer (I ⟨g,0,Y⟩)):
 (results Try.f75 D).run Try.prog w=.ok (.agg #[G,U]) w:=by
 have o:=h.cell;have F:D[4]?.getD undef=.pointer (I ⟨g,0,Y⟩):=by rw[<-ht];simp
 simp[results,Try.results75,go_sem,F,o]
def IR(D:Nat)(f:Fc)(w:OE)(e:Ending)(w':OE):Prop:=OB w w'/\∃A n c B m d,e=.returned (.agg #[Z A n c,Z B m d])/\dM D w' f A n c B m d
theorem vF{b:Bk}{free:Int}{x:TT}(G:bJ b free x):(a9 x.2.2).length<=4096:=by
 have U:=fP G.okt.wf;rw[jG G.okt.ok]at U;have D:∀F:Fo,(a9 F).length<=(row F).length:=by
  intro F
  induction F with
  | nil=>simp[a9]
  | cons p n a k x _ z =>
   rw[dX,dB,MN];have:1<=bZ (n,a,k):=by rw[cS];omega
   omega
 have h:=D x.2.2;have o:=G.few;have s:bZ x=1+x.2.1.length+(row x.2.2).length:=cS x.1 x.2.1 x.2.2;omega
theorem z7{base:Nat}{D F:Int}(G:base<=w.heap.size):bG (w.alloc (.cells #[O X 11,O X D,O X F] 42)) base (Z (I ⟨w.heap.size,0,Y⟩) 1 1) [⟨11,D,F⟩] :=
 ⟨by simp[fR,eC],.inr ⟨w.heap.size,1,#[O X 11,O X D,O X F],rfl,G,heap_alloc_new w _,by simp,by unfold maxLen;decide,rfl,rfl⟩⟩
theorem qM{s:Fc}{p':TT}{lo:Nat}{w1 W w7:OE}{B A7:OC}{m d n6 c7:Nat}{G U:Int}{cc:OD}{xs:List Value}{f':Fc}(b7:f'=((s.1.1,s.1.2.1,fV s.1.2.2 p'),s.2))(b1:aT ((s.1.1,s.1.2.1,fV s.1.2.2 p'):TT)=s.1.1::(((a9 s.1.2.2).set 1 p').map aT).flatten)(h0:(11:Int)=s.1.1.op)(h1:G=s.1.1.a)(h2:U=s.1.1.b)(b3:cc=((a9 s.1.2.2).set 1 p').map aT)(b9:lo<=w.heap.size)(c1:w.heap.size+1<W.heap.size)(c2:w.heap.size+1<w1.heap.size)(b4:∀q,q<w1.heap.size->W.heap[q]? = w1.heap[q]?)(z:OB W w7)(a1:OB w W)(b5:bG w7 W.heap.size (Z A7 ([(⟨11,G,U⟩:Nd)].length+n6) c7) ([⟨11,G,U⟩]++cc.flatten))(b8:cc.flatten.length=n6)(a3:(aT ((s.1.1,s.1.2.1,fV s.1.2.2 p'):TT)).length<=4096)(b0:w1.ownsRow lo 29 1 (Z B m d) m xs)(a0:a8 (e7 lo w (Z B m d)) w1 xs (s.2.map aT))(a2:∀q,(Value.slice B m d).ownBlock=I q->q<w.heap.size):
 IR lo f' w (.returned (.agg #[Z A7 ([(⟨11,G,U⟩:Nd)].length+n6) c7,Z B m d])) ((w7.setCell ⟨w.heap.size+1,0,Y⟩ (Z A7 ([(⟨11,G,U⟩:Nd)].length+n6) c7)).setCell ⟨w.heap.size+1,1,Y⟩ (Z B m d)):=by
 obtain⟨W9,F⟩:=OM ((w7.setCell ⟨w.heap.size+1,0,Y⟩ (Z A7 ([(⟨11,G,U⟩:Nd)].length+n6) c7)).setCell ⟨w.heap.size+1,1,Y⟩ (Z B m d));have b2:OB w W9:=by
  rw[F];exact ((a1.trans (z.mono a1.size)).setCell (p:=⟨w.heap.size+1,0,Y⟩) (Nat.le_succ _) _).setCell (p:=⟨w.heap.size+1,1,Y⟩) (Nat.le_succ _) _
 have h:W9.heap.size=w7.heap.size:=by rw[F,dI,dI]
 have c0:=z.size;have a5:∀q,q≠w.heap.size+1->W9.heap[q]? = w7.heap[q]?:=fun q D=>by
  rw[F];exact (MH _ ⟨w.heap.size+1,1,Y⟩ _ q D).trans (MH _ ⟨w.heap.size+1,0,Y⟩ _ q D)
 have a4:∀q,q<w.heap.size->W9.heap[q]? = w1.heap[q]?:=fun q D=>(a5 q aA).trans ((z.block q aA).trans (b4 q aA));have b6:aT ((s.1.1,s.1.2.1,fV s.1.2.2 p'):TT)=[(⟨11,G,U⟩:Nd)]++cc.flatten:=by
  rw[b1,b3,h0,h1,h2];rfl
 rw[<-F];refine⟨b2,_,_,_,_,_,_,rfl,?_⟩;rw[b7];refine⟨?_,xs,?_,?_⟩
 . show a6 _ _ _ _ _ (aT ((s.1.1,s.1.2.1,fV s.1.2.2 p'):TT));rw[b6]at a3 ⊢;have a7:bG w7 W.heap.size (Z A7 ([(⟨11,G,U⟩:Nd)].length+n6) c7) ([⟨11,G,U⟩]++cc.flatten):=b5;obtain⟨A',n',c',e,ht⟩:=bG.termS a7 aA;injection e with e1 e2 e3;subst e1 e2 e3;refine ht.keep fun q D=>?_;have h8:=aV a7 D;exact⟨⟨by omega,by rw[h];exact h8.2.1,fun e=>by have:=a2 q e;omega⟩,fun o=>aP (a5 q aA) o⟩
 . exact vO b0 fun q D=>a4 q (a2 q D)
 exact a8.keep (fun q D=>⟨⟨D.1,by rw[h];have:=D.2.1;omega,D.2.2⟩,fun o=>aP (a4 q D.2.1) o⟩) a0
set_option maxRecDepth 100000 in
set_option maxHeartbeats 4000000 in
theorem BU{b:Bk}{free:Int}{lo:Nat}{s:Fc}{A B Ap:OC}{c m d np cp:Nat}{p p':TT}(k9:lo<=w.heap.size)(hs:dM lo w s A n c B m d)(fs:cG b free s)(o5:cJ s<=4096)(d8:cW s=I p)(l3:cJ s+bZ p'<=4096+bZ p)(hp:a6 (fun q=>lo<=q/\q<w.heap.size) w Ap np cp (aT p'))(fp:bJ b free p'):
 Calls Try.prog 75 #[.agg #[Z A n c,Z B m d],Z Ap np cp] w (IR lo (eX s p') w):=by
 obtain⟨gx,o1⟩:=OM w.heap.size;have g7:=hs.len.2;have n7:=cG.argsLen fs o5;have h6:gJ (w.heap.size+5) w s A n c B m d:=by
  obtain⟨h1,xs,h2,h3⟩:=hs;exact⟨h1.keep fun q D=>⟨⟨D.2.1,by have:=D.2.1;omega⟩,fun _=>rfl⟩,jZ h2 (by simpa using g7) aA h3 (fun q D=>⟨D.2.1,by have:=D.2.1;omega⟩) (fun q D=>⟨(aV h2 D).2.1,by have:=(aV h2 D).2.1;omega⟩),pL h2⟩
 obtain⟨bs,os,rfl,q6,g5,h0,h1,h2⟩:=h6.node;obtain⟨so,i2⟩:=OM s.1.1.op;obtain⟨sa,h7⟩:=OM s.1.1.a;obtain⟨sb,i1⟩:=OM s.1.1.b;rw[<-i2]at h0;rw[<-h7]at h1;rw[<-i1]at h2;obtain⟨w1,b1⟩:=OM ((w.alloc (.cells #[Z (I ⟨bs,os,Y⟩) n c,Z B m d] 109)).alloc (.cells #[Z Y 0 0,Z Y 0 0] 109));have a3:OB w w1:=by rw[b1];exact cB _ _ _
 have zs:aW w1 w.heap.size 109 #[Z (I ⟨bs,os,Y⟩) n c,Z B m d]:=by rw[b1];exact (aW.new _ _ _).alloc _
 have zr:aW w1 (w.heap.size+1) 109 #[Z Y 0 0,Z Y 0 0]:=by rw[b1];exact aW.new' aD
 have k0:=(a3.cell (p:=⟨bs,os,Y⟩) g5).trans h0;have k1:=(a3.cell (p:=⟨bs,os+1,Y⟩) g5).trans h1;have k2:=(a3.cell (p:=⟨bs,os+2,Y⟩) g5).trans h2;have m2:=aB g7;have q5:m<=4096:=aA;obtain⟨f5,xs,c1,b2⟩:=hs;have m7:Hid (a6 (fun q=>lo<=q/\q<w.heap.size) w1 (I ⟨bs,os,Y⟩) n c (aT s.1)):=aB (a6.keep f5 (R':=fun q=>lo<=q/\q<w.heap.size) (w':=w1) fun q D=>⟨⟨D.1,D.2.1⟩,fun o=>a3.cell (p:=⟨q,o,Y⟩) D.2.1⟩);have d0:Hid (a8 (fun q=>lo<=q/\q<w.heap.size) w1 xs (s.2.map aT)):=aB (a8.keep (fun q D=>⟨⟨D.1,D.2.1⟩,fun o=>a3.cell (p:=⟨q,o,Y⟩) D.2.1⟩) b2);have c9:Hid (a8 (e7 lo w (Z B m d)) w1 xs (s.2.map aT)):=aB (a8.keep (fun q D=>⟨D,fun o=>a3.cell (p:=⟨q,o,Y⟩) D.2.1⟩) b2);have i6:Hid (∀q,(Value.slice B m d).ownBlock=I q->q<w.heap.size):=aB (fun q D=>(aV c1 D).2.1);obtain⟨c4,HI,e3,b3,b6,j2,j3,HP⟩:=OH (bY c1 a3) (h6.below a3) a3 fs i2 h7 i1 (hp.keep (R':=fun q=>lo<=q/\q<w.heap.size) (w':=w1) fun q D=>⟨D,fun o=>a3.cell (p:=⟨q,o,Y⟩) D.2⟩);obtain⟨e6,j9,g3,m0,m5⟩:=OG d8 zs zr fp l3;have p8:w1.heap.size=w.heap.size+1+1:=by rw[b1];simp
 have e0:w.heap.size<w1.heap.size:=aA;have i3:=zs.cell;have d3:bs<w1.heap.size:=aA;clear f5 c1 b2 fs i2 h7 i1 a3 zs zr h0 h1 h2 h6 hp d8 o1 fp g7 n7 l3;go_in;go_upto_region 1 with fail
 rw[<-b1];clear b1;by_cases c2:so=11
 . have e8:=b6.o.symm.trans c2;obtain⟨u0,q0,br,hk,_⟩:=dR b3.o.head.okt e8;have d1:Hid (eX s p'=((s.1.1,s.1.2.1,fV s.1.2.2 p'),s.2)):=aB (by unfold eX;rw[LZ e8]);have o4:p=eP s.1 1:=by
    have:=e6.o;unfold cW at this;rw[LZ e8]at this;injection this with this;exact this.symm
   have c5:=iS b3.o e6.o m0.o m5.o;rw[d1.o]at c5;have d9:aT ((s.1.1,s.1.2.1,fV s.1.2.2 p'):TT)=s.1.1::(((a9 s.1.2.2).set 1 p').map aT).flatten:=by
    have h9:=CI c5.1.head (by exact e8);simp only at h9;rw[h9,yV hk,hk];rfl
   have b9:(aT ((s.1.1,s.1.2.1,fV s.1.2.2 p'):TT)).length<=4096:=c5.1.head.few;have d5:=fun (W:OE) (hB:OB w1 W)=>fJ (HI.o.below hB).head b3.o.head.rt.shape;rw[i5 b3.o.head]at d5;have HK:=aB d5;have m1:Hid (1<(a9 s.1.2.2).length):=aB (by rw[hk];simp);have f4:=aB d9;have d6:(((a9 s.1.2.2).set 1 p').map aT).flatten.length<=4096:=by
    have h9:=b9;rw[d9,MN]at h9;omega
   obtain⟨e5,i8⟩:=OF d6 b9;obtain⟨cc,g6⟩:=OM (((a9 s.1.2.2).set 1 p').map aT);have b5:=aB g6;have l2:0<cc.flatten.length:=by
    rw[g6,hk];have h9:=eJ u0;simp only[List.set_cons_succ,List.set_cons_zero,List.map_cons,NS,MG];omega
   have f3:=aB l2;obtain⟨i0,k8,f6,f7,f8⟩:=info_parts mK;obtain⟨i9,j5,j6,j7⟩:=OI k8 f6 f7 f8;subst c2;clear d5 hk o4 c5 d9 b9 d6 g6 k8 f6 f7 f8;go_wp2_with fail;refine (HK.o _ (MC _ _)).mono ?_;rintro en w3 ⟨a7,A3,n3,c3,p0,rfl,a4,h5⟩;have l0:n3=(a9 s.1.2.2).length:=by have h8:=h5.len;rw[MX]at h8;have:=a4.1;omega
   have p5:1<n3:=by have:=m1.o;omega
   have p6:(1:Int)<(n3:Int):=aA;obtain⟨gk,m9,rfl,k7,b0,d4⟩:=AE a4 aA;have o0:=b0.frozen;have p3:gk<w3.heap.size:=b0.lt;have n8:∃u,w3.cell? ⟨gk,1,Y⟩=I u:=by
    have h9:=a4.cellAt (g:=gk) 1 aA;have o7:1<p0.length:=by have:=a4.1;omega
    exact⟨_,h9.trans (MI o7)⟩
   obtain⟨u3,o6⟩:=n8;have q7:=a7.size;obtain⟨W,b8⟩:=OM (w3.setCell ⟨gk,1,Y⟩ (Z Ap np cp));have n5:W.heap.size=w3.heap.size:=by rw[b8,dI]
   have c0:∀q,q<w1.heap.size->W.heap[q]? = w1.heap[q]?:=fun q D=>by
    rw[b8];exact (MH w3 ⟨gk,1,Y⟩ _ q (by show q≠gk;omega)).trans (a7.block q D)
   have e4:=aB c0;have i7:Hid (OB w W):=aB (by rw[b8];exact (e3.o.trans (a7.mono e3.o.size)).setCell (p:=⟨gk,1,Y⟩) (by show w.heap.size<=gk;omega) _);have k5:dN (· < W.heap.size) W (I ⟨gk,0,Y⟩) n3 c3 cc:=by
    rw[b5.o,List.map_set];have g8:=lJ a4 1 (Z Ap np cp);rw[<-b8]at g8;refine jZ g8 (by rw[List.length_set,MX];exact l0) (by have:=b3.o.head.few;have h8:=vF b3.o.head;omega) (S:=(· < W.heap.size)) (a8.setAt (HP.o.keep fun q D=>⟨by omega,fun o=>aP (c0 q aA) o⟩) 1 (a8.keep (fun q D=>⟨by rw[n5];exact D.2.1,fun o=>?_⟩) h5)) (fun q D=>D) (fun q D=>(aV g8 D).2.1);rw[b8];exact aP (MH w3 ⟨gk,1,Y⟩ _ q (fun e=>D.2.2 (by rw[e];rfl))) o
   have j1:=aB k5;have l8:=(j9.o.same (c0 _ e0)).cell;have n0:W.cell? ⟨bs,os,Y⟩=I (O X 11):=(aP (c0 bs d3) os).trans k0;have n1:W.cell? ⟨bs,os+1,Y⟩=I (O X sa):=(aP (c0 bs d3) (os+1)).trans k1;have n2:W.cell? ⟨bs,os+2,Y⟩=I (O X sb):=(aP (c0 bs d3) (os+2)).trans k2;have G:bs<W.heap.size:=aA;have a0:w.heap.size<W.heap.size:=aA;have f9:=aB a7;have i4:=fun i=>(a7.cell (p:=⟨w.heap.size,i,Y⟩) e0).trans (i3 i);have q0:=l8 0;have q1:=l8 1;clear a7 a4 h5 b0 d4 c0 k5 l0;go_upto_region 4 with fail
   rw[<-b8];clear b8 i4 o6 o0;refine wp_region_held_drew (S:=(fun w'=>w'.cell? ⟨w.heap.size,0,Y⟩=I (Z (I ⟨bs,os,Y⟩) n c)/\w'.cell? ⟨w.heap.size,1,Y⟩=I (Z B m d)/\w'.cell? ⟨bs,os,Y⟩=I (O X 11)/\w'.cell? ⟨bs,os+1,Y⟩=I (O X sa)/\w'.cell? ⟨bs,os+2,Y⟩=I (O X sb))) aC ?_ (fun hZ=>?_)
   . (try dsimp only);exact⟨q0,q1,n0,n1,n2⟩
   have z:Hid (OB W W.drew):=aB (aU (MC _ _) 1);generalize W.drew=W1 at *;refine aL 0 hZ ?_;refine aL 1 hZ ?_;refine aL 2 hZ ?_;refine aL 3 hZ ?_;refine aL 5 hZ ?_;refine aL 8 hZ ?_;refine aL 9 hZ ?_;refine wpAnyH_ready (rs:=[4,6]) aC aD ?_;refine AllReadyH.cons rfl (fun K hK=>?_) (AllReadyH.cons rfl (fun K hK=>?_) (AllReadyH.nil))
   . go_simp;refine hK.o _ _ (by exact⟨((z.o.alloc z.o.size _).cell (p:=⟨w.heap.size,0,Y⟩) a0).trans q0,((z.o.alloc z.o.size _).cell (p:=⟨w.heap.size,1,Y⟩) a0).trans q1,((z.o.alloc z.o.size _).cell (p:=⟨bs,os,Y⟩) G).trans n0,((z.o.alloc z.o.size _).cell (p:=⟨bs,os+1,Y⟩) G).trans n1,((z.o.alloc z.o.size _).cell (p:=⟨bs,os+2,Y⟩) G).trans n2⟩) fun hZ=>?_;clear hK K;try simp only[p7]
     have g0:Hid (OB W (W1.alloc (.cells #[O X 11,O X sa,O X sb] 42))):=aB (z.o.alloc z.o.size _);refine r1 6 fun K hK=>?_;go_simp;go_at_call 92
     refine (kK (j1.o.keep fun q D=>⟨MD D g0.o.size,fun o=>g0.o.cell (p:=⟨q,o,Y⟩) D⟩) f3.o (by have:=e5.o;rw[<-b5.o]at this;omega)).mono ?_;rintro en w6 ⟨g4,A6,n6,c6,rfl,l5⟩;have HX:=bK g0 g4;have b7:Hid (a6 (· < w6.heap.size) w6 A6 n6 c6 cc.flatten):=aB (l5.keep fun q D=>⟨D.2,fun _=>rfl⟩);have g1:Hid (bG w6 W.heap.size (Z (I ⟨W1.heap.size,0,Y⟩) 1 1) [⟨11,sa,sb⟩]):=aB (bY (z7 z.o.size) g4);clear g4 l5;go_wp2_with fail;refine hK.o _ _ (by exact⟨(HX.o.cell (p:=⟨w.heap.size,0,Y⟩) a0).trans q0,(HX.o.cell (p:=⟨w.heap.size,1,Y⟩) a0).trans q1,(HX.o.cell (p:=⟨bs,os,Y⟩) G).trans n0,(HX.o.cell (p:=⟨bs,os+1,Y⟩) G).trans n1,(HX.o.cell (p:=⟨bs,os+2,Y⟩) G).trans n2⟩) fun hZ=>?_;clear hK K;try simp only[p7]
     have b4:Hid (bG w6 W.heap.size (Z (I ⟨W1.heap.size,0,Y⟩) 1 1) [⟨11,sa,sb⟩]):=aB (g1.o);refine r1 7 fun K hK=>?_;refine cT (.tmp 23) (.tmp 25) 29 29 rfl W.heap.size i0 Try.underlying29 Try.underlying29 i9.o j5.o j6.o j7.o (Z (I ⟨W1.heap.size,0,Y⟩) 1 1) [⟨11,sa,sb⟩] cc.flatten rfl b4.o rfl b7.o (by have:=b7.o.len;have:=e5.o;rw[<-b5.o]at this;simp only[List.length_singleton];omega) HX.o.size ?_;intro A7 c7 w7 a5 a2;have F:Hid (OB W w7):=aB (HX.o.grown a2.grown HX.o.size (fun g hg=>(aV b4.o hg).1));have g2:=aB a5;clear a5 a2;refine hK.o _ _ (by exact⟨(F.o.cell (p:=⟨w.heap.size,0,Y⟩) a0).trans q0,(F.o.cell (p:=⟨w.heap.size,1,Y⟩) a0).trans q1,(F.o.cell (p:=⟨bs,os,Y⟩) G).trans n0,(F.o.cell (p:=⟨bs,os+1,Y⟩) G).trans n1,(F.o.cell (p:=⟨bs,os+2,Y⟩) G).trans n2⟩) fun hZ=>?_;clear hK K;try simp only[p7]
     refine aL 10 hZ ?_;have a1:Hid (aW w7 (w.heap.size+1) 109 #[Z Y 0 0,Z Y 0 0]):=aB ((g3.o.same (e4.o _ aA)).below F.o aA);have p1:=a1.o.cell;have n4:=a1.o.frozen;refine r1 11 fun K hK=>?_;go_simp;refine hK.o _ _ (by exact⟨(aP (MH _ ⟨w.heap.size+1,1,Y⟩ _ w.heap.size (by show w.heap.size≠w.heap.size+1;omega)) 0).trans ((aP (MH _ ⟨w.heap.size+1,0,Y⟩ _ w.heap.size (by show w.heap.size≠w.heap.size+1;omega)) 0).trans ((F.o.cell (p:=⟨w.heap.size,0,Y⟩) a0).trans q0)),(aP (MH _ ⟨w.heap.size+1,1,Y⟩ _ w.heap.size (by show w.heap.size≠w.heap.size+1;omega)) 1).trans ((aP (MH _ ⟨w.heap.size+1,0,Y⟩ _ w.heap.size (by show w.heap.size≠w.heap.size+1;omega)) 1).trans ((F.o.cell (p:=⟨w.heap.size,1,Y⟩) a0).trans q1)),(aP (MH _ ⟨w.heap.size+1,1,Y⟩ _ bs (by show bs≠w.heap.size+1;omega)) os).trans ((aP (MH _ ⟨w.heap.size+1,0,Y⟩ _ bs (by show bs≠w.heap.size+1;omega)) os).trans ((F.o.cell (p:=⟨bs,os,Y⟩) G).trans n0)),(aP (MH _ ⟨w.heap.size+1,1,Y⟩ _ bs (by show bs≠w.heap.size+1;omega)) (os+1)).trans ((aP (MH _ ⟨w.heap.size+1,0,Y⟩ _ bs (by show bs≠w.heap.size+1;omega)) (os+1)).trans ((F.o.cell (p:=⟨bs,(os+1),Y⟩) G).trans n1)),(aP (MH _ ⟨w.heap.size+1,1,Y⟩ _ bs (by show bs≠w.heap.size+1;omega)) (os+2)).trans ((aP (MH _ ⟨w.heap.size+1,0,Y⟩ _ bs (by show bs≠w.heap.size+1;omega)) (os+2)).trans ((F.o.cell (p:=⟨bs,(os+2),Y⟩) G).trans n2))⟩) fun hZ=>?_;clear hK K;try simp only[p7]
     refine wpAnyH_done aC ?_ _;go_wp2_with fail;refine NG (v:=.agg #[Z A7 ([⟨11,sa,sb⟩].length+n6) c7,Z B m d]) (iZ (g:=w.heap.size+1) (by have:=(a1.o.set_ 0 (Z A7 ([(⟨11,sa,sb⟩:Nd)].length+n6) c7)).set_ 1 (Z B m d);simpa using this) aD) rfl (qM d1.o f4.o b6.o j2.o j3.o b5.o k9 aA aA e4.o F.o i7.o g2.o b7.o.len i8.o c4.o c9.o i6.o)
   go_simp;go_at_call 92
   refine (kK (j1.o.keep fun q D=>⟨MD D z.o.size,fun o=>z.o.cell (p:=⟨q,o,Y⟩) D⟩) f3.o (by have:=e5.o;rw[<-b5.o]at this;omega)).mono ?_;rintro en w5 ⟨k6,A6,n6,c6,rfl,l4⟩;have U:=bK z k6;have m6:=aB l4;clear k6 l4;go_wp2_with fail;refine hK.o _ _ (by exact⟨(U.o.cell (p:=⟨w.heap.size,0,Y⟩) a0).trans q0,(U.o.cell (p:=⟨w.heap.size,1,Y⟩) a0).trans q1,(U.o.cell (p:=⟨bs,os,Y⟩) G).trans n0,(U.o.cell (p:=⟨bs,os+1,Y⟩) G).trans n1,(U.o.cell (p:=⟨bs,os+2,Y⟩) G).trans n2⟩) fun hZ=>?_;clear hK K;try simp only[p7]
   refine r1 4 fun K hK=>?_;go_simp;refine hK.o _ _ (by exact⟨((U.o.alloc U.o.size _).cell (p:=⟨w.heap.size,0,Y⟩) a0).trans q0,((U.o.alloc U.o.size _).cell (p:=⟨w.heap.size,1,Y⟩) a0).trans q1,((U.o.alloc U.o.size _).cell (p:=⟨bs,os,Y⟩) G).trans n0,((U.o.alloc U.o.size _).cell (p:=⟨bs,os+1,Y⟩) G).trans n1,((U.o.alloc U.o.size _).cell (p:=⟨bs,os+2,Y⟩) G).trans n2⟩) fun hZ=>?_;clear hK K;try simp only[p7]
   have HX:Hid (OB W (w5.alloc (.cells #[O X 11,O X sa,O X sb] 42))):=aB (U.o.alloc U.o.size _);have b7:Hid (a6 (· < (w5.alloc (.cells #[O X 11,O X sa,O X sb] 42)).heap.size) (w5.alloc (.cells #[O X 11,O X sa,O X sb] 42)) A6 n6 c6 cc.flatten):=aB (m6.o.keep fun q D=>⟨by have:=D.2;simp;omega,fun o=>(aQ w5 _).cell (p:=⟨q,o,Y⟩) D.2⟩);have g1:Hid (bG (w5.alloc (.cells #[O X 11,O X sa,O X sb] 42)) W.heap.size (Z (I ⟨w5.heap.size,0,Y⟩) 1 1) [⟨11,sa,sb⟩]):=aB (z7 U.o.size);have b4:Hid (bG (w5.alloc (.cells #[O X 11,O X sa,O X sb] 42)) W.heap.size (Z (I ⟨w5.heap.size,0,Y⟩) 1 1) [⟨11,sa,sb⟩]):=aB (g1.o);refine r1 7 fun K hK=>?_;refine cT (.tmp 23) (.tmp 25) 29 29 rfl W.heap.size i0 Try.underlying29 Try.underlying29 i9.o j5.o j6.o j7.o (Z (I ⟨w5.heap.size,0,Y⟩) 1 1) [⟨11,sa,sb⟩] cc.flatten rfl b4.o rfl b7.o (by have:=b7.o.len;have:=e5.o;rw[<-b5.o]at this;simp only[List.length_singleton];omega) HX.o.size ?_;intro A7 c7 w7 a5 a2;have F:Hid (OB W w7):=aB (HX.o.grown a2.grown HX.o.size (fun g hg=>(aV b4.o hg).1));have g2:=aB a5;clear a5 a2;refine hK.o _ _ (by exact⟨(F.o.cell (p:=⟨w.heap.size,0,Y⟩) a0).trans q0,(F.o.cell (p:=⟨w.heap.size,1,Y⟩) a0).trans q1,(F.o.cell (p:=⟨bs,os,Y⟩) G).trans n0,(F.o.cell (p:=⟨bs,os+1,Y⟩) G).trans n1,(F.o.cell (p:=⟨bs,os+2,Y⟩) G).trans n2⟩) fun hZ=>?_;clear hK K;try simp only[p7]
   refine aL 10 hZ ?_;have a1:Hid (aW w7 (w.heap.size+1) 109 #[Z Y 0 0,Z Y 0 0]):=aB ((g3.o.same (e4.o _ aA)).below F.o aA);have p1:=a1.o.cell;have n4:=a1.o.frozen;refine r1 11 fun K hK=>?_;go_simp;refine hK.o _ _ (by exact⟨(aP (MH _ ⟨w.heap.size+1,1,Y⟩ _ w.heap.size (by show w.heap.size≠w.heap.size+1;omega)) 0).trans ((aP (MH _ ⟨w.heap.size+1,0,Y⟩ _ w.heap.size (by show w.heap.size≠w.heap.size+1;omega)) 0).trans ((F.o.cell (p:=⟨w.heap.size,0,Y⟩) a0).trans q0)),(aP (MH _ ⟨w.heap.size+1,1,Y⟩ _ w.heap.size (by show w.heap.size≠w.heap.size+1;omega)) 1).trans ((aP (MH _ ⟨w.heap.size+1,0,Y⟩ _ w.heap.size (by show w.heap.size≠w.heap.size+1;omega)) 1).trans ((F.o.cell (p:=⟨w.heap.size,1,Y⟩) a0).trans q1)),(aP (MH _ ⟨w.heap.size+1,1,Y⟩ _ bs (by show bs≠w.heap.size+1;omega)) os).trans ((aP (MH _ ⟨w.heap.size+1,0,Y⟩ _ bs (by show bs≠w.heap.size+1;omega)) os).trans ((F.o.cell (p:=⟨bs,os,Y⟩) G).trans n0)),(aP (MH _ ⟨w.heap.size+1,1,Y⟩ _ bs (by show bs≠w.heap.size+1;omega)) (os+1)).trans ((aP (MH _ ⟨w.heap.size+1,0,Y⟩ _ bs (by show bs≠w.heap.size+1;omega)) (os+1)).trans ((F.o.cell (p:=⟨bs,(os+1),Y⟩) G).trans n1)),(aP (MH _ ⟨w.heap.size+1,1,Y⟩ _ bs (by show bs≠w.heap.size+1;omega)) (os+2)).trans ((aP (MH _ ⟨w.heap.size+1,0,Y⟩ _ bs (by show bs≠w.heap.size+1;omega)) (os+2)).trans ((F.o.cell (p:=⟨bs,(os+2),Y⟩) G).trans n2))⟩) fun hZ=>?_;clear hK K;try simp only[p7]
   refine wpAnyH_done aC ?_ _;go_wp2_with fail;refine NG (v:=.agg #[Z A7 ([⟨11,sa,sb⟩].length+n6) c7,Z B m d]) (iZ (g:=w.heap.size+1) (by have:=(a1.o.set_ 0 (Z A7 ([(⟨11,sa,sb⟩:Nd)].length+n6) c7)).set_ 1 (Z B m d);simpa using this) aD) rfl (qM d1.o f4.o b6.o j2.o j3.o b5.o k9 aA aA e4.o F.o i7.o g2.o b7.o.len i8.o c4.o c9.o i6.o)
 have l7:so=12:=by
  have:=e6.o;unfold cW at this;rw[<-b6.o,aN c2]at this;by_cases h:so=12
  . exact h
  rw[aN h]at this;cases this
 have k4:=b6.o.symm.trans l7;obtain⟨o8,o9⟩:=pO b3.o.head.okt k4;obtain⟨ip,f0⟩:∃ip:Nat,dG s.1=(ip:Int):=⟨(dG s.1).toNat,by omega⟩;have o2:ip<m:=by
  have:=e6.o;unfold cW at this;rw[<-b6.o,aN c2,LZ l7,f0]at this;by_cases h:ip<m
  . exact h
  rw[aN (by rw[<-m2.o];exact h)]at this;cases this
 have h4:=fun (W:OE) (hB:OB w1 W)=>iW (HI.o.below hB).head b3.o.head.rt k4;rw[f0]at h4;have m4:=aB h4;have d1:Hid (eX s p'=(s.1,s.2.set ip p')):=aB (by unfold eX;rw[<-b6.o,aN c2,f0];rfl);have q2:(so==11)=false:=by simpa using c2
 have m8:=aB (lO d0.o);have l6:xs.length=m:=by have:=c4.o.1;omega
 obtain⟨l9,j4⟩:=OF (xH c4.o m8.o aA) l6;have p2:(ip:Int)<(m:Int):=aA;clear h4 f0 o8 o9 c2;clear l6;go_wp2_with fail;refine (l9.o).mono ?_;rintro en w3 ⟨a7,A3,c3,rfl,a4⟩;rw[j4.o]at a4 ⊢;obtain⟨gk,m9,rfl,k7,b0,d4⟩:=AE a4 aA;obtain⟨f9,m3,f2,p9⟩:=OI a7 a4 b0 k7;have i4:=fun i=>(a7.cell (p:=⟨w.heap.size,i,Y⟩) e0).trans (i3 i);clear a7 a4 b0 d4;go_wp2_with fail;refine (m4.o _ f9.o).mono ?_;rintro en w4 ⟨rfl,e9⟩;have c8:=bK f9 e9;obtain⟨j0,f1⟩:=OF (bY m3.o e9) (f2.o.below e9 f2.o.lt);have q4:=f1.o.frozen;have p4:gk<w4.heap.size:=f1.o.lt;have r2:=fun i=>(c8.o.cell (p:=⟨w.heap.size,i,Y⟩) e0).trans (i3 i);have n9:∃u,w4.cell? ⟨gk,ip,Y⟩=I u:=by
  have h9:=j0.o.cellAt (g:=gk) ip aA;obtain⟨u,hu⟩:∃u,xs[ip]? = I u:=⟨_,MI (by rw[j4.o];exact o2)⟩;exact⟨u,h9.trans hu⟩
 obtain⟨u4,q9⟩:=n9;have j8:=aB (g3.o.below c8.o aA);have k3:=aB (j9.o.below c8.o e0);have o3:w.heap.size≠gk:=aA;have l1:w.heap.size+1≠gk:=aA;have d2:=aB (j8.o.far (p:=⟨gk,ip,Y⟩) l1 (Z Ap np cp));have r0:=d2.o.cell;have q3:=d2.o.frozen;have r3:=(k3.o.far (p:=⟨gk,ip,Y⟩) o3 (Z Ap np cp)).cell;clear e9 i4;go_wp2_with fail;refine NG (v:=.agg #[Z (I ⟨bs,os,Y⟩) n c,Z (I ⟨gk,0,Y⟩) m c3]) (iZ (g:=w.heap.size+1) (by have:=(d2.o.set_ 0 (Z (I ⟨bs,os,Y⟩) n c)).set_ 1 (Z (I ⟨gk,0,Y⟩) m c3);simpa using this) aD) rfl ⟨?_,I ⟨bs,os,Y⟩,n,c,I ⟨gk,0,Y⟩,m,c3,rfl,?_⟩
 . have h9:OB w w4:=e3.o.trans (c8.o.mono e3.o.size);exact ((h9.setCell (p:=⟨gk,ip,Y⟩) (by show w.heap.size<=gk;omega) _).setCell (p:=⟨w.heap.size+1,0,Y⟩) (Nat.le_succ _) _).setCell (p:=⟨w.heap.size+1,1,Y⟩) (Nat.le_succ _) _
 have h9:∀q,q<w1.heap.size->q≠w.heap.size+1->∀o,(((w4.setCell ⟨gk,ip,Y⟩ (Z Ap np cp)).setCell ⟨w.heap.size+1,0,Y⟩ (Z (I ⟨bs,os,Y⟩) n c)).setCell ⟨w.heap.size+1,1,Y⟩ (Z (I ⟨gk,0,Y⟩) m c3)).cell? ⟨q,o,Y⟩=w1.cell? ⟨q,o,Y⟩:=fun q h1 h2 o =>
  (aP (MH _ ⟨w.heap.size+1,1,Y⟩ _ q h2) o).trans ((aP (MH _ ⟨w.heap.size+1,0,Y⟩ _ q h2) o).trans ((aP (MH w4 ⟨gk,ip,Y⟩ _ q (by show q≠gk;omega)) o).trans (c8.o.cell (p:=⟨q,o,Y⟩) h1)))
 have e1:(((w4.setCell ⟨gk,ip,Y⟩ (Z Ap np cp)).setCell ⟨w.heap.size+1,0,Y⟩ (Z (I ⟨bs,os,Y⟩) n c)).setCell ⟨w.heap.size+1,1,Y⟩ (Z (I ⟨gk,0,Y⟩) m c3)).heap.size=w4.heap.size:=by rw[dI,dI,dI]
 have q8:=c8.o.size;have g9:=mQ (base':=lo) (ownsRow_setCell_below (ownsRow_setCell_below (lJ j0.o ip (Z Ap np cp)) (a:=⟨w.heap.size+1,0,Y⟩) (show w.heap.size+1<w1.heap.size by omega) (Z (I ⟨bs,os,Y⟩) n c)) (a:=⟨w.heap.size+1,1,Y⟩) (show w.heap.size+1<w1.heap.size by omega) (Z (I ⟨gk,0,Y⟩) m c3)) aA;rw[d1.o];have d7:∀q,q<w.heap.size->(Value.slice (I ⟨gk,0,Y⟩) m c3).ownBlock≠I q:=fun q D e=>by have e2:gk=q:=(Option.some.inj (show I gk=I q from e));omega
 refine⟨a6.keep m7.o (fun q D=>?_),_,g9,?_⟩
 . exact⟨⟨D.1,by rw[e1];omega,d7 q D.2⟩,h9 q aA aA⟩
 rw[List.map_set];exact a8.setAt (HP.o.keep fun q D=>⟨⟨D.1,by rw[e1];omega,d7 q D.2⟩,h9 q aA aA⟩) ip (a8.keep (fun q D=>⟨⟨D.1,by rw[e1];omega,d7 q D.2⟩,h9 q aA aA⟩) d0.o)
end Go.Proofs.Ytlahmbhimhmoaaa
