/- core: with. -/
import Derived.Test.YtjoddliplahgkaaGreatPWhB
namespace Go.Proofs.YtjoddliplahgkaaGreat
set_option linter.unusedVariables false
set_option linter.unusedSimpArgs false
open Go.RowKit
open Go.Value renaming int → O, slice → Z
open Go.IntKind renaming i64 → X
open Option renaming none → Y, some → I
open Go.Lib renaming hid->aB
theorem bS.setAt {S:Nat->Prop} {w:World} {A:Option Addr} {n c:Nat} {l:List Nd} (ht:bJ S w A n c l) : ∀{xs:List Value} {ls:List (List Nd)} (i:Nat),bS S w xs ls->bS S w (xs.set i (Z A n c)) (ls.set i l)
 | [],[],_,_=>trivial
 | [],_::_,_,h=>h.elim
 | _::_,[],_,h=>h.elim
 | x::xs,y::ys,0,h=>⟨⟨A,n,c,rfl,ht⟩,h.2⟩
 | x::xs,y::ys,i+1,h=>⟨h.1,bS.setAt ht i h.2⟩
theorem GY {w:World} {base n d:Nat} {A:Option Addr} {e:TypeId} {xs:List Value} (h:w.ownsRow base e 1 (Z A n d) n xs) (hn:0<n) : ∃gk cur,A=I ⟨gk,0,Y⟩/\base<=gk/\aS w gk e cur/\∀i,i<n->cur[i]? = xs[i]?:=by
 have h0:=h;rcases h.2 with⟨_,h2⟩ | ⟨gk,cap,cur,hv,hg,hh,_⟩
 · omega
 injection hv with e1 e2 e3;subst e1;refine⟨gk,cur,rfl,hg,hh,fun i hi => ?_⟩;have:=h0.cellAt (g:=gk) i aA;rw[<-this];exact (aS.cell (show aS w gk e cur from hh) i).symm
theorem qE {S:Nat->Prop} {w:World} : ∀{xs:List Value} {ls:List (List Nd)},bS S w xs ls->∀u ∈ xs,u.oneCell'=true
 | [],[],_,u,hu=>by cases hu
 | [],_::_,h,_,_=>h.elim
 | _::_,[],h,_,_=>h.elim
 | x::xs,l::ls,h,u,hu=>by
  obtain⟨⟨A,n,c,e,_⟩,h2⟩:=h;rcases List.mem_cons.1 hu with rfl | hu
  · rw[e];rfl
  · exact qE h2 u hu
theorem C0:∀(F:Fo) (n:Nat),Wf (List.replicate n false) F->row F=((cI F).map aW).flatten
 | .nil,_,_=>rfl
 | .cons p nd a k x,0,h=>h.elim
 | .cons p nd a k x,n+1,h=>by
  obtain⟨hp,_,_,_,hx⟩:=h;simp only at hp;subst hp;rw[iW];simp only[row,List.nil_append,List.map_cons,List.flatten_cons,C0 x n hx,aW];simp
theorem JI {b:Bk} {free:Int} {x:TT} (hx:bR b free x) (h11:x.1.op=11):aW x=x.1::((cI x.2.2).map aW).flatten:=by
 obtain⟨n,a,k⟩:=x;have a0:=hx.okt.at_;unfold iR at a0;have a2:n.op=11:=h11;rw[if_neg (by show ¬ n.op=2;omega)] at a0;have hw:=hx.okt.wf;have a1:ds n=List.replicate (dY n.op n.b).toNat false:=by unfold ds;rw[if_neg aA]
 simp only at a0 hw ⊢;rw[a1] at hw;subst a0;simp only[aW,List.nil_append,C0 k _ hw]
theorem CM {w w':World} {base sz n:Nat} {e:TypeId} {v:Value} {xs:List Value} (h:w.ownsRow base e sz v n xs) (hk:∀q,v.ownBlock=I q->w'.heap[q]? = w.heap[q]?):w'.ownsRow base e sz v n xs:=by
 obtain⟨h1,h2⟩:=h;refine⟨h1,?_⟩;rcases h2 with h2 | ⟨b,cap,cur,hv,hb,hh,r⟩
 · exact Or.inl h2
 subst hv;exact Or.inr ⟨b,cap,cur,rfl,hb,(hk b rfl).trans hh,r⟩
theorem lX {w:World} {g:Nat} {c0 c1:Value} {tmps:Array Value} (h:aS w g 78 #[c0,c1]) (ht:tmps.getD 4 undef=.pointer (I ⟨g,0,Y⟩)) :
 (results Tryz.f74 tmps).run Tryz.prog w=.ok (.agg #[c0,c1]) w:=by
 have hc:=h.cell;have a0:tmps[4]?.getD undef=.pointer (I ⟨g,0,Y⟩):=by rw[<-ht];simp
 simp[results,Tryz.results74,go_sem,a0,hc]
def P9 (lo:Nat) (f:Fc) (w:World) (e:Ending) (w':World):Prop:=Below w.heap.size w w'/\∃A n c B m d,e=.returned (.agg #[Z A n c,Z B m d])/\fE lo w' f A n c B m d
theorem CB {b:Bk} {free:Int} {x:TT} (hx:bR b free x):(cI x.2.2).length<=4096:=by
 have h1:=nZ hx.okt.wf;rw[qP hx.okt.ok] at h1;have a0:∀F:Fo,(cI F).length<=(row F).length:=by
  intro F
  induction F with
  | nil=>simp[cI]
  | cons p n a k x _ ih =>
   rw[iW,e7,List.length_cons];have:1<=bI (n,a,k):=by rw[dL];omega
   omega
 have h2:=a0 x.2.2;have h3:=hx.few;have h4:bI x=1+x.2.1.length+(row x.2.2).length:=dL x.1 x.2.1 x.2.2;omega
theorem GU {w:World} {base:Nat} {sa sb:Int} (hb:base<=w.heap.size):bN (w.alloc (.cells #[O X 11,O X sa,O X sb] 46)) base (Z (I ⟨w.heap.size,0,Y⟩) 1 1) [⟨11,sa,sb⟩] :=
 ⟨by simp[i6,gO],.inr ⟨w.heap.size,1,#[O X 11,O X sa,O X sb],rfl,hb,heap_alloc_new w _,by simp,by unfold maxLen;decide,rfl,rfl⟩⟩
theorem vG {s:Fc} {p':TT} {lo:Nat} {w w1 W w7:World} {B A7:Option Addr} {m d n6 c7:Nat} {sa sb:Int} {cc:List (List Nd)} {xs:List Value} {f':Fc} (hwf:f'=((s.1.1,s.1.2.1,fN s.1.2.2 p'),s.2)) (hrow:aW ((s.1.1,s.1.2.1,fN s.1.2.2 p'):TT)=s.1.1::(((cI s.1.2.2).set 1 p').map aW).flatten) (h0:(11:Int)=s.1.1.op) (h1:sa=s.1.1.a) (h2:sb=s.1.1.b) (hcc:cc=((cI s.1.2.2).set 1 p').map aW) (hlo:lo<=w.heap.size) (hsW:w.heap.size+1<W.heap.size) (hw1:w.heap.size+1<w1.heap.size) (hkW:∀q,q<w1.heap.size->W.heap[q]? = w1.heap[q]?) (hB7:Below W.heap.size W w7) (hBW:Below w.heap.size w W) (ho7:bN w7 W.heap.size (Z A7 ([(⟨11,sa,sb⟩:Nd)].length+n6) c7) ([⟨11,sa,sb⟩]++cc.flatten)) (hl6:cc.flatten.length=n6) (hfew:(aW ((s.1.1,s.1.2.1,fN s.1.2.2 p'):TT)).length<=4096) (hown:w1.ownsRow lo 29 1 (Z B m d) m xs) (hrows:bS (iS lo w (Z B m d)) w1 xs (s.2.map aW)) (hbk:∀q,(Value.slice B m d).ownBlock=I q->q<w.heap.size) :
 P9 lo f' w (.returned (.agg #[Z A7 ([(⟨11,sa,sb⟩:Nd)].length+n6) c7,Z B m d])) ((w7.setCell ⟨w.heap.size+1,0,Y⟩ (Z A7 ([(⟨11,sa,sb⟩:Nd)].length+n6) c7)).setCell ⟨w.heap.size+1,1,Y⟩ (Z B m d)):=by
 obtain⟨W9,a1⟩ : ∃W9:World,W9=(w7.setCell ⟨w.heap.size+1,0,Y⟩ (Z A7 ([(⟨11,sa,sb⟩:Nd)].length+n6) c7)).setCell ⟨w.heap.size+1,1,Y⟩ (Z B m d):=⟨_,rfl⟩;have a6:Below w.heap.size w W9:=by
  rw[a1];exact ((hBW.trans (hB7.mono hBW.size)).setCell (p:=⟨w.heap.size+1,0,Y⟩) (Nat.le_succ _) _).setCell (p:=⟨w.heap.size+1,1,Y⟩) (Nat.le_succ _) _
 have a0:W9.heap.size=w7.heap.size:=by rw[a1,gA,gA]
 have a7:=hB7.size;have a3:∀q,q ≠ w.heap.size+1->W9.heap[q]? = w7.heap[q]?:=fun q hq=>by
  rw[a1];exact (Below.heap_setCell _ ⟨w.heap.size+1,1,Y⟩ _ q hq).trans (Below.heap_setCell _ ⟨w.heap.size+1,0,Y⟩ _ q hq)
 have a4:∀q,q<w.heap.size->W9.heap[q]? = w1.heap[q]?:=fun q hq=>(a3 q aA).trans ((hB7.block q aA).trans (hkW q aA));have a5:aW ((s.1.1,s.1.2.1,fN s.1.2.2 p'):TT)=[(⟨11,sa,sb⟩:Nd)]++cc.flatten:=by
  rw[hrow,hcc,h0,h1,h2];rfl
 rw[<-a1];refine⟨a6,_,_,_,_,_,_,rfl,?_⟩;rw[hwf];refine⟨?_,xs,?_,?_⟩
 · show bJ _ _ _ _ _ (aW ((s.1.1,s.1.2.1,fN s.1.2.2 p'):TT));rw[a5] at hfew ⊢;have a2:bN w7 W.heap.size (Z A7 ([(⟨11,sa,sb⟩:Nd)].length+n6) c7) ([⟨11,sa,sb⟩]++cc.flatten):=ho7;obtain⟨A',n',c',e,ht⟩:=bN.termS a2 aA;injection e with e1 e2 e3;subst e1 e2 e3;refine ht.keep fun q hq => ?_;have h8:=aU a2 hq;exact⟨⟨by omega,by rw[a0];exact h8.2.1,fun e=>by have:=hbk q e;omega⟩,fun o=>aQ (a3 q aA) o⟩
 · exact CM hown fun q hq=>a4 q (hbk q hq)
 exact bS.keep (fun q hq=>⟨⟨hq.1,by rw[a0];have:=hq.2.1;omega,hq.2.2⟩,fun o=>aQ (a4 q hq.2.1) o⟩) hrows
set_option maxRecDepth 100000 in
set_option maxHeartbeats 4000000 in
theorem wK {b:Bk} {free:Int} {lo:Nat} {w:World} {s:Fc} {A B Ap:Option Addr} {n c m d np cp:Nat} {p p':TT} (hlo:lo<=w.heap.size) (hs:fE lo w s A n c B m d) (fs:eH b free s) (hsz:dK s<=4096) (hpart:cS s=I p) (hrm:dK s+bI p'<=4096+bI p) (hp:bJ (fun q=>lo<=q/\q<w.heap.size) w Ap np cp (aW p')) (fp:bR b free p') :
 Calls Tryz.prog 74 #[.agg #[Z A n c,Z B m d],Z Ap np cp] w (P9 lo (dU s p') w):=by
 obtain⟨gx,m6⟩ : ∃gx,gx=w.heap.size:=⟨_,rfl⟩;have g9:=hs.len.2;have n5:=eH.argsLen fs hsz;have g3:jU (w.heap.size+5) w s A n c B m d:=by
  obtain⟨h1,xs,h2,h3⟩:=hs;exact⟨h1.keep fun q hq=>⟨⟨hq.2.1,by have:=hq.2.1;omega⟩,fun _=>rfl⟩,nN h2 (by simpa using g9) aA h3 (fun q hq=>⟨hq.2.1,by have:=hq.2.1;omega⟩) (fun q hq=>⟨(aU h2 hq).2.1,by have:=(aU h2 hq).2.1;omega⟩),t8 h2⟩
 obtain⟨bs,os,rfl,p3,h5,h0,h1,h2⟩:=g3.node;obtain⟨so,g0⟩ : ∃z,z=s.1.1.op:=⟨_,rfl⟩;obtain⟨sa,g2⟩ : ∃z,z=s.1.1.a:=⟨_,rfl⟩;obtain⟨sb,g1⟩ : ∃z,z=s.1.1.b:=⟨_,rfl⟩;rw[<-g0] at h0;rw[<-g2] at h1;rw[<-g1] at h2;obtain⟨w1,b0⟩ : ∃w1:World,w1=(w.alloc (.cells #[Z (I ⟨bs,os,Y⟩) n c,Z B m d] 78)).alloc (.cells #[Z Y 0 0,Z Y 0 0] 78):=⟨_,rfl⟩;have b5:Below w.heap.size w w1:=by rw[b0];exact a7 _ _ _
 have zs:aS w1 w.heap.size 78 #[Z (I ⟨bs,os,Y⟩) n c,Z B m d]:=by rw[b0];exact (aS.new _ _ _).alloc _
 have zr:aS w1 (w.heap.size+1) 78 #[Z Y 0 0,Z Y 0 0]:=by rw[b0];exact aS.new' aD
 have k0:=(b5.cell (p:=⟨bs,os,Y⟩) h5).trans h0;have k1:=(b5.cell (p:=⟨bs,os+1,Y⟩) h5).trans h1;have k2:=(b5.cell (p:=⟨bs,os+2,Y⟩) h5).trans h2;have o5:=aB g9;have p4:m<=4096:=aA;obtain⟨e3,xs,b2,a8⟩:=hs;have o0:Hid (bJ (fun q=>lo<=q/\q<w.heap.size) w1 (I ⟨bs,os,Y⟩) n c (aW s.1)):=aB (bJ.keep e3 (R':=fun q=>lo<=q/\q<w.heap.size) (w':=w1) fun q hq=>⟨⟨hq.1,hq.2.1⟩,fun o=>b5.cell (p:=⟨q,o,Y⟩) hq.2.1⟩);have c1:Hid (bS (fun q=>lo<=q/\q<w.heap.size) w1 xs (s.2.map aW)):=aB (bS.keep (fun q hq=>⟨⟨hq.1,hq.2.1⟩,fun o=>b5.cell (p:=⟨q,o,Y⟩) hq.2.1⟩) a8);have c2:Hid (bS (iS lo w (Z B m d)) w1 xs (s.2.map aW)):=aB (bS.keep (fun q hq=>⟨hq,fun o=>b5.cell (p:=⟨q,o,Y⟩) hq.2.1⟩) a8);have l3:Hid (∀q,(Value.slice B m d).ownBlock=I q->q<w.heap.size):=aB (fun q hq=>(aU b2 hq).2.1);have b9:=aB (cB b2 b5);have HI:=aB (g3.below b5);have f8:=aB b5;have c4:=aB fs;have d7:=aB g0;have k7:=aB g2;have k6:=aB g1;have HP:=aB (hp.keep (R':=fun q=>lo<=q/\q<w.heap.size) (w':=w1) fun q hq=>⟨hq,fun o=>b5.cell (p:=⟨q,o,Y⟩) hq.2⟩);have f4:=aB hpart;have j8:=aB zs;have i2:=aB zr;have o7:=aB fp;have o2:=aB hrm;have l6:w1.heap.size=w.heap.size+1+1:=by rw[b0];simp
 have f0:w.heap.size<w1.heap.size:=aA;have i8:=zs.cell;have d3:bs<w1.heap.size:=aA;clear e3 b2 a8 fs g0 g2 g1 b5 zs zr h0 h1 h2 g3 hp hpart m6 fp g9 n5 hrm;go_in;go_upto_region 1 with fail
 rw[<-b0];clear b0;by_cases o11:so=11
 · have f3:=d7.o.symm.trans o11;obtain⟨u0,q0,br,hk,_⟩:=eK c4.o.head.okt f3;have e5:Hid (dU s p'=((s.1.1,s.1.2.1,fN s.1.2.2 p'),s.2)):=aB (by unfold dU;rw[if_pos f3]);have l8:p=eQ s.1 1:=by
    have:=f4.o;unfold cS at this;rw[if_pos f3] at this;injection this with this;exact this.symm
   have b8:=i9 c4.o f4.o o7.o o2.o;rw[e5.o] at b8;have c8:aW ((s.1.1,s.1.2.1,fN s.1.2.2 p'):TT)=s.1.1::(((cI s.1.2.2).set 1 p').map aW).flatten:=by
    have h9:=JI b8.1.head (by exact f3);simp only at h9;rw[h9,uU hk,hk];rfl
   have b4:(aW ((s.1.1,s.1.2.1,fN s.1.2.2 p'):TT)).length<=4096:=b8.1.head.few;have d0:=fun (W:World) (hB:Below w1.heap.size w1 W)=>kZ (HI.o.below hB).head c4.o.head.rt.shape;rw[qF c4.o.head] at d0;have HK:=aB d0;have o6:Hid (1<(cI s.1.2.2).length):=aB (by rw[hk];simp);have e6:=aB c8;have c0:(((cI s.1.2.2).set 1 p').map aW).flatten.length<=4096:=by
    have h9:=b4;rw[c8,List.length_cons] at h9;omega
   have f5:=aB c0;have l1:=aB b4;obtain⟨cc,h4⟩ : ∃l,l=(((cI s.1.2.2).set 1 p').map aW):=⟨_,rfl⟩;have d8:=aB h4;have g5:0<cc.flatten.length:=by
    rw[h4,hk];have h9:=lG u0;simp only[List.set_cons_succ,List.set_cons_zero,List.map_cons,List.flatten_cons,List.length_append];omega
   have e7:=aB g5;obtain⟨i0,j4,e1,e0,d9⟩:=info_parts mN;have l0:=aB j4;have k4:=aB e1;have k3:=aB e0;have j9:=aB d9;subst o11;clear d0 hk l8 b8 c8 b4 c0 h4 j4 e1 e0 d9;go_wp2_with fail;refine (HK.o _ (Below.refl _ _)).mono ?_;rintro en w3 ⟨b7,A3,n3,c3,xs3,rfl,b3,g4⟩;have j3:n3=(cI s.1.2.2).length:=by have h8:=g4.len;rw[List.length_map] at h8;have:=b3.1;omega
   have m1:1<n3:=by have:=o6.o;omega
   have m0:(1:Int)<(n3:Int):=aA;obtain⟨gk,cur,rfl,m7,b1,d2⟩:=GY b3 aA;have m8:=b1.frozen;have m4:gk<w3.heap.size:=b1.lt;have n4:∃u,w3.cell? ⟨gk,1,Y⟩=I u:=by
    have h9:=b3.cellAt (g:=gk) 1 aA;have l5:1<xs3.length:=by have:=b3.1;omega
    exact⟨_,h9.trans (List.getElem?_eq_getElem l5)⟩
   obtain⟨u3,l7⟩:=n4;have p2:=b7.size;obtain⟨W,d4⟩ : ∃W:World,W=w3.setCell ⟨gk,1,Y⟩ (Z Ap np cp):=⟨_,rfl⟩;have n7:W.heap.size=w3.heap.size:=by rw[d4,gA]
   have d1:∀q,q<w1.heap.size->W.heap[q]? = w1.heap[q]?:=fun q hq=>by
    rw[d4];exact (Below.heap_setCell w3 ⟨gk,1,Y⟩ _ q (by show q ≠ gk;omega)).trans (b7.block q hq)
   have f6:=aB d1;have l2:Hid (Below w.heap.size w W):=aB (by rw[d4];exact (f8.o.trans (b7.mono f8.o.size)).setCell (p:=⟨gk,1,Y⟩) (by show w.heap.size<=gk;omega) _);have j6:gI (· < W.heap.size) W (I ⟨gk,0,Y⟩) n3 c3 cc:=by
    rw[d8.o,List.map_set];have g7:=pY b3 1 (Z Ap np cp);rw[<-d4] at g7;refine nN g7 (by rw[List.length_set,List.length_map];exact j3) (by have:=c4.o.head.few;have h8:=CB c4.o.head;omega) (S:=(· < W.heap.size)) (bS.setAt (HP.o.keep fun q hq=>⟨by omega,fun o=>aQ (d1 q aA) o⟩) 1 (bS.keep (fun q hq=>⟨by rw[n7];exact hq.2.1,fun o => ?_⟩) g4)) (fun q hq=>hq) (fun q hq=>(aU g7 hq).2.1);rw[d4];exact aQ (Below.heap_setCell w3 ⟨gk,1,Y⟩ _ q (fun e=>hq.2.2 (by rw[e];rfl))) o
   have k8:=aB j6;have i7:=(j8.o.same (d1 _ f0)).cell;have n0:W.cell? ⟨bs,os,Y⟩=I (O X 11):=(aQ (d1 bs d3) os).trans k0;have n1:W.cell? ⟨bs,os+1,Y⟩=I (O X sa):=(aQ (d1 bs d3) (os+1)).trans k1;have n2:W.cell? ⟨bs,os+2,Y⟩=I (O X sb):=(aQ (d1 bs d3) (os+2)).trans k2;have a1:bs<W.heap.size:=aA;have a5:w.heap.size<W.heap.size:=aA;have i6:=aB b7;have f9:=fun i=>(b7.cell (p:=⟨w.heap.size,i,Y⟩) f0).trans (i8 i);have q0:=i7 0;have q1:=i7 1;clear b7 b3 g4 b1 d2 d1 j6 j3;go_upto_region 4 with fail
   rw[<-d4];clear d4 f9 l7 m8;refine wp_region_held_drew (S:=(fun w'=>w'.cell? ⟨w.heap.size,0,Y⟩=I (Z (I ⟨bs,os,Y⟩) n c)/\w'.cell? ⟨w.heap.size,1,Y⟩=I (Z B m d)/\w'.cell? ⟨bs,os,Y⟩=I (O X 11)/\w'.cell? ⟨bs,os+1,Y⟩=I (O X sa)/\w'.cell? ⟨bs,os+2,Y⟩=I (O X sb))) aC ?_ (fun hZ => ?_)
   · (try dsimp only);exact⟨q0,q1,n0,n1,n2⟩
   have a6:Hid (Below W.heap.size W W.drew):=aB (aT (Below.refl _ _) 1);generalize W.drew=W1 at *;refine aL 0 hZ ?_;refine aL 1 hZ ?_;refine aL 2 hZ ?_;refine aL 3 hZ ?_;refine aL 5 hZ ?_;refine aL 8 hZ ?_;refine aL 9 hZ ?_;refine wpAnyH_ready (rs:=[4,6]) aC aD ?_;refine AllReadyH.cons rfl (fun K hK => ?_) (AllReadyH.cons rfl (fun K hK => ?_) (AllReadyH.nil))
   · go_simp;refine hK.o _ _ (by exact⟨((a6.o.alloc a6.o.size _).cell (p:=⟨w.heap.size,0,Y⟩) a5).trans q0,((a6.o.alloc a6.o.size _).cell (p:=⟨w.heap.size,1,Y⟩) a5).trans q1,((a6.o.alloc a6.o.size _).cell (p:=⟨bs,os,Y⟩) a1).trans n0,((a6.o.alloc a6.o.size _).cell (p:=⟨bs,os+1,Y⟩) a1).trans n1,((a6.o.alloc a6.o.size _).cell (p:=⟨bs,os+2,Y⟩) a1).trans n2⟩) fun hZ => ?_;clear hK K;try simp only[p7]
     have i5:Hid (Below W.heap.size W (W1.alloc (.cells #[O X 11,O X sa,O X sb] 46))):=aB (a6.o.alloc a6.o.size _);refine r1 6 fun K hK => ?_;go_simp;go_at_call 117
     refine (oS (k8.o.keep fun q hq=>⟨Nat.lt_of_lt_of_le hq i5.o.size,fun o=>i5.o.cell (p:=⟨q,o,Y⟩) hq⟩) e7.o (by have:=f5.o;rw[<-d8.o] at this;omega)).mono ?_;rintro en w6 ⟨h6,A6,n6,c6,rfl,j1⟩;have HX:=bZ i5 h6;have d6:Hid (bJ (· < w6.heap.size) w6 A6 n6 c6 cc.flatten):=aB (j1.keep fun q hq=>⟨hq.2,fun _=>rfl⟩);have i4:Hid (bN w6 W.heap.size (Z (I ⟨W1.heap.size,0,Y⟩) 1 1) [⟨11,sa,sb⟩]):=aB (cB (GU a6.o.size) h6);clear h6 j1;go_wp2_with fail;refine hK.o _ _ (by exact⟨(HX.o.cell (p:=⟨w.heap.size,0,Y⟩) a5).trans q0,(HX.o.cell (p:=⟨w.heap.size,1,Y⟩) a5).trans q1,(HX.o.cell (p:=⟨bs,os,Y⟩) a1).trans n0,(HX.o.cell (p:=⟨bs,os+1,Y⟩) a1).trans n1,(HX.o.cell (p:=⟨bs,os+2,Y⟩) a1).trans n2⟩) fun hZ => ?_;clear hK K;try simp only[p7]
     have b6:Hid (bN w6 W.heap.size (Z (I ⟨W1.heap.size,0,Y⟩) 1 1) [⟨11,sa,sb⟩]):=aB (i4.o);refine r1 7 fun K hK => ?_;refine cE (.tmp 23) (.tmp 25) 29 29 rfl W.heap.size i0 Tryz.underlying29 Tryz.underlying29 l0.o k4.o k3.o j9.o (Z (I ⟨W1.heap.size,0,Y⟩) 1 1) [⟨11,sa,sb⟩] cc.flatten rfl b6.o rfl d6.o (by have:=d6.o.len;have:=f5.o;rw[<-d8.o] at this;simp only[List.length_singleton];omega) HX.o.size ?_;intro A7 c7 w7 a3 a4;have a0:Hid (Below W.heap.size W w7):=aB (HX.o.grown a4.grown HX.o.size (fun g hg=>(aU b6.o hg).1));have i3:=aB a3;clear a3 a4;refine hK.o _ _ (by exact⟨(a0.o.cell (p:=⟨w.heap.size,0,Y⟩) a5).trans q0,(a0.o.cell (p:=⟨w.heap.size,1,Y⟩) a5).trans q1,(a0.o.cell (p:=⟨bs,os,Y⟩) a1).trans n0,(a0.o.cell (p:=⟨bs,os+1,Y⟩) a1).trans n1,(a0.o.cell (p:=⟨bs,os+2,Y⟩) a1).trans n2⟩) fun hZ => ?_;clear hK K;try simp only[p7]
     refine aL 10 hZ ?_;have a9:Hid (aS w7 (w.heap.size+1) 78 #[Z Y 0 0,Z Y 0 0]):=aB ((i2.o.same (f6.o _ aA)).below a0.o aA);have l4:=a9.o.cell;have n8:=a9.o.frozen;refine r1 11 fun K hK => ?_;go_simp;refine hK.o _ _ (by exact⟨(aQ (Below.heap_setCell _ ⟨w.heap.size+1,1,Y⟩ _ w.heap.size (by show w.heap.size ≠ w.heap.size+1;omega)) 0).trans ((aQ (Below.heap_setCell _ ⟨w.heap.size+1,0,Y⟩ _ w.heap.size (by show w.heap.size ≠ w.heap.size+1;omega)) 0).trans ((a0.o.cell (p:=⟨w.heap.size,0,Y⟩) a5).trans q0)),(aQ (Below.heap_setCell _ ⟨w.heap.size+1,1,Y⟩ _ w.heap.size (by show w.heap.size ≠ w.heap.size+1;omega)) 1).trans ((aQ (Below.heap_setCell _ ⟨w.heap.size+1,0,Y⟩ _ w.heap.size (by show w.heap.size ≠ w.heap.size+1;omega)) 1).trans ((a0.o.cell (p:=⟨w.heap.size,1,Y⟩) a5).trans q1)),(aQ (Below.heap_setCell _ ⟨w.heap.size+1,1,Y⟩ _ bs (by show bs ≠ w.heap.size+1;omega)) os).trans ((aQ (Below.heap_setCell _ ⟨w.heap.size+1,0,Y⟩ _ bs (by show bs ≠ w.heap.size+1;omega)) os).trans ((a0.o.cell (p:=⟨bs,os,Y⟩) a1).trans n0)),(aQ (Below.heap_setCell _ ⟨w.heap.size+1,1,Y⟩ _ bs (by show bs ≠ w.heap.size+1;omega)) (os+1)).trans ((aQ (Below.heap_setCell _ ⟨w.heap.size+1,0,Y⟩ _ bs (by show bs ≠ w.heap.size+1;omega)) (os+1)).trans ((a0.o.cell (p:=⟨bs,(os+1),Y⟩) a1).trans n1)),(aQ (Below.heap_setCell _ ⟨w.heap.size+1,1,Y⟩ _ bs (by show bs ≠ w.heap.size+1;omega)) (os+2)).trans ((aQ (Below.heap_setCell _ ⟨w.heap.size+1,0,Y⟩ _ bs (by show bs ≠ w.heap.size+1;omega)) (os+2)).trans ((a0.o.cell (p:=⟨bs,(os+2),Y⟩) a1).trans n2))⟩) fun hZ => ?_;clear hK K;try simp only[p7]
     refine wpAnyH_done aC ?_ _;go_wp2_with fail;refine bodyPost_ret (v:=.agg #[Z A7 ([⟨11,sa,sb⟩].length+n6) c7,Z B m d]) (lX (g:=w.heap.size+1) (by have:=(a9.o.set_ 0 (Z A7 ([(⟨11,sa,sb⟩:Nd)].length+n6) c7)).set_ 1 (Z B m d);simpa using this) aD) rfl (vG e5.o e6.o d7.o k7.o k6.o d8.o hlo aA aA f6.o a0.o l2.o i3.o d6.o.len l1.o b9.o c2.o l3.o)
   go_simp;go_at_call 117
   refine (oS (k8.o.keep fun q hq=>⟨Nat.lt_of_lt_of_le hq a6.o.size,fun o=>a6.o.cell (p:=⟨q,o,Y⟩) hq⟩) e7.o (by have:=f5.o;rw[<-d8.o] at this;omega)).mono ?_;rintro en w5 ⟨j5,A6,n6,c6,rfl,j2⟩;have a2:=bZ a6 j5;have o1:=aB j2;clear j5 j2;go_wp2_with fail;refine hK.o _ _ (by exact⟨(a2.o.cell (p:=⟨w.heap.size,0,Y⟩) a5).trans q0,(a2.o.cell (p:=⟨w.heap.size,1,Y⟩) a5).trans q1,(a2.o.cell (p:=⟨bs,os,Y⟩) a1).trans n0,(a2.o.cell (p:=⟨bs,os+1,Y⟩) a1).trans n1,(a2.o.cell (p:=⟨bs,os+2,Y⟩) a1).trans n2⟩) fun hZ => ?_;clear hK K;try simp only[p7]
   refine r1 4 fun K hK => ?_;go_simp;refine hK.o _ _ (by exact⟨((a2.o.alloc a2.o.size _).cell (p:=⟨w.heap.size,0,Y⟩) a5).trans q0,((a2.o.alloc a2.o.size _).cell (p:=⟨w.heap.size,1,Y⟩) a5).trans q1,((a2.o.alloc a2.o.size _).cell (p:=⟨bs,os,Y⟩) a1).trans n0,((a2.o.alloc a2.o.size _).cell (p:=⟨bs,os+1,Y⟩) a1).trans n1,((a2.o.alloc a2.o.size _).cell (p:=⟨bs,os+2,Y⟩) a1).trans n2⟩) fun hZ => ?_;clear hK K;try simp only[p7]
   have HX:Hid (Below W.heap.size W (w5.alloc (.cells #[O X 11,O X sa,O X sb] 46))):=aB (a2.o.alloc a2.o.size _);have d6:Hid (bJ (· < (w5.alloc (.cells #[O X 11,O X sa,O X sb] 46)).heap.size) (w5.alloc (.cells #[O X 11,O X sa,O X sb] 46)) A6 n6 c6 cc.flatten):=aB (o1.o.keep fun q hq=>⟨by have:=hq.2;simp;omega,fun o=>(aP w5 _).cell (p:=⟨q,o,Y⟩) hq.2⟩);have i4:Hid (bN (w5.alloc (.cells #[O X 11,O X sa,O X sb] 46)) W.heap.size (Z (I ⟨w5.heap.size,0,Y⟩) 1 1) [⟨11,sa,sb⟩]):=aB (GU a2.o.size);have b6:Hid (bN (w5.alloc (.cells #[O X 11,O X sa,O X sb] 46)) W.heap.size (Z (I ⟨w5.heap.size,0,Y⟩) 1 1) [⟨11,sa,sb⟩]):=aB (i4.o);refine r1 7 fun K hK => ?_;refine cE (.tmp 23) (.tmp 25) 29 29 rfl W.heap.size i0 Tryz.underlying29 Tryz.underlying29 l0.o k4.o k3.o j9.o (Z (I ⟨w5.heap.size,0,Y⟩) 1 1) [⟨11,sa,sb⟩] cc.flatten rfl b6.o rfl d6.o (by have:=d6.o.len;have:=f5.o;rw[<-d8.o] at this;simp only[List.length_singleton];omega) HX.o.size ?_;intro A7 c7 w7 a3 a4;have a0:Hid (Below W.heap.size W w7):=aB (HX.o.grown a4.grown HX.o.size (fun g hg=>(aU b6.o hg).1));have i3:=aB a3;clear a3 a4;refine hK.o _ _ (by exact⟨(a0.o.cell (p:=⟨w.heap.size,0,Y⟩) a5).trans q0,(a0.o.cell (p:=⟨w.heap.size,1,Y⟩) a5).trans q1,(a0.o.cell (p:=⟨bs,os,Y⟩) a1).trans n0,(a0.o.cell (p:=⟨bs,os+1,Y⟩) a1).trans n1,(a0.o.cell (p:=⟨bs,os+2,Y⟩) a1).trans n2⟩) fun hZ => ?_;clear hK K;try simp only[p7]
   refine aL 10 hZ ?_;have a9:Hid (aS w7 (w.heap.size+1) 78 #[Z Y 0 0,Z Y 0 0]):=aB ((i2.o.same (f6.o _ aA)).below a0.o aA);have l4:=a9.o.cell;have n8:=a9.o.frozen;refine r1 11 fun K hK => ?_;go_simp;refine hK.o _ _ (by exact⟨(aQ (Below.heap_setCell _ ⟨w.heap.size+1,1,Y⟩ _ w.heap.size (by show w.heap.size ≠ w.heap.size+1;omega)) 0).trans ((aQ (Below.heap_setCell _ ⟨w.heap.size+1,0,Y⟩ _ w.heap.size (by show w.heap.size ≠ w.heap.size+1;omega)) 0).trans ((a0.o.cell (p:=⟨w.heap.size,0,Y⟩) a5).trans q0)),(aQ (Below.heap_setCell _ ⟨w.heap.size+1,1,Y⟩ _ w.heap.size (by show w.heap.size ≠ w.heap.size+1;omega)) 1).trans ((aQ (Below.heap_setCell _ ⟨w.heap.size+1,0,Y⟩ _ w.heap.size (by show w.heap.size ≠ w.heap.size+1;omega)) 1).trans ((a0.o.cell (p:=⟨w.heap.size,1,Y⟩) a5).trans q1)),(aQ (Below.heap_setCell _ ⟨w.heap.size+1,1,Y⟩ _ bs (by show bs ≠ w.heap.size+1;omega)) os).trans ((aQ (Below.heap_setCell _ ⟨w.heap.size+1,0,Y⟩ _ bs (by show bs ≠ w.heap.size+1;omega)) os).trans ((a0.o.cell (p:=⟨bs,os,Y⟩) a1).trans n0)),(aQ (Below.heap_setCell _ ⟨w.heap.size+1,1,Y⟩ _ bs (by show bs ≠ w.heap.size+1;omega)) (os+1)).trans ((aQ (Below.heap_setCell _ ⟨w.heap.size+1,0,Y⟩ _ bs (by show bs ≠ w.heap.size+1;omega)) (os+1)).trans ((a0.o.cell (p:=⟨bs,(os+1),Y⟩) a1).trans n1)),(aQ (Below.heap_setCell _ ⟨w.heap.size+1,1,Y⟩ _ bs (by show bs ≠ w.heap.size+1;omega)) (os+2)).trans ((aQ (Below.heap_setCell _ ⟨w.heap.size+1,0,Y⟩ _ bs (by show bs ≠ w.heap.size+1;omega)) (os+2)).trans ((a0.o.cell (p:=⟨bs,(os+2),Y⟩) a1).trans n2))⟩) fun hZ => ?_;clear hK K;try simp only[p7]
   refine wpAnyH_done aC ?_ _;go_wp2_with fail;refine bodyPost_ret (v:=.agg #[Z A7 ([⟨11,sa,sb⟩].length+n6) c7,Z B m d]) (lX (g:=w.heap.size+1) (by have:=(a9.o.set_ 0 (Z A7 ([(⟨11,sa,sb⟩:Nd)].length+n6) c7)).set_ 1 (Z B m d);simpa using this) aD) rfl (vG e5.o e6.o d7.o k7.o k6.o d8.o hlo aA aA f6.o a0.o l2.o i3.o d6.o.len l1.o b9.o c2.o l3.o)
 have o12:so=12:=by
  have:=f4.o;unfold cS at this;rw[<-d7.o,if_neg o11] at this;by_cases h:so=12
  · exact h
  rw[if_neg h] at this;cases this
 have j7:=d7.o.symm.trans o12;obtain⟨pb0,pb1⟩:=lE c4.o.head.okt j7;obtain⟨ip,f1⟩ : ∃ip:Nat,dA s.1=(ip:Int):=⟨(dA s.1).toNat,by omega⟩;have m2:ip<m:=by
  have:=f4.o;unfold cS at this;rw[<-d7.o,if_neg o11,if_pos o12,f1] at this;by_cases h:ip<m
  · exact h
  rw[if_neg (by rw[<-o5.o];exact h)] at this;cases this
 have g6:=fun (W:World) (hB:Below w1.heap.size w1 W)=>lP (HI.o.below hB).head c4.o.head.rt j7;rw[f1] at g6;have o3:=aB g6;have e5:Hid (dU s p'=(s.1,s.2.set ip p')):=aB (by unfold dU;rw[<-d7.o,if_neg o11,f1];rfl);have n9:=aB (qE c1.o);have j0:xs.length=m:=by have:=b9.o.1;omega
 have o8:=aB (D8 b9.o n9.o aA);have k5:=aB j0;have m5:(ip:Int)<(m:Int):=aA;clear g6 f1 pb0 pb1 o11;clear j0;go_wp2_with fail;refine (o8.o).mono ?_;rintro en w3 ⟨b7,A3,c3,rfl,b3⟩;rw[k5.o] at b3 ⊢;obtain⟨gk,cur,rfl,m7,b1,d2⟩:=GY b3 aA;have i6:=aB b7;have o4:=aB b3;have e8:=aB b1;have f9:=fun i=>(b7.cell (p:=⟨w.heap.size,i,Y⟩) f0).trans (i8 i);clear b7 b3 b1 d2;go_wp2_with fail;refine (o3.o _ i6.o).mono ?_;rintro en w4 ⟨rfl,f2⟩;have f7:=bZ i6 f2;have k9:=aB (cB o4.o f2);have e9:=aB (e8.o.below f2 e8.o.lt);have p5:=e9.o.frozen;have m3:gk<w4.heap.size:=e9.o.lt;have m9:∃u,w4.cell? ⟨gk,ip,Y⟩=I u:=by
  have h9:=k9.o.cellAt (g:=gk) ip aA;obtain⟨u,hu⟩ : ∃u,xs[ip]? = I u:=⟨_,List.getElem?_eq_getElem (by rw[k5.o];exact m2)⟩;exact⟨u,h9.trans hu⟩
 obtain⟨u4,p1⟩:=m9;have i1:=aB (i2.o.below f7.o aA);have h7:=aB (j8.o.below f7.o f0);have l9:w.heap.size ≠ gk:=aA;have g8:w.heap.size+1 ≠ gk:=aA;have d5:=aB (i1.o.far (p:=⟨gk,ip,Y⟩) g8 (Z Ap np cp));have p0:=d5.o.cell;have p6:=d5.o.frozen;have o9:=(h7.o.far (p:=⟨gk,ip,Y⟩) l9 (Z Ap np cp)).cell;clear f2 f9;go_wp2_with fail;refine bodyPost_ret (v:=.agg #[Z (I ⟨bs,os,Y⟩) n c,Z (I ⟨gk,0,Y⟩) m c3]) (lX (g:=w.heap.size+1) (by have:=(d5.o.set_ 0 (Z (I ⟨bs,os,Y⟩) n c)).set_ 1 (Z (I ⟨gk,0,Y⟩) m c3);simpa using this) aD) rfl ⟨?_,I ⟨bs,os,Y⟩,n,c,I ⟨gk,0,Y⟩,m,c3,rfl,?_⟩
 · have h9:Below w.heap.size w w4:=f8.o.trans (f7.o.mono f8.o.size);exact ((h9.setCell (p:=⟨gk,ip,Y⟩) (by show w.heap.size<=gk;omega) _).setCell (p:=⟨w.heap.size+1,0,Y⟩) (Nat.le_succ _) _).setCell (p:=⟨w.heap.size+1,1,Y⟩) (Nat.le_succ _) _
 have h9:∀q,q<w1.heap.size->q ≠ w.heap.size+1->∀o,(((w4.setCell ⟨gk,ip,Y⟩ (Z Ap np cp)).setCell ⟨w.heap.size+1,0,Y⟩ (Z (I ⟨bs,os,Y⟩) n c)).setCell ⟨w.heap.size+1,1,Y⟩ (Z (I ⟨gk,0,Y⟩) m c3)).cell? ⟨q,o,Y⟩=w1.cell? ⟨q,o,Y⟩:=fun q h1 h2 o =>
  (aQ (Below.heap_setCell _ ⟨w.heap.size+1,1,Y⟩ _ q h2) o).trans ((aQ (Below.heap_setCell _ ⟨w.heap.size+1,0,Y⟩ _ q h2) o).trans ((aQ (Below.heap_setCell w4 ⟨gk,ip,Y⟩ _ q (by show q ≠ gk;omega)) o).trans (f7.o.cell (p:=⟨q,o,Y⟩) h1)))
 have c5:(((w4.setCell ⟨gk,ip,Y⟩ (Z Ap np cp)).setCell ⟨w.heap.size+1,0,Y⟩ (Z (I ⟨bs,os,Y⟩) n c)).setCell ⟨w.heap.size+1,1,Y⟩ (Z (I ⟨gk,0,Y⟩) m c3)).heap.size=w4.heap.size:=by rw[gA,gA,gA]
 have e4:=rA (base':=lo) (ownsRow_setCell_below (ownsRow_setCell_below (pY k9.o ip (Z Ap np cp)) (a:=⟨w.heap.size+1,0,Y⟩) (show w.heap.size+1<w1.heap.size by omega) (Z (I ⟨bs,os,Y⟩) n c)) (a:=⟨w.heap.size+1,1,Y⟩) (show w.heap.size+1<w1.heap.size by omega) (Z (I ⟨gk,0,Y⟩) m c3)) aA;rw[e5.o];have c9:∀q,q<w.heap.size->(Value.slice (I ⟨gk,0,Y⟩) m c3).ownBlock ≠ I q:=fun q hq e=>by have e2:gk=q:=(Option.some.inj (show I gk=I q from e));omega
 refine⟨bJ.keep o0.o (fun q hq => ?_),_,e4,?_⟩
 · exact⟨⟨hq.1,by rw[c5];omega,c9 q hq.2⟩,h9 q aA aA⟩
 rw[List.map_set];exact bS.setAt (HP.o.keep fun q hq=>⟨⟨hq.1,by rw[c5];omega,c9 q hq.2⟩,h9 q aA aA⟩) ip (bS.keep (fun q hq=>⟨⟨hq.1,by rw[c5];omega,c9 q hq.2⟩,h9 q aA aA⟩) c1.o)
end Go.Proofs.YtjoddliplahgkaaGreat
