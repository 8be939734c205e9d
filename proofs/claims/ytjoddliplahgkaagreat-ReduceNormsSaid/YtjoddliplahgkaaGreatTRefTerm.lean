/- Merged: WhM, Greatest, RefTerm. -/
import Derived.Test.YtjoddliplahgkaaGreatTSenseD
namespace Go.Proofs.YtjoddliplahgkaaGreat
set_option maxHeartbeats 4000000
set_option maxRecDepth 100000
set_option linter.unusedVariables false
set_option linter.unusedSimpArgs false
open Go.RowKit
open Go.Value renaming int → O, slice → Y
open Go.IntKind renaming i64 → X
open Option renaming none → Z, some → I
open Go.Obj renaming cells → J
section
open Go.Lib renaming hid->aB
structure jU (R:Nat->Prop) (w:aAB) (A:ZZ) (n c:Nat) (cv:aAA):Prop where
 len:cv.length=n
 cap:n<=c
 few:n<=1000000
 nul:A=Z->c=0
 mem:0<n->∃b off,A=I ⟨b,off,Z⟩/\R b/\∀k,k<n->∃A1 n1 c1 A2 n2 c2,w.cell? ⟨b,off+k*2,Z⟩=I (Y A1 n1 c1)/\w.cell? ⟨b,off+k*2+1,Z⟩=I (Y A2 n2 c2)/\bF R w A2 n2 c2 (cv.getD k [])
theorem jU.keep{R R':Nat->Prop}{w w':aAB}{A:ZZ}{n c:Nat}{cv:aAA}(h:jU R w A n c cv)(hR:∀b,R b->R' b/\∀o,w'.cell? ⟨b,o,Z⟩=w.cell? ⟨b,o,Z⟩):jU R' w' A n c cv :=
 ⟨h.len,h.cap,h.few,h.nul,fun hn=>by
  obtain⟨b,off,e,D,hm⟩:=h.mem hn;refine⟨b,off,e,(hR b D).1,fun k hk=>?_⟩;obtain⟨F,n1,c1,G,n2,c2,U,s,z⟩:=hm k hk;exact⟨F,n1,c1,G,n2,c2,((hR b D).2 _).trans U,((hR b D).2 _).trans s,z.keep hR⟩⟩
structure yO (w0:aAB) (g:Nat) (v:bR) (b:Bk) (cA:ZZ) (cn cc:Nat) (cv:aAA) (f:Nat) (w:aAB):Prop where
 bel:ZY w0 w
 blk:aT w g 76 #[O X b.vars,Y v.Ao v.no v.co,Y v.Ae v.ne v.ce,O X b.nat,Y v.Ap v.np v.cp,Y cA cn cc,O X (f:Int)]
 ge:w0.heap.size<=g
 ctx:jU (fun q=>q<w.heap.size/\q≠g) w cA cn cc cv
section
variable {w0 w w' : aAB}{g f cn cc : Nat}{v : bR}{b : Bk}{cA : ZZ}{cv : aAA}
theorem yO.lt(h:yO w0 g v b cA cn cc cv f w):g<w.heap.size:=h.blk.lt
theorem yO.below(h:yO w0 g v b cA cn cc cv f w)(D:ZY w w'):yO w0 g v b cA cn cc cv f w':=⟨h.bel.trans (D.mono h.bel.size),h.blk.below D h.blk.lt,h.ge,h.ctx.keep fun q F=>⟨⟨XT F.1 D.size,F.2⟩,fun o=>D.cell (p:=⟨q,o,Z⟩) F.1⟩⟩
end
theorem lI{b:Bk}{free:Int}{x:TT}(h:bO b free x)(D:x.1.op=11):0<=x.1.a/\x.1.a<(b.entries.length:Int)/\0<=x.1.b/\x.1.b<=1000:=by
 have G:=h.nod x.1 (by simp[aW]);have F:=h.okt.ok;simp only[eW,YC]at F;have o:=fZ F.1.1;have U:=iF F.1.1;unfold cP fQ at G;rw[XN aA,XN aA,XN aA,XP D,YC,YJ]at G;exact⟨o.1,G.1,U.1,U.2⟩
theorem p9{b:Bk}{free:Int}{x:TT}(U:bO b free x)(D:x.1.op=10):0<=x.1.a/\0<=x.1.b/\x.1.b<((bP b x.1.a).ctors.length:Int):=by
 have G:=U.nod x.1 (by simp[aW]);have F:=U.okt.ok;simp only[eW,YC]at F;have h:=fZ F.1.1;have o:=iF F.1.1;unfold cP at G;rw[XN aA,XN aA,XN aA,XN aA,XP D,YC,YJ]at G;exact⟨h.1,o.1,G.2⟩
theorem MD{w0:aAB}{g:Nat}{v:bR}{b:Bk}{cA:ZZ}{cn cc:Nat}{cv:aAA}{f:Nat}{w:aAB}(hr:bU b=0)(hb:cE w0 v b)(hw:yO w0 g v b cA cn cc cv f w){nd:Nd}(f5:0<=nd.a)(f6:nd.a<(b.entries.length:Int)){free:Int}{s:Fc}{A B:ZZ}{ns c m d:Nat}(hs:j6 g w s A ns c B m d)(fs:dM b free s):
 Calls Tryz.prog 109 #[.pointer (I ⟨g,0,Z⟩),.agg #[O X nd.op,O X nd.a,O X nd.b],.agg #[Y A ns c,Y B m d]] w (gT (fA b nd s) w):=by
 obtain⟨F,a8⟩:∃F:Nat,nd.a=(F:Int):=⟨nd.a.toNat,by omega⟩;have f8:=hb.entries.len;have g0:F<v.ne:=aA;have h4:(F:Int)<(v.ne:Int):=aA;obtain⟨be,oe,ea,a1,u,e0,e1,e2,e3,e4,e5,e6,b2⟩:=hb.entries.at_ g0;have hx:b.entries.getD F default=bP b nd.a:=by rw[a8];rfl
 rw[hx]at e0 b2;obtain⟨x,c3⟩:=aAJ (bP b nd.a);rw[<-c3]at e0 b2;obtain⟨kd,d8⟩:=aAJ x.kind;rw[<-d8]at e0;obtain⟨w1,a4⟩:=aAJ ((w.alloc (J #[O X nd.op,O X nd.a,O X nd.b] 46)).alloc (J #[Y A ns c,Y B m d] 78));have a5:ZY w w1:=by rw[a4];exact bS _ _ _
 have zn:aT w1 w.heap.size 46 #[O X nd.op,O X nd.a,O X nd.b]:=by rw[a4];exact (aT.new _ _ _).alloc _
 have zs:aT w1 (w.heap.size+1) 78 #[Y A ns c,Y B m d]:=by rw[a4];exact aT.new' aD
 have zg:=hw.blk.below a5 hw.blk.lt;have a2:be<w1.heap.size:=XT a1 (YE hw.bel.size a5.size);have z:=(hw.bel.trans (a5.mono hw.bel.size));have x0:=(z.cell (p:=⟨be,oe+F*7,Z⟩) a1).trans e0;have x1:=(z.cell (p:=⟨be,oe+F*7+1,Z⟩) a1).trans e1;have x2:=(z.cell (p:=⟨be,oe+F*7+2,Z⟩) a1).trans e2;have x3:=(z.cell (p:=⟨be,oe+F*7+3,Z⟩) a1).trans e3;have x4:=(z.cell (p:=⟨be,oe+F*7+4,Z⟩) a1).trans e4;have x5:=(z.cell (p:=⟨be,oe+F*7+5,Z⟩) a1).trans e5;have x6:=(z.cell (p:=⟨be,oe+F*7+6,Z⟩) a1).trans e6;have e7:0<ns:=by have:=hs.1.len;rw[<-this];exact iH _
 obtain⟨bs,os,rfl,b6,h0,h1,h2⟩:=aX.at_ (hs.below a5).head e7;rw[YU,YF,show bC (aW s.1) 0=s.1.1 from rfl]at h0 h1 h2;obtain⟨so,b9⟩:=aAJ s.1.1.op;obtain⟨sa,b7⟩:=aAJ s.1.1.a;obtain⟨sb,b8⟩:=aAJ s.1.1.b;rw[<-b9]at h0;rw[<-b7]at h1;rw[<-b8]at h2;have d9:s.2.length=m:=by have:=hs.2.1.len;simpa using this
 have d0:=fun h=>p9 fs.head h;have f9:g<w1.heap.size:=zg.lt;have g2:w.heap.size<w1.heap.size:=zn.lt;have g4:w.heap.size+1<w1.heap.size:=zs.lt;have c0:=zs.cell 0;have c1:=zn.cell 1;have c2:=zg.cell 2;obtain⟨c6,c7,c4,f3,f4,e9,c5,a6⟩:=aAG zn zs a5 (b2.below z) d9 d0 c3 b9;obtain⟨b1,b5,a0⟩:=aAF b7 b8 a8;obtain⟨b3,a9⟩:=aAJ (fA b nd s);rw[<-a9];have a3:=aB a9;rw[a8];rw[ea]at c2;rw[a8]at c1;clear hr hb hw f5 f6 hs fs a8 f8 hx c3 d8 a5 zn zs zg z b2 e0 e1 e2 e3 e4 e5 e6 d0 d9 b9 b7 b8 a9;go_in;go_upto_region 1 with fail
 rw[<-a0.o,<-a4];rw[a0.o];go_cut [7,8] (fun pv ev wx=>∃g7 g8:Nat,pv=.pointer (I ⟨g7,0,Z⟩)/\ev=.pointer (I ⟨g8,0,Z⟩)/\Hid (ZY w1 wx)/\Hid (aT wx g7 46 #[O X so,O X sa,O X sb])/\Hid (aT wx g8 61 #[O X kd,Y u.As u.ns u.cs,Y u.Ap u.np u.cp,Y u.Ai u.ni u.ci,Y u.Ac u.nc u.cc,Y u.At u.nt u.ct,Y u.Ab u.nb u.cb]))
 case first =>
  refine wp_region_held_drew (S:=(fun w'=>ZY w1 w')) aC ?_ (fun G=>?_)
  . (try dsimp only);exact aU (XS _ _) 1
  have D:Hid (ZY w1 w1.drew):=aB (aU (XS _ _) 1);generalize w1.drew=W1 at *;refine aL 0 G ?_;refine tk 1 ?_ (fun wq hSw=>?_) G ?_;rotate_left
  . have f0:=(hSw.cell (p:=⟨w.heap.size+1,0,Z⟩) g4).trans c0;go_simp;try with_reducible rfl
  try simp only[p7]
  refine aL 2 G ?_;refine tk 3 ?_ (fun wq hSw=>?_) G ?_;rotate_left
  . have f0:=(hSw.cell (p:=⟨bs,os,Z⟩) b6).trans h0;have f1:=(hSw.cell (p:=⟨bs,os+1,Z⟩) b6).trans h1;have f2:=(hSw.cell (p:=⟨bs,os+2,Z⟩) b6).trans h2;go_simp;try with_reducible rfl
  try simp only[p7]
  refine aL 4 G ?_;refine aL 5 G ?_;refine aL 6 G ?_;refine aL 7 G ?_;refine tk 8 ?_ (fun wq hSw=>?_) G ?_;rotate_left
  . have f0:=(hSw.cell (p:=⟨g,2,Z⟩) f9).trans c2;go_simp;try with_reducible rfl
  try simp only[p7]
  refine aL 9 G ?_;refine tk 10 ?_ (fun wq hSw=>?_) G ?_;rotate_left
  . have f0:=(hSw.cell (p:=⟨w.heap.size,1,Z⟩) g2).trans c1;go_simp;try with_reducible rfl
  try simp only[p7]
  refine aL 11 G ?_;refine tk 12 ?_ (fun wq hSw=>?_) G ?_;rotate_left
  . have y0:=(hSw.cell (p:=⟨be,oe+F*7,Z⟩) a2).trans x0;have y1:=(hSw.cell (p:=⟨be,oe+F*7+1,Z⟩) a2).trans x1;have y2:=(hSw.cell (p:=⟨be,oe+F*7+2,Z⟩) a2).trans x2;have y3:=(hSw.cell (p:=⟨be,oe+F*7+3,Z⟩) a2).trans x3;have y4:=(hSw.cell (p:=⟨be,oe+F*7+4,Z⟩) a2).trans x4;have y5:=(hSw.cell (p:=⟨be,oe+F*7+5,Z⟩) a2).trans x5;have y6:=(hSw.cell (p:=⟨be,oe+F*7+6,Z⟩) a2).trans x6;go_simp;try with_reducible rfl
  try simp only[p7]
  refine wpAnyH_ready (rs:=[13,14]) aC aD ?_;refine AllReadyH.cons rfl (fun K hK=>?_) (AllReadyH.cons rfl (fun K hK=>?_) (AllReadyH.nil))
  . go_simp;refine hK.o _ _ ?_ (fun G=>?_)
    . (try dsimp only);first|exact D.o.alloc D.o.size _|exact (D.o.alloc D.o.size _).alloc (by simp;exact Nat.le_succ_of_le D.o.size) _
    clear hK K;try simp only[p7]
    refine r1 14 fun K hK=>?_;go_simp;refine hK.o _ _ ?_ (fun G=>?_)
    . (try dsimp only);first|exact D.o.alloc D.o.size _|exact (D.o.alloc D.o.size _).alloc (by simp;exact Nat.le_succ_of_le D.o.size) _
    clear hK K;try simp only[p7]
    refine r1 15 fun K hK=>?_;go_simp;refine hK.o _ _ ?_ (fun G=>?_)
    . (try dsimp only);first|exact D.o.alloc D.o.size _|exact (D.o.alloc D.o.size _).alloc (by simp;exact Nat.le_succ_of_le D.o.size) _
    clear hK K;try simp only[p7]
    refine r1 16 fun K hK=>?_;go_simp;refine hK.o _ _ ?_ (fun G=>?_)
    . (try dsimp only);first|exact D.o.alloc D.o.size _|exact (D.o.alloc D.o.size _).alloc (by simp;exact Nat.le_succ_of_le D.o.size) _
    clear hK K;try simp only[p7]
    refine wpAnyH_done aC ?_ _;go_wp2_with fail;go_meet;exact⟨_,_,rfl,rfl,aB ((D.o.alloc D.o.size _).alloc (by simp;exact Nat.le_succ_of_le D.o.size) _),aB ((aT.new _ _ _).alloc _),aB (aT.new' aD)⟩
  go_simp;refine hK.o _ _ ?_ (fun G=>?_)
  . (try dsimp only);first|exact D.o.alloc D.o.size _|exact (D.o.alloc D.o.size _).alloc (by simp;exact Nat.le_succ_of_le D.o.size) _
  clear hK K;try simp only[p7]
  refine r1 13 fun K hK=>?_;go_simp;refine hK.o _ _ ?_ (fun G=>?_)
  . (try dsimp only);first|exact D.o.alloc D.o.size _|exact (D.o.alloc D.o.size _).alloc (by simp;exact Nat.le_succ_of_le D.o.size) _
  clear hK K;try simp only[p7]
  refine r1 15 fun K hK=>?_;go_simp;refine hK.o _ _ ?_ (fun G=>?_)
  . (try dsimp only);first|exact D.o.alloc D.o.size _|exact (D.o.alloc D.o.size _).alloc (by simp;exact Nat.le_succ_of_le D.o.size) _
  clear hK K;try simp only[p7]
  refine r1 16 fun K hK=>?_;go_simp;refine hK.o _ _ ?_ (fun G=>?_)
  . (try dsimp only);first|exact D.o.alloc D.o.size _|exact (D.o.alloc D.o.size _).alloc (by simp;exact Nat.le_succ_of_le D.o.size) _
  clear hK K;try simp only[p7]
  refine wpAnyH_done aC ?_ _;go_wp2_with fail;go_meet;exact⟨_,_,rfl,rfl,aB ((D.o.alloc D.o.size _).alloc (by simp;exact Nat.le_succ_of_le D.o.size) _),aB (aT.new' aD),aB ((aT.new _ _ _).alloc _)⟩
 case rest =>
 obtain⟨g7,g8,rfl,rfl,a7,d6,d7⟩:=hcut;obtain⟨w2,rfl⟩:=aAJ wc;have b0:=aB (c4.o.trans (a7.o.mono c4.o.size));have h9:=d6.o.cell;have g6:=d7.o.cell;have g9:=(c6.o.below a7.o c6.o.lt).cell;have i0:=(c7.o.below a7.o c7.o.lt).cell;have U:=aB (f3.o.below a7.o);rw[a0.o]at g9;clear a7 d6 d7 x0 x1 x2 x3 x4 x5 x6 h0 h1 h2 c0 c1 c2;by_cases q1:so=10;rotate_left
 . have d1:(so==10)=false:=by simpa using q1
   have hr:b3=false:=by rw[a3.o];unfold fA;rw[<-a6.o,d1];rfl
   have HR:=aB hr;clear q1 hr;go_upto_region 2 with fail
   go_quiet (fail)
   go_wp2_with fail;go_ret;rw[HR.o];exact⟨rfl,aU b0.o _⟩
 have d1:(so==10)=true:=by simpa using q1
 obtain⟨t1,t2,t3⟩:=e9.o (a6.o.symm.trans q1);rw[<-b1.o]at t1 t3;rw[<-b5.o]at t2 t3;clear q1;by_cases q2:sa=(F:Int);rotate_left
 . have d2:(sa==(F:Int))=false:=by simpa using q2
   have hr:b3=false:=by rw[a3.o];unfold fA;rw[<-a6.o,d1,<-b1.o,a0.o,d2];rfl
   have HR:=aB hr;clear q2 hr t1 t2 t3;go_upto_region 2 with fail
   go_quiet (fail)
   go_wp2_with fail;go_ret;rw[HR.o];exact⟨rfl,aU b0.o _⟩
 have d2:(sa==(F:Int))=true:=by simpa using q2
 by_cases q3:sb<nd.b;rotate_left
 . have d3:decide (sb<nd.b)=false:=XQ q3;have hr:b3=false:=by rw[a3.o];unfold fA;rw[<-a6.o,d1,<-b1.o,a0.o,d2,<-b5.o,d3];rfl
   have HR:=aB hr;clear q2 q3 hr t1 t2 t3;go_upto_region 2 with fail
   go_quiet (fail)
   go_wp2_with fail;go_ret;rw[HR.o];exact⟨rfl,aU b0.o _⟩
 have d3:decide (sb<nd.b)=true:=XR q3;obtain⟨ib,d5⟩:∃ib:Nat,sb=(ib:Int):=⟨sb.toNat,by omega⟩;have g5:bP b sa=x:=by rw[c5.o,a0.o,q2]
 rw[g5]at t3;have f7:=U.o.ctors.len;have h6:=U.o.ctors.few;have h8:=U.o.params.few;have g3:=U.o.params.len;have b4:ib<u.nc:=aA;have h3:(ib:Int)<(u.nc:Int):=aA;obtain⟨bc,oc,A1,n1,c1,ec,h7,k0,c8⟩:=U.o.ctors.arg_at b4;rw[ec]at g6;have hr:b3=(m==u.np+n1):=by
  rw[a3.o];unfold fA;rw[<-a6.o,d1,<-b1.o,a0.o,d2,<-b5.o,d3,<-a0.o,<-c5.o,f4.o,g3,d5,show ((ib:Int)).toNat=ib from by omega,c8];rfl
 have d4:((m:Int)==(u.np:Int)+(n1:Int))=(m==u.np+n1):=by
  rw[YK];simp only[beq_iff_eq];omega
 have h5:n1<=5864062014805:=by
  obtain⟨_,_,_,_,g1⟩:=U.o.ctors.mem aA;obtain⟨A9,n9,c9,_,_,_,_,_,e8,_⟩:=g1 ib b4;have:=e8.len;have:=e8.few;omega
 have HR:=aB hr;subst d5;clear q2 q3 hr t1 t2 t3 f7 c8;generalize (m==u.np+n1)=rb at *;go_upto_region 2 with fail
 go_quiet (fail)
 go_wp2_with fail;go_ret;rw[HR.o];exact⟨rfl,aU b0.o _⟩
end
section
open Go.Lib renaming hid->aB
theorem yR(m:Nat) (ih:∀(w:aAB)(R:Nat->Prop)(xs:List Value)(n:Nd)(atoms:List Nd)(kids:Fo)(u:Int),(∀b,R b->b<w.heap.size)->cJ R w xs n atoms kids->eW n=true->dI kids->0<=u->u+4*aY kids<=1000000000000->aY kids<m →
      Calls Tryz.prog 102 #[.agg xs.toArray,O X u] w (eO (sM n kids u) w))
 (w:aAB) (R:Nat->Prop) (xs:List Value) (n:Nd) (atoms:List Nd) (kids:Fo) (u:Int) (hR:∀b,R b->b<w.heap.size) (ht:cJ R w xs n atoms kids) (a0:eW n=true) (b4:dI kids) (e3:0<=u) (b2:u+4*aY kids<=1000000000000) (c0:aY kids<=m) :
 Calls Tryz.prog 102 #[.agg xs.toArray,O X u] w (eO (sM n kids u) w):=by
 have HI:=aB ih;clear ih;obtain⟨sk,sa,sf,rfl,⟨Ak,nk,ck,rfl,b0⟩,⟨Aa,na,ca,rfl,e0⟩,⟨Af,nf,cf,rfl,e1⟩⟩:=ht;have d3:=(fZ ((by simp only[eW,YC]at a0;exact a0.1.1):cD n.op n.a n.b=true));by_cases U:n.op=1
 . have c9:(n.op==1)=true:=by simp[U]
   have H1:=aB U;have e4:u<=1000000000000:=aA;clear U b2;obtain⟨d6,d7⟩:=d3;go_in;go_wp2_with fail;all_goals
    go_ret;refine⟨cW ?_,aQ _ _⟩;simp only[sM,XP H1.o];omega
 have c9:(n.op==1)=false:=by simp[U]
 obtain⟨H1,HU,c7,b3,c5⟩:=aAD U b2 c0 b0.len a0;have e2:nk<=1000000000000000:=by
  have U:=eP kids;have h2:=b0.len;omega
 clear U b2 c0 a0;go_in;go_wp2_with fail;go_loopw [5,6] (fun v i wr=>∃(F1 F2:Fo)(j:Nat)(t:Int),kids=F1.app F2/\bE F1=j/\v=O X t/\i=O X (j:Int)/\-1<=t/\max t (MW n.op n.b j u F2)=MW n.op n.b 0 u kids/\ZY w wr ∧
  aT wr w.heap.size 85 #[O X n.op,O X n.a,O X n.b,Y Ak nk ck,Y Aa na ca,Y Af nf cf]) (fun _ i _=>nk-(intOf i).toNat)
 case atStart=>exact⟨.nil,kids,0,-1,rfl,rfl,rfl,rfl,YI _,KR _ _ _ _ _,aQ _ _,aT.new _ _ _⟩
 case round =>
  obtain⟨F1,F2,j,t,hk,hj,rfl,rfl,ht,he,F,D⟩:=hrel;obtain⟨HK,HJ,HE,HT⟩:=aAE hk hj he ht;have a6:=b0.keep (R':=R) (w':=wr) (fun b hb=>⟨hb,fun o=>F.cell (p:=⟨b,o,Z⟩) (hR b hb)⟩);have zc:=aT.cell D;clear he ht;cases F2 with
  | nil =>
   have b7:j=nk:=by rw[<-b3.o,hk,bN,hj];rfl
   have d5:¬ j<nk:=aA;clear hk hj b7;go_wp2_with fail;go_ret;refine⟨cW ?_,F⟩;have U:=HE.o;have h2:=HT.o;simp only[sM,XN H1.o,<-U,MW];omega
  | cons pre nd h ks F2 =>
   have b7:j<nk:=by rw[<-b3.o,hk,bN,hj];simp[bE]
   have a5:eX R wr Ak nk ck (F1.app (.cons pre nd h ks F2)):=by rw[<-hk];exact a6
   obtain⟨b,off,a3,a1,a2,rfl,d4,b1,g0,g1,g2,g3,g4,g5⟩:=a5.at_;rw[hj]at g0 g1 g2 g3 g4 g5;obtain⟨_,b8,a8,_⟩:=(dI.app F1 _).1 (hk ▸ b4);have d1:b<w.heap.size:=hR b d4;clear hk hj a5 a6;have hB:w.heap.size<wr.heap.size:=aT.lt D;obtain⟨d8,d9⟩:=dY c5.o (j:Int);have d2:u+4*(aY F1+(aY ks+aY F2+1))<=1000000000000:=by
    have:=HU.o;rw[HK.o,dQ]at this;simp only[aY]at this;omega
   have a4:aY ks<m:=by
    have:=c7.o;rw[HK.o,dQ]at this;simp only[aY]at this;omega
   have hw:IntKind.i64.wrap (u+aR n.op n.b (j:Int))=u+aR n.op n.b (j:Int):=IntWalk.i64_in _ aA;have b5:0<=u+aR n.op n.b (j:Int):=aA;have b6:u+aR n.op n.b (j:Int)+4*aY ks<=1000000000000:=aA;obtain⟨c2,c3,c4⟩:=aAF b5 b6 a4;have c1:∀W:World,ZY wr W->cJ R W [O X nd.op,O X nd.a,O X nd.b,a3,a1,a2] nd h ks:=fun W hW =>
    b1.keep fun b' s=>⟨s,fun o=>hW.cell (p:=⟨b',o,Z⟩) (XT (hR b' s) F.size)⟩
   have b9:∀W:World,ZY wr W->∀b',R b'->b'<W.heap.size:=fun W hW b' s=>XT (hR b' s) (YE F.size hW.size);have G:∀W:World,ZY wr W->(W.cell? ⟨w.heap.size,0,Z⟩=I (O X n.op)/\W.cell? ⟨w.heap.size,1,Z⟩=I (O X n.a)/\W.cell? ⟨w.heap.size,2,Z⟩=I (O X n.b)/\W.cell? ⟨w.heap.size,3,Z⟩=I (Y (I ⟨b,off,Z⟩) nk ck) ∧
    W.cell? ⟨b,off+j*6,Z⟩=I (O X nd.op)/\W.cell? ⟨b,off+j*6+1,Z⟩=I (O X nd.a)/\W.cell? ⟨b,off+j*6+2,Z⟩=I (O X nd.b)/\W.cell? ⟨b,off+j*6+3,Z⟩=I a3/\W.cell? ⟨b,off+j*6+4,Z⟩=I a1/\W.cell? ⟨b,off+j*6+5,Z⟩=I a2):=fun W hW=>by
    have hB:∀o,W.cell? ⟨w.heap.size,o,Z⟩=wr.cell? ⟨w.heap.size,o,Z⟩:=fun o=>hW.cell (p:=⟨w.heap.size,o,Z⟩) hB;have hC:∀o,W.cell? ⟨b,o,Z⟩=wr.cell? ⟨b,o,Z⟩:=fun o=>hW.cell (p:=⟨b,o,Z⟩) (XT d1 F.size);rw[hB,hB,hB,hB,hC,hC,hC,hC,hC,hC];exact⟨D.cell 0,D.cell 1,D.cell 2,D.cell 3,g0,g1,g2,g3,g4,g5⟩
   have z:=G wr (XS _ _);obtain⟨c8,c6,a7⟩:=aAF c1 b9 G;clear b5 b6 d2 a4 c1 b9 G zc g0 g1 g2 g3 g4 g5;by_cases hm:t<sM nd ks (u+aR n.op n.b (j:Int));all_goals
    obtain⟨g0,g1,g2,g3,g4,g5,g6,g7,g8,g9⟩:=z;go_wp2_with fail;go_region_held3 (fun w'=>w'.cell? ⟨w.heap.size,0,Z⟩=I (O X n.op)/\w'.cell? ⟨w.heap.size,1,Z⟩=I (O X n.a)/\w'.cell? ⟨w.heap.size,2,Z⟩=I (O X n.b)/\w'.cell? ⟨w.heap.size,3,Z⟩=I (Y (I ⟨b,off,Z⟩) nk ck) ∧
     w'.cell? ⟨b,off+j*6,Z⟩=I (O X nd.op)/\w'.cell? ⟨b,off+j*6+1,Z⟩=I (O X nd.a)/\w'.cell? ⟨b,off+j*6+2,Z⟩=I (O X nd.b)/\w'.cell? ⟨b,off+j*6+3,Z⟩=I a3/\w'.cell? ⟨b,off+j*6+4,Z⟩=I a1/\w'.cell? ⟨b,off+j*6+5,Z⟩=I a2) (first|go_keep|exact a7.o _ a9)
     (first
      | (go_at_call 125;refine (kK _ _ _ _ _ aA).mono ?_;rintro e w2 ⟨rfl,rfl⟩)
      | (go_at_call 102;refine (HI.o _ R [O X nd.op,O X nd.a,O X nd.b,a3,a1,a2] nd h ks _ (c6.o _ (((XS _ _).alloc (XU _) _).drew)) (c8.o _ (((XS _ _).alloc (XU _) _).drew)) b8 a8 c2.o c3.o c4.o).mono ?_;rintro e w3 ⟨rfl,d0⟩;have a9:ZY wr w3:=mO (((XS _ _).alloc (XU _) _).drew) d0 (XU _)))
    go_wp2_with fail;go_roundw
    case rel =>
     refine⟨F1.app (.cons pre nd h ks .nil),F2,j+1,_,by rw[HK.o,cV];rfl,by rw[bN];simp[bE,HJ.o],rfl,by go_num,?_,?_,F.trans (a9.mono F.size),D.below a9 hB⟩
     . have:=HT.o;omega
     have U:=HE.o;rw[vX]at U;rw[<-U];omega
    case measure=>simp[intOf];omega
theorem qW:∀(m:Nat)(w:aAB)(R:Nat->Prop)(D:List Value)(n:Nd)(atoms:List Nd)(kids:Fo)(u:Int),(∀b,R b->b<w.heap.size)->cJ R w D n atoms kids->eW n=true->dI kids->0<=u->u+4*aY kids<=1000000000000->aY kids<m →
      Calls Tryz.prog 102 #[.agg D.toArray,O X u] w (eO (sM n kids u) w)
 | 0,_,_,_,_,_,_,_,_,_,_,_,_,_,h=>absurd h aA
 | m+1,w,R,D,n,atoms,kids,u,F,G,U,o,s,z,h7=>yR m (qW m) w R D n atoms kids u F G U o s z aA
theorem CL{w:aAB}{R:Nat->Prop}{G:List Value}{n:Nd}{atoms:List Nd}{kids:Fo}{u:Int}(hR:∀b,R b->b<w.heap.size)(ht:cJ R w G n atoms kids)(F:eW n=true)(D:dI kids)(U:0<=u)(h:u+4*aY kids<=1000000000000):
 Calls Tryz.prog 102 #[.agg G.toArray,O X u] w (eO (sM n kids u) w) :=
 qW (aY kids+1) w R G n atoms kids u hR ht F D U h (YL _)
end
section
open Go.Lib renaming hid->aB
set_option maxHeartbeats 2000000
set_option maxRecDepth 100000
theorem FU{l:List Nd}(h:l.length<=4096)(D:a6 l≠0):a6 l=8:=by
 unfold a6 at D ⊢;rw[XN aA]at D ⊢;split
 . rename_i F
   rw[XP F]at D;exact absurd rfl D
 rfl
theorem QU{l:List Nd}(h:4096<l.length):a6 l=9:=by
 unfold a6;rw[XP h]
theorem kC{k:IntKind}{a b:Int}(h:a=b):Ending.returned (.int k a)=.returned (.int k b):=by rw[h]
theorem wV{l:List Nd}{w w':aAB}{e:Ending}(h:iX l w e w'):ZY w w' ∧
 ((e=.returned (.tuple #[dR,O X 0,.bool false])/\(l.length<=4096->a6 l=8)) ∨
  ∃xs n D k m,e=.returned (.tuple #[.agg xs.toArray,O X (m:Nat),.bool true])/\cJ (eC w w') w' xs n D k/\m<=l.length/\((m=l.length/\pp [false] l=I (.cons [] n D k .nil,[])/\(l.length<=4096->a6 l=0))\/(m<l.length/\(l.length<=4096->a6 l=8)))):=by
 obtain⟨hb,h⟩:=h;refine⟨hb,?_⟩;cases hp:pp [false] l with
 | none =>
  rw[hp]at h;refine .inl ⟨h,fun o=>FU o fun h0=>?_⟩;obtain⟨_,n,D,k,G,_⟩:=eN h0;rw[hp]at G;cases G
 | some p =>
  obtain⟨F,r⟩:=p;have hw:=i9 hp;cases F with
  | nil=>exact hw.elim
  | cons pr n D k x =>
   cases x with
   | cons _ _ _ _ _=>exact hw.2.2.2.2.elim
   | nil =>
    obtain⟨z,_⟩:=hw;simp only at z;subst z;rw[hp]at h;obtain⟨xs,he,ht⟩:=h;have s:=qC hp;refine .inr ⟨xs,n,D,k,_,he,ht,Nat.sub_le _ _,?_⟩;have U:r.length<=l.length:=by rw[s];simp
    cases r with
    | nil =>
     refine .inl ⟨by simp,rfl,fun o=>t7 hp o⟩
    | cons y r =>
     simp only[YA]at U ⊢;refine .inr ⟨by omega,fun o=>FU o fun h0=>?_⟩;obtain⟨_,n,D,k,G,_⟩:=eN h0;rw[hp]at G;cases G
theorem gY{A:ZZ}{nn c:Nat}{l:List Nd}{w:aAB}(h:aX w A nn c l):
 Calls Tryz.prog 55 #[Y A nn c] w (eO (a6 l) w):=by
 have a7:=h.few;have D:=h.len;by_cases h1:4096<nn
 . have a3:decide ((4096:Int)<(nn:Int))=true:=by simp;omega
   have F:a6 l=9:=QU aA;clear h1 h D;go_in;go_wp2_with fail;go_ret;exact⟨kC F.symm,XS _ _⟩
 have a3:decide ((4096:Int)<(nn:Int))=false:=by simp;omega
 have hl:l.length<=4096:=aA;obtain⟨HL,U,H⟩:=aAF hl D h;clear h1 hl D h;go_in;go_wp2_with fail;refine (FH H.o).mono ?_;intro e w2 hr;obtain⟨hb,⟨rfl,F⟩|⟨xs,n,a8,k,m,rfl,ht,hm,hc⟩⟩:=wV hr
 . have a5:=F HL.o;have G:=aB hb;clear F hb hr;unfold dR;go_wp2_with fail;go_ret;refine⟨kC a5.symm,?_⟩;exact G.o.alloc G.o.size _
 obtain⟨sk,sa,sf,rfl,⟨Ak,nk,ck,rfl,a2⟩,⟨Aa,na,ca,rfl,a0⟩,⟨Af,nf,cf,rfl,a1⟩⟩:=ht;rcases hc with⟨s,a4,F⟩|⟨s,F⟩
 . have hg:((m:Int) != (nn:Int))=false:=by simp;have:=U.o;omega
   have z:=F HL.o;have G:=aB hb;clear F hb hr a4 hm s a2 a0 a1;go_wp2_with fail;go_ret;refine⟨kC z.symm,?_⟩;exact G.o.alloc G.o.size _
 have hg:((m:Int) != (nn:Int))=true:=by simp;have:=U.o;omega
 have z:=F HL.o;have G:=aB hb;clear F hb hr hm s a2 a0 a1;go_wp2_with fail;go_ret;refine⟨kC z.symm,?_⟩;exact G.o.alloc G.o.size _
def UG(l:List Nd)(w:aAB)(e:Ending)(w':aAB):Prop:=ZY w w' ∧
 ((a6 l≠0/\e=.returned (.tuple #[dR,.bool false]))\/∃F n D k,e=.returned (.tuple #[.agg F.toArray,.bool true])/\cJ (eC w w') w' F n D k/\pp [false] l=I (.cons [] n D k .nil,[])/\a6 l=0)
theorem xD{w:aAB}{g:Nat}{c0 c1 c2 c3 c4 c5:Value}{D:Array Value}(h:aT w g 85 #[c0,c1,c2,c3,c4,c5])(ht:D.getD 2 undef=.pointer (I ⟨g,0,Z⟩)):
 (results Tryz.f44 D).run Tryz.prog w=.ok (.tuple #[.agg #[c0,c1,c2,c3,c4,c5],D.getD 3 undef]) w:=by
 have G:=h.cell;have F:D[2]?.getD undef=.pointer (I ⟨g,0,Z⟩):=by rw[<-ht];simp
 simp[results,Tryz.results44,go_sem,F,G]
theorem LL{w:aAB}{g b:Nat}(D:b≠g)(F G U h o s:Value):((((((w.setCell ⟨g,0,Z⟩ F).setCell ⟨g,1,Z⟩ G).setCell ⟨g,2,Z⟩ U).setCell ⟨g,3,Z⟩ h).setCell ⟨g,4,Z⟩ o).setCell ⟨g,5,Z⟩ s).heap[b]? = w.heap[b]?:=by
 rw[XZ _ _ _ _ D,XZ _ _ _ _ D,XZ _ _ _ _ D,XZ _ _ _ _ D,XZ _ _ _ _ D,XZ _ _ _ _ D]
theorem FW{w:aAB}{g:Nat}(D F G U h o:Value):((((((w.setCell ⟨g,0,Z⟩ D).setCell ⟨g,1,Z⟩ F).setCell ⟨g,2,Z⟩ G).setCell ⟨g,3,Z⟩ U).setCell ⟨g,4,Z⟩ h).setCell ⟨g,5,Z⟩ o).heap.size=w.heap.size:=by
 simp[World.setCell]
theorem kG{A:ZZ}{nn c:Nat}{l:List Nd}{w:aAB}(h:aX w A nn c l):
 Calls Tryz.prog 44 #[Y A nn c] w (UG l w):=by
 have s:=aQ w (J #[O X 0,O X 0,O X 0,Y Z 0 0,Y Z 0 0,Y Z 0 0] 85);have h1:aX (w.alloc (J #[O X 0,O X 0,O X 0,Y Z 0 0,Y Z 0 0,Y Z 0 0] 85)) A nn c l:=h.below s;have hz:aT (w.alloc (J #[O X 0,O X 0,O X 0,Y Z 0 0,Y Z 0 0,Y Z 0 0] 85)) w.heap.size 85 #[O X 0,O X 0,O X 0,Y Z 0 0,Y Z 0 0,Y Z 0 0]:=aT.new _ _ _;by_cases hs:a6 l=0;rotate_left
 . have b5:(a6 l != 0)=true:=by simp[hs]
   obtain⟨HS,H1,HZ,U⟩:=aAE hs h1 hz s;clear hs h h1 hz s;go_in;go_wp2_with fail;refine (gY H1.o).mono ?_;rintro e w2 ⟨rfl,D⟩;have G:=HZ.o.below D HZ.o.lt;have zc:=aT.cell G;have zf:=aT.frozen G;have F:=U.o.trans (D.mono U.o.size);obtain⟨a0,a1⟩:=aAC F G;clear D F G;go_wp2_with fail;exact XW (v:=.tuple #[dR,.bool false]) (xD ((((((a1.o.set_ 0 _).set_ 1 _).set_ 2 _).set_ 3 _).set_ 4 _).set_ 5 _) rfl) rfl ⟨eV a0.o (XU _) _ _ _ _ _ _,.inl ⟨HS.o,rfl⟩⟩
 have b5:(a6 l != 0)=false:=by simp[hs]
 obtain⟨HS,H1,HZ,U⟩:=aAE hs h1 hz s;clear hs h h1 hz s;go_in;go_wp2_with fail;refine (gY H1.o).mono ?_;rintro e w2 ⟨rfl,D⟩;have h2:=H1.o.below D;have G:=HZ.o.below D HZ.o.lt;have b1:=G.lt;have F:=U.o.trans (D.mono U.o.size);obtain⟨a0,a1⟩:=aAC F G;clear D F G;go_wp2_with fail;refine (FH h2).mono ?_;intro e w3 hr;obtain⟨hb,⟨rfl,b4⟩|⟨xs,n,a2,k,m,rfl,ht,hm,hc⟩⟩:=wV hr
 . have hl:=(eN HS.o).1;have:=b4 hl;rw[HS.o]at this;cases this
 have hl:=(eN HS.o).1;obtain⟨_,a4,_⟩:m=l.length/\pp [false] l=I (.cons [] n a2 k .nil,[])/\(l.length<=4096->a6 l=0):=by
  rcases hc with hc|⟨_,hc⟩
  . exact hc
  have:=hc hl;rw[HS.o]at this;cases this
 have HT:=aB ht;obtain⟨sk,sa,sf,rfl,⟨Ak,nk,ck,rfl,b2⟩,⟨Aa,na,ca,rfl,a8⟩,⟨Af,nf,cf,rfl,b0⟩⟩:=ht;have z:=(a1.o.below hb b1).alloc (J #[O X n.op,O X n.a,O X n.b,Y Ak nk ck,Y Aa na ca,Y Af nf cf] 85);have zc:=aT.cell z;have zf:=aT.frozen z;have a3:aT (w3.alloc (J #[O X n.op,O X n.a,O X n.b,Y Ak nk ck,Y Aa na ca,Y Af nf cf] 85)) w3.heap.size 85 #[O X n.op,O X n.a,O X n.b,Y Ak nk ck,Y Aa na ca,Y Af nf cf]:=aT.new _ _ _;have yc:=aT.cell a3;have a5:=aB a4;have HB:=bY a0 hb;have a7:=aB z;clear z a3 a4 hb hr hc hm b2 a8 b0;go_wp2_with fail;refine XW (v:=.tuple #[.agg #[O X n.op,O X n.a,O X n.b,Y Ak nk ck,Y Aa na ca,Y Af nf cf],.bool true]) (xD ((((((a7.o.set_ 0 _).set_ 1 _).set_ 2 _).set_ 3 _).set_ 4 _).set_ 5 _) rfl) rfl ⟨eV (HB.o.alloc HB.o.size _) (XU _) _ _ _ _ _ _,.inr ⟨_,n,a2,k,rfl,HT.o.keep (fun b hb=>?_),a5.o,HS.o⟩⟩;obtain⟨b6,a9⟩:=hb;have b3:b≠w.heap.size:=aA;refine⟨⟨by omega,?_⟩,fun o=>?_⟩
 . rw[FW];have:=(aQ w3 (J #[O X n.op,O X n.a,O X n.b,Y Ak nk ck,Y Aa na ca,Y Af nf cf] 85)).size;omega
 rw[aP (LL b3 _ _ _ _ _ _) o];exact aP ((aQ w3 _).block b a9) o
theorem CM(w:aAB):Calls Tryz.prog 102 #[.agg #[O X 0,O X 0,O X 0,Y Z 0 0,Y Z 0 0,Y Z 0 0],O X 0] w (eO (-1) w):=by
 go_in;go_wp2_with fail;go_loopw [5,6] (fun v i wr=>v=O X (-1)/\i=O X 0/\ZY w wr/\aT wr w.heap.size 85 #[O X 0,O X 0,O X 0,Y Z 0 0,Y Z 0 0,Y Z 0 0]) (fun _ _ _=>0)
 case atStart=>exact⟨rfl,rfl,aQ _ _,aT.new _ _ _⟩
 case round =>
  obtain⟨rfl,rfl,F,D⟩:=hrel;have G:=aT.cell D;go_wp2_with fail;go_ret;exact⟨rfl,F⟩
theorem C2{A:ZZ}{nn c:Nat}{l:List Nd}{w:aAB}(h:aX w A nn c l)(v:Int):
 Calls Tryz.prog 56 #[Y A nn c,O X v] w (qL (gH l v) w):=by
 by_cases hs:a6 l=0;rotate_left
 . have hf:gH l v=false:=by simp[gH,hs]
   have HS:=aB hs;clear hs;go_in;go_wp2_with fail;refine (kG h).mono ?_;rintro e U ⟨D,⟨_,rfl⟩|⟨_,_,_,_,_,_,_,h9⟩⟩;rotate_left
   . exact absurd h9 HS.o
   have a2:=aB D;clear D;unfold dR;have yc:=aT.cell (aT.new U 85 #[O X 0,O X 0,O X 0,Y Z 0 0,Y Z 0 0,Y Z 0 0]);go_wp2_with fail;refine (CM _).mono ?_;rintro e w4 ⟨rfl,G⟩;have F:=a2.o.alloc a2.o.size (J #[O X 0,O X 0,O X 0,Y Z 0 0,Y Z 0 0,Y Z 0 0] 85);have z:=F.trans (G.mono F.size);go_wp2_with fail;go_ret;rw[hf];exact⟨rfl,z⟩
 have HS:=aB hs;clear hs;go_in;go_wp2_with fail;refine (kG h).mono ?_;rintro e U ⟨D,⟨h9,_⟩|⟨xs,n,b3,k,rfl,ht,a1,_⟩⟩
 . exact absurd HS.o h9
 have HT:=aB ht;obtain⟨sk,sa,sf,rfl,⟨Ak,nk,ck,rfl,b7⟩,⟨Aa,na,ca,rfl,b4⟩,⟨Af,nf,cf,rfl,b5⟩⟩:=ht;clear b7 b4 b5;have a0:=aQ U (J #[O X n.op,O X n.a,O X n.b,Y Ak nk ck,Y Aa na ca,Y Af nf cf] 85);have a5:aT (U.alloc (J #[O X n.op,O X n.a,O X n.b,Y Ak nk ck,Y Aa na ca,Y Af nf cf] 85)) U.heap.size 85 #[O X n.op,O X n.a,O X n.b,Y Ak nk ck,Y Aa na ca,Y Af nf cf]:=aT.new _ _ _;have b2:Hid (cJ (eC w U) (U.alloc (J #[O X n.op,O X n.a,O X n.b,Y Ak nk ck,Y Aa na ca,Y Af nf cf] 85)) [O X n.op,O X n.a,O X n.b,Y Ak nk ck,Y Aa na ca,Y Af nf cf] n b3 k):=aB (HT.o.keep fun b hb=>⟨hb,fun o=>aP (a0.block b hb.2) o⟩);have a4:∀b,eC w U b->b<(U.alloc (J #[O X n.op,O X n.a,O X n.b,Y Ak nk ck,Y Aa na ca,Y Af nf cf] 85)).heap.size:=fun b hb=>by have:=a0.size;have:=hb.2;omega
 have F:=D.alloc D.size (J #[O X n.op,O X n.a,O X n.b,Y Ak nk ck,Y Aa na ca,Y Af nf cf] 85);have yc:=aT.cell a5;obtain⟨b0,b1,a3⟩:=aAF a1 a4 F;obtain⟨a7,b9,c0,s,a8,a9,b8,b6⟩:=pD HS.o a1;clear a1 a5 a4 F D a0;have hf:=GS HS.o b0.o v;have hu:0+4*(aY k:Int)<=1000000000000:=aA;clear b9 c0 a8 a9 b8 b6;go_wp2_with fail;refine (CL b1.o b2.o a7 s (YI _) hu).mono ?_;rintro e w4 ⟨rfl,G⟩;have z:=a3.o.trans (G.mono a3.o.size);clear G s a7 hu;generalize sM n k 0=g at hf ⊢;cases hg:decide (g<0);all_goals
  rw[hg]at hf;have HF:=aB hf;clear hf;go_wp2_with fail;go_ret;exact⟨by rw[HF.o];rfl,z⟩
end
end Go.Proofs.YtjoddliplahgkaaGreat
