/- core: a machine in memory; fits. -/
import Derived.Test.YtlahmbhimhmoaaaVSenseD
namespace Go.Proofs.Ytlahmbhimhmoaaa
set_option linter.unusedVariables false
set_option linter.unusedSimpArgs false
open Go.RowKit
open Go.Value renaming int → O, slice → Z
open Go.IntKind renaming i64 → X
open Option renaming none → Y
open Go.Lib renaming hid->aB
structure oI (R:Nat->Prop) (w:OE) (A:OC) (n c:Nat) (cv:OD):Prop where
 len:cv.length=n
 cap:n<=c
 few:n<=1000000
 nul:A=Y->c=0
 mem:0<n->∃b off,A=some ⟨b,off,Y⟩/\R b/\∀k,k<n->∃A1 n1 c1 A2 n2 c2,w.cell? ⟨b,off+k*2,Y⟩=some (Z A1 n1 c1)/\w.cell? ⟨b,off+k*2+1,Y⟩=some (Z A2 n2 c2)/\a6 R w A2 n2 c2 (cv.getD k [])
theorem oI.keep{R R':Nat->Prop}{w w':OE}{A:OC}{n c:Nat}{cv:OD}(h:oI R w A n c cv)(hR:∀b,R b->R' b/\∀o,w'.cell? ⟨b,o,Y⟩=w.cell? ⟨b,o,Y⟩):oI R' w' A n c cv :=
 ⟨h.len,h.cap,h.few,h.nul,fun hn=>by
  obtain⟨b,off,e,D,hm⟩:=h.mem hn;refine⟨b,off,e,(hR b D).1,fun k hk=>?_⟩;obtain⟨F,n1,I,G,n2,U,s,z,h3⟩:=hm k hk;exact⟨F,n1,I,G,n2,U,((hR b D).2 _).trans s,((hR b D).2 _).trans z,h3.keep hR⟩⟩
structure wS (w0:OE) (g:Nat) (v:bA) (b:Bk) (cA:OC) (cn cc:Nat) (cv:OD) (f:Nat) (w:OE):Prop where
 bel:OB w0 w
 blk:aW w g 134 #[O X b.vars,Z v.Ao v.no v.co,Z v.Ae v.ne v.ce,O X b.nat,Z v.Ap v.np v.cp,Z cA cn cc,O X (f:Int)]
 ge:w0.heap.size<=g
 ctx:oI (fun q=>q<w.heap.size/\q≠g) w cA cn cc cv
section
variable {w0 w w' : OE}{g f cn cc : Nat}{v : bA}{b : Bk}{cA : OC}{cv : OD}
theorem wS.lt(h:wS w0 g v b cA cn cc cv f w):g<w.heap.size:=h.blk.lt
theorem wS.below(h:wS w0 g v b cA cn cc cv f w)(D:OB w w'):wS w0 g v b cA cn cc cv f w':=⟨h.bel.trans (D.mono h.bel.size),h.blk.below D h.blk.lt,h.ge,h.ctx.keep fun q F=>⟨⟨MD F.1 D.size,F.2⟩,fun o=>D.cell (p:=⟨q,o,Y⟩) F.1⟩⟩
end
theorem nO{b:Bk}{free:Int}{x:TT}(U:bJ b free x)(D:x.1.op=11):0<=x.1.a/\x.1.a<(b.entries.length:Int)/\0<=x.1.b/\x.1.b<=1000:=by
 have G:=U.nod x.1 (by simp[aT]);have F:=U.okt.ok;simp only[eU,ME]at F;have h:=gQ F.1.1;have I:=fS F.1.1;unfold cE gN at G;rw[aN aA,aN aA,aN aA,LZ D,ME,MJ]at G;exact⟨h.1,G.1,I.1,I.2⟩
theorem yE{b:Bk}{free:Int}{x:TT}(I:bJ b free x)(D:x.1.op=10):0<=x.1.a/\0<=x.1.b/\x.1.b<((bP b x.1.a).ctors.length:Int):=by
 have G:=I.nod x.1 (by simp[aT]);have F:=I.okt.ok;simp only[eU,ME]at F;have U:=gQ F.1.1;have h:=fS F.1.1;unfold cE at G;rw[aN aA,aN aA,aN aA,aN aA,LZ D,ME,MJ]at G;exact⟨U.1,h.1,G.2⟩
set_option maxRecDepth 100000 in
set_option maxHeartbeats 4000000 in
theorem BJ{w0:OE}{g:Nat}{v:bA}{b:Bk}{cA:OC}{cn cc:Nat}{cv:OD}{f:Nat}{w:OE}(hr:bD b=0)(hb:bO w0 v b)(hw:wS w0 g v b cA cn cc cv f w){nd:Nd}(f5:0<=nd.a)(f6:nd.a<(b.entries.length:Int)){free:Int}{s:Fc}{A B:OC}{ns c m d:Nat}(hs:gJ g w s A ns c B m d)(fs:cG b free s):
 Calls Try.prog 94 #[.pointer (some ⟨g,0,Y⟩),.agg #[O X nd.op,O X nd.a,O X nd.b],.agg #[Z A ns c,Z B m d]] w (e8 (i7 b nd s) w):=by
 obtain⟨F,a7⟩:∃F:Nat,nd.a=(F:Int):=⟨nd.a.toNat,by omega⟩;have f9:=hb.entries.len;have f8:=hb.entries.few;have g1:F<v.ne:=aA;have h6:(F:Int)<(v.ne:Int):=aA;obtain⟨be,oe,ea,a0,u,e0,e1,e2,e3,e4,e5,e6,b1⟩:=hb.entries.at_ g1;have hx:b.entries.getD F default=bP b nd.a:=by rw[a7];rfl
 rw[hx]at e0 b1;obtain⟨x,b9⟩:=OM (bP b nd.a);rw[<-b9]at e0 b1;obtain⟨kd,d7⟩:=OM x.kind;rw[<-d7]at e0;obtain⟨w1,a3⟩:=OM ((w.alloc (.cells #[O X nd.op,O X nd.a,O X nd.b] 42)).alloc (.cells #[Z A ns c,Z B m d] 109));have a4:OB w w1:=by rw[a3];exact cB _ _ _
 have zn:aW w1 w.heap.size 42 #[O X nd.op,O X nd.a,O X nd.b]:=by rw[a3];exact (aW.new _ _ _).alloc _
 have zs:aW w1 (w.heap.size+1) 109 #[Z A ns c,Z B m d]:=by rw[a3];exact aW.new' aD
 have zg:=hw.blk.below a4 hw.blk.lt;have a1:be<w1.heap.size:=MD a0 (MO hw.bel.size a4.size);have U:=(hw.bel.trans (a4.mono hw.bel.size));have x0:=(U.cell (p:=⟨be,oe+F*7,Y⟩) a0).trans e0;have x1:=(U.cell (p:=⟨be,oe+F*7+1,Y⟩) a0).trans e1;have x2:=(U.cell (p:=⟨be,oe+F*7+2,Y⟩) a0).trans e2;have x3:=(U.cell (p:=⟨be,oe+F*7+3,Y⟩) a0).trans e3;have x4:=(U.cell (p:=⟨be,oe+F*7+4,Y⟩) a0).trans e4;have x5:=(U.cell (p:=⟨be,oe+F*7+5,Y⟩) a0).trans e5;have x6:=(U.cell (p:=⟨be,oe+F*7+6,Y⟩) a0).trans e6;have d9:0<ns:=by have:=hs.1.len;rw[<-this];exact eJ _
 obtain⟨bs,os,rfl,b5,h0,h1,h2⟩:=aX.at_ (hs.below a4).head d9;rw[NE,MQ,show bB (aT s.1) 0=s.1.1 from rfl]at h0 h1 h2;obtain⟨so,b8⟩:=OM s.1.1.op;obtain⟨sa,b6⟩:=OM s.1.1.a;obtain⟨sb,b7⟩:=OM s.1.1.b;rw[<-b8]at h0;rw[<-b6]at h1;rw[<-b7]at h2;have d8:s.2.length=m:=by have:=hs.2.1.len;simpa using this
 have c8:=fun h=>yE fs.head h;have g0:g<w1.heap.size:=zg.lt;have g3:w.heap.size<w1.heap.size:=zn.lt;have g5:w.heap.size+1<w1.heap.size:=zs.lt;have c0:=zs.cell 0;have c1:=zn.cell 1;have c2:=zg.cell 2;obtain⟨c5,c6,c3,f3,f4,e9,c4,a6⟩:=OH zn zs a4 (b1.below U) d8 c8 b9 b8;obtain⟨b0,b4,z⟩:=OK b6 b7 a7;obtain⟨b2,a8⟩:=OM (i7 b nd s);rw[<-a8];have a2:=aB a8;have i0:=hs.2.1.few;rw[a7];rw[ea]at c2;rw[a7]at c1;clear hr hb hw f5 f6 hs fs a7 f9 f8 hx b9 d7 a4 zn zs zg U b1 e0 e1 e2 e3 e4 e5 e6 c8 d8 b8 b6 b7 a8;go_in;go_upto_region 1 with fail
 rw[<-z.o,<-a3];rw[z.o];go_cut [7,8] (fun pv ev wx=>∃g7 g8:Nat,pv=.pointer (some ⟨g7,0,Y⟩)/\ev=.pointer (some ⟨g8,0,Y⟩)/\Hid (OB w1 wx)/\Hid (aW wx g7 42 #[O X so,O X sa,O X sb])/\Hid (aW wx g8 49 #[O X kd,Z u.As u.ns u.cs,Z u.Ap u.np u.cp,Z u.Ai u.ni u.ci,Z u.Ac u.nc u.cc,Z u.At u.nt u.ct,Z u.Ab u.nb u.cb]))
 case first =>
  refine wp_region_held_drew (S:=(fun w'=>OB w1 w')) aC ?_ (fun G=>?_)
  . (try dsimp only);exact aU (MC _ _) 1
  have D:Hid (OB w1 w1.drew):=aB (aU (MC _ _) 1);generalize w1.drew=W1 at *;refine aL 0 G ?_;refine tk 1 ?_ (fun wq hSw=>?_) G ?_;rotate_left
  . have f0:=(hSw.cell (p:=⟨w.heap.size+1,0,Y⟩) g5).trans c0;go_simp;try with_reducible rfl
  try simp only[p7]
  refine aL 2 G ?_;refine tk 3 ?_ (fun wq hSw=>?_) G ?_;rotate_left
  . have f0:=(hSw.cell (p:=⟨bs,os,Y⟩) b5).trans h0;have f1:=(hSw.cell (p:=⟨bs,os+1,Y⟩) b5).trans h1;have f2:=(hSw.cell (p:=⟨bs,os+2,Y⟩) b5).trans h2;go_simp;try with_reducible rfl
  try simp only[p7]
  refine aL 4 G ?_;refine aL 5 G ?_;refine aL 6 G ?_;refine aL 7 G ?_;refine tk 8 ?_ (fun wq hSw=>?_) G ?_;rotate_left
  . have f0:=(hSw.cell (p:=⟨g,2,Y⟩) g0).trans c2;go_simp;try with_reducible rfl
  try simp only[p7]
  refine aL 9 G ?_;refine tk 10 ?_ (fun wq hSw=>?_) G ?_;rotate_left
  . have f0:=(hSw.cell (p:=⟨w.heap.size,1,Y⟩) g3).trans c1;go_simp;try with_reducible rfl
  try simp only[p7]
  refine aL 11 G ?_;refine tk 12 ?_ (fun wq hSw=>?_) G ?_;rotate_left
  . have y0:=(hSw.cell (p:=⟨be,oe+F*7,Y⟩) a1).trans x0;have y1:=(hSw.cell (p:=⟨be,oe+F*7+1,Y⟩) a1).trans x1;have y2:=(hSw.cell (p:=⟨be,oe+F*7+2,Y⟩) a1).trans x2;have y3:=(hSw.cell (p:=⟨be,oe+F*7+3,Y⟩) a1).trans x3;have y4:=(hSw.cell (p:=⟨be,oe+F*7+4,Y⟩) a1).trans x4;have y5:=(hSw.cell (p:=⟨be,oe+F*7+5,Y⟩) a1).trans x5;have y6:=(hSw.cell (p:=⟨be,oe+F*7+6,Y⟩) a1).trans x6;go_simp;try with_reducible rfl
  try simp only[p7]
  refine wpAnyH_ready (rs:=[13,14]) aC aD ?_;refine AllReadyH.cons rfl (fun K hK=>?_) (AllReadyH.cons rfl (fun K hK=>?_) (AllReadyH.nil))
  . go_simp;refine hK.o _ _ ?_ (fun G=>?_)
    . (try dsimp only);first|exact D.o.alloc D.o.size _|exact (D.o.alloc D.o.size _).alloc (by simp;exact Nat.le_succ_of_le D.o.size) _
    clear hK K;try simp only[p7]
    refine r1 14 fun K hK=>?_;go_simp;refine hK.o _ _ ?_ (fun G=>?_)
    . (try dsimp only);first|exact D.o.alloc D.o.size _|exact (D.o.alloc D.o.size _).alloc (by simp;exact Nat.le_succ_of_le D.o.size) _
    clear hK K;try simp only[p7]
    refine r1 15 fun K hK=>?_;go_simp;refine hK.o _ _ ?_ (fun G=>?_)
    . (try dsimp only);first|exact D.o.alloc D.o.size _|exact (D.o.alloc D.o.size _).alloc (by simp;exact Nat.le_succ_of_le D.o.size) _
    clear hK K;try simp only[p7]
    refine r1 16 fun K hK=>?_;go_simp;refine hK.o _ _ ?_ (fun G=>?_)
    . (try dsimp only);first|exact D.o.alloc D.o.size _|exact (D.o.alloc D.o.size _).alloc (by simp;exact Nat.le_succ_of_le D.o.size) _
    clear hK K;try simp only[p7]
    refine wpAnyH_done aC ?_ _;go_wp2_with fail;go_meet;exact⟨_,_,rfl,rfl,aB ((D.o.alloc D.o.size _).alloc (by simp;exact Nat.le_succ_of_le D.o.size) _),aB ((aW.new _ _ _).alloc _),aB (aW.new' aD)⟩
  go_simp;refine hK.o _ _ ?_ (fun G=>?_)
  . (try dsimp only);first|exact D.o.alloc D.o.size _|exact (D.o.alloc D.o.size _).alloc (by simp;exact Nat.le_succ_of_le D.o.size) _
  clear hK K;try simp only[p7]
  refine r1 13 fun K hK=>?_;go_simp;refine hK.o _ _ ?_ (fun G=>?_)
  . (try dsimp only);first|exact D.o.alloc D.o.size _|exact (D.o.alloc D.o.size _).alloc (by simp;exact Nat.le_succ_of_le D.o.size) _
  clear hK K;try simp only[p7]
  refine r1 15 fun K hK=>?_;go_simp;refine hK.o _ _ ?_ (fun G=>?_)
  . (try dsimp only);first|exact D.o.alloc D.o.size _|exact (D.o.alloc D.o.size _).alloc (by simp;exact Nat.le_succ_of_le D.o.size) _
  clear hK K;try simp only[p7]
  refine r1 16 fun K hK=>?_;go_simp;refine hK.o _ _ ?_ (fun G=>?_)
  . (try dsimp only);first|exact D.o.alloc D.o.size _|exact (D.o.alloc D.o.size _).alloc (by simp;exact Nat.le_succ_of_le D.o.size) _
  clear hK K;try simp only[p7]
  refine wpAnyH_done aC ?_ _;go_wp2_with fail;go_meet;exact⟨_,_,rfl,rfl,aB ((D.o.alloc D.o.size _).alloc (by simp;exact Nat.le_succ_of_le D.o.size) _),aB (aW.new' aD),aB ((aW.new _ _ _).alloc _)⟩
 case rest =>
 obtain⟨g7,g8,rfl,rfl,a5,d5,d6⟩:=hcut;obtain⟨w2,rfl⟩:=OM wc;have a9:=aB (c3.o.trans (a5.o.mono c3.o.size));have i2:=d5.o.cell;have g9:=d6.o.cell;have h3:=(c5.o.below a5.o c5.o.lt).cell;have i3:=(c6.o.below a5.o c6.o.lt).cell;obtain⟨h4,I⟩:=OF a5.o (f3.o.below a5.o);rw[z.o]at h3;clear a5 d5 d6 x0 x1 x2 x3 x4 x5 x6 h0 h1 h2 c0 c1 c2;by_cases q1:so=10;rotate_left
 . have d1:(so==10)=false:=by simpa using q1
   have hr:b2=false:=by rw[a2.o];unfold i7;rw[<-a6.o,d1];rfl
   have HR:=aB hr;clear q1 hr;go_upto_region 2 with fail
   go_quiet (fail)
   go_wp2_with fail;go_ret;rw[HR.o];exact⟨rfl,aU a9.o _⟩
 have d1:(so==10)=true:=by simpa using q1
 obtain⟨t1,t2,t3⟩:=e9.o (a6.o.symm.trans q1);rw[<-b0.o]at t1 t3;rw[<-b4.o]at t2 t3;clear q1;by_cases q2:sa=(F:Int);rotate_left
 . have d2:(sa==(F:Int))=false:=by simpa using q2
   have hr:b2=false:=by rw[a2.o];unfold i7;rw[<-a6.o,d1,<-b0.o,z.o,d2];rfl
   have HR:=aB hr;clear q2 hr t1 t2 t3;go_upto_region 2 with fail
   go_quiet (fail)
   go_wp2_with fail;go_ret;rw[HR.o];exact⟨rfl,aU a9.o _⟩
 have d2:(sa==(F:Int))=true:=by simpa using q2
 by_cases q3:sb<nd.b;rotate_left
 . have d3:decide (sb<nd.b)=false:=MA q3;have hr:b2=false:=by rw[a2.o];unfold i7;rw[<-a6.o,d1,<-b0.o,z.o,d2,<-b4.o,d3];rfl
   have HR:=aB hr;clear q2 q3 hr t1 t2 t3;go_upto_region 2 with fail
   go_quiet (fail)
   go_wp2_with fail;go_ret;rw[HR.o];exact⟨rfl,aU a9.o _⟩
 have d3:decide (sb<nd.b)=true:=MB q3;obtain⟨ib,d0⟩:∃ib:Nat,sb=(ib:Int):=⟨sb.toNat,by omega⟩;have g6:bP b sa=x:=by rw[c4.o,z.o,q2]
 rw[g6]at t3;have f7:=I.o.ctors.len;have h8:=I.o.ctors.few;have i1:=I.o.params.few;have g4:=I.o.params.len;have b3:ib<u.nc:=aA;have h5:(ib:Int)<(u.nc:Int):=aA;obtain⟨bc,oc,A1,n1,c1,ec,h9,k0,c7⟩:=I.o.ctors.arg_at b3;rw[ec]at g9;have hr:b2=(m==u.np+n1):=by
  rw[a2.o];unfold i7;rw[<-a6.o,d1,<-b0.o,z.o,d2,<-b4.o,d3,<-z.o,<-c4.o,f4.o,g4,d0,show ((ib:Int)).toNat=ib from by omega,c7];rfl
 have d4:((m:Int)==(u.np:Int)+(n1:Int))=(m==u.np+n1):=by
  rw[Bool.eq_iff_iff];simp only[beq_iff_eq];omega
 have h7:n1<=5864062014805:=by
  obtain⟨_,_,_,_,g2⟩:=I.o.ctors.mem aA;obtain⟨A9,n9,c9,_,_,_,_,_,e7,_⟩:=g2 ib b3;have:=e7.len;have:=e7.few;omega
 have HR:=aB hr;subst d0;clear q2 q3 hr t1 t2 t3 f7 c7;generalize (m==u.np+n1)=rb at *;go_upto_region 2 with fail
 go_quiet (fail)
 go_wp2_with fail;go_ret;rw[HR.o];exact⟨rfl,aU a9.o _⟩
end Go.Proofs.Ytlahmbhimhmoaaa
