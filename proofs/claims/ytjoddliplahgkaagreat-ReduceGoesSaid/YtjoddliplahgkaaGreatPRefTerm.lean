/- Merged: WhM, Greatest, RefTerm. -/
import Derived.Test.YtjoddliplahgkaaGreatPSenseD
namespace Go.Proofs.YtjoddliplahgkaaGreat
set_option linter.unusedVariables false
set_option linter.unusedSimpArgs false
open Go.RowKit
open Go.Value renaming int → O, slice → Y
open Go.IntKind renaming i64 → X
open Option renaming none → Z, some → I
open Go.Obj renaming cells → J
section
open Go.Lib renaming hid->aB
structure jI (R:Nat->Prop) (w:World) (A:Option Addr) (n c:Nat) (cv:List (List Nd)):Prop where
 len:cv.length=n
 cap:n<=c
 few:n<=1000000
 nul:A=Z->c=0
 mem:0<n->∃b off,A=I ⟨b,off,Z⟩/\R b/\∀k,k<n->∃A1 n1 c1 A2 n2 c2,w.cell? ⟨b,off+k*2,Z⟩=I (Y A1 n1 c1)/\w.cell? ⟨b,off+k*2+1,Z⟩=I (Y A2 n2 c2)/\bJ R w A2 n2 c2 (cv.getD k [])
theorem jI.keep {R R':Nat->Prop} {w w':World} {A:Option Addr} {n c:Nat} {cv:List (List Nd)} (h:jI R w A n c cv) (hR:∀b,R b->R' b/\∀o,w'.cell? ⟨b,o,Z⟩=w.cell? ⟨b,o,Z⟩):jI R' w' A n c cv :=
 ⟨h.len,h.cap,h.few,h.nul,fun hn=>by
  obtain⟨b,off,e,hb,hm⟩:=h.mem hn;refine⟨b,off,e,(hR b hb).1,fun k hk => ?_⟩;obtain⟨A1,n1,c1,A2,n2,c2,h1,h2,h3⟩:=hm k hk;exact⟨A1,n1,c1,A2,n2,c2,((hR b hb).2 _).trans h1,((hR b hb).2 _).trans h2,h3.keep hR⟩⟩
structure AN (w0:World) (g:Nat) (v:bO) (b:Bk) (cA:Option Addr) (cn cc:Nat) (cv:List (List Nd)) (f:Nat) (w:World):Prop where
 bel:Below w0.heap.size w0 w
 blk:aS w g 76 #[O X b.vars,Y v.Ao v.no v.co,Y v.Ae v.ne v.ce,O X b.nat,Y v.Ap v.np v.cp,Y cA cn cc,O X (f:Int)]
 ge:w0.heap.size<=g
 ctx:jI (fun q=>q<w.heap.size/\q ≠ g) w cA cn cc cv
section
variable {w0 w w' : World} {g f cn cc : Nat} {v : bO} {b : Bk} {cA : Option Addr} {cv : List (List Nd)}
theorem AN.lt (h:AN w0 g v b cA cn cc cv f w):g<w.heap.size:=h.blk.lt
theorem AN.below (h:AN w0 g v b cA cn cc cv f w) (hb:Below w.heap.size w w'):AN w0 g v b cA cn cc cv f w':=⟨h.bel.trans (hb.mono h.bel.size),h.blk.below hb h.blk.lt,h.ge,h.ctx.keep fun q hq=>⟨⟨Nat.lt_of_lt_of_le hq.1 hb.size,hq.2⟩,fun o=>hb.cell (p:=⟨q,o,Z⟩) hq.1⟩⟩
end
theorem kM {b:Bk} {free:Int} {x:TT} (hx:bR b free x) (h11:x.1.op=11):0<=x.1.a/\x.1.a<(b.entries.length:Int)/\0<=x.1.b/\x.1.b<=1000:=by
 have hn:=hx.nod x.1 (by simp[aW]);have h3:=hx.okt.ok;simp only[eN,Bool.and_eq_true] at h3;have h4:=fM h3.1.1;have h5:=gT h3.1.1;unfold cN fG at hn;rw[if_neg aA,if_neg aA,if_neg aA,if_pos h11,Bool.and_eq_true,decide_eq_true_eq] at hn;exact⟨h4.1,hn.1,h5.1,h5.2⟩
theorem oU {b:Bk} {free:Int} {x:TT} (hx:bR b free x) (h10:x.1.op=10):0<=x.1.a/\0<=x.1.b/\x.1.b<((bK b x.1.a).ctors.length:Int):=by
 have hn:=hx.nod x.1 (by simp[aW]);have h3:=hx.okt.ok;simp only[eN,Bool.and_eq_true] at h3;have h4:=fM h3.1.1;have h5:=gT h3.1.1;unfold cN at hn;rw[if_neg aA,if_neg aA,if_neg aA,if_neg aA,if_pos h10,Bool.and_eq_true,decide_eq_true_eq] at hn;exact⟨h4.1,h5.1,hn.2⟩
set_option maxRecDepth 100000 in
set_option maxHeartbeats 4000000 in
theorem IW {w0:World} {g:Nat} {v:bO} {b:Bk} {cA:Option Addr} {cn cc:Nat} {cv:List (List Nd)} {f:Nat} {w:World} (hr:bP b=0) (hb:bX w0 v b) (hw:AN w0 g v b cA cn cc cv f w) {nd:Nd} (ha0:0<=nd.a) (ha1:nd.a<(b.entries.length:Int)) {free:Int} {s:Fc} {A B:Option Addr} {ns c m d:Nat} (hs:jU g w s A ns c B m d) (fs:eH b free s) :
 Calls Tryz.prog 109 #[.pointer (I ⟨g,0,Z⟩),.agg #[O X nd.op,O X nd.a,O X nd.b],.agg #[Y A ns c,Y B m d]] w (gC (eS b nd s) w):=by
 obtain⟨ia,b2⟩ : ∃ia:Nat,nd.a=(ia:Int):=⟨nd.a.toNat,by omega⟩;have g9:=hb.entries.len;have g4:ia<v.ne:=aA;have g3:(ia:Int)<(v.ne:Int):=aA;obtain⟨be,oe,ea,a5,u,e0,e1,e2,e3,e4,e5,e6,b5⟩:=hb.entries.at_ g4;have hx:b.entries.getD ia default=bK b nd.a:=by rw[b2];rfl
 rw[hx] at e0 b5;obtain⟨x,b8⟩ : ∃x,x=bK b nd.a:=⟨_,rfl⟩;rw[<-b8] at e0 b5;obtain⟨kd,d5⟩ : ∃k,k=x.kind:=⟨_,rfl⟩;rw[<-d5] at e0;obtain⟨w1,a2⟩ : ∃w1:World,w1=(w.alloc (J #[O X nd.op,O X nd.a,O X nd.b] 46)).alloc (J #[Y A ns c,Y B m d] 78):=⟨_,rfl⟩;have b0:Below w.heap.size w w1:=by rw[a2];exact a7 _ _ _
 have zn:aS w1 w.heap.size 46 #[O X nd.op,O X nd.a,O X nd.b]:=by rw[a2];exact (aS.new _ _ _).alloc _
 have zs:aS w1 (w.heap.size+1) 78 #[Y A ns c,Y B m d]:=by rw[a2];exact aS.new' aD
 have zg:=hw.blk.below b0 hw.blk.lt;have a9:be<w1.heap.size:=Nat.lt_of_lt_of_le a5 (Nat.le_trans hw.bel.size b0.size);have a3:=(hw.bel.trans (b0.mono hw.bel.size));have x0:=(a3.cell (p:=⟨be,oe+ia*7,Z⟩) a5).trans e0;have x1:=(a3.cell (p:=⟨be,oe+ia*7+1,Z⟩) a5).trans e1;have x2:=(a3.cell (p:=⟨be,oe+ia*7+2,Z⟩) a5).trans e2;have x3:=(a3.cell (p:=⟨be,oe+ia*7+3,Z⟩) a5).trans e3;have x4:=(a3.cell (p:=⟨be,oe+ia*7+4,Z⟩) a5).trans e4;have x5:=(a3.cell (p:=⟨be,oe+ia*7+5,Z⟩) a5).trans e5;have x6:=(a3.cell (p:=⟨be,oe+ia*7+6,Z⟩) a5).trans e6;have c5:0<ns:=by have:=hs.1.len;rw[<-this];exact lG _
 obtain⟨bs,os,rfl,c6,h0,h1,h2⟩:=aY.at_ (hs.below b0).head c5;rw[Nat.zero_mul,Nat.add_zero,show bD (aW s.1) 0=s.1.1 from rfl] at h0 h1 h2;obtain⟨so,b9⟩ : ∃z,z=s.1.1.op:=⟨_,rfl⟩;obtain⟨sa,c4⟩ : ∃z,z=s.1.1.a:=⟨_,rfl⟩;obtain⟨sb,c3⟩ : ∃z,z=s.1.1.b:=⟨_,rfl⟩;rw[<-b9] at h0;rw[<-c4] at h1;rw[<-c3] at h2;have d0:s.2.length=m:=by have:=hs.2.1.len;simpa using this
 have d9:=fun h=>oU fs.head h;have g6:g<w1.heap.size:=zg.lt;have g0:w.heap.size<w1.heap.size:=zn.lt;have f8:w.heap.size+1<w1.heap.size:=zs.lt;have c0:=zs.cell 0;have c1:=zn.cell 1;have c2:=zg.cell 2;have e9:=aB zn;have e8:=aB zs;have f4:=aB b0;have h5:=aB (b5.below a3);have h4:=aB d0;have h6:=aB d9;have f3:=aB b8;have b4:=aB b9;have b6:=aB c4;have c7:=aB c3;have a6:=aB b2;obtain⟨res,a8⟩ : ∃r,r=eS b nd s:=⟨_,rfl⟩;rw[<-a8];have a4:=aB a8;rw[b2];rw[ea] at c2;rw[b2] at c1;clear hr hb hw ha0 ha1 hs fs b2 g9 hx b8 d5 b0 zn zs zg a3 b5 e0 e1 e2 e3 e4 e5 e6 d9 d0 b9 c4 c3 a8;go_in;go_upto_region 1 with fail
 rw[<-a6.o,<-a2];rw[a6.o];go_cut [7,8] (fun pv ev wx=>∃g7 g8:Nat,pv=.pointer (I ⟨g7,0,Z⟩)/\ev=.pointer (I ⟨g8,0,Z⟩)/\Hid (Below w1.heap.size w1 wx)/\Hid (aS wx g7 46 #[O X so,O X sa,O X sb])/\Hid (aS wx g8 61 #[O X kd,Y u.As u.ns u.cs,Y u.Ap u.np u.cp,Y u.Ai u.ni u.ci,Y u.Ac u.nc u.cc,Y u.At u.nt u.ct,Y u.Ab u.nb u.cb]))
 case first =>
  refine wp_region_held_drew (S:=(fun w'=>Below w1.heap.size w1 w')) aC ?_ (fun hZ => ?_)
  · (try dsimp only);exact aT (Below.refl _ _) 1
  have a0:Hid (Below w1.heap.size w1 w1.drew):=aB (aT (Below.refl _ _) 1);generalize w1.drew=W1 at *;refine aL 0 hZ ?_;refine tk 1 ?_ (fun wq hSw => ?_) hZ ?_;rotate_left
  · have f0:=(hSw.cell (p:=⟨w.heap.size+1,0,Z⟩) f8).trans c0;go_simp;try with_reducible rfl
  try simp only[p7]
  refine aL 2 hZ ?_;refine tk 3 ?_ (fun wq hSw => ?_) hZ ?_;rotate_left
  · have f0:=(hSw.cell (p:=⟨bs,os,Z⟩) c6).trans h0;have f1:=(hSw.cell (p:=⟨bs,os+1,Z⟩) c6).trans h1;have f2:=(hSw.cell (p:=⟨bs,os+2,Z⟩) c6).trans h2;go_simp;try with_reducible rfl
  try simp only[p7]
  refine aL 4 hZ ?_;refine aL 5 hZ ?_;refine aL 6 hZ ?_;refine aL 7 hZ ?_;refine tk 8 ?_ (fun wq hSw => ?_) hZ ?_;rotate_left
  · have f0:=(hSw.cell (p:=⟨g,2,Z⟩) g6).trans c2;go_simp;try with_reducible rfl
  try simp only[p7]
  refine aL 9 hZ ?_;refine tk 10 ?_ (fun wq hSw => ?_) hZ ?_;rotate_left
  · have f0:=(hSw.cell (p:=⟨w.heap.size,1,Z⟩) g0).trans c1;go_simp;try with_reducible rfl
  try simp only[p7]
  refine aL 11 hZ ?_;refine tk 12 ?_ (fun wq hSw => ?_) hZ ?_;rotate_left
  · have y0:=(hSw.cell (p:=⟨be,oe+ia*7,Z⟩) a9).trans x0;have y1:=(hSw.cell (p:=⟨be,oe+ia*7+1,Z⟩) a9).trans x1;have y2:=(hSw.cell (p:=⟨be,oe+ia*7+2,Z⟩) a9).trans x2;have y3:=(hSw.cell (p:=⟨be,oe+ia*7+3,Z⟩) a9).trans x3;have y4:=(hSw.cell (p:=⟨be,oe+ia*7+4,Z⟩) a9).trans x4;have y5:=(hSw.cell (p:=⟨be,oe+ia*7+5,Z⟩) a9).trans x5;have y6:=(hSw.cell (p:=⟨be,oe+ia*7+6,Z⟩) a9).trans x6;go_simp;try with_reducible rfl
  try simp only[p7]
  refine wpAnyH_ready (rs:=[13,14]) aC aD ?_;refine AllReadyH.cons rfl (fun K hK => ?_) (AllReadyH.cons rfl (fun K hK => ?_) (AllReadyH.nil))
  · go_simp;refine hK.o _ _ ?_ (fun hZ => ?_)
    · (try dsimp only);first | exact a0.o.alloc a0.o.size _ | exact (a0.o.alloc a0.o.size _).alloc (by simp;exact Nat.le_succ_of_le a0.o.size) _
    clear hK K;try simp only[p7]
    refine r1 14 fun K hK => ?_;go_simp;refine hK.o _ _ ?_ (fun hZ => ?_)
    · (try dsimp only);first | exact a0.o.alloc a0.o.size _ | exact (a0.o.alloc a0.o.size _).alloc (by simp;exact Nat.le_succ_of_le a0.o.size) _
    clear hK K;try simp only[p7]
    refine r1 15 fun K hK => ?_;go_simp;refine hK.o _ _ ?_ (fun hZ => ?_)
    · (try dsimp only);first | exact a0.o.alloc a0.o.size _ | exact (a0.o.alloc a0.o.size _).alloc (by simp;exact Nat.le_succ_of_le a0.o.size) _
    clear hK K;try simp only[p7]
    refine r1 16 fun K hK => ?_;go_simp;refine hK.o _ _ ?_ (fun hZ => ?_)
    · (try dsimp only);first | exact a0.o.alloc a0.o.size _ | exact (a0.o.alloc a0.o.size _).alloc (by simp;exact Nat.le_succ_of_le a0.o.size) _
    clear hK K;try simp only[p7]
    refine wpAnyH_done aC ?_ _;go_wp2_with fail;go_meet;exact⟨_,_,rfl,rfl,aB ((a0.o.alloc a0.o.size _).alloc (by simp;exact Nat.le_succ_of_le a0.o.size) _),aB ((aS.new _ _ _).alloc _),aB (aS.new' aD)⟩
  go_simp;refine hK.o _ _ ?_ (fun hZ => ?_)
  · (try dsimp only);first | exact a0.o.alloc a0.o.size _ | exact (a0.o.alloc a0.o.size _).alloc (by simp;exact Nat.le_succ_of_le a0.o.size) _
  clear hK K;try simp only[p7]
  refine r1 13 fun K hK => ?_;go_simp;refine hK.o _ _ ?_ (fun hZ => ?_)
  · (try dsimp only);first | exact a0.o.alloc a0.o.size _ | exact (a0.o.alloc a0.o.size _).alloc (by simp;exact Nat.le_succ_of_le a0.o.size) _
  clear hK K;try simp only[p7]
  refine r1 15 fun K hK => ?_;go_simp;refine hK.o _ _ ?_ (fun hZ => ?_)
  · (try dsimp only);first | exact a0.o.alloc a0.o.size _ | exact (a0.o.alloc a0.o.size _).alloc (by simp;exact Nat.le_succ_of_le a0.o.size) _
  clear hK K;try simp only[p7]
  refine r1 16 fun K hK => ?_;go_simp;refine hK.o _ _ ?_ (fun hZ => ?_)
  · (try dsimp only);first | exact a0.o.alloc a0.o.size _ | exact (a0.o.alloc a0.o.size _).alloc (by simp;exact Nat.le_succ_of_le a0.o.size) _
  clear hK K;try simp only[p7]
  refine wpAnyH_done aC ?_ _;go_wp2_with fail;go_meet;exact⟨_,_,rfl,rfl,aB ((a0.o.alloc a0.o.size _).alloc (by simp;exact Nat.le_succ_of_le a0.o.size) _),aB (aS.new' aD),aB ((aS.new _ _ _).alloc _)⟩
 case rest =>
 obtain⟨g7,g8,rfl,rfl,b3,d7,d6⟩:=hcut;obtain⟨w2,rfl⟩ : ∃x:World,x=wc:=⟨_,rfl⟩;have b7:=aB (f4.o.trans (b3.o.mono f4.o.size));have h8:=d7.o.cell;have f6:=d6.o.cell;have f5:=(e9.o.below b3.o e9.o.lt).cell;have h7:=(e8.o.below b3.o e8.o.lt).cell;have a1:=aB (h5.o.below b3.o);rw[a6.o] at f5;clear b3 d7 d6 x0 x1 x2 x3 x4 x5 x6 h0 h1 h2 c0 c1 c2;by_cases q1:so=10;rotate_left
 · have d1:(so==10)=false:=by simpa using q1
   have hr:res=false:=by rw[a4.o];unfold eS;rw[<-b4.o,d1];rfl
   have HR:=aB hr;clear q1 hr;go_upto_region 2 with fail
   go_quiet (fail)
   go_wp2_with fail;go_ret;rw[HR.o];exact⟨rfl,aT b7.o _⟩
 have d1:(so==10)=true:=by simpa using q1
 obtain⟨t1,t2,t3⟩:=h6.o (b4.o.symm.trans q1);rw[<-b6.o] at t1 t3;rw[<-c7.o] at t2 t3;clear q1;by_cases q2:sa=(ia:Int);rotate_left
 · have d2:(sa==(ia:Int))=false:=by simpa using q2
   have hr:res=false:=by rw[a4.o];unfold eS;rw[<-b4.o,d1,<-b6.o,a6.o,d2];rfl
   have HR:=aB hr;clear q2 hr t1 t2 t3;go_upto_region 2 with fail
   go_quiet (fail)
   go_wp2_with fail;go_ret;rw[HR.o];exact⟨rfl,aT b7.o _⟩
 have d2:(sa==(ia:Int))=true:=by simpa using q2
 by_cases q3:sb<nd.b;rotate_left
 · have d3:decide (sb<nd.b)=false:=decide_eq_false q3;have hr:res=false:=by rw[a4.o];unfold eS;rw[<-b4.o,d1,<-b6.o,a6.o,d2,<-c7.o,d3];rfl
   have HR:=aB hr;clear q2 q3 hr t1 t2 t3;go_upto_region 2 with fail
   go_quiet (fail)
   go_wp2_with fail;go_ret;rw[HR.o];exact⟨rfl,aT b7.o _⟩
 have d3:decide (sb<nd.b)=true:=decide_eq_true q3;obtain⟨ib,d8⟩ : ∃ib:Nat,sb=(ib:Int):=⟨sb.toNat,by omega⟩;have f7:bK b sa=x:=by rw[f3.o,a6.o,q2]
 rw[f7] at t3;have h3:=a1.o.ctors.len;have i1:=a1.o.ctors.few;have h9:=a1.o.params.few;have f9:=a1.o.params.len;have b1:ib<u.nc:=aA;have g5:(ib:Int)<(u.nc:Int):=aA;obtain⟨bc,oc,A1,n1,c1,ec,i0,k0,e7⟩:=a1.o.ctors.arg_at b1;rw[ec] at f6;have hr:res=(m==u.np+n1):=by
  rw[a4.o];unfold eS;rw[<-b4.o,d1,<-b6.o,a6.o,d2,<-c7.o,d3,<-a6.o,<-f3.o,h4.o,f9,d8,show ((ib:Int)).toNat=ib from by omega,e7];rfl
 have d4:((m:Int)==(u.np:Int)+(n1:Int))=(m==u.np+n1):=by
  rw[Bool.eq_iff_iff];simp only[beq_iff_eq];omega
 have g1:n1<=5864062014805:=by
  obtain⟨_,_,_,_,g2⟩:=a1.o.ctors.mem aA;obtain⟨A9,n9,c9,_,_,_,_,_,c8,_⟩:=g2 ib b1;have:=c8.len;have:=c8.few;omega
 have HR:=aB hr;subst d8;clear q2 q3 hr t1 t2 t3 h3 e7;generalize (m==u.np+n1)=rb at *;go_upto_region 2 with fail
 go_quiet (fail)
 go_wp2_with fail;go_ret;rw[HR.o];exact⟨rfl,aT b7.o _⟩
end
section
open Go.Lib renaming hid->aB
set_option maxRecDepth 100000 in
set_option maxHeartbeats 2000000 in
theorem vP (m:Nat) (ih:∀(w:World) (R:Nat->Prop) (xs:List Value) (n:Nd) (atoms:List Nd) (kids:Fo) (u:Int),(∀b,R b->b<w.heap.size)->cR R w xs n atoms kids->eN n=true->dC kids->0<=u->u+4*aX kids<=1000000000000->aX kids<m →
      Calls Tryz.prog 102 #[.agg xs.toArray,O X u] w (eF (qX n kids u) w))
 (w:World) (R:Nat->Prop) (xs:List Value) (n:Nd) (atoms:List Nd) (kids:Fo) (u:Int) (hR:∀b,R b->b<w.heap.size) (ht:cR R w xs n atoms kids) (hok:eN n=true) (hall:dC kids) (hu0:0<=u) (hu1:u+4*aX kids<=1000000000000) (hsz:aX kids<=m) :
 Calls Tryz.prog 102 #[.agg xs.toArray,O X u] w (eF (qX n kids u) w):=by
 have HI:=aB ih;clear ih;obtain⟨sk,sa,sf,rfl,⟨Ak,nk,ck,rfl,b1⟩,⟨Aa,na,ca,rfl,d8⟩,⟨Af,nf,cf,rfl,d7⟩⟩:=ht;have c2:=(fM ((by simp only[eN,Bool.and_eq_true] at hok;exact hok.1.1):cD n.op n.a n.b=true));by_cases h1:n.op=1
 · have c7:(n.op==1)=true:=by simp[h1]
   have H1:=aB h1;have d5:u<=1000000000000:=aA;clear h1 hu1;obtain⟨c1,c0⟩:=c2;go_in;go_wp2_with fail;all_goals
    go_ret;refine⟨cT ?_,aP _ _⟩;simp only[qX,if_pos H1.o];omega
 have c7:(n.op==1)=false:=by simp[h1]
 have H1:=aB h1;have HU:=aB hu1;have c9:=aB hsz;have b8:=aB b1.len;have d1:=aB hok;have d6:nk<=1000000000000000:=by
  have h1:=e8 kids;have h2:=b1.len;omega
 clear h1 hu1 hsz hok;go_in;go_wp2_with fail;go_loopw [5,6] (fun v i wr=>∃(F1 F2:Fo) (j:Nat) (t:Int),kids=F1.app F2/\bF F1=j/\v=O X t/\i=O X (j:Int)/\-1<=t/\max t (JF n.op n.b j u F2)=JF n.op n.b 0 u kids/\Below w.heap.size w wr ∧
  aS wr w.heap.size 85 #[O X n.op,O X n.a,O X n.b,Y Ak nk ck,Y Aa na ca,Y Af nf cf]) (fun _ i _=>nk-(intOf i).toNat)
 case atStart=>exact⟨.nil,kids,0,-1,rfl,rfl,rfl,rfl,Int.le_refl _,GV _ _ _ _ _,aP _ _,aS.new _ _ _⟩
 case round =>
  obtain⟨F1,F2,j,t,hk,hj,rfl,rfl,ht,he,a3,a0⟩:=hrel;have HK:=aB hk;have HJ:=aB hj;have HE:=aB he;have HT:=aB ht;have a5:=b1.keep (R':=R) (w':=wr) (fun b hb=>⟨hb,fun o=>a3.cell (p:=⟨b,o,Z⟩) (hR b hb)⟩);have zc:=aS.cell a0;clear he ht;cases F2 with
  | nil =>
   have b5:j=nk:=by rw[<-b8.o,hk,bV,hj];rfl
   have c3:¬ j<nk:=aA;clear hk hj b5;go_wp2_with fail;go_ret;refine⟨cT ?_,a3⟩;have h1:=HE.o;have h2:=HT.o;simp only[qX,if_neg H1.o,<-h1,JF];omega
  | cons pre nd ats ks F2 =>
   have b5:j<nk:=by rw[<-b8.o,hk,bV,hj];simp[bF]
   have a6:dM R wr Ak nk ck (F1.app (.cons pre nd ats ks F2)):=by rw[<-hk];exact a5
   obtain⟨b,off,sk',sa',sf',rfl,b9,a4,g0,g1,g2,g3,g4,g5⟩:=a6.at_;rw[hj] at g0 g1 g2 g3 g4 g5;obtain⟨_,b0,a8,_⟩:=(dC.app F1 _).1 (hk ▸ hall);have c5:b<w.heap.size:=hR b b9;clear hk hj a6 a5;have hB:w.heap.size<wr.heap.size:=aS.lt a0;obtain⟨e0,d9⟩:=eA d1.o (j:Int);have c4:u+4*(aX F1+(aX ks+aX F2+1))<=1000000000000:=by
    have:=HU.o;rw[HK.o,dO] at this;simp only[aX] at this;omega
   have a7:aX ks<m:=by
    have:=c9.o;rw[HK.o,dO] at this;simp only[aX] at this;omega
   have hw:IntKind.i64.wrap (u+aR n.op n.b (j:Int))=u+aR n.op n.b (j:Int):=IntWalk.i64_in _ aA;have b7:0<=u+aR n.op n.b (j:Int):=aA;have b6:u+aR n.op n.b (j:Int)+4*aX ks<=1000000000000:=aA;have d4:=aB b7;have d3:=aB b6;have d2:=aB a7;have b3:∀W:World,Below wr.heap.size wr W->cR R W [O X nd.op,O X nd.a,O X nd.b,sk',sa',sf'] nd ats ks:=fun W hW =>
    a4.keep fun b' hb'=>⟨hb',fun o=>hW.cell (p:=⟨b',o,Z⟩) (Nat.lt_of_lt_of_le (hR b' hb') a3.size)⟩
   have b4:∀W:World,Below wr.heap.size wr W->∀b',R b'->b'<W.heap.size:=fun W hW b' hb'=>Nat.lt_of_lt_of_le (hR b' hb') (Nat.le_trans a3.size hW.size);have a1:∀W:World,Below wr.heap.size wr W->(W.cell? ⟨w.heap.size,0,Z⟩=I (O X n.op)/\W.cell? ⟨w.heap.size,1,Z⟩=I (O X n.a)/\W.cell? ⟨w.heap.size,2,Z⟩=I (O X n.b)/\W.cell? ⟨w.heap.size,3,Z⟩=I (Y (I ⟨b,off,Z⟩) nk ck) ∧
    W.cell? ⟨b,off+j*6,Z⟩=I (O X nd.op)/\W.cell? ⟨b,off+j*6+1,Z⟩=I (O X nd.a)/\W.cell? ⟨b,off+j*6+2,Z⟩=I (O X nd.b)/\W.cell? ⟨b,off+j*6+3,Z⟩=I sk'/\W.cell? ⟨b,off+j*6+4,Z⟩=I sa'/\W.cell? ⟨b,off+j*6+5,Z⟩=I sf'):=fun W hW=>by
    have hB:∀o,W.cell? ⟨w.heap.size,o,Z⟩=wr.cell? ⟨w.heap.size,o,Z⟩:=fun o=>hW.cell (p:=⟨w.heap.size,o,Z⟩) hB;have hC:∀o,W.cell? ⟨b,o,Z⟩=wr.cell? ⟨b,o,Z⟩:=fun o=>hW.cell (p:=⟨b,o,Z⟩) (Nat.lt_of_lt_of_le c5 a3.size);rw[hB,hB,hB,hB,hC,hC,hC,hC,hC,hC];exact⟨a0.cell 0,a0.cell 1,a0.cell 2,a0.cell 3,g0,g1,g2,g3,g4,g5⟩
   have a2:=a1 wr (Below.refl _ _);have c8:=aB b3;have d0:=aB b4;have a9:=aB a1;clear b7 b6 c4 a7 b3 b4 a1 zc g0 g1 g2 g3 g4 g5;by_cases hm:t<qX nd ks (u+aR n.op n.b (j:Int));all_goals
    obtain⟨g0,g1,g2,g3,g4,g5,g6,g7,g8,g9⟩:=a2;go_wp2_with fail;go_region_held3 (fun w'=>w'.cell? ⟨w.heap.size,0,Z⟩=I (O X n.op)/\w'.cell? ⟨w.heap.size,1,Z⟩=I (O X n.a)/\w'.cell? ⟨w.heap.size,2,Z⟩=I (O X n.b)/\w'.cell? ⟨w.heap.size,3,Z⟩=I (Y (I ⟨b,off,Z⟩) nk ck) ∧
     w'.cell? ⟨b,off+j*6,Z⟩=I (O X nd.op)/\w'.cell? ⟨b,off+j*6+1,Z⟩=I (O X nd.a)/\w'.cell? ⟨b,off+j*6+2,Z⟩=I (O X nd.b)/\w'.cell? ⟨b,off+j*6+3,Z⟩=I sk'/\w'.cell? ⟨b,off+j*6+4,Z⟩=I sa'/\w'.cell? ⟨b,off+j*6+5,Z⟩=I sf') (first | go_keep | exact a9.o _ b2)
     (first
      | (go_at_call 125;refine (jV _ _ _ _ _ aA).mono ?_;rintro e w2 ⟨rfl,rfl⟩)
      | (go_at_call 102;refine (HI.o _ R [O X nd.op,O X nd.a,O X nd.b,sk',sa',sf'] nd ats ks _ (d0.o _ (((Below.refl _ _).alloc (Nat.le_refl _) _).drew)) (c8.o _ (((Below.refl _ _).alloc (Nat.le_refl _) _).drew)) b0 a8 d4.o d3.o d2.o).mono ?_;rintro e w3 ⟨rfl,c6⟩;have b2:Below wr.heap.size wr w3:=lN (((Below.refl _ _).alloc (Nat.le_refl _) _).drew) c6 (Nat.le_refl _)))
    go_wp2_with fail;go_roundw
    case rel =>
     refine⟨F1.app (.cons pre nd ats ks .nil),F2,j+1,_,by rw[HK.o,dG];rfl,by rw[bV];simp[bF,HJ.o],rfl,by go_num,?_,?_,a3.trans (b2.mono a3.size),a0.below b2 hB⟩
     · have:=HT.o;omega
     have h1:=HE.o;rw[tK] at h1;rw[<-h1];omega
    case measure=>simp[intOf];omega
theorem pP:∀(m:Nat) (w:World) (R:Nat->Prop) (xs:List Value) (n:Nd) (atoms:List Nd) (kids:Fo) (u:Int),(∀b,R b->b<w.heap.size)->cR R w xs n atoms kids->eN n=true->dC kids->0<=u->u+4*aX kids<=1000000000000->aX kids<m →
      Calls Tryz.prog 102 #[.agg xs.toArray,O X u] w (eF (qX n kids u) w)
 | 0,_,_,_,_,_,_,_,_,_,_,_,_,_,h=>absurd h aA
 | m+1,w,R,xs,n,atoms,kids,u,h1,h2,h3,h4,h5,h6,h7=>vP m (pP m) w R xs n atoms kids u h1 h2 h3 h4 h5 h6 aA
theorem zE {w:World} {R:Nat->Prop} {xs:List Value} {n:Nd} {atoms:List Nd} {kids:Fo} {u:Int} (hR:∀b,R b->b<w.heap.size) (ht:cR R w xs n atoms kids) (hok:eN n=true) (hall:dC kids) (h0:0<=u) (h1:u+4*aX kids<=1000000000000) :
 Calls Tryz.prog 102 #[.agg xs.toArray,O X u] w (eF (qX n kids u) w) :=
 pP (aX kids+1) w R xs n atoms kids u hR ht hok hall h0 h1 (Nat.lt_succ_self _)
end
section
open Go.Lib renaming hid->aB
set_option maxHeartbeats 2000000
set_option maxRecDepth 100000
theorem C6 {l:List Nd} (h:l.length<=4096) (h0:a8 l ≠ 0):a8 l=8:=by
 unfold a8 at h0 ⊢;rw[if_neg aA] at h0 ⊢;split
 · rename_i h1
   rw[if_pos h1] at h0;exact absurd rfl h0
 rfl
theorem NI {l:List Nd} (h:4096<l.length):a8 l=9:=by
 unfold a8;rw[if_pos h]
theorem jR {k:IntKind} {a b:Int} (h:a=b):Ending.returned (.int k a)=.returned (.int k b):=by rw[h]
theorem uD {l:List Nd} {w w':World} {e:Ending} (h:iI l w e w'):Below w.heap.size w w' ∧
 ((e=.returned (.tuple #[dT,O X 0,.bool false])/\(l.length<=4096->a8 l=8)) ∨
  ∃xs n ats k m,e=.returned (.tuple #[.agg xs.toArray,O X (m:Nat),.bool true])/\cR (fJ w w') w' xs n ats k/\m<=l.length/\((m=l.length/\pp [false] l=I (.cons [] n ats k .nil,[])/\(l.length<=4096->a8 l=0))\/(m<l.length/\(l.length<=4096->a8 l=8)))):=by
 obtain⟨hb,h⟩:=h;refine⟨hb,?_⟩;cases hp:pp [false] l with
 | none =>
  rw[hp] at h;refine .inl ⟨h,fun hl=>C6 hl fun h0 => ?_⟩;obtain⟨_,n,ats,k,a0,_⟩:=fB h0;rw[hp] at a0;cases a0
 | some p =>
  obtain⟨F,r⟩:=p;have hw:=iP hp;cases F with
  | nil=>exact hw.elim
  | cons pr n ats k x =>
   cases x with
   | cons _ _ _ _ _=>exact hw.2.2.2.2.elim
   | nil =>
    obtain⟨a3,_⟩:=hw;simp only at a3;subst a3;rw[hp] at h;obtain⟨xs,he,ht⟩:=h;have a2:=oX hp;refine .inr ⟨xs,n,ats,k,_,he,ht,Nat.sub_le _ _,?_⟩;have a1:r.length<=l.length:=by rw[a2];simp
    cases r with
    | nil =>
     refine .inl ⟨by simp,rfl,fun hl=>r9 hp hl⟩
    | cons y r =>
     simp only[List.length_cons] at a1 ⊢;refine .inr ⟨by omega,fun hl=>C6 hl fun h0 => ?_⟩;obtain⟨_,n,ats,k,a0,_⟩:=fB h0;rw[hp] at a0;cases a0
theorem jP {A:Option Addr} {nn c:Nat} {l:List Nd} {w:World} (h:aY w A nn c l) :
 Calls Tryz.prog 55 #[Y A nn c] w (eF (a8 l) w):=by
 have b0:=h.few;have a0:=h.len;by_cases h1:4096<nn
 · have b1:decide ((4096:Int)<(nn:Int))=true:=by simp;omega
   have hs:a8 l=9:=NI aA;clear h1 h a0;go_in;go_wp2_with fail;go_ret;exact⟨jR hs.symm,Below.refl _ _⟩
 have b1:decide ((4096:Int)<(nn:Int))=false:=by simp;omega
 have hl:l.length<=4096:=aA;have HL:=aB hl;have a1:=aB a0;have H:=aB h;clear h1 hl a0 h;go_in;go_wp2_with fail;refine (CW H.o).mono ?_;intro e w2 hr;obtain⟨hb,⟨rfl,hs⟩ | ⟨xs,n,ats,k,m,rfl,ht,hm,hc⟩⟩:=uD hr
 · have a7:=hs HL.o;have HB:=aB hb;clear hs hb hr;unfold dT;go_wp2_with fail;go_ret;refine⟨jR a7.symm,?_⟩;exact HB.o.alloc HB.o.size _
 obtain⟨sk,sa,sf,rfl,⟨Ak,nk,ck,rfl,a4⟩,⟨Aa,na,ca,rfl,a6⟩,⟨Af,nf,cf,rfl,a5⟩⟩:=ht;rcases hc with⟨a3,a9,hs⟩ | ⟨a3,hs⟩
 · have hg:((m:Int) != (nn:Int))=false:=by simp;have:=a1.o;omega
   have a2:=hs HL.o;have HB:=aB hb;clear hs hb hr a9 hm a3 a4 a6 a5;go_wp2_with fail;go_ret;refine⟨jR a2.symm,?_⟩;exact HB.o.alloc HB.o.size _
 have hg:((m:Int) != (nn:Int))=true:=by simp;have:=a1.o;omega
 have a2:=hs HL.o;have HB:=aB hb;clear hs hb hr hm a3 a4 a6 a5;go_wp2_with fail;go_ret;refine⟨jR a2.symm,?_⟩;exact HB.o.alloc HB.o.size _
def QK (l:List Nd) (w:World) (e:Ending) (w':World):Prop:=Below w.heap.size w w' ∧
 ((a8 l ≠ 0/\e=.returned (.tuple #[dT,.bool false]))\/∃xs n ats k,e=.returned (.tuple #[.agg xs.toArray,.bool true])/\cR (fJ w w') w' xs n ats k/\pp [false] l=I (.cons [] n ats k .nil,[])/\a8 l=0)
theorem uI {w:World} {g:Nat} {c0 c1 c2 c3 c4 c5:Value} {tmps:Array Value} (h:aS w g 85 #[c0,c1,c2,c3,c4,c5]) (ht:tmps.getD 2 undef=.pointer (I ⟨g,0,Z⟩)) :
 (results Tryz.f44 tmps).run Tryz.prog w=.ok (.tuple #[.agg #[c0,c1,c2,c3,c4,c5],tmps.getD 3 undef]) w:=by
 have hc:=h.cell;have a0:tmps[2]?.getD undef=.pointer (I ⟨g,0,Z⟩):=by rw[<-ht];simp
 simp[results,Tryz.results44,go_sem,a0,hc]
theorem PS {w:World} {g b:Nat} (hb:b ≠ g) (x0 x1 x2 x3 x4 x5:Value):((((((w.setCell ⟨g,0,Z⟩ x0).setCell ⟨g,1,Z⟩ x1).setCell ⟨g,2,Z⟩ x2).setCell ⟨g,3,Z⟩ x3).setCell ⟨g,4,Z⟩ x4).setCell ⟨g,5,Z⟩ x5).heap[b]? = w.heap[b]?:=by
 rw[Below.heap_setCell _ _ _ _ hb,Below.heap_setCell _ _ _ _ hb,Below.heap_setCell _ _ _ _ hb,Below.heap_setCell _ _ _ _ hb,Below.heap_setCell _ _ _ _ hb,Below.heap_setCell _ _ _ _ hb]
theorem NJ {w:World} {g:Nat} (x0 x1 x2 x3 x4 x5:Value):((((((w.setCell ⟨g,0,Z⟩ x0).setCell ⟨g,1,Z⟩ x1).setCell ⟨g,2,Z⟩ x2).setCell ⟨g,3,Z⟩ x3).setCell ⟨g,4,Z⟩ x4).setCell ⟨g,5,Z⟩ x5).heap.size=w.heap.size:=by
 simp[World.setCell]
theorem nR {A:Option Addr} {nn c:Nat} {l:List Nd} {w:World} (h:aY w A nn c l) :
 Calls Tryz.prog 44 #[Y A nn c] w (QK l w):=by
 have a3:=aP w (J #[O X 0,O X 0,O X 0,Y Z 0 0,Y Z 0 0,Y Z 0 0] 85);have h1:aY (w.alloc (J #[O X 0,O X 0,O X 0,Y Z 0 0,Y Z 0 0,Y Z 0 0] 85)) A nn c l:=h.below a3;have hz:aS (w.alloc (J #[O X 0,O X 0,O X 0,Y Z 0 0,Y Z 0 0,Y Z 0 0] 85)) w.heap.size 85 #[O X 0,O X 0,O X 0,Y Z 0 0,Y Z 0 0,Y Z 0 0]:=aS.new _ _ _;by_cases hs:a8 l=0;rotate_left
 · have b1:(a8 l != 0)=true:=by simp[hs]
   have HS:=aB hs;have H1:=aB h1;have HZ:=aB hz;have a4:=aB a3;clear hs h h1 hz a3;go_in;go_wp2_with fail;refine (jP H1.o).mono ?_;rintro e w2 ⟨rfl,a2⟩;have a1:=HZ.o.below a2 HZ.o.lt;have zc:=aS.cell a1;have zf:=aS.frozen a1;have a0:=a4.o.trans (a2.mono a4.o.size);have a7:=aB a0;have a6:=aB a1;clear a2 a0 a1;go_wp2_with fail;exact bodyPost_ret (v:=.tuple #[dT,.bool false]) (uI ((((((a6.o.set_ 0 _).set_ 1 _).set_ 2 _).set_ 3 _).set_ 4 _).set_ 5 _) rfl) rfl ⟨eM a7.o (Nat.le_refl _) _ _ _ _ _ _,.inl ⟨HS.o,rfl⟩⟩
 have b1:(a8 l != 0)=false:=by simp[hs]
 have HS:=aB hs;have H1:=aB h1;have HZ:=aB hz;have a4:=aB a3;clear hs h h1 hz a3;go_in;go_wp2_with fail;refine (jP H1.o).mono ?_;rintro e w2 ⟨rfl,a2⟩;have h2:=H1.o.below a2;have a1:=HZ.o.below a2 HZ.o.lt;have b5:=a1.lt;have a0:=a4.o.trans (a2.mono a4.o.size);have a7:=aB a0;have a6:=aB a1;clear a2 a0 a1;go_wp2_with fail;refine (CW h2).mono ?_;intro e w3 hr;obtain⟨hb,⟨rfl,b2⟩ | ⟨xs,n,ats,k,m,rfl,ht,hm,hc⟩⟩:=uD hr
 · have hl:=(fB HS.o).1;have:=b2 hl;rw[HS.o] at this;cases this
 have hl:=(fB HS.o).1;obtain⟨_,a9,_⟩:m=l.length/\pp [false] l=I (.cons [] n ats k .nil,[])/\(l.length<=4096->a8 l=0):=by
  rcases hc with hc | ⟨_,hc⟩
  · exact hc
  have:=hc hl;rw[HS.o] at this;cases this
 have HT:=aB ht;obtain⟨sk,sa,sf,rfl,⟨Ak,nk,ck,rfl,b4⟩,⟨Aa,na,ca,rfl,b8⟩,⟨Af,nf,cf,rfl,b6⟩⟩:=ht;have a5:=(a6.o.below hb b5).alloc (J #[O X n.op,O X n.a,O X n.b,Y Ak nk ck,Y Aa na ca,Y Af nf cf] 85);have zc:=aS.cell a5;have zf:=aS.frozen a5;have b0:aS (w3.alloc (J #[O X n.op,O X n.a,O X n.b,Y Ak nk ck,Y Aa na ca,Y Af nf cf] 85)) w3.heap.size 85 #[O X n.op,O X n.a,O X n.b,Y Ak nk ck,Y Aa na ca,Y Af nf cf]:=aS.new _ _ _;have yc:=aS.cell b0;have c0:=aB a9;have HB:=bZ a7 hb;have b9:=aB a5;clear a5 b0 a9 hb hr hc hm b4 b8 b6;go_wp2_with fail;refine bodyPost_ret (v:=.tuple #[.agg #[O X n.op,O X n.a,O X n.b,Y Ak nk ck,Y Aa na ca,Y Af nf cf],.bool true]) (uI ((((((b9.o.set_ 0 _).set_ 1 _).set_ 2 _).set_ 3 _).set_ 4 _).set_ 5 _) rfl) rfl ⟨eM (HB.o.alloc HB.o.size _) (Nat.le_refl _) _ _ _ _ _ _,.inr ⟨_,n,ats,k,rfl,HT.o.keep (fun b hb => ?_),c0.o,HS.o⟩⟩;obtain⟨c1,b7⟩:=hb;have b3:b ≠ w.heap.size:=aA;refine⟨⟨by omega,?_⟩,fun o => ?_⟩
 · rw[NJ];have:=(aP w3 (J #[O X n.op,O X n.a,O X n.b,Y Ak nk ck,Y Aa na ca,Y Af nf cf] 85)).size;omega
 rw[aQ (PS b3 _ _ _ _ _ _) o];exact aQ ((aP w3 _).block b b7) o
theorem zF (w:World):Calls Tryz.prog 102 #[.agg #[O X 0,O X 0,O X 0,Y Z 0 0,Y Z 0 0,Y Z 0 0],O X 0] w (eF (-1) w):=by
 go_in;go_wp2_with fail;go_loopw [5,6] (fun v i wr=>v=O X (-1)/\i=O X 0/\Below w.heap.size w wr/\aS wr w.heap.size 85 #[O X 0,O X 0,O X 0,Y Z 0 0,Y Z 0 0,Y Z 0 0]) (fun _ _ _=>0)
 case atStart=>exact⟨rfl,rfl,aP _ _,aS.new _ _ _⟩
 case round =>
  obtain⟨rfl,rfl,a1,a0⟩:=hrel;have zc:=aS.cell a0;go_wp2_with fail;go_ret;exact⟨rfl,a1⟩
theorem zP {A:Option Addr} {nn c:Nat} {l:List Nd} {w:World} (h:aY w A nn c l) (v:Int) :
 Calls Tryz.prog 56 #[Y A nn c,O X v] w (pE (fS l v) w):=by
 by_cases hs:a8 l=0;rotate_left
 · have hf:fS l v=false:=by simp[fS,hs]
   have HS:=aB hs;clear hs;go_in;go_wp2_with fail;refine (nR h).mono ?_;rintro e w2 ⟨a0,⟨_,rfl⟩ | ⟨_,_,_,_,_,_,_,h9⟩⟩;rotate_left
   · exact absurd h9 HS.o
   have b4:=aB a0;clear a0;unfold dT;have yc:=aS.cell (aS.new w2 85 #[O X 0,O X 0,O X 0,Y Z 0 0,Y Z 0 0,Y Z 0 0]);go_wp2_with fail;refine (zF _).mono ?_;rintro e w4 ⟨rfl,a3⟩;have a1:=b4.o.alloc b4.o.size (J #[O X 0,O X 0,O X 0,Y Z 0 0,Y Z 0 0,Y Z 0 0] 85);have a9:=a1.trans (a3.mono a1.size);go_wp2_with fail;go_ret;rw[hf];exact⟨rfl,a9⟩
 have HS:=aB hs;clear hs;go_in;go_wp2_with fail;refine (nR h).mono ?_;rintro e w2 ⟨a0,⟨h9,_⟩ | ⟨xs,n,ats,k,rfl,ht,a6,_⟩⟩
 · exact absurd HS.o h9
 have HT:=aB ht;obtain⟨sk,sa,sf,rfl,⟨Ak,nk,ck,rfl,b8⟩,⟨Aa,na,ca,rfl,c1⟩,⟨Af,nf,cf,rfl,c0⟩⟩:=ht;clear b8 c1 c0;have a7:=aP w2 (J #[O X n.op,O X n.a,O X n.b,Y Ak nk ck,Y Aa na ca,Y Af nf cf] 85);have b1:aS (w2.alloc (J #[O X n.op,O X n.a,O X n.b,Y Ak nk ck,Y Aa na ca,Y Af nf cf] 85)) w2.heap.size 85 #[O X n.op,O X n.a,O X n.b,Y Ak nk ck,Y Aa na ca,Y Af nf cf]:=aS.new _ _ _;have c2:Hid (cR (fJ w w2) (w2.alloc (J #[O X n.op,O X n.a,O X n.b,Y Ak nk ck,Y Aa na ca,Y Af nf cf] 85)) [O X n.op,O X n.a,O X n.b,Y Ak nk ck,Y Aa na ca,Y Af nf cf] n ats k):=aB (HT.o.keep fun b hb=>⟨hb,fun o=>aQ (a7.block b hb.2) o⟩);have b2:∀b,fJ w w2 b->b<(w2.alloc (J #[O X n.op,O X n.a,O X n.b,Y Ak nk ck,Y Aa na ca,Y Af nf cf] 85)).heap.size:=fun b hb=>by have:=a7.size;have:=hb.2;omega
 have a1:=a0.alloc a0.size (J #[O X n.op,O X n.a,O X n.b,Y Ak nk ck,Y Aa na ca,Y Af nf cf] 85);have yc:=aS.cell b1;have c4:=aB a6;have c3:=aB b2;have b3:=aB a1;obtain⟨b0,b6,b5,a2,a5,a4,b7,b9⟩:=rK HS.o a6;clear a6 b1 b2 a1 a0 a7;have hf:=DZ HS.o c4.o v;have hu:0+4*(aX k:Int)<=1000000000000:=aA;clear b6 b5 a5 a4 b7 b9;go_wp2_with fail;refine (zE c3.o c2.o b0 a2 (Int.le_refl _) hu).mono ?_;rintro e w4 ⟨rfl,a3⟩;have a9:=b3.o.trans (a3.mono b3.o.size);clear a3 a2 b0 hu;generalize qX n k 0=g at hf ⊢;cases hg:decide (g<0);all_goals
  rw[hg] at hf;have HF:=aB hf;clear hf;go_wp2_with fail;go_ret;exact⟨by rw[HF.o];rfl,a9⟩
end
end Go.Proofs.YtjoddliplahgkaaGreat
