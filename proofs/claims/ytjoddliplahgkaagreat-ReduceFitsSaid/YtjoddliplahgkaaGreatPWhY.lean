/- core: step. -/
import Derived.Test.YtjoddliplahgkaaGreatPWhX
namespace Go.Proofs.YtjoddliplahgkaaGreat
set_option linter.unusedVariables false
set_option linter.unusedSimpArgs false
open Go.RowKit
open Go.Value renaming slice → O
open Option renaming none → X
open Go.Obj renaming cells → Y
open Go.Lib renaming hid->aB
section
variable {lo g : Nat} {w w' : World} {f : Fc} {A B a1 a2 : Option Addr} {n c m d n1 c1 n2 c2 : Nat}
theorem bJ.box {R R':Nat->Prop} {l:List Nd} (h:bJ R w A n c l) (hl:0<l.length) (hg:aS w g 78 #[O a1 n1 c1,O a2 n2 c2]) (hk:∀q,q ≠ g->w'.heap[q]? = w.heap[q]?) (hR:∀q,R q->q ≠ g->R' q):bJ R' w' A n c l:=by
 refine⟨h.len,h.cap,h.few,h.nul,fun hn => ?_⟩;obtain⟨b,off,e,hb,hm⟩:=h.mem hn;have a0:b ≠ g:=by
  rintro rfl;have h1:=(hm 0 hl).1;rw[hg.cell] at h1;generalize off+0*3=z at h1
  match z,h1 with
  | 0,h1=>simp at h1
  | 1,h1=>simp at h1
  | z+2,h1=>simp at h1
 refine⟨b,off,e,hR b hb a0,fun p hp => ?_⟩;obtain⟨x,y,z⟩:=hm p hp;exact⟨(aQ (hk b a0) _).trans x,(aQ (hk b a0) _).trans y,(aQ (hk b a0) _).trans z⟩
theorem bS.box {R R':Nat->Prop} (hg:aS w g 78 #[O a1 n1 c1,O a2 n2 c2]) (hk:∀q,q ≠ g->w'.heap[q]? = w.heap[q]?) (hR:∀q,R q->q ≠ g->R' q) : ∀{xs:List Value} {L:List TT},bS R w xs (L.map aW)->bS R' w' xs (L.map aW)
 | [],[],_=>trivial
 | [],_::_,h=>h.elim
 | _::_,[],h=>h.elim
 | x::xs,y::ys,h=>by
  obtain⟨⟨A',n',c',e,ht⟩,h2⟩:=h;exact⟨⟨A',n',c',e,ht.box (lG y) hg hk hR⟩,bS.box hg hk hR h2⟩
theorem SA:(78:TypeId) ≠ 29:=by decide
theorem O9 {base z k:Nat} {v:Value} {xs:List Value} (h:w.ownsRow base 29 z v k xs) {cs:Array Value} (hg:aS w g 78 cs) : ∀q,v.ownBlock=some q->q ≠ g:=by
 rintro q hq rfl;rcases h.2 with⟨hv,_⟩ | ⟨b,cap,cur,hv,_,hh,_⟩
 · subst hv;cases hq
 subst hv;have e:b=q:=Option.some.inj (show some b=some q from hq);subst e;have h2:=hh.symm.trans hg;injection h2 with h2;injection h2 with _ h3 _;exact SA h3.symm
theorem fE.box (h:fE lo w f A n c B m d) (hg:aS w g 78 #[O a1 n1 c1,O a2 n2 c2]) (hk:∀q,q ≠ g->w'.heap[q]? = w.heap[q]?) (hs:w'.heap.size=w.heap.size):fE lo w' f A n c B m d:=by
 obtain⟨h1,xs,h2,h3⟩:=h;refine⟨h1.box (lG _) hg hk fun q hq _=>⟨hq.1,by rw[hs];exact hq.2.1,hq.2.2⟩,xs,CM h2 fun q hq=>hk q (O9 h2 hg q hq),bS.box hg hk (fun q hq _=>⟨hq.1,by rw[hs];exact hq.2.1,hq.2.2⟩) h3⟩
theorem fE.box2 (h:fE lo w f A n c B m d) (hg:aS w g 78 #[O a1 n1 c1,O a2 n2 c2]) (u0 u1:Value):fE lo ((w.setCell ⟨g,0,X⟩ u0).setCell ⟨g,1,X⟩ u1) f A n c B m d :=
 h.box hg (fun q hq=>(Below.heap_setCell _ ⟨g,1,X⟩ u1 q hq).trans (Below.heap_setCell w ⟨g,0,X⟩ u0 q hq)) (by rw[gA,gA])
end
def AQ (lo:Nat) (r:RJ) (A:Option Addr) (n c:Nat) (B:Option Addr) (m d:Nat) (A':Option Addr) (n' c':Nat) (B':Option Addr) (m' d':Nat) (bl:Bool) (w':World):Prop:=(r=.no/\bl=false/\A'=A/\n'=n/\c'=c/\B'=B/\m'=m/\d'=d)\/(∃y,r=.yes y/\bl=true/\fE lo w' y A' n' c' B' m' d')
def RX (lo:Nat) (r:RJ) (A:Option Addr) (n c:Nat) (B:Option Addr) (m d:Nat) (w:World) (e:Ending) (w':World):Prop:=Below w.heap.size w w'/\((r=.big/\e=.panicked (oG 9))\/∃A' n' c' B' m' d' bl,e=.returned (.tuple #[.agg #[O A' n' c',O B' m' d'],.bool bl])/\AQ lo r A n c B m d A' n' c' B' m' d' bl w')
theorem AQ.below {lo:Nat} {r:RJ} {A A' B B':Option Addr} {n c m d n' c' m' d':Nat} {bl:Bool} {w w':World} (h:AQ lo r A n c B m d A' n' c' B' m' d' bl w) (hb:Below w.heap.size w w'):AQ lo r A n c B m d A' n' c' B' m' d' bl w':=by
 rcases h with h | ⟨y,h1,h2,h3⟩
 · exact .inl h
 exact .inr ⟨y,h1,h2,h3.below hb⟩
theorem jQ {w:World} {g:Nat} {c0 c1:Value} {bl:Bool} {tmps:Array Value} (h:aS w g 78 #[c0,c1]) (ht:tmps.getD 6 undef=.pointer (some ⟨g,0,X⟩)) (hb:tmps.getD 7 undef=.bool bl) :
 (results Tryz.f41 tmps).run Tryz.prog w=.ok (.tuple #[.agg #[c0,c1],.bool bl]) w:=by
 have hc:=h.cell;have a0:tmps[6]?.getD undef=.pointer (some ⟨g,0,X⟩):=by rw[<-ht];simp
 have a1:tmps[7]?.getD undef=.bool bl:=by rw[<-hb];simp
 simp[results,Tryz.results41,go_sem,a0,a1,hc]
theorem PV {b:Bk} {cv:List (List Nd)} {gas:Nat} {s:Fc} {p:TT} {room:Int} (h:¬ bW b cv s=true) (hp:cS s=some p):pD b cv (gas+1) s room=match pD b cv gas (bU p) (room-(dK s:Int)+(bI p:Int)) with | .no=>.no | .big=>.big | .yes y=>.yes (dU s (fI y)):=by
 conv=>lhs;unfold pD
 rw[if_neg h,hp];rfl
theorem PU {b:Bk} {cv:List (List Nd)} {gas:Nat} {s:Fc} {room:Int} (h:¬ bW b cv s=true) (hp:cS s=X):pD b cv (gas+1) s room=.no:=by
 conv=>lhs;unfold pD
 rw[if_neg h,hp]
theorem NP {b:Bk} {cv:List (List Nd)} {gas:Nat} {s:Fc} {room:Int} (h:bW b cv s=true):pD b cv (gas+1) s room=match jD b cv s with | none=>.big | some y=>if room<(dK y:Int) then .big else .yes y:=by
 conv=>lhs;unfold pD
 rw[if_pos h];rfl
theorem NO {b:Bk} {cv:List (List Nd)} (hr:bP b=0) (hc:fR b cv) {gas:Nat} {f y:Fc} {room:Int} (hf:eH b (cv.length:Int) f) (h1:(dK f:Int)<=room) (h2:room<=4096) (hg:dK f<gas) (h:pD b cv gas f room=.yes y):eH b (cv.length:Int) y/\(dK y:Int)<=room:=by
 have h3:=sU hr hc gas f room hf h1 h2 hg;rw[h] at h3;exact⟨h3.1,h3.2.1⟩
set_option maxRecDepth 100000 in
set_option maxHeartbeats 4000000 in
theorem I0 {w0:World} {g:Nat} {v:bO} {b:Bk} {cA:Option Addr} {cn cc:Nat} {cv:List (List Nd)} {f:Nat} (hr:bP b=0) (hb:bX w0 v b) (hc:fR b cv) (hcl:(cv.length:Int)<=990000) : ∀(gas:Nat) (w:World) (s:Fc) (A B:Option Addr) (n c m d lo:Nat) (room:Int),AN w0 g v b cA cn cc cv f w->g<lo->lo<=w.heap.size->fE lo w s A n c B m d->eH b (cv.length:Int) s->(dK s:Int)<=room->room<=4096->dK s<gas →
 Calls Tryz.prog 41 #[.pointer (some ⟨g,0,X⟩),.agg #[O A n c,O B m d],.int .i64 room] w (RX lo (pD b cv gas s room) A n c B m d w):=by
 intro gas
 induction gas with
 | zero=>intro w s A B n c m d lo room _ _ _ _ _ _ _ h9;exact absurd h9 aA
 | succ gas ih =>
 intro w s A B n c m d lo room hw j1 l3 hs fs k9 l0 g0;have IH:=aB ih;clear ih;obtain⟨w1,c1⟩ : ∃w1:World,w1=(w.alloc (Y #[O A n c,O B m d] 78)).alloc (Y #[O X 0 0,O X 0 0] 78):=⟨_,rfl⟩;have i0:Below w.heap.size w w1:=by rw[c1];exact a7 _ _ _
 have zs:aS w1 w.heap.size 78 #[O A n c,O B m d]:=by rw[c1];exact (aS.new _ _ _).alloc _
 have zr:aS w1 (w.heap.size+1) 78 #[O X 0 0,O X 0 0]:=by rw[c1];exact aS.new' aD
 have n9:=hs.len.2;have o7:=eH.argsLen fs aA;have g1:dK s<=4096:=aA;have m2:=aB (hs.below i0);have HI:=aB (m2.o.read j1 aA);have l2:m<=d:=by obtain⟨_,xs,h2,_⟩:=hs;exact tZ h2
 have p6:=aB l2;have HW:=aB (hw.below i0);have a6:=aB i0;have k4:=aB hb;have HR:=aB hr;have HC:=aB hc;have q3:=aB hcl;have e5:=aB fs;have j5:=aB zr;have p1:=aB k9;have m1:=aB l0;have j9:=aB g0;have q1:=aB j1;have j8:=aB l3;have k1:=aB g1;obtain⟨res,e2⟩ : ∃r,r=pD b cv (gas+1) s room:=⟨_,rfl⟩;rw[<-e2];have e3:=aB e2;have g8:w.heap.size<w1.heap.size:=zs.lt;have i8:w.heap.size+1<w1.heap.size:=zr.lt;have g7:=zs.cell;clear hr hb hc hcl hw hs fs e2 i0 zs zr n9 o7 l2 k9 l0 g0 j1 l3 g1;go_in;go_upto_region 1 with fail
 rw[<-c1];clear c1;by_cases hrd:bW b cv s=true
 · have e0:=aB hrd;have m0:Hid (res=match jD b cv s with | none=>.big | some y=>if room<(dK y:Int) then .big else .yes y):=aB (e3.o.trans (NP e0.o));have j6:Hid (Calls Tryz.prog 69 #[.pointer (some ⟨g,0,X⟩),.agg #[O A n c,O B m d]] w1 (gC true w1)):=aB (by rw[<-e0.o];exact lQ HR.o k4.o HC.o HW.o HI.o e5.o);clear hrd;go_wp2_with fail;refine (j6.o).mono ?_;rintro en w2 ⟨rfl,d9⟩;have e6:=aB d9;have n0:=fun i=>(d9.cell (p:=⟨w.heap.size,i,X⟩) g8).trans (g7 i);clear d9;go_wp2_with fail;refine (BC HR.o k4.o HC.o q3.o (HW.o.below e6.o) (HI.o.below e6.o) e5.o p6.o k1.o e0.o).mono ?_;rintro en w3 ⟨e7,h3⟩;have a5:=bZ e6 e7;rcases h3 with⟨y,hy,A3,n3,c3,B3,m3,d3,rfl,l6⟩ | ⟨hy,rfl⟩;rotate_left
   · have a0:Hid (res=.big):=aB (by rw[m0.o,hy]);clear e7 hy;go_wp2_with fail;exact⟨rfl,a6.o.trans (a5.o.mono a6.o.size),.inl ⟨a0.o,rfl⟩⟩
   have k3:=aB (l6.base (lo':=w1.heap.size) e6.o.size);have c9:=nL HR.o HC.o e5.o e0.o hy;have i1:=aB c9;have d6:Hid (res=if room<(dK y:Int) then .big else .yes y):=aB (by rw[m0.o,hy]);have o1:=k3.o.len.2;have o9:=eH.argsLen c9.1 c9.2;have p9:=aB (k3.o.read (g:=g) (by have:=q1.o;have:=j8.o;omega) aA);clear e7 l6 hy c9 o1 o9;go_wp2_with fail;refine (rV p9.o (by have:=i1.o.2;omega) room).mono ?_;rintro en w4 ⟨b8,h4⟩;have b3:=bZ a5 b8;have f0:=aB (k3.o.below b8);clear b8;rcases h4 with⟨g4,rfl⟩ | ⟨d0,rfl⟩
   · have a0:Hid (res=.yes y):=aB (by rw[d6.o,if_neg g4]);have d2:=aB (j5.o.below b3.o i8);have z4:=d2.o.cell;have f4:=d2.o.frozen;clear g4;go_wp2_with fail;refine bodyPost_ret (v:=.tuple #[.agg #[O A3 n3 c3,O B3 m3 d3],.bool true]) (jQ (g:=w.heap.size+1) (by have:=(d2.o.set_ 0 (O A3 n3 c3)).set_ 1 (O B3 m3 d3);simpa using this) aD aD) rfl ⟨?_,.inr ⟨A3,n3,c3,B3,m3,d3,true,rfl,.inr ⟨y,a0.o,rfl,?_⟩⟩⟩
     · exact ((a6.o.trans (b3.o.mono a6.o.size)).setCell (p:=⟨w.heap.size+1,0,X⟩) (Nat.le_succ _) _).setCell (p:=⟨w.heap.size+1,1,X⟩) (Nat.le_succ _) _
     exact (f0.o.box2 d2.o _ _).base (by have:=j8.o;omega)
   have a0:Hid (res=.big):=aB (by rw[d6.o,if_pos d0]);clear d0;go_wp2_with fail;exact⟨rfl,a6.o.trans (b3.o.mono a6.o.size),.inl ⟨a0.o,rfl⟩⟩
 have e0:=aB hrd;have j6:Hid (Calls Tryz.prog 69 #[.pointer (some ⟨g,0,X⟩),.agg #[O A n c,O B m d]] w1 (gC false w1)):=aB (by rw[<-Bool.eq_false_iff.2 e0.o];exact lQ HR.o k4.o HC.o HW.o HI.o e5.o);clear hrd;go_wp2_with fail;refine (j6.o).mono ?_;rintro en w2 ⟨rfl,d9⟩;have e6:=aB d9;have n0:=fun i=>(d9.cell (p:=⟨w.heap.size,i,X⟩) g8).trans (g7 i);have j0:g<w2.heap.size:=(HW.o.below d9).lt;clear d9;go_wp2_with fail;refine (wI j0 (HI.o.below e6.o) e5.o).mono ?_;rintro en w3 ⟨e7,h3⟩;have a5:=bZ e6 e7;have k6:=fun i=>(a5.o.cell (p:=⟨w.heap.size,i,X⟩) g8).trans (g7 i);have c6:=aB (j5.o.below a5.o i8);clear e7;cases hpt:cS s with
 | none =>
  rw[hpt] at h3;simp only at h3;subst h3;have a0:Hid (res=.no):=aB (e3.o.trans (PU e0.o hpt));have z3:=c6.o.cell;have f3:=c6.o.frozen;clear hpt;go_wp2_with fail;refine bodyPost_ret (v:=.tuple #[.agg #[O A n c,O B m d],.bool false]) (jQ (g:=w.heap.size+1) (by have:=(c6.o.set_ 0 (O A n c)).set_ 1 (O B m d);simpa using this) aD aD) rfl ⟨?_,.inr ⟨A,n,c,B,m,d,false,rfl,.inl ⟨a0.o,rfl,rfl,rfl,rfl,rfl,rfl,rfl⟩⟩⟩;exact ((a6.o.trans (a5.o.mono a6.o.size)).setCell (p:=⟨w.heap.size+1,0,X⟩) (Nat.le_succ _) _).setCell (p:=⟨w.heap.size+1,1,X⟩) (Nat.le_succ _) _
 | some p =>
 rw[hpt] at h3;simp only at h3;obtain⟨Ap,np,cp,rfl,i7⟩:=h3;have HP:=aB i7;have g9:=iM e5.o hpt;have g3:=dJ g9.1;have h0:bI p=np:=i7.len;obtain⟨fz,g2⟩ : ∃z:Nat,z=dK s:=⟨_,rfl⟩;have b4:Hid (res=match pD b cv gas (bU p) (room-(fz:Int)+(np:Int)) with | .no=>.no | .big=>.big | .yes y=>.yes (dU s (fI y))):=aB (by rw[e3.o,g2,<-h0];exact PV e0.o hpt);have p3:=aB hpt;have j7:=aB g9;have d7:=aB g3;have g6:=aB h0;have h1:=p1.o;have h2:=m1.o;have h4:=g9.2;rw[h0] at h4;rw[<-g2] at h1 h4;have n2:IntKind.i64.wrap (room-(fz:Int))=room-(fz:Int):=by rw[IntKind.wrap_i64];omega
 obtain⟨rm2,f5⟩ : ∃z:Int,z=room-(fz:Int)+(np:Int):=⟨_,rfl⟩;have n1:IntKind.i64.wrap (room-(fz:Int)+(np:Int))=rm2:=by rw[IntKind.wrap_i64];omega
 rw[<-f5] at b4;have b0:Hid ((np:Int)<=rm2/\rm2<=4096/\np<gas/\rm2+(fz:Int)=room+(np:Int)):=aB (by have:=j9.o;omega);have k0:=aB g2;have z3:=c6.o.cell;have f3:=c6.o.frozen;have m9:=aB (fun (W:World) (hB:Below w3.heap.size w3 W)=>fP (A:=Ap) (n:=np) (c:=cp) (w:=W) (bJ.keep HP.o (R':=(· < W.heap.size)) fun q hq=>⟨Nat.lt_of_lt_of_le hq.1 hB.size,fun o=>hB.cell (p:=⟨q,o,X⟩) hq.1⟩) j7.o.1);have i2:=aB (fun (W:World) (hB:Below w3.heap.size w3 W)=>qV ((HI.o.below a5.o).below hB) (by have:=k1.o;omega));rw[<-g2] at i2;have m6:=aB (HW.o.below a5.o);have o6:g<w3.heap.size:=m6.o.lt;have f2:w.heap.size<w3.heap.size:=by have:=a5.o.size;omega
 have i3:=aB (fun (W:World) (hB:Below w3.heap.size w3 W) (A4 B4:Option Addr) (n4 c4 m4 d4 l4:Nat) (h3l:w3.heap.size<=l4) (hl:l4<=W.heap.size) (h9:fE l4 W (bU p) A4 n4 c4 B4 m4 d4)=>IH.o W (bU p) A4 B4 n4 c4 m4 d4 l4 rm2 (m6.o.below hB) aA hl h9 (kI j7.o.1) (by rw[d7.o,g6.o];exact b0.o.1) b0.o.2.1 (by rw[d7.o,g6.o];exact b0.o.2.2.1));generalize hst2:pD b cv gas (bU p) rm2=r2 at *;have d6:=aB hst2;clear i7 hpt g9 g3 h0 g2 h1 h2 h4 f5 hst2;go_upto_region 6 with fail
 go_cut [10,11] (fun pv bv wx=>∃(g10:Nat) (A5 B5:Option Addr) (n5 c5 m5 d5:Nat) (bl:Bool),pv=.pointer (some ⟨g10,0,X⟩)/\bv=.bool bl/\Hid (w3.heap.size<=g10)/\Hid (Below w3.heap.size w3 wx)/\Hid (aS wx g10 78 #[O A5 n5 c5,O B5 m5 d5])/\Hid ((r2=.no/\bl=false)\/∃y,r2=.yes y/\bl=true/\fE w3.heap.size wx y A5 n5 c5 B5 m5 d5))
 case first =>
  refine wp_region_held_drew (S:=(fun w'=>Below w3.heap.size w3 w')) aC ?_ (fun hZ => ?_)
  · (try dsimp only);exact aT (Below.refl _ _) 1
  have b9:Hid (Below w3.heap.size w3 w3.drew):=aB (aT (Below.refl _ _) 1);generalize w3.drew=W1 at *;refine aL 0 hZ ?_;refine aL 1 hZ ?_;refine aL 3 hZ ?_;refine tk 4 ?_ (fun wq hSw => ?_) hZ ?_;rotate_left
  · have s0:=(hSw.cell (p:=⟨w.heap.size,0,X⟩) f2).trans (k6 0);have s1:=(hSw.cell (p:=⟨w.heap.size,1,X⟩) f2).trans (k6 1);go_simp;try with_reducible rfl
  try simp only[p7]
  refine aL 7 hZ ?_;refine aL 8 hZ ?_;refine wpAnyH_ready (rs:=[2,14]) aC aD ?_;refine AllReadyH.cons rfl (fun K hK => ?_) (AllReadyH.cons rfl (fun K hK => ?_) (AllReadyH.nil))
  · go_simp;go_at_call 42
    refine (m9.o W1 b9.o).mono ?_;rintro en w4 ⟨b8,A4,n4,c4,B4,m4,d4,rfl,g5⟩;have b3:Hid (Below w3.heap.size w3 w4):=bZ b9 b8;have f0:=aB g5;have a8:w3.heap.size<=W1.heap.size:=b9.o.size;have a1:W1.heap.size<=w4.heap.size:=b8.size;clear b8 g5;go_wp2_with fail;refine hK.o _ _ (by exact b3.o) fun hZ => ?_;clear hK K;try simp only[p7]
    refine wpAnyH_ready (rs:=[5,14]) aC aD ?_;refine AllReadyH.cons rfl (fun K hK => ?_) (AllReadyH.cons rfl (fun K hK => ?_) (AllReadyH.nil))
    · go_simp;go_at_call 73
      refine (i2.o w4 b3.o).mono ?_;rintro en w5 ⟨rfl,b1⟩;have b2:Hid (Below w3.heap.size w3 w5):=bZ b3 b1;have e9:=aB (f0.o.below b1);have a1:=Nat.le_trans a1 b1.size;clear b1;go_wp2_with fail;refine hK.o _ _ (by exact b2.o) fun hZ => ?_;clear hK K;try simp only[p7]
      refine aL 6 hZ ?_;refine aL 9 hZ ?_;refine wpAnyH_ready (rs:=[10,14]) aC aD ?_;refine AllReadyH.cons rfl (fun K hK => ?_) (AllReadyH.cons rfl (fun K hK => ?_) (AllReadyH.nil))
      · go_simp;go_at_call 41
        refine (i3.o w5 b2.o A4 B4 n4 c4 m4 d4 _ a8 a1 e9.o).mono ?_;rintro en w6 ⟨a9,h6⟩;have a4:Hid (Below w3.heap.size w3 w6):=bZ b2 a9;rcases h6 with⟨a2,rfl⟩ | ⟨A5,n5,c5,B5,m5,d5,bl,rfl,a2⟩
        · have a0:Hid (res=.big):=aB (by rw[b4.o,a2]);clear a2 a9;go_wp2_with fail;exact⟨rfl,a6.o.trans ((a5.o.trans (a4.o.mono a5.o.size)).mono a6.o.size),.inl ⟨a0.o,rfl⟩⟩
        have e4:=aB a2;clear a9 a2;go_wp2_with fail;refine hK.o _ _ (by exact a4.o) fun hZ => ?_;clear hK K;try simp only[p7]
        refine aL 11 hZ ?_;refine aL 12 hZ ?_;refine aL 13 hZ ?_;refine r1 14 fun K hK => ?_;go_simp;refine hK.o _ _ (by exact a4.o.alloc a4.o.size _) fun hZ => ?_;clear hK K;try simp only[p7]
        have b7:Below w6.heap.size w6 (w6.alloc (Y #[O X 0 0,O X 0 0] 78)):=aP _ _;have c0:Hid (Below w3.heap.size w3 (w6.alloc (Y #[O X 0 0,O X 0 0] 78))):=aB (a4.o.alloc a4.o.size _);have b6:Hid (aS (w6.alloc (Y #[O X 0 0,O X 0 0] 78)) w6.heap.size 78 #[O X 0 0,O X 0 0]):=aB (aS.new _ _ _);have p2:=aB (AQ.below e4.o b7);generalize (w6.alloc (Y #[O X 0 0,O X 0 0] 78))=Wa at *;have a3:w3.heap.size<=w6.heap.size:=a4.o.size;clear b7;have zb:=b6.o.cell;have fb:=b6.o.frozen;refine r1 15 fun K hK => ?_;go_simp;refine hK.o _ _ (by exact (c0.o.setCell (p:=⟨w6.heap.size,0,X⟩) a3 _).setCell (p:=⟨w6.heap.size,1,X⟩) a3 _) fun hZ => ?_;clear hK K;try simp only[p7]
        refine aL 16 hZ ?_;refine wpAnyH_done aC ?_ _;go_wp2_with fail;go_meet;refine⟨_,A5,B5,n5,c5,m5,d5,bl,rfl,rfl,aB a3,aB ((c0.o.setCell (p:=⟨w6.heap.size,0,X⟩) a3 _).setCell (p:=⟨w6.heap.size,1,X⟩) a3 _),aB (by have:=(b6.o.set_ 0 (O A5 n5 c5)).set_ 1 (O B5 m5 d5);simpa using this),aB ?_⟩;rcases p2.o with⟨h1,h2,_⟩ | ⟨y,h1,h2,h3⟩
        · exact .inl ⟨h1,h2⟩
        exact .inr ⟨y,h1,h2,(h3.box2 b6.o _ _).base a8⟩
      go_simp;refine hK.o _ _ (by exact b2.o.alloc b2.o.size _) fun hZ => ?_;clear hK K;try simp only[p7]
      have b7:Below w5.heap.size w5 (w5.alloc (Y #[O X 0 0,O X 0 0] 78)):=aP _ _;have c0:Hid (Below w3.heap.size w3 (w5.alloc (Y #[O X 0 0,O X 0 0] 78))):=aB (b2.o.alloc b2.o.size _);have b6:Hid (aS (w5.alloc (Y #[O X 0 0,O X 0 0] 78)) w5.heap.size 78 #[O X 0 0,O X 0 0]):=aB (aS.new _ _ _);have k2:=aB (e9.o.below b7);have a1:=Nat.le_trans a1 b7.size;generalize (w5.alloc (Y #[O X 0 0,O X 0 0] 78))=Wa at *;have a3:w3.heap.size<=w5.heap.size:=b2.o.size;clear b7;refine r1 10 fun K hK => ?_;go_simp;go_at_call 41
      refine (i3.o Wa c0.o A4 B4 n4 c4 m4 d4 _ a8 a1 k2.o).mono ?_;rintro en w6 ⟨a9,h6⟩;have a4:Hid (Below w3.heap.size w3 w6):=bZ c0 a9;have b5:=aB (b6.o.below a9 b6.o.lt);rcases h6 with⟨a2,rfl⟩ | ⟨A5,n5,c5,B5,m5,d5,bl,rfl,a2⟩
      · have a0:Hid (res=.big):=aB (by rw[b4.o,a2]);clear a2 a9;go_wp2_with fail;exact⟨rfl,a6.o.trans ((a5.o.trans (a4.o.mono a5.o.size)).mono a6.o.size),.inl ⟨a0.o,rfl⟩⟩
      have e4:=aB a2;clear a9 a2;go_wp2_with fail;refine hK.o _ _ (by exact a4.o) fun hZ => ?_;clear hK K;try simp only[p7]
      refine aL 11 hZ ?_;refine aL 12 hZ ?_;refine aL 13 hZ ?_;have zb:=b5.o.cell;have fb:=b5.o.frozen;refine r1 15 fun K hK => ?_;go_simp;refine hK.o _ _ (by exact (a4.o.setCell (p:=⟨w5.heap.size,0,X⟩) a3 _).setCell (p:=⟨w5.heap.size,1,X⟩) a3 _) fun hZ => ?_;clear hK K;try simp only[p7]
      refine aL 16 hZ ?_;refine wpAnyH_done aC ?_ _;go_wp2_with fail;go_meet;refine⟨_,A5,B5,n5,c5,m5,d5,bl,rfl,rfl,aB a3,aB ((a4.o.setCell (p:=⟨w5.heap.size,0,X⟩) a3 _).setCell (p:=⟨w5.heap.size,1,X⟩) a3 _),aB (by have:=(b5.o.set_ 0 (O A5 n5 c5)).set_ 1 (O B5 m5 d5);simpa using this),aB ?_⟩;rcases e4.o with⟨h1,h2,_⟩ | ⟨y,h1,h2,h3⟩
      · exact .inl ⟨h1,h2⟩
      exact .inr ⟨y,h1,h2,(h3.box2 b5.o _ _).base a8⟩
    go_simp;refine hK.o _ _ (by exact b3.o.alloc b3.o.size _) fun hZ => ?_;clear hK K;try simp only[p7]
    have b7:Below w4.heap.size w4 (w4.alloc (Y #[O X 0 0,O X 0 0] 78)):=aP _ _;have c0:Hid (Below w3.heap.size w3 (w4.alloc (Y #[O X 0 0,O X 0 0] 78))):=aB (b3.o.alloc b3.o.size _);have b6:Hid (aS (w4.alloc (Y #[O X 0 0,O X 0 0] 78)) w4.heap.size 78 #[O X 0 0,O X 0 0]):=aB (aS.new _ _ _);have k2:=aB (f0.o.below b7);have a1:=Nat.le_trans a1 b7.size;generalize (w4.alloc (Y #[O X 0 0,O X 0 0] 78))=Wa at *;have a3:w3.heap.size<=w4.heap.size:=b3.o.size;clear b7;refine r1 5 fun K hK => ?_;go_simp;go_at_call 73
    refine (i2.o Wa c0.o).mono ?_;rintro en w5 ⟨rfl,b1⟩;have b2:Hid (Below w3.heap.size w3 w5):=bZ c0 b1;have e8:=aB (b6.o.below b1 b6.o.lt);have e9:=aB (k2.o.below b1);have a1:=Nat.le_trans a1 b1.size;clear b1;go_wp2_with fail;refine hK.o _ _ (by exact b2.o) fun hZ => ?_;clear hK K;try simp only[p7]
    refine aL 6 hZ ?_;refine aL 9 hZ ?_;refine r1 10 fun K hK => ?_;go_simp;go_at_call 41
    refine (i3.o w5 b2.o A4 B4 n4 c4 m4 d4 _ a8 a1 e9.o).mono ?_;rintro en w6 ⟨a9,h6⟩;have a4:Hid (Below w3.heap.size w3 w6):=bZ b2 a9;have b5:=aB (e8.o.below a9 e8.o.lt);rcases h6 with⟨a2,rfl⟩ | ⟨A5,n5,c5,B5,m5,d5,bl,rfl,a2⟩
    · have a0:Hid (res=.big):=aB (by rw[b4.o,a2]);clear a2 a9;go_wp2_with fail;exact⟨rfl,a6.o.trans ((a5.o.trans (a4.o.mono a5.o.size)).mono a6.o.size),.inl ⟨a0.o,rfl⟩⟩
    have e4:=aB a2;clear a9 a2;go_wp2_with fail;refine hK.o _ _ (by exact a4.o) fun hZ => ?_;clear hK K;try simp only[p7]
    refine aL 11 hZ ?_;refine aL 12 hZ ?_;refine aL 13 hZ ?_;have zb:=b5.o.cell;have fb:=b5.o.frozen;refine r1 15 fun K hK => ?_;go_simp;refine hK.o _ _ (by exact (a4.o.setCell (p:=⟨w4.heap.size,0,X⟩) a3 _).setCell (p:=⟨w4.heap.size,1,X⟩) a3 _) fun hZ => ?_;clear hK K;try simp only[p7]
    refine aL 16 hZ ?_;refine wpAnyH_done aC ?_ _;go_wp2_with fail;go_meet;refine⟨_,A5,B5,n5,c5,m5,d5,bl,rfl,rfl,aB a3,aB ((a4.o.setCell (p:=⟨w4.heap.size,0,X⟩) a3 _).setCell (p:=⟨w4.heap.size,1,X⟩) a3 _),aB (by have:=(b5.o.set_ 0 (O A5 n5 c5)).set_ 1 (O B5 m5 d5);simpa using this),aB ?_⟩;rcases e4.o with⟨h1,h2,_⟩ | ⟨y,h1,h2,h3⟩
    · exact .inl ⟨h1,h2⟩
    exact .inr ⟨y,h1,h2,(h3.box2 b5.o _ _).base a8⟩
  go_simp;refine hK.o _ _ (by exact b9.o.alloc b9.o.size _) fun hZ => ?_;clear hK K;try simp only[p7]
  have b7:Below W1.heap.size W1 (W1.alloc (Y #[O X 0 0,O X 0 0] 78)):=aP _ _;have c0:Hid (Below w3.heap.size w3 (W1.alloc (Y #[O X 0 0,O X 0 0] 78))):=aB (b9.o.alloc b9.o.size _);have b6:Hid (aS (W1.alloc (Y #[O X 0 0,O X 0 0] 78)) W1.heap.size 78 #[O X 0 0,O X 0 0]):=aB (aS.new _ _ _);generalize (W1.alloc (Y #[O X 0 0,O X 0 0] 78))=Wa at *;have a3:w3.heap.size<=W1.heap.size:=b9.o.size;clear b7;refine r1 2 fun K hK => ?_;go_simp;go_at_call 42
  refine (m9.o Wa c0.o).mono ?_;rintro en w4 ⟨b8,A4,n4,c4,B4,m4,d4,rfl,g5⟩;have b3:Hid (Below w3.heap.size w3 w4):=bZ c0 b8;have m7:=aB (b6.o.below b8 b6.o.lt);have f0:=aB g5;have a8:w3.heap.size<=Wa.heap.size:=c0.o.size;have a1:Wa.heap.size<=w4.heap.size:=b8.size;clear b8 g5;go_wp2_with fail;refine hK.o _ _ (by exact b3.o) fun hZ => ?_;clear hK K;try simp only[p7]
  refine r1 5 fun K hK => ?_;go_simp;go_at_call 73
  refine (i2.o w4 b3.o).mono ?_;rintro en w5 ⟨rfl,b1⟩;have b2:Hid (Below w3.heap.size w3 w5):=bZ b3 b1;have e8:=aB (m7.o.below b1 m7.o.lt);have e9:=aB (f0.o.below b1);have a1:=Nat.le_trans a1 b1.size;clear b1;go_wp2_with fail;refine hK.o _ _ (by exact b2.o) fun hZ => ?_;clear hK K;try simp only[p7]
  refine aL 6 hZ ?_;refine aL 9 hZ ?_;refine r1 10 fun K hK => ?_;go_simp;go_at_call 41
  refine (i3.o w5 b2.o A4 B4 n4 c4 m4 d4 _ a8 a1 e9.o).mono ?_;rintro en w6 ⟨a9,h6⟩;have a4:Hid (Below w3.heap.size w3 w6):=bZ b2 a9;have b5:=aB (e8.o.below a9 e8.o.lt);rcases h6 with⟨a2,rfl⟩ | ⟨A5,n5,c5,B5,m5,d5,bl,rfl,a2⟩
  · have a0:Hid (res=.big):=aB (by rw[b4.o,a2]);clear a2 a9;go_wp2_with fail;exact⟨rfl,a6.o.trans ((a5.o.trans (a4.o.mono a5.o.size)).mono a6.o.size),.inl ⟨a0.o,rfl⟩⟩
  have e4:=aB a2;clear a9 a2;go_wp2_with fail;refine hK.o _ _ (by exact a4.o) fun hZ => ?_;clear hK K;try simp only[p7]
  refine aL 11 hZ ?_;refine aL 12 hZ ?_;refine aL 13 hZ ?_;have zb:=b5.o.cell;have fb:=b5.o.frozen;refine r1 15 fun K hK => ?_;go_simp;refine hK.o _ _ (by exact (a4.o.setCell (p:=⟨W1.heap.size,0,X⟩) a3 _).setCell (p:=⟨W1.heap.size,1,X⟩) a3 _) fun hZ => ?_;clear hK K;try simp only[p7]
  refine aL 16 hZ ?_;refine wpAnyH_done aC ?_ _;go_wp2_with fail;go_meet;refine⟨_,A5,B5,n5,c5,m5,d5,bl,rfl,rfl,aB a3,aB ((a4.o.setCell (p:=⟨W1.heap.size,0,X⟩) a3 _).setCell (p:=⟨W1.heap.size,1,X⟩) a3 _),aB (by have:=(b5.o.set_ 0 (O A5 n5 c5)).set_ 1 (O B5 m5 d5);simpa using this),aB ?_⟩;rcases e4.o with⟨h1,h2,_⟩ | ⟨y,h1,h2,h3⟩
  · exact .inl ⟨h1,h2⟩
  exact .inr ⟨y,h1,h2,(h3.box2 b5.o _ _).base a8⟩
 case rest =>
 obtain⟨g10,A5,B5,n5,c5,m5,d5,bl,rfl,rfl,o5,j3,f7,i9⟩:=hcut;obtain⟨w6,rfl⟩ : ∃x:World,x=wc:=⟨_,rfl⟩;have f1:=aB (a5.o.trans (j3.o.mono a5.o.size));have k5:=fun i=>(f1.o.cell (p:=⟨w.heap.size,i,X⟩) g8).trans (g7 i);have c2:=aB (j5.o.below f1.o i8);have z6:=c2.o.cell;have f6:=c2.o.frozen;have o3:w.heap.size+1<w6.heap.size:=c2.o.lt;rcases i9.o with⟨l1,j4⟩ | ⟨y,e1,j4,j2⟩
 · have a0:Hid (res=.no):=aB (by rw[b4.o,l1]);subst j4;clear l1 i9 f7 j3;go_wp2_with fail;refine bodyPost_ret (v:=.tuple #[.agg #[O A n c,O B m d],.bool false]) (jQ (g:=w.heap.size+1) (by have:=(c2.o.set_ 0 (O A n c)).set_ 1 (O B m d);simpa using this) aD aD) rfl ⟨?_,.inr ⟨A,n,c,B,m,d,false,rfl,.inl ⟨a0.o,rfl,rfl,rfl,rfl,rfl,rfl,rfl⟩⟩⟩;exact ((a6.o.trans (f1.o.mono a6.o.size)).setCell (p:=⟨w.heap.size+1,0,X⟩) (Nat.le_succ _) _).setCell (p:=⟨w.heap.size+1,1,X⟩) (Nat.le_succ _) _
 have a0:Hid (res=.yes (dU s (fI y))):=aB (by rw[b4.o,e1]);subst j4;have c9:=NO HR.o HC.o (kI j7.o.1) (by rw[d7.o,g6.o];exact b0.o.1) b0.o.2.1 (by rw[d7.o,g6.o];exact b0.o.2.2.1) (d6.o.trans e1);have i1:=aB c9;have i6:dK y<=4096:=by have:=c9.2;have:=b0.o.2.1;omega
 have o0:=j2.len.2;have o8:=eH.argsLen c9.1 i6;have p8:=aB (j2.read (g:=g) o6 aA);have l9:=aB i6;have k7:=f7.o.cell;have e8:=aB f7.o;have f9:g10<w6.heap.size:=f7.o.lt;have p5:=aB (m2.o.below f1.o);have o4:=o5.o;have n6:=a5.o.size;have o2:lo<=w6.heap.size:=by have:=j8.o;omega
 have q0:Hid (dK s+bI (fI y)<=4096+bI p):=aB (by
  have h9:=c9.2;have h8:=b0.o.2.2.2;have h7:=m1.o;have h6:=g6.o;have h5:=k0.o;have h4:=fY y;omega)
 clear e1 i9 f7 j3 c9 i6 o0 o8 j2;go_upto_region 9 with fail
 refine wp_region_held_drew (S:=(fun w'=>∀q,q<w6.heap.size->q ≠ w.heap.size+1->w'.heap[q]? = w6.heap[q]?)) aC ?_ (fun hZ => ?_)
 · (try dsimp only);exact fun q _ _=>rfl
 have b9:Hid (Below w6.heap.size w6 w6.drew):=aB (aT (Below.refl _ _) 1);generalize w6.drew=W1 at *;refine tk 0 ?_ (fun wq hSw => ?_) hZ ?_;rotate_left
 · have s0:=(aQ (hSw (w.heap.size) (show w.heap.size<w6.heap.size by omega) aA) 0).trans (k5 0);have s1:=(aQ (hSw (w.heap.size) (show w.heap.size<w6.heap.size by omega) aA) 1).trans (k5 1);go_simp;try with_reducible rfl
 try simp only[p7]
 refine tk 1 ?_ (fun wq hSw => ?_) hZ ?_;rotate_left
 · have s0:=(aQ (hSw (g10) f9 aA) 0).trans (k7 0);have s1:=(aQ (hSw (g10) f9 aA) 1).trans (k7 1);go_simp;try with_reducible rfl
 try simp only[p7]
 refine r1 2 fun K hK => ?_;go_simp;go_at_call 43
 refine (pN (p8.o.below b9.o) i1.o.1).mono ?_;rintro en w7 ⟨l8,h7⟩;have i5:Hid (Below w6.heap.size w6 w7):=bZ b9 l8;rcases h7 with⟨_,A7,n7,c7,rfl,k8,_⟩ | ⟨d0,rfl⟩;rotate_left
 · exact absurd d0 (by have:=l9.o;omega)
 have p0:=aB (k8.keep (R':=fun q=>lo<=q/\q<w7.heap.size) (w':=w7) fun q hq=>⟨⟨by have:=hq.1;have:=b9.o.size;omega,hq.2⟩,fun _=>rfl⟩);have p4:=aB (p5.o.below i5.o);clear l8 k8;go_wp2_with fail;refine hK.o _ _ (by exact fun q h1 _=>i5.o.block q h1) fun hZ => ?_;clear hK K;try simp only[p7]
 refine r1 3 fun K hK => ?_;go_simp;go_at_call 74
 refine (wK (by have:=i5.o.size;omega) p4.o e5.o k1.o p3.o q0.o p0.o (i1.o.1.fit l9.o)).mono ?_;rintro en w8 ⟨l7,A8,n8,c8,B8,m8,d8,rfl,l5⟩;have i4:Hid (Below w6.heap.size w6 w8):=bZ i5 l7;have q2:=aB l5;clear l7 l5;go_wp2_with fail;refine hK.o _ _ (by exact fun q h1 _=>i4.o.block q h1) fun hZ => ?_;clear hK K;try simp only[p7]
 have d1:=aB (c2.o.below i4.o o3);have z8:=d1.o.cell;have f8:=d1.o.frozen;refine r1 4 fun K hK => ?_;go_simp;refine hK.o _ _ (by exact fun q h1 h2=>(Below.heap_setCell _ ⟨w.heap.size+1,1,X⟩ _ q h2).trans ((Below.heap_setCell _ ⟨w.heap.size+1,0,X⟩ _ q h2).trans (i4.o.block q h1))) fun hZ => ?_;clear hK K;try simp only[p7]
 refine aL 5 hZ ?_;refine wpAnyH_done aC ?_ _;go_wp2_with fail;refine bodyPost_ret (v:=.tuple #[.agg #[O A8 n8 c8,O B8 m8 d8],.bool true]) (jQ (g:=w.heap.size+1) (by have:=(d1.o.set_ 0 (O A8 n8 c8)).set_ 1 (O B8 m8 d8);simpa using this) aD aD) rfl ⟨?_,.inr ⟨A8,n8,c8,B8,m8,d8,true,rfl,.inr ⟨_,a0.o,rfl,?_⟩⟩⟩
 · exact ((a6.o.trans ((f1.o.trans (i4.o.mono f1.o.size)).mono a6.o.size)).setCell (p:=⟨w.heap.size+1,0,X⟩) (Nat.le_succ _) _).setCell (p:=⟨w.heap.size+1,1,X⟩) (Nat.le_succ _) _
 exact q2.o.box2 d1.o _ _
end Go.Proofs.YtjoddliplahgkaaGreat
