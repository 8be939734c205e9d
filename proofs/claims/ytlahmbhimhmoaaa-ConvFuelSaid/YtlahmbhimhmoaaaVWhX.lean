/- core: own. -/
import Derived.Test.YtlahmbhimhmoaaaVSenseE
namespace Go.Proofs.Ytlahmbhimhmoaaa
set_option linter.unusedVariables false
set_option linter.unusedSimpArgs false
open Go.RowKit
open Go.Value renaming int → O, slice → Y
open Go.IntKind renaming i64 → X
open Option renaming none → Z, some → I
open Go.Lib renaming hid->aB
variable {c n:Nat}{A:OC}{w:OE}
theorem eV{g:Nat}{G U:Value}{D:Array Value}(h:aW w g 109 #[G,U])(ht:D.getD 4 undef=.pointer (I ⟨g,0,Z⟩)):
 (results Try.f78 D).run Try.prog w=.ok (.agg #[G,U]) w:=by
 have o:=h.cell;have F:D[4]?.getD undef=.pointer (I ⟨g,0,Z⟩):=by rw[<-ht];simp
 simp[results,Try.results78,go_sem,F,o]
theorem jX{F G:OE}{f:Fc}{r:Option Fc}{B:OC}{m d U:Nat}(D:OB w F)(hs:F.heap.size=w.heap.size+3)(h:OB F G)(o:dM U G f A n c B m d)(s:F.heap.size<=U)(z:r=I f):
 DK w.heap.size r w (.returned (.agg #[Y A n c,Y B m d])) ((G.setCell ⟨w.heap.size+1,0,Z⟩ (Y A n c)).setCell ⟨w.heap.size+1,1,Z⟩ (Y B m d)):=by
 refine⟨?_,.inl ⟨f,z,A,n,c,B,m,d,rfl,?_⟩⟩
 . exact ((D.trans (h.mono D.size)).setCell (p:=⟨w.heap.size+1,0,Z⟩) (Nat.le_succ _) _).setCell (p:=⟨w.heap.size+1,1,Z⟩) (Nat.le_succ _) _
 exact (((o.set (b:=w.heap.size+1) aA 0 _).set (b:=w.heap.size+1) aA 1 _)).base aA
theorem rG(A:OC)(n c k:Nat)(hk:k<=n)(G:n<=c)(F:A=Z->c=0):∃D,(∀w:World,(Instr.slice 46 (Y A n c) (I (O X (k:Int))) Z Z).run Try.prog w=.ok (Y D (n-k) (c-k)) w) ∧
 (∀(R:Nat->Prop)(w:OE)(ls:OD),dN R w A n c ls->dN R w D (n-k) (c-k) (ls.drop k))/\(D=Z->c-k=0):=by
 refine⟨if c=k then A else A.map (·.add (k*1)),fun w=>?_,fun R w ls h=>?_,fun e=>?_⟩
 . rw[run_slice_l w 46 A n c aC .i64 (k:Int) aA aA];have e:Try.prog.elem 46=29:=by kernel_rfl
   rw[e,C5];rfl
 . have h1:=h.len;have h2:=h.few;refine⟨by rw[NC];omega,by omega,fun hn=>?_⟩;obtain⟨b,off,rfl,z,hm⟩:=h.mem aA;rw[aN aA];refine⟨b,off+k,?_,z,fun j hj=>?_⟩
   . simp only[Option.map_some,Addr.add,Nat.mul_one];split
     . rename_i o;rw[o,MQ]
     rfl
   obtain⟨D,n',U,G,ht⟩:=hm (k+j) aA;refine⟨D,n',U,by rw[Nat.add_assoc];exact G,?_⟩;have e:(ls.drop k).getD j []=ls.getD (k+j) []:=by
    rw[MK,MK,List.getElem?_drop]
   rw[e];exact ht
 by_cases s:c=k
 . omega
 rw[aN s]at e;cases A with
 | none=>have:=F rfl;omega
 | some a=>cases e
theorem CS{base:Nat}{l:List Nd}(D:bG w base (Y A n c) l)(o:l.length<=5864062014805):aX w A n c l:=by
 have s:l.length=n:=by
  obtain⟨_,_,e⟩:=D.slice;injection e with _ F;exact F.symm
 rw[<-s]at D ⊢;obtain⟨z,nq,cq,e,G⟩:=bG.termS D o;injection e with U F h;subst U F h;exact G.keep fun q G=>⟨(aV D G).2.1,fun _=>rfl⟩
def JC(x u:TT)(w:OE)(e:Ending)(w':OE):Prop:=OB w w'/\∃A n c,e=.returned (.tuple #[Y A n c,O X (cM x u).2])/\((cM x u).2=0->aX w' A n c (aT (cM x u).1))
theorem uM{b:Bk}{free:Int}{x u:TT}{B:OC}{m d:Nat}(h0:0<=free)(h1:free<=1000000)(hx:bJ b (free+1) x)(hu:bJ b free u)(tx:aX w A n c (aT x))(tu:aX w B m d (aT u)):
 Calls Try.prog 96 #[Y A n c,Y B m d,O X 0] w (JC x u w):=by
 have hS:=iO h0 h1 hx hu;have h:=sG tx tu 0 (fun _ _ _=>hS.1);rw[hS.2.1]at h;refine h.mono ?_;rintro e w' ⟨hb,s,o,z,rfl,D⟩;refine⟨hb,s,o,z,rfl,fun G=>?_⟩;rw[LZ G]at D;simp only at D;have hl:(aT (cM x u).1).length=o:=by
  obtain⟨_,_,e⟩:=D.slice;injection e with _ F;exact F.symm
 rw[<-hl]at D ⊢;obtain⟨Aq,nq,cq,e,U⟩:=bG.termS D (by have:=(hS.2.2 G).few;have G:(aT (cM x u).1).length=bZ (cM x u).1:=rfl;omega);injection e with e1 F e3;subst e1 F e3;exact U.keep fun q U=>⟨(aV D U).2.1,fun _=>rfl⟩
set_option maxRecDepth 100000 in
set_option maxHeartbeats 4000000 in
theorem DZ{w0:OE}{g:Nat}{v:bA}{b:Bk}{cA:OC}{cn cc:Nat}{cv:OD}{f:Nat}(hr:bD b=0)(hb:bO w0 v b)(hc:fA b cv)(m0:(cv.length:Int)<=990000)(hw:wS w0 g v b cA cn cc cv f w){s:Fc}{B:OC}{m d:Nat}(hs:gJ g w s A n c B m d)(fs:cG b (cv.length:Int) s)(E3:m<=d)(E2:cJ s<=4096)(z8:bX b cv s=true):
 Calls Try.prog 78 #[.pointer (I ⟨g,0,Z⟩),.agg #[Y A n c,Y B m d]] w (DK w.heap.size (hY b cv s) w):=by
 obtain⟨bs,os,rfl,H8,H3,h0,z,h2⟩:=hs.node;obtain⟨so,t4⟩:=OM s.1.1.op;obtain⟨sa,t2⟩:=OM s.1.1.a;obtain⟨sb,t3⟩:=OM s.1.1.b;rw[<-t4]at h0;rw[<-t2]at z;rw[<-t3]at h2;obtain⟨g0,l5⟩:=OM (hY b cv s);rw[<-l5];have y7:s.2.length=m:=by have:=hs.2.1.len;simpa using this
 have H7:=hs.2.1.few;obtain⟨G,e8⟩:=OM (((w.alloc (.cells #[Y (I ⟨bs,os,Z⟩) n c,Y B m d] 109)).alloc (.cells #[Y Z 0 0,Y Z 0 0] 109)).alloc (.cells #[O X so,O X sa,O X sb] 42));have k3:OB w G:=by rw[e8];exact (cB _ _ _).alloc aG _
 have zs:aW G w.heap.size 109 #[Y (I ⟨bs,os,Z⟩) n c,Y B m d]:=by rw[e8];exact ((aW.new _ _ _).alloc _).alloc _
 have zr:aW G (w.heap.size+1) 109 #[Y Z 0 0,Y Z 0 0]:=by rw[e8];exact (aW.new' aD).alloc _
 have zn:aW G (w.heap.size+2) 42 #[O X so,O X sa,O X sb]:=by rw[e8];exact aW.new' aD
 have q3:G.heap.size=w.heap.size+3:=by rw[e8];simp
 obtain⟨l7,HW,D1⟩:=OK (fun (W:OE) (hB:OB G W) (x:TT) (A':OC) (n' c':Nat) (ht:aX W A' n' c' (aT x)) (hx:bJ b (cv.length:Int) x)=>mA ht hx ((hs.below k3).below hB).args fs.args hs.2.2) (hw.below k3) hs;have H6:m<=4096:=by have:=cG.argsLen fs E2;omega
 obtain⟨j6,HS,F,h6,HR,HC,i0,a3⟩:=OH hw (hs.below k3) k3 hb hr hc m0 fs;obtain⟨C8,b7,g3,H0,g1,l8,i2,g2⟩:=OH y7 t4 t2 t3 l5 z8 zr q3;have H9:=hw.lt;have zg:=HW.o.blk.cell;have m8:g<G.heap.size:=HW.o.lt;have a7:w.heap.size<G.heap.size:=zs.lt;have i8:w.heap.size+1<G.heap.size:=zr.lt;have n9:w.heap.size+2<G.heap.size:=zn.lt;have a8:=zs.cell;have g9:=zn.cell;clear hr hb hc m0 hw hs fs t4 t2 t3 l5 z8 y7 k3 zs zr zn q3;go_in;go_upto_region 2 with fail
 rw[<-e8];clear e8;by_cases o5:so=5
 . have h5:=b7.o.symm.trans o5;have y5:0<m:=by
    have h9:=l8.o;unfold bX at h9;rw[LZ h5,C8.o]at h9;exact of_decide_eq_true h9
   obtain⟨p,q,hk⟩:=gO a3.o.head.okt (Or.inr (Or.inl h5));obtain⟨e1,k9,w8,w9,hp,hq⟩:=yZ a3.o.head.rt (Or.inr h5) hk;have l4:(aT s.1).length=n:=HS.o.1.len;rw[l4]at w9;obtain⟨a,ha⟩:=OM (s.2.getD 0 (default,[],.nil));have j4:Hid (g0=if (cM q a).2=0 then eH (cM q a).1 (s.2.drop 1) else Z):=aB (by rw[g1.o];unfold hY;rw[LZ h5,<-ha,dY (i:=1) (y:=q) (by rw[hk];rfl)]);have t9:Hid (bJ b ((cv.length:Int)+1) q):=aB (by
    have:=a3.o.head.kid (i:=1) (y:=q) (by rw[hk];rfl)
    rwa [show aR s.1.1.op s.1.1.b ((1:Nat):Int)=1 from by rw[h5];simp[aR]]at this)
   obtain⟨y2,bb,oo,A4,n4,c4,eB,D7,l9,i9⟩:=D1.o.arg y5;have j2:Hid (bJ b (cv.length:Int) a):=aB (by rw[ha];exact a3.o.args _ (lC y2 (default,[],.nil)));rw[<-ha]at i9;have r4:=aB (fun (W:OE) (hB:OB G W)=>(a6.keep i9 (R':=(· < W.heap.size)) (w':=W) fun q hq=>⟨by have:=F.o.size;have:=hB.size;omega,fun o=>((F.o.trans (hB.mono F.o.size))).cell (p:=⟨q,o,Z⟩) hq.1⟩));have k5:=(F.o.cell (p:=⟨bb,oo+0,Z⟩) D7).trans l9;rw[MQ]at k5;obtain⟨B1,k6,p8,p6⟩:=rG B m d 1 y5 E3 HS.o.2.2;have v5:=aB (fun (W:OE) (hB:OB G W) (x:TT) (A':OC) (n' c':Nat) (ht:aX W A' n' c' (aT x)) (hx:bJ b (cv.length:Int) x)=>mA (L:=s.2.drop 1) ht hx (by rw[List.map_drop];exact p8 _ _ _ (HS.o.below hB).args) (fun y hy=>a3.o.args y (List.mem_of_mem_drop hy)) p6);obtain⟨Af,E1,l0⟩:=oT (I ⟨bs,os,Z⟩) n c e1 w9;have j1:=aB (fun (W:OE) (hB:OB G W)=>fD (HS.o.below hB).head 1);rw[k9]at j1;have HQ:=aB (fun (W:OE) (hB:OB G W)=>l0 _ _ _ (HS.o.below hB).head);rw[hq]at HQ;have F6:∀w:World,(Instr.slice 46 (Y B m d) (I (O X 1)) Z Z).run Try.prog w=.ok (Y B1 (m-1) (d-1)) w:=k6;have H5:(0:Int)<(m:Int):=aA;subst eB;subst o5;clear hk hp hq i9 p8 p6 l0 k9 y2 l9 ha h5 k6 l4;go_upto_region 4 with fail
   refine wp_region_held_drew (S:=(fun w'=>∀q,q<G.heap.size->q≠w.heap.size+1->w'.heap[q]? = G.heap[q]?)) aC ?_ (fun D=>?_)
   . (try dsimp only);exact fun q _ _=>rfl
   have b6:Hid (OB G G.drew):=aB (aU (MC _ _) 1);generalize G.drew=W1 at *;refine aL 0 D ?_;refine tk 1 ?_ (fun wq hSw=>?_) D ?_;rotate_left
   . have f0:=(aP (hSw (w.heap.size) a7 aA) 0).trans (a8 0);go_simp;try with_reducible rfl
   try simp only[p7]
   refine aL 2 D ?_;refine tk 3 ?_ (fun wq hSw=>?_) D ?_;rotate_left
   . have f0:=(aP (hSw (w.heap.size) a7 aA) 0).trans (a8 0);go_simp;try with_reducible rfl
   try simp only[p7]
   refine r1 4 fun K hK=>?_;go_simp;go_at_call 44
   refine (j1.o _ b6.o).mono ?_;rintro en w3 ⟨rfl,d4⟩;have a2:=bK b6 d4;clear d4;go_wp2_with fail;refine hK.o _ _ (by exact fun q z _=>a2.o.block q z) fun D=>?_;clear hK K;try simp only[p7]
   refine aL 5 D ?_;refine aL 6 D ?_;refine wpAnyH_done aC ?_ _;go_upto_region 5 with fail
   have b1:=aB (fun (W:OE) (hB:OB G W)=>uM aA (by have:=i0.o;omega) t9.o j2.o (HQ.o W hB) (r4.o W hB));have i1:=aB (fun h9=>(iO aA (by have:=i0.o;omega) t9.o j2.o).2.2 h9);have g6:Hid ((cM q a).2≠0->(cM q a).2=9):=aB kP;unfold JC at b1;generalize cM q a=sx at *;by_cases h0:sx.2=0;rotate_left
   . have g7:=aB h0;have r3:Hid (g0=Z):=aB (by rw[j4.o,aN h0]);rw[g6.o h0]at b1;clear h0;refine wp_region_held_drew (S:=(fun w'=>∀q,q<G.heap.size->q≠w.heap.size+1->w'.heap[q]? = G.heap[q]?)) aC ?_ (fun D=>?_)
     . (try dsimp only);exact fun q z _=>a2.o.block q z
     have b0:Hid (OB G w3.drew):=aB (aU a2.o 1);generalize w3.drew=W3 at *;refine aL 0 D ?_;refine aL 1 D ?_;refine tk 2 ?_ (fun wq hSw=>?_) D ?_;rotate_left
     . have f1:=(aP (hSw (w.heap.size) a7 aA) 1).trans (a8 1);go_simp;try with_reducible rfl
     try simp only[p7]
     refine aL 3 D ?_;refine tk 4 ?_ (fun wq hSw=>?_) D ?_;rotate_left
     . have f2:=(aP (hSw (bb) aA aA) oo).trans k5;go_simp;try with_reducible rfl
     try simp only[p7]
     refine aL 9 D ?_;refine tk 10 ?_ (fun wq hSw=>?_) D ?_;rotate_left
     . have f1:=(aP (hSw (w.heap.size) a7 aA) 1).trans (a8 1);go_simp;try with_reducible rfl
     try simp only[p7]
     refine aL 11 D ?_;refine r1 5 fun K hK=>?_;go_simp;go_at_call 96
     refine (b1.o _ b0.o).mono ?_;rintro en w4 ⟨a4,A6,n6,c6,rfl,c0⟩;have a1:=bK b0 a4;clear a4 c0;go_wp2_with fail;refine hK.o _ _ (by exact fun q z _=>a1.o.block q z) fun D=>?_;clear hK K;try simp only[p7]
     refine aL 6 D ?_;refine aL 7 D ?_;refine r1 8 fun K hK=>?_;go_simp;go_at_call 80
     refine (jF aE).mono ?_;rintro en wm ⟨rfl,rfl⟩;go_wp2_with fail;exact⟨rfl,F.o.trans (a1.o.mono F.o.size),.inr ⟨r3.o,rfl⟩⟩
   have g7:=aB h0;have b5:Hid (g0=eH sx.1 (s.2.drop 1)):=aB (by rw[j4.o,LZ h0]);rw[h0]at b1;clear h0;refine wp_region_held_drew (S:=(fun w'=>∀q,q<G.heap.size->q≠w.heap.size+1->w'.heap[q]? = G.heap[q]?)) aC ?_ (fun D=>?_)
   . (try dsimp only);exact fun q z _=>a2.o.block q z
   have b0:Hid (OB G w3.drew):=aB (aU a2.o 1);generalize w3.drew=W3 at *;refine aL 0 D ?_;refine aL 1 D ?_;refine tk 2 ?_ (fun wq hSw=>?_) D ?_;rotate_left
   . have f1:=(aP (hSw (w.heap.size) a7 aA) 1).trans (a8 1);go_simp;try with_reducible rfl
   try simp only[p7]
   refine aL 3 D ?_;refine tk 4 ?_ (fun wq hSw=>?_) D ?_;rotate_left
   . have f2:=(aP (hSw (bb) aA aA) oo).trans k5;go_simp;try with_reducible rfl
   try simp only[p7]
   refine aL 9 D ?_;refine tk 10 ?_ (fun wq hSw=>?_) D ?_;rotate_left
   . have f1:=(aP (hSw (w.heap.size) a7 aA) 1).trans (a8 1);go_simp;try with_reducible rfl
   try simp only[p7]
   refine aL 11 D ?_;refine r1 5 fun K hK=>?_;go_simp;go_at_call 96
   refine (b1.o _ b0.o).mono ?_;rintro en w4 ⟨a4,A6,n6,c6,rfl,c0⟩;have a1:=bK b0 a4;have j5:Hid (aX w4 A6 n6 c6 (aT sx.1)):=aB (by first|exact c0 rfl|exact c0 trivial|exact c0 g7.o);clear a4 c0;go_wp2_with fail;refine hK.o _ _ (by exact fun q z _=>a1.o.block q z) fun D=>?_;clear hK K;try simp only[p7]
   refine aL 6 D ?_;refine aL 7 D ?_;refine r1 8 fun K hK=>?_;go_simp;go_at_call 80
   refine gK.mono ?_;rintro en wm ⟨rfl,rfl⟩;go_wp2_with fail;refine hK.o _ _ (by exact fun q z _=>a1.o.block q z) fun D=>?_;clear hK K;try simp only[p7]
   refine r1 12 fun K hK=>?_;go_simp;go_at_call 95
   refine (v5.o _ a1.o sx.1 A6 n6 c6 j5.o (i1.o g7.o)).mono ?_;rintro en w5 ⟨a5,h5⟩;have U:=bK a1 a5;clear a5;rcases h5 with⟨f9,b3,A5,n5,c5,B5,m5,b2,rfl,b4⟩|⟨hn,rfl⟩;rotate_left
   . have HN:=aB hn;clear hn;go_wp2_with fail;exact⟨rfl,F.o.trans (U.o.mono F.o.size),.inr ⟨by rw[b5.o];exact HN.o,rfl⟩⟩
   obtain⟨d0,c9⟩:=OF b4 b3;have d2:Hid (G.heap.size<=wm.heap.size):=aB a1.o.size;have a0:=aB (i2.o.below U.o i8);have z5:=a0.o.cell;have j7:=a0.o.frozen;have g4:w.heap.size+1<w5.heap.size:=a0.o.lt;clear b4 b3;go_wp2_with fail;refine hK.o _ _ (by exact fun q z _=>U.o.block q z) fun D=>?_;clear hK K;try simp only[p7]
   refine r1 13 fun K hK=>?_;go_simp;refine hK.o _ _ (by exact fun q z h2=>(MH _ ⟨w.heap.size+1,1,Z⟩ _ q h2).trans ((MH _ ⟨w.heap.size+1,0,Z⟩ _ q h2).trans (U.o.block q z))) fun D=>?_;clear hK K;try simp only[p7]
   refine wpAnyH_done aC ?_ _;go_wp2_with fail;refine NG (v:=.agg #[Y A5 n5 c5,Y B5 m5 b2]) (eV (g:=w.heap.size+1) (by have:=(a0.o.set_ 0 (Y A5 n5 c5)).set_ 1 (Y B5 m5 b2);simpa using this) aD) rfl (jX F.o g2.o U.o d0.o d2.o (by rw[b5.o];exact c9.o))
 by_cases o7:so=7
 . have h7:=b7.o.symm.trans o7;obtain⟨p,q,r,hk⟩:=pB a3.o.head.okt h7;obtain⟨e1,e2,k9,x5,w8,k0,r8,hq,z4⟩:=tL a3.o.head.rt h7 hk;have l4:(aT s.1).length=n:=HS.o.1.len;rw[l4]at r8;have p5:=HS.o.1.cap;have j4:Hid (g0=if (cM r q).2=0 then eH (cM r q).1 s.2 else Z):=aB (by rw[g1.o];unfold hY;rw[<-b7.o,aN o5,LZ o7,dY (i:=2) (y:=r) (by rw[hk];rfl),dY (i:=1) (y:=q) (by rw[hk];rfl)]);have v0:Hid (bJ b ((cv.length:Int)+1) r):=aB (by
    have:=a3.o.head.kid (i:=2) (y:=r) (by rw[hk];rfl)
    rwa [show aR s.1.1.op s.1.1.b ((2:Nat):Int)=1 from by rw[h7];simp[aR]]at this)
   have j2:Hid (bJ b (cv.length:Int) q):=aB (a3.o.head.kid0 (i:=1) (by rw[hk];rfl) (by rw[h7];simp[aR]));have j1:=aB (fun (W:OE) (hB:OB G W)=>fD (HS.o.below hB).head 1);have t8:=aB (fun (W:OE) (hB:OB G W)=>fD (HS.o.below hB).head (e1:Int));rw[k9]at j1;rw[x5]at t8;obtain⟨Am,hm,y8⟩:=sZ (I ⟨bs,os,Z⟩) n c e1 e2 k0 r8 p5;obtain⟨Af,E1,l0⟩:=oT (I ⟨bs,os,Z⟩) n c e2 r8;have HQ:=aB (fun (W:OE) (hB:OB G W)=>y8 _ _ _ (HS.o.below hB).head);have v6:=aB (fun (W:OE) (hB:OB G W)=>l0 _ _ _ (HS.o.below hB).head);rw[hq]at HQ;rw[z4]at v6;have F5:(e1:Int)<=(e2:Int):=aA;have b1:=aB (fun (W:OE) (hB:OB G W)=>uM aA (by have:=i0.o;omega) v0.o j2.o (v6.o W hB) (HQ.o W hB));have i1:=aB (fun h9=>(iO aA (by have:=i0.o;omega) v0.o j2.o).2.2 h9);have g6:Hid ((cM r q).2≠0->(cM r q).2=9):=aB kP;unfold JC at b1;generalize cM r q=sx at *;subst o7;clear k9 x5 w8 hq z4 y8 l0 hk h7 p5 l4 o5;go_wp2_with fail;refine (j1.o _ (MC _ _)).mono ?_;rintro en w2 ⟨rfl,r9⟩;have t7:=aB r9;have F3:=fun i=>(r9.cell (p:=⟨w.heap.size,i,Z⟩) a7).trans (a8 i);clear r9;go_wp2_with fail;refine (t8.o _ t7.o).mono ?_;rintro en w3 ⟨rfl,d4⟩;have a2:=bK t7 d4;clear d4 F3;go_upto_region 9 with fail
   by_cases h0:sx.2=0;rotate_left
   . have g7:=aB h0;have r3:Hid (g0=Z):=aB (by rw[j4.o,aN h0]);rw[g6.o h0]at b1;clear h0;refine wp_region_held_drew (S:=(fun w'=>∀q,q<G.heap.size->q≠w.heap.size+1->w'.heap[q]? = G.heap[q]?)) aC ?_ (fun D=>?_)
     . (try dsimp only);exact fun q z _=>a2.o.block q z
     have b0:Hid (OB G w3.drew):=aB (aU a2.o 1);generalize w3.drew=W3 at *;refine aL 0 D ?_;refine tk 1 ?_ (fun wq hSw=>?_) D ?_;rotate_left
     . have f0:=(aP (hSw (w.heap.size) a7 aA) 0).trans (a8 0);go_simp;try with_reducible rfl
     try simp only[p7]
     refine aL 2 D ?_;refine aL 3 D ?_;refine aL 4 D ?_;refine tk 5 ?_ (fun wq hSw=>?_) D ?_;rotate_left
     . have f0:=(aP (hSw (w.heap.size) a7 aA) 0).trans (a8 0);go_simp;try with_reducible rfl
     try simp only[p7]
     refine aL 6 D ?_;refine aL 7 D ?_;refine aL 8 D ?_;refine aL 13 D ?_;refine tk 14 ?_ (fun wq hSw=>?_) D ?_;rotate_left
     . have f1:=(aP (hSw (w.heap.size) a7 aA) 1).trans (a8 1);go_simp;try with_reducible rfl
     try simp only[p7]
     refine r1 9 fun K hK=>?_;go_simp;go_at_call 96
     refine (b1.o _ b0.o).mono ?_;rintro en w4 ⟨a4,A6,n6,c6,rfl,c0⟩;have a1:=bK b0 a4;clear a4 c0;go_wp2_with fail;refine hK.o _ _ (by exact fun q z _=>a1.o.block q z) fun D=>?_;clear hK K;try simp only[p7]
     refine aL 10 D ?_;refine aL 11 D ?_;refine r1 12 fun K hK=>?_;go_simp;go_at_call 80
     refine (jF aE).mono ?_;rintro en wm ⟨rfl,rfl⟩;go_wp2_with fail;exact⟨rfl,F.o.trans (a1.o.mono F.o.size),.inr ⟨r3.o,rfl⟩⟩
   have g7:=aB h0;have b5:Hid (g0=eH sx.1 s.2):=aB (by rw[j4.o,LZ h0]);rw[h0]at b1;clear h0;refine wp_region_held_drew (S:=(fun w'=>∀q,q<G.heap.size->q≠w.heap.size+1->w'.heap[q]? = G.heap[q]?)) aC ?_ (fun D=>?_)
   . (try dsimp only);exact fun q z _=>a2.o.block q z
   have b0:Hid (OB G w3.drew):=aB (aU a2.o 1);generalize w3.drew=W3 at *;refine aL 0 D ?_;refine tk 1 ?_ (fun wq hSw=>?_) D ?_;rotate_left
   . have f0:=(aP (hSw (w.heap.size) a7 aA) 0).trans (a8 0);go_simp;try with_reducible rfl
   try simp only[p7]
   refine aL 2 D ?_;refine aL 3 D ?_;refine aL 4 D ?_;refine tk 5 ?_ (fun wq hSw=>?_) D ?_;rotate_left
   . have f0:=(aP (hSw (w.heap.size) a7 aA) 0).trans (a8 0);go_simp;try with_reducible rfl
   try simp only[p7]
   refine aL 6 D ?_;refine aL 7 D ?_;refine aL 8 D ?_;refine aL 13 D ?_;refine tk 14 ?_ (fun wq hSw=>?_) D ?_;rotate_left
   . have f1:=(aP (hSw (w.heap.size) a7 aA) 1).trans (a8 1);go_simp;try with_reducible rfl
   try simp only[p7]
   refine r1 9 fun K hK=>?_;go_simp;go_at_call 96
   refine (b1.o _ b0.o).mono ?_;rintro en w4 ⟨a4,A6,n6,c6,rfl,c0⟩;have a1:=bK b0 a4;have j5:Hid (aX w4 A6 n6 c6 (aT sx.1)):=aB (by first|exact c0 rfl|exact c0 trivial|exact c0 g7.o);clear a4 c0;go_wp2_with fail;refine hK.o _ _ (by exact fun q z _=>a1.o.block q z) fun D=>?_;clear hK K;try simp only[p7]
   refine aL 10 D ?_;refine aL 11 D ?_;refine r1 12 fun K hK=>?_;go_simp;go_at_call 80
   refine gK.mono ?_;rintro en wm ⟨rfl,rfl⟩;go_wp2_with fail;refine hK.o _ _ (by exact fun q z _=>a1.o.block q z) fun D=>?_;clear hK K;try simp only[p7]
   refine r1 15 fun K hK=>?_;go_simp;go_at_call 95
   refine (l7.o _ a1.o sx.1 A6 n6 c6 j5.o (i1.o g7.o)).mono ?_;rintro en w5 ⟨a5,h5⟩;have U:=bK a1 a5;clear a5;rcases h5 with⟨f9,b3,A5,n5,c5,B5,m5,b2,rfl,b4⟩|⟨hn,rfl⟩;rotate_left
   . have HN:=aB hn;clear hn;go_wp2_with fail;exact⟨rfl,F.o.trans (U.o.mono F.o.size),.inr ⟨by rw[b5.o];exact HN.o,rfl⟩⟩
   obtain⟨d0,c9⟩:=OF b4 b3;have d2:Hid (G.heap.size<=wm.heap.size):=aB a1.o.size;have a0:=aB (i2.o.below U.o i8);have z5:=a0.o.cell;have j7:=a0.o.frozen;have g4:w.heap.size+1<w5.heap.size:=a0.o.lt;clear b4 b3;go_wp2_with fail;refine hK.o _ _ (by exact fun q z _=>U.o.block q z) fun D=>?_;clear hK K;try simp only[p7]
   refine r1 16 fun K hK=>?_;go_simp;refine hK.o _ _ (by exact fun q z h2=>(MH _ ⟨w.heap.size+1,1,Z⟩ _ q h2).trans ((MH _ ⟨w.heap.size+1,0,Z⟩ _ q h2).trans (U.o.block q z))) fun D=>?_;clear hK K;try simp only[p7]
   refine wpAnyH_done aC ?_ _;go_wp2_with fail;refine NG (v:=.agg #[Y A5 n5 c5,Y B5 m5 b2]) (eV (g:=w.heap.size+1) (by have:=(a0.o.set_ 0 (Y A5 n5 c5)).set_ 1 (Y B5 m5 b2);simpa using this) aD) rfl (jX F.o g2.o U.o d0.o d2.o (by rw[b5.o];exact c9.o))
 by_cases o1:so=1
 . have z:=b7.o.symm.trans o1;obtain⟨t5,t6,C1⟩:=tO a3.o.head z;rw[<-g3.o]at t5 t6 C1;have A9:0<(jT cv sa).length:=by
    have h9:=l8.o;unfold bX at h9;rw[<-b7.o,aN o5,aN aA,LZ o1,<-g3.o]at h9;exact of_decide_eq_true h9
   obtain⟨y,B0,B2,E6,B3,B4⟩:=AO HC.o t5 t6 A9;have b5:Hid (g0=eH (jB y (sa+1)) s.2):=aB (by rw[g1.o];unfold hY;rw[<-b7.o,aN o5,aN o7,LZ o1,<-g3.o,B2]);obtain⟨ia,e7⟩:∃ia:Nat,sa=(ia:Int):=⟨sa.toNat,by omega⟩;have m0:=j6.o.ctx.len;have H4:=j6.o.ctx.few;obtain⟨bc,oc,ec,k4,y6⟩:=j6.o.ctx.mem aA;obtain⟨ik,y1⟩:=OM (cn-1-ia);obtain⟨A1,n1,c1,A2,n2,c2,k1,k2,kt⟩:=y6 ik aA;have A8:cv.getD ik []=aT y:=by
    rw[<-B0];unfold jT;rw[m0,e7,show ((ia:Int)).toNat=ia from by omega,<-y1]
   rw[A8]at kt;have p3:bc<w.heap.size:=k4.1;have I0:=(F.o.cell (p:=⟨bc,oc+ik*2,Z⟩) p3).trans k1;have E7:=(F.o.cell (p:=⟨bc,oc+ik*2+1,Z⟩) p3).trans k2;have C7:=aB (fun (W:OE) (hB:OB G W)=>(a6.keep kt (R':=(· < W.heap.size)) (w':=W) fun q hq=>⟨by have:=F.o.size;have:=hB.size;omega,fun o=>((F.o.trans (hB.mono F.o.size))).cell (p:=⟨q,o,Z⟩) hq.1⟩));have q8:=aB (fun (W:OE) (hB:OB G W)=>rR (C7.o W hB) (sa+1) 0 aA);rw[B4]at q8;have j3:Hid (bJ b (cv.length:Int) (jB y (sa+1))):=aB B3;have D6:Hid (∀i:Nat,G.cell? ⟨g,i,Z⟩=(#[O X b.vars,Y v.Ao v.no v.co,Y v.Ae v.ne v.ce,O X b.nat,Y v.Ap v.np v.cp,Y cA cn cc,O X (f:Int)])[i]?):=aB zg;have I1:IntKind.i64.wrap ((cn:Int)-1)=(cn:Int)-1:=by rw[MP];omega
   have I2:IntKind.i64.wrap ((cn:Int)-1-(ia:Int))=(ik:Int):=by rw[MP];omega
   have I3:IntKind.i64.wrap ((ia:Int)+1)=(ia:Int)+1:=by rw[MP];omega
   have G1:(ik:Int)<(cn:Int):=aA;have G2:(0:Int)<=(ik:Int):=aA;have x8:G.cell? ⟨g,5,Z⟩=I (Y (I ⟨bc,oc,Z⟩) cn cc):=by rw[zg,ec];rfl
   rw[e7]at q8 j3 b5;rw[e7]at g9;have q2:=F.o.size;generalize jB y ((ia:Int)+1)=yu at *;subst o1;clear A8 y6 kt t5 t6 C1 y1 A9 B0 B2 E6 B3 B4 z k4 k1 k2 D6 o5 o7;go_upto_region 11 with fail
   refine wp_region_held_drew (S:=(fun w'=>∀q,q<G.heap.size->q≠w.heap.size+1->w'.heap[q]? = G.heap[q]?)) aC ?_ (fun D=>?_)
   . (try dsimp only);exact fun q _ _=>rfl
   have b6:Hid (OB G G.drew):=aB (aU (MC _ _) 1);generalize G.drew=W1 at *;refine aL 0 D ?_;refine aL 1 D ?_;refine aL 2 D ?_;refine tk 3 ?_ (fun wq hSw=>?_) D ?_;rotate_left
   . have f3:=(aP (hSw (g) m8 aA) 5).trans x8;go_simp;try with_reducible rfl
   try simp only[p7]
   refine aL 4 D ?_;refine aL 5 D ?_;refine aL 6 D ?_;refine tk 7 ?_ (fun wq hSw=>?_) D ?_;rotate_left
   . have f3:=(aP (hSw (g) m8 aA) 5).trans x8;go_simp;try with_reducible rfl
   try simp only[p7]
   refine aL 8 D ?_;refine aL 9 D ?_;refine aL 10 D ?_;refine tk 11 ?_ (fun wq hSw=>?_) D ?_;rotate_left
   . have f4:=(aP (hSw ((w.heap.size+2)) n9 aA) 1).trans (g9 1);go_simp;try with_reducible rfl
   try simp only[p7]
   refine aL 12 D ?_;refine aL 13 D ?_;refine aL 14 D ?_;refine tk 15 ?_ (fun wq hSw=>?_) D ?_;rotate_left
   . have f5:=(aP (hSw (bc) aA aA) (oc+ik*2+1)).trans E7;go_simp;try with_reducible rfl
   try simp only[p7]
   refine aL 16 D ?_;refine tk 17 ?_ (fun wq hSw=>?_) D ?_;rotate_left
   . have f4:=(aP (hSw ((w.heap.size+2)) n9 aA) 1).trans (g9 1);go_simp;try with_reducible rfl
   try simp only[p7]
   refine aL 18 D ?_;refine aL 23 D ?_;refine tk 24 ?_ (fun wq hSw=>?_) D ?_;rotate_left
   . have f1:=(aP (hSw (w.heap.size) a7 aA) 1).trans (a8 1);go_simp;try with_reducible rfl
   try simp only[p7]
   refine r1 19 fun K hK=>?_;go_simp;go_at_call 70
   refine (q8.o _ b6.o).mono ?_;rintro en w4 ⟨a4,A6,n6,c6,rfl,z2⟩;have a1:=bK b6 a4;have j5:Hid (aX w4 A6 n6 c6 (aT yu)):=aB (CS z2 (by have:=j3.o.few;have h9:(aT yu).length=bZ yu:=rfl;first|omega|(simp only;omega)));clear a4 z2;go_wp2_with fail;refine hK.o _ _ (by exact fun q z _=>a1.o.block q z) fun D=>?_;clear hK K;try simp only[p7]
   refine aL 20 D ?_;refine aL 21 D ?_;refine r1 22 fun K hK=>?_;go_simp;go_at_call 80
   refine gK.mono ?_;rintro en wm ⟨rfl,rfl⟩;go_wp2_with fail;refine hK.o _ _ (by exact fun q z _=>a1.o.block q z) fun D=>?_;clear hK K;try simp only[p7]
   refine r1 25 fun K hK=>?_;go_simp;go_at_call 95
   refine (l7.o _ a1.o yu A6 n6 c6 j5.o j3.o).mono ?_;rintro en w5 ⟨a5,h5⟩;have U:=bK a1 a5;clear a5;rcases h5 with⟨f9,b3,A5,n5,c5,B5,m5,b2,rfl,b4⟩|⟨hn,rfl⟩;rotate_left
   . have HN:=aB hn;clear hn;go_wp2_with fail;exact⟨rfl,F.o.trans (U.o.mono F.o.size),.inr ⟨by rw[b5.o];exact HN.o,rfl⟩⟩
   obtain⟨d0,c9⟩:=OF b4 b3;have d2:Hid (G.heap.size<=wm.heap.size):=aB a1.o.size;have a0:=aB (i2.o.below U.o i8);have z5:=a0.o.cell;have j7:=a0.o.frozen;have g4:w.heap.size+1<w5.heap.size:=a0.o.lt;clear b4 b3;go_wp2_with fail;refine hK.o _ _ (by exact fun q z _=>U.o.block q z) fun D=>?_;clear hK K;try simp only[p7]
   refine r1 26 fun K hK=>?_;go_simp;refine hK.o _ _ (by exact fun q z h2=>(MH _ ⟨w.heap.size+1,1,Z⟩ _ q h2).trans ((MH _ ⟨w.heap.size+1,0,Z⟩ _ q h2).trans (U.o.block q z))) fun D=>?_;clear hK K;try simp only[p7]
   refine wpAnyH_done aC ?_ _;go_wp2_with fail;refine NG (v:=.agg #[Y A5 n5 c5,Y B5 m5 b2]) (eV (g:=w.heap.size+1) (by have:=(a0.o.set_ 0 (Y A5 n5 c5)).set_ 1 (Y B5 m5 b2);simpa using this) aD) rfl (jX F.o g2.o U.o d0.o d2.o (by rw[b5.o];exact c9.o))
 by_cases o8:so=8
 . have h8:=b7.o.symm.trans o8;obtain⟨v9,w6,r5,r6⟩:=oR HR.o aA a3.o.head h8;rw[<-g3.o]at v9 w6 r5 r6;have b5:Hid (g0=eH (cI (bP b sa).body) s.2):=aB (by rw[g1.o];unfold hY;rw[<-b7.o,aN o5,aN o7,aN o1,LZ o8,<-g3.o]);obtain⟨ia,e7⟩:∃ia:Nat,sa=(ia:Int):=⟨sa.toNat,by omega⟩;have s3:=h6.o.entries.len;have s2:=h6.o.entries.few;have n8:ia<v.ne:=aA;have y3:(ia:Int)<(v.ne:Int):=aA;have y4:(0:Int)<=(ia:Int):=aA;obtain⟨be,oe,ea,l3,u,e0,e1,e2,e3,e4,e5,e6,g8⟩:=h6.o.entries.at_ n8;have hx:b.entries.getD ia default=bP b sa:=by rw[e7];rfl
   rw[hx]at g8;have b8:=j6.o.bel;have x3:be<w.heap.size:=MD l3 b8.size;have d3:=b8.trans (F.o.mono b8.size);have x6:=(d3.cell (p:=⟨be,oe+ia*7+6,Z⟩) l3).trans e6;have s0:=g8.body;rw[r5]at s0;obtain⟨C3,j3⟩:=OF (fun (W:OE) (hB:OB G W)=>s0.below (d3.trans (hB.mono d3.size))) r6;have s5:G.cell? ⟨g,2,Z⟩=I (Y (I ⟨be,oe,Z⟩) v.ne v.ce):=by rw[zg,ea];rfl
   rw[e7]at g9;have q2:=F.o.size;generalize cI (bP b sa).body=yu at *;subst o8;clear e0 e1 e2 e3 e4 e5 e6 g8 hx b8 d3 s0 r6 r5 v9 w6 h8 o5 o7 o1 s3 s2 n8 e7;go_upto_region 13 with fail
   refine wp_region_held_drew (S:=(fun w'=>∀q,q<G.heap.size->q≠w.heap.size+1->w'.heap[q]? = G.heap[q]?)) aC ?_ (fun D=>?_)
   . (try dsimp only);exact fun q _ _=>rfl
   have b6:Hid (OB G G.drew):=aB (aU (MC _ _) 1);generalize G.drew=W1 at *;refine aL 0 D ?_;refine aL 1 D ?_;refine aL 2 D ?_;refine aL 3 D ?_;refine tk 4 ?_ (fun wq hSw=>?_) D ?_;rotate_left
   . have f3:=(aP (hSw (g) m8 aA) 2).trans s5;go_simp;try with_reducible rfl
   try simp only[p7]
   refine aL 5 D ?_;refine tk 6 ?_ (fun wq hSw=>?_) D ?_;rotate_left
   . have f4:=(aP (hSw ((w.heap.size+2)) n9 aA) 1).trans (g9 1);go_simp;try with_reducible rfl
   try simp only[p7]
   refine aL 7 D ?_;refine aL 8 D ?_;refine tk 9 ?_ (fun wq hSw=>?_) D ?_;rotate_left
   . have f5:=(aP (hSw (be) aA aA) (oe+ia*7+6)).trans x6;go_simp;try with_reducible rfl
   try simp only[p7]
   refine aL 10 D ?_;refine tk 11 ?_ (fun wq hSw=>?_) D ?_;rotate_left
   . have f1:=(aP (hSw (w.heap.size) a7 aA) 1).trans (a8 1);go_simp;try with_reducible rfl
   try simp only[p7]
   refine r1 12 fun K hK=>?_;go_simp;go_at_call 95
   refine (l7.o _ b6.o yu u.Ab u.nb u.cb (C3.o _ b6.o) j3.o).mono ?_;rintro en w5 ⟨a5,h5⟩;have U:=bK b6 a5;clear a5;rcases h5 with⟨f9,b3,A5,n5,c5,B5,m5,b2,rfl,b4⟩|⟨hn,rfl⟩;rotate_left
   . have HN:=aB hn;clear hn;go_wp2_with fail;exact⟨rfl,F.o.trans (U.o.mono F.o.size),.inr ⟨by rw[b5.o];exact HN.o,rfl⟩⟩
   obtain⟨d0,c9⟩:=OF b4 b3;have d2:Hid (G.heap.size<=W1.heap.size):=aB b6.o.size;have a0:=aB (i2.o.below U.o i8);have z5:=a0.o.cell;have j7:=a0.o.frozen;have g4:w.heap.size+1<w5.heap.size:=a0.o.lt;clear b4 b3;go_wp2_with fail;refine hK.o _ _ (by exact fun q z _=>U.o.block q z) fun D=>?_;clear hK K;try simp only[p7]
   refine r1 13 fun K hK=>?_;go_simp;refine hK.o _ _ (by exact fun q z h2=>(MH _ ⟨w.heap.size+1,1,Z⟩ _ q h2).trans ((MH _ ⟨w.heap.size+1,0,Z⟩ _ q h2).trans (U.o.block q z))) fun D=>?_;clear hK K;try simp only[p7]
   refine wpAnyH_done aC ?_ _;go_wp2_with fail;refine NG (v:=.agg #[Y A5 n5 c5,Y B5 m5 b2]) (eV (g:=w.heap.size+1) (by have:=(a0.o.set_ 0 (Y A5 n5 c5)).set_ 1 (Y B5 m5 b2);simpa using this) aD) rfl (jX F.o g2.o U.o d0.o d2.o (by rw[b5.o];exact c9.o))
 by_cases g5:so=11
 . have j9:=b7.o.symm.trans g5;obtain⟨u0,q0,br,hk,D8⟩:=dR a3.o.head.okt j9;obtain⟨B7,B8,E8,E9⟩:=nO a3.o.head j9;rw[<-g3.o]at B7 B8;have s4:i7 b s.1.1 (cV (eP s.1 1))=true:=by
    have h9:=l8.o;unfold bX at h9
    rwa [<-b7.o,aN o5,aN aA,aN o1,LZ g5]at h9
   have t0:bJ b (cv.length:Int) (eP s.1 1):=by
    rw[dY (i:=1) (by rw[hk];rfl)];exact a3.o.head.kid0 (i:=1) (by rw[hk];rfl) (dP (.inr (.inr j9)))
   unfold i7 at s4;simp only[ME,beq_iff_eq,MJ]at s4;obtain⟨m1,m2,m3,m4⟩:=s4;have o0:=nK t0;have k6:=zR o0.head.okt m1;have l1:=a3.o.head.kid0 (lF (x:=s.1) (i:=2+(cV (eP s.1 1)).1.1.b.toNat) (by rw[hk];simp only[MN];omega)) (dP (.inr (.inr j9)));obtain⟨hd,m9⟩:=OM (cV (eP s.1 1));have x0:=aB m9;rw[<-m9]at m1 m2 m3 m4 o0 k6 l1;obtain⟨ib,n0⟩:∃ib:Nat,hd.1.1.b=(ib:Int):=⟨hd.1.1.b.toNat,by omega⟩;obtain⟨ia,e7⟩:∃ia:Nat,sa=(ia:Int):=⟨sa.toNat,by omega⟩;rw[n0,NA]at l1;obtain⟨jb,s6⟩:∃jb,jb=2+ib:=⟨_,rfl⟩;rw[<-s6]at l1;have p9:jb<(a9 s.1.2.2).length:=by rw[hk];simp only[MN];omega
   rw[<-g3.o]at m4;have s3:=h6.o.entries.len;have s2:=h6.o.entries.few;have n8:ia<v.ne:=aA;have y3:(ia:Int)<(v.ne:Int):=aA;have y4:(0:Int)<=(ia:Int):=aA;obtain⟨be,oe,ea,l3,u,e0,e1,e2,e3,e4,e5,e6,g8⟩:=h6.o.entries.at_ n8;have hx:b.entries.getD ia default=bP b sa:=by rw[e7];rfl
   rw[hx]at g8;have b8:=j6.o.bel;have x3:be<w.heap.size:=MD l3 b8.size;have d3:=b8.trans (F.o.mono b8.size);have x2:=(d3.cell (p:=⟨be,oe+ia*7+2,Z⟩) l3).trans e2;have s9:(bP b sa).params.length=u.np:=g8.params.len;have s5:G.cell? ⟨g,2,Z⟩=I (Y (I ⟨be,oe,Z⟩) v.ne v.ce):=by rw[zg,ea];rfl
   have b5:Hid (g0=eH (eP s.1 jb) (hd.2.drop u.np++s.2)):=aB (by
    rw[g1.o];unfold hY;rw[<-b7.o,aN o5,aN o7,aN o1,aN o8,LZ g5,<-m9,n0,NA,<-s6,<-g3.o,s9])
   have z1:u.np<=hd.2.length:=by rw[s9]at m4;omega
   have l2:=fun (W:OE) (hB:OB G W)=>fJ (HS.o.below hB).head a3.o.head.rt.shape;rw[i5 a3.o.head]at l2;have HK:=aB l2;have v1:Hid (1<(a9 s.1.2.2).length):=aB (by rw[hk];simp);have v2:=aB p9;have r0:=aB t0;have i1:=aB o0;have C6:=aB l1;have v3:=aB z1;have C5:=aB n0;have G0:ib<=100000:=by have:=vF a3.o.head;omega
   have I4:IntKind.i64.wrap (2+(ib:Int))=(jb:Int):=by rw[MP];omega
   have q2:=F.o.size;rw[e7]at g9;subst g5;clear l2 hk t0 o0 l1 m9 m1 m2 m3 m4 k6 D8 g8 hx e0 e1 e2 e3 e4 e5 e6 b8 d3 s3 s2 B7 B8 E8 E9 n0 s6 p9 z1 j9 o5 o7 o1 o8 s9 e7;go_wp2_with fail;refine (HK.o _ (MC _ _)).mono ?_;rintro en w3 ⟨d4,A3,n3,c3,I5,rfl,s8,t1⟩;obtain⟨E4,gk,A4,n4,c4,rfl,x9,F8,l9,i9⟩:=lH s8 t1 v1.o;obtain⟨y9,j8,A7,n7,c7,i4,_,_,x4,A0⟩:=lH s8 t1 v2.o;have w7:j8=gk:=by injection i4 with i4;injection i4 with i4;exact i4.symm
   subst w7;have G4:(1:Int)<(n3:Int):=by have:=v1.o;omega
   have G5:(jb:Int)<(n3:Int):=by have:=v2.o;omega
   have a2:=aB d4;have r4:Hid (aX w3 A4 n4 c4 (aT (eP s.1 1))):=aB (a6.keep i9 (R':=(· < w3.heap.size)) (w':=w3) fun q hq=>⟨hq.2.1,fun _=>rfl⟩);have D3:Hid (aX w3 A7 n7 c7 (aT (eP s.1 jb))):=aB (a6.keep A0 (R':=(· < w3.heap.size)) (w':=w3) fun q hq=>⟨hq.2.1,fun _=>rfl⟩);clear d4 s8 t1 E4 y9 i9 A0 i4;go_wp2_with fail;refine (eT r4.o r0.o).mono ?_;rintro en w4 ⟨a4,A6,n6,c6,B6,m6,d6,rfl,i6⟩;rw[<-x0.o]at i6;have s7:m6=hd.2.length:=i6.len.2;have G3:m6<=4096:=by rw[s7];exact cG.argsLen i1.o (by have:=eO r0.o;rw[<-x0.o]at this;rw[this];exact r0.o.few)
   have E0:m6<=d6:=by obtain⟨_,I6,h9,_⟩:=i6;exact vN h9
   have m7:=i6.read (g:=w.heap.size) (by have:=a2.o.size;omega) aA;obtain⟨i3,o3,rfl,E5,p4,p0,p1,p2⟩:=m7.node;rw[C5.o]at p2;obtain⟨B9,F7,k8,k7⟩:=rG B6 m6 d6 u.np (by rw[s7];exact v3.o) E0 m7.2.2;obtain⟨wb,o2⟩:=OM (w4.alloc (.cells #[Y (I ⟨i3,o3,Z⟩) n6 c6,Y B6 m6 d6] 109));have d9:OB w4 wb:=by rw[o2];exact aQ _ _
   have c8:OB G wb:=(a2.o.trans (a4.mono a2.o.size)).trans (d9.mono (MO a2.o.size a4.size));have h4:OB w3 wb:=a4.trans (d9.mono a4.size);have zq:aW wb w4.heap.size 109 #[Y (I ⟨i3,o3,Z⟩) n6 c6,Y B6 m6 d6]:=by rw[o2];exact aW.new _ _ _
   have C2:=zq.cell;have z3:w4.heap.size<wb.heap.size:=zq.lt;have y0:j8<wb.heap.size:=MD x9 h4.size;have r7:=(h4.cell (p:=⟨j8,jb,Z⟩) x9).trans x4;have F0:=(d9.cell (p:=⟨i3,o3+2,Z⟩) p4).trans p2;have s1:i3<wb.heap.size:=MD p4 d9.size;have F4:=fun i=>(c8.cell (p:=⟨w.heap.size,i,Z⟩) a7).trans (a8 i);have F2:=fun i=>(c8.cell (p:=⟨w.heap.size+2,i,Z⟩) n9).trans (g9 i);have x7:=(c8.cell (p:=⟨g,2,Z⟩) m8).trans s5;have F1:=(c8.cell (p:=⟨be,oe+ia*7+2,Z⟩) (by show be<G.heap.size;omega)).trans x2;have q5:=aB (fun (W:OE) (hB:OB wb W)=>k8 _ _ _ ((m7.below d9).below hB).args);have q4:=aB (fun (W:OE) (hB:OB wb W)=>((HS.o.below c8).below hB).args);have v7:=aB (fun (W:OE) (hB:OB wb W)=>(D3.o.below h4).below hB);have q9:=aB k7;have v4:=aB HS.o.2.2;have o4:=aB c8;have q1:=c8.size;have G7:=a4.size;have G6:=a2.o.size;have G8:=d9.size;have G9:(u.np:Int)<=(m6:Int):=by have:=v3.o;omega
   have F9:w.heap.size+1<j8:=aA;have D9:i3≠w.heap.size+1:=by
    obtain⟨h9,_⟩:=i6;obtain⟨b9,o9,e9,x1,_⟩:=h9.mem E5;injection e9 with e9;injection e9 with e9;have:=x1.1;have:=x1.2.1;omega
   have q7:Hid (∀a∈hd.2.drop u.np++s.2,bJ b (cv.length:Int) a):=aB (fun a ha=>by
    rcases MW.1 ha with ha|ha
    . exact i1.o.args a (List.mem_of_mem_drop ha)
    exact a3.o.args a ha)
   clear a4 i6 m7 k8 k7 l9 x4 d9 c8 h4 zq p0 p1 p2 s7;go_upto_region 17 with fail
   rw[<-o2];clear o2;refine wp_region_held_drew (S:=(fun w'=>∀q,q<wb.heap.size->q≠w.heap.size+1->w'.heap[q]? = wb.heap[q]?)) aC ?_ (fun D=>?_)
   . (try dsimp only);exact fun q _ _=>rfl
   have j0:Hid (OB wb wb.drew):=aB (aU (MC _ _) 1);have b6:Hid (OB G wb.drew):=aB (o4.o.trans (j0.o.mono q1));generalize wb.drew=W1 at *;refine aL 0 D ?_;refine aL 1 D ?_;refine tk 2 ?_ (fun wq hSw=>?_) D ?_;rotate_left
   . have f1:=(aP (hSw (w4.heap.size) z3 aA) 0).trans (C2 0);go_simp;try with_reducible rfl
   try simp only[p7]
   refine aL 3 D ?_;refine aL 4 D ?_;refine tk 5 ?_ (fun wq hSw=>?_) D ?_;rotate_left
   . have f2:=(aP (hSw (i3) s1 aA) (o3+2)).trans F0;go_simp;try with_reducible rfl
   try simp only[p7]
   refine aL 6 D ?_;refine aL 7 D ?_;refine tk 8 ?_ (fun wq hSw=>?_) D ?_;rotate_left
   . have f3:=(aP (hSw (j8) y0 aA) jb).trans r7;go_simp;try with_reducible rfl
   try simp only[p7]
   refine aL 9 D ?_;refine tk 10 ?_ (fun wq hSw=>?_) D ?_;rotate_left
   . have f4:=(aP (hSw (w4.heap.size) z3 aA) 1).trans (C2 1);go_simp;try with_reducible rfl
   try simp only[p7]
   refine aL 11 D ?_;refine aL 12 D ?_;refine aL 13 D ?_;refine aL 14 D ?_;refine tk 15 ?_ (fun wq hSw=>?_) D ?_;rotate_left
   . have f5:=(aP (hSw (g) aA aA) 2).trans x7;go_simp;try with_reducible rfl
   try simp only[p7]
   refine aL 16 D ?_;refine tk 17 ?_ (fun wq hSw=>?_) D ?_;rotate_left
   . have f6:=(aP (hSw ((w.heap.size+2)) aA aA) 1).trans (F2 1);go_simp;try with_reducible rfl
   try simp only[p7]
   refine aL 18 D ?_;refine aL 19 D ?_;refine tk 20 ?_ (fun wq hSw=>?_) D ?_;rotate_left
   . have f7:=(aP (hSw (be) aA aA) (oe+ia*7+2)).trans F1;go_simp;try with_reducible rfl
   try simp only[p7]
   refine aL 21 D ?_;refine aL 22 D ?_;refine aL 23 D ?_;refine tk 24 ?_ (fun wq hSw=>?_) D ?_;rotate_left
   . have f8:=(aP (hSw (w.heap.size) aA aA) 1).trans (F4 1);go_simp;try with_reducible rfl
   try simp only[p7]
   refine r1 25 fun K hK=>?_;go_simp;refine hK.o _ _ (by exact fun q z _=>(j0.o.alloc j0.o.size _).block q z) fun D=>?_;clear hK K;try simp only[p7]
   have C4:Hid (aW (W1.alloc (.cells #[Y B9 (m6-u.np) (d6-u.np),Y B m d] 46)) W1.heap.size 46 #[Y B9 (m6-u.np) (d6-u.np),Y B m d]):=aB (aW.new _ _ _);have q6:=aB (j0.o.alloc j0.o.size (.cells #[Y B9 (m6-u.np) (d6-u.np),Y B m d] 46));refine r1 26 fun K hK=>?_;go_simp;go_at_call 97
   refine (uK C4.o (q5.o _ q6.o) (q4.o _ q6.o) q9.o v4.o aA).mono ?_;rintro en wc ⟨k4,Ac,nc,H1,rfl,z7,z0⟩;have l6:=bK q6 k4;obtain⟨o6,D0,C9⟩:=OK (o4.o.trans (l6.o.mono q1)) z7 z0;clear k4 z7 z0;go_wp2_with fail;refine hK.o _ _ (by exact fun q z _=>l6.o.block q z) fun D=>?_;clear hK K;try simp only[p7]
   refine r1 27 fun K hK=>?_;go_simp;go_at_call 95
   refine (mA (L:=hd.2.drop u.np++s.2) (v7.o _ l6.o) C6.o (by rw[List.map_append,List.map_drop];exact D0.o) q7.o C9.o).mono ?_;rintro en w5 ⟨a5,h5⟩;have U:=bK o6 a5;have v8:=bK l6 a5;clear a5;rcases h5 with⟨f9,b3,A5,n5,c5,B5,m5,b2,rfl,b4⟩|⟨hn,rfl⟩;rotate_left
   . have HN:=aB hn;clear hn;go_wp2_with fail;exact⟨rfl,F.o.trans (U.o.mono F.o.size),.inr ⟨by rw[b5.o];exact HN.o,rfl⟩⟩
   obtain⟨d0,c9⟩:=OF b4 b3;have d2:Hid (G.heap.size<=wc.heap.size):=aB o6.o.size;have a0:=aB (i2.o.below U.o i8);have z5:=a0.o.cell;have j7:=a0.o.frozen;have g4:w.heap.size+1<w5.heap.size:=a0.o.lt;clear b4 b3;go_wp2_with fail;refine hK.o _ _ (by exact fun q z _=>v8.o.block q z) fun D=>?_;clear hK K;try simp only[p7]
   refine r1 28 fun K hK=>?_;go_simp;refine hK.o _ _ (by exact fun q z h2=>(MH _ ⟨w.heap.size+1,1,Z⟩ _ q h2).trans ((MH _ ⟨w.heap.size+1,0,Z⟩ _ q h2).trans (v8.o.block q z))) fun D=>?_;clear hK K;try simp only[p7]
   refine wpAnyH_done aC ?_ _;go_wp2_with fail;refine NG (v:=.agg #[Y A5 n5 c5,Y B5 m5 b2]) (eV (g:=w.heap.size+1) (by have:=(a0.o.set_ 0 (Y A5 n5 c5)).set_ 1 (Y B5 m5 b2);simpa using this) aD) rfl (jX F.o g2.o U.o d0.o d2.o (by rw[b5.o];exact c9.o))
 have C0:so=12:=by
  have h9:=l8.o;unfold bX at h9;rw[<-b7.o,aN o5,aN aA,aN o1,aN g5]at h9;by_cases h:so=12
  . exact h
  rw[aN h]at h9;cases h9
 have k0:=b7.o.symm.trans C0;have z6:g0=match qZ s.1 with
  | none=>Z
  | some y=>eH y s.2:=by rw[g1.o];unfold hY;rw[<-b7.o,aN o5,aN o7,aN o1,aN o8,aN g5];cases qZ s.1<;>rfl
 obtain⟨r2,D5,D4⟩:=OK z6 (fun (W:OE) (hB:OB G W)=>qT aA i0.o ((HS.o.below hB).head) a3.o.head k0) (fun (y:TT) (hy:qZ s.1=I y)=>wL a3.o.head k0 aA i0.o hy);have d5:(so==5)=false:=by simpa using o5
 have d7:(so==7)=false:=by simpa using o7
 have d1:(so==1)=false:=by simpa using o1
 have d8:(so==8)=false:=by simpa using o8
 have H2:(so==11)=false:=by simpa using g5
 clear o5 o7 o1 o8 g5 C0 z6 k0;go_upto_region 18 with fail
 refine wp_region_held_drew (S:=(fun w'=>∀q,q<G.heap.size->q≠w.heap.size+1->w'.heap[q]? = G.heap[q]?)) aC ?_ (fun D=>?_)
 . (try dsimp only);exact fun q _ _=>rfl
 have b6:Hid (OB G G.drew):=aB (aU (MC _ _) 1);generalize G.drew=W1 at *;refine aL 0 D ?_;refine tk 1 ?_ (fun wq hSw=>?_) D ?_;rotate_left
 . have f0:=(aP (hSw (w.heap.size) a7 aA) 0).trans (a8 0);go_simp;try with_reducible rfl
 try simp only[p7]
 refine aL 3 D ?_;refine tk 4 ?_ (fun wq hSw=>?_) D ?_;rotate_left
 . have f1:=(aP (hSw (w.heap.size) a7 aA) 1).trans (a8 1);go_simp;try with_reducible rfl
 try simp only[p7]
 refine r1 2 fun K hK=>?_;go_simp;go_at_call 98
 refine (D5.o _ b6.o).mono ?_;rintro en w3 ⟨d4,h3⟩;have a2:=bK b6 d4;clear d4;rcases h3 with⟨y,hy,A3,n3,c3,rfl,z9⟩|⟨hn,rfl⟩;rotate_left
 . have HN:=aB hn;clear hn;go_wp2_with fail;exact⟨rfl,F.o.trans (a2.o.mono F.o.size),.inr ⟨by rw[r2.o,HN.o],rfl⟩⟩
 have D2:Hid (aX w3 A3 n3 c3 (aT y)):=aB (a6.keep z9 (R':=(· < w3.heap.size)) (w':=w3) fun q hq=>⟨hq.2,fun _=>rfl⟩);have HY:=aB hy;clear z9 hy;go_wp2_with fail;refine hK.o _ _ (by exact fun q z _=>a2.o.block q z) fun D=>?_;clear hK K;try simp only[p7]
 refine r1 5 fun K hK=>?_;go_simp;go_at_call 95
 refine (l7.o _ a2.o y A3 n3 c3 D2.o (D4.o y HY.o)).mono ?_;rintro en w5 ⟨a5,h5⟩;have U:=bK a2 a5;clear a5;rcases h5 with⟨f9,b3,A5,n5,c5,B5,m5,b2,rfl,b4⟩|⟨hn,rfl⟩;rotate_left
 . have HN:=aB hn;clear hn;go_wp2_with fail;exact⟨rfl,F.o.trans (U.o.mono F.o.size),.inr ⟨by rw[r2.o,HY.o];exact HN.o,rfl⟩⟩
 obtain⟨d0,c9⟩:=OF b4 b3;have d2:Hid (G.heap.size<=w3.heap.size):=aB a2.o.size;have a0:=aB (i2.o.below U.o i8);have z5:=a0.o.cell;have j7:=a0.o.frozen;have g4:w.heap.size+1<w5.heap.size:=a0.o.lt;clear b4 b3;go_wp2_with fail;refine hK.o _ _ (by exact fun q z _=>U.o.block q z) fun D=>?_;clear hK K;try simp only[p7]
 refine r1 6 fun K hK=>?_;go_simp;refine hK.o _ _ (by exact fun q z h2=>(MH _ ⟨w.heap.size+1,1,Z⟩ _ q h2).trans ((MH _ ⟨w.heap.size+1,0,Z⟩ _ q h2).trans (U.o.block q z))) fun D=>?_;clear hK K;try simp only[p7]
 refine wpAnyH_done aC ?_ _;go_wp2_with fail;refine NG (v:=.agg #[Y A5 n5 c5,Y B5 m5 b2]) (eV (g:=w.heap.size+1) (by have:=(a0.o.set_ 0 (Y A5 n5 c5)).set_ 1 (Y B5 m5 b2);simpa using this) aD) rfl (jX F.o g2.o U.o d0.o d2.o (by rw[r2.o,HY.o];exact c9.o))
end Go.Proofs.Ytlahmbhimhmoaaa
