/- core: own. -/
import Derived.Test.YtjoddliplahgkaaGreatTSenseE
namespace Go.Proofs.YtjoddliplahgkaaGreat
set_option linter.unusedVariables false
set_option linter.unusedSimpArgs false
open Go.RowKit
open Go.Value renaming slice → O
open Option renaming none → X, some → Y
open Go.Lib renaming hid->aB
variable {c n:Nat}{A:ZZ}{w:aAB}
theorem iS{g:Nat}{c0 c1:Value}{D:Array Value}(h:aT w g 78 #[c0,c1])(ht:D.getD 4 undef=.pointer (Y ⟨g,0,X⟩)):
 (results Tryz.f70 D).run Tryz.prog w=.ok (.agg #[c0,c1]) w:=by
 have G:=h.cell;have F:D[4]?.getD undef=.pointer (Y ⟨g,0,X⟩):=by rw[<-ht];simp
 simp[results,Tryz.results70,go_sem,F,G]
theorem oY{F G:aAB}{f:Fc}{r:Option Fc}{B:ZZ}{m d I:Nat}(D:ZY w F)(s:F.heap.size=w.heap.size+3)(U:ZY F G)(Z:fL I G f A n c B m d)(h:F.heap.size<=I)(o:r=Y f):
 OI w.heap.size r w (.returned (.agg #[O A n c,O B m d])) ((G.setCell ⟨w.heap.size+1,0,X⟩ (O A n c)).setCell ⟨w.heap.size+1,1,X⟩ (O B m d)):=by
 refine⟨?_,.inl ⟨f,o,A,n,c,B,m,d,rfl,?_⟩⟩
 . exact ((D.trans (U.mono D.size)).setCell (p:=⟨w.heap.size+1,0,X⟩) (Nat.le_succ _) _).setCell (p:=⟨w.heap.size+1,1,X⟩) (Nat.le_succ _) _
 exact (((Z.set (b:=w.heap.size+1) aA 0 _).set (b:=w.heap.size+1) aA 1 _)).base aA
theorem zN(A:ZZ)(n c k:Nat)(hk:k<=n)(G:n<=c)(F:A=X->c=0):∃D,(∀w:World,(Instr.slice 47 (O A n c) (Y (.int .i64 (k:Int))) X X).run Tryz.prog w=.ok (O D (n-k) (c-k)) w) ∧
 (∀(R:Nat->Prop)(w:aAB)(ls:aAA),fG R w A n c ls->fG R w D (n-k) (c-k) (ls.drop k))/\(D=X->c-k=0):=by
 refine⟨if c=k then A else A.map (·.add (k*1)),fun w=>?_,fun R w ls h=>?_,fun e=>?_⟩
 . rw[run_slice_l w 47 A n c aC .i64 (k:Int) aA aA];have e:Tryz.prog.elem 47=29:=by kernel_rfl
   rw[e,NY];rfl
 . have h1:=h.len;have h2:=h.few;refine⟨by rw[YS];omega,by omega,fun hn=>?_⟩;obtain⟨b,off,rfl,o,s⟩:=h.mem aA;rw[XN aA];refine⟨b,off+k,?_,o,fun j hj=>?_⟩
   . simp only[Option.map_some,Addr.add,Nat.mul_one];split
     . rename_i U;rw[U,YF]
     rfl
   obtain⟨D,z,I,G,ht⟩:=s (k+j) aA;refine⟨D,z,I,by rw[Nat.add_assoc];exact G,?_⟩;have e:(ls.drop k).getD j []=ls.getD (k+j) []:=by
    rw[YD,YD,List.getElem?_drop]
   rw[e];exact ht
 by_cases Z:c=k
 . omega
 rw[XN Z]at e;cases A with
 | none=>have:=F rfl;omega
 | some a=>cases e
theorem l7{base:Nat}{l:List Nd}(D:bK w base (O A n c) l)(Z:l.length<=5864062014805):aX w A n c l:=by
 have h:l.length=n:=by
  obtain⟨_,_,e⟩:=D.slice;injection e with _ F;exact F.symm
 rw[<-h]at D ⊢;obtain⟨o,nq,s,e,G⟩:=bK.termS D Z;injection e with I F U;subst I F U;exact G.keep fun q G=>⟨(aS D G).2.1,fun _=>rfl⟩
def UJ(x u:TT)(w:aAB)(e:Ending)(w':aAB):Prop:=ZY w w'/\∃A n c,e=.returned (.tuple #[O A n c,.int .i64 (cI x u).2])/\((cI x u).2=0->aX w' A n c (aW (cI x u).1))
theorem EC{b:Bk}{free:Int}{x u:TT}{B:ZZ}{m d:Nat}(h0:0<=free)(h1:free<=1000000)(hx:bO b (free+1) x)(hu:bO b free u)(tx:aX w A n c (aW x))(tu:aX w B m d (aW u)):
 Calls Tryz.prog 113 #[O A n c,O B m d,.int .i64 0] w (UJ x u w):=by
 have hS:=lB h0 h1 hx hu;have h:=BA tx tu 0 (fun _ _ _=>hS.1);rw[hS.2.1]at h;refine h.mono ?_;rintro e w' ⟨hb,Z,U,o,rfl,D⟩;refine⟨hb,Z,U,o,rfl,fun G=>?_⟩;rw[XP G]at D;simp only at D;have hl:(aW (cI x u).1).length=U:=by
  obtain⟨_,_,e⟩:=D.slice;injection e with _ F;exact F.symm
 rw[<-hl]at D ⊢;obtain⟨Aq,nq,cq,e,I⟩:=bK.termS D (by have:=(hS.2.2 G).few;have G:(aW (cI x u).1).length=bL (cI x u).1:=rfl;omega);injection e with s F z;subst s F z;exact I.keep fun q I=>⟨(aS D I).2.1,fun _=>rfl⟩
set_option maxRecDepth 100000 in
set_option maxHeartbeats 4000000 in
theorem EA{w0:aAB}{g:Nat}{v:bR}{b:Bk}{cA:ZZ}{cn cc:Nat}{cv:aAA}{f:Nat}(hr:bU b=0)(hb:cE w0 v b)(hc:gG b cv)(l4:(cv.length:Int)<=990000)(hw:yO w0 g v b cA cn cc cv f w){s:Fc}{B:ZZ}{m d:Nat}(hs:j6 g w s A n c B m d)(fs:dM b (cv.length:Int) s)(D9:m<=d)(D7:dA s<=4096)(z1:bT b cv s=true):
 Calls Tryz.prog 70 #[.pointer (Y ⟨g,0,X⟩),.agg #[O A n c,O B m d]] w (OI w.heap.size (jJ b cv s) w):=by
 obtain⟨bs,os,rfl,G9,G5,h0,U,h2⟩:=hs.node;obtain⟨so,s6⟩:=aAJ s.1.1.op;obtain⟨sa,s5⟩:=aAJ s.1.1.a;obtain⟨sb,z2⟩:=aAJ s.1.1.b;rw[<-s6]at h0;rw[<-s5]at U;rw[<-z2]at h2;obtain⟨d3,k8⟩:=aAJ (jJ b cv s);rw[<-k8];have y1:s.2.length=m:=by have:=hs.2.1.len;simpa using this
 have G8:=hs.2.1.few;obtain⟨G,d2⟩:=aAJ (((w.alloc (.cells #[O (Y ⟨bs,os,X⟩) n c,O B m d] 78)).alloc (.cells #[O X 0 0,O X 0 0] 78)).alloc (.cells #[.int .i64 so,.int .i64 sa,.int .i64 sb] 46));have j3:ZY w G:=by rw[d2];exact (bS _ _ _).alloc aG _
 have zs:aT G w.heap.size 78 #[O (Y ⟨bs,os,X⟩) n c,O B m d]:=by rw[d2];exact ((aT.new _ _ _).alloc _).alloc _
 have zr:aT G (w.heap.size+1) 78 #[O X 0 0,O X 0 0]:=by rw[d2];exact (aT.new' aD).alloc _
 have zn:aT G (w.heap.size+2) 46 #[.int .i64 so,.int .i64 sa,.int .i64 sb]:=by rw[d2];exact aT.new' aD
 have p4:G.heap.size=w.heap.size+3:=by rw[d2];simp
 obtain⟨l1,HW,C7⟩:=aAF (fun (W:aAB) (hB:ZY G W) (x:TT) (A':ZZ) (n' c':Nat) (ht:aX W A' n' c' (aW x)) (hx:bO b (cv.length:Int) x)=>sD ht hx ((hs.below j3).below hB).args fs.args hs.2.2) (hw.below j3) hs;have G7:m<=4096:=by have:=dM.argsLen fs D7;omega
 obtain⟨i8,HS,F,l0,HR,HC,g6,a1⟩:=aAG hw (hs.below j3) j3 hb hr hc l4 fs;obtain⟨C4,b3,e8,d4,l2,g8,d9⟩:=aAI y1 s6 s5 k8 z1 zr p4;have H0:=hw.lt;have zg:=HW.o.blk.cell;have l6:g<G.heap.size:=HW.o.lt;have a4:w.heap.size<G.heap.size:=zs.lt;have i0:w.heap.size+1<G.heap.size:=zr.lt;have m7:w.heap.size+2<G.heap.size:=zn.lt;have a5:=zs.cell;have g4:=zn.cell;clear hr hb hc l4 hw hs fs s6 s5 z2 k8 z1 y1 j3 zs zr zn p4;go_in;go_upto_region 2 with fail
 rw[<-d2];clear d2;by_cases o5:so=5
 . have h5:=b3.o.symm.trans o5;have x8:0<m:=by
    have h9:=l2.o;unfold bT at h9;rw[XP h5,C4.o]at h9;exact of_decide_eq_true h9
   obtain⟨p,q,hk⟩:=kQ a1.o.head.okt (Or.inr (Or.inl h5));obtain⟨e1,k0,v4,v5,hp,hq⟩:=J0 a1.o.head.rt (Or.inr h5) hk;have k7:(aW s.1).length=n:=HS.o.1.len;rw[k7]at v5;obtain⟨a,ha⟩:=aAJ (s.2.getD 0 (default,[],.nil));have i6:Hid (d3=if (cI q a).2=0 then gS (cI q a).1 (s.2.drop 1) else X):=aB (by rw[d4.o];unfold jJ;rw[XP h5,<-ha,dO (i:=1) (y:=q) (by rw[hk];rfl)]);have t1:Hid (bO b ((cv.length:Int)+1) q):=aB (by
    have:=a1.o.head.kid (i:=1) (y:=q) (by rw[hk];rfl)
    rwa [show aR s.1.1.op s.1.1.b ((1:Nat):Int)=1 from by rw[h5];simp[aR]]at this)
   obtain⟨x4,bb,oo,A4,n4,c4,eB,D2,l3,i1⟩:=C7.o.arg x8;have i4:Hid (bO b (cv.length:Int) a):=aB (by rw[ha];exact a1.o.args _ (iD x4 (default,[],.nil)));rw[<-ha]at i1;have q6:=aB (fun (W:aAB) (hB:ZY G W)=>(bF.keep i1 (R':=(· < W.heap.size)) (w':=W) fun q hq=>⟨by have:=F.o.size;have:=hB.size;omega,fun o=>((F.o.trans (hB.mono F.o.size))).cell (p:=⟨q,o,X⟩) hq.1⟩));have j5:=(F.o.cell (p:=⟨bb,oo+0,X⟩) D2).trans l3;rw[YF]at j5;obtain⟨B1,j7,o4,o3⟩:=zN B m d 1 x8 D9 HS.o.2.2;have t7:=aB (fun (W:aAB) (hB:ZY G W) (x:TT) (A':ZZ) (n' c':Nat) (ht:aX W A' n' c' (aW x)) (hx:bO b (cv.length:Int) x)=>sD (L:=s.2.drop 1) ht hx (by rw[List.map_drop];exact o4 _ _ _ (HS.o.below hB).args) (fun y hy=>a1.o.args y (List.mem_of_mem_drop hy)) o3);obtain⟨Af,D6,k3⟩:=lY (Y ⟨bs,os,X⟩) n c e1 v5;have i3:=aB (fun (W:aAB) (hB:ZY G W)=>iZ (HS.o.below hB).head 1);rw[k0]at i3;have HQ:=aB (fun (W:aAB) (hB:ZY G W)=>k3 _ _ _ (HS.o.below hB).head);rw[hq]at HQ;have F1:∀w:World,(Instr.slice 47 (O B m d) (Y (.int .i64 1)) X X).run Tryz.prog w=.ok (O B1 (m-1) (d-1)) w:=j7;subst eB;subst o5;clear hk hp hq i1 o4 o3 k3 k0 x4 l3 ha h5 j7 k7;go_upto_region 4 with fail
   refine wp_region_held_drew (S:=(fun w'=>∀q,q<G.heap.size->q≠w.heap.size+1->w'.heap[q]? = G.heap[q]?)) aC ?_ (fun D=>?_)
   . (try dsimp only);exact fun q _ _=>rfl
   have b2:Hid (ZY G G.drew):=aB (aU (XS _ _) 1);generalize G.drew=W1 at *;refine aL 0 D ?_;refine tk 1 ?_ (fun wq hSw=>?_) D ?_;rotate_left
   . have f0:=(aP (hSw (w.heap.size) a4 aA) 0).trans (a5 0);go_simp;try with_reducible rfl
   try simp only[p7]
   refine aL 2 D ?_;refine tk 3 ?_ (fun wq hSw=>?_) D ?_;rotate_left
   . have f0:=(aP (hSw (w.heap.size) a4 aA) 0).trans (a5 0);go_simp;try with_reducible rfl
   try simp only[p7]
   refine r1 4 fun K hK=>?_;go_simp;go_at_call 111
   refine (i3.o _ b2.o).mono ?_;rintro en w3 ⟨rfl,c9⟩;have a0:=bY b2 c9;clear c9;go_wp2_with fail;refine hK.o _ _ (by exact fun q U _=>a0.o.block q U) fun D=>?_;clear hK K;try simp only[p7]
   refine aL 5 D ?_;refine aL 6 D ?_;refine wpAnyH_done aC ?_ _;go_upto_region 5 with fail
   have a7:=aB (fun (W:aAB) (hB:ZY G W)=>EC aA (by have:=g6.o;omega) t1.o i4.o (HQ.o W hB) (q6.o W hB));have g7:=aB (fun h9=>(lB aA (by have:=g6.o;omega) t1.o i4.o).2.2 h9);have g1:Hid ((cI q a).2≠0->(cI q a).2=9):=aB qF;unfold UJ at a7;generalize cI q a=sx at *;by_cases h0:sx.2=0;rotate_left
   . have g2:=aB h0;have q5:Hid (d3=X):=aB (by rw[i6.o,XN h0]);rw[g1.o h0]at a7;clear h0;refine wp_region_held_drew (S:=(fun w'=>∀q,q<G.heap.size->q≠w.heap.size+1->w'.heap[q]? = G.heap[q]?)) aC ?_ (fun D=>?_)
     . (try dsimp only);exact fun q U _=>a0.o.block q U
     have a6:Hid (ZY G w3.drew):=aB (aU a0.o 1);generalize w3.drew=W3 at *;refine aL 0 D ?_;refine aL 1 D ?_;refine tk 2 ?_ (fun wq hSw=>?_) D ?_;rotate_left
     . have f1:=(aP (hSw (w.heap.size) a4 aA) 1).trans (a5 1);go_simp;try with_reducible rfl
     try simp only[p7]
     refine aL 3 D ?_;refine tk 4 ?_ (fun wq hSw=>?_) D ?_;rotate_left
     . have f2:=(aP (hSw (bb) aA aA) oo).trans j5;go_simp;try with_reducible rfl
     try simp only[p7]
     refine aL 9 D ?_;refine tk 10 ?_ (fun wq hSw=>?_) D ?_;rotate_left
     . have f1:=(aP (hSw (w.heap.size) a4 aA) 1).trans (a5 1);go_simp;try with_reducible rfl
     try simp only[p7]
     refine aL 11 D ?_;refine r1 5 fun K hK=>?_;go_simp;go_at_call 113
     refine (a7.o _ a6.o).mono ?_;rintro en w4 ⟨a2,A6,n6,c6,rfl,b5⟩;have Z:=bY a6 a2;clear a2 b5;go_wp2_with fail;refine hK.o _ _ (by exact fun q U _=>Z.o.block q U) fun D=>?_;clear hK K;try simp only[p7]
     refine aL 6 D ?_;refine aL 7 D ?_;refine r1 8 fun K hK=>?_;go_simp;go_at_call 76
     refine (nM aE).mono ?_;rintro en wm ⟨rfl,rfl⟩;go_wp2_with fail;exact⟨rfl,F.o.trans (Z.o.mono F.o.size),.inr ⟨q5.o,rfl⟩⟩
   have g2:=aB h0;have b1:Hid (d3=gS sx.1 (s.2.drop 1)):=aB (by rw[i6.o,XP h0]);rw[h0]at a7;clear h0;refine wp_region_held_drew (S:=(fun w'=>∀q,q<G.heap.size->q≠w.heap.size+1->w'.heap[q]? = G.heap[q]?)) aC ?_ (fun D=>?_)
   . (try dsimp only);exact fun q U _=>a0.o.block q U
   have a6:Hid (ZY G w3.drew):=aB (aU a0.o 1);generalize w3.drew=W3 at *;refine aL 0 D ?_;refine aL 1 D ?_;refine tk 2 ?_ (fun wq hSw=>?_) D ?_;rotate_left
   . have f1:=(aP (hSw (w.heap.size) a4 aA) 1).trans (a5 1);go_simp;try with_reducible rfl
   try simp only[p7]
   refine aL 3 D ?_;refine tk 4 ?_ (fun wq hSw=>?_) D ?_;rotate_left
   . have f2:=(aP (hSw (bb) aA aA) oo).trans j5;go_simp;try with_reducible rfl
   try simp only[p7]
   refine aL 9 D ?_;refine tk 10 ?_ (fun wq hSw=>?_) D ?_;rotate_left
   . have f1:=(aP (hSw (w.heap.size) a4 aA) 1).trans (a5 1);go_simp;try with_reducible rfl
   try simp only[p7]
   refine aL 11 D ?_;refine r1 5 fun K hK=>?_;go_simp;go_at_call 113
   refine (a7.o _ a6.o).mono ?_;rintro en w4 ⟨a2,A6,n6,c6,rfl,b5⟩;have Z:=bY a6 a2;have i7:Hid (aX w4 A6 n6 c6 (aW sx.1)):=aB (by first|exact b5 rfl|exact b5 trivial|exact b5 g2.o);clear a2 b5;go_wp2_with fail;refine hK.o _ _ (by exact fun q U _=>Z.o.block q U) fun D=>?_;clear hK K;try simp only[p7]
   refine aL 6 D ?_;refine aL 7 D ?_;refine r1 8 fun K hK=>?_;go_simp;go_at_call 76
   refine jQ.mono ?_;rintro en wm ⟨rfl,rfl⟩;go_wp2_with fail;refine hK.o _ _ (by exact fun q U _=>Z.o.block q U) fun D=>?_;clear hK K;try simp only[p7]
   refine r1 12 fun K hK=>?_;go_simp;go_at_call 112
   refine (t7.o _ Z.o sx.1 A6 n6 c6 i7.o (g7.o g2.o)).mono ?_;rintro en w5 ⟨a3,h5⟩;have I:=bY Z a3;clear a3;rcases h5 with⟨f9,a9,A5,n5,c5,B5,m5,a8,rfl,b0⟩|⟨hn,rfl⟩;rotate_left
   . have HN:=aB hn;clear hn;go_wp2_with fail;exact⟨rfl,F.o.trans (I.o.mono F.o.size),.inr ⟨by rw[b1.o];exact HN.o,rfl⟩⟩
   obtain⟨b8,b7⟩:=aAC b0 a9;have c0:Hid (G.heap.size<=wm.heap.size):=aB Z.o.size;have z:=aB (g8.o.below I.o i0);have z5:=z.o.cell;have i9:=z.o.frozen;clear b0 a9;go_wp2_with fail;refine hK.o _ _ (by exact fun q U _=>I.o.block q U) fun D=>?_;clear hK K;try simp only[p7]
   refine r1 13 fun K hK=>?_;go_simp;refine hK.o _ _ (by exact fun q U h2=>(XZ _ ⟨w.heap.size+1,1,X⟩ _ q h2).trans ((XZ _ ⟨w.heap.size+1,0,X⟩ _ q h2).trans (I.o.block q U))) fun D=>?_;clear hK K;try simp only[p7]
   refine wpAnyH_done aC ?_ _;go_wp2_with fail;refine XW (v:=.agg #[O A5 n5 c5,O B5 m5 a8]) (iS (g:=w.heap.size+1) (by have:=(z.o.set_ 0 (O A5 n5 c5)).set_ 1 (O B5 m5 a8);simpa using this) aD) rfl (oY F.o d9.o I.o b8.o c0.o (by rw[b1.o];exact b7.o))
 by_cases o7:so=7
 . have h7:=b3.o.symm.trans o7;obtain⟨p,q,r,hk⟩:=mU a1.o.head.okt h7;obtain⟨e1,e2,k0,w7,v4,j2,r0,hq,y8⟩:=DH a1.o.head.rt h7 hk;have k7:(aW s.1).length=n:=HS.o.1.len;rw[k7]at r0;have o2:=HS.o.1.cap;have i6:Hid (d3=if (cI r q).2=0 then gS (cI r q).1 s.2 else X):=aB (by rw[d4.o];unfold jJ;rw[<-b3.o,XN o5,XP o7,dO (i:=2) (y:=r) (by rw[hk];rfl),dO (i:=1) (y:=q) (by rw[hk];rfl)]);have t2:Hid (bO b ((cv.length:Int)+1) r):=aB (by
    have:=a1.o.head.kid (i:=2) (y:=r) (by rw[hk];rfl)
    rwa [show aR s.1.1.op s.1.1.b ((2:Nat):Int)=1 from by rw[h7];simp[aR]]at this)
   have i4:Hid (bO b (cv.length:Int) q):=aB (a1.o.head.kid0 (i:=1) (by rw[hk];rfl) (by rw[h7];simp[aR]));have i3:=aB (fun (W:aAB) (hB:ZY G W)=>iZ (HS.o.below hB).head 1);have t0:=aB (fun (W:aAB) (hB:ZY G W)=>iZ (HS.o.below hB).head (e1:Int));rw[k0]at i3;rw[w7]at t0;obtain⟨Am,hm,y2⟩:=CC (Y ⟨bs,os,X⟩) n c e1 e2 j2 r0 o2;obtain⟨Af,D6,k3⟩:=lY (Y ⟨bs,os,X⟩) n c e2 r0;have HQ:=aB (fun (W:aAB) (hB:ZY G W)=>y2 _ _ _ (HS.o.below hB).head);have t8:=aB (fun (W:aAB) (hB:ZY G W)=>k3 _ _ _ (HS.o.below hB).head);rw[hq]at HQ;rw[y8]at t8;have a7:=aB (fun (W:aAB) (hB:ZY G W)=>EC aA (by have:=g6.o;omega) t2.o i4.o (t8.o W hB) (HQ.o W hB));have g7:=aB (fun h9=>(lB aA (by have:=g6.o;omega) t2.o i4.o).2.2 h9);have g1:Hid ((cI r q).2≠0->(cI r q).2=9):=aB qF;unfold UJ at a7;generalize cI r q=sx at *;subst o7;clear k0 w7 v4 hq y8 y2 k3 hk h7 o2 k7 o5;go_wp2_with fail;refine (i3.o _ (XS _ _)).mono ?_;rintro en w2 ⟨rfl,r2⟩;have s9:=aB r2;have E9:=fun i=>(r2.cell (p:=⟨w.heap.size,i,X⟩) a4).trans (a5 i);clear r2;go_wp2_with fail;refine (t0.o _ s9.o).mono ?_;rintro en w3 ⟨rfl,c9⟩;have a0:=bY s9 c9;clear c9 E9;go_upto_region 9 with fail
   by_cases h0:sx.2=0;rotate_left
   . have g2:=aB h0;have q5:Hid (d3=X):=aB (by rw[i6.o,XN h0]);rw[g1.o h0]at a7;clear h0;refine wp_region_held_drew (S:=(fun w'=>∀q,q<G.heap.size->q≠w.heap.size+1->w'.heap[q]? = G.heap[q]?)) aC ?_ (fun D=>?_)
     . (try dsimp only);exact fun q U _=>a0.o.block q U
     have a6:Hid (ZY G w3.drew):=aB (aU a0.o 1);generalize w3.drew=W3 at *;refine aL 0 D ?_;refine tk 1 ?_ (fun wq hSw=>?_) D ?_;rotate_left
     . have f0:=(aP (hSw (w.heap.size) a4 aA) 0).trans (a5 0);go_simp;try with_reducible rfl
     try simp only[p7]
     refine aL 2 D ?_;refine aL 3 D ?_;refine aL 4 D ?_;refine tk 5 ?_ (fun wq hSw=>?_) D ?_;rotate_left
     . have f0:=(aP (hSw (w.heap.size) a4 aA) 0).trans (a5 0);go_simp;try with_reducible rfl
     try simp only[p7]
     refine aL 6 D ?_;refine aL 7 D ?_;refine aL 8 D ?_;refine aL 13 D ?_;refine tk 14 ?_ (fun wq hSw=>?_) D ?_;rotate_left
     . have f1:=(aP (hSw (w.heap.size) a4 aA) 1).trans (a5 1);go_simp;try with_reducible rfl
     try simp only[p7]
     refine r1 9 fun K hK=>?_;go_simp;go_at_call 113
     refine (a7.o _ a6.o).mono ?_;rintro en w4 ⟨a2,A6,n6,c6,rfl,b5⟩;have Z:=bY a6 a2;clear a2 b5;go_wp2_with fail;refine hK.o _ _ (by exact fun q U _=>Z.o.block q U) fun D=>?_;clear hK K;try simp only[p7]
     refine aL 10 D ?_;refine aL 11 D ?_;refine r1 12 fun K hK=>?_;go_simp;go_at_call 76
     refine (nM aE).mono ?_;rintro en wm ⟨rfl,rfl⟩;go_wp2_with fail;exact⟨rfl,F.o.trans (Z.o.mono F.o.size),.inr ⟨q5.o,rfl⟩⟩
   have g2:=aB h0;have b1:Hid (d3=gS sx.1 s.2):=aB (by rw[i6.o,XP h0]);rw[h0]at a7;clear h0;refine wp_region_held_drew (S:=(fun w'=>∀q,q<G.heap.size->q≠w.heap.size+1->w'.heap[q]? = G.heap[q]?)) aC ?_ (fun D=>?_)
   . (try dsimp only);exact fun q U _=>a0.o.block q U
   have a6:Hid (ZY G w3.drew):=aB (aU a0.o 1);generalize w3.drew=W3 at *;refine aL 0 D ?_;refine tk 1 ?_ (fun wq hSw=>?_) D ?_;rotate_left
   . have f0:=(aP (hSw (w.heap.size) a4 aA) 0).trans (a5 0);go_simp;try with_reducible rfl
   try simp only[p7]
   refine aL 2 D ?_;refine aL 3 D ?_;refine aL 4 D ?_;refine tk 5 ?_ (fun wq hSw=>?_) D ?_;rotate_left
   . have f0:=(aP (hSw (w.heap.size) a4 aA) 0).trans (a5 0);go_simp;try with_reducible rfl
   try simp only[p7]
   refine aL 6 D ?_;refine aL 7 D ?_;refine aL 8 D ?_;refine aL 13 D ?_;refine tk 14 ?_ (fun wq hSw=>?_) D ?_;rotate_left
   . have f1:=(aP (hSw (w.heap.size) a4 aA) 1).trans (a5 1);go_simp;try with_reducible rfl
   try simp only[p7]
   refine r1 9 fun K hK=>?_;go_simp;go_at_call 113
   refine (a7.o _ a6.o).mono ?_;rintro en w4 ⟨a2,A6,n6,c6,rfl,b5⟩;have Z:=bY a6 a2;have i7:Hid (aX w4 A6 n6 c6 (aW sx.1)):=aB (by first|exact b5 rfl|exact b5 trivial|exact b5 g2.o);clear a2 b5;go_wp2_with fail;refine hK.o _ _ (by exact fun q U _=>Z.o.block q U) fun D=>?_;clear hK K;try simp only[p7]
   refine aL 10 D ?_;refine aL 11 D ?_;refine r1 12 fun K hK=>?_;go_simp;go_at_call 76
   refine jQ.mono ?_;rintro en wm ⟨rfl,rfl⟩;go_wp2_with fail;refine hK.o _ _ (by exact fun q U _=>Z.o.block q U) fun D=>?_;clear hK K;try simp only[p7]
   refine r1 15 fun K hK=>?_;go_simp;go_at_call 112
   refine (l1.o _ Z.o sx.1 A6 n6 c6 i7.o (g7.o g2.o)).mono ?_;rintro en w5 ⟨a3,h5⟩;have I:=bY Z a3;clear a3;rcases h5 with⟨f9,a9,A5,n5,c5,B5,m5,a8,rfl,b0⟩|⟨hn,rfl⟩;rotate_left
   . have HN:=aB hn;clear hn;go_wp2_with fail;exact⟨rfl,F.o.trans (I.o.mono F.o.size),.inr ⟨by rw[b1.o];exact HN.o,rfl⟩⟩
   obtain⟨b8,b7⟩:=aAC b0 a9;have c0:Hid (G.heap.size<=wm.heap.size):=aB Z.o.size;have z:=aB (g8.o.below I.o i0);have z5:=z.o.cell;have i9:=z.o.frozen;clear b0 a9;go_wp2_with fail;refine hK.o _ _ (by exact fun q U _=>I.o.block q U) fun D=>?_;clear hK K;try simp only[p7]
   refine r1 16 fun K hK=>?_;go_simp;refine hK.o _ _ (by exact fun q U h2=>(XZ _ ⟨w.heap.size+1,1,X⟩ _ q h2).trans ((XZ _ ⟨w.heap.size+1,0,X⟩ _ q h2).trans (I.o.block q U))) fun D=>?_;clear hK K;try simp only[p7]
   refine wpAnyH_done aC ?_ _;go_wp2_with fail;refine XW (v:=.agg #[O A5 n5 c5,O B5 m5 a8]) (iS (g:=w.heap.size+1) (by have:=(z.o.set_ 0 (O A5 n5 c5)).set_ 1 (O B5 m5 a8);simpa using this) aD) rfl (oY F.o d9.o I.o b8.o c0.o (by rw[b1.o];exact b7.o))
 by_cases o1:so=1
 . have U:=b3.o.symm.trans o1;obtain⟨s7,s8,B4⟩:=rX a1.o.head U;rw[<-e8.o]at s7 s8 B4;have z7:0<(jZ cv sa).length:=by
    have h9:=l2.o;unfold bT at h9;rw[<-b3.o,XN o5,XN aA,XP o1,<-e8.o]at h9;exact of_decide_eq_true h9
   obtain⟨y,z8,A0,E2,A8,A9⟩:=vG HC.o s7 s8 z7;have b1:Hid (d3=gS (jD y (sa+1)) s.2):=aB (by rw[d4.o];unfold jJ;rw[<-b3.o,XN o5,XN o7,XP o1,<-e8.o,A0]);obtain⟨ia,d0⟩:∃ia:Nat,sa=(ia:Int):=⟨sa.toNat,by omega⟩;have l4:=i8.o.ctx.len;have G6:=i8.o.ctx.few;obtain⟨bc,oc,ec,j4,y0⟩:=i8.o.ctx.mem aA;obtain⟨ik,x3⟩:=aAJ (cn-1-ia);obtain⟨A1,n1,c1,A2,n2,c2,k1,k2,kt⟩:=y0 ik aA;have z6:cv.getD ik []=aW y:=by
    rw[<-z8];unfold jZ;rw[l4,d0,show ((ia:Int)).toNat=ia from by omega,<-x3]
   rw[z6]at kt;have v8:bc<w.heap.size:=j4.1;have E3:=(F.o.cell (p:=⟨bc,oc+ik*2+1,X⟩) v8).trans k2;have C3:=aB (fun (W:aAB) (hB:ZY G W)=>(bF.keep kt (R':=(· < W.heap.size)) (w':=W) fun q hq=>⟨by have:=F.o.size;have:=hB.size;omega,fun o=>((F.o.trans (hB.mono F.o.size))).cell (p:=⟨q,o,X⟩) hq.1⟩));have q1:=aB (fun (W:aAB) (hB:ZY G W)=>z9 (C3.o W hB) (sa+1) 0 aA);rw[A9]at q1;have i5:Hid (bO b (cv.length:Int) (jD y (sa+1))):=aB A8;have H1:IntKind.i64.wrap ((cn:Int)-1)=(cn:Int)-1:=by rw[XV];omega
   have H2:IntKind.i64.wrap ((cn:Int)-1-(ia:Int))=(ik:Int):=by rw[XV];omega
   have H3:IntKind.i64.wrap ((ia:Int)+1)=(ia:Int)+1:=by rw[XV];omega
   have F6:(ik:Int)<(cn:Int):=aA;have F7:(0:Int)<=(ik:Int):=aA;have w9:G.cell? ⟨g,5,X⟩=Y (O (Y ⟨bc,oc,X⟩) cn cc):=by rw[zg,ec];rfl
   rw[d0]at q1 i5 b1;rw[d0]at g4;generalize jD y ((ia:Int)+1)=yu at *;subst o1;clear z6 y0 kt s7 s8 B4 x3 z7 z8 A0 E2 A8 A9 U j4 k1 k2 o5 o7;go_upto_region 11 with fail
   refine wp_region_held_drew (S:=(fun w'=>∀q,q<G.heap.size->q≠w.heap.size+1->w'.heap[q]? = G.heap[q]?)) aC ?_ (fun D=>?_)
   . (try dsimp only);exact fun q _ _=>rfl
   have b2:Hid (ZY G G.drew):=aB (aU (XS _ _) 1);generalize G.drew=W1 at *;refine aL 0 D ?_;refine aL 1 D ?_;refine aL 2 D ?_;refine tk 3 ?_ (fun wq hSw=>?_) D ?_;rotate_left
   . have f3:=(aP (hSw (g) l6 aA) 5).trans w9;go_simp;try with_reducible rfl
   try simp only[p7]
   refine aL 4 D ?_;refine aL 5 D ?_;refine aL 6 D ?_;refine tk 7 ?_ (fun wq hSw=>?_) D ?_;rotate_left
   . have f3:=(aP (hSw (g) l6 aA) 5).trans w9;go_simp;try with_reducible rfl
   try simp only[p7]
   refine aL 8 D ?_;refine aL 9 D ?_;refine aL 10 D ?_;refine tk 11 ?_ (fun wq hSw=>?_) D ?_;rotate_left
   . have f4:=(aP (hSw ((w.heap.size+2)) m7 aA) 1).trans (g4 1);go_simp;try with_reducible rfl
   try simp only[p7]
   refine aL 12 D ?_;refine aL 13 D ?_;refine aL 14 D ?_;refine tk 15 ?_ (fun wq hSw=>?_) D ?_;rotate_left
   . have f5:=(aP (hSw (bc) aA aA) (oc+ik*2+1)).trans E3;go_simp;try with_reducible rfl
   try simp only[p7]
   refine aL 16 D ?_;refine tk 17 ?_ (fun wq hSw=>?_) D ?_;rotate_left
   . have f4:=(aP (hSw ((w.heap.size+2)) m7 aA) 1).trans (g4 1);go_simp;try with_reducible rfl
   try simp only[p7]
   refine aL 18 D ?_;refine aL 23 D ?_;refine tk 24 ?_ (fun wq hSw=>?_) D ?_;rotate_left
   . have f1:=(aP (hSw (w.heap.size) a4 aA) 1).trans (a5 1);go_simp;try with_reducible rfl
   try simp only[p7]
   refine r1 19 fun K hK=>?_;go_simp;go_at_call 114
   refine (q1.o _ b2.o).mono ?_;rintro en w4 ⟨a2,A6,n6,c6,rfl,y6⟩;have Z:=bY b2 a2;have i7:Hid (aX w4 A6 n6 c6 (aW yu)):=aB (l7 y6 (by have:=i5.o.few;have h9:(aW yu).length=bL yu:=rfl;first|omega|(simp only;omega)));clear a2 y6;go_wp2_with fail;refine hK.o _ _ (by exact fun q U _=>Z.o.block q U) fun D=>?_;clear hK K;try simp only[p7]
   refine aL 20 D ?_;refine aL 21 D ?_;refine r1 22 fun K hK=>?_;go_simp;go_at_call 76
   refine jQ.mono ?_;rintro en wm ⟨rfl,rfl⟩;go_wp2_with fail;refine hK.o _ _ (by exact fun q U _=>Z.o.block q U) fun D=>?_;clear hK K;try simp only[p7]
   refine r1 25 fun K hK=>?_;go_simp;go_at_call 112
   refine (l1.o _ Z.o yu A6 n6 c6 i7.o i5.o).mono ?_;rintro en w5 ⟨a3,h5⟩;have I:=bY Z a3;clear a3;rcases h5 with⟨f9,a9,A5,n5,c5,B5,m5,a8,rfl,b0⟩|⟨hn,rfl⟩;rotate_left
   . have HN:=aB hn;clear hn;go_wp2_with fail;exact⟨rfl,F.o.trans (I.o.mono F.o.size),.inr ⟨by rw[b1.o];exact HN.o,rfl⟩⟩
   obtain⟨b8,b7⟩:=aAC b0 a9;have c0:Hid (G.heap.size<=wm.heap.size):=aB Z.o.size;have z:=aB (g8.o.below I.o i0);have z5:=z.o.cell;have i9:=z.o.frozen;clear b0 a9;go_wp2_with fail;refine hK.o _ _ (by exact fun q U _=>I.o.block q U) fun D=>?_;clear hK K;try simp only[p7]
   refine r1 26 fun K hK=>?_;go_simp;refine hK.o _ _ (by exact fun q U h2=>(XZ _ ⟨w.heap.size+1,1,X⟩ _ q h2).trans ((XZ _ ⟨w.heap.size+1,0,X⟩ _ q h2).trans (I.o.block q U))) fun D=>?_;clear hK K;try simp only[p7]
   refine wpAnyH_done aC ?_ _;go_wp2_with fail;refine XW (v:=.agg #[O A5 n5 c5,O B5 m5 a8]) (iS (g:=w.heap.size+1) (by have:=(z.o.set_ 0 (O A5 n5 c5)).set_ 1 (O B5 m5 a8);simpa using this) aD) rfl (oY F.o d9.o I.o b8.o c0.o (by rw[b1.o];exact b7.o))
 by_cases o8:so=8
 . have h8:=b3.o.symm.trans o8;obtain⟨v1,v2,q7,q9⟩:=mP HR.o aA a1.o.head h8;rw[<-e8.o]at v1 v2 q7 q9;have b1:Hid (d3=gS (cT (bP b sa).body) s.2):=aB (by rw[d4.o];unfold jJ;rw[<-b3.o,XN o5,XN o7,XN o1,XP o8,<-e8.o]);obtain⟨ia,d0⟩:∃ia:Nat,sa=(ia:Int):=⟨sa.toNat,by omega⟩;have r5:=l0.o.entries.len;have m0:ia<v.ne:=aA;have x5:(ia:Int)<(v.ne:Int):=aA;have x7:(0:Int)<=(ia:Int):=aA;obtain⟨be,oe,ea,k6,u,e0,e1,e2,e3,e4,e5,e6,g3⟩:=l0.o.entries.at_ m0;have hx:b.entries.getD ia default=bP b sa:=by rw[d0];rfl
   rw[hx]at g3;have b4:=i8.o.bel;have v9:be<w.heap.size:=XT k6 b4.size;have c8:=b4.trans (F.o.mono b4.size);have x6:=(c8.cell (p:=⟨be,oe+ia*7+6,X⟩) k6).trans e6;have r3:=g3.body;rw[q7]at r3;obtain⟨B8,i5⟩:=aAC (fun (W:aAB) (hB:ZY G W)=>r3.below (c8.trans (hB.mono c8.size))) q9;have r8:G.cell? ⟨g,2,X⟩=Y (O (Y ⟨be,oe,X⟩) v.ne v.ce):=by rw[zg,ea];rfl
   rw[d0]at g4;generalize cT (bP b sa).body=yu at *;subst o8;clear e0 e1 e2 e3 e4 e5 e6 g3 hx b4 c8 r3 q9 q7 v1 v2 h8 o5 o7 o1 r5 m0 d0;go_upto_region 13 with fail
   refine wp_region_held_drew (S:=(fun w'=>∀q,q<G.heap.size->q≠w.heap.size+1->w'.heap[q]? = G.heap[q]?)) aC ?_ (fun D=>?_)
   . (try dsimp only);exact fun q _ _=>rfl
   have b2:Hid (ZY G G.drew):=aB (aU (XS _ _) 1);generalize G.drew=W1 at *;refine aL 0 D ?_;refine aL 1 D ?_;refine aL 2 D ?_;refine aL 3 D ?_;refine tk 4 ?_ (fun wq hSw=>?_) D ?_;rotate_left
   . have f3:=(aP (hSw (g) l6 aA) 2).trans r8;go_simp;try with_reducible rfl
   try simp only[p7]
   refine aL 5 D ?_;refine tk 6 ?_ (fun wq hSw=>?_) D ?_;rotate_left
   . have f4:=(aP (hSw ((w.heap.size+2)) m7 aA) 1).trans (g4 1);go_simp;try with_reducible rfl
   try simp only[p7]
   refine aL 7 D ?_;refine aL 8 D ?_;refine tk 9 ?_ (fun wq hSw=>?_) D ?_;rotate_left
   . have f5:=(aP (hSw (be) aA aA) (oe+ia*7+6)).trans x6;go_simp;try with_reducible rfl
   try simp only[p7]
   refine aL 10 D ?_;refine tk 11 ?_ (fun wq hSw=>?_) D ?_;rotate_left
   . have f1:=(aP (hSw (w.heap.size) a4 aA) 1).trans (a5 1);go_simp;try with_reducible rfl
   try simp only[p7]
   refine r1 12 fun K hK=>?_;go_simp;go_at_call 112
   refine (l1.o _ b2.o yu u.Ab u.nb u.cb (B8.o _ b2.o) i5.o).mono ?_;rintro en w5 ⟨a3,h5⟩;have I:=bY b2 a3;clear a3;rcases h5 with⟨f9,a9,A5,n5,c5,B5,m5,a8,rfl,b0⟩|⟨hn,rfl⟩;rotate_left
   . have HN:=aB hn;clear hn;go_wp2_with fail;exact⟨rfl,F.o.trans (I.o.mono F.o.size),.inr ⟨by rw[b1.o];exact HN.o,rfl⟩⟩
   obtain⟨b8,b7⟩:=aAC b0 a9;have c0:Hid (G.heap.size<=W1.heap.size):=aB b2.o.size;have z:=aB (g8.o.below I.o i0);have z5:=z.o.cell;have i9:=z.o.frozen;clear b0 a9;go_wp2_with fail;refine hK.o _ _ (by exact fun q U _=>I.o.block q U) fun D=>?_;clear hK K;try simp only[p7]
   refine r1 13 fun K hK=>?_;go_simp;refine hK.o _ _ (by exact fun q U h2=>(XZ _ ⟨w.heap.size+1,1,X⟩ _ q h2).trans ((XZ _ ⟨w.heap.size+1,0,X⟩ _ q h2).trans (I.o.block q U))) fun D=>?_;clear hK K;try simp only[p7]
   refine wpAnyH_done aC ?_ _;go_wp2_with fail;refine XW (v:=.agg #[O A5 n5 c5,O B5 m5 a8]) (iS (g:=w.heap.size+1) (by have:=(z.o.set_ 0 (O A5 n5 c5)).set_ 1 (O B5 m5 a8);simpa using this) aD) rfl (oY F.o d9.o I.o b8.o c0.o (by rw[b1.o];exact b7.o))
 by_cases g0:so=11
 . have j1:=b3.o.symm.trans g0;obtain⟨u0,q0,br,hk,D3⟩:=eT a1.o.head.okt j1;obtain⟨B0,B2,E4,E5⟩:=lI a1.o.head j1;rw[<-e8.o]at B0 B2;have r6:fA b s.1.1 (bX (eM s.1 1))=true:=by
    have h9:=l2.o;unfold bT at h9
    rwa [<-b3.o,XN o5,XN aA,XN o1,XP g0]at h9
   have s3:bO b (cv.length:Int) (eM s.1 1):=by
    rw[dO (i:=1) (by rw[hk];rfl)];exact a1.o.head.kid0 (i:=1) (by rw[hk];rfl) (eQ (.inr (.inr j1)))
   unfold fA at r6;simp only[YC,beq_iff_eq,YJ]at r6;obtain⟨m1,m2,m3,m4⟩:=r6;have m8:=lQ s3;have j7:=CA m8.head.okt m1;have k4:=a1.o.head.kid0 (jR (x:=s.1) (i:=2+(bX (eM s.1 1)).1.1.b.toNat) (by rw[hk];simp only[YA];omega)) (eQ (.inr (.inr j1)));obtain⟨hd,l8⟩:=aAJ (bX (eM s.1 1));have v6:=aB l8;rw[<-l8]at m1 m2 m3 m4 m8 j7 k4;obtain⟨ib,l9⟩:∃ib:Nat,hd.1.1.b=(ib:Int):=⟨hd.1.1.b.toNat,by omega⟩;obtain⟨ia,d0⟩:∃ia:Nat,sa=(ia:Int):=⟨sa.toNat,by omega⟩;rw[l9,YG]at k4;obtain⟨jb,r9⟩:∃jb,jb=2+ib:=⟨_,rfl⟩;rw[<-r9]at k4;have o6:jb<(bH s.1.2.2).length:=by rw[hk];simp only[YA];omega
   rw[<-e8.o]at m4;have r5:=l0.o.entries.len;have m0:ia<v.ne:=aA;have x5:(ia:Int)<(v.ne:Int):=aA;have x7:(0:Int)<=(ia:Int):=aA;obtain⟨be,oe,ea,k6,u,e0,e1,e2,e3,e4,e5,e6,g3⟩:=l0.o.entries.at_ m0;have hx:b.entries.getD ia default=bP b sa:=by rw[d0];rfl
   rw[hx]at g3;have b4:=i8.o.bel;have v9:be<w.heap.size:=XT k6 b4.size;have c8:=b4.trans (F.o.mono b4.size);have x2:=(c8.cell (p:=⟨be,oe+ia*7+2,X⟩) k6).trans e2;have s2:(bP b sa).params.length=u.np:=g3.params.len;have r8:G.cell? ⟨g,2,X⟩=Y (O (Y ⟨be,oe,X⟩) v.ne v.ce):=by rw[zg,ea];rfl
   have b1:Hid (d3=gS (eM s.1 jb) (hd.2.drop u.np++s.2)):=aB (by
    rw[d4.o];unfold jJ;rw[<-b3.o,XN o5,XN o7,XN o1,XN o8,XP g0,<-l8,l9,YG,<-r9,<-e8.o,s2])
   have y5:u.np<=hd.2.length:=by rw[s2]at m4;omega
   have k5:=fun (W:aAB) (hB:ZY G W)=>kE (HS.o.below hB).head a1.o.head.rt.shape;rw[lL a1.o.head]at k5;have HK:=aB k5;have t3:Hid (1<(bH s.1.2.2).length):=aB (by rw[hk];simp);have t4:=aB o6;have q3:=aB s3;have g7:=aB m8;have C2:=aB k4;have t5:=aB y5;have C1:=aB l9;have F5:ib<=100000:=by have:=q8 a1.o.head;omega
   have H4:IntKind.i64.wrap (2+(ib:Int))=(jb:Int):=by rw[XV];omega
   rw[d0]at g4;subst g0;clear k5 hk s3 m8 k4 l8 m1 m2 m3 m4 j7 D3 g3 hx e0 e1 e2 e3 e4 e5 e6 b4 c8 r5 B0 B2 E4 E5 l9 r9 o6 y5 j1 o5 o7 o1 o8 s2 d0;go_wp2_with fail;refine (HK.o _ (XS _ _)).mono ?_;rintro en w3 ⟨c9,A3,n3,c3,H5,rfl,s1,s4⟩;obtain⟨E0,gk,A4,n4,c4,rfl,x0,F3,l3,i1⟩:=kA s1 s4 t3.o;obtain⟨y3,j0,A7,n7,c7,h4,_,_,w6,z4⟩:=kA s1 s4 t4.o;have v3:j0=gk:=by injection h4 with h4;injection h4 with h4;exact h4.symm
   subst v3;have F9:(1:Int)<(n3:Int):=by have:=t3.o;omega
   have G0:(jb:Int)<(n3:Int):=by have:=t4.o;omega
   have a0:=aB c9;have q6:Hid (aX w3 A4 n4 c4 (aW (eM s.1 1))):=aB (bF.keep i1 (R':=(· < w3.heap.size)) (w':=w3) fun q hq=>⟨hq.2.1,fun _=>rfl⟩);have C9:Hid (aX w3 A7 n7 c7 (aW (eM s.1 jb))):=aB (bF.keep z4 (R':=(· < w3.heap.size)) (w':=w3) fun q hq=>⟨hq.2.1,fun _=>rfl⟩);clear c9 s1 s4 E0 y3 i1 z4 h4;go_wp2_with fail;refine (fR q6.o q3.o).mono ?_;rintro en w4 ⟨a2,A6,n6,c6,B6,m6,d6,rfl,h6⟩;rw[<-v6.o]at h6;have s0:m6=hd.2.length:=h6.len.2;have F8:m6<=4096:=by rw[s0];exact dM.argsLen g7.o (by have:=eY q3.o;rw[<-v6.o]at this;rw[this];exact q3.o.few)
   have D5:m6<=d6:=by obtain⟨_,H6,h9,_⟩:=h6;exact wN h9
   have l5:=h6.read (g:=w.heap.size) (by have:=a0.o.size;omega) aA;obtain⟨g9,n0,rfl,E1,o0,p0,p1,p2⟩:=l5.node;rw[C1.o]at p2;obtain⟨B9,F2,j9,j8⟩:=zN B6 m6 d6 u.np (by rw[s0];exact t5.o) D5 l5.2.2;obtain⟨wb,m9⟩:=aAJ (w4.alloc (.cells #[O (Y ⟨g9,n0,X⟩) n6 c6,O B6 m6 d6] 78));have e7:ZY w4 wb:=by rw[m9];exact aQ _ _
   have b6:ZY G wb:=(a0.o.trans (a2.mono a0.o.size)).trans (e7.mono (YE a0.o.size a2.size));have g5:ZY w3 wb:=a2.trans (e7.mono a2.size);have zq:aT wb w4.heap.size 78 #[O (Y ⟨g9,n0,X⟩) n6 c6,O B6 m6 d6]:=by rw[m9];exact aT.new _ _ _
   have B7:=zq.cell;have y7:w4.heap.size<wb.heap.size:=zq.lt;have x1:j0<wb.heap.size:=XT x0 g5.size;have r7:=(g5.cell (p:=⟨j0,jb,X⟩) x0).trans w6;have E6:=(e7.cell (p:=⟨g9,n0+2,X⟩) o0).trans p2;have r4:g9<wb.heap.size:=XT o0 e7.size;have F0:=fun i=>(b6.cell (p:=⟨w.heap.size,i,X⟩) a4).trans (a5 i);have E8:=fun i=>(b6.cell (p:=⟨w.heap.size+2,i,X⟩) m7).trans (g4 i);have w8:=(b6.cell (p:=⟨g,2,X⟩) l6).trans r8;have E7:=(b6.cell (p:=⟨be,oe+ia*7+2,X⟩) (by show be<G.heap.size;omega)).trans x2;have p6:=aB (fun (W:aAB) (hB:ZY wb W)=>j9 _ _ _ ((l5.below e7).below hB).args);have p5:=aB (fun (W:aAB) (hB:ZY wb W)=>((HS.o.below b6).below hB).args);have t9:=aB (fun (W:aAB) (hB:ZY wb W)=>(C9.o.below g5).below hB);have q2:=aB j8;have t6:=aB HS.o.2.2;have n8:=aB b6;have p3:=b6.size;have G1:=a2.size;have G2:(u.np:Int)<=(m6:Int):=by have:=t5.o;omega
   have F4:w.heap.size+1<j0:=aA;have D4:g9≠w.heap.size+1:=by
    obtain⟨h9,_⟩:=h6;obtain⟨b9,o9,e9,v7,_⟩:=h9.mem E1;injection e9 with e9;injection e9 with e9;have:=v7.1;have:=v7.2.1;omega
   have p9:Hid (∀a∈hd.2.drop u.np++s.2,bO b (cv.length:Int) a):=aB (fun a ha=>by
    rcases YW.1 ha with ha|ha
    . exact g7.o.args a (List.mem_of_mem_drop ha)
    exact a1.o.args a ha)
   clear a2 h6 l5 j9 j8 l3 w6 e7 b6 g5 zq p0 p1 p2 s0;go_upto_region 17 with fail
   rw[<-m9];clear m9;refine wp_region_held_drew (S:=(fun w'=>∀q,q<wb.heap.size->q≠w.heap.size+1->w'.heap[q]? = wb.heap[q]?)) aC ?_ (fun D=>?_)
   . (try dsimp only);exact fun q _ _=>rfl
   have i2:Hid (ZY wb wb.drew):=aB (aU (XS _ _) 1);have b2:Hid (ZY G wb.drew):=aB (n8.o.trans (i2.o.mono p3));generalize wb.drew=W1 at *;refine aL 0 D ?_;refine aL 1 D ?_;refine tk 2 ?_ (fun wq hSw=>?_) D ?_;rotate_left
   . have f1:=(aP (hSw (w4.heap.size) y7 aA) 0).trans (B7 0);go_simp;try with_reducible rfl
   try simp only[p7]
   refine aL 3 D ?_;refine aL 4 D ?_;refine tk 5 ?_ (fun wq hSw=>?_) D ?_;rotate_left
   . have f2:=(aP (hSw (g9) r4 aA) (n0+2)).trans E6;go_simp;try with_reducible rfl
   try simp only[p7]
   refine aL 6 D ?_;refine aL 7 D ?_;refine tk 8 ?_ (fun wq hSw=>?_) D ?_;rotate_left
   . have f3:=(aP (hSw (j0) x1 aA) jb).trans r7;go_simp;try with_reducible rfl
   try simp only[p7]
   refine aL 9 D ?_;refine tk 10 ?_ (fun wq hSw=>?_) D ?_;rotate_left
   . have f4:=(aP (hSw (w4.heap.size) y7 aA) 1).trans (B7 1);go_simp;try with_reducible rfl
   try simp only[p7]
   refine aL 11 D ?_;refine aL 12 D ?_;refine aL 13 D ?_;refine aL 14 D ?_;refine tk 15 ?_ (fun wq hSw=>?_) D ?_;rotate_left
   . have f5:=(aP (hSw (g) aA aA) 2).trans w8;go_simp;try with_reducible rfl
   try simp only[p7]
   refine aL 16 D ?_;refine tk 17 ?_ (fun wq hSw=>?_) D ?_;rotate_left
   . have f6:=(aP (hSw ((w.heap.size+2)) aA aA) 1).trans (E8 1);go_simp;try with_reducible rfl
   try simp only[p7]
   refine aL 18 D ?_;refine aL 19 D ?_;refine tk 20 ?_ (fun wq hSw=>?_) D ?_;rotate_left
   . have f7:=(aP (hSw (be) aA aA) (oe+ia*7+2)).trans E7;go_simp;try with_reducible rfl
   try simp only[p7]
   refine aL 21 D ?_;refine aL 22 D ?_;refine aL 23 D ?_;refine tk 24 ?_ (fun wq hSw=>?_) D ?_;rotate_left
   . have f8:=(aP (hSw (w.heap.size) aA aA) 1).trans (F0 1);go_simp;try with_reducible rfl
   try simp only[p7]
   refine r1 25 fun K hK=>?_;go_simp;refine hK.o _ _ (by exact fun q U _=>(i2.o.alloc i2.o.size _).block q U) fun D=>?_;clear hK K;try simp only[p7]
   have C0:Hid (aT (W1.alloc (.cells #[O B9 (m6-u.np) (d6-u.np),O B m d] 47)) W1.heap.size 47 #[O B9 (m6-u.np) (d6-u.np),O B m d]):=aB (aT.new _ _ _);have p8:=aB (i2.o.alloc i2.o.size (.cells #[O B9 (m6-u.np) (d6-u.np),O B m d] 47));refine r1 26 fun K hK=>?_;go_simp;go_at_call 115
   refine (D8 C0.o (p6.o _ p8.o) (p5.o _ p8.o) q2.o t6.o aA).mono ?_;rintro en wc ⟨j4,Ac,nc,G3,rfl,z0,y4⟩;have k9:=bY p8 j4;obtain⟨n9,C6,C5⟩:=aAF (n8.o.trans (k9.o.mono p3)) z0 y4;clear j4 z0 y4;go_wp2_with fail;refine hK.o _ _ (by exact fun q U _=>k9.o.block q U) fun D=>?_;clear hK K;try simp only[p7]
   refine r1 27 fun K hK=>?_;go_simp;go_at_call 112
   refine (sD (L:=hd.2.drop u.np++s.2) (t9.o _ k9.o) C2.o (by rw[List.map_append,List.map_drop];exact C6.o) p9.o C5.o).mono ?_;rintro en w5 ⟨a3,h5⟩;have I:=bY n9 a3;have v0:=bY k9 a3;clear a3;rcases h5 with⟨f9,a9,A5,n5,c5,B5,m5,a8,rfl,b0⟩|⟨hn,rfl⟩;rotate_left
   . have HN:=aB hn;clear hn;go_wp2_with fail;exact⟨rfl,F.o.trans (I.o.mono F.o.size),.inr ⟨by rw[b1.o];exact HN.o,rfl⟩⟩
   obtain⟨b8,b7⟩:=aAC b0 a9;have c0:Hid (G.heap.size<=wc.heap.size):=aB n9.o.size;have z:=aB (g8.o.below I.o i0);have z5:=z.o.cell;have i9:=z.o.frozen;clear b0 a9;go_wp2_with fail;refine hK.o _ _ (by exact fun q U _=>v0.o.block q U) fun D=>?_;clear hK K;try simp only[p7]
   refine r1 28 fun K hK=>?_;go_simp;refine hK.o _ _ (by exact fun q U h2=>(XZ _ ⟨w.heap.size+1,1,X⟩ _ q h2).trans ((XZ _ ⟨w.heap.size+1,0,X⟩ _ q h2).trans (v0.o.block q U))) fun D=>?_;clear hK K;try simp only[p7]
   refine wpAnyH_done aC ?_ _;go_wp2_with fail;refine XW (v:=.agg #[O A5 n5 c5,O B5 m5 a8]) (iS (g:=w.heap.size+1) (by have:=(z.o.set_ 0 (O A5 n5 c5)).set_ 1 (O B5 m5 a8);simpa using this) aD) rfl (oY F.o d9.o I.o b8.o c0.o (by rw[b1.o];exact b7.o))
 have B3:so=12:=by
  have h9:=l2.o;unfold bT at h9;rw[<-b3.o,XN o5,XN aA,XN o1,XN g0]at h9;by_cases h:so=12
  . exact h
  rw[XN h]at h9;cases h9
 have j2:=b3.o.symm.trans B3;have y9:d3=match rW s.1 with
  | none=>X
  | some y=>gS y s.2:=by rw[d4.o];unfold jJ;rw[<-b3.o,XN o5,XN o7,XN o1,XN o8,XN g0];cases rW s.1<;>rfl
 obtain⟨q4,D1,D0⟩:=aAF y9 (fun (W:aAB) (hB:ZY G W)=>yP aA g6.o ((HS.o.below hB).head) a1.o.head j2) (fun (y:TT) (hy:rW s.1=Y y)=>x9 a1.o.head j2 aA g6.o hy);have d5:(so==5)=false:=by simpa using o5
 have d7:(so==7)=false:=by simpa using o7
 have d1:(so==1)=false:=by simpa using o1
 have d8:(so==8)=false:=by simpa using o8
 have G4:(so==11)=false:=by simpa using g0
 clear o5 o7 o1 o8 g0 B3 y9 j2;go_upto_region 18 with fail
 refine wp_region_held_drew (S:=(fun w'=>∀q,q<G.heap.size->q≠w.heap.size+1->w'.heap[q]? = G.heap[q]?)) aC ?_ (fun D=>?_)
 . (try dsimp only);exact fun q _ _=>rfl
 have b2:Hid (ZY G G.drew):=aB (aU (XS _ _) 1);generalize G.drew=W1 at *;refine aL 0 D ?_;refine tk 1 ?_ (fun wq hSw=>?_) D ?_;rotate_left
 . have f0:=(aP (hSw (w.heap.size) a4 aA) 0).trans (a5 0);go_simp;try with_reducible rfl
 try simp only[p7]
 refine aL 3 D ?_;refine tk 4 ?_ (fun wq hSw=>?_) D ?_;rotate_left
 . have f1:=(aP (hSw (w.heap.size) a4 aA) 1).trans (a5 1);go_simp;try with_reducible rfl
 try simp only[p7]
 refine r1 2 fun K hK=>?_;go_simp;go_at_call 116
 refine (D1.o _ b2.o).mono ?_;rintro en w3 ⟨c9,h3⟩;have a0:=bY b2 c9;clear c9;rcases h3 with⟨y,hy,A3,n3,c3,rfl,z3⟩|⟨hn,rfl⟩;rotate_left
 . have HN:=aB hn;clear hn;go_wp2_with fail;exact⟨rfl,F.o.trans (a0.o.mono F.o.size),.inr ⟨by rw[q4.o,HN.o],rfl⟩⟩
 have C8:Hid (aX w3 A3 n3 c3 (aW y)):=aB (bF.keep z3 (R':=(· < w3.heap.size)) (w':=w3) fun q hq=>⟨hq.2,fun _=>rfl⟩);have HY:=aB hy;clear z3 hy;go_wp2_with fail;refine hK.o _ _ (by exact fun q U _=>a0.o.block q U) fun D=>?_;clear hK K;try simp only[p7]
 refine r1 5 fun K hK=>?_;go_simp;go_at_call 112
 refine (l1.o _ a0.o y A3 n3 c3 C8.o (D0.o y HY.o)).mono ?_;rintro en w5 ⟨a3,h5⟩;have I:=bY a0 a3;clear a3;rcases h5 with⟨f9,a9,A5,n5,c5,B5,m5,a8,rfl,b0⟩|⟨hn,rfl⟩;rotate_left
 . have HN:=aB hn;clear hn;go_wp2_with fail;exact⟨rfl,F.o.trans (I.o.mono F.o.size),.inr ⟨by rw[q4.o,HY.o];exact HN.o,rfl⟩⟩
 obtain⟨b8,b7⟩:=aAC b0 a9;have c0:Hid (G.heap.size<=w3.heap.size):=aB a0.o.size;have z:=aB (g8.o.below I.o i0);have z5:=z.o.cell;have i9:=z.o.frozen;clear b0 a9;go_wp2_with fail;refine hK.o _ _ (by exact fun q U _=>I.o.block q U) fun D=>?_;clear hK K;try simp only[p7]
 refine r1 6 fun K hK=>?_;go_simp;refine hK.o _ _ (by exact fun q U h2=>(XZ _ ⟨w.heap.size+1,1,X⟩ _ q h2).trans ((XZ _ ⟨w.heap.size+1,0,X⟩ _ q h2).trans (I.o.block q U))) fun D=>?_;clear hK K;try simp only[p7]
 refine wpAnyH_done aC ?_ _;go_wp2_with fail;refine XW (v:=.agg #[O A5 n5 c5,O B5 m5 a8]) (iS (g:=w.heap.size+1) (by have:=(z.o.set_ 0 (O A5 n5 c5)).set_ 1 (O B5 m5 a8);simpa using this) aD) rfl (oY F.o d9.o I.o b8.o c0.o (by rw[q4.o,HY.o];exact b7.o))
end Go.Proofs.YtjoddliplahgkaaGreat
