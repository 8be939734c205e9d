/- core: own. -/
import Derived.Test.YtjoddliplahgkaaGreatPSenseE
namespace Go.Proofs.YtjoddliplahgkaaGreat
set_option linter.unusedVariables false
set_option linter.unusedSimpArgs false
open Go.RowKit
open Go.Value renaming slice → O
open Option renaming none → X, some → Y
open Go.Lib renaming hid->aB
theorem iC {w:World} {g:Nat} {c0 c1:Value} {tmps:Array Value} (h:aS w g 78 #[c0,c1]) (ht:tmps.getD 4 undef=.pointer (Y ⟨g,0,X⟩)) :
 (results Tryz.f70 tmps).run Tryz.prog w=.ok (.agg #[c0,c1]) w:=by
 have hc:=h.cell;have a0:tmps[4]?.getD undef=.pointer (Y ⟨g,0,X⟩):=by rw[<-ht];simp
 simp[results,Tryz.results70,go_sem,a0,hc]
theorem nK {w w1 w5:World} {f:Fc} {r:Option Fc} {A B:Option Addr} {n c m d lo:Nat} (hb1:Below w.heap.size w w1) (hs:w1.heap.size=w.heap.size+3) (hB:Below w1.heap.size w1 w5) (hf:fE lo w5 f A n c B m d) (hlo:w1.heap.size<=lo) (hr:r=Y f) :
 KY w.heap.size r w (.returned (.agg #[O A n c,O B m d])) ((w5.setCell ⟨w.heap.size+1,0,X⟩ (O A n c)).setCell ⟨w.heap.size+1,1,X⟩ (O B m d)):=by
 refine⟨?_,.inl ⟨f,hr,A,n,c,B,m,d,rfl,?_⟩⟩
 · exact ((hb1.trans (hB.mono hb1.size)).setCell (p:=⟨w.heap.size+1,0,X⟩) (Nat.le_succ _) _).setCell (p:=⟨w.heap.size+1,1,X⟩) (Nat.le_succ _) _
 exact (((hf.set (b:=w.heap.size+1) aA 0 _).set (b:=w.heap.size+1) aA 1 _)).base aA
theorem wJ (A:Option Addr) (n c k:Nat) (hk:k<=n) (hc:n<=c) (hnul:A=X->c=0) : ∃A',(∀w:World,(Instr.slice 47 (O A n c) (Y (.int .i64 (k:Int))) X X).run Tryz.prog w=.ok (O A' (n-k) (c-k)) w) ∧
 (∀(R:Nat->Prop) (w:World) (ls:List (List Nd)),gI R w A n c ls->gI R w A' (n-k) (c-k) (ls.drop k))/\(A'=X->c-k=0):=by
 refine⟨if c=k then A else A.map (·.add (k*1)),fun w => ?_,fun R w ls h => ?_,fun e => ?_⟩
 · rw[run_slice_l w 47 A n c aC .i64 (k:Int) aA aA];have e:Tryz.prog.elem 47=29:=by kernel_rfl
   rw[e,J9];rfl
 · have h1:=h.len;have h2:=h.few;refine⟨by rw[List.length_drop];omega,by omega,fun hn => ?_⟩;obtain⟨b,off,rfl,hb,hm⟩:=h.mem aA;rw[if_neg aA];refine⟨b,off+k,?_,hb,fun j hj => ?_⟩
   · simp only[Option.map_some,Addr.add,Nat.mul_one];split
     · rename_i h0;rw[h0,Nat.add_zero]
     rfl
   obtain⟨A',n',c',hc,ht⟩:=hm (k+j) aA;refine⟨A',n',c',by rw[Nat.add_assoc];exact hc,?_⟩;have e:(ls.drop k).getD j []=ls.getD (k+j) []:=by
    rw[List.getD_eq_getElem?_getD,List.getD_eq_getElem?_getD,List.getElem?_drop]
   rw[e];exact ht
 by_cases h9:c=k
 · omega
 rw[if_neg h9] at e;cases A with
 | none=>have:=hnul rfl;omega
 | some a=>cases e
theorem lA {w:World} {base n c:Nat} {A:Option Addr} {l:List Nd} (ho:bN w base (O A n c) l) (hf:l.length<=5864062014805):aY w A n c l:=by
 have hl:l.length=n:=by
  obtain⟨_,_,e⟩:=ho.slice;injection e with _ e2;exact e2.symm
 rw[<-hl] at ho ⊢;obtain⟨Aq,nq,cq,e,hq⟩:=bN.termS ho hf;injection e with e1 e2 e3;subst e1 e2 e3;exact hq.keep fun q hq=>⟨(aU ho hq).2.1,fun _=>rfl⟩
def QO (x u:TT) (w:World) (e:Ending) (w':World):Prop:=Below w.heap.size w w'/\∃A n c,e=.returned (.tuple #[O A n c,.int .i64 (cH x u).2])/\((cH x u).2=0->aY w' A n c (aW (cH x u).1))
theorem BD {b:Bk} {free:Int} {x u:TT} {A B:Option Addr} {n c m d:Nat} {w:World} (h0:0<=free) (h1:free<=1000000) (hx:bR b (free+1) x) (hu:bR b free u) (tx:aY w A n c (aW x)) (tu:aY w B m d (aW u)) :
 Calls Tryz.prog 113 #[O A n c,O B m d,.int .i64 0] w (QO x u w):=by
 have hS:=kF h0 h1 hx hu;have h:=xZ tx tu 0 (fun _ _ _=>hS.1);rw[hS.2.1] at h;refine h.mono ?_;rintro e w' ⟨hb,A',n',c',rfl,ho⟩;refine⟨hb,A',n',c',rfl,fun h9 => ?_⟩;rw[if_pos h9] at ho;simp only at ho;have hl:(aW (cH x u).1).length=n':=by
  obtain⟨_,_,e⟩:=ho.slice;injection e with _ e2;exact e2.symm
 rw[<-hl] at ho ⊢;obtain⟨Aq,nq,cq,e,hq⟩:=bN.termS ho (by have:=(hS.2.2 h9).few;have h9:(aW (cH x u).1).length=bI (cH x u).1:=rfl;omega);injection e with e1 e2 e3;subst e1 e2 e3;exact hq.keep fun q hq=>⟨(aU ho hq).2.1,fun _=>rfl⟩
set_option maxRecDepth 100000 in
set_option maxHeartbeats 4000000 in
theorem BC {w0:World} {g:Nat} {v:bO} {b:Bk} {cA:Option Addr} {cn cc:Nat} {cv:List (List Nd)} {f:Nat} {w:World} (hr:bP b=0) (hb:bX w0 v b) (hc:fR b cv) (hcl:(cv.length:Int)<=990000) (hw:AN w0 g v b cA cn cc cv f w) {s:Fc} {A B:Option Addr} {n c m d:Nat} (hs:jU g w s A n c B m d) (fs:eH b (cv.length:Int) s) (hmd:m<=d) (hfz:dK s<=4096) (hrd:bW b cv s=true) :
 Calls Tryz.prog 70 #[.pointer (Y ⟨g,0,X⟩),.agg #[O A n c,O B m d]] w (KY w.heap.size (jD b cv s) w):=by
 obtain⟨bs,os,rfl,D9,E3,h0,h1,h2⟩:=hs.node;obtain⟨so,p8⟩ : ∃z,z=s.1.1.op:=⟨_,rfl⟩;obtain⟨sa,p9⟩ : ∃z,z=s.1.1.a:=⟨_,rfl⟩;obtain⟨sb,v1⟩ : ∃z,z=s.1.1.b:=⟨_,rfl⟩;rw[<-p8] at h0;rw[<-p9] at h1;rw[<-v1] at h2;obtain⟨res,g8⟩ : ∃r,r=jD b cv s:=⟨_,rfl⟩;rw[<-g8];have w6:s.2.length=m:=by have:=hs.2.1.len;simpa using this
 have E0:=hs.2.1.few;obtain⟨w1,b7⟩ : ∃w1:World,w1=((w.alloc (.cells #[O (Y ⟨bs,os,X⟩) n c,O B m d] 78)).alloc (.cells #[O X 0 0,O X 0 0] 78)).alloc (.cells #[.int .i64 so,.int .i64 sa,.int .i64 sb] 46):=⟨_,rfl⟩;have k6:Below w.heap.size w w1:=by rw[b7];exact (a7 _ _ _).alloc aG _
 have zs:aS w1 w.heap.size 78 #[O (Y ⟨bs,os,X⟩) n c,O B m d]:=by rw[b7];exact ((aS.new _ _ _).alloc _).alloc _
 have zr:aS w1 (w.heap.size+1) 78 #[O X 0 0,O X 0 0]:=by rw[b7];exact (aS.new' aD).alloc _
 have zn:aS w1 (w.heap.size+2) 46 #[.int .i64 so,.int .i64 sa,.int .i64 sb]:=by rw[b7];exact aS.new' aD
 have i9:w1.heap.size=w.heap.size+3:=by rw[b7];simp
 have p4:=aB (fun (W:World) (hB:Below w1.heap.size w1 W) (x:TT) (A':Option Addr) (n' c':Nat) (ht:aY W A' n' c' (aW x)) (hx:bR b (cv.length:Int) x)=>qN ht hx ((hs.below k6).below hB).args fs.args hs.2.2);have HW:=aB (hw.below k6);have C9:=aB hs;have E1:m<=4096:=by have:=eH.argsLen fs hfz;omega
 have l0:=aB hw;have HS:=aB (hs.below k6);have a0:=aB k6;have p5:=aB hb;have HR:=aB hr;have HC:=aB hc;have i8:=aB hcl;have a8:=aB fs;have D2:=aB w6;have c8:=aB p8;have g6:=aB p9;have d4:=aB g8;have p3:=aB hrd;have i6:=aB zr;have d3:=aB i9;have D8:=hw.lt;have zg:=HW.o.blk.cell;have o3:g<w1.heap.size:=HW.o.lt;have b2:w.heap.size<w1.heap.size:=zs.lt;have i2:w.heap.size+1<w1.heap.size:=zr.lt;have n8:w.heap.size+2<w1.heap.size:=zn.lt;have b1:=zs.cell;have g7:=zn.cell;clear hr hb hc hcl hw hs fs p8 p9 v1 g8 hrd w6 k6 zs zr zn i9;go_in;go_upto_region 2 with fail
 rw[<-b7];clear b7;by_cases o5:so=5
 · have h5:=c8.o.symm.trans o5;have w8:0<m:=by
    have h9:=p3.o;unfold bW at h9;rw[if_pos h5,D2.o] at h9;exact of_decide_eq_true h9
   obtain⟨p,q,hk⟩:=pV a8.o.head.okt (Or.inr (Or.inl h5));obtain⟨e1,j6,y1,y0,hp,hq⟩:=F6 a8.o.head.rt (Or.inr h5) hk;have j1:(aW s.1).length=n:=HS.o.1.len;rw[j1] at y0;obtain⟨a,ha⟩ : ∃a,a=s.2.getD 0 (default,[],.nil):=⟨_,rfl⟩;have l2:Hid (res=if (cH q a).2=0 then gG (cH q a).1 (s.2.drop 1) else X):=aB (by rw[d4.o];unfold jD;rw[if_pos h5,<-ha,dI (i:=1) (y:=q) (by rw[hk];rfl)]);have y8:Hid (bR b ((cv.length:Int)+1) q):=aB (by
    have:=a8.o.head.kid (i:=1) (y:=q) (by rw[hk];rfl)
    rwa [show aR s.1.1.op s.1.1.b ((1:Nat):Int)=1 from by rw[h5];simp[aR]] at this)
   obtain⟨w9,bb,oo,A4,n4,c4,eB,C4,o6,i1⟩:=C9.o.arg w8;have l6:Hid (bR b (cv.length:Int) a):=aB (by rw[ha];exact a8.o.args _ (gS w9 (default,[],.nil)));rw[<-ha] at i1;have s4:=aB (fun (W:World) (hB:Below w1.heap.size w1 W)=>(bJ.keep i1 (R':=(· < W.heap.size)) (w':=W) fun q hq=>⟨by have:=a0.o.size;have:=hB.size;omega,fun o=>((a0.o.trans (hB.mono a0.o.size))).cell (p:=⟨q,o,X⟩) hq.1⟩));have h6:=(a0.o.cell (p:=⟨bb,oo+0,X⟩) C4).trans o6;rw[Nat.add_zero] at h6;obtain⟨B1,j9,j7,j8⟩:=wJ B m d 1 w8 hmd HS.o.2.2;have s8:=aB (fun (W:World) (hB:Below w1.heap.size w1 W) (x:TT) (A':Option Addr) (n' c':Nat) (ht:aY W A' n' c' (aW x)) (hx:bR b (cv.length:Int) x)=>qN (L:=s.2.drop 1) ht hx (by rw[List.map_drop];exact j7 _ _ _ (HS.o.below hB).args) (fun y hy=>a8.o.args y (List.mem_of_mem_drop hy)) j8);obtain⟨Af,B8,j5⟩:=kV (Y ⟨bs,os,X⟩) n c e1 y0;have l7:=aB (fun (W:World) (hB:Below w1.heap.size w1 W)=>jM (HS.o.below hB).head 1);rw[j6] at l7;have HQ:=aB (fun (W:World) (hB:Below w1.heap.size w1 W)=>j5 _ _ _ (HS.o.below hB).head);rw[hq] at HQ;have C2:∀w:World,(Instr.slice 47 (O B m d) (Y (.int .i64 1)) X X).run Tryz.prog w=.ok (O B1 (m-1) (d-1)) w:=j9;subst eB;subst o5;clear hk hp hq i1 j7 j8 j5 j6 w9 o6 ha h5 j9 j1;go_upto_region 4 with fail
   refine wp_region_held_drew (S:=(fun w'=>∀q,q<w1.heap.size->q ≠ w.heap.size+1->w'.heap[q]? = w1.heap[q]?)) aC ?_ (fun hZ => ?_)
   · (try dsimp only);exact fun q _ _=>rfl
   have c9:Hid (Below w1.heap.size w1 w1.drew):=aB (aT (Below.refl _ _) 1);generalize w1.drew=W1 at *;refine aL 0 hZ ?_;refine tk 1 ?_ (fun wq hSw => ?_) hZ ?_;rotate_left
   · have f0:=(aQ (hSw (w.heap.size) b2 aA) 0).trans (b1 0);go_simp;try with_reducible rfl
   try simp only[p7]
   refine aL 2 hZ ?_;refine tk 3 ?_ (fun wq hSw => ?_) hZ ?_;rotate_left
   · have f0:=(aQ (hSw (w.heap.size) b2 aA) 0).trans (b1 0);go_simp;try with_reducible rfl
   try simp only[p7]
   refine r1 4 fun K hK => ?_;go_simp;go_at_call 111
   refine (l7.o _ c9.o).mono ?_;rintro en w3 ⟨rfl,e7⟩;have a9:=bZ c9 e7;clear e7;go_wp2_with fail;refine hK.o _ _ (by exact fun q h1 _=>a9.o.block q h1) fun hZ => ?_;clear hK K;try simp only[p7]
   refine aL 5 hZ ?_;refine aL 6 hZ ?_;refine wpAnyH_done aC ?_ _;go_upto_region 5 with fail
   have a3:=aB (fun (W:World) (hB:Below w1.heap.size w1 W)=>BD aA (by have:=i8.o;omega) y8.o l6.o (HQ.o W hB) (s4.o W hB));have i7:=aB (fun h9=>(kF aA (by have:=i8.o;omega) y8.o l6.o).2.2 h9);have g2:Hid ((cH q a).2 ≠ 0->(cH q a).2=9):=aB pA;unfold QO at a3;generalize cH q a=sx at *;by_cases h0:sx.2=0;rotate_left
   · have i0:=aB h0;have s5:Hid (res=X):=aB (by rw[l2.o,if_neg h0]);rw[g2.o h0] at a3;clear h0;refine wp_region_held_drew (S:=(fun w'=>∀q,q<w1.heap.size->q ≠ w.heap.size+1->w'.heap[q]? = w1.heap[q]?)) aC ?_ (fun hZ => ?_)
     · (try dsimp only);exact fun q h1 _=>a9.o.block q h1
     have a5:Hid (Below w1.heap.size w1 w3.drew):=aB (aT a9.o 1);generalize w3.drew=W3 at *;refine aL 0 hZ ?_;refine aL 1 hZ ?_;refine tk 2 ?_ (fun wq hSw => ?_) hZ ?_;rotate_left
     · have f1:=(aQ (hSw (w.heap.size) b2 aA) 1).trans (b1 1);go_simp;try with_reducible rfl
     try simp only[p7]
     refine aL 3 hZ ?_;refine tk 4 ?_ (fun wq hSw => ?_) hZ ?_;rotate_left
     · have f2:=(aQ (hSw (bb) aA aA) oo).trans h6;go_simp;try with_reducible rfl
     try simp only[p7]
     refine aL 9 hZ ?_;refine tk 10 ?_ (fun wq hSw => ?_) hZ ?_;rotate_left
     · have f1:=(aQ (hSw (w.heap.size) b2 aA) 1).trans (b1 1);go_simp;try with_reducible rfl
     try simp only[p7]
     refine aL 11 hZ ?_;refine r1 5 fun K hK => ?_;go_simp;go_at_call 113
     refine (a3.o _ a5.o).mono ?_;rintro en w4 ⟨a6,A6,n6,c6,rfl,d0⟩;have a4:=bZ a5 a6;clear a6 d0;go_wp2_with fail;refine hK.o _ _ (by exact fun q h1 _=>a4.o.block q h1) fun hZ => ?_;clear hK K;try simp only[p7]
     refine aL 6 hZ ?_;refine aL 7 hZ ?_;refine r1 8 fun K hK => ?_;go_simp;go_at_call 76
     refine (mG aE).mono ?_;rintro en wm ⟨rfl,rfl⟩;go_wp2_with fail;exact⟨rfl,a0.o.trans (a4.o.mono a0.o.size),.inr ⟨s5.o,rfl⟩⟩
   have i0:=aB h0;have c0:Hid (res=gG sx.1 (s.2.drop 1)):=aB (by rw[l2.o,if_pos h0]);rw[h0] at a3;clear h0;refine wp_region_held_drew (S:=(fun w'=>∀q,q<w1.heap.size->q ≠ w.heap.size+1->w'.heap[q]? = w1.heap[q]?)) aC ?_ (fun hZ => ?_)
   · (try dsimp only);exact fun q h1 _=>a9.o.block q h1
   have a5:Hid (Below w1.heap.size w1 w3.drew):=aB (aT a9.o 1);generalize w3.drew=W3 at *;refine aL 0 hZ ?_;refine aL 1 hZ ?_;refine tk 2 ?_ (fun wq hSw => ?_) hZ ?_;rotate_left
   · have f1:=(aQ (hSw (w.heap.size) b2 aA) 1).trans (b1 1);go_simp;try with_reducible rfl
   try simp only[p7]
   refine aL 3 hZ ?_;refine tk 4 ?_ (fun wq hSw => ?_) hZ ?_;rotate_left
   · have f2:=(aQ (hSw (bb) aA aA) oo).trans h6;go_simp;try with_reducible rfl
   try simp only[p7]
   refine aL 9 hZ ?_;refine tk 10 ?_ (fun wq hSw => ?_) hZ ?_;rotate_left
   · have f1:=(aQ (hSw (w.heap.size) b2 aA) 1).trans (b1 1);go_simp;try with_reducible rfl
   try simp only[p7]
   refine aL 11 hZ ?_;refine r1 5 fun K hK => ?_;go_simp;go_at_call 113
   refine (a3.o _ a5.o).mono ?_;rintro en w4 ⟨a6,A6,n6,c6,rfl,d0⟩;have a4:=bZ a5 a6;have l1:Hid (aY w4 A6 n6 c6 (aW sx.1)):=aB (by first | exact d0 rfl | exact d0 trivial | exact d0 i0.o);clear a6 d0;go_wp2_with fail;refine hK.o _ _ (by exact fun q h1 _=>a4.o.block q h1) fun hZ => ?_;clear hK K;try simp only[p7]
   refine aL 6 hZ ?_;refine aL 7 hZ ?_;refine r1 8 fun K hK => ?_;go_simp;go_at_call 76
   refine jW.mono ?_;rintro en wm ⟨rfl,rfl⟩;go_wp2_with fail;refine hK.o _ _ (by exact fun q h1 _=>a4.o.block q h1) fun hZ => ?_;clear hK K;try simp only[p7]
   refine r1 12 fun K hK => ?_;go_simp;go_at_call 112
   refine (s8.o _ a4.o sx.1 A6 n6 c6 l1.o (i7.o i0.o)).mono ?_;rintro en w5 ⟨b3,h5⟩;have a1:=bZ a4 b3;clear b3;rcases h5 with⟨f9,b5,A5,n5,c5,B5,m5,d5',rfl,b4⟩ | ⟨hn,rfl⟩;rotate_left
   · have HN:=aB hn;clear hn;go_wp2_with fail;exact⟨rfl,a0.o.trans (a1.o.mono a0.o.size),.inr ⟨by rw[c0.o];exact HN.o,rfl⟩⟩
   have g0:=aB b4;have g1:=aB b5;have e8:Hid (w1.heap.size<=wm.heap.size):=aB a4.o.size;have a2:=aB (i6.o.below a1.o i2);have z5:=a2.o.cell;have k9:=a2.o.frozen;clear b4 b5;go_wp2_with fail;refine hK.o _ _ (by exact fun q h1 _=>a1.o.block q h1) fun hZ => ?_;clear hK K;try simp only[p7]
   refine r1 13 fun K hK => ?_;go_simp;refine hK.o _ _ (by exact fun q h1 h2=>(Below.heap_setCell _ ⟨w.heap.size+1,1,X⟩ _ q h2).trans ((Below.heap_setCell _ ⟨w.heap.size+1,0,X⟩ _ q h2).trans (a1.o.block q h1))) fun hZ => ?_;clear hK K;try simp only[p7]
   refine wpAnyH_done aC ?_ _;go_wp2_with fail;refine bodyPost_ret (v:=.agg #[O A5 n5 c5,O B5 m5 d5']) (iC (g:=w.heap.size+1) (by have:=(a2.o.set_ 0 (O A5 n5 c5)).set_ 1 (O B5 m5 d5');simpa using this) aD) rfl (nK a0.o d3.o a1.o g0.o e8.o (by rw[c0.o];exact g1.o))
 by_cases o7:so=7
 · have h7:=c8.o.symm.trans o7;obtain⟨p,q,r,hk⟩:=lU a8.o.head.okt h7;obtain⟨e1,e2,j6,x4,y1,k7,s1,hq,v4⟩:=AB a8.o.head.rt h7 hk;have j1:(aW s.1).length=n:=HS.o.1.len;rw[j1] at s1;have k0:=HS.o.1.cap;have l2:Hid (res=if (cH r q).2=0 then gG (cH r q).1 s.2 else X):=aB (by rw[d4.o];unfold jD;rw[<-c8.o,if_neg o5,if_pos o7,dI (i:=2) (y:=r) (by rw[hk];rfl),dI (i:=1) (y:=q) (by rw[hk];rfl)]);have y7:Hid (bR b ((cv.length:Int)+1) r):=aB (by
    have:=a8.o.head.kid (i:=2) (y:=r) (by rw[hk];rfl)
    rwa [show aR s.1.1.op s.1.1.b ((2:Nat):Int)=1 from by rw[h7];simp[aR]] at this)
   have l6:Hid (bR b (cv.length:Int) q):=aB (a8.o.head.kid0 (i:=1) (by rw[hk];rfl) (by rw[h7];simp[aR]));have l7:=aB (fun (W:World) (hB:Below w1.heap.size w1 W)=>jM (HS.o.below hB).head 1);have y9:=aB (fun (W:World) (hB:Below w1.heap.size w1 W)=>jM (HS.o.below hB).head (e1:Int));rw[j6] at l7;rw[x4] at y9;obtain⟨Am,hm,v9⟩:=yX (Y ⟨bs,os,X⟩) n c e1 e2 k7 s1 k0;obtain⟨Af,B8,j5⟩:=kV (Y ⟨bs,os,X⟩) n c e2 s1;have HQ:=aB (fun (W:World) (hB:Below w1.heap.size w1 W)=>v9 _ _ _ (HS.o.below hB).head);have y3:=aB (fun (W:World) (hB:Below w1.heap.size w1 W)=>j5 _ _ _ (HS.o.below hB).head);rw[hq] at HQ;rw[v4] at y3;have a3:=aB (fun (W:World) (hB:Below w1.heap.size w1 W)=>BD aA (by have:=i8.o;omega) y7.o l6.o (y3.o W hB) (HQ.o W hB));have i7:=aB (fun h9=>(kF aA (by have:=i8.o;omega) y7.o l6.o).2.2 h9);have g2:Hid ((cH r q).2 ≠ 0->(cH r q).2=9):=aB pA;unfold QO at a3;generalize cH r q=sx at *;subst o7;clear j6 x4 y1 hq v4 v9 j5 hk h7 k0 j1 o5;go_wp2_with fail;refine (l7.o _ (Below.refl _ _)).mono ?_;rintro en w2 ⟨rfl,s0⟩;have z0:=aB s0;have z2:=fun i=>(s0.cell (p:=⟨w.heap.size,i,X⟩) b2).trans (b1 i);clear s0;go_wp2_with fail;refine (y9.o _ z0.o).mono ?_;rintro en w3 ⟨rfl,e7⟩;have a9:=bZ z0 e7;clear e7 z2;go_upto_region 9 with fail
   by_cases h0:sx.2=0;rotate_left
   · have i0:=aB h0;have s5:Hid (res=X):=aB (by rw[l2.o,if_neg h0]);rw[g2.o h0] at a3;clear h0;refine wp_region_held_drew (S:=(fun w'=>∀q,q<w1.heap.size->q ≠ w.heap.size+1->w'.heap[q]? = w1.heap[q]?)) aC ?_ (fun hZ => ?_)
     · (try dsimp only);exact fun q h1 _=>a9.o.block q h1
     have a5:Hid (Below w1.heap.size w1 w3.drew):=aB (aT a9.o 1);generalize w3.drew=W3 at *;refine aL 0 hZ ?_;refine tk 1 ?_ (fun wq hSw => ?_) hZ ?_;rotate_left
     · have f0:=(aQ (hSw (w.heap.size) b2 aA) 0).trans (b1 0);go_simp;try with_reducible rfl
     try simp only[p7]
     refine aL 2 hZ ?_;refine aL 3 hZ ?_;refine aL 4 hZ ?_;refine tk 5 ?_ (fun wq hSw => ?_) hZ ?_;rotate_left
     · have f0:=(aQ (hSw (w.heap.size) b2 aA) 0).trans (b1 0);go_simp;try with_reducible rfl
     try simp only[p7]
     refine aL 6 hZ ?_;refine aL 7 hZ ?_;refine aL 8 hZ ?_;refine aL 13 hZ ?_;refine tk 14 ?_ (fun wq hSw => ?_) hZ ?_;rotate_left
     · have f1:=(aQ (hSw (w.heap.size) b2 aA) 1).trans (b1 1);go_simp;try with_reducible rfl
     try simp only[p7]
     refine r1 9 fun K hK => ?_;go_simp;go_at_call 113
     refine (a3.o _ a5.o).mono ?_;rintro en w4 ⟨a6,A6,n6,c6,rfl,d0⟩;have a4:=bZ a5 a6;clear a6 d0;go_wp2_with fail;refine hK.o _ _ (by exact fun q h1 _=>a4.o.block q h1) fun hZ => ?_;clear hK K;try simp only[p7]
     refine aL 10 hZ ?_;refine aL 11 hZ ?_;refine r1 12 fun K hK => ?_;go_simp;go_at_call 76
     refine (mG aE).mono ?_;rintro en wm ⟨rfl,rfl⟩;go_wp2_with fail;exact⟨rfl,a0.o.trans (a4.o.mono a0.o.size),.inr ⟨s5.o,rfl⟩⟩
   have i0:=aB h0;have c0:Hid (res=gG sx.1 s.2):=aB (by rw[l2.o,if_pos h0]);rw[h0] at a3;clear h0;refine wp_region_held_drew (S:=(fun w'=>∀q,q<w1.heap.size->q ≠ w.heap.size+1->w'.heap[q]? = w1.heap[q]?)) aC ?_ (fun hZ => ?_)
   · (try dsimp only);exact fun q h1 _=>a9.o.block q h1
   have a5:Hid (Below w1.heap.size w1 w3.drew):=aB (aT a9.o 1);generalize w3.drew=W3 at *;refine aL 0 hZ ?_;refine tk 1 ?_ (fun wq hSw => ?_) hZ ?_;rotate_left
   · have f0:=(aQ (hSw (w.heap.size) b2 aA) 0).trans (b1 0);go_simp;try with_reducible rfl
   try simp only[p7]
   refine aL 2 hZ ?_;refine aL 3 hZ ?_;refine aL 4 hZ ?_;refine tk 5 ?_ (fun wq hSw => ?_) hZ ?_;rotate_left
   · have f0:=(aQ (hSw (w.heap.size) b2 aA) 0).trans (b1 0);go_simp;try with_reducible rfl
   try simp only[p7]
   refine aL 6 hZ ?_;refine aL 7 hZ ?_;refine aL 8 hZ ?_;refine aL 13 hZ ?_;refine tk 14 ?_ (fun wq hSw => ?_) hZ ?_;rotate_left
   · have f1:=(aQ (hSw (w.heap.size) b2 aA) 1).trans (b1 1);go_simp;try with_reducible rfl
   try simp only[p7]
   refine r1 9 fun K hK => ?_;go_simp;go_at_call 113
   refine (a3.o _ a5.o).mono ?_;rintro en w4 ⟨a6,A6,n6,c6,rfl,d0⟩;have a4:=bZ a5 a6;have l1:Hid (aY w4 A6 n6 c6 (aW sx.1)):=aB (by first | exact d0 rfl | exact d0 trivial | exact d0 i0.o);clear a6 d0;go_wp2_with fail;refine hK.o _ _ (by exact fun q h1 _=>a4.o.block q h1) fun hZ => ?_;clear hK K;try simp only[p7]
   refine aL 10 hZ ?_;refine aL 11 hZ ?_;refine r1 12 fun K hK => ?_;go_simp;go_at_call 76
   refine jW.mono ?_;rintro en wm ⟨rfl,rfl⟩;go_wp2_with fail;refine hK.o _ _ (by exact fun q h1 _=>a4.o.block q h1) fun hZ => ?_;clear hK K;try simp only[p7]
   refine r1 15 fun K hK => ?_;go_simp;go_at_call 112
   refine (p4.o _ a4.o sx.1 A6 n6 c6 l1.o (i7.o i0.o)).mono ?_;rintro en w5 ⟨b3,h5⟩;have a1:=bZ a4 b3;clear b3;rcases h5 with⟨f9,b5,A5,n5,c5,B5,m5,d5',rfl,b4⟩ | ⟨hn,rfl⟩;rotate_left
   · have HN:=aB hn;clear hn;go_wp2_with fail;exact⟨rfl,a0.o.trans (a1.o.mono a0.o.size),.inr ⟨by rw[c0.o];exact HN.o,rfl⟩⟩
   have g0:=aB b4;have g1:=aB b5;have e8:Hid (w1.heap.size<=wm.heap.size):=aB a4.o.size;have a2:=aB (i6.o.below a1.o i2);have z5:=a2.o.cell;have k9:=a2.o.frozen;clear b4 b5;go_wp2_with fail;refine hK.o _ _ (by exact fun q h1 _=>a1.o.block q h1) fun hZ => ?_;clear hK K;try simp only[p7]
   refine r1 16 fun K hK => ?_;go_simp;refine hK.o _ _ (by exact fun q h1 h2=>(Below.heap_setCell _ ⟨w.heap.size+1,1,X⟩ _ q h2).trans ((Below.heap_setCell _ ⟨w.heap.size+1,0,X⟩ _ q h2).trans (a1.o.block q h1))) fun hZ => ?_;clear hK K;try simp only[p7]
   refine wpAnyH_done aC ?_ _;go_wp2_with fail;refine bodyPost_ret (v:=.agg #[O A5 n5 c5,O B5 m5 d5']) (iC (g:=w.heap.size+1) (by have:=(a2.o.set_ 0 (O A5 n5 c5)).set_ 1 (O B5 m5 d5');simpa using this) aD) rfl (nK a0.o d3.o a1.o g0.o e8.o (by rw[c0.o];exact g1.o))
 by_cases o1:so=1
 · have h1:=c8.o.symm.trans o1;obtain⟨va0,va1,va2⟩:=qI a8.o.head h1;rw[<-g6.o] at va0 va1 va2;have t7:0<(jG cv sa).length:=by
    have h9:=p3.o;unfold bW at h9;rw[<-c8.o,if_neg o5,if_neg aA,if_pos o1,<-g6.o] at h9;exact of_decide_eq_true h9
   obtain⟨y,t6,t5,z4,t4,t3⟩:=sZ HC.o va0 va1 t7;have c0:Hid (res=gG (i5 y (sa+1)) s.2):=aB (by rw[d4.o];unfold jD;rw[<-c8.o,if_neg o5,if_neg o7,if_pos o1,<-g6.o,t5]);obtain⟨ia,d9⟩ : ∃ia:Nat,sa=(ia:Int):=⟨sa.toNat,by omega⟩;have hcl:=l0.o.ctx.len;have E2:=l0.o.ctx.few;obtain⟨bc,oc,ec,k5,w7⟩:=l0.o.ctx.mem aA;obtain⟨ik,x0⟩ : ∃ik,ik=cn-1-ia:=⟨_,rfl⟩;obtain⟨A1,n1,c1,A2,n2,c2,k1,k2,kt⟩:=w7 ik aA;have t8:cv.getD ik []=aW y:=by
    rw[<-t6];unfold jG;rw[hcl,d9,show ((ia:Int)).toNat=ia from by omega,<-x0]
   rw[t8] at kt;have r9:bc<w.heap.size:=k5.1;have k21:=(a0.o.cell (p:=⟨bc,oc+ik*2+1,X⟩) r9).trans k2;have D3:=aB (fun (W:World) (hB:Below w1.heap.size w1 W)=>(bJ.keep kt (R':=(· < W.heap.size)) (w':=W) fun q hq=>⟨by have:=a0.o.size;have:=hB.size;omega,fun o=>((a0.o.trans (hB.mono a0.o.size))).cell (p:=⟨q,o,X⟩) hq.1⟩));have t0:=aB (fun (W:World) (hB:Below w1.heap.size w1 W)=>wU (D3.o W hB) (sa+1) 0 aA);rw[t3] at t0;have l4:Hid (bR b (cv.length:Int) (i5 y (sa+1))):=aB t4;have w1':IntKind.i64.wrap ((cn:Int)-1)=(cn:Int)-1:=by rw[IntKind.wrap_i64];omega
   have w2':IntKind.i64.wrap ((cn:Int)-1-(ia:Int))=(ik:Int):=by rw[IntKind.wrap_i64];omega
   have w3':IntKind.i64.wrap ((ia:Int)+1)=(ia:Int)+1:=by rw[IntKind.wrap_i64];omega
   have B2:(ik:Int)<(cn:Int):=aA;have B0:(0:Int)<=(ik:Int):=aA;have x3:w1.cell? ⟨g,5,X⟩=Y (O (Y ⟨bc,oc,X⟩) cn cc):=by rw[zg,ec];rfl
   rw[d9] at t0 l4 c0;rw[d9] at g7;generalize i5 y ((ia:Int)+1)=yu at *;subst o1;clear t8 w7 kt va0 va1 va2 x0 t7 t6 t5 z4 t4 t3 h1 k5 k1 k2 o5 o7;go_upto_region 11 with fail
   refine wp_region_held_drew (S:=(fun w'=>∀q,q<w1.heap.size->q ≠ w.heap.size+1->w'.heap[q]? = w1.heap[q]?)) aC ?_ (fun hZ => ?_)
   · (try dsimp only);exact fun q _ _=>rfl
   have c9:Hid (Below w1.heap.size w1 w1.drew):=aB (aT (Below.refl _ _) 1);generalize w1.drew=W1 at *;refine aL 0 hZ ?_;refine aL 1 hZ ?_;refine aL 2 hZ ?_;refine tk 3 ?_ (fun wq hSw => ?_) hZ ?_;rotate_left
   · have f3:=(aQ (hSw (g) o3 aA) 5).trans x3;go_simp;try with_reducible rfl
   try simp only[p7]
   refine aL 4 hZ ?_;refine aL 5 hZ ?_;refine aL 6 hZ ?_;refine tk 7 ?_ (fun wq hSw => ?_) hZ ?_;rotate_left
   · have f3:=(aQ (hSw (g) o3 aA) 5).trans x3;go_simp;try with_reducible rfl
   try simp only[p7]
   refine aL 8 hZ ?_;refine aL 9 hZ ?_;refine aL 10 hZ ?_;refine tk 11 ?_ (fun wq hSw => ?_) hZ ?_;rotate_left
   · have f4:=(aQ (hSw ((w.heap.size+2)) n8 aA) 1).trans (g7 1);go_simp;try with_reducible rfl
   try simp only[p7]
   refine aL 12 hZ ?_;refine aL 13 hZ ?_;refine aL 14 hZ ?_;refine tk 15 ?_ (fun wq hSw => ?_) hZ ?_;rotate_left
   · have f5:=(aQ (hSw (bc) aA aA) (oc+ik*2+1)).trans k21;go_simp;try with_reducible rfl
   try simp only[p7]
   refine aL 16 hZ ?_;refine tk 17 ?_ (fun wq hSw => ?_) hZ ?_;rotate_left
   · have f4:=(aQ (hSw ((w.heap.size+2)) n8 aA) 1).trans (g7 1);go_simp;try with_reducible rfl
   try simp only[p7]
   refine aL 18 hZ ?_;refine aL 23 hZ ?_;refine tk 24 ?_ (fun wq hSw => ?_) hZ ?_;rotate_left
   · have f1:=(aQ (hSw (w.heap.size) b2 aA) 1).trans (b1 1);go_simp;try with_reducible rfl
   try simp only[p7]
   refine r1 19 fun K hK => ?_;go_simp;go_at_call 114
   refine (t0.o _ c9.o).mono ?_;rintro en w4 ⟨a6,A6,n6,c6,rfl,v6⟩;have a4:=bZ c9 a6;have l1:Hid (aY w4 A6 n6 c6 (aW yu)):=aB (lA v6 (by have:=l4.o.few;have h9:(aW yu).length=bI yu:=rfl;first | omega | (simp only;omega)));clear a6 v6;go_wp2_with fail;refine hK.o _ _ (by exact fun q h1 _=>a4.o.block q h1) fun hZ => ?_;clear hK K;try simp only[p7]
   refine aL 20 hZ ?_;refine aL 21 hZ ?_;refine r1 22 fun K hK => ?_;go_simp;go_at_call 76
   refine jW.mono ?_;rintro en wm ⟨rfl,rfl⟩;go_wp2_with fail;refine hK.o _ _ (by exact fun q h1 _=>a4.o.block q h1) fun hZ => ?_;clear hK K;try simp only[p7]
   refine r1 25 fun K hK => ?_;go_simp;go_at_call 112
   refine (p4.o _ a4.o yu A6 n6 c6 l1.o l4.o).mono ?_;rintro en w5 ⟨b3,h5⟩;have a1:=bZ a4 b3;clear b3;rcases h5 with⟨f9,b5,A5,n5,c5,B5,m5,d5',rfl,b4⟩ | ⟨hn,rfl⟩;rotate_left
   · have HN:=aB hn;clear hn;go_wp2_with fail;exact⟨rfl,a0.o.trans (a1.o.mono a0.o.size),.inr ⟨by rw[c0.o];exact HN.o,rfl⟩⟩
   have g0:=aB b4;have g1:=aB b5;have e8:Hid (w1.heap.size<=wm.heap.size):=aB a4.o.size;have a2:=aB (i6.o.below a1.o i2);have z5:=a2.o.cell;have k9:=a2.o.frozen;clear b4 b5;go_wp2_with fail;refine hK.o _ _ (by exact fun q h1 _=>a1.o.block q h1) fun hZ => ?_;clear hK K;try simp only[p7]
   refine r1 26 fun K hK => ?_;go_simp;refine hK.o _ _ (by exact fun q h1 h2=>(Below.heap_setCell _ ⟨w.heap.size+1,1,X⟩ _ q h2).trans ((Below.heap_setCell _ ⟨w.heap.size+1,0,X⟩ _ q h2).trans (a1.o.block q h1))) fun hZ => ?_;clear hK K;try simp only[p7]
   refine wpAnyH_done aC ?_ _;go_wp2_with fail;refine bodyPost_ret (v:=.agg #[O A5 n5 c5,O B5 m5 d5']) (iC (g:=w.heap.size+1) (by have:=(a2.o.set_ 0 (O A5 n5 c5)).set_ 1 (O B5 m5 d5');simpa using this) aD) rfl (nK a0.o d3.o a1.o g0.o e8.o (by rw[c0.o];exact g1.o))
 by_cases o8:so=8
 · have h8:=c8.o.symm.trans o8;obtain⟨ca0,ca1,cbe,cbf⟩:=lO HR.o aA a8.o.head h8;rw[<-g6.o] at ca0 ca1 cbe cbf;have c0:Hid (res=gG (cP (bK b sa).body) s.2):=aB (by rw[d4.o];unfold jD;rw[<-c8.o,if_neg o5,if_neg o7,if_neg o1,if_pos o8,<-g6.o]);obtain⟨ia,d9⟩ : ∃ia:Nat,sa=(ia:Int):=⟨sa.toNat,by omega⟩;have r5:=p5.o.entries.len;have n9:ia<v.ne:=aA;have q9:(ia:Int)<(v.ne:Int):=aA;have q8:(0:Int)<=(ia:Int):=aA;obtain⟨be,oe,ea,j2,u,e0,e1,e2,e3,e4,e5,e6,h4⟩:=p5.o.entries.at_ n9;have hx:b.entries.getD ia default=bK b sa:=by rw[d9];rfl
   rw[hx] at h4;have b0:=l0.o.bel;have r6:be<w.heap.size:=Nat.lt_of_lt_of_le j2 b0.size;have b8:=b0.trans (a0.o.mono b0.size);have x6:=(b8.cell (p:=⟨be,oe+ia*7+6,X⟩) j2).trans e6;have r8:=h4.body;rw[cbe] at r8;have D7:=aB (fun (W:World) (hB:Below w1.heap.size w1 W)=>r8.below (b8.trans (hB.mono b8.size)));have l4:=aB cbf;have r3:w1.cell? ⟨g,2,X⟩=Y (O (Y ⟨be,oe,X⟩) v.ne v.ce):=by rw[zg,ea];rfl
   rw[d9] at g7;generalize cP (bK b sa).body=yu at *;subst o8;clear e0 e1 e2 e3 e4 e5 e6 h4 hx b0 b8 r8 cbf cbe ca0 ca1 h8 o5 o7 o1 r5 n9 d9;go_upto_region 13 with fail
   refine wp_region_held_drew (S:=(fun w'=>∀q,q<w1.heap.size->q ≠ w.heap.size+1->w'.heap[q]? = w1.heap[q]?)) aC ?_ (fun hZ => ?_)
   · (try dsimp only);exact fun q _ _=>rfl
   have c9:Hid (Below w1.heap.size w1 w1.drew):=aB (aT (Below.refl _ _) 1);generalize w1.drew=W1 at *;refine aL 0 hZ ?_;refine aL 1 hZ ?_;refine aL 2 hZ ?_;refine aL 3 hZ ?_;refine tk 4 ?_ (fun wq hSw => ?_) hZ ?_;rotate_left
   · have f3:=(aQ (hSw (g) o3 aA) 2).trans r3;go_simp;try with_reducible rfl
   try simp only[p7]
   refine aL 5 hZ ?_;refine tk 6 ?_ (fun wq hSw => ?_) hZ ?_;rotate_left
   · have f4:=(aQ (hSw ((w.heap.size+2)) n8 aA) 1).trans (g7 1);go_simp;try with_reducible rfl
   try simp only[p7]
   refine aL 7 hZ ?_;refine aL 8 hZ ?_;refine tk 9 ?_ (fun wq hSw => ?_) hZ ?_;rotate_left
   · have f5:=(aQ (hSw (be) aA aA) (oe+ia*7+6)).trans x6;go_simp;try with_reducible rfl
   try simp only[p7]
   refine aL 10 hZ ?_;refine tk 11 ?_ (fun wq hSw => ?_) hZ ?_;rotate_left
   · have f1:=(aQ (hSw (w.heap.size) b2 aA) 1).trans (b1 1);go_simp;try with_reducible rfl
   try simp only[p7]
   refine r1 12 fun K hK => ?_;go_simp;go_at_call 112
   refine (p4.o _ c9.o yu u.Ab u.nb u.cb (D7.o _ c9.o) l4.o).mono ?_;rintro en w5 ⟨b3,h5⟩;have a1:=bZ c9 b3;clear b3;rcases h5 with⟨f9,b5,A5,n5,c5,B5,m5,d5',rfl,b4⟩ | ⟨hn,rfl⟩;rotate_left
   · have HN:=aB hn;clear hn;go_wp2_with fail;exact⟨rfl,a0.o.trans (a1.o.mono a0.o.size),.inr ⟨by rw[c0.o];exact HN.o,rfl⟩⟩
   have g0:=aB b4;have g1:=aB b5;have e8:Hid (w1.heap.size<=W1.heap.size):=aB c9.o.size;have a2:=aB (i6.o.below a1.o i2);have z5:=a2.o.cell;have k9:=a2.o.frozen;clear b4 b5;go_wp2_with fail;refine hK.o _ _ (by exact fun q h1 _=>a1.o.block q h1) fun hZ => ?_;clear hK K;try simp only[p7]
   refine r1 13 fun K hK => ?_;go_simp;refine hK.o _ _ (by exact fun q h1 h2=>(Below.heap_setCell _ ⟨w.heap.size+1,1,X⟩ _ q h2).trans ((Below.heap_setCell _ ⟨w.heap.size+1,0,X⟩ _ q h2).trans (a1.o.block q h1))) fun hZ => ?_;clear hK K;try simp only[p7]
   refine wpAnyH_done aC ?_ _;go_wp2_with fail;refine bodyPost_ret (v:=.agg #[O A5 n5 c5,O B5 m5 d5']) (iC (g:=w.heap.size+1) (by have:=(a2.o.set_ 0 (O A5 n5 c5)).set_ 1 (O B5 m5 d5');simpa using this) aD) rfl (nK a0.o d3.o a1.o g0.o e8.o (by rw[c0.o];exact g1.o))
 by_cases o11:so=11
 · have k8:=c8.o.symm.trans o11;obtain⟨u0,q0,br,hk,C3⟩:=eK a8.o.head.okt k8;obtain⟨na0,na1,nb0,nb1⟩:=kM a8.o.head k8;rw[<-g6.o] at na0 na1;have r4:eS b s.1.1 (bU (eQ s.1 1))=true:=by
    have h9:=p3.o;unfold bW at h9
    rwa [<-c8.o,if_neg o5,if_neg aA,if_neg o1,if_pos o11] at h9
   have q2:bR b (cv.length:Int) (eQ s.1 1):=by
    rw[dI (i:=1) (by rw[hk];rfl)];exact a8.o.head.kid0 (i:=1) (by rw[hk];rfl) (eI (.inr (.inr k8)))
   unfold eS at r4;simp only[Bool.and_eq_true,beq_iff_eq,decide_eq_true_eq] at r4;obtain⟨m1,m2,m3,m4⟩:=r4;have n0:=kI q2;have j9:=yV n0.head.okt m1;have j3:=a8.o.head.kid0 (kY (x:=s.1) (i:=2+(bU (eQ s.1 1)).1.1.b.toNat) (by rw[hk];simp only[List.length_cons];omega)) (eI (.inr (.inr k8)));obtain⟨hd,o2⟩ : ∃x,x=bU (eQ s.1 1):=⟨_,rfl⟩;have x9:=aB o2;rw[<-o2] at m1 m2 m3 m4 n0 j9 j3;obtain⟨ib,o0⟩ : ∃ib:Nat,hd.1.1.b=(ib:Int):=⟨hd.1.1.b.toNat,by omega⟩;obtain⟨ia,d9⟩ : ∃ia:Nat,sa=(ia:Int):=⟨sa.toNat,by omega⟩;rw[o0,Int.toNat_natCast] at j3;obtain⟨jb,q7⟩ : ∃jb,jb=2+ib:=⟨_,rfl⟩;rw[<-q7] at j3;have j4:jb<(cI s.1.2.2).length:=by rw[hk];simp only[List.length_cons];omega
   rw[<-g6.o] at m4;have r5:=p5.o.entries.len;have n9:ia<v.ne:=aA;have q9:(ia:Int)<(v.ne:Int):=aA;have q8:(0:Int)<=(ia:Int):=aA;obtain⟨be,oe,ea,j2,u,e0,e1,e2,e3,e4,e5,e6,h4⟩:=p5.o.entries.at_ n9;have hx:b.entries.getD ia default=bK b sa:=by rw[d9];rfl
   rw[hx] at h4;have b0:=l0.o.bel;have r6:be<w.heap.size:=Nat.lt_of_lt_of_le j2 b0.size;have b8:=b0.trans (a0.o.mono b0.size);have x2:=(b8.cell (p:=⟨be,oe+ia*7+2,X⟩) j2).trans e2;have q3:(bK b sa).params.length=u.np:=h4.params.len;have r3:w1.cell? ⟨g,2,X⟩=Y (O (Y ⟨be,oe,X⟩) v.ne v.ce):=by rw[zg,ea];rfl
   have c0:Hid (res=gG (eQ s.1 jb) (hd.2.drop u.np++s.2)):=aB (by
    rw[d4.o];unfold jD;rw[<-c8.o,if_neg o5,if_neg o7,if_neg o1,if_neg o8,if_pos o11,<-o2,o0,Int.toNat_natCast,<-q7,<-g6.o,q3])
   have v7:u.np<=hd.2.length:=by rw[q3] at m4;omega
   have g9:=fun (W:World) (hB:Below w1.heap.size w1 W)=>kZ (HS.o.below hB).head a8.o.head.rt.shape;rw[qF a8.o.head] at g9;have HK:=aB g9;have y6:Hid (1<(cI s.1.2.2).length):=aB (by rw[hk];simp);have y5:=aB j4;have s7:=aB q2;have i7:=aB n0;have D4:=aB j3;have y4:=aB v7;have D5:=aB o0;have B3:ib<=100000:=by have:=CB a8.o.head;omega
   have w4':IntKind.i64.wrap (2+(ib:Int))=(jb:Int):=by rw[IntKind.wrap_i64];omega
   rw[d9] at g7;subst o11;clear g9 hk q2 n0 j3 o2 m1 m2 m3 m4 j9 C3 h4 hx e0 e1 e2 e3 e4 e5 e6 b0 b8 r5 na0 na1 nb0 nb1 o0 q7 j4 v7 k8 o5 o7 o1 o8 q3 d9;go_wp2_with fail;refine (HK.o _ (Below.refl _ _)).mono ?_;rintro en w3 ⟨e7,A3,n3,c3,xs3,rfl,q4,q1⟩;obtain⟨A8,gk,A4,n4,c4,rfl,x1,B7,o6,i1⟩:=pU q4 q1 y6.o;obtain⟨q5,gk',A7,n7,c7,i4,_,_,x5,t9⟩:=pU q4 q1 y5.o;have s2:gk'=gk:=by injection i4 with i4;injection i4 with i4;exact i4.symm
   subst s2;have A0:(1:Int)<(n3:Int):=by have:=y6.o;omega
   have z9:(jb:Int)<(n3:Int):=by have:=y5.o;omega
   have a9:=aB e7;have s4:Hid (aY w3 A4 n4 c4 (aW (eQ s.1 1))):=aB (bJ.keep i1 (R':=(· < w3.heap.size)) (w':=w3) fun q hq=>⟨hq.2.1,fun _=>rfl⟩);have C7:Hid (aY w3 A7 n7 c7 (aW (eQ s.1 jb))):=aB (bJ.keep t9 (R':=(· < w3.heap.size)) (w':=w3) fun q hq=>⟨hq.2.1,fun _=>rfl⟩);clear e7 q4 q1 A8 q5 i1 t9 i4;go_wp2_with fail;refine (fP s4.o s7.o).mono ?_;rintro en w4 ⟨a6,A6,n6,c6,B6,m6,d6,rfl,i3⟩;rw[<-x9.o] at i3;have q6:m6=hd.2.length:=i3.len.2;have A9:m6<=4096:=by rw[q6];exact eH.argsLen i7.o (by have:=dJ s7.o;rw[<-x9.o] at this;rw[this];exact s7.o.few)
   have C0:m6<=d6:=by obtain⟨_,xs6,h9,_⟩:=i3;exact tZ h9
   have o4:=i3.read (g:=w.heap.size) (by have:=a9.o.size;omega) aA;obtain⟨bs6,os6,rfl,z8,k4,p0,p1,p2⟩:=o4.node;rw[D5.o] at p2;obtain⟨B9,C1,g4,g5⟩:=wJ B6 m6 d6 u.np (by rw[q6];exact y4.o) C0 o4.2.2;obtain⟨wb,m9⟩ : ∃wb:World,wb=w4.alloc (.cells #[O (Y ⟨bs6,os6,X⟩) n6 c6,O B6 m6 d6] 78):=⟨_,rfl⟩;have d2:Below w4.heap.size w4 wb:=by rw[m9];exact aP _ _
   have b6:Below w1.heap.size w1 wb:=(a9.o.trans (a6.mono a9.o.size)).trans (d2.mono (Nat.le_trans a9.o.size a6.size));have g3:Below w3.heap.size w3 wb:=a6.trans (d2.mono a6.size);have zq:aS wb w4.heap.size 78 #[O (Y ⟨bs6,os6,X⟩) n6 c6,O B6 m6 d6]:=by rw[m9];exact aS.new _ _ _
   have t2:=zq.cell;have v5:w4.heap.size<wb.heap.size:=zq.lt;have r0:gk'<wb.heap.size:=Nat.lt_of_lt_of_le x1 g3.size;have r7:=(g3.cell (p:=⟨gk',jb,X⟩) x1).trans x5;have rp2:=(d2.cell (p:=⟨bs6,os6+2,X⟩) k4).trans p2;have k3:bs6<wb.heap.size:=Nat.lt_of_lt_of_le k4 d2.size;have z1:=fun i=>(b6.cell (p:=⟨w.heap.size,i,X⟩) b2).trans (b1 i);have z3:=fun i=>(b6.cell (p:=⟨w.heap.size+2,i,X⟩) n8).trans (g7 i);have r2:=(b6.cell (p:=⟨g,2,X⟩) o3).trans r3;have x2b:=(b6.cell (p:=⟨be,oe+ia*7+2,X⟩) (by show be<w1.heap.size;omega)).trans x2;have m7:=aB (fun (W:World) (hB:Below wb.heap.size wb W)=>g4 _ _ _ ((o4.below d2).below hB).args);have m8:=aB (fun (W:World) (hB:Below wb.heap.size wb W)=>((HS.o.below b6).below hB).args);have s3:=aB (fun (W:World) (hB:Below wb.heap.size wb W)=>(C7.o.below g3).below hB);have l3:=aB g5;have s9:=aB HS.o.2.2;have m0:=aB b6;have j0:=b6.size;have z7:=a6.size;have z6:(u.np:Int)<=(m6:Int):=by have:=y4.o;omega
   have B4:w.heap.size+1<gk':=aA;have x7:bs6 ≠ w.heap.size+1:=by
    obtain⟨h9,_⟩:=i3;obtain⟨b9,o9,e9,x8,_⟩:=h9.mem z8;injection e9 with e9;injection e9 with e9;have:=x8.1;have:=x8.2.1;omega
   have l5:Hid (∀a ∈ hd.2.drop u.np++s.2,bR b (cv.length:Int) a):=aB (fun a ha=>by
    rcases List.mem_append.1 ha with ha | ha
    · exact i7.o.args a (List.mem_of_mem_drop ha)
    exact a8.o.args a ha)
   clear a6 i3 o4 g4 g5 o6 x5 d2 b6 g3 zq p0 p1 p2 q6;go_upto_region 17 with fail
   rw[<-m9];clear m9;refine wp_region_held_drew (S:=(fun w'=>∀q,q<wb.heap.size->q ≠ w.heap.size+1->w'.heap[q]? = wb.heap[q]?)) aC ?_ (fun hZ => ?_)
   · (try dsimp only);exact fun q _ _=>rfl
   have l8:Hid (Below wb.heap.size wb wb.drew):=aB (aT (Below.refl _ _) 1);have c9:Hid (Below w1.heap.size w1 wb.drew):=aB (m0.o.trans (l8.o.mono j0));generalize wb.drew=W1 at *;refine aL 0 hZ ?_;refine aL 1 hZ ?_;refine tk 2 ?_ (fun wq hSw => ?_) hZ ?_;rotate_left
   · have f1:=(aQ (hSw (w4.heap.size) v5 aA) 0).trans (t2 0);go_simp;try with_reducible rfl
   try simp only[p7]
   refine aL 3 hZ ?_;refine aL 4 hZ ?_;refine tk 5 ?_ (fun wq hSw => ?_) hZ ?_;rotate_left
   · have f2:=(aQ (hSw (bs6) k3 aA) (os6+2)).trans rp2;go_simp;try with_reducible rfl
   try simp only[p7]
   refine aL 6 hZ ?_;refine aL 7 hZ ?_;refine tk 8 ?_ (fun wq hSw => ?_) hZ ?_;rotate_left
   · have f3:=(aQ (hSw (gk') r0 aA) jb).trans r7;go_simp;try with_reducible rfl
   try simp only[p7]
   refine aL 9 hZ ?_;refine tk 10 ?_ (fun wq hSw => ?_) hZ ?_;rotate_left
   · have f4:=(aQ (hSw (w4.heap.size) v5 aA) 1).trans (t2 1);go_simp;try with_reducible rfl
   try simp only[p7]
   refine aL 11 hZ ?_;refine aL 12 hZ ?_;refine aL 13 hZ ?_;refine aL 14 hZ ?_;refine tk 15 ?_ (fun wq hSw => ?_) hZ ?_;rotate_left
   · have f5:=(aQ (hSw (g) aA aA) 2).trans r2;go_simp;try with_reducible rfl
   try simp only[p7]
   refine aL 16 hZ ?_;refine tk 17 ?_ (fun wq hSw => ?_) hZ ?_;rotate_left
   · have f6:=(aQ (hSw ((w.heap.size+2)) aA aA) 1).trans (z3 1);go_simp;try with_reducible rfl
   try simp only[p7]
   refine aL 18 hZ ?_;refine aL 19 hZ ?_;refine tk 20 ?_ (fun wq hSw => ?_) hZ ?_;rotate_left
   · have f7:=(aQ (hSw (be) aA aA) (oe+ia*7+2)).trans x2b;go_simp;try with_reducible rfl
   try simp only[p7]
   refine aL 21 hZ ?_;refine aL 22 hZ ?_;refine aL 23 hZ ?_;refine tk 24 ?_ (fun wq hSw => ?_) hZ ?_;rotate_left
   · have f8:=(aQ (hSw (w.heap.size) aA aA) 1).trans (z1 1);go_simp;try with_reducible rfl
   try simp only[p7]
   refine r1 25 fun K hK => ?_;go_simp;refine hK.o _ _ (by exact fun q h1 _=>(l8.o.alloc l8.o.size _).block q h1) fun hZ => ?_;clear hK K;try simp only[p7]
   have D6:Hid (aS (W1.alloc (.cells #[O B9 (m6-u.np) (d6-u.np),O B m d] 47)) W1.heap.size 47 #[O B9 (m6-u.np) (d6-u.np),O B m d]):=aB (aS.new _ _ _);have t1:=aB (l8.o.alloc l8.o.size (.cells #[O B9 (m6-u.np) (d6-u.np),O B m d] 47));refine r1 26 fun K hK => ?_;go_simp;go_at_call 115
   refine (BA D6.o (m7.o _ t1.o) (m8.o _ t1.o) l3.o s9.o aA).mono ?_;rintro en wc ⟨k5,Ac,nc,cc',rfl,v2,v8⟩;have p6:=bZ t1 k5;have l9:=aB (m0.o.trans (p6.o.mono j0));have D0:=aB v2;have D1:=aB v8;clear k5 v2 v8;go_wp2_with fail;refine hK.o _ _ (by exact fun q h1 _=>p6.o.block q h1) fun hZ => ?_;clear hK K;try simp only[p7]
   refine r1 27 fun K hK => ?_;go_simp;go_at_call 112
   refine (qN (L:=hd.2.drop u.np++s.2) (s3.o _ p6.o) D4.o (by rw[List.map_append,List.map_drop];exact D0.o) l5.o D1.o).mono ?_;rintro en w5 ⟨b3,h5⟩;have a1:=bZ l9 b3;have y2:=bZ p6 b3;clear b3;rcases h5 with⟨f9,b5,A5,n5,c5,B5,m5,d5',rfl,b4⟩ | ⟨hn,rfl⟩;rotate_left
   · have HN:=aB hn;clear hn;go_wp2_with fail;exact⟨rfl,a0.o.trans (a1.o.mono a0.o.size),.inr ⟨by rw[c0.o];exact HN.o,rfl⟩⟩
   have g0:=aB b4;have g1:=aB b5;have e8:Hid (w1.heap.size<=wc.heap.size):=aB l9.o.size;have a2:=aB (i6.o.below a1.o i2);have z5:=a2.o.cell;have k9:=a2.o.frozen;clear b4 b5;go_wp2_with fail;refine hK.o _ _ (by exact fun q h1 _=>y2.o.block q h1) fun hZ => ?_;clear hK K;try simp only[p7]
   refine r1 28 fun K hK => ?_;go_simp;refine hK.o _ _ (by exact fun q h1 h2=>(Below.heap_setCell _ ⟨w.heap.size+1,1,X⟩ _ q h2).trans ((Below.heap_setCell _ ⟨w.heap.size+1,0,X⟩ _ q h2).trans (y2.o.block q h1))) fun hZ => ?_;clear hK K;try simp only[p7]
   refine wpAnyH_done aC ?_ _;go_wp2_with fail;refine bodyPost_ret (v:=.agg #[O A5 n5 c5,O B5 m5 d5']) (iC (g:=w.heap.size+1) (by have:=(a2.o.set_ 0 (O A5 n5 c5)).set_ 1 (O B5 m5 d5');simpa using this) aD) rfl (nK a0.o d3.o a1.o g0.o e8.o (by rw[c0.o];exact g1.o))
 have o12:so=12:=by
  have h9:=p3.o;unfold bW at h9;rw[<-c8.o,if_neg o5,if_neg aA,if_neg o1,if_neg o11] at h9;by_cases h:so=12
  · exact h
  rw[if_neg h] at h9;cases h9
 have k7:=c8.o.symm.trans o12;have v3:res=match qH s.1 with
  | none=>X
  | some y=>gG y s.2:=by rw[d4.o];unfold jD;rw[<-c8.o,if_neg o5,if_neg o7,if_neg o1,if_neg o8,if_neg o11];cases qH s.1<;>rfl
 have s6:=aB v3;have C5:=aB (fun (W:World) (hB:Below w1.heap.size w1 W)=>vL aA i8.o ((HS.o.below hB).head) a8.o.head k7);have C6:=aB (fun (y:TT) (hy:qH s.1=Y y)=>vA a8.o.head k7 aA i8.o hy);have d5:(so==5)=false:=by simpa using o5
 have d7:(so==7)=false:=by simpa using o7
 have d1:(so==1)=false:=by simpa using o1
 have d8:(so==8)=false:=by simpa using o8
 have d11:(so==11)=false:=by simpa using o11
 clear o5 o7 o1 o8 o11 o12 v3 k7;go_upto_region 18 with fail
 refine wp_region_held_drew (S:=(fun w'=>∀q,q<w1.heap.size->q ≠ w.heap.size+1->w'.heap[q]? = w1.heap[q]?)) aC ?_ (fun hZ => ?_)
 · (try dsimp only);exact fun q _ _=>rfl
 have c9:Hid (Below w1.heap.size w1 w1.drew):=aB (aT (Below.refl _ _) 1);generalize w1.drew=W1 at *;refine aL 0 hZ ?_;refine tk 1 ?_ (fun wq hSw => ?_) hZ ?_;rotate_left
 · have f0:=(aQ (hSw (w.heap.size) b2 aA) 0).trans (b1 0);go_simp;try with_reducible rfl
 try simp only[p7]
 refine aL 3 hZ ?_;refine tk 4 ?_ (fun wq hSw => ?_) hZ ?_;rotate_left
 · have f1:=(aQ (hSw (w.heap.size) b2 aA) 1).trans (b1 1);go_simp;try with_reducible rfl
 try simp only[p7]
 refine r1 2 fun K hK => ?_;go_simp;go_at_call 116
 refine (C5.o _ c9.o).mono ?_;rintro en w3 ⟨e7,h3⟩;have a9:=bZ c9 e7;clear e7;rcases h3 with⟨y,hy,A3,n3,c3,rfl,v0⟩ | ⟨hn,rfl⟩;rotate_left
 · have HN:=aB hn;clear hn;go_wp2_with fail;exact⟨rfl,a0.o.trans (a9.o.mono a0.o.size),.inr ⟨by rw[s6.o,HN.o],rfl⟩⟩
 have C8:Hid (aY w3 A3 n3 c3 (aW y)):=aB (bJ.keep v0 (R':=(· < w3.heap.size)) (w':=w3) fun q hq=>⟨hq.2,fun _=>rfl⟩);have HY:=aB hy;clear v0 hy;go_wp2_with fail;refine hK.o _ _ (by exact fun q h1 _=>a9.o.block q h1) fun hZ => ?_;clear hK K;try simp only[p7]
 refine r1 5 fun K hK => ?_;go_simp;go_at_call 112
 refine (p4.o _ a9.o y A3 n3 c3 C8.o (C6.o y HY.o)).mono ?_;rintro en w5 ⟨b3,h5⟩;have a1:=bZ a9 b3;clear b3;rcases h5 with⟨f9,b5,A5,n5,c5,B5,m5,d5',rfl,b4⟩ | ⟨hn,rfl⟩;rotate_left
 · have HN:=aB hn;clear hn;go_wp2_with fail;exact⟨rfl,a0.o.trans (a1.o.mono a0.o.size),.inr ⟨by rw[s6.o,HY.o];exact HN.o,rfl⟩⟩
 have g0:=aB b4;have g1:=aB b5;have e8:Hid (w1.heap.size<=w3.heap.size):=aB a9.o.size;have a2:=aB (i6.o.below a1.o i2);have z5:=a2.o.cell;have k9:=a2.o.frozen;clear b4 b5;go_wp2_with fail;refine hK.o _ _ (by exact fun q h1 _=>a1.o.block q h1) fun hZ => ?_;clear hK K;try simp only[p7]
 refine r1 6 fun K hK => ?_;go_simp;refine hK.o _ _ (by exact fun q h1 h2=>(Below.heap_setCell _ ⟨w.heap.size+1,1,X⟩ _ q h2).trans ((Below.heap_setCell _ ⟨w.heap.size+1,0,X⟩ _ q h2).trans (a1.o.block q h1))) fun hZ => ?_;clear hK K;try simp only[p7]
 refine wpAnyH_done aC ?_ _;go_wp2_with fail;refine bodyPost_ret (v:=.agg #[O A5 n5 c5,O B5 m5 d5']) (iC (g:=w.heap.size+1) (by have:=(a2.o.set_ 0 (O A5 n5 c5)).set_ 1 (O B5 m5 d5');simpa using this) aD) rfl (nK a0.o d3.o a1.o g0.o e8.o (by rw[s6.o,HY.o];exact g1.o))
end Go.Proofs.YtjoddliplahgkaaGreat
