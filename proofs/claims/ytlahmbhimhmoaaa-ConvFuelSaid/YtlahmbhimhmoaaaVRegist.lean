/- What is registered in a book. -/
import Derived.Test.YtlahmbhimhmoaaaVNumbers
import Derived.Deep.DeepCutAuto
namespace Go.Proofs.Ytlahmbhimhmoaaa
set_option linter.unusedVariables false
set_option linter.unusedSimpArgs false
open Go.Lib (hid)
open Go.RowKit Go.Maps
theorem eY.look{P:Program}{k t e:TypeId}{w:OE}{b n:Nat}{g:GF}(h:eY P k e w b n g)(K:gW P k t e)(l r:Int)(Z:(Lit.int .i64 l).wf=true)(o:(Lit.int .i64 r).wf=true):
 (Instr.lookup t (.map (some b)) (.agg #[.int .i64 l,.int .i64 r]) false).run P w=.ok (.int .i64 ((g l r).getD 0)) w:=by
 obtain⟨D,O,U⟩:=h;obtain⟨s,I⟩:=K.key l r Z o;obtain⟨z,F⟩:=U l r s I;obtain⟨c,G,Y,_⟩:=O.lookup_int K.keyed K.ht K.he (K.hz w) I;rw[Y]at F;injection F with F;injection F with _ F;rw[G,F]
theorem rV{P:Program}{k t e:TypeId}{w:OE}{b n:Nat}{g:GF}{o:Oper}{a:Act}{U:Act → World → Prop}{Q:Exit → Act → World → Prop}
 (m x v:Operand) (I:o.op=Op.mapUpdate t m x v) (K:gW P k t e) (hm:a.eval m=.map (some b)) (F:eY P k e w b n g) (hn:n<100000000000000) (l r z:Int) (hx:a.eval x=.agg #[.int .i64 l,.int .i64 r]) (s:(Lit.int .i64 l).wf=true) (hr:(Lit.int .i64 r).wf=true) (hv:a.eval v=.int .i64 z) (O:(Lit.int .i64 z).wf=true)
 (hK:∀w',eY P k e w' b (n+1) (eD g l r z) → w.grownBy w' (some b) → U (a.put o.dst undef) w'):Oper.wp P o a w U Q:=by
 obtain⟨D,Y,h⟩:=F;obtain⟨kl,Z⟩:=K.key l r s hr;obtain⟨w',G,r1,r2⟩:=Y.update K.keyed K.ht (by unfold maxLen;omega) Z (plainElem_int K.he O);unfold Oper.wp;simp[execOp,I,hm,hx,hv,G,Result.andThen];exact hK _ (eY.set_ K Y h Z r1) r2
abbrev wT(w:OE)(b n:Nat)(g:GF):Prop:=eY Try.prog 85 3 w b n g
def J6(g:GF):Prop:=∀l r,g l r=none∨g l r=some 1
theorem J6.upd{g:GF}(h:J6 g)(l r:Int):J6 (eD g l r 1):=fun D F=>by
 unfold eD;split
 . exact .inr rfl
 exact h D F
theorem vQ{b:Bk}{p:Int×Int}{r:List (Int×Int)}{g:GF}:jO b (p::r) g=if p.1<0 then false
 else if (b.entries.length:Int) ≤ p.1 then false
 else if (bP b p.1).kind≠2 then false
 else if p.2<1 then false
 else if 3<p.2 then false
 else if 0<(g p.1 (-1)).getD 0+(g (-1) p.2).getD 0 then false
 else jO b r (eD (eD g p.1 (-1) 1) (-1) p.2 1):=rfl
theorem oO{W:OE}(t F:TypeId)(cs D:Array Value):aW ((W.alloc (.cells cs t)).alloc (.cells D F)).drew (W.heap.size+1) F D:=by
 have h:=aW.new (W.alloc (.cells cs t)) F D;rw[show (W.alloc (.cells cs t)).heap.size=W.heap.size+1 from by simp]at h;exact h.drewN 1
set_option maxRecDepth 100000 in
set_option maxHeartbeats 16000000 in
theorem pU{w:OE}{v:bA}{b:Bk}(hb:bO w v b):
 Calls Try.prog 22 #[.agg #[.int .i64 b.vars,.slice v.Ao v.no v.co,.slice v.Ae v.ne v.ce,.int .i64 b.nat,.slice v.Ap v.np v.cp]] w (e8 (yS b) w):=by
 have b8:=hb.entries.len;have s:=hb.prims.len;have c8:=hb.prims.few;have e7:=hid (fun (k:Nat) (h:k<v.ne)=>hb.entries.at_ (k:=k) h);have a0:=hid (fun (w':OE) (h:OB w w')=>vI (hb.below h) b.nat);have f4:=hid (fun (w':OE) (h:OB w w')=>hb.prims.below h);have i7:=hid hb.primsw;have U:=hid (aQ w (.cells #[.int .i64 b.vars,.slice v.Ao v.no v.co,.slice v.Ae v.ne v.ce,.int .i64 b.nat,.slice v.Ap v.np v.cp] 26));have f0:=hid (aW.new w 26 #[.int .i64 b.vars,.slice v.Ao v.no v.co,.slice v.Ae v.ne v.ce,.int .i64 b.nat,.slice v.Ap v.np v.cp]);have G:Hid (yS b=if b.nat ≠ -1 then (if CM b b.nat then jO b b.prims (fun _ _=>none) else false) else if 0<b.prims.length then false else true):=hid rfl;have l5:=@run_makeMap Try.prog;generalize yS b=res at *;rw[s]at G;have f1:=hid b8;have c3:=hid s;obtain⟨Ao,no,co,Ae,ne,ce,Ap,np,cp⟩:=v;simp only at e7 a0 f4 U f0 G f1 c3 c8 ⊢;clear hb b8 s;generalize b.vars=bv at *;generalize b.nat=bn at *;by_cases hn:bn = -1
 . have d1:(bn != -1)=false:=by simpa using hn
   have d2:(bn == -1)=true:=by simpa using hn
   rw[aN (by simpa using hn)]at G;clear hn;by_cases h0:0<np
   . have d3:decide ((np:Int)>0)=true:=MB (by omega);have j2:decide (0<np)=true:=MB h0;rw[LZ h0]at G;clear h0;go_in;go_wp2_with fail;go_ret;rw[G.out];exact⟨rfl,U.out⟩
   have d3:decide ((np:Int)>0)=false:=MA (by omega);have j2:decide (0<np)=false:=MA h0;rw[aN h0]at G;have l6:np ≤ 0:=by omega
   have h9:=hid (U.out.alloc U.out.size (.map #[] 0));clear h0;go_in;go_wp2_with fail;go_loopw [33] (fun iv wr=>iv=.int .i64 0∧Hid (OB w wr)) (fun i _=>0)
   case atStart=>exact⟨rfl,h9⟩
   case round =>
    obtain⟨rfl,a3⟩:=hrel;have f7:decide ((0:Int)<(np:Int))=false:=MA (by omega);have k3:decide (0<np)=false:=MA (by omega);go_wp2_with fail;go_ret;rw[G.out];exact⟨rfl,a3.out⟩
 have d1:(bn != -1)=true:=by simpa using hn
 rw[LZ hn]at G;have d2:(bn == -1)=false:=by simpa using hn
 clear hn;obtain⟨nb,g5⟩:=OM (CM b bn);rw[← g5]at a0 G;clear g5;cases nb with
 | false =>
  rw[aN (by simp)]at G;go_in;go_wp2_with fail;refine (a0.out _ U.out).mono ?_;rintro e w2 ⟨rfl,a2⟩;have a5:=bK U a2;clear a2;go_wp2_with fail;go_ret;rw[G.out];exact⟨rfl,a5.out⟩
 | true =>
  rw[LZ rfl]at G;go_in;go_wp2_with fail;refine (a0.out _ U.out).mono ?_;rintro e w2 ⟨rfl,a2⟩;have a5:=bK U a2;have c0:=hid (aW.below f0.out a2 (by simp));have f3:Hid (wT (w2.alloc (.map #[] 0)) w2.heap.size 0 (fun _ _=>none)):=hid (eY.made w2 Try.prog 85 3);have h8:=hid (a5.out.alloc a5.out.size (.map #[] 0));have i2:=hid (c0.out.alloc (.map #[] 0));have j6:=a5.out.size;have j7:=c0.out.lt;have k1:=aW.cell c0.out;clear a2;go_wp2_with fail;clear k1;obtain⟨bm,b6⟩:=OM w2.heap.size;rw[← b6]at f3 j6 j7 ⊢;clear b6;go_loopw [33] (fun iv wr=>∃(i:Nat)(g:GF),iv=.int .i64 (i:Int)∧i ≤ np∧Hid (jO b (b.prims.drop i) g=res)∧Hid (J6 g)∧Hid (wT wr bm (2*i) g)∧Hid (aW wr w.heap.size 26 #[.int .i64 bv,.slice Ao no co,.slice Ae ne ce,.int .i64 bn,.slice Ap np cp])∧Hid (OB w wr)) (fun i _=>np-(intOf i).toNat)
  case atStart=>exact⟨0,_,rfl,by omega,hid G.out.symm,hid (fun _ _=>.inl rfl),f3,i2,h8⟩
  case round =>
   obtain⟨i,g,rfl,hi,c9,b0,hm,j5,a3⟩:=hrel;by_cases g1:i<np;case neg =>
    have f7:decide ((i:Int)<(np:Int))=false:=MA (by omega);have c4:Hid (res=true):=hid (by
     have:=c9.out;rw[NB (by rw[c3.out];omega)]at this;exact this.symm)
    go_wp2_with fail;go_ret;rw[c4.out];exact⟨rfl,a3.out⟩
   have f7:decide ((i:Int)<(np:Int))=true:=MB (by omega);obtain⟨bp,op,rfl,l2,g4⟩:=(f4.out wr a3.out).mem (by omega);obtain⟨f5,f6⟩:=g4 i g1;have f8:i<b.prims.length:=by rw[c3.out];exact g1
   obtain⟨p,hp⟩:=OM (b.prims.getD i (0,0));have c7:b.prims[i]=p:=by rw[hp,MK,MI f8];rfl
   obtain⟨b2,b3⟩:=i7.out p (by rw[← c7];exact NO _);rw[← hp]at f5 f6;have hq:=c9.out;rw[MT f8,c7,vQ,f1.out]at hq;obtain⟨D,F⟩:=p;simp only at f5 f6 b2 b3 hq;have HQ:=hid hq;obtain⟨n0,c6⟩:∃n0,n0=2*i:=⟨_,rfl⟩;rw[← c6]at hm;obtain⟨Y,o⟩:=OM (wr.alloc (.cells #[.int .i64 D,.int .i64 F] 85));have e0:Hid (OB w Y):=hid (by rw[o];exact a3.out.alloc a3.out.size _);have f2:Hid (wT Y bm n0 g):=hid (by rw[o];exact hm.out.alloc _);have b5:Hid (aW Y w.heap.size 26 #[.int .i64 bv,.slice Ao no co,.slice Ae ne ce,.int .i64 bn,.slice (some ⟨bp,op,none⟩) np cp]):=hid (by rw[o];exact j5.out.alloc _);have z5:∀k,Y.cell? ⟨wr.heap.size,k,none⟩=(#[.int .i64 D,.int .i64 F]:Array Value)[k]?:=by rw[o];exact aW.cell (aW.new wr 85 #[.int .i64 D,.int .i64 F])
   have O:wr.heap.size<Y.heap.size:=by rw[o];simp
   have l7:=aW.cell b5.out;have j9:=b5.out.lt;have k2:=f2.out.lt;have i8:Hid (∀w',OB Y w' → w'.cell? ⟨wr.heap.size,0,none⟩=some (.int .i64 D)∧w'.cell? ⟨wr.heap.size,1,none⟩=some (.int .i64 F)):=hid (fun w' h=>⟨(h.cell (p:=⟨wr.heap.size,0,none⟩) O).trans (z5 0),(h.cell (p:=⟨wr.heap.size,1,none⟩) O).trans (z5 1)⟩);clear g4 hp c7 hq hm c9;go_upto_region 7 with fail
   rw[← o];clear o;go_cut [6,7] (fun v6 v7 wx=>∃g6 g7,v6=.pointer (some ⟨g6,0,none⟩)∧v7=.pointer (some ⟨g7,0,none⟩)∧Hid (aW wx g6 85 #[.int .i64 D,.int .i64 (-1)])∧Hid (aW wx g7 85 #[.int .i64 (-1),.int .i64 F])∧Hid (OB Y wx)∧Y.heap.size ≤ g6∧Y.heap.size ≤ g7)
   case first =>
    go_region_held3 (fun w'=>w'.cell? ⟨wr.heap.size,0,none⟩=some (.int .i64 D)∧w'.cell? ⟨wr.heap.size,1,none⟩=some (.int .i64 F)) (exact i8.out _ (by (first|exact bH (MC _ _)|exact bH (bC (MC _ _) _)|exact bH (bC (bC (MC _ _) _) _)))) (fail)
    . go_wp2_with fail;go_meet;exact⟨Y.heap.size,Y.heap.size+1,rfl,rfl,hid (((aW.new Y 85 #[.int .i64 D,.int .i64 (-1)]).alloc _).drewN 1),hid (oO 85 85 #[.int .i64 D,.int .i64 (-1)] #[.int .i64 (-1),.int .i64 F]),hid (bH (bC (bC (MC _ _) _) _)),by omega,by omega⟩
    go_wp2_with fail;go_meet;exact⟨Y.heap.size+1,Y.heap.size,rfl,rfl,hid (oO 85 85 #[.int .i64 (-1),.int .i64 F] #[.int .i64 D,.int .i64 (-1)]),hid (((aW.new Y 85 #[.int .i64 (-1),.int .i64 F]).alloc _).drewN 1),hid (bH (bC (bC (MC _ _) _) _)),by omega,by omega⟩
   case rest =>
   obtain⟨g6,g7,rfl,rfl,k6,k7,HX,l0,l1⟩:=hcut;obtain⟨WX,rfl⟩:=OM wc;have l3:=k6.out.lt;have l4:=k7.out.lt;have HW:=hid (bH HX.out);have b4:=hid (e0.out.trans (HW.out.mono e0.out.size));have c1:Hid (aW WX.drew w.heap.size 26 #[.int .i64 bv,.slice Ao no co,.slice Ae ne ce,.int .i64 bn,.slice (some ⟨bp,op,none⟩) np cp]):=hid (aW.below b5.out HW.out b5.out.lt);have c2:Hid (wT WX bm n0 g):=hid (f2.out.kept (jK HX.out none) (by simp));obtain⟨V1,a6⟩:=OM ((g D (-1)).getD 0);obtain⟨V2,a7⟩:=OM ((g (-1) F).getD 0);have h5:V1=0∨V1=1:=by rw[a6];rcases b0.out D (-1) with h|h<;>rw[h]<;>simp
   have h6:V2=0∨V2=1:=by rw[a7];rcases b0.out (-1) F with h|h<;>rw[h]<;>simp
   have d0:=(show wT WX.drew bm n0 g from c2.out).look oB D (-1) b2 (bF (by omega) (by omega));have d5:=(show wT WX.drew bm n0 g from c2.out).look oB (-1) F (bF (by omega) (by omega)) b3;rw[← a6]at d0;rw[← a7]at d5;obtain⟨Z,a8⟩:∃Z,Z = !(decide (0 ≤ D∧D<(ne:Int)∧(bP b D).kind=2∧1 ≤ F∧F ≤ 3∧V1+V2 ≤ 0)):=⟨_,rfl⟩;have I:=hid a8;have a1:Hid (res=if Z then false else jO b (b.prims.drop (i+1)) (eD (eD g D (-1) 1) (-1) F 1)):=hid (by
    rw[← HQ.out,a8,← a6,← a7];by_cases hk:0 ≤ D∧D<(ne:Int)∧(bP b D).kind=2∧1 ≤ F∧F ≤ 3∧V1+V2 ≤ 0
    . rw[MB hk,aN (by omega),aN (by omega),aN (by simpa using hk.2.2.1),aN (by omega),aN (by omega),aN (by omega)];rfl
    rw[MA hk]
    repeat' split
    all_goals first|rfl|(exfalso;apply hk;omega)|(exfalso;simp_all;done))
   have i9:=hid a6;have j0:=hid a7;clear a6 a7 a8 HQ;go_upto_region 8 with fail
   go_cut [83] (fun j1 wx=>j1=.bool Z∧wx=WX.drew)
   case first =>
    by_cases h0:0 ≤ D∧D<(ne:Int);case neg =>
     have HT:Hid (Z=true):=hid (by rw[I.out,MA (fun h=>h0 ⟨h.1,h.2.1⟩)];rfl);have hc:D<0∨(0 ≤ D∧(ne:Int) ≤ D):=by omega
     clear h0 I;rcases hc with h|⟨h,h2⟩
     case' inl =>
      have d3:decide (D<0)=true:=MB h
     case' inr =>
      have d3:decide (D<0)=false:=MA (by omega);have d4:decide (D ≥ (ne:Int))=true:=MB h2
     all_goals
      refine wp_region_held_drew (S:=(fun w'=>w'.cell? ⟨wr.heap.size,0,none⟩=some (.int .i64 D)∧w'.cell? ⟨wr.heap.size,1,none⟩=some (.int .i64 F)∧w'.cell? ⟨w.heap.size,2,none⟩=some (.slice Ae ne ce))) (by kernel_rfl) ?_ (fun hHeld=>?_)
      . (try dsimp only);exact⟨(HW.out.cell (p:=⟨wr.heap.size,0,none⟩) O).trans (z5 0),(HW.out.cell (p:=⟨wr.heap.size,1,none⟩) O).trans (z5 1),c1.out.cell 2⟩
      first|refine tq 0 hHeld ?_|refine dk 0 hHeld ?_
      try simp only[p7]
      first|refine tq 1 hHeld ?_|refine dk 1 hHeld ?_
      try simp only[p7]
      first|refine tq 2 hHeld ?_|refine dk 2 hHeld ?_
      try simp only[p7]
      first|refine tq 3 hHeld ?_|refine dk 3 hHeld ?_
      try simp only[p7]
      first|refine tq 4 hHeld ?_|refine dk 4 hHeld ?_
      try simp only[p7]
      first|refine tq 5 hHeld ?_|refine dk 5 hHeld ?_
      try simp only[p7]
      first|refine tq 6 hHeld ?_|refine dk 6 hHeld ?_
      try simp only[p7]
      first|refine tq 7 hHeld ?_|refine dk 7 hHeld ?_
      try simp only[p7]
      first|refine tq 8 hHeld ?_|refine dk 8 hHeld ?_
      try simp only[p7]
      first|refine tq 9 hHeld ?_|refine dk 9 hHeld ?_
      try simp only[p7]
      first|refine tq 10 hHeld ?_|refine dk 10 hHeld ?_
      try simp only[p7]
      first|refine tq 11 hHeld ?_|refine dk 11 hHeld ?_
      try simp only[p7]
      first|refine tq 12 hHeld ?_|refine dk 12 hHeld ?_
      try simp only[p7]
      first|refine tq 13 hHeld ?_|refine dk 13 hHeld ?_
      try simp only[p7]
      first|refine tq 14 hHeld ?_|refine dk 14 hHeld ?_
      try simp only[p7]
      first|refine tq 15 hHeld ?_|refine dk 15 hHeld ?_
      try simp only[p7]
      first|refine tq 16 hHeld ?_|refine dk 16 hHeld ?_
      try simp only[p7]
      first|refine tq 17 hHeld ?_|refine dk 17 hHeld ?_
      try simp only[p7]
      first|refine tq 18 hHeld ?_|refine dk 18 hHeld ?_
      try simp only[p7]
      first|refine tq 19 hHeld ?_|refine dk 19 hHeld ?_
      try simp only[p7]
      first|refine tq 20 hHeld ?_|refine dk 20 hHeld ?_
      try simp only[p7]
      first|refine tq 21 hHeld ?_|refine dk 21 hHeld ?_
      try simp only[p7]
      first|refine tq 22 hHeld ?_|refine dk 22 hHeld ?_
      try simp only[p7]
      first|refine tq 23 hHeld ?_|refine dk 23 hHeld ?_
      try simp only[p7]
      first|refine tq 24 hHeld ?_|refine dk 24 hHeld ?_
      try simp only[p7]
      first|refine tq 25 hHeld ?_|refine dk 25 hHeld ?_
      try simp only[p7]
      first|refine tq 26 hHeld ?_|refine dk 26 hHeld ?_
      try simp only[p7]
      first|refine tq 27 hHeld ?_|refine dk 27 hHeld ?_
      try simp only[p7]
      first|refine tq 28 hHeld ?_|refine dk 28 hHeld ?_
      try simp only[p7]
      first|refine tq 29 hHeld ?_|refine dk 29 hHeld ?_
      try simp only[p7]
      first|refine tq 30 hHeld ?_|refine dk 30 hHeld ?_
      try simp only[p7]
      first|refine tq 31 hHeld ?_|refine dk 31 hHeld ?_
      try simp only[p7]
      first|refine tq 32 hHeld ?_|refine dk 32 hHeld ?_
      try simp only[p7]
      first|refine tq 33 hHeld ?_|refine dk 33 hHeld ?_
      try simp only[p7]
      first|refine tq 34 hHeld ?_|refine dk 34 hHeld ?_
      try simp only[p7]
      first|refine tq 35 hHeld ?_|refine dk 35 hHeld ?_
      try simp only[p7]
      first|refine tq 36 hHeld ?_|refine dk 36 hHeld ?_
      try simp only[p7]
      first|refine tq 37 hHeld ?_|refine dk 37 hHeld ?_
      try simp only[p7]
      first|refine tq 38 hHeld ?_|refine dk 38 hHeld ?_
      try simp only[p7]
      first|refine tq 39 hHeld ?_|refine dk 39 hHeld ?_
      try simp only[p7]
      first|refine tq 40 hHeld ?_|refine dk 40 hHeld ?_
      try simp only[p7]
      refine wpAnyH_done (by kernel_rfl) ?_ _;go_wp2_with fail;go_meet;exact⟨by rw[HT.out],rfl⟩
    obtain⟨j8,g8⟩:=h0;obtain⟨z,g0⟩:∃z:Nat,D=(z:Int):=⟨D.toNat,by omega⟩;obtain⟨be,oe,j3,j4,ev,c5,_⟩:=e7.out z (by omega);subst j3;rw[show b.entries.getD z default=bP b D from by unfold bP;rw[g0,NA]]at c5;obtain⟨kd,f9⟩:=OM (bP b D).kind;rw[← f9]at I c5;subst g0;have b7:z<ne:=by omega
    have d3:decide ((z:Int)<0)=false:=MA (by omega);have d4:decide ((z:Int) ≥ (ne:Int))=false:=MA (by omega);have k5:decide (ne ≤ z)=false:=MA (by omega);have k9:decide (z<ne)=true:=MB b7;have k8:(z:Int)<(ne:Int):=by omega
    have dV:IntKind.i64.wrap (V1+V2)=V1+V2:=by rw[MP];omega
    have a9:Z=((kd != 2)||(decide (F<1)||(decide (F>3)||decide (V1+V2>0)))):=by
     rw[I.out,Bool.eq_iff_iff];simp only[Bool.not_eq_true',NY,NM,bne_iff_ne,MJ,ne_eq];omega
    have e2:=hid a9;obtain⟨t3,g9⟩:=OM (kd != 2);obtain⟨t4,h1⟩:=OM (decide (F<1));obtain⟨t5,h3⟩:=OM (decide (F>3));obtain⟨t6,h4⟩:=OM (decide (V1+V2>0));have e3:=g9.symm;have e4:=h1.symm;have e5:=h3.symm;have e6:=h4.symm;rw[e3,e4,e5,e6]at e2;clear a9 g9 h1 h3 h4 I f9 b7 h5 h6 i9 j0 a1 j8 g8;cases t3<;>cases t4<;>cases t5;all_goals
     refine wp_region_held_drew (S:=(fun w'=>w'.cell? ⟨wr.heap.size,0,none⟩=some (.int .i64 (z:Int))∧w'.cell? ⟨wr.heap.size,1,none⟩=some (.int .i64 F)∧w'.cell? ⟨w.heap.size,2,none⟩=some (.slice (some ⟨be,oe,none⟩) ne ce)∧w'.cell? ⟨be,oe+z*7,none⟩=some (.int .i64 kd)∧w'.cell? ⟨g6,0,none⟩=some (.int .i64 (z:Int))∧w'.cell? ⟨g6,1,none⟩=some (.int .i64 (-1))∧w'.cell? ⟨g7,0,none⟩=some (.int .i64 (-1))∧w'.cell? ⟨g7,1,none⟩=some (.int .i64 F)∧(Instr.lookup 83 (.map (some bm)) (.agg #[.int .i64 (z:Int),.int .i64 (-1)]) false).run Try.prog w'=.ok (.int .i64 V1) w'∧(Instr.lookup 83 (.map (some bm)) (.agg #[.int .i64 (-1),.int .i64 F]) false).run Try.prog w'=.ok (.int .i64 V2) w')) (by kernel_rfl) ?_ (fun hHeld=>?_)
     . (try dsimp only);exact⟨(HW.out.cell (p:=⟨wr.heap.size,0,none⟩) O).trans (z5 0),(HW.out.cell (p:=⟨wr.heap.size,1,none⟩) O).trans (z5 1),c1.out.cell 2,(b4.out.cell (p:=⟨be,oe+z*7,none⟩) j4).trans c5,k6.out.cell 0,k6.out.cell 1,k7.out.cell 0,k7.out.cell 1,d0,d5⟩
     first|refine tq 0 hHeld ?_|refine dk 0 hHeld ?_
     try simp only[p7]
     first|refine tq 1 hHeld ?_|refine dk 1 hHeld ?_
     try simp only[p7]
     first|refine tq 2 hHeld ?_|refine dk 2 hHeld ?_
     try simp only[p7]
     first|refine tq 3 hHeld ?_|refine dk 3 hHeld ?_
     try simp only[p7]
     first|refine tq 4 hHeld ?_|refine dk 4 hHeld ?_
     try simp only[p7]
     first|refine tq 5 hHeld ?_|refine dk 5 hHeld ?_
     try simp only[p7]
     first|refine tq 6 hHeld ?_|refine dk 6 hHeld ?_
     try simp only[p7]
     first|refine tq 7 hHeld ?_|refine dk 7 hHeld ?_
     try simp only[p7]
     first|refine tq 8 hHeld ?_|refine dk 8 hHeld ?_
     try simp only[p7]
     first|refine tq 9 hHeld ?_|refine dk 9 hHeld ?_
     try simp only[p7]
     first|refine tq 10 hHeld ?_|refine dk 10 hHeld ?_
     try simp only[p7]
     first|refine tq 11 hHeld ?_|refine dk 11 hHeld ?_
     try simp only[p7]
     first|refine tq 12 hHeld ?_|refine dk 12 hHeld ?_
     try simp only[p7]
     first|refine tq 13 hHeld ?_|refine dk 13 hHeld ?_
     try simp only[p7]
     first|refine tq 14 hHeld ?_|refine dk 14 hHeld ?_
     try simp only[p7]
     first|refine tq 15 hHeld ?_|refine dk 15 hHeld ?_
     try simp only[p7]
     first|refine tq 16 hHeld ?_|refine dk 16 hHeld ?_
     try simp only[p7]
     first|refine tq 17 hHeld ?_|refine dk 17 hHeld ?_
     try simp only[p7]
     first|refine tq 18 hHeld ?_|refine dk 18 hHeld ?_
     try simp only[p7]
     first|refine tq 19 hHeld ?_|refine dk 19 hHeld ?_
     try simp only[p7]
     first|refine tq 20 hHeld ?_|refine dk 20 hHeld ?_
     try simp only[p7]
     first|refine tq 21 hHeld ?_|refine dk 21 hHeld ?_
     try simp only[p7]
     first|refine tq 22 hHeld ?_|refine dk 22 hHeld ?_
     try simp only[p7]
     first|refine tq 23 hHeld ?_|refine dk 23 hHeld ?_
     try simp only[p7]
     first|refine tq 24 hHeld ?_|refine dk 24 hHeld ?_
     try simp only[p7]
     first|refine tq 25 hHeld ?_|refine dk 25 hHeld ?_
     try simp only[p7]
     first|refine tq 26 hHeld ?_|refine dk 26 hHeld ?_
     try simp only[p7]
     first|refine tq 27 hHeld ?_|refine dk 27 hHeld ?_
     try simp only[p7]
     first|refine tq 28 hHeld ?_|refine dk 28 hHeld ?_
     try simp only[p7]
     first|refine tq 29 hHeld ?_|refine dk 29 hHeld ?_
     try simp only[p7]
     first|refine tq 30 hHeld ?_|refine dk 30 hHeld ?_
     try simp only[p7]
     first|refine tq 31 hHeld ?_|refine dk 31 hHeld ?_
     try simp only[p7]
     first|refine tq 32 hHeld ?_|refine dk 32 hHeld ?_
     try simp only[p7]
     first|refine tq 33 hHeld ?_|refine dk 33 hHeld ?_
     try simp only[p7]
     first|refine tq 34 hHeld ?_|refine dk 34 hHeld ?_
     try simp only[p7]
     first|refine tq 35 hHeld ?_|refine dk 35 hHeld ?_
     try simp only[p7]
     first|refine tq 36 hHeld ?_|refine dk 36 hHeld ?_
     try simp only[p7]
     first|refine tq 37 hHeld ?_|refine dk 37 hHeld ?_
     try simp only[p7]
     first|refine tq 38 hHeld ?_|refine dk 38 hHeld ?_
     try simp only[p7]
     first|refine tq 39 hHeld ?_|refine dk 39 hHeld ?_
     try simp only[p7]
     first|refine tq 40 hHeld ?_|refine dk 40 hHeld ?_
     try simp only[p7]
     refine wpAnyH_done (by kernel_rfl) ?_ _;go_wp2_with fail;go_meet;exact⟨by rw[e2.out];simp,rfl⟩
   case rest =>
   obtain⟨rfl,k0⟩:=hcut;subst k0;cases Z with
   | true =>
    have c4:Hid (res=false):=hid (by rw[a1.out];rfl);go_wp2_with fail;go_ret;rw[c4.out];exact⟨rfl,b4.out⟩
   | false =>
    have i6:Hid (jO b (b.prims.drop (i+1)) (eD (eD g D (-1) 1) (-1) F 1)=res):=hid (by rw[a1.out];rfl);have b9:Hid (J6 (eD (eD g D (-1) 1) (-1) F 1)):=hid ((b0.out.upd _ _).upd _ _);have za:=aW.cell k6.out;have zb:=aW.cell k7.out;have k4:n0<50000000000000:=by omega
    have i5:=hid c6;clear I d0 d5 h5 h6 a1 c6;go_wp2_with fail;refine wp_region_held_drew (S:=(fun w'=>w'.cell? ⟨g6,0,none⟩=some (.int .i64 D)∧w'.cell? ⟨g6,1,none⟩=some (.int .i64 (-1))∧w'.cell? ⟨g7,0,none⟩=some (.int .i64 (-1))∧w'.cell? ⟨g7,1,none⟩=some (.int .i64 F))) (by kernel_rfl) ?_ (fun hHeld=>?_)
    . (try dsimp only);exact⟨za 0,za 1,zb 0,zb 1⟩
    refine tq 0 hHeld ?_;try simp only[p7]
    refine tq 1 hHeld ?_;try simp only[p7]
    refine tq 2 hHeld ?_;try simp only[p7]
    refine tq 3 hHeld ?_;try simp only[p7]
    refine r1 4 fun K hK=>?_;refine sF rfl (rV (.tmp 84) (.tmp 85) _ rfl oB (by rfl) (show wT WX.drew.drew bm n0 g from c2.out) (by omega) D (-1) 1 (by rfl) b2 (bF (by omega) (by omega)) (by rfl) (bF (by omega) (by omega)) ?_);intro w8 g2 a4;have e9:=hid a4;have d6:=fun i=>(aW.cell (aW.grown (show aW WX.drew.drew _ _ _ from k6.out) a4 (by intro e;injection e with e;omega)) i);have d8:=fun i=>(aW.cell (aW.grown (show aW WX.drew.drew _ _ _ from k7.out) a4 (by intro e;injection e with e;omega)) i);have i3:=hid g2;have e1:=hid ((aU b4.out 1).grown a4 b4.out.size (fun g hg=>by injection hg with hg;omega));have i0:=hid (aW.grown (show aW WX.drew.drew _ _ _ from c1.out) a4 (by intro e;injection e with e;omega));clear g2 a4;refine hK.out _ _ (by exact⟨d6 0,d6 1,d8 0,d8 1⟩) fun hHeld=>?_;clear hK K;try simp only[p7]
    refine r1 5 fun K hK=>?_;refine sF rfl (rV (.tmp 86) (.tmp 87) _ rfl oB (by rfl) i3.out (by omega) (-1) F 1 (by rfl) (bF (by omega) (by omega)) b3 (by rfl) (bF (by omega) (by omega)) ?_);intro w9 g3 b1;have d7:=fun i=>(aW.cell (aW.grown (aW.grown (show aW WX.drew.drew _ _ _ from k6.out) e9.out (by intro e;injection e with e;omega)) b1 (by intro e;injection e with e;omega)) i);have d9:=fun i=>(aW.cell (aW.grown (aW.grown (show aW WX.drew.drew _ _ _ from k7.out) e9.out (by intro e;injection e with e;omega)) b1 (by intro e;injection e with e;omega)) i);have i4:=hid g3;have h7:=hid (e1.out.grown b1 e1.out.size (fun g hg=>by injection hg with hg;omega));have i1:=hid (aW.grown i0.out b1 (by intro e;injection e with e;omega));clear g3 b1;refine hK.out _ _ (by exact⟨d7 0,d7 1,d9 0,d9 1⟩) fun hHeld=>?_;clear hK K;try simp only[p7]
    refine wpAnyH_done (by kernel_rfl) ?_ _;clear d6 d8 d7 d9 za zb hHeld;go_wp2_with fail;go_roundw
    case rel=>exact⟨i+1,_,by go_num,by omega,i6,b9,hid (i4.out.mono (by have:=i5.out;omega)),i1,h7⟩
    case measure=>simp[intOf];omega
end Go.Proofs.Ytlahmbhimhmoaaa
