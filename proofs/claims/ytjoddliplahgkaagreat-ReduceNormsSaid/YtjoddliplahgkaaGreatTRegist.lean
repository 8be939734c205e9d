/- Merged: Numbers, Regist. -/
import Derived.Test.YtjoddliplahgkaaGreatTEntries
import Derived.Deep.DeepCutAuto
namespace Go.Proofs.YtjoddliplahgkaaGreat
set_option maxHeartbeats 16000000
set_option maxRecDepth 100000
set_option linter.unusedVariables false
set_option linter.unusedSimpArgs false
section
open Go.Lib (hid)
open Go.RowKit
theorem cF{B:Nat}{w w':aAB}(h:Below B w w'):Below B w w'.drew:=aU h 1
theorem bZ{w w':aAB}(h:ZY w w')(o:Obj):ZY w (w'.alloc o):=h.alloc h.size o
theorem EL(x y:Nd)(w:aAB):(Go.binOp .eql 46 (.agg #[.int .i64 x.op,.int .i64 x.a,.int .i64 x.b]) (.agg #[.int .i64 y.op,.int .i64 y.a,.int .i64 y.b])).run Tryz.prog w=.ok (.bool (decide (x=y))) w:=by
 obtain⟨p,q,r⟩:=x;obtain⟨I,O,U⟩:=y;simp[go_sem];by_cases D:p=I<;>by_cases F:q=O<;>by_cases G:r=U<;>simp[D,F,G]
theorem nW(x y:Nd)(w:aAB):(Go.binOp .neq 46 (.agg #[.int .i64 x.op,.int .i64 x.a,.int .i64 x.b]) (.agg #[.int .i64 y.op,.int .i64 y.a,.int .i64 y.b])).run Tryz.prog w=.ok (.bool (!decide (x=y))) w:=by
 obtain⟨p,q,r⟩:=x;obtain⟨I,O,U⟩:=y;simp[go_sem];by_cases D:p=I<;>by_cases F:q=O<;>by_cases G:r=U<;>simp[D,F,G]
theorem E0{w:aAB}{v:bR}{b:Bk}(hb:cE w v b)(e:Int):
 Calls Tryz.prog 96 #[.agg #[.int .i64 b.vars,.slice v.Ao v.no v.co,.slice v.Ae v.ne v.ce,.int .i64 b.nat,.slice v.Ap v.np v.cp],.int .i64 e] w (gT (CT b e) w):=by
 have b1:=hb.entries.len;have e2:=hb.entries.few;have a4:=hid (fun (k:Nat) (h:k<v.ne)=>hb.entries.at_ (k:=k) h);have D:Hid (CT b e=if e<0 then false
 else if (b.entries.length:Int) ≤ e then false
 else if (bP b e).kind≠1 then false
 else if (bP b e).sort.length≠2 then false
 else if (bC (bP b e).sort 0).a≠1 then false
 else if bC (bP b e).sort 1≠⟨3,0,0⟩ then false
 else if 0<(bP b e).params.length+(bP b e).indices.length then false
 else if (bP b e).ctors.length≠2 then false
 else if ((bP b e).ctors.getD 0 default).args.length≠0 then false
 else if ((bP b e).ctors.getD 1 default).args.length≠1 then false
 else if (((bP b e).ctors.getD 1 default).args.getD 0 []).length≠1 then false
 else decide (bC (((bP b e).ctors.getD 1 default).args.getD 0 []) 0=⟨9,e,0⟩)):=hid rfl
 have a1:=hid (aQ w (.cells #[.int .i64 b.vars,.slice v.Ao v.no v.co,.slice v.Ae v.ne v.ce,.int .i64 b.nat,.slice v.Ap v.np v.cp] 26));generalize CT b e=res at *;rw[b1]at D;obtain⟨Ao,no,co,Ae,ne,ce,Ap,np,cp⟩:=v;simp only at a4 a1 D e2 ⊢;clear hb b1;generalize b.vars=bv at *;generalize b.nat=bn at *;by_cases h1:e<0
 . have O:Hid (res=false):=hid (by rw[D.out,XP h1]);have d1:decide (e<0)=true:=XR h1;clear h1 D a4;go_in;go_wp2_with fail;go_ret;rw[O.out];exact⟨rfl,a1.out⟩
 have d1:decide (e<0)=false:=XQ h1;rw[XN h1]at D;obtain⟨k,rfl⟩:∃k:Nat,e=(k:Int):=⟨e.toNat,by omega⟩;by_cases h2:(ne:Int) ≤ (k:Int)
 . have O:Hid (res=false):=hid (by rw[D.out,XP h2]);have f6:decide (ne ≤ k)=true:=XR (by omega);clear h1 h2 D a4;go_in;go_wp2_with fail;go_ret;rw[O.out];exact⟨rfl,a1.out⟩
 have f6:decide (ne ≤ k)=false:=XQ (by omega);rw[XN h2]at D;obtain⟨be,oe,rfl,i5,ev,e1,f8,f9,g0,g1,g2,g3,Y⟩:=a4.out k (by omega);rw[show b.entries.getD k default=bP b k from by unfold bP;rw[YG]]at e1 Y;have i7:k<ne:=by omega
 generalize bP b k=x at *;clear h1 h2 a4;by_cases h3:x.kind=1;case neg =>
  have O:Hid (res=false):=hid (by rw[D.out,XP h3]);have d3:(x.kind != 1)=true:=by simpa using h3
  clear h3 D Y;generalize x.kind=kd at *;go_in;go_wp2_with fail;go_ret;rw[O.out];exact⟨rfl,a1.out⟩
 rw[h3]at e1;rw[XN (by simp[h3])]at D;clear h3;obtain⟨As,ns,cs,b2,a3,b4,Ai,ni,ci,Ac,nc,cc,At,nt,ct,Ab,nb,cb⟩:=ev;have hs:=Y.sort;have a0:=Y.sort.len;have z:=Y.params.len;have s:=Y.indices.len;have Z:=Y.ctors.len;have g7:=Y.params.few;have g5:=Y.indices.few;have o:=Y.ctors;simp only at f8 f9 g0 g1 g2 g3 hs a0 z s Z g7 g5 o;clear Y;rw[a0,z,s,Z]at D;have a2:=hid (a1.out.alloc a1.out.size (.cells #[.int .i64 1,.slice As ns cs,.slice b2 a3 b4,.slice Ai ni ci,.slice Ac nc cc,.slice At nt ct,.slice Ab nb cb] 61));by_cases h4:ns=2;case neg =>
  have O:Hid (res=false):=hid (by rw[D.out,XP h4]);have d4:((ns:Int) != 2)=true:=by rw[bne_iff_ne];omega
  clear h4 D hs o a0 z s Z;go_in;go_wp2_with fail;go_ret;rw[O.out];exact⟨rfl,a2.out⟩
 subst h4;rw[XN (by simp)]at D;obtain⟨bs,os,rfl,i6,_,f1,_⟩:=hs.at_ (p:=0) (by omega);obtain⟨e0,f2,f3,f4⟩:=hs.cells (p:=1) (by omega);rw[YU,YF]at f1;rw[Nat.one_mul]at f2 f3 f4;clear hs e0;by_cases h5:(bC x.sort 0).a=1;case neg =>
  have O:Hid (res=false):=hid (by rw[D.out,XP h5]);have d5:((bC x.sort 0).a != 1)=true:=by simpa using h5
  clear h5 D o a0 z s Z;generalize (bC x.sort 0).a=sa at *;generalize bC x.sort 1=sn at *;go_in;go_wp2_with fail;go_ret;rw[O.out];exact⟨rfl,a2.out⟩
 rw[h5]at f1;rw[XN (by simp[h5])]at D;clear h5;generalize bC x.sort 1=sn at *;by_cases h6:sn=⟨3,0,0⟩;case neg =>
  have O:Hid (res=false):=hid (by rw[D.out,XP h6]);have c8:=fun w=>(nW sn ⟨3,0,0⟩ w).trans (by simp only[h6,decide_false,Bool.not_false]:_=Result.ok (Value.bool true) w);simp only at c8;clear h6 D o a0 z s Z;go_in;go_wp2_with fail;go_ret;rw[O.out];exact⟨rfl,a2.out⟩
 rw[XN (by simp[h6])]at D;subst h6;simp only at f2 f3 f4;have c8:=fun w=>(nW ⟨3,0,0⟩ ⟨3,0,0⟩ w).trans (by simp only[decide_true,Bool.not_true]:_=Result.ok (Value.bool false) w);simp only at c8;by_cases h7:0<a3+ni
 . have O:Hid (res=false):=hid (by rw[D.out,XP h7]);have d7:decide ((a3:Int)+(ni:Int)>0)=true:=XR (by omega);clear h7 D o a0 z s Z;go_in;go_wp2_with fail;go_ret;rw[O.out];exact⟨rfl,a2.out⟩
 rw[XN h7]at D;have d7:decide ((a3:Int)+(ni:Int)>0)=false:=XQ (by omega);clear h7;by_cases h8:nc=2;case neg =>
  have O:Hid (res=false):=hid (by rw[D.out,XP h8]);have d8:((nc:Int) != 2)=true:=by rw[bne_iff_ne];omega
  clear h8 D o a0 z s Z;go_in;go_wp2_with fail;go_ret;rw[O.out];exact⟨rfl,a2.out⟩
 subst h8;rw[XN (by simp)]at D;obtain⟨F,G,rfl,a8,hm⟩:=o.mem (by omega);obtain⟨A1,n1,c1,A2,n2,c2,b9,c0,f0,_⟩:=hm 0 (by omega);obtain⟨A3,n3,c3,A4,n4,c4,c6,c7,a5,_⟩:=hm 1 (by omega);rw[YU,YF]at b9 c0;rw[Nat.one_mul]at c6 c7;have e4:=f0.len;have e5:=a5.len;rw[e4,e5]at D;generalize (x.ctors.getD 1 default).args=ar at *;have hW:∃W2,W2=(w.alloc (.cells #[.int .i64 bv,.slice Ao no co,.slice (some ⟨be,oe,none⟩) ne ce,.int .i64 bn,.slice Ap np cp] 26)).alloc (.cells #[.int .i64 1,.slice (some ⟨bs,os,none⟩) 2 cs,.slice b2 a3 b4,.slice Ai ni ci,.slice (some ⟨F,G,none⟩) 2 cc,.slice At nt ct,.slice Ab nb cb] 61):=⟨_,rfl⟩;obtain⟨W2,U⟩:=hW;have I:Hid (ZY w W2):=hid (by rw[U];exact a2.out);have f5:W2.cell? ⟨w.heap.size+1,4,none⟩=some (.slice (some ⟨F,G,none⟩) 2 cc):=by
  rw[U];have h:=aT.cell (aT.new (w.alloc (.cells #[.int .i64 bv,.slice Ao no co,.slice (some ⟨be,oe,none⟩) ne ce,.int .i64 bn,.slice Ap np cp] 26)) 61 #[.int .i64 1,.slice (some ⟨bs,os,none⟩) 2 cs,.slice b2 a3 b4,.slice Ai ni ci,.slice (some ⟨F,G,none⟩) 2 cc,.slice At nt ct,.slice Ab nb cb]) 4;rw[show (w.alloc (.cells #[.int .i64 bv,.slice Ao no co,.slice (some ⟨be,oe,none⟩) ne ce,.int .i64 bn,.slice Ap np cp] 26)).heap.size=w.heap.size+1 from by simp]at h;exact h
 have g4:w.heap.size+1<W2.heap.size:=by rw[U];simp
 have c9:=(I.out.cell (p:=⟨F,G,none⟩) a8).trans b9;have d0:=(I.out.cell (p:=⟨F,G+1,none⟩) a8).trans c0;have d2:=(I.out.cell (p:=⟨F,G+2,none⟩) a8).trans c6;have d6:=(I.out.cell (p:=⟨F,G+2+1,none⟩) a8).trans c7;clear hm o f0 e4 e5 a0 z s Z b9 c0 c6 c7;have a6:Hid (∀w',ZY W2 w' → w'.cell? ⟨w.heap.size+1,4,none⟩=some (.slice (some ⟨F,G,none⟩) 2 cc)∧w'.cell? ⟨F,G,none⟩=some (.slice A1 n1 c1)∧w'.cell? ⟨F,G+1,none⟩=some (.slice A2 n2 c2)∧w'.cell? ⟨F,G+2,none⟩=some (.slice A3 n3 c3)∧w'.cell? ⟨F,G+2+1,none⟩=some (.slice A4 n4 c4)):=hid (fun w' h=>by
  have a7:F<W2.heap.size:=by omega
  exact⟨(h.cell (p:=⟨w.heap.size+1,4,none⟩) g4).trans f5,(h.cell (p:=⟨F,G,none⟩) a7).trans c9,(h.cell (p:=⟨F,G+1,none⟩) a7).trans d0,(h.cell (p:=⟨F,G+2,none⟩) a7).trans d2,(h.cell (p:=⟨F,G+2+1,none⟩) a7).trans d6⟩)
 have a9:=I.out.size;clear f5 c9 d0 d2 d6;by_cases h9:n1=0;case neg =>
  have O:Hid (res=false):=hid (by rw[D.out,XP h9]);have d9:((n1:Int)==0)=false:=by rw[XY];omega
  clear h9 D a5;go_in;go_wp2_with fail;rw[← U];clear U;go_region_held3 (fun w'=>w'.cell? ⟨w.heap.size+1,4,none⟩=some (.slice (some ⟨F,G,none⟩) 2 cc)∧w'.cell? ⟨F,G,none⟩=some (.slice A1 n1 c1)∧w'.cell? ⟨F,G+1,none⟩=some (.slice A2 n2 c2)∧w'.cell? ⟨F,G+2,none⟩=some (.slice A3 n3 c3)∧w'.cell? ⟨F,G+2+1,none⟩=some (.slice A4 n4 c4)) (exact a6.out _ (by (first|exact cF (XS _ _)|exact cF (bZ (XS _ _) _)|exact cF (bZ (bZ (XS _ _) _) _)))) (fail)
  all_goals
   go_wp2_with fail;go_ret;rw[O.out];exact⟨rfl,I.out.trans (Below.mono (show ZY W2 _ from by (first|exact cF (XS _ _)|exact cF (bZ (XS _ _) _)|exact cF (bZ (bZ (XS _ _) _) _))) a9)⟩
 subst h9;rw[XN (by simp)]at D;by_cases b6:n3=1;case neg =>
  have O:Hid (res=false):=hid (by rw[D.out,XP b6]);have h0:((n3:Int)==1)=false:=by rw[XY];omega
  clear b6 D a5;go_in;go_wp2_with fail;rw[← U];clear U;go_region_held3 (fun w'=>w'.cell? ⟨w.heap.size+1,4,none⟩=some (.slice (some ⟨F,G,none⟩) 2 cc)∧w'.cell? ⟨F,G,none⟩=some (.slice A1 0 c1)∧w'.cell? ⟨F,G+1,none⟩=some (.slice A2 n2 c2)∧w'.cell? ⟨F,G+2,none⟩=some (.slice A3 n3 c3)∧w'.cell? ⟨F,G+2+1,none⟩=some (.slice A4 n4 c4)) (exact a6.out _ (by (first|exact cF (XS _ _)|exact cF (bZ (XS _ _) _)|exact cF (bZ (bZ (XS _ _) _) _)))) (fail)
  all_goals
   go_wp2_with fail;go_ret;rw[O.out];exact⟨rfl,I.out.trans (Below.mono (show ZY W2 _ from by (first|exact cF (XS _ _)|exact cF (bZ (XS _ _) _)|exact cF (bZ (bZ (XS _ _) _) _))) a9)⟩
 subst b6;rw[XN (by simp)]at D;obtain⟨b3,o3,A5,n5,c5,rfl,f7,e3,b0⟩:=a5.at_ (k:=0) (by omega);rw[YF]at e3;have e6:=b0.len;generalize ar.getD 0 []=l5 at *;rw[e6]at D;have i1:=(I.out.cell (p:=⟨b3,o3,none⟩) f7).trans e3;have g8:b3<W2.heap.size:=by omega
 clear a5 e6;by_cases b7:n5=1;case neg =>
  have O:Hid (res=false):=hid (by rw[D.out,XP b7]);have i0:((n5:Int)==1)=false:=by rw[XY];omega
  clear b7 D b0;go_in;go_wp2_with fail;rw[← U];clear U;go_region_held3 (fun w'=>w'.cell? ⟨w.heap.size+1,4,none⟩=some (.slice (some ⟨F,G,none⟩) 2 cc)∧w'.cell? ⟨F,G,none⟩=some (.slice A1 0 c1)∧w'.cell? ⟨F,G+1,none⟩=some (.slice A2 n2 c2)∧w'.cell? ⟨F,G+2,none⟩=some (.slice (some ⟨b3,o3,none⟩) 1 c3)∧w'.cell? ⟨F,G+2+1,none⟩=some (.slice A4 n4 c4)) (exact a6.out _ (by (first|exact cF (XS _ _)|exact cF (bZ (XS _ _) _)|exact cF (bZ (bZ (XS _ _) _) _)))) (fail)
  all_goals
   go_wp2_with fail;go_ret;rw[O.out];exact⟨rfl,I.out.trans (Below.mono (show ZY W2 _ from by (first|exact cF (XS _ _)|exact cF (bZ (XS _ _) _)|exact cF (bZ (bZ (XS _ _) _) _))) a9)⟩
 subst b7;rw[XN (by simp)]at D;obtain⟨b5,o5,rfl,b8,e7,e8,e9⟩:=b0.at_ (p:=0) (by omega);rw[YU,YF]at e7 e8 e9;generalize bC l5 0=m at *;have i2:=(I.out.cell (p:=⟨b5,o5,none⟩) b8).trans e7;have i3:=(I.out.cell (p:=⟨b5,o5+1,none⟩) b8).trans e8;have i4:=(I.out.cell (p:=⟨b5,o5+2,none⟩) b8).trans e9;have g9:b5<W2.heap.size:=by omega
 have g6:=fun w=>EL m ⟨9,(k:Int),0⟩ w;simp only at g6;have O:Hid (res=decide (m=⟨9,(k:Int),0⟩)):=D;generalize decide (m=⟨9,(k:Int),0⟩)=dd at *;clear b0;go_in;go_wp2_with fail;rw[← U];clear U;go_region_held3 (fun w'=>w'.cell? ⟨w.heap.size+1,4,none⟩=some (.slice (some ⟨F,G,none⟩) 2 cc)∧w'.cell? ⟨F,G,none⟩=some (.slice A1 0 c1)∧w'.cell? ⟨F,G+1,none⟩=some (.slice A2 n2 c2)∧w'.cell? ⟨F,G+2,none⟩=some (.slice (some ⟨b3,o3,none⟩) 1 c3)∧w'.cell? ⟨F,G+2+1,none⟩=some (.slice A4 n4 c4)) (exact a6.out _ (by (first|exact cF (XS _ _)|exact cF (bZ (XS _ _) _)|exact cF (bZ (bZ (XS _ _) _) _)))) (fail)
 all_goals
  go_wp2_with fail;go_ret;rw[O.out];exact⟨rfl,I.out.trans (Below.mono (show ZY W2 _ from by (first|exact cF (XS _ _)|exact cF (bZ (XS _ _) _)|exact cF (bZ (bZ (XS _ _) _) _))) a9)⟩
end
section
open Go.Lib (hid)
open Go.RowKit Go.Maps
theorem iW.look{P:Program}{k t e:TypeId}{w:aAB}{b n:Nat}{g:GF}(h:iW P k e w b n g)(K:lF P k t e)(l r:Int)(Z:(Lit.int .i64 l).wf=true)(o:(Lit.int .i64 r).wf=true):
 (Instr.lookup t (.map (some b)) (.agg #[.int .i64 l,.int .i64 r]) false).run P w=.ok (.int .i64 ((g l r).getD 0)) w:=by
 obtain⟨D,O,U⟩:=h;obtain⟨s,I⟩:=K.key l r Z o;obtain⟨z,F⟩:=U l r s I;obtain⟨c,G,Y,_⟩:=O.lookup_int K.keyed K.ht K.he (K.hz w) I;rw[Y]at F;injection F with F;injection F with _ F;rw[G,F]
theorem AD{P:Program}{k t e:TypeId}{w:aAB}{b n:Nat}{g:GF}{o:Oper}{a:Act}{U:Act → World → Prop}{Q:Exit → Act → World → Prop}
 (m x v:Operand) (I:o.op=Op.mapUpdate t m x v) (K:lF P k t e) (hm:a.eval m=.map (some b)) (F:iW P k e w b n g) (hn:n<100000000000000) (l r z:Int) (hx:a.eval x=.agg #[.int .i64 l,.int .i64 r]) (s:(Lit.int .i64 l).wf=true) (hr:(Lit.int .i64 r).wf=true) (hv:a.eval v=.int .i64 z) (O:(Lit.int .i64 z).wf=true)
 (hK:∀w',iW P k e w' b (n+1) (gQ g l r z) → w.grownBy w' (some b) → U (a.put o.dst undef) w'):Oper.wp P o a w U Q:=by
 obtain⟨D,Y,h⟩:=F;obtain⟨kl,Z⟩:=K.key l r s hr;obtain⟨w',G,r1,r2⟩:=Y.update K.keyed K.ht (by unfold maxLen;omega) Z (plainElem_int K.he O);unfold Oper.wp;simp[execOp,I,hm,hx,hv,G,Result.andThen];exact hK _ (iW.set_ K Y h Z r1) r2
abbrev GH(w:aAB)(b n:Nat)(g:GF):Prop:=iW Tryz.prog 69 3 w b n g
def VL(g:GF):Prop:=∀l r,g l r=none∨g l r=some 1
theorem VL.upd{g:GF}(h:VL g)(l r:Int):VL (gQ g l r 1):=fun D F=>by
 unfold gQ;split
 . exact .inr rfl
 exact h D F
theorem E9{b:Bk}{p:Int×Int}{r:List (Int×Int)}{g:GF}:jM b (p::r) g=if p.1<0 then false
 else if (b.entries.length:Int) ≤ p.1 then false
 else if (bP b p.1).kind≠2 then false
 else if p.2<1 then false
 else if 3<p.2 then false
 else if 0<(g p.1 (-1)).getD 0+(g (-1) p.2).getD 0 then false
 else jM b r (gQ (gQ g p.1 (-1) 1) (-1) p.2 1):=rfl
theorem vQ{W:aAB}(t F:TypeId)(cs D:Array Value):aT ((W.alloc (.cells cs t)).alloc (.cells D F)).drew (W.heap.size+1) F D:=by
 have h:=aT.new (W.alloc (.cells cs t)) F D;rw[show (W.alloc (.cells cs t)).heap.size=W.heap.size+1 from by simp]at h;exact h.drewN 1
theorem wW{w:aAB}{v:bR}{b:Bk}(hb:cE w v b):
 Calls Tryz.prog 50 #[.agg #[.int .i64 b.vars,.slice v.Ao v.no v.co,.slice v.Ae v.ne v.ce,.int .i64 b.nat,.slice v.Ap v.np v.cp]] w (gT (JE b) w):=by
 have b4:=hb.entries.len;have o:=hb.prims.len;have c5:=hb.prims.few;have d9:=hid (fun (k:Nat) (h:k<v.ne)=>hb.entries.at_ (k:=k) h);have s:=hid (fun (w':aAB) (h:ZY w w')=>E0 (hb.below h) b.nat);have e9:=hid (fun (w':aAB) (h:ZY w w')=>hb.prims.below h);have i1:=hid hb.primsw;have U:=hid (aQ w (.cells #[.int .i64 b.vars,.slice v.Ao v.no v.co,.slice v.Ae v.ne v.ce,.int .i64 b.nat,.slice v.Ap v.np v.cp] 26));have e1:=hid (aT.new w 26 #[.int .i64 b.vars,.slice v.Ao v.no v.co,.slice v.Ae v.ne v.ce,.int .i64 b.nat,.slice v.Ap v.np v.cp]);have G:Hid (JE b=if b.nat ≠ -1 then (if CT b b.nat then jM b b.prims (fun _ _=>none) else false) else if 0<b.prims.length then false else true):=hid rfl;have k1:=@run_makeMap Tryz.prog;generalize JE b=res at *;rw[o]at G;have e2:=hid b4;have c0:=hid o;obtain⟨Ao,no,co,Ae,ne,ce,Ap,np,cp⟩:=v;simp only at d9 s e9 U e1 G e2 c0 c5 ⊢;clear hb b4 o;generalize b.vars=bv at *;generalize b.nat=bn at *;by_cases hn:bn = -1
 . have d1:(bn != -1)=false:=by simpa using hn
   have d2:(bn == -1)=true:=by simpa using hn
   rw[XN (by simpa using hn)]at G;clear hn;by_cases h0:0<np
   . have d3:decide ((np:Int)>0)=true:=XR (by omega);have i5:decide (0<np)=true:=XR h0;rw[XP h0]at G;clear h0;go_in;go_wp2_with fail;go_ret;rw[G.out];exact⟨rfl,U.out⟩
   have d3:decide ((np:Int)>0)=false:=XQ (by omega);have i5:decide (0<np)=false:=XQ h0;rw[XN h0]at G;have h3:=hid (U.out.alloc U.out.size (.map #[] 0));clear h0;go_in;go_wp2_with fail;go_loopw [33] (fun iv wr=>iv=.int .i64 0∧Hid (ZY w wr)) (fun i _=>0)
   case atStart=>exact⟨rfl,h3⟩
   case round =>
    obtain⟨rfl,a1⟩:=hrel;go_wp2_with fail;go_ret;rw[G.out];exact⟨rfl,a1.out⟩
 have d1:(bn != -1)=true:=by simpa using hn
 rw[XP hn]at G;have d2:(bn == -1)=false:=by simpa using hn
 clear hn;obtain⟨nb,f9⟩:=aAJ (CT b bn);rw[← f9]at s G;clear f9;cases nb with
 | false =>
  rw[XN (by simp)]at G;go_in;go_wp2_with fail;refine (s.out _ U.out).mono ?_;rintro e w2 ⟨rfl,a0⟩;have a3:=bY U a0;clear a0;go_wp2_with fail;go_ret;rw[G.out];exact⟨rfl,a3.out⟩
 | true =>
  rw[XP rfl]at G;go_in;go_wp2_with fail;refine (s.out _ U.out).mono ?_;rintro e w2 ⟨rfl,a0⟩;have a3:=bY U a0;have b6:=hid (aT.below e1.out a0 (by simp));have e8:Hid (GH (w2.alloc (.map #[] 0)) w2.heap.size 0 (fun _ _=>none)):=hid (iW.made w2 Tryz.prog 69 3);have h1:=hid (a3.out.alloc a3.out.size (.map #[] 0));have h6:=hid (b6.out.alloc (.map #[] 0));have i9:=a3.out.size;have j0:=b6.out.lt;have j3:=aT.cell b6.out;clear a0;go_wp2_with fail;clear j3;obtain⟨bm,b3⟩:=aAJ w2.heap.size;rw[← b3]at e8 i9 j0 ⊢;clear b3;go_loopw [33] (fun iv wr=>∃(i:Nat)(g:GF),iv=.int .i64 (i:Int)∧i ≤ np∧Hid (jM b (b.prims.drop i) g=res)∧Hid (VL g)∧Hid (GH wr bm (2*i) g)∧Hid (aT wr w.heap.size 26 #[.int .i64 bv,.slice Ao no co,.slice Ae ne ce,.int .i64 bn,.slice Ap np cp])∧Hid (ZY w wr)) (fun i _=>np-(intOf i).toNat)
  case atStart=>exact⟨0,_,rfl,by omega,hid G.out.symm,hid (fun _ _=>.inl rfl),e8,h6,h1⟩
  case round =>
   obtain⟨i,g,rfl,hi,c6,a7,hm,i8,a1⟩:=hrel;by_cases f5:i<np;case neg =>
    have c1:Hid (res=true):=hid (by
     have:=c6.out;rw[YY (by rw[c0.out];omega)]at this;exact this.symm)
    go_wp2_with fail;go_ret;rw[c1.out];exact⟨rfl,a1.out⟩
   obtain⟨bp,op,rfl,k0,f8⟩:=(e9.out wr a1.out).mem (by omega);obtain⟨f0,f1⟩:=f8 i f5;have f2:i<b.prims.length:=by rw[c0.out];exact f5
   obtain⟨p,hp⟩:=aAJ (b.prims.getD i (0,0));have c4:b.prims[i]=p:=by rw[hp,YD,YB f2];rfl
   obtain⟨a9,b0⟩:=i1.out p (by rw[← c4];exact ZQ _);rw[← hp]at f0 f1;have hq:=c6.out;rw[YX f2,c4,E9,e2.out]at hq;obtain⟨D,F⟩:=p;simp only at f0 f1 a9 b0 hq;have HQ:=hid hq;obtain⟨n0,c3⟩:∃n0,n0=2*i:=⟨_,rfl⟩;rw[← c3]at hm;obtain⟨Y,Z⟩:=aAJ (wr.alloc (.cells #[.int .i64 D,.int .i64 F] 69));have d6:Hid (ZY w Y):=hid (by rw[Z];exact a1.out.alloc a1.out.size _);have e7:Hid (GH Y bm n0 g):=hid (by rw[Z];exact hm.out.alloc _);have b7:Hid (aT Y w.heap.size 26 #[.int .i64 bv,.slice Ao no co,.slice Ae ne ce,.int .i64 bn,.slice (some ⟨bp,op,none⟩) np cp]):=hid (by rw[Z];exact i8.out.alloc _);have z5:∀k,Y.cell? ⟨wr.heap.size,k,none⟩=(#[.int .i64 D,.int .i64 F]:Array Value)[k]?:=by rw[Z];exact aT.cell (aT.new wr 69 #[.int .i64 D,.int .i64 F])
   have O:wr.heap.size<Y.heap.size:=by rw[Z];simp
   have k2:=aT.cell b7.out;have j4:=e7.out.lt;have i2:Hid (∀w',ZY Y w' → w'.cell? ⟨wr.heap.size,0,none⟩=some (.int .i64 D)∧w'.cell? ⟨wr.heap.size,1,none⟩=some (.int .i64 F)):=hid (fun w' h=>⟨(h.cell (p:=⟨wr.heap.size,0,none⟩) O).trans (z5 0),(h.cell (p:=⟨wr.heap.size,1,none⟩) O).trans (z5 1)⟩);clear f8 hp c4 hq hm c6;go_upto_region 7 with fail
   rw[← Z];clear Z;go_cut [6,7] (fun v6 v7 wx=>∃g6 g7,v6=.pointer (some ⟨g6,0,none⟩)∧v7=.pointer (some ⟨g7,0,none⟩)∧Hid (aT wx g6 69 #[.int .i64 D,.int .i64 (-1)])∧Hid (aT wx g7 69 #[.int .i64 (-1),.int .i64 F])∧Hid (ZY Y wx)∧Y.heap.size ≤ g6∧Y.heap.size ≤ g7)
   case first =>
    go_region_held3 (fun w'=>w'.cell? ⟨wr.heap.size,0,none⟩=some (.int .i64 D)∧w'.cell? ⟨wr.heap.size,1,none⟩=some (.int .i64 F)) (exact i2.out _ (by (first|exact cF (XS _ _)|exact cF (bZ (XS _ _) _)|exact cF (bZ (bZ (XS _ _) _) _)))) (fail)
    . go_wp2_with fail;go_meet;exact⟨Y.heap.size,Y.heap.size+1,rfl,rfl,hid (((aT.new Y 69 #[.int .i64 D,.int .i64 (-1)]).alloc _).drewN 1),hid (vQ 69 69 #[.int .i64 D,.int .i64 (-1)] #[.int .i64 (-1),.int .i64 F]),hid (cF (bZ (bZ (XS _ _) _) _)),by omega,by omega⟩
    go_wp2_with fail;go_meet;exact⟨Y.heap.size+1,Y.heap.size,rfl,rfl,hid (vQ 69 69 #[.int .i64 (-1),.int .i64 F] #[.int .i64 D,.int .i64 (-1)]),hid (((aT.new Y 69 #[.int .i64 (-1),.int .i64 F]).alloc _).drewN 1),hid (cF (bZ (bZ (XS _ _) _) _)),by omega,by omega⟩
   case rest =>
   obtain⟨g6,g7,rfl,rfl,k6,k7,HX,j8,j9⟩:=hcut;obtain⟨WX,rfl⟩:=aAJ wc;have HW:=hid (cF HX.out);have b1:=hid (d6.out.trans (HW.out.mono d6.out.size));have b8:Hid (aT WX.drew w.heap.size 26 #[.int .i64 bv,.slice Ao no co,.slice Ae ne ce,.int .i64 bn,.slice (some ⟨bp,op,none⟩) np cp]):=hid (aT.below b7.out HW.out b7.out.lt);have b9:Hid (GH WX bm n0 g):=hid (e7.out.kept (nT HX.out none) (by simp));obtain⟨V1,a4⟩:=aAJ ((g D (-1)).getD 0);obtain⟨V2,b2⟩:=aAJ ((g (-1) F).getD 0);have g5:V1=0∨V1=1:=by rw[a4];rcases a7.out D (-1) with h|h<;>rw[h]<;>simp
   have g8:V2=0∨V2=1:=by rw[b2];rcases a7.out (-1) F with h|h<;>rw[h]<;>simp
   have c7:=(show GH WX.drew bm n0 g from b9.out).look uV D (-1) a9 (cH (by omega) (by omega));have c8:=(show GH WX.drew bm n0 g from b9.out).look uV (-1) F (cH (by omega) (by omega)) b0;rw[← a4]at c7;rw[← b2]at c8;obtain⟨bad,a5⟩:∃bad,bad = !(decide (0 ≤ D∧D<(ne:Int)∧(bP b D).kind=2∧1 ≤ F∧F ≤ 3∧V1+V2 ≤ 0)):=⟨_,rfl⟩;have I:=hid a5;have z:Hid (res=if bad then false else jM b (b.prims.drop (i+1)) (gQ (gQ g D (-1) 1) (-1) F 1)):=hid (by
    rw[← HQ.out,a5,← a4,← b2];by_cases hk:0 ≤ D∧D<(ne:Int)∧(bP b D).kind=2∧1 ≤ F∧F ≤ 3∧V1+V2 ≤ 0
    . rw[XR hk,XN (by omega),XN (by omega),XN (by simpa using hk.2.2.1),XN (by omega),XN (by omega),XN (by omega)];rfl
    rw[XQ hk]
    repeat' split
    all_goals first|rfl|(exfalso;apply hk;omega)|(exfalso;simp_all;done))
   have i3:=hid a4;clear a4 b2 a5 HQ;go_upto_region 8 with fail
   go_cut [83] (fun i4 wx=>i4=.bool bad∧wx=WX.drew)
   case first =>
    by_cases h0:0 ≤ D∧D<(ne:Int);case neg =>
     have HT:Hid (bad=true):=hid (by rw[I.out,XQ (fun h=>h0 ⟨h.1,h.2.1⟩)];rfl);have hc:D<0∨(0 ≤ D∧(ne:Int) ≤ D):=by omega
     clear h0 I;rcases hc with h|⟨h,h2⟩
     case' inl =>
      have d3:decide (D<0)=true:=XR h
     case' inr =>
      have d3:decide (D<0)=false:=XQ (by omega)
     all_goals
      refine wp_region_held_drew (S:=(fun w'=>w'.cell? ⟨wr.heap.size,0,none⟩=some (.int .i64 D)∧w'.cell? ⟨wr.heap.size,1,none⟩=some (.int .i64 F)∧w'.cell? ⟨w.heap.size,2,none⟩=some (.slice Ae ne ce))) (by kernel_rfl) ?_ (fun hHeld=>?_)
      . (try dsimp only);exact⟨(HW.out.cell (p:=⟨wr.heap.size,0,none⟩) O).trans (z5 0),(HW.out.cell (p:=⟨wr.heap.size,1,none⟩) O).trans (z5 1),b8.out.cell 2⟩
      first|refine tq 0 hHeld ?_|refine dk 0 hHeld ?_
      try simp only[p7]
      first|refine tq 1 hHeld ?_|refine dk 1 hHeld ?_
      try simp only[p7]
      first|refine tq 2 hHeld ?_|refine dk 2 hHeld ?_
      try simp only[p7]
      first|refine tq 3 hHeld ?_|refine dk 3 hHeld ?_
      try simp only[p7]
      first|refine tq 4 hHeld ?_|refine dk 4 hHeld ?_
      try simp only[p7]
      first|refine tq 5 hHeld ?_|refine dk 5 hHeld ?_
      try simp only[p7]
      first|refine tq 6 hHeld ?_|refine dk 6 hHeld ?_
      try simp only[p7]
      first|refine tq 7 hHeld ?_|refine dk 7 hHeld ?_
      try simp only[p7]
      first|refine tq 8 hHeld ?_|refine dk 8 hHeld ?_
      try simp only[p7]
      first|refine tq 9 hHeld ?_|refine dk 9 hHeld ?_
      try simp only[p7]
      first|refine tq 10 hHeld ?_|refine dk 10 hHeld ?_
      try simp only[p7]
      first|refine tq 11 hHeld ?_|refine dk 11 hHeld ?_
      try simp only[p7]
      first|refine tq 12 hHeld ?_|refine dk 12 hHeld ?_
      try simp only[p7]
      first|refine tq 13 hHeld ?_|refine dk 13 hHeld ?_
      try simp only[p7]
      first|refine tq 14 hHeld ?_|refine dk 14 hHeld ?_
      try simp only[p7]
      first|refine tq 15 hHeld ?_|refine dk 15 hHeld ?_
      try simp only[p7]
      first|refine tq 16 hHeld ?_|refine dk 16 hHeld ?_
      try simp only[p7]
      first|refine tq 17 hHeld ?_|refine dk 17 hHeld ?_
      try simp only[p7]
      first|refine tq 18 hHeld ?_|refine dk 18 hHeld ?_
      try simp only[p7]
      first|refine tq 19 hHeld ?_|refine dk 19 hHeld ?_
      try simp only[p7]
      first|refine tq 20 hHeld ?_|refine dk 20 hHeld ?_
      try simp only[p7]
      first|refine tq 21 hHeld ?_|refine dk 21 hHeld ?_
      try simp only[p7]
      first|refine tq 22 hHeld ?_|refine dk 22 hHeld ?_
      try simp only[p7]
      first|refine tq 23 hHeld ?_|refine dk 23 hHeld ?_
      try simp only[p7]
      first|refine tq 24 hHeld ?_|refine dk 24 hHeld ?_
      try simp only[p7]
      first|refine tq 25 hHeld ?_|refine dk 25 hHeld ?_
      try simp only[p7]
      first|refine tq 26 hHeld ?_|refine dk 26 hHeld ?_
      try simp only[p7]
      first|refine tq 27 hHeld ?_|refine dk 27 hHeld ?_
      try simp only[p7]
      first|refine tq 28 hHeld ?_|refine dk 28 hHeld ?_
      try simp only[p7]
      first|refine tq 29 hHeld ?_|refine dk 29 hHeld ?_
      try simp only[p7]
      first|refine tq 30 hHeld ?_|refine dk 30 hHeld ?_
      try simp only[p7]
      first|refine tq 31 hHeld ?_|refine dk 31 hHeld ?_
      try simp only[p7]
      first|refine tq 32 hHeld ?_|refine dk 32 hHeld ?_
      try simp only[p7]
      first|refine tq 33 hHeld ?_|refine dk 33 hHeld ?_
      try simp only[p7]
      first|refine tq 34 hHeld ?_|refine dk 34 hHeld ?_
      try simp only[p7]
      first|refine tq 35 hHeld ?_|refine dk 35 hHeld ?_
      try simp only[p7]
      first|refine tq 36 hHeld ?_|refine dk 36 hHeld ?_
      try simp only[p7]
      first|refine tq 37 hHeld ?_|refine dk 37 hHeld ?_
      try simp only[p7]
      first|refine tq 38 hHeld ?_|refine dk 38 hHeld ?_
      try simp only[p7]
      first|refine tq 39 hHeld ?_|refine dk 39 hHeld ?_
      try simp only[p7]
      first|refine tq 40 hHeld ?_|refine dk 40 hHeld ?_
      try simp only[p7]
      refine wpAnyH_done (by kernel_rfl) ?_ _;go_wp2_with fail;go_meet;exact⟨by rw[HT.out],rfl⟩
    obtain⟨j1,g0⟩:=h0;obtain⟨ke,f4⟩:∃ke:Nat,D=(ke:Int):=⟨D.toNat,by omega⟩;obtain⟨be,oe,i6,i7,ev,c2,_⟩:=d9.out ke (by omega);subst i6;rw[show b.entries.getD ke default=bP b D from by unfold bP;rw[f4,YG]]at c2;obtain⟨kd,f3⟩:=aAJ (bP b D).kind;rw[← f3]at I c2;subst f4;have d3:decide ((ke:Int)<0)=false:=XQ (by omega);have j6:decide (ne ≤ ke)=false:=XQ (by omega);have j7:(ke:Int)<(ne:Int):=by omega
    have dV:IntKind.i64.wrap (V1+V2)=V1+V2:=by rw[XV];omega
    have a6:bad=((kd != 2)||(decide (F<1)||(decide (F>3)||decide (V1+V2>0)))):=by
     rw[I.out,YK];simp only[Bool.not_eq_true',YM,ZJ,bne_iff_ne,YJ,ne_eq];omega
    have d8:=hid a6;obtain⟨t3,g1⟩:=aAJ (kd != 2);obtain⟨t4,g2⟩:=aAJ (decide (F<1));obtain⟨t5,g3⟩:=aAJ (decide (F>3));obtain⟨t6,g4⟩:=aAJ (decide (V1+V2>0));have e3:=g1.symm;have e4:=g2.symm;have e5:=g3.symm;have e6:=g4.symm;rw[e3,e4,e5,e6]at d8;clear a6 g1 g2 g3 g4 I f3 g5 g8 i3 z j1 g0;cases t3<;>cases t4<;>cases t5;all_goals
     refine wp_region_held_drew (S:=(fun w'=>w'.cell? ⟨wr.heap.size,0,none⟩=some (.int .i64 (ke:Int))∧w'.cell? ⟨wr.heap.size,1,none⟩=some (.int .i64 F)∧w'.cell? ⟨w.heap.size,2,none⟩=some (.slice (some ⟨be,oe,none⟩) ne ce)∧w'.cell? ⟨be,oe+ke*7,none⟩=some (.int .i64 kd)∧w'.cell? ⟨g6,0,none⟩=some (.int .i64 (ke:Int))∧w'.cell? ⟨g6,1,none⟩=some (.int .i64 (-1))∧w'.cell? ⟨g7,0,none⟩=some (.int .i64 (-1))∧w'.cell? ⟨g7,1,none⟩=some (.int .i64 F)∧(Instr.lookup 142 (.map (some bm)) (.agg #[.int .i64 (ke:Int),.int .i64 (-1)]) false).run Tryz.prog w'=.ok (.int .i64 V1) w'∧(Instr.lookup 142 (.map (some bm)) (.agg #[.int .i64 (-1),.int .i64 F]) false).run Tryz.prog w'=.ok (.int .i64 V2) w')) (by kernel_rfl) ?_ (fun hHeld=>?_)
     . (try dsimp only);exact⟨(HW.out.cell (p:=⟨wr.heap.size,0,none⟩) O).trans (z5 0),(HW.out.cell (p:=⟨wr.heap.size,1,none⟩) O).trans (z5 1),b8.out.cell 2,(b1.out.cell (p:=⟨be,oe+ke*7,none⟩) i7).trans c2,k6.out.cell 0,k6.out.cell 1,k7.out.cell 0,k7.out.cell 1,c7,c8⟩
     first|refine tq 0 hHeld ?_|refine dk 0 hHeld ?_
     try simp only[p7]
     first|refine tq 1 hHeld ?_|refine dk 1 hHeld ?_
     try simp only[p7]
     first|refine tq 2 hHeld ?_|refine dk 2 hHeld ?_
     try simp only[p7]
     first|refine tq 3 hHeld ?_|refine dk 3 hHeld ?_
     try simp only[p7]
     first|refine tq 4 hHeld ?_|refine dk 4 hHeld ?_
     try simp only[p7]
     first|refine tq 5 hHeld ?_|refine dk 5 hHeld ?_
     try simp only[p7]
     first|refine tq 6 hHeld ?_|refine dk 6 hHeld ?_
     try simp only[p7]
     first|refine tq 7 hHeld ?_|refine dk 7 hHeld ?_
     try simp only[p7]
     first|refine tq 8 hHeld ?_|refine dk 8 hHeld ?_
     try simp only[p7]
     first|refine tq 9 hHeld ?_|refine dk 9 hHeld ?_
     try simp only[p7]
     first|refine tq 10 hHeld ?_|refine dk 10 hHeld ?_
     try simp only[p7]
     first|refine tq 11 hHeld ?_|refine dk 11 hHeld ?_
     try simp only[p7]
     first|refine tq 12 hHeld ?_|refine dk 12 hHeld ?_
     try simp only[p7]
     first|refine tq 13 hHeld ?_|refine dk 13 hHeld ?_
     try simp only[p7]
     first|refine tq 14 hHeld ?_|refine dk 14 hHeld ?_
     try simp only[p7]
     first|refine tq 15 hHeld ?_|refine dk 15 hHeld ?_
     try simp only[p7]
     first|refine tq 16 hHeld ?_|refine dk 16 hHeld ?_
     try simp only[p7]
     first|refine tq 17 hHeld ?_|refine dk 17 hHeld ?_
     try simp only[p7]
     first|refine tq 18 hHeld ?_|refine dk 18 hHeld ?_
     try simp only[p7]
     first|refine tq 19 hHeld ?_|refine dk 19 hHeld ?_
     try simp only[p7]
     first|refine tq 20 hHeld ?_|refine dk 20 hHeld ?_
     try simp only[p7]
     first|refine tq 21 hHeld ?_|refine dk 21 hHeld ?_
     try simp only[p7]
     first|refine tq 22 hHeld ?_|refine dk 22 hHeld ?_
     try simp only[p7]
     first|refine tq 23 hHeld ?_|refine dk 23 hHeld ?_
     try simp only[p7]
     first|refine tq 24 hHeld ?_|refine dk 24 hHeld ?_
     try simp only[p7]
     first|refine tq 25 hHeld ?_|refine dk 25 hHeld ?_
     try simp only[p7]
     first|refine tq 26 hHeld ?_|refine dk 26 hHeld ?_
     try simp only[p7]
     first|refine tq 27 hHeld ?_|refine dk 27 hHeld ?_
     try simp only[p7]
     first|refine tq 28 hHeld ?_|refine dk 28 hHeld ?_
     try simp only[p7]
     first|refine tq 29 hHeld ?_|refine dk 29 hHeld ?_
     try simp only[p7]
     first|refine tq 30 hHeld ?_|refine dk 30 hHeld ?_
     try simp only[p7]
     first|refine tq 31 hHeld ?_|refine dk 31 hHeld ?_
     try simp only[p7]
     first|refine tq 32 hHeld ?_|refine dk 32 hHeld ?_
     try simp only[p7]
     first|refine tq 33 hHeld ?_|refine dk 33 hHeld ?_
     try simp only[p7]
     first|refine tq 34 hHeld ?_|refine dk 34 hHeld ?_
     try simp only[p7]
     first|refine tq 35 hHeld ?_|refine dk 35 hHeld ?_
     try simp only[p7]
     first|refine tq 36 hHeld ?_|refine dk 36 hHeld ?_
     try simp only[p7]
     first|refine tq 37 hHeld ?_|refine dk 37 hHeld ?_
     try simp only[p7]
     first|refine tq 38 hHeld ?_|refine dk 38 hHeld ?_
     try simp only[p7]
     first|refine tq 39 hHeld ?_|refine dk 39 hHeld ?_
     try simp only[p7]
     first|refine tq 40 hHeld ?_|refine dk 40 hHeld ?_
     try simp only[p7]
     refine wpAnyH_done (by kernel_rfl) ?_ _;go_wp2_with fail;go_meet;exact⟨by rw[d8.out];simp,rfl⟩
   case rest =>
   obtain⟨rfl,j2⟩:=hcut;subst j2;cases bad with
   | true =>
    have c1:Hid (res=false):=hid (by rw[z.out];rfl);go_wp2_with fail;go_ret;rw[c1.out];exact⟨rfl,b1.out⟩
   | false =>
    have i0:Hid (jM b (b.prims.drop (i+1)) (gQ (gQ g D (-1) 1) (-1) F 1)=res):=hid (by rw[z.out];rfl);have b5:Hid (VL (gQ (gQ g D (-1) 1) (-1) F 1)):=hid ((a7.out.upd _ _).upd _ _);have za:=aT.cell k6.out;have zb:=aT.cell k7.out;have j5:n0<50000000000000:=by omega
    have h9:=hid c3;clear I c7 c8 g5 g8 z c3;go_wp2_with fail;refine wp_region_held_drew (S:=(fun w'=>w'.cell? ⟨g6,0,none⟩=some (.int .i64 D)∧w'.cell? ⟨g6,1,none⟩=some (.int .i64 (-1))∧w'.cell? ⟨g7,0,none⟩=some (.int .i64 (-1))∧w'.cell? ⟨g7,1,none⟩=some (.int .i64 F))) (by kernel_rfl) ?_ (fun hHeld=>?_)
    . (try dsimp only);exact⟨za 0,za 1,zb 0,zb 1⟩
    refine tq 0 hHeld ?_;try simp only[p7]
    refine tq 1 hHeld ?_;try simp only[p7]
    refine tq 2 hHeld ?_;try simp only[p7]
    refine tq 3 hHeld ?_;try simp only[p7]
    refine r1 4 fun K hK=>?_;refine jO rfl (AD (.tmp 84) (.tmp 85) _ rfl uV (by rfl) (show GH WX.drew.drew bm n0 g from b9.out) (by omega) D (-1) 1 (by rfl) a9 (cH (by omega) (by omega)) (by rfl) (cH (by omega) (by omega)) ?_);intro w8 f6 a2;have e0:=hid a2;have c9:=fun i=>(aT.cell (aT.grown (show aT WX.drew.drew _ _ _ from k6.out) a2 (by intro e;injection e with e;omega)) i);have d4:=fun i=>(aT.cell (aT.grown (show aT WX.drew.drew _ _ _ from k7.out) a2 (by intro e;injection e with e;omega)) i);have h7:=hid f6;have d7:=hid ((aU b1.out 1).grown a2 b1.out.size (fun g hg=>by injection hg with hg;omega));have h4:=hid (aT.grown (show aT WX.drew.drew _ _ _ from b8.out) a2 (by intro e;injection e with e;omega));clear f6 a2;refine hK.out _ _ (by exact⟨c9 0,c9 1,d4 0,d4 1⟩) fun hHeld=>?_;clear hK K;try simp only[p7]
    refine r1 5 fun K hK=>?_;refine jO rfl (AD (.tmp 86) (.tmp 87) _ rfl uV (by rfl) h7.out (by omega) (-1) F 1 (by rfl) (cH (by omega) (by omega)) b0 (by rfl) (cH (by omega) (by omega)) ?_);intro w9 f7 a8;have d0:=fun i=>(aT.cell (aT.grown (aT.grown (show aT WX.drew.drew _ _ _ from k6.out) e0.out (by intro e;injection e with e;omega)) a8 (by intro e;injection e with e;omega)) i);have d5:=fun i=>(aT.cell (aT.grown (aT.grown (show aT WX.drew.drew _ _ _ from k7.out) e0.out (by intro e;injection e with e;omega)) a8 (by intro e;injection e with e;omega)) i);have h8:=hid f7;have g9:=hid (d7.out.grown a8 d7.out.size (fun g hg=>by injection hg with hg;omega));have h5:=hid (aT.grown h4.out a8 (by intro e;injection e with e;omega));clear f7 a8;refine hK.out _ _ (by exact⟨d0 0,d0 1,d5 0,d5 1⟩) fun hHeld=>?_;clear hK K;try simp only[p7]
    refine wpAnyH_done (by kernel_rfl) ?_ _;clear c9 d4 d0 d5 za zb hHeld;go_wp2_with fail;go_roundw
    case rel=>exact⟨i+1,_,by go_num,by omega,i0,b5,hid (h8.out.mono (by have:=h9.out;omega)),h5,g9⟩
    case measure=>simp[intOf];omega
end
end Go.Proofs.YtjoddliplahgkaaGreat
