/- Merged: GoF, RvR. -/
import Derived.Test.YtjoddliplahgkaaGreatPRefRi
import Derived.Test.YtjoddliplahgkaaGreatPWhG
namespace Go.Proofs.YtjoddliplahgkaaGreat
set_option linter.unusedVariables false
set_option linter.unusedSimpArgs false
open Go.RowKit
open Go.Value renaming int → O, slice → Y
open Go.IntKind renaming i64 → X
open Option renaming none → Z
section
open Go.Lib renaming hid->aB
theorem JB {b:Bk} {i:Int} {l:List Nd} (h:bP b=0) (h0:0<=i):fA b i l=fC b b.entries.length (-1) l i:=by
 unfold fA;rw[if_neg aA,if_neg aA]
set_option maxRecDepth 100000 in
set_option maxHeartbeats 4000000 in
theorem o6 {w:World} {v:bO} {b:Bk} (hb:bX w v b) {cA:Option Addr} {cn cc:Nat} {bs:List (List Nd×List Nd)} (hc:jH (· < w.heap.size) w cA cn cc bs) {A:Option Addr} {n c:Nat} {l:List Nd} (ht:aY w A n c l) :
 Calls Tryz.prog 12 #[.agg #[O X b.vars,Y v.Ao v.no v.co,Y v.Ae v.ne v.ce,O X b.nat,Y v.Ap v.np v.cp],Y cA cn cc,Y A n c] w (iG (gN b bs l) w):=by
 obtain⟨w1,c8⟩ : ∃w1:World,w1=w.alloc (.cells #[O X b.vars,Y v.Ao v.no v.co,Y v.Ae v.ne v.ce,O X b.nat,Y v.Ap v.np v.cp] 26):=⟨_,rfl⟩;have b6:Below w.heap.size w w1:=by rw[c8];exact aP _ _
 have d4:aS w1 w.heap.size 26 #[O X b.vars,Y v.Ao v.no v.co,Y v.Ae v.ne v.ce,O X b.nat,Y v.Ap v.np v.cp]:=by rw[c8];exact aS.new _ _ _
 have d3:=aB (zU (hb.below b6));have f3:v.ne=b.entries.length:=hb.entries.len.symm;have e6:Hid (bP b=0->∀(W:World) (hB:Below w1.heap.size w1 W) (free:Nat) (A':Option Addr) (n' c':Nat) (l':List Nd) (h:aY W A' n' c' l'),Calls Tryz.prog 30 #[.agg #[O X b.vars,Y v.Ao v.no v.co,Y v.Ae v.ne v.ce,O X b.nat,Y v.Ap v.np v.cp],O X (v.ne:Int),O X (-1),O X (free:Int),Y A' n' c'] W (iG (fA b free l') W)):=aB (fun h0 W hB free A' n' c' l' h=>by
  rw[JB h0 aA,<-f3];exact kB ((hb.below b6).below hB) (v.ne:Int) (-1) (free:Int) aA h)
 have HT:=aB (ht.below b6);have HC:=aB (hc.below b6);have a6:=aB b6;have a9:=hc.len;have g4:=hc.few;obtain⟨res,a0⟩ : ∃r,r=gN b bs l:=⟨_,rfl⟩;rw[<-a0];unfold gN at a0;rw[a9] at a0;have b1:=aB a0;have b9:=aB a9;have c9:w.heap.size<w1.heap.size:=d4.lt;have z1:=d4.cell;clear hb hc ht b6 d4 a0 a9 f3;obtain⟨re,f0⟩ : ∃z,z=bP b:=⟨_,rfl⟩;rw[<-f0] at d3 b1 e6;clear f0;go_in;go_upto_region 1 with fail
 rw[<-c8];clear c8;by_cases h0:re=0;rotate_left
 · have d0:(re != 0)=true:=by simpa using h0
   have HR:Hid (res=re):=aB (by rw[b1.o,if_pos h0]);clear h0;go_wp2_with fail;refine (d3.o).mono ?_;rintro e w2 ⟨rfl,a7⟩;have c7:=bZ a6 a7;clear a7;go_wp2_with fail;go_ret;rw[HR.o];exact⟨rfl,c7.o⟩
 subst h0;have b2:=aB (e6.o rfl);have a8:Hid (res=if 256<cn then 5 else if fO b 0 bs ≠ 0 then fO b 0 bs else fA b cn l):=aB (by have h:=b1.o;rw[if_neg aD] at h;exact h);by_cases h1:256<cn
 · have d1:decide ((cn:Int)>256)=true:=decide_eq_true aA;have HR:Hid (res=5):=aB (by rw[a8.o,if_pos h1]);clear h1;go_wp2_with fail;refine (d3.o).mono ?_;rintro e w2 ⟨rfl,a7⟩;have c7:=bZ a6 a7;clear a7;go_wp2_with fail;go_ret;rw[HR.o];exact⟨rfl,c7.o⟩
 have d1:decide ((cn:Int)>256)=false:=decide_eq_false aA;have a2:Hid (res=if fO b 0 bs ≠ 0 then fO b 0 bs else fA b cn l):=aB (by have h:=a8.o;rw[if_neg h1] at h;exact h);clear h1 e6;go_wp2_with fail;refine (d3.o).mono ?_;rintro e w2 ⟨rfl,a7⟩;have c7:=aB a7;clear a7;go_wp2_with fail;go_loopw [7,8] (fun ev iv wr=>∃i:Nat,i<=cn/\iv=O X (i:Int)/\ev=O X 0/\Hid (fO b 0 bs=fO b i (bs.drop i))/\Hid (Below w1.heap.size w1 wr)) (fun _ iv _=>cn-(intOf iv).toNat)
 case atStart=>exact⟨0,by omega,rfl,rfl,aB rfl,c7⟩
 case round =>
  obtain⟨i,hi,rfl,rfl,d2,a1⟩:=hrel;have zr:=fun k=>(a1.o.cell (p:=⟨w.heap.size,k,Z⟩) c9).trans (z1 k);have b4:w.heap.size<wr.heap.size:=Nat.lt_of_lt_of_le c9 a1.o.size;by_cases hlt:i<cn;rotate_left
  · have e1:decide ((i:Int)<(cn:Int))=false:=decide_eq_false aA;have e2:decide (i<cn)=false:=decide_eq_false hlt;have HR:Hid (res=fA b cn l):=aB (by
     have h:=d2.o;rw[List.drop_of_length_le (by rw[b9.o];omega)] at h;have h2:fO b 0 bs=0:=h;rw[a2.o,h2,if_neg aD])
    have f7:=aB (b2.o wr a1.o cn A n c l (HT.o.below a1.o));have a3:=aB a1.o;rw[<-HR.o] at f7;clear d2 a1 hlt;go_wp2_with fail;refine (f7.o).mono ?_;rintro e w3 ⟨rfl,b8⟩;have a5:Hid (Below w.heap.size w w3):=aB ((a6.o.trans (a3.o.mono a6.o.size)).trans (b8.mono (by have:=a6.o.size;have:=a3.o.size;omega)));clear b8;go_wp2_with fail;go_ret;exact⟨rfl,a5.o⟩
  have e1:decide ((i:Int)<(cn:Int))=true:=decide_eq_true aA;have e2:decide (i<cn)=true:=decide_eq_true hlt;have e3:(i:Int)<(cn:Int):=aA;obtain⟨bb,oo,g5,e4,hm⟩:=HC.o.mem aA;obtain⟨A1,n1,c1,A2,n2,c2,y1,y2,t1,t2⟩:=hm i hlt;have il:i<bs.length:=by rw[b9.o];exact hlt
  have f5:bs.drop i=bs.getD i ([],[])::bs.drop (i+1):=by
   rw[List.drop_eq_getElem_cons il,List.getD_eq_getElem?_getD,List.getElem?_eq_getElem il];rfl
  generalize bs.getD i ([],[])=x at *;have f4:x.2.length=n2:=t2.len;have b7:=d2.o;rw[f5] at b7;simp only[fO] at b7;rw[f4] at b7;have e8:=aB b7;obtain⟨f1,d9⟩ : ∃z,z=fA b i x.1:=⟨_,rfl⟩;obtain⟨f2,d8⟩ : ∃z,z=fA b i x.2:=⟨_,rfl⟩;rw[<-d9,<-d8] at e8;have u1:=(a1.o.cell (p:=⟨bb,oo+i*2,Z⟩) e4).trans y1;have u2:=(a1.o.cell (p:=⟨bb,oo+i*2+1,Z⟩) e4).trans y2;have b0:bb<wr.heap.size:=Nat.lt_of_lt_of_le e4 a1.o.size;have a3:=aB a1.o;have e7:=aB (fun (W:World) (hB:Below wr.heap.size wr W)=>b2.o W (a3.o.trans (hB.mono a3.o.size)) i A1 n1 c1 x.1 (bJ.keep t1 (R':=(· < W.heap.size)) fun q hq=>⟨Nat.lt_of_lt_of_le hq (a3.o.trans (hB.mono a3.o.size)).size,fun o=>(a3.o.trans (hB.mono a3.o.size)).cell (p:=⟨q,o,Z⟩) hq⟩));have c0:=aB (fun (w3:World) (h3:Below w1.heap.size w1 w3) (W:World) (hB:Below w3.heap.size w3 W)=>b2.o W (h3.trans (hB.mono h3.size)) i A2 n2 c2 x.2 (bJ.keep t2 (R':=(· < W.heap.size)) fun q hq=>⟨Nat.lt_of_lt_of_le hq (h3.trans (hB.mono h3.size)).size,fun o=>(h3.trans (hB.mono h3.size)).cell (p:=⟨q,o,Z⟩) hq⟩));rw[<-d9] at e7;rw[<-d8] at c0;clear d2 a1 hm y1 y2 t1 t2 f5 b7 d9 d8 f4 il;subst g5;go_upto_region 9 with fail
  refine wp_region_held_drew (S:=(fun w'=>Below wr.heap.size wr w')) aC ?_ (fun hZ => ?_)
  · (try dsimp only);exact aT (Below.refl _ _) 1
  have f9:Hid (Below wr.heap.size wr wr.drew):=aB (aT (Below.refl _ _) 1);generalize wr.drew=W1 at *;refine tk 0 ?_ (fun wq hSw => ?_) hZ ?_;rotate_left
  · have k0:=(hSw.cell (p:=⟨w.heap.size,0,Z⟩) b4).trans (zr 0);have k1:=(hSw.cell (p:=⟨w.heap.size,1,Z⟩) b4).trans (zr 1);have k2:=(hSw.cell (p:=⟨w.heap.size,2,Z⟩) b4).trans (zr 2);have k3:=(hSw.cell (p:=⟨w.heap.size,3,Z⟩) b4).trans (zr 3);have k4:=(hSw.cell (p:=⟨w.heap.size,4,Z⟩) b4).trans (zr 4);go_simp;try with_reducible rfl
  try simp only[p7]
  refine aL 1 hZ ?_;refine tk 2 ?_ (fun wq hSw => ?_) hZ ?_;rotate_left
  · have k2:=(hSw.cell (p:=⟨w.heap.size,2,Z⟩) b4).trans (zr 2);go_simp;try with_reducible rfl
  try simp only[p7]
  refine aL 3 hZ ?_;refine aL 4 hZ ?_;refine aL 5 hZ ?_;refine aL 6 hZ ?_;refine aL 7 hZ ?_;refine aL 8 hZ ?_;refine tk 9 ?_ (fun wq hSw => ?_) hZ ?_;rotate_left
  · have y1:=(hSw.cell (p:=⟨bb,oo+i*2,Z⟩) b0).trans u1;go_simp;try with_reducible rfl
  try simp only[p7]
  refine r1 10 fun K hK => ?_;go_simp;go_at_call 30
  refine (e7.o _ f9.o).mono ?_;rintro en w3 ⟨rfl,b8⟩;have a4:Hid (Below wr.heap.size wr w3):=bZ f9 b8;have a5:Hid (Below w1.heap.size w1 w3):=aB (a3.o.trans (a4.o.mono a3.o.size));clear b8;go_wp2_with fail;refine hK.o _ _ (by exact a4.o) fun hZ => ?_;clear hK K;try simp only[p7]
  refine aL 11 hZ ?_;refine wpAnyH_done aC ?_ _;have b3:=fun k=>(a5.o.cell (p:=⟨w.heap.size,k,Z⟩) c9).trans (z1 k);have b5:w.heap.size<w3.heap.size:=Nat.lt_of_lt_of_le c9 a5.o.size;have u3:=(a4.o.cell (p:=⟨bb,oo+i*2+1,Z⟩) b0).trans u2;have e0:bb<w3.heap.size:=Nat.lt_of_lt_of_le b0 a4.o.size;have f8:=aB (c0.o w3 a5.o);clear c0 e7 u1 u2 zr;have c0:=f8;clear f8;by_cases g1:f1=0;rotate_left
  · have d5:(f1 != 0)=true:=by simpa using g1
    have d6:(f1==0)=false:=by simpa using g1
    have HR:Hid (res=f1):=aB (by have h:=e8.o;rw[if_pos g1] at h;rw[a2.o,h,if_pos g1]);have e9:Hid (Below w.heap.size w w3):=aB (a6.o.trans (a5.o.mono a6.o.size));clear g1;go_wp2_with fail;go_ret;rw[HR.o];exact⟨rfl,e9.o⟩
  have c4:Hid (fO b 0 bs=if n2=0 then fO b (i+1) (bs.drop (i+1)) else if f2 ≠ 0 then f2 else fO b (i+1) (bs.drop (i+1))):=aB (by have h:=e8.o;rw[if_neg (by simpa using g1)] at h;exact h);subst g1;by_cases g2:n2=0
  · have d5:decide ((n2:Int)>0)=false:=decide_eq_false aA;have d6:decide (0<n2)=false:=decide_eq_false aA;have e5:Hid (fO b 0 bs=fO b (i+1) (bs.drop (i+1))):=aB (by have h:=c4.o;rw[if_pos g2] at h;exact h);clear g2;go_wp2_with fail;go_roundw
    case rel=>exact⟨i+1,by omega,by go_num,rfl,e5,a5⟩
    case measure=>simp[intOf];omega
  have d5:decide ((n2:Int)>0)=true:=decide_eq_true aA;have d6:decide (0<n2)=true:=decide_eq_true aA;have c3:Hid (fO b 0 bs=if f2 ≠ 0 then f2 else fO b (i+1) (bs.drop (i+1))):=aB (by have h:=c4.o;rw[if_neg g2] at h;exact h);clear g2;go_upto_region 11 with fail
  refine wp_region_held_drew (S:=(fun w'=>Below w3.heap.size w3 w')) aC ?_ (fun hZ => ?_)
  · (try dsimp only);exact aT (Below.refl _ _) 1
  have c5:Hid (Below w3.heap.size w3 w3.drew):=aB (aT (Below.refl _ _) 1);generalize w3.drew=W3d at *;refine tk 0 ?_ (fun wq hSw => ?_) hZ ?_;rotate_left
  · have k0:=(hSw.cell (p:=⟨w.heap.size,0,Z⟩) b5).trans (b3 0);have k1:=(hSw.cell (p:=⟨w.heap.size,1,Z⟩) b5).trans (b3 1);have k2:=(hSw.cell (p:=⟨w.heap.size,2,Z⟩) b5).trans (b3 2);have k3:=(hSw.cell (p:=⟨w.heap.size,3,Z⟩) b5).trans (b3 3);have k4:=(hSw.cell (p:=⟨w.heap.size,4,Z⟩) b5).trans (b3 4);go_simp;try with_reducible rfl
  try simp only[p7]
  refine aL 1 hZ ?_;refine tk 2 ?_ (fun wq hSw => ?_) hZ ?_;rotate_left
  · have k2:=(hSw.cell (p:=⟨w.heap.size,2,Z⟩) b5).trans (b3 2);go_simp;try with_reducible rfl
  try simp only[p7]
  refine aL 3 hZ ?_;refine aL 4 hZ ?_;refine aL 5 hZ ?_;refine aL 6 hZ ?_;refine aL 7 hZ ?_;refine aL 8 hZ ?_;refine tk 9 ?_ (fun wq hSw => ?_) hZ ?_;rotate_left
  · have y1:=(hSw.cell (p:=⟨bb,oo+i*2+1,Z⟩) e0).trans u3;go_simp;try with_reducible rfl
  try simp only[p7]
  refine r1 10 fun K hK => ?_;go_simp;go_at_call 30
  refine (c0.o _ c5.o).mono ?_;rintro en w4 ⟨rfl,f6⟩;have c6:Hid (Below w3.heap.size w3 w4):=bZ c5 f6;have g0:Hid (Below w1.heap.size w1 w4):=aB (a5.o.trans (c6.o.mono a5.o.size));clear f6;go_wp2_with fail;refine hK.o _ _ (by exact c6.o) fun hZ => ?_;clear hK K;try simp only[p7]
  refine aL 11 hZ ?_;refine wpAnyH_done aC ?_ _;by_cases g3:f2=0;rotate_left
  · have d7:(f2 != 0)=true:=by simpa using g3
    have HR:Hid (res=f2):=aB (by have h:=c3.o;rw[if_pos g3] at h;rw[a2.o,h,if_pos g3]);have e9:Hid (Below w.heap.size w w4):=aB (a6.o.trans (g0.o.mono a6.o.size));clear g3;go_wp2_with fail;go_ret;rw[HR.o];exact⟨rfl,e9.o⟩
  have e5:Hid (fO b 0 bs=fO b (i+1) (bs.drop (i+1))):=aB (by have h:=c3.o;rw[if_neg (by simpa using g3)] at h;exact h);subst g3;go_wp2_with fail;go_roundw
  case rel=>exact⟨i+1,by omega,by go_num,rfl,e5,g0⟩
  case measure=>simp[intOf];omega
end
section
open Go.Lib renaming hid->aB
theorem MY {F1 F2:Fo} {f nd:Nd} {ats:List Nd} {ks:Fo} (h:gD true 0 (F1.app (.cons [f] nd ats ks F2))) (hp:bF F1 % 2=0) :
 bD (cO (F1.app (.cons [f] nd ats ks F2))) (bF F1 / 2)=f/\bF F1 / 2<(cO (F1.app (.cons [f] nd ats ks F2))).length:=by
 rw[gD.app] at h;have h1:=xF F1 0 h.1;have h2:(cO F1).length=bF F1 / 2:=aA;rw[iB];simp only[cO,bD];refine⟨?_,by simp;omega⟩;rw[<-h2];simp
set_option maxRecDepth 100000 in
set_option maxHeartbeats 2000000 in
theorem J5 (m:Nat) (ih:∀(w:World) (R:Nat->Prop) (xs:List Value) (n:Nd) (atoms:List Nd) (kids:Fo),(∀b,R b->b<w.heap.size)->cR R w xs n atoms kids->gD (decide (n.op=12)) 0 kids->(row (.cons [] n atoms kids .nil)).length<=5864062014805->aX kids<m →
      Calls Tryz.prog 47 #[.agg xs.toArray] w (lL (row (.cons [] n atoms kids .nil)) w))
 (w:World) (R:Nat->Prop) (xs:List Value) (n:Nd) (atoms:List Nd) (kids:Fo) (hR:∀b,R b->b<w.heap.size) (ht:cR R w xs n atoms kids) (hp:gD (decide (n.op=12)) 0 kids) (hlen:(row (.cons [] n atoms kids .nil)).length<=5864062014805) (hsz:aX kids<=m) :
 Calls Tryz.prog 47 #[.agg xs.toArray] w (lL (row (.cons [] n atoms kids .nil)) w):=by
 have HI:=aB ih;clear ih;obtain⟨sk,sa,sf,rfl,⟨Ak,nk,ck,rfl,f5⟩,⟨Aa,na,ca,rfl,f7⟩,⟨Af,nf,cf,rfl,g6⟩⟩:=ht;obtain⟨i0,hi,f1,f0,e9⟩:=info_parts mN;have d6:=aB hi;have d5:=aB f1;have d4:=aB f0;have d3:=aB e9;clear hi f1 f0 e9;have b9:atoms.length+(row kids).length+1<=5864062014805:=by
  simp only[row,List.nil_append,List.length_cons,List.length_append,List.append_nil] at hlen;omega
 have a2:=aB b9;clear hlen b9;go_in;go_wp2_with (at_builtin;refine bL rfl (cE (.tmp 7) (.tmp 9) 29 28 rfl (w.heap.size+1) i0 Tryz.underlying29 Tryz.underlying28 d6.o d5.o d4.o d3.o (Y (some ⟨w.heap.size+1,0,Z⟩) 1 1) [n] atoms rfl (t7 aD aD n) rfl (f7.keep (R':=fun _=>True) fun b hb=>⟨trivial,fun o=>by have:=hR b hb;rw[World.cell?_alloc_lt _ _ _ aG,World.cell?_alloc_lt _ _ _ this]⟩) (by have:=a2.o;have:=f7.len;simp<;>omega) aH ?_);intro A1 c1 w1 c8 b3)
 -- LOOP
 have g7:Below w.heap.size w w1:=(a7 w _ _).grown b3.grown aG (fun g hg=>by
  have:w.heap.size+1=g:=by simpa[Value.ownBlock] using hg
  omega)
 have e4:aS w1 w.heap.size 85 #[O X n.op,O X n.a,O X n.b,Y Ak nk ck,Y Aa na ca,Y Af nf cf]:=aS.grown ((aS.new _ _ _).alloc _) b3.grown (fun e=>by
  simp[Value.ownBlock] at e)
 have e6:=aB hsz;have HP:=aB hp;have e8:=aB f5.len;clear hsz hp b3;have h6:nk<=1000000000000000:=by
  have h1:=a2.o;have h2:=e8.o;have h3:=GN kids;omega
 go_loopw [3,4] (fun v i wr=>∃(F1 F2:Fo) (j:Nat) (A1:Option Addr) (k1 c1:Nat),kids=F1.app F2/\bF F1=j/\v=Y A1 k1 c1/\i=O X (j:Int)/\bN wr (w.heap.size+1) (Y A1 k1 c1) (n::(atoms++row F1))/\Below w.heap.size w wr ∧
  aS wr w.heap.size 85 #[O X n.op,O X n.a,O X n.b,Y Ak nk ck,Y Aa na ca,Y Af nf cf]) (fun _ i _=>nk-(intOf i).toNat)
 case atStart=>exact⟨.nil,kids,0,A1,_,c1,rfl,rfl,rfl,rfl,by simpa[row] using c8,g7,e4⟩
 case round =>
  obtain⟨F1,F2,j,A1,k1,c1,hk,hj,rfl,rfl,a4,b2,a5⟩:=hrel;have HK:=aB hk;have HJ:=aB hj;have b4:w.heap.size+1<=wr.heap.size:=aS.lt a5;have c9:=f5.keep (R':=R) (w':=wr) (fun b hb=>⟨hb,fun o=>b2.cell (p:=⟨b,o,Z⟩) (hR b hb)⟩);have d1:=g6.keep (R':=R) (w':=wr) (fun b hb=>⟨hb,fun o=>b2.cell (p:=⟨b,o,Z⟩) (hR b hb)⟩);have zc:=aS.cell a5;cases F2 with
  | nil =>
   have f6:j=nk:=by rw[<-e8.o,hk,bV,hj];rfl
   have f9:¬ j<nk:=aA;clear hk hj f6;go_wp2_with fail;go_ret;refine⟨b2,A1,k1,c1,rfl,?_⟩;have hd:row (.cons [] n atoms kids .nil)=n::(atoms++row F1):=by rw[HK.o,jJ];simp[row]
   rw[hd];have hl:(n::(atoms++row F1)).length<=5864062014805:=by
    have:=a2.o;rw[HK.o,jJ] at this;simp;omega
   obtain⟨A',n',c',e,ht⟩:=a4.termS hl;injection e with e1 e2 e3;subst e1 e2 e3;exact ht.keep fun b hb=>⟨⟨by have:=(aU a4 hb).1;omega,(aU a4 hb).2.1⟩,fun _=>rfl⟩
  | cons pre nd ats ks F2 =>
   have f6:j<nk:=by rw[<-e8.o,hk,bV,hj];simp[bF]
   have d0:dM R wr Ak nk ck (F1.app (.cons pre nd ats ks F2)):=by rw[<-hk];exact c9
   have d8:gD (decide (n.op=12)) 0 (F1.app (.cons pre nd ats ks F2)):=by rw[<-hk];exact HP.o
   obtain⟨b,off,sk',sa',sf',rfl,f8,b0,g0,g1,g2,g3,g4,g5⟩:=d0.at_;rw[hj] at g0 g1 g2 g3 g4 g5;obtain⟨c6,d7,_⟩:=(gD.app F1 _ 0).1 d8 |>.2;rw[Nat.zero_add,hj] at c6;have g9:=aB d8;have a9:bJ R wr Af nf cf (cO (F1.app (.cons pre nd ats ks F2))):=by rw[<-hk];exact d1
   clear hk hj d0 d8 c9 d1;by_cases h12:n.op=12
   · have e5:(n.op==12)=true:=by simp[h12]
     by_cases hpar:j % 2=0;rotate_left
     · have c7:((j:Int) % 2==0)=false:=by simp;omega
       have b5:pre=[]:=List.eq_nil_of_length_eq_zero (by rw[c6,if_neg (fun hh=>hpar hh.2)]);have e7:=aB b5;clear h12 hpar c6 b5 a9;go_wp2_with fail;refine (HI.o wr R [O X nd.op,O X nd.a,O X nd.b,sk',sa',sf'] nd ats ks (fun b hb=>Nat.lt_of_lt_of_le (hR b hb) b2.size) b0 d7 (by have:=a2.o;rw[HK.o,iO] at this;simp only[row,List.length_append,List.length_cons,List.nil_append,List.append_nil] at this ⊢;omega) (by have:=e6.o;rw[HK.o,dO] at this;simp only[aX] at this;omega)).mono ?_;rintro e w2 ⟨a8,A3,n3,c3,rfl,b6⟩;have f3:n3+(row F1).length+atoms.length+1<=5864062014805:=by
        have:=a2.o;rw[HK.o,iO] at this;have h3:=b6.len;simp only[row,List.length_append,List.length_cons,List.nil_append,List.append_nil] at this h3;omega
       have a0:=bN.below a4 a8;have d2:w.heap.size+1<=w2.heap.size:=Nat.le_trans b4 a8.size;go_wp2_with (at_builtin;refine bL rfl (cE (.tmp 36) (.tmp 42) 29 29 rfl (w.heap.size+1) i0 Tryz.underlying29 Tryz.underlying29 d6.o d5.o d4.o d3.o _ (n::(atoms++row F1)) _ rfl a0 rfl b6 aH d2 ?_);intro A4 c4 w4 a3 a1)
       go_roundw
       case rel =>
        refine⟨F1.app (.cons pre nd ats ks .nil),F2,j+1,A4,_,c4,by rw[HK.o,dG];rfl,by rw[bV];simp[bF,HJ.o],rfl,by go_num,?_,((b2.trans (a8.mono b2.size)).grown a1.grown aA (fun g hg=>by have:=(aU a0 hg).1;omega)),aS.grown (aS.below a5 a8 (aS.lt a5)) a1.grown (eY a0 (Nat.lt_succ_self _))⟩;have e:(n::(atoms++row (F1.app (.cons pre nd ats ks .nil))))=(n::(atoms++row F1))++row (.cons [] nd ats ks .nil):=by
         have b5:=e7.o;subst b5;rw[iO];simp[row]
        exact a3.cast aH e.symm
       case measure=>simp[intOf];omega
     have c7:((j:Int) % 2==0)=true:=by simp;omega
     obtain⟨f,rfl⟩ : ∃f,pre=[f]:=List.length_eq_one_iff.1 (by rw[c6,if_pos ⟨by simp[h12],hpar⟩]);obtain⟨e0,d9⟩:=MY (by have:=g9.o;rwa [decide_eq_true h12] at this) (by rw[HJ.o];exact hpar);rw[HJ.o] at e0 d9;rw[a9.len] at d9;obtain⟨bf,offf,g8,h5,f2⟩:=a9.mem aA;obtain⟨p0,p1,p2⟩:=f2 (j / 2) (by rw[a9.len];exact d9);subst g8;rw[e0] at p0 p1 p2;clear h12 hpar c6 e0 f2 a9;have b7:∀w5:World,Below w.heap.size w w5->∀b',R b'->∀o,w5.cell? ⟨b',o,Z⟩=wr.cell? ⟨b',o,Z⟩:=fun w5 hb5 b' hb' o=>(hb5.cell (p:=⟨b',o,Z⟩) (hR b' hb')).trans (b2.cell (p:=⟨b',o,Z⟩) (hR b' hb')).symm;have c2:=aB b7;clear b7;have f4:(n::(atoms++row F1)).length+1<=5864062014805:=by
      have:=a2.o;rw[HK.o,iO] at this;simp only[row,List.length_append,List.length_cons] at this ⊢;omega
     have h0:=aB f4;clear f4;go_wp2_with (at_builtin;refine bL rfl (cQ (.tmp 27) (.tmp 34) 29 rfl (w.heap.size+1) i0 Tryz.underlying29 d6.o d5.o d4.o d3.o (Y A1 k1 c1) (n::(atoms++row F1)) f wr rfl rfl a4 _ rfl aD h0.o b4 ?_);intro A5 c5 w5 b8 c0;simp only[List.length_cons,List.length_append] at b8;have a6:=aS.grown a5 c0.grown (eY a4 (Nat.lt_succ_self _));have b1:=b2.grown c0.grown (Nat.le_of_lt b4) (fun g hg=>by have:=(aU a4 hg).1;omega);have h4:=aS.cell a6;have zk:=c2.o w5 b1 b f8)
     refine (HI.o w5 R [O X nd.op,O X nd.a,O X nd.b,sk',sa',sf'] nd ats ks (fun b hb=>Nat.lt_of_lt_of_le (hR b hb) b1.size) (b0.keep (R':=R) (w':=w5) fun b hb=>⟨hb,c2.o w5 b1 b hb⟩) d7 (by have:=a2.o;rw[HK.o,iO] at this;simp only[row,List.length_append,List.length_cons,List.nil_append,List.append_nil] at this ⊢;omega) (by have:=e6.o;rw[HK.o,dO] at this;simp only[aX] at this;omega)).mono ?_;rintro e w2 ⟨a8,A3,n3,c3,rfl,b6⟩;have f3:n3+(row F1).length+atoms.length+1+1<=5864062014805:=by
      have:=a2.o;rw[HK.o,iO] at this;have h3:=b6.len;simp only[row,List.length_append,List.length_cons,List.nil_append,List.append_nil] at this h3
      skip
      omega
     have a0:=bN.below b8 a8;have d2:w.heap.size+1<=w2.heap.size:=Nat.le_trans (aS.lt a6) a8.size;go_wp2_with (at_builtin;refine bL rfl (cE (.tmp 36) (.tmp 42) 29 29 rfl (w.heap.size+1) i0 Tryz.underlying29 Tryz.underlying29 d6.o d5.o d4.o d3.o _ (n::(atoms++row F1)++[f]) _ rfl a0 rfl b6 aH d2 ?_);intro A4 c4 w4 a3 a1)
     go_roundw
     case rel =>
      refine⟨F1.app (.cons [f] nd ats ks .nil),F2,j+1,A4,_,c4,by rw[HK.o,dG];rfl,by rw[bV];simp[bF,HJ.o],rfl,by go_num,?_,((b1.trans (a8.mono b1.size)).grown a1.grown aA (fun g hg=>by have:=(aU a0 hg).1;omega)),aS.grown (aS.below a6 a8 (aS.lt a6)) a1.grown (eY a0 (Nat.lt_succ_self _))⟩;have e:(n::(atoms++row (F1.app (.cons [f] nd ats ks .nil))))=(n::(atoms++row F1)++[f])++row (.cons [] nd ats ks .nil):=by
       skip
       rw[iO];simp[row]
      exact a3.cast aH e.symm
     case measure=>simp[intOf];omega
   · have e5:(n.op==12)=false:=by simp[h12]
     have b5:pre=[]:=List.eq_nil_of_length_eq_zero (by rw[c6,if_neg (fun hh=>h12 (by simpa using hh.1))]);have e7:=aB b5;clear h12 c6 b5 a9;go_wp2_with fail;refine (HI.o wr R [O X nd.op,O X nd.a,O X nd.b,sk',sa',sf'] nd ats ks (fun b hb=>Nat.lt_of_lt_of_le (hR b hb) b2.size) b0 d7 (by have:=a2.o;rw[HK.o,iO] at this;simp only[row,List.length_append,List.length_cons,List.nil_append,List.append_nil] at this ⊢;omega) (by have:=e6.o;rw[HK.o,dO] at this;simp only[aX] at this;omega)).mono ?_;rintro e w2 ⟨a8,A3,n3,c3,rfl,b6⟩;have f3:n3+(row F1).length+atoms.length+1<=5864062014805:=by
      have:=a2.o;rw[HK.o,iO] at this;have h3:=b6.len;simp only[row,List.length_append,List.length_cons,List.nil_append,List.append_nil] at this h3;omega
     have a0:=bN.below a4 a8;have d2:w.heap.size+1<=w2.heap.size:=Nat.le_trans b4 a8.size;go_wp2_with (at_builtin;refine bL rfl (cE (.tmp 36) (.tmp 42) 29 29 rfl (w.heap.size+1) i0 Tryz.underlying29 Tryz.underlying29 d6.o d5.o d4.o d3.o _ (n::(atoms++row F1)) _ rfl a0 rfl b6 aH d2 ?_);intro A4 c4 w4 a3 a1)
     go_roundw
     case rel =>
      refine⟨F1.app (.cons pre nd ats ks .nil),F2,j+1,A4,_,c4,by rw[HK.o,dG];rfl,by rw[bV];simp[bF,HJ.o],rfl,by go_num,?_,((b2.trans (a8.mono b2.size)).grown a1.grown aA (fun g hg=>by have:=(aU a0 hg).1;omega)),aS.grown (aS.below a5 a8 (aS.lt a5)) a1.grown (eY a0 (Nat.lt_succ_self _))⟩;have e:(n::(atoms++row (F1.app (.cons pre nd ats ks .nil))))=(n::(atoms++row F1))++row (.cons [] nd ats ks .nil):=by
       have b5:=e7.o;subst b5;rw[iO];simp[row]
      exact a3.cast aH e.symm
     case measure=>simp[intOf];omega
theorem C4:∀(m:Nat) (w:World) (R:Nat->Prop) (xs:List Value) (n:Nd) (atoms:List Nd) (kids:Fo),(∀b,R b->b<w.heap.size)->cR R w xs n atoms kids->gD (decide (n.op=12)) 0 kids->(row (.cons [] n atoms kids .nil)).length<=5864062014805->aX kids<m →
      Calls Tryz.prog 47 #[.agg xs.toArray] w (lL (row (.cons [] n atoms kids .nil)) w)
 | 0,_,_,_,_,_,_,_,_,_,_,h=>absurd h aA
 | m+1,w,R,xs,n,atoms,kids,hR,ht,hp,hl,h=>J5 m (fun w R xs n atoms kids hR ht hp hl h=>C4 m w R xs n atoms kids hR ht hp hl h) w R xs n atoms kids hR ht hp hl aA
theorem NB {w:World} {R:Nat->Prop} {xs:List Value} {n:Nd} {atoms:List Nd} {kids:Fo} (hR:∀b,R b->b<w.heap.size) (ht:cR R w xs n atoms kids) (hp:gD (decide (n.op=12)) 0 kids) (hl:(row (.cons [] n atoms kids .nil)).length<=5864062014805) :
 Calls Tryz.prog 47 #[.agg xs.toArray] w (lL (row (.cons [] n atoms kids .nil)) w):=C4 _ w R xs n atoms kids hR ht hp hl (Nat.lt_succ_self _)
end
end Go.Proofs.YtjoddliplahgkaaGreat
