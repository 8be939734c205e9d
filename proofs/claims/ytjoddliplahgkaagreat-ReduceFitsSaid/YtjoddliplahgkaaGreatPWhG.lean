/- reduce: Fits, Step, run, Whnf. -/
import Derived.Test.YtjoddliplahgkaaGreatPWhF
namespace Go.Proofs.YtjoddliplahgkaaGreat
set_option linter.unusedVariables false
set_option linter.unusedSimpArgs false
open Go.RowKit
open Go.Value renaming int → O, slice → X
open Go.IntKind renaming i64 → S
open Option renaming none → Y
open Go.Lib renaming hid->aB
set_option maxHeartbeats 4000000
set_option maxRecDepth 100000
structure jH (R:Nat->Prop) (w:World) (A:Option Addr) (n c:Nat) (bs:List (List Nd×List Nd)):Prop where
 len:bs.length=n
 cap:n<=c
 few:n<=2932031007402
 nul:A=Y->c=0
 mem:0<n->∃b off,A=some ⟨b,off,Y⟩/\R b/\∀k,k<n->∃A1 n1 c1 A2 n2 c2,w.cell? ⟨b,off+k*2,Y⟩=some (X A1 n1 c1)/\w.cell? ⟨b,off+k*2+1,Y⟩=some (X A2 n2 c2)/\bJ R w A1 n1 c1 (bs.getD k ([],[])).1/\bJ R w A2 n2 c2 (bs.getD k ([],[])).2
theorem jH.keep {R R':Nat->Prop} {w w':World} {A:Option Addr} {n c:Nat} {bs:List (List Nd×List Nd)} (h:jH R w A n c bs) (hR:∀b,R b->R' b/\∀o,w'.cell? ⟨b,o,Y⟩=w.cell? ⟨b,o,Y⟩):jH R' w' A n c bs :=
 ⟨h.len,h.cap,h.few,h.nul,fun hn=>by
  obtain⟨b,off,e,hb,hm⟩:=h.mem hn;refine⟨b,off,e,(hR b hb).1,fun k hk => ?_⟩;obtain⟨A1,n1,c1,A2,n2,c2,h1,h2,h3,h4⟩:=hm k hk;exact⟨A1,n1,c1,A2,n2,c2,((hR b hb).2 _).trans h1,((hR b hb).2 _).trans h2,h3.keep hR,h4.keep hR⟩⟩
theorem jH.below {w w':World} {A:Option Addr} {n c:Nat} {bs:List (List Nd×List Nd)} (h:jH (· < w.heap.size) w A n c bs) (hb:Below w.heap.size w w'):jH (· < w'.heap.size) w' A n c bs:=h.keep fun q hq=>⟨Nat.lt_of_lt_of_le hq hb.size,fun o=>hb.cell (p:=⟨q,o,Y⟩) hq⟩
theorem jH.vals {R:Nat->Prop} {w:World} {A:Option Addr} {n c:Nat} {bs:List (List Nd×List Nd)} (h:jH R w A n c bs) (hn:n<=1000000):jI R w A n c (bs.map (·.2)) :=
 ⟨by rw[List.length_map];exact h.len,h.cap,hn,h.nul,fun hp=>by
  obtain⟨b,off,e,hb,hm⟩:=h.mem hp;refine⟨b,off,e,hb,fun k hk => ?_⟩;obtain⟨A1,n1,c1,A2,n2,c2,h1,h2,h3,h4⟩:=hm k hk;refine⟨A1,n1,c1,A2,n2,c2,h1,h2,?_⟩;have hl:k<bs.length:=by rw[h.len];exact hk
  have e2:(bs.map (·.2)).getD k []=(bs.getD k ([],[])).2:=by
   rw[List.getD_eq_getElem?_getD,List.getD_eq_getElem?_getD,List.getElem?_map,List.getElem?_eq_getElem hl];rfl
  rw[e2];exact h4⟩
def fO (b:Bk):Nat->List (List Nd×List Nd)->Int
 | _,[]=>0
 | i,x::r=>if fA b i x.1 ≠ 0 then fA b i x.1 else if x.2.length=0 then fO b (i+1) r else if fA b i x.2 ≠ 0 then fA b i x.2 else fO b (i+1) r
def gN (b:Bk) (bs:List (List Nd×List Nd)) (l:List Nd):Int:=if bP b ≠ 0 then bP b else if 256<bs.length then 5 else if fO b 0 bs ≠ 0 then fO b 0 bs else fA b bs.length l
abbrev AI (bs:List (List Nd×List Nd)):List (List Nd):=bs.map (·.2)
theorem yW {b:Bk} : ∀(bs:List (List Nd×List Nd)) (i:Nat),fO b i bs=0->∀k,k<bs.length->((AI bs).getD k []=[]\/fA b ((i+k:Nat):Int) ((AI bs).getD k [])=0)/\fA b ((i+k:Nat):Int) (bs.getD k ([],[])).1=0
 | [],_,_,k,hk=>absurd hk aD
 | x::r,i,h,k,hk=>by
  simp only[fO] at h;split at h
  · rename_i h1;exact absurd h h1
  rename_i h1
  have a0:fA b i x.1=0:=by simpa using h1
  split at h
  · rename_i h2
    cases k with
    | zero=>exact⟨.inl (by simpa using h2),by simpa using a0⟩
    | succ k =>
     have:=yW r (i+1) h k (by simpa using hk);rw[show i+1+k=i+(k+1) from by omega] at this;simpa using this
  · rename_i h2
    split at h
    · rename_i h3;exact absurd h h3
    rename_i h3
    have a1:fA b i x.2=0:=by simpa using h3
    cases k with
    | zero=>exact⟨.inr (by simpa using a1),by simpa using a0⟩
    | succ k =>
     have:=yW r (i+1) h k (by simpa using hk);rw[show i+1+k=i+(k+1) from by omega] at this;simpa using this
theorem qT {b:Bk} {bs:List (List Nd×List Nd)} {l:List Nd} (h:gN b bs l=0):bP b=0/\bs.length<=256/\fR b (AI bs)/\l=aW (cP l)/\bR b ((AI bs).length:Int) (cP l):=by
 unfold gN at h;split at h
 · rename_i h1;exact absurd h h1
 rename_i h1
 split at h
 · cases h
 rename_i h2
 split at h
 · rename_i h3;exact absurd h h3
 rename_i h3
 obtain⟨e1,e2⟩:=EP h;refine⟨by simpa using h1,by omega,⟨by rw[List.length_map];omega,fun k hk => ?_⟩,e1,by rw[List.length_map];exact e2⟩;rw[List.length_map] at hk;rcases (yW bs 0 (by simpa using h3) k hk).1 with h4 | h4
 · exact .inl h4
 rw[Nat.zero_add] at h4;obtain⟨e3,e4⟩:=EP h4;exact .inr ⟨_,e3,e4⟩
theorem rJ {w:World} {v:bO} {b:Bk} (hb:bX w v b) {cA:Option Addr} {cn cc:Nat} {bs:List (List Nd×List Nd)} (hc:jH (· < w.heap.size) w cA cn cc bs) {A:Option Addr} {n c:Nat} {l:List Nd} (ht:aY w A n c l) :
 Calls Tryz.prog 11 #[.agg #[O S b.vars,X v.Ao v.no v.co,X v.Ae v.ne v.ce,O S b.nat,X v.Ap v.np v.cp],X cA cn cc,X A n c] w (iG (gN b bs l) w):=by
 obtain⟨w1,c4⟩ : ∃w1:World,w1=w.alloc (.cells #[O S b.vars,X v.Ao v.no v.co,X v.Ae v.ne v.ce,O S b.nat,X v.Ap v.np v.cp] 26):=⟨_,rfl⟩;have b2:Below w.heap.size w w1:=by rw[c4];exact aP _ _
 have c8:aS w1 w.heap.size 26 #[O S b.vars,X v.Ao v.no v.co,X v.Ae v.ne v.ce,O S b.nat,X v.Ap v.np v.cp]:=by rw[c4];exact aS.new _ _ _
 have c6:=aB (xK (hb.below b2));have d4:=aB (fun (W:World) (hB:Below w1.heap.size w1 W) (free:Int) (A':Option Addr) (n' c':Nat) (l':List Nd) (h:aY W A' n' c' l')=>L4 ((hb.below b2).below hB) free h);have HT:=aB (ht.below b2);have HC:=aB (hc.below b2);have a5:=aB b2;have a9:=hc.len;have f3:=hc.few;obtain⟨res,a3⟩ : ∃r,r=gN b bs l:=⟨_,rfl⟩;rw[<-a3];unfold gN at a3;rw[a9] at a3;have b0:=aB a3;have b6:=aB a9;have e6:w.heap.size<w1.heap.size:=c8.lt;have z1:=c8.cell;clear hb hc ht b2 c8 a3 a9;obtain⟨re,e4⟩ : ∃z,z=bP b:=⟨_,rfl⟩;rw[<-e4] at c6 b0;clear e4;go_in;go_upto_region 1 with fail
 rw[<-c4];clear c4;by_cases h0:re=0;rotate_left
 · have d0:(re != 0)=true:=by simpa using h0
   have HR:Hid (res=re):=aB (by rw[b0.o,if_pos h0]);clear h0;go_wp2_with fail;refine (c6.o).mono ?_;rintro e w2 ⟨rfl,a6⟩;have c3:=bZ a5 a6;clear a6;go_wp2_with fail;go_ret;rw[HR.o];exact⟨rfl,c3.o⟩
 subst h0;have a7:Hid (res=if 256<cn then 5 else if fO b 0 bs ≠ 0 then fO b 0 bs else fA b cn l):=aB (by have h:=b0.o;rw[if_neg aD] at h;exact h);by_cases h1:256<cn
 · have d1:decide ((cn:Int)>256)=true:=decide_eq_true aA;have HR:Hid (res=5):=aB (by rw[a7.o,if_pos h1]);clear h1;go_wp2_with fail;refine (c6.o).mono ?_;rintro e w2 ⟨rfl,a6⟩;have c3:=bZ a5 a6;clear a6;go_wp2_with fail;go_ret;rw[HR.o];exact⟨rfl,c3.o⟩
 have d1:decide ((cn:Int)>256)=false:=decide_eq_false aA;have a4:Hid (res=if fO b 0 bs ≠ 0 then fO b 0 bs else fA b cn l):=aB (by have h:=a7.o;rw[if_neg h1] at h;exact h);clear h1;go_wp2_with fail;refine (c6.o).mono ?_;rintro e w2 ⟨rfl,a6⟩;have c3:=aB a6;clear a6;go_wp2_with fail;go_loopw [22] (fun iv wr=>∃i:Nat,i<=cn/\iv=O S (i:Int)/\Hid (fO b 0 bs=fO b i (bs.drop i))/\Hid (Below w1.heap.size w1 wr)) (fun iv _=>cn-(intOf iv).toNat)
 case atStart=>exact⟨0,by omega,rfl,aB rfl,c3⟩
 case round =>
  obtain⟨i,hi,rfl,c5,a1⟩:=hrel;have zr:=fun k=>(a1.o.cell (p:=⟨w.heap.size,k,Y⟩) e6).trans (z1 k);have f0:w.heap.size<wr.heap.size:=Nat.lt_of_lt_of_le e6 a1.o.size;by_cases hlt:i<cn;rotate_left
  · have e1:decide ((i:Int)<(cn:Int))=false:=decide_eq_false aA;have e2:decide (i<cn)=false:=decide_eq_false hlt;have HR:Hid (res=fA b cn l):=aB (by
     have h:=c5.o;rw[List.drop_of_length_le (by rw[b6.o];omega)] at h;have h2:fO b 0 bs=0:=h;rw[a4.o,h2,if_neg aD])
    have e9:=aB (d4.o wr a1.o cn A n c l (HT.o.below a1.o));have d9:=aB a1.o;rw[<-HR.o] at e9;clear c5 a1 hlt;go_wp2_with fail;refine (e9.o).mono ?_;rintro e w3 ⟨rfl,a0⟩;have a2:Hid (Below w.heap.size w w3):=aB ((a5.o.trans (d9.o.mono a5.o.size)).trans (a0.mono (by have:=a5.o.size;have:=d9.o.size;omega)));clear a0;go_wp2_with fail;go_ret;exact⟨rfl,a2.o⟩
  have e1:decide ((i:Int)<(cn:Int))=true:=decide_eq_true aA;have e2:decide (i<cn)=true:=decide_eq_true hlt;have e3:(i:Int)<(cn:Int):=aA;obtain⟨bb,oo,f4,e8,hm⟩:=HC.o.mem aA;obtain⟨A1,n1,c1,A2,n2,c2,y1,y2,t1,t2⟩:=hm i hlt;have il:i<bs.length:=by rw[b6.o];exact hlt
  have e7:bs.drop i=bs.getD i ([],[])::bs.drop (i+1):=by
   rw[List.drop_eq_getElem_cons il,List.getD_eq_getElem?_getD,List.getElem?_eq_getElem il];rfl
  generalize bs.getD i ([],[])=x at *;have e5:x.2.length=n2:=t2.len;have b4:=c5.o;rw[e7] at b4;simp only[fO] at b4;rw[e5] at b4;have d8:=aB b4;obtain⟨f1,d2⟩ : ∃z,z=fA b i x.1:=⟨_,rfl⟩;obtain⟨f2,c9⟩ : ∃z,z=fA b i x.2:=⟨_,rfl⟩;rw[<-d2,<-c9] at d8;have u1:=(a1.o.cell (p:=⟨bb,oo+i*2,Y⟩) e8).trans y1;have u2:=(a1.o.cell (p:=⟨bb,oo+i*2+1,Y⟩) e8).trans y2;have d9:=aB a1.o;have b1:=aB (aS.new wr 51 #[X A1 n1 c1,X A2 n2 c2]);have a8:Hid (Below w1.heap.size w1 (wr.alloc (.cells #[X A1 n1 c1,X A2 n2 c2] 51))):=aB (a1.o.alloc a1.o.size _);have b8:=aB (d4.o _ a8.o i A1 n1 c1 x.1 (bJ.keep t1 (R':=(· < (wr.alloc (.cells #[X A1 n1 c1,X A2 n2 c2] 51)).heap.size)) fun q hq=>⟨Nat.lt_of_lt_of_le hq a8.o.size,fun o=>a8.o.cell (p:=⟨q,o,Y⟩) hq⟩));have d6:=aB (fun (W:World) (hB:Below w1.heap.size w1 W)=>d4.o W hB i A2 n2 c2 x.2 (bJ.keep t2 (R':=(· < W.heap.size)) fun q hq=>⟨Nat.lt_of_lt_of_le hq hB.size,fun o=>hB.cell (p:=⟨q,o,Y⟩) hq⟩));rw[<-d2] at b8;rw[<-c9] at d6;have za:=b1.o.cell;have b3:=fun k=>((aP wr (.cells #[X A1 n1 c1,X A2 n2 c2] 51)).cell (p:=⟨w.heap.size,k,Y⟩) f0).trans (zr k);clear c5 a1 hm y1 y2 t1 t2 e7 b4 d2 c9 e5 il z1;subst f4;by_cases g1:f1=0;rotate_left
  · have d5:(f1 != 0)=true:=by simpa using g1
    have HR:Hid (res=f1):=aB (by have h:=d8.o;rw[if_pos g1] at h;rw[a4.o,h,if_pos g1]);clear g1;go_wp2_with fail;refine (b8.o).mono ?_;rintro e w3 ⟨rfl,a0⟩;have a2:Hid (Below w.heap.size w w3):=aB ((a5.o.trans (a8.o.mono a5.o.size)).trans (a0.mono (by have:=a5.o.size;have:=a8.o.size;omega)));clear a0;go_wp2_with fail;go_ret;rw[HR.o];exact⟨rfl,a2.o⟩
  have c0:Hid (fO b 0 bs=if n2=0 then fO b (i+1) (bs.drop (i+1)) else if f2 ≠ 0 then f2 else fO b (i+1) (bs.drop (i+1))):=aB (by have h:=d8.o;rw[if_neg (by simpa using g1)] at h;exact h);subst g1;by_cases g2:n2=0
  · have d5:((n2:Int)==0)=true:=by simpa using g2
    have d3:Hid (fO b 0 bs=fO b (i+1) (bs.drop (i+1))):=aB (by have h:=c0.o;rw[if_pos g2] at h;exact h);clear g2;go_wp2_with fail;refine (b8.o).mono ?_;rintro e w3 ⟨rfl,a0⟩;have a2:Hid (Below w1.heap.size w1 w3):=bZ a8 a0;have b7:=aB (b1.o.below a0 b1.o.lt);have z3:=b7.o.cell;clear a0 za b3 u1 u2;go_wp2_with fail;go_roundw
    case rel=>exact⟨i+1,by omega,by go_num,d3,a2⟩
    case measure=>simp[intOf];omega
  have d5:((n2:Int)==0)=false:=by simpa using g2
  have b9:Hid (fO b 0 bs=if f2 ≠ 0 then f2 else fO b (i+1) (bs.drop (i+1))):=aB (by have h:=c0.o;rw[if_neg g2] at h;exact h);clear g2;by_cases g3:f2=0;rotate_left
  · have d7:(f2 != 0)=true:=by simpa using g3
    have HR:Hid (res=f2):=aB (by have h:=b9.o;rw[if_pos g3] at h;rw[a4.o,h,if_pos g3]);clear g3;go_wp2_with fail;refine (b8.o).mono ?_;rintro e w3 ⟨rfl,a0⟩;have a2:Hid (Below w1.heap.size w1 w3):=bZ a8 a0;have b7:=aB (b1.o.below a0 b1.o.lt);have z3:=b7.o.cell;have c7:=fun k=>(a0.cell (p:=⟨w.heap.size,k,Y⟩) aG).trans (b3 k);clear a0 za b3 u1 u2;go_wp2_with fail;refine (d6.o w3 a2.o).mono ?_;rintro e w4 ⟨rfl,b5⟩;have e0:Hid (Below w.heap.size w w4):=aB ((a5.o.trans (a2.o.mono a5.o.size)).trans (b5.mono (by have:=a5.o.size;have:=a2.o.size;omega)));clear b5 z3 c7;go_wp2_with fail;go_ret;rw[HR.o];exact⟨rfl,e0.o⟩
  have d3:Hid (fO b 0 bs=fO b (i+1) (bs.drop (i+1))):=aB (by have h:=b9.o;rw[if_neg (by simpa using g3)] at h;exact h);subst g3;go_wp2_with fail;refine (b8.o).mono ?_;rintro e w3 ⟨rfl,a0⟩;have a2:Hid (Below w1.heap.size w1 w3):=bZ a8 a0;have b7:=aB (b1.o.below a0 b1.o.lt);have z3:=b7.o.cell;have c7:=fun k=>(a0.cell (p:=⟨w.heap.size,k,Y⟩) aG).trans (b3 k);clear a0 za b3 u1 u2;go_wp2_with fail;refine (d6.o w3 a2.o).mono ?_;rintro e w4 ⟨rfl,b5⟩;have e0:Hid (Below w1.heap.size w1 w4):=bZ a2 b5;clear b5 z3 c7;go_wp2_with fail;go_roundw
  case rel=>exact⟨i+1,by omega,by go_num,d3,e0⟩
  case measure=>simp[intOf];omega
def i8 (b:Bk) (bs:List (List Nd×List Nd)) (l:List Nd):List Nd×Bool×Int:=if gN b bs l ≠ 0 then ([],false,gN b bs l) else match pD b (AI bs) (bI (cP l)+1) (bU (cP l)) 4096 with
 | .no=>([],false,0)
 | .big=>([],false,9)
 | .yes y=>(aW (fI y),true,0)
def P7 (q:List Nd×Bool×Int) (w:World) (e:Ending) (w':World):Prop:=Below w.heap.size w w'/\∃A n c,e=.returned (.tuple #[X A n c,.bool q.2.1,O S q.2.2])/\bN w' w.heap.size (X A n c) q.1
theorem mR (w:World) (base:Nat):bN w base (X Y 0 0) []:=bN.nil _ _
theorem xR {w:World} {v:bO} {b:Bk} (hb:bX w v b) {cA:Option Addr} {cn cc:Nat} {bs:List (List Nd×List Nd)} (hc:jH (· < w.heap.size) w cA cn cc bs) {A:Option Addr} {n c:Nat} {l:List Nd} (ht:aY w A n c l) :
 Calls Tryz.prog 9 #[.agg #[O S b.vars,X v.Ao v.no v.co,X v.Ae v.ne v.ce,O S b.nat,X v.Ap v.np v.cp],X cA cn cc,X A n c] w (P7 (i8 b bs l) w):=by
 obtain⟨w1,a0⟩ : ∃w1:World,w1=w.alloc (.cells #[O S b.vars,X v.Ao v.no v.co,X v.Ae v.ne v.ce,O S b.nat,X v.Ap v.np v.cp] 26):=⟨_,rfl⟩;have a2:Below w.heap.size w w1:=by rw[a0];exact aP _ _
 have a4:aS w1 w.heap.size 26 #[O S b.vars,X v.Ao v.no v.co,X v.Ae v.ne v.ce,O S b.nat,X v.Ap v.np v.cp]:=by rw[a0];exact aS.new _ _ _
 have a6:=aB (rJ (hb.below a2) (hc.below a2) (ht.below a2));have a9:=aB a2;have b0:w.heap.size<w1.heap.size:=a4.lt;have z1:=a4.cell;obtain⟨z,hz⟩ : ∃z,z=gN b bs l:=⟨_,rfl⟩;rw[<-hz] at a6;by_cases h0:z=0;rotate_left
 · have d0:(z != 0)=true:=by simpa using h0
   have HQ:Hid (i8 b bs l=([],false,z)):=aB (by unfold i8;rw[<-hz,if_pos h0]);clear h0 hz hb hc ht a2 a4;go_in;go_upto_region 1 with fail
   rw[<-a0];clear a0;go_wp2_with fail;refine (a6.o).mono ?_;rintro e w2 ⟨rfl,a1⟩;have a3:=bZ a9 a1;clear a1;go_wp2_with fail;go_ret3
   rw[HQ.o];exact⟨a3.o,Y,0,0,rfl,mR _ _⟩
 subst h0;obtain⟨q1,q2,q3,q4,q5⟩:=qT hz.symm;have b1:cn<=256:=by have:=hc.len;omega
 have HQ:Hid (i8 b bs l=match pD b (AI bs) (bI (cP l)+1) (bU (cP l)) 4096 with
 | .no=>([],false,0)
 | .big=>([],false,9)
 | .yes y=>(aW (fI y),true,0)):=aB (by unfold i8;rw[<-hz,if_neg aD])
 have a8:=aB (fun (W:World) (hB:Below w.heap.size w W)=>yT (w:=W) q1 (hb.below hB) q3 (by have:=q3.few;omega) ((hc.below hB).vals aA) (by rw[<-q4];exact ht.below hB) q5);generalize pD b (AI bs) (bI (cP l)+1) (bU (cP l)) 4096=r at HQ a8;clear hz hb hc ht a2 a4 q1 q3 q4 q5;go_in;go_upto_region 1 with fail
 rw[<-a0];clear a0;go_wp2_with fail;refine (a6.o).mono ?_;rintro e w2 ⟨rfl,a1⟩;have a3:=bZ a9 a1;have z2:=fun i=>(a1.cell (p:=⟨w.heap.size,i,Y⟩) b0).trans (z1 i);clear a1;go_wp2_with fail;refine (a8.o w2 a3.o).mono ?_;rintro e w3 ⟨a7,h3⟩;have HP:∃(A':Option Addr) (n' c':Nat) (is:Bool) (z:Int),e=.returned (.tuple #[X A' n' c',.bool is,O S z])/\Hid (P7 (i8 b bs l) w (.returned (.tuple #[X A' n' c',.bool is,O S z])) w3):=by
  have a5:Below w.heap.size w w3:=a3.o.trans (a7.mono a3.o.size);rw[HQ.o];rcases h3 with⟨hr,he⟩ | ⟨hr,he⟩ | ⟨y,hr,A',n',c',he,ho⟩
  · subst hr;exact⟨_,_,_,_,_,he,aB ⟨a5,Y,0,0,rfl,mR _ _⟩⟩
  · subst hr;exact⟨_,_,_,_,_,he,aB ⟨a5,Y,0,0,rfl,mR _ _⟩⟩
  subst hr;exact⟨_,_,_,_,_,he,aB ⟨a5,A',n',c',rfl,iA ho a3.o.size⟩⟩
 obtain⟨A',n',c',is,z,rfl,HP⟩:=HP;clear h3 a7 z2;go_wp2_with fail;go_ret3
 exact HP.o
def vW (z:Int) (r:P4):List Nd×Int×Int:=if z ≠ 0 then ([],0,z) else match r with
 | .bad z=>([],0,z)
 | .done l k=>(l,(k:Int),0)
def QM (q:List Nd×Int×Int) (w:World) (e:Ending) (w':World):Prop:=Below w.heap.size w w'/\∃A n c,e=.returned (.tuple #[X A n c,O S q.2.1,O S q.2.2])/\bN w' w.heap.size (X A n c) q.1
theorem NC {w:World} {v:bO} {b:Bk} (hb:bX w v b) {cA:Option Addr} {cn cc:Nat} {bs:List (List Nd×List Nd)} (hc:jH (· < w.heap.size) w cA cn cc bs) {A:Option Addr} {n c:Nat} {l:List Nd} (ht:aY w A n c l) (fuel:Int) {fid:FuncId} {r:P4} (hen:∀(args:Array Value) (w:World),(callFunc fid args).run Tryz.prog w=.ok (.enter fid args) w)
 (hone:gN b bs l=0->∀(W:World),Below w.heap.size w W->Calls Tryz.prog fid #[.agg #[O S b.vars,X v.Ao v.no v.co,X v.Ae v.ne v.ce,O S b.nat,X v.Ap v.np v.cp],X cA cn cc,X A n c,O S fuel] W (vK r W)) :
 Calls Tryz.prog 31 #[.func (.func fid) #[] #[],.agg #[O S b.vars,X v.Ao v.no v.co,X v.Ae v.ne v.ce,O S b.nat,X v.Ap v.np v.cp],X cA cn cc,X A n c,O S fuel] w (QM (vW (gN b bs l) r) w):=by
 obtain⟨w1,a0⟩ : ∃w1:World,w1=w.alloc (.cells #[O S b.vars,X v.Ao v.no v.co,X v.Ae v.ne v.ce,O S b.nat,X v.Ap v.np v.cp] 26):=⟨_,rfl⟩;have a2:Below w.heap.size w w1:=by rw[a0];exact aP _ _
 have a4:aS w1 w.heap.size 26 #[O S b.vars,X v.Ao v.no v.co,X v.Ae v.ne v.ce,O S b.nat,X v.Ap v.np v.cp]:=by rw[a0];exact aS.new _ _ _
 have a5:=aB (rJ (hb.below a2) (hc.below a2) (ht.below a2));have a8:=aB a2;have a9:w.heap.size<w1.heap.size:=a4.lt;have z1:=a4.cell;obtain⟨z,hz⟩ : ∃z,z=gN b bs l:=⟨_,rfl⟩;rw[<-hz] at a5 hone ⊢;by_cases h0:z=0;rotate_left
 · have d0:(z != 0)=true:=by simpa using h0
   have HQ:Hid (vW z r=([],0,z)):=aB (by unfold vW;rw[if_pos h0]);clear h0 hz hb hc ht a2 a4 hone;go_in;go_upto_region 1 with fail
   rw[<-a0];clear a0;go_wp2_with fail;refine (a5.o).mono ?_;rintro e w2 ⟨rfl,a1⟩;have a3:=bZ a8 a1;clear a1;go_wp2_with fail;go_ret3
   rw[HQ.o];exact⟨a3.o,Y,0,0,rfl,mR _ _⟩
 subst h0;have b0:=aB (hone rfl);clear hz hb hc ht a2 a4 hone;go_in;go_upto_region 1 with fail
 rw[<-a0];clear a0;go_wp2_with fail;refine (a5.o).mono ?_;rintro e w2 ⟨rfl,a1⟩;have a3:=bZ a8 a1;have z2:=fun i=>(a1.cell (p:=⟨w.heap.size,i,Y⟩) a9).trans (z1 i);clear a1;go_wp2_with fail;refine (b0.o w2 a3.o).mono ?_;rintro e w3 ⟨a7,h3⟩;have HP:∃(A':Option Addr) (n' c':Nat) (k:Int) (z:Int),e=.returned (.tuple #[X A' n' c',O S k,O S z])/\Hid (QM (vW 0 r) w (.returned (.tuple #[X A' n' c',O S k,O S z])) w3):=by
  have a6:Below w.heap.size w w3:=a3.o.trans (a7.mono a3.o.size);unfold vW;rw[if_neg aD];rcases h3 with⟨z,hr,he⟩ | ⟨l,k,A',n',c',hr,he,ho⟩
  · subst hr;exact⟨_,_,_,_,_,he,aB ⟨a6,Y,0,0,rfl,mR _ _⟩⟩
  subst hr;exact⟨_,_,_,_,_,he,aB ⟨a6,A',n',c',rfl,iA ho a3.o.size⟩⟩
 obtain⟨A',n',c',k,z,rfl,HP⟩:=HP;clear h3 a7 z2;go_wp2_with fail;go_ret3
 exact HP.o
def nC (b:Bk) (bs:List (List Nd×List Nd)) (l:List Nd) (fuel:Int):List Nd×Int×Int:=vW (gN b bs l) (N5 b (AI bs) (cP l) (gZ fuel))
theorem xT {w:World} {v:bO} {b:Bk} (hb:bX w v b) {cA:Option Addr} {cn cc:Nat} {bs:List (List Nd×List Nd)} (hc:jH (· < w.heap.size) w cA cn cc bs) {A:Option Addr} {n c:Nat} {l:List Nd} (ht:aY w A n c l) (fuel:Int) :
 Calls Tryz.prog 14 #[.agg #[O S b.vars,X v.Ao v.no v.co,X v.Ae v.ne v.ce,O S b.nat,X v.Ap v.np v.cp],X cA cn cc,X A n c,O S fuel] w (QM (nC b bs l fuel) w):=by
 obtain⟨w1,a1⟩ : ∃w1:World,w1=w.alloc (.cells #[O S b.vars,X v.Ao v.no v.co,X v.Ae v.ne v.ce,O S b.nat,X v.Ap v.np v.cp] 26):=⟨_,rfl⟩;have a0:Below w.heap.size w w1:=by rw[a1];exact aP _ _
 have a3:aS w1 w.heap.size 26 #[O S b.vars,X v.Ao v.no v.co,X v.Ae v.ne v.ce,O S b.nat,X v.Ap v.np v.cp]:=by rw[a1];exact aS.new _ _ _
 have a6:=aB (NC (hb.below a0) (hc.below a0) (ht.below a0) fuel (fid:=32) (r:=N5 b (AI bs) (cP l) (gZ fuel)) (fun _ _=>by kernel_rfl) (fun h0 W hB=>by
  obtain⟨q1,q2,q3,q4,q5⟩:=qT h0;have a8:cn<=256:=by have:=hc.len;omega
  have a2:=a0.trans (hB.mono a0.size);exact yU (w:=W) q1 (hb.below a2) q3 (by have:=q3.few;omega) ((hc.below a2).vals aA) (by rw[<-q4];exact ht.below a2) q5 fuel))
 have a5:=aB a0;have z1:=a3.cell;unfold nC;generalize vW (gN b bs l) (N5 b (AI bs) (cP l) (gZ fuel))=q at *;clear hb hc ht a0 a3;go_in;go_upto_region 1 with fail
 rw[<-a1];clear a1;go_wp2_with fail;refine (a6.o).mono ?_;rintro e w2 ⟨a4,A',n',c',rfl,ho⟩;have a7:=bZ a5 a4;have HO:=aB (iA ho a5.o.size);clear a4 ho;go_wp2_with fail;go_ret3
 exact⟨a7.o,A',n',c',rfl,HO.o⟩
end Go.Proofs.YtjoddliplahgkaaGreat
