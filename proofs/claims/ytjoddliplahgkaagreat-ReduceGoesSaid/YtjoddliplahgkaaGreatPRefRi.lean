/- Merged: RefRightP, RefRight, RefFits. -/
import Derived.Test.YtjoddliplahgkaaGreatPRefEntry
import Derived.Test.YtjoddliplahgkaaGreatPRefCheck
import Derived.Test.YtjoddliplahgkaaGreatPSame
namespace Go.Proofs.YtjoddliplahgkaaGreat
set_option linter.unusedVariables false
set_option linter.unusedSimpArgs false
open Go.RowKit
open Go.Value renaming int → O, slice → Y
open Go.IntKind renaming i64 → X
open Option renaming none → Z, some → J
open Go.Obj renaming cells → I
open Go.Lib renaming hid->aB
def mV (seen:List (Int×Int)) (p:Int×Int):Bool:=seen.any (fun q=>decide (q.1=p.1)||decide (q.2=p.2))
def oY (b:Bk) (p:Int×Int):Bool:=decide (0<=p.1/\p.1<(b.entries.length:Int)/\1<=p.2/\p.2<=3/\(bK b p.1).kind=2)
def kS (b:Bk):List (Int×Int)->List (Int×Int)->Bool
 | _,[]=>true
 | seen,p::r=>oY b p&&(!(mV seen p)&&kS b (seen++[p]) r)
theorem CN {b:Bk} {p:Int×Int} {r:List (Int×Int)} {g:GF}:iX b (p::r) g=(if p.1<0 then false
 else if (b.entries.length:Int)<=p.1 then false
 else if (bK b p.1).kind ≠ 2 then false
 else if p.2<1 then false
 else if 3<p.2 then false
 else if 0<(g p.1 (-1)).getD 0+(g (-1) p.2).getD 0 then false
 else iX b r (gB (gB g p.1 (-1) 1) (-1) p.2 1)):=rfl
theorem uT {seen:List (Int×Int)} {p:Int×Int}:mV seen p=true ↔ (∃q ∈ seen,q.1=p.1)\/∃q ∈ seen,q.2=p.2:=by
 unfold mV;simp only[List.any_eq_true,Bool.or_eq_true,decide_eq_true_eq];constructor
 · rintro⟨q,hq,h | h⟩
   · exact .inl ⟨q,hq,h⟩
   exact .inr ⟨q,hq,h⟩
 rintro (⟨q,hq,h⟩ | ⟨q,hq,h⟩)
 · exact⟨q,hq,.inl h⟩
 exact⟨q,hq,.inr h⟩
theorem xH {b:Bk} : ∀(ps seen:List (Int×Int)) (g:GF),
 (∀a:Int,0<=a->0<=(g a (-1)).getD 0/\(0<(g a (-1)).getD 0 ↔ ∃q ∈ seen,q.1=a)) →
 (∀c:Int,1<=c->0<=(g (-1) c).getD 0/\(0<(g (-1) c).getD 0 ↔ ∃q ∈ seen,q.2=c))->iX b ps g=kS b seen ps
 | [],_,_,_,_=>rfl
 | p::r,seen,g,h1,h2=>by
  rw[CN,kS];by_cases hk:0<=p.1/\p.1<(b.entries.length:Int)/\1<=p.2/\p.2<=3/\(bK b p.1).kind=2;case neg =>
   rw[show oY b p=false from decide_eq_false hk,Bool.false_and]
   repeat' split
   all_goals first | rfl | (exfalso;apply hk;omega)
  obtain⟨a1,a2,a3,a4,a5⟩:=hk;rw[show oY b p=true from decide_eq_true ⟨a1,a2,a3,a4,a5⟩,Bool.true_and,if_neg aA,if_neg aA,if_neg (by simpa using a5),if_neg aA,if_neg aA];obtain⟨p1,q1⟩:=h1 p.1 a1;obtain⟨p2,q2⟩:=h2 p.2 a3;by_cases hs:mV seen p=true
  · rw[hs,Bool.not_true,Bool.false_and];have h:=uT.1 hs;rw[<-q1,<-q2] at h;rw[if_pos aA]
  · have a0:¬ ((∃q ∈ seen,q.1=p.1)\/∃q ∈ seen,q.2=p.2):=fun h=>hs (uT.2 h);rw[<-q1,<-q2] at a0;rw[show mV seen p=false from by simpa using hs,Bool.not_false,Bool.true_and,if_neg aA];refine xH r (seen++[p]) _ (fun a ha => ?_) (fun c hc => ?_)
    · obtain⟨g1,g2⟩:=h1 a ha;unfold gB;rw[if_neg aA];by_cases e:a=p.1
      · rw[if_pos ⟨e,rfl⟩];refine⟨by decide,fun _=>⟨p,by simp,e.symm⟩,fun _=>by decide⟩
      rw[if_neg aA];refine⟨g1,fun h => ?_,fun h => ?_⟩
      · obtain⟨q,hq,e2⟩:=g2.1 h;exact⟨q,by simp[hq],e2⟩
      obtain⟨q,hq,e2⟩:=h;rw[List.mem_append,List.mem_singleton] at hq;rcases hq with hq | rfl
      · exact g2.2 ⟨q,hq,e2⟩
      exact absurd e2.symm e
    obtain⟨g1,g2⟩:=h2 c hc;unfold gB;by_cases e:c=p.2
    · rw[if_pos ⟨rfl,e⟩];refine⟨by decide,fun _=>⟨p,by simp,e.symm⟩,fun _=>by decide⟩
    rw[if_neg aA,if_neg aA];refine⟨g1,fun h => ?_,fun h => ?_⟩
    · obtain⟨q,hq,e2⟩:=g2.1 h;exact⟨q,by simp[hq],e2⟩
    obtain⟨q,hq,e2⟩:=h;rw[List.mem_append,List.mem_singleton] at hq;rcases hq with hq | rfl
    · exact g2.2 ⟨q,hq,e2⟩
    exact absurd e2.symm e
theorem FD {b:Bk} {ps:List (Int×Int)}:iX b ps (fun _ _=>Z)=kS b [] ps :=
 xH ps [] _ (fun _ _=>⟨by decide,by simp⟩) (fun _ _=>⟨by decide,by simp⟩)
theorem rZ {b:Bk} : ∀(L:List En) (i k:Nat),dE b i L=0->k<L.length->dD b ((i+k:Nat):Int) (L.getD k default)=0
 | [],_,_,_,h=>absurd h (Nat.not_lt_zero _)
 | x::L,i,k,h,hk=>by
  have e:dE b i (x::L)=if dD b i x ≠ 0 then dD b i x else dE b (i+1) L:=rfl;rw[e] at h;by_cases h0:dD b i x=0
  · rw[if_neg (by simpa using h0)] at h;cases k with
    | zero=>exact h0
    | succ k =>
     have:=rZ L (i+1) k h (by simpa using hk);rw[show i+1+k=i+(k+1) from by omega] at this;exact this
  · rw[if_pos h0] at h;exact absurd h h0
def kU:List Nd:=[⟨2,1,1⟩,⟨3,0,0⟩]
def Q7 (b:Bk) (e:Int):Bool :=
 if (decide (0<=e)&&fG b b.entries.length e)=false then false
 else if (bK b e).sort ≠ kU then false
 else if 0<(bK b e).params.length+(bK b e).indices.length then false
 else if (bK b e).ctors.length ≠ 2 then false
 else if ((bK b e).ctors.getD 0 default).args.length ≠ 0 then false
 else if ((bK b e).ctors.getD 1 default).args.length ≠ 1 then false
 else decide (((bK b e).ctors.getD 1 default).args.getD 0 []=[⟨9,e,0⟩])
theorem RE {l:List Nd} (h:l.length=2):l=[bD l 0,bD l 1]:=by
 match l,h with
 | [a,c],_=>rfl
theorem Q8 {l:List Nd} (h:l.length=1):l=[bD l 0]:=by
 match l,h with
 | [a],_=>rfl
theorem PT {l:List Nd} (hs:a8 l=0) (h2:(bD l 0).op=2) (hl:l.length=2) (ha:(bD l 0).a=1) (h1:bD l 1=⟨3,0,0⟩):l=kU:=by
 obtain⟨_,n,ats,k,a2,he,_⟩:=fB hs;have hw:=iP a2;obtain⟨_,a1,a0,hk,_⟩:=hw;have hn:bD l 0=n:=by rw[he];rfl
 rw[hn] at h2 ha;unfold iR at a0;rw[if_pos h2] at a0;have a4:ds n=[]:=by
  unfold ds;simp[h2,dY]
 rw[a4] at hk;have a3:k=.nil:=by
  cases k with
  | nil=>rfl
  | cons _ _ _ _ _=>exact hk.elim
 subst a3;rw[he] at hl;simp only[row,List.append_nil,List.length_cons] at hl;have hb:n.b=1:=by
  simp only[eN,Bool.and_eq_true] at a1;rcases aV.1 a1.1.1 with h | h | h | h | h | h | h | h | h;all_goals first | omega | skip
  obtain⟨_,_,g1,g2⟩:=h;obtain⟨m,hm⟩ : ∃m:Nat,n.b=m:=⟨n.b.toNat,by omega⟩;rw[hm,Int.toNat_natCast] at a0
  match ats,hl with
  | [x],_ =>
   match m,hm with
   | 0,hm=>omega
   | 1,hm=>omega
   | m+2,hm =>
    simp only[bG] at a0;split at a0<;>simp at a0
 rw[RE (l:=l) (by rw[he];simpa[row] using hl),h1,hn];obtain⟨o,a,c⟩:=n;simp only at h2 ha hb;subst h2 ha hb;rfl
theorem O8 {b:Bk} {e:Int} (h:dE b 0 b.entries=0):zJ b e=Q7 b e:=by
 unfold zJ Q7;by_cases h0:e<0
 · rw[if_pos h0,decide_eq_false (p:=0<=e) aA,Bool.false_and,if_pos rfl]
 rw[if_neg h0,decide_eq_true (p:=0<=e) aA,Bool.true_and];by_cases h1:(b.entries.length:Int)<=e
 · rw[if_pos h1,show fG b b.entries.length e=false from by unfold fG;rw[decide_eq_false aA,Bool.false_and],if_pos rfl]
 rw[if_neg h1];by_cases h2:(bK b e).kind=1;case neg =>
  rw[if_pos h2,show fG b b.entries.length e=false from by unfold fG;rw[show ((bK b e).kind==1)=false from by simpa using h2,Bool.and_false],if_pos rfl]
 rw[if_neg (by simpa using h2),show fG b b.entries.length e=true from by unfold fG;rw[decide_eq_true aA,h2];rfl,if_neg (c:=true=false) aE];have he:=rZ b.entries 0 e.toNat h aA;rw[Nat.zero_add,show ((e.toNat:Nat):Int)=e from by omega,show b.entries.getD e.toNat default=bK b e from rfl] at he;have hs:a8 (bK b e).sort=0/\(bD (bK b e).sort 0).op=2:=by
  unfold dD at he;rw[if_pos h2] at he;split at he
  · cases he
  split at he
  · cases he
  simp only[jB] at he;by_cases g:fC b e (-1) (bK b e).sort 0=0
  · rw[if_neg (by simpa using g)] at he;by_cases g2:mA (bK b e).sort=0
    · unfold fC at g;unfold mA at g2;refine⟨?_,?_⟩
      · by_cases q:a8 (bK b e).sort=0
        · exact q
        rw[if_pos q] at g;exact g
      by_cases q:(bD (bK b e).sort 0).op=2
      · exact q
      rw[if_pos q] at g2;cases g2
    rw[if_pos g2] at he;exact absurd he g2
  rw[if_pos g] at he;exact absurd he g
 by_cases hso:(bK b e).sort=kU
 · rw[if_neg (c:=(bK b e).sort ≠ kU) (by simpa using hso),hso,if_neg (c:=kU.length ≠ 2) aE,if_neg (c:=(bD kU 0).a ≠ 1) aE,if_neg (c:=bD kU 1 ≠ ⟨3,0,0⟩) aE]
   repeat' split
   all_goals try rfl
   · rename_i g6
     exact (decide_eq_false (fun q=>g6 (by rw[q];rfl))).symm
   rename_i g6
   have h3:=Q8 (l:=((bK b e).ctors.getD 1 default).args.getD 0 []) (by simpa using g6);refine decide_eq_decide.2 ⟨fun q=>by rw[h3,q],fun q=>by rw[q];rfl⟩
 rw[if_pos hso];by_cases q1:(bK b e).sort.length=2
 · rw[if_neg (by simpa using q1)];by_cases q2:(bD (bK b e).sort 0).a=1
   · rw[if_neg (by simpa using q2)];by_cases q3:bD (bK b e).sort 1=⟨3,0,0⟩
     · exact absurd (PT hs.1 hs.2 q1 q2 q3) hso
     rw[if_pos q3]
   rw[if_pos q2]
 rw[if_pos q1]
section
theorem S4 {w:World} {g:Nat} (h:aS w g 46 #[O X 2,O X 1,O X 1,O X 3,O X 0,O X 0]):aY w (J ⟨g,0,Z⟩) 2 2 kU :=
 ⟨rfl,by decide,by decide,(fun e=>by cases e),fun _=>⟨g,0,rfl,h.lt,fun k hk=>by
  match k,hk with
  | 0,_=>exact⟨h.cell 0,h.cell 1,h.cell 2⟩
  | 1,_=>exact⟨h.cell 3,h.cell 4,h.cell 5⟩⟩⟩
theorem S0 {w:World} {g:Nat} {e:Int} (h:aS w g 46 #[O X 9,O X e,O X 0]):aY w (J ⟨g,0,Z⟩) 1 1 [⟨9,e,0⟩] :=
 ⟨rfl,by decide,by decide,(fun e=>by cases e),fun _=>⟨g,0,rfl,h.lt,fun k hk=>by
  match k,hk with
  | 0,_=>exact⟨h.cell 0,h.cell 1,h.cell 2⟩⟩⟩
theorem s8.at3 {w:World} {A:Option Addr} {n c:Nat} {cs:List Ct} (h:s8 w A n c cs) {k:Nat} (hk:k<n) : ∃b off,A=J ⟨b,off,Z⟩/\b<w.heap.size/\∃A1 n1 c1 A2 n2 c2,w.cell? ⟨b,off+k*2,Z⟩=J (Y A1 n1 c1)/\w.cell? ⟨b,off+k*2+1,Z⟩=J (Y A2 n2 c2)/\fF w A1 n1 c1 (cs.getD k default).args/\fF w A2 n2 c2 (cs.getD k default).outs:=by
 obtain⟨b,off,e,hb,hm⟩:=h.mem aA;exact⟨b,off,e,hb,hm k hk⟩
theorem DT.cells {w:World} {b off n c:Nat} {ps:List (Int×Int)} (h:DT w (J ⟨b,off,Z⟩) n c ps) {k:Nat} (hk:k<n):b<w.heap.size/\w.cell? ⟨b,off+k*2,Z⟩=J (O X (ps.getD k (0,0)).1)/\w.cell? ⟨b,off+k*2+1,Z⟩=J (O X (ps.getD k (0,0)).2):=by
 obtain⟨b',off',e,hb,hm⟩:=h.mem aA;injection e with e;injection e with e1 e2;subst e1 e2;exact⟨hb,hm k hk⟩
theorem yL.kind_at {w:World} {b off n c:Nat} {es:List En} (h:yL w (J ⟨b,off,Z⟩) n c es) {k:Nat} (hk:k<n):w.cell? ⟨b,off+k*7,Z⟩=J (O X (es.getD k default).kind):=by
 obtain⟨b',off',e,hb,ev,h0,_⟩:=h.at_ hk;injection e with e;injection e with e1 e2;subst e1 e2;exact h0
theorem H7 {ps:List (Int×Int)} {i j:Nat} {p:Int×Int} (hj:j<i) (hi:i<=ps.length) (h:(ps.getD j (0,0)).1=p.1\/(ps.getD j (0,0)).2=p.2):mV (ps.take i) p=true:=by
 have hm:ps.getD j (0,0) ∈ ps.take i:=by
  rw[List.getD_eq_getElem?_getD,List.getElem?_eq_getElem aA];simp only[Option.getD_some];have h2:j<(ps.take i).length:=by rw[List.length_take];omega
  have h3:(ps.take i)[j]=ps[j]:=List.getElem_take;rw[<-h3];exact List.getElem_mem h2
 refine uT.2 ?_;rcases h with h | h
 · exact .inl ⟨_,hm,h⟩
 exact .inr ⟨_,hm,h⟩
theorem J7 {ps:List (Int×Int)} {j:Nat} {p:Int×Int} (hj:j<ps.length) (h1:(ps.getD j (0,0)).1 ≠ p.1) (h2:(ps.getD j (0,0)).2 ≠ p.2) (h:mV (ps.take j) p=false):mV (ps.take (j+1)) p=false:=by
 rw[List.getD_eq_getElem?_getD,List.getElem?_eq_getElem hj,Option.getD_some] at h1 h2;unfold mV at h ⊢;rw[List.take_succ_eq_append_getElem hj,List.any_append,h];simp[h1,h2]
theorem y7 {b:Bk} {i:Nat} {x:En} {r:List En}:dE b i (x::r)=if dD b i x ≠ 0 then dD b i x else dE b (i+1) r:=rfl
set_option maxRecDepth 100000 in
set_option maxHeartbeats 8000000 in
theorem zU {w:World} {v:bO} {b:Bk} (hb:bX w v b) :
 Calls Tryz.prog 29 #[.agg #[O X b.vars,Y v.Ao v.no v.co,Y v.Ae v.ne v.ce,O X b.nat,Y v.Ap v.np v.cp]] w (iG (bP b) w):=by
 have b8:=hb.entries.len;have g7:=hb.entries.few;have g5:=hb.prims.few;have b1:=hb.prims.len;have b5:=aB (fun (w':World) (h:Below w.heap.size w w')=>zQ (hb.orders.below h) b.vars hb.vars);have i8:=aB (fun (w':World) (h:Below w.heap.size w w')=>hb.entries.below h);have i4:=aB (fun (w':World) (h:Below w.heap.size w w')=>hb.prims.below h);have c0:=aB (fun (w':World) (i:Nat) (h:Below w.heap.size w w') (h1:i<b.entries.length)=>zR (hb.below h) i h1);have d0:=aB (fun (w':World) (h:Below w.heap.size w w')=>oM (hb.below h) b.nat (b.entries.length:Int) aA);have c5:=aB (aP w (I #[O X b.vars,Y v.Ao v.no v.co,Y v.Ae v.ne v.ce,O X b.nat,Y v.Ap v.np v.cp] 26));have i7:=aB (aS.new w 26 #[O X b.vars,Y v.Ao v.no v.co,Y v.Ae v.ne v.ce,O X b.nat,Y v.Ap v.np v.cp]);have b4:Hid (bP b=if (pC b.vars b.orders).1 ≠ 0 then (pC b.vars b.orders).1
 else if 64<b.entries.length then 5
 else if dE b 0 b.entries ≠ 0 then dE b 0 b.entries
 else if (if b.nat ≠ -1 then (if zJ b b.nat then iX b b.prims (fun _ _=>Z) else false)
  else if 0<b.prims.length then false else true) then 0 else 22):=aB rfl
 generalize bP b=res at *;generalize (pC b.vars b.orders).1=ck at *;rw[b8,b1] at b4;rw[b8] at c0 d0;have e7:=aB b8;have l7:=aB b1;obtain⟨Ao,no,co,Ae,ne,ce,Ap,np,cp⟩:=v;simp only at b5 i8 i4 c0 d0 c5 i7 b4 e7 l7 g7 g5 ⊢;clear hb b8 b1;generalize b.vars=bv at *;generalize b.nat=bn at *;by_cases h1:ck=0;case neg =>
  rw[if_pos h1] at b4;have d1:(ck != 0)=true:=by simpa using h1
  clear h1;go_in;go_wp2_with fail;refine (b5.o _ c5.o).mono ?_;rintro e w2 ⟨rfl,a4⟩;have e8:=bZ c5 a4;clear a4;go_wp2_with fail;go_ret;rw[b4.o];exact⟨rfl,e8.o⟩
 subst h1;rw[if_neg (c:=(0:Int) ≠ 0) aD] at b4;by_cases h2:64<ne
 · rw[if_pos h2] at b4;have d2:decide ((ne:Int)>64)=true:=decide_eq_true aA;clear h2;go_in;go_wp2_with fail;refine (b5.o _ c5.o).mono ?_;rintro e w2 ⟨rfl,a4⟩;have e8:=bZ c5 a4;have m3:=aS.cell (aS.below i7.o a4 aD);clear a4;go_wp2_with fail;go_ret;rw[b4.o];exact⟨rfl,e8.o⟩
 rw[if_neg h2] at b4;have d2:decide ((ne:Int)>64)=false:=decide_eq_false aA;clear h2;go_in;go_wp2_with fail;refine (b5.o _ c5.o).mono ?_;rintro e w2 ⟨rfl,a4⟩;have e8:=bZ c5 a4;have m0:=aB (aS.below i7.o a4 aD);have m3:=aS.cell m0.o;clear a4;go_wp2_with fail;clear m3;go_loopw [4] (fun iv wr=>∃i:Nat,iv=O X (i:Int)/\i<=ne/\Hid (dE b i (b.entries.drop i)=dE b 0 b.entries)/\Hid (aS wr w.heap.size 26 #[O X bv,Y Ao no co,Y Ae ne ce,O X bn,Y Ap np cp])/\Hid (Below w.heap.size w wr)) (fun i _=>ne-(intOf i).toNat)
 case atStart=>exact⟨0,rfl,by omega,aB rfl,m0,e8⟩
 case round =>
  clear m0 e8 i7 c5;obtain⟨i,rfl,hi,k2,i1,c8⟩:=hrel;have zk:=aS.cell i1.o;by_cases hlt:i<ne
  · have o5:decide ((i:Int)<(ne:Int))=true:=decide_eq_true aA;have k1:decide (i<ne)=true:=decide_eq_true hlt;have c7:i<b.entries.length:=by rw[e7.o];exact hlt
    have hq:=k2.o;rw[List.drop_eq_getElem_cons c7,show b.entries[i]=b.entries.getD i default from by rw[List.getD_eq_getElem?_getD,List.getElem?_eq_getElem c7];rfl,y7] at hq;have HC:=aB (c0.o wr i c8.o hlt);generalize b.entries.getD i default=x at *;generalize dD b i x=ee at *;by_cases h3:ee=0
    · subst h3;rw[if_neg aD] at hq;have HQ:=aB hq;clear hq;go_wp2_with fail;refine (HC.o).mono ?_;rintro e w4 ⟨rfl,a7⟩;have a3:=bZ c8 a7;have i6:=jL i1 a7;clear a7 zk;go_wp2_with fail;go_roundw
      case rel=>exact⟨i+1,by go_num,by omega,HQ,i6,a3⟩
      case measure=>simp[intOf];omega
    rw[if_pos h3] at hq;have a0:Hid (res=ee):=aB (by rw[b4.o,<-hq,if_pos h3]);have d3:(ee != 0)=true:=by simpa using h3
    clear hq h3;go_wp2_with fail;refine (HC.o).mono ?_;rintro e w4 ⟨rfl,a7⟩;have a3:=bZ c8 a7;clear a7 zk;go_wp2_with fail;go_ret;rw[a0.o];exact⟨rfl,a3.o⟩
  have o5:decide ((i:Int)<(ne:Int))=false:=decide_eq_false aA;have k1:decide (i<ne)=false:=decide_eq_false hlt;have hq:=k2.o;rw[List.drop_of_length_le (by rw[e7.o];omega)] at hq;have k4:dE b 0 b.entries=0:=hq.symm;have a2:=b4.o;rw[k4,if_neg (c:=(0:Int) ≠ 0) aD,O8 k4,FD] at a2;clear b4 c0 b5 k2 hq k4 hlt hi;obtain⟨wn,rfl⟩ : ∃wn:World,wn=wr:=⟨_,rfl⟩;by_cases hn:bn = -1
  · subst hn;rw[if_neg (c:=(-1:Int) ≠ -1) aD] at a2;have d9:=aB a2;have y0:((-1:Int) != -1)=false:=by decide
    have y5:((-1:Int) == -1)=true:=by decide
    clear a2;go_wp2_with fail;clear zk;go_loopw [6] (fun iv wr=>∃j:Nat,iv=O X (j:Int)/\j<=0/\Hid (aS wr w.heap.size 26 #[O X bv,Y Ao no co,Y Ae ne ce,O X (-1),Y Ap np cp])/\Hid (Below w.heap.size w wr)) (fun _ _=>0)
    case atStart=>exact⟨0,rfl,by omega,i1,c8⟩
    case round =>
     obtain⟨j,rfl,hj,a6,a1⟩:=hrel;have zk:=aS.cell a6.o;by_cases g6:j<np
     · have y1:decide ((j:Int)<(np:Int))=true:=decide_eq_true aA;have y2:decide (j<np)=true:=decide_eq_true g6;have a0:Hid (res=22):=aB (by rw[d9.o,if_pos (c:=0<np) aA];rfl);obtain⟨bp,op,rfl,o7,g4⟩:=(i4.o wr a1.o).mem aA;obtain⟨g0,g1⟩:=g4 j g6;have o8:=a6.o.lt;clear g4;have p8:=aB (a1.o.trans ((aP wr (I #[O X (b.prims.getD j (0,0)).1,O X (b.prims.getD j (0,0)).2] 69)).mono a1.o.size));generalize b.prims.getD j (0,0)=p at *;go_wp2_with fail;go_ret;rw[a0.o];exact⟨rfl,p8.o⟩
     have y1:decide ((j:Int)<(np:Int))=false:=decide_eq_false aA;have y2:decide (j<np)=false:=decide_eq_false g6;have a0:Hid (res=0):=aB (by rw[d9.o,if_neg (c:=0<np) aA];rfl);go_wp2_with fail;go_ret;rw[a0.o];exact⟨rfl,a1.o⟩
  rw[if_pos hn] at a2;have y0:(bn != -1)=true:=by simpa using hn
  have y00:(bn == -1)=false:=by simpa using hn
  obtain⟨q1,g3⟩ : ∃q,q=(decide (0<=bn)&&fG b ne bn):=⟨_,rfl⟩;have HC:=aB (d0.o wn c8.o);rw[<-g3] at HC;unfold Q7 at a2;rw[e7.o,<-g3] at a2;cases q1 with
  | false =>
   rw[if_pos rfl] at a2;have a0:=aB a2;clear a2 g3 hn;go_wp2_with fail;refine (HC.o).mono ?_;rintro e w4 ⟨rfl,a7⟩;have a3:=bZ c8 a7;clear a7 zk;go_wp2_with fail;go_ret;rw[a0.o];exact⟨rfl,a3.o⟩
  | true =>
   rw[if_neg (c:=true=false) aE] at a2;rw[eq_comm,Bool.and_eq_true,decide_eq_true_eq] at g3;obtain⟨o9,a4⟩:=g3;simp only[fG,Bool.and_eq_true,decide_eq_true_eq,beq_iff_eq] at a4;obtain⟨a4,j9⟩:=a4;obtain⟨e,rfl⟩ : ∃e:Nat,bn=(e:Int):=⟨bn.toNat,by omega⟩;have k3:e<ne:=aA;obtain⟨be,oe,hA,c9,ev,g8,l0,k9,k8,k7,k6,k5,b6⟩:=(i8.o w (Below.refl _ _)).at_ k3;subst hA;rw[show b.entries.getD e default=bK b (e:Int) from by unfold bK;rw[Int.toNat_natCast]] at g8 b6;obtain⟨x,hx⟩ : ∃x,x=bK b (e:Int):=⟨_,rfl⟩;rw[<-hx] at g8 b6 a2 j9;rw[j9] at g8;rw[b6.params.len,b6.indices.len,b6.ctors.len] at a2;have f1:=b6.params.few;have f2:=b6.indices.few;have f3:=b6.ctors.few;have HX:=aB (fun (w':World) (h:Below w.heap.size w w')=>b6.below h);obtain⟨As,ns,cs,Ap2,np2,cp2,Ai,ni,ci,Ac,nc,cc,At,nt,ct,Ab,nb,cb⟩:=ev;simp only at l0 k9 k8 k7 k6 k5 a2 HX f1 f2 f3;have d9:=aB a2;clear b6 hx j9 hn a2 o9 a4;go_wp2_with fail;refine (HC.o).mono ?_;rintro e' w4 ⟨rfl,a7⟩;have a3:=bZ c8 a7;have i6:=jL i1 a7;have o4:=aS.cell i6.o;have e0:=(a3.o.cell (p:=⟨be,oe+e*7,Z⟩) c9).trans g8;have e1:=(a3.o.cell (p:=⟨be,oe+e*7+1,Z⟩) c9).trans l0;have e2:=(a3.o.cell (p:=⟨be,oe+e*7+2,Z⟩) c9).trans k9;have e3:=(a3.o.cell (p:=⟨be,oe+e*7+3,Z⟩) c9).trans k8;have e4:=(a3.o.cell (p:=⟨be,oe+e*7+4,Z⟩) c9).trans k7;have e5:=(a3.o.cell (p:=⟨be,oe+e*7+5,Z⟩) c9).trans k6;have e6:=(a3.o.cell (p:=⟨be,oe+e*7+6,Z⟩) c9).trans k5;clear a7 zk g8 l0 k9 k8 k7 k6 k5 HC;have m2:=aB ((a3.o.alloc a3.o.size (I #[O X 1,Y As ns cs,Y Ap2 np2 cp2,Y Ai ni ci,Y Ac nc cc,Y At nt ct,Y Ab nb cb] 61)).alloc (Nat.le_trans a3.o.size aD) (I #[O X 2,O X 1,O X 1,O X 3,O X 0,O X 0] 46));have h8:Hid (aS ((w4.alloc (I #[O X 1,Y As ns cs,Y Ap2 np2 cp2,Y Ai ni ci,Y Ac nc cc,Y At nt ct,Y Ab nb cb] 61)).alloc (I #[O X 2,O X 1,O X 1,O X 3,O X 0,O X 0] 46)) w.heap.size 26 #[O X bv,Y Ao no co,Y (J ⟨be,oe,Z⟩) ne ce,O X (e:Int),Y Ap np cp]):=aB ((i6.o.alloc _).alloc _);have h7:Hid (aS ((w4.alloc (I #[O X 1,Y As ns cs,Y Ap2 np2 cp2,Y Ai ni ci,Y Ac nc cc,Y At nt ct,Y Ab nb cb] 61)).alloc (I #[O X 2,O X 1,O X 1,O X 3,O X 0,O X 0] 46)) w4.heap.size 61 #[O X 1,Y As ns cs,Y Ap2 np2 cp2,Y Ai ni ci,Y Ac nc cc,Y At nt ct,Y Ab nb cb]):=aB ((aS.new w4 61 #[O X 1,Y As ns cs,Y Ap2 np2 cp2,Y Ai ni ci,Y Ac nc cc,Y At nt ct,Y Ab nb cb]).alloc _);have o1:=aB (S4 (aS.new' (w:=(w4.alloc (I #[O X 1,Y As ns cs,Y Ap2 np2 cp2,Y Ai ni ci,Y Ac nc cc,Y At nt ct,Y Ab nb cb] 61))) (g:=w4.heap.size+1) (t:=46) (cs:=#[O X 2,O X 1,O X 1,O X 3,O X 0,O X 0]) aD));have n7:=aB (mU ((w4.alloc (I #[O X 1,Y As ns cs,Y Ap2 np2 cp2,Y Ai ni ci,Y Ac nc cc,Y At nt ct,Y Ab nb cb] 61)).alloc (I #[O X 2,O X 1,O X 1,O X 3,O X 0,O X 0] 46)) (HX.o ((w4.alloc (I #[O X 1,Y As ns cs,Y Ap2 np2 cp2,Y Ai ni ci,Y Ac nc cc,Y At nt ct,Y Ab nb cb] 61)).alloc (I #[O X 2,O X 1,O X 1,O X 3,O X 0,O X 0] 46)) m2.o).sort o1.o);go_wp2_with fail;refine (n7.o).mono ?_;rintro e' w6 ⟨rfl,m6,h9⟩;have c2:Hid (Below w.heap.size w w6):=aB (by rw[h9];exact aT m2.o m6);have a9:Hid (aS w6 w.heap.size 26 #[O X bv,Y Ao no co,Y (J ⟨be,oe,Z⟩) ne ce,O X (e:Int),Y Ap np cp]):=aB (by rw[h9];exact h8.o.drewN m6);have a8:Hid (aS w6 w4.heap.size 61 #[O X 1,Y As ns cs,Y Ap2 np2 cp2,Y Ai ni ci,Y Ac nc cc,Y At nt ct,Y Ab nb cb]):=aB (by rw[h9];exact h7.o.drewN m6);clear h9;have q2:=aS.cell a8.o;clear e0 e1 e2 e3 e4 e5 e6 o4 n7 o1 m2 h8 h7;by_cases hso:x.sort=kU;case neg =>
    have y1:decide (x.sort=kU)=false:=decide_eq_false hso;have a0:Hid (res=22):=aB (by rw[d9.o,if_pos (c:=x.sort ≠ kU) hso];rfl);go_wp2_with fail;go_ret;rw[a0.o];exact⟨rfl,c2.o⟩
   have y1:decide (x.sort=kU)=true:=decide_eq_true hso;have j3:=d9.o;rw[if_neg (c:=x.sort ≠ kU) (by simpa using hso)] at j3;have l5:=aB j3;have q4:IntKind.i64.wrap ((np2:Int)+(ni:Int))=(np2:Int)+(ni:Int):=by rw[IntKind.wrap_i64];omega
   clear j3 d9 hso;by_cases hz:0<np2+ni
   · have y2:((np2:Int)+(ni:Int) != 0)=true:=by rw[bne_iff_ne];omega
     have a0:Hid (res=22):=aB (by rw[l5.o,if_pos (c:=0<np2+ni) hz];rfl);clear hz;go_wp2_with fail;go_ret;rw[a0.o];exact⟨rfl,c2.o⟩
   have y2:((np2:Int)+(ni:Int) != 0)=false:=by rw[bne_eq_false_iff_eq];omega
   have j2:=l5.o;rw[if_neg (c:=0<np2+ni) hz] at j2;have l4:=aB j2;clear j2 l5 hz;by_cases hnc:nc=2;case neg =>
    have y3:((nc:Int) != 2)=true:=by rw[bne_iff_ne];omega
    have a0:Hid (res=22):=aB (by rw[l4.o,if_pos (c:=nc ≠ 2) hnc];rfl);clear hnc;go_wp2_with fail;go_ret;rw[a0.o];exact⟨rfl,c2.o⟩
   have y3:((nc:Int) != 2)=false:=by rw[bne_eq_false_iff_eq];omega
   have j1:=l4.o;rw[if_neg (c:=nc ≠ 2) (by simpa using hnc)] at j1;have l3:=aB j1;have j7:0<nc:=aA;have j6:1<nc:=aA;clear j1 l4 hnc;obtain⟨bc,oc,p3,i2,A10,n10,c10,A20,n20,c20,g2,_,b7,_⟩:=(HX.o _ c2.o).ctors.at3 j7;subst p3;obtain⟨bc',oc',h0,l1,A11,n11,c11,A21,n21,c21,f9,_,b0,_⟩:=(HX.o _ c2.o).ctors.at3 j6;obtain⟨rfl,rfl⟩:bc=bc'/\oc=oc':=by
    injection h0 with e;injection e with e1 e2;exact⟨e1,e2⟩
   clear h0 l1;rw[Nat.zero_mul,Nat.add_zero] at g2;rw[Nat.one_mul] at f9;have o6:(1:Int)<(nc:Int):=aA;have b3:=b7.len;have b2:=b0.len;have q3:=aS.cell a9.o;by_cases hn10:n10=0;case neg =>
    have y4:((n10:Int) != 0)=true:=by rw[bne_iff_ne];omega
    have a0:Hid (res=22):=aB (by rw[l3.o,b3,if_pos (c:=n10 ≠ 0) hn10];rfl);clear hn10 b3 b2 b7 b0;go_wp2_with fail;go_quiet (fail)
    go_wp2_with fail;go_ret;rw[a0.o];exact⟨rfl,aT c2.o _⟩
   have y4:((n10:Int) != 0)=false:=by rw[bne_eq_false_iff_eq];omega
   have d6:=l3.o;rw[b3,if_neg (c:=n10 ≠ 0) aA] at d6;by_cases hn11:n11=1;case neg =>
    have y5:((n11:Int) != 1)=true:=by rw[bne_iff_ne];omega
    have a0:Hid (res=22):=aB (by rw[d6,b2,if_pos (c:=n11 ≠ 1) hn11];rfl);clear hn10 hn11 b3 b2 b7 b0 d6;go_wp2_with fail;go_quiet (fail)
    go_wp2_with fail;go_ret;rw[a0.o];exact⟨rfl,aT c2.o _⟩
   have y5:((n11:Int) != 1)=false:=by rw[bne_eq_false_iff_eq];omega
   rw[b2,if_neg (c:=n11 ≠ 1) aA] at d6;obtain⟨ba,oa,A3,n3,c3,l2,n5,f8,n1⟩:=b0.at_ (k:=0) aA;subst l2;rw[Nat.add_zero] at f8;have i3:=aB d6;clear d6 l3 b7 b0 b3 b2;have p5:=aB (a9.o.drewN 1);have p6:=aB (a8.o.drewN 1);have d5:Hid (Below w6.heap.size w6 (w6.drew.alloc (I #[O X 9,O X (e:Int),O X 0] 46))):=aB ((aT (Below.refl w6.heap.size w6) 1).trans (aP w6.drew (I #[O X 9,O X (e:Int),O X 0] 46)));have n8:=aB (mU (w6.drew.alloc (I #[O X 9,O X (e:Int),O X 0] 46)) (n1.below d5.o) (S0 (aS.new' (w:=w6.drew) (g:=w6.heap.size) (t:=46) (cs:=#[O X 9,O X (e:Int),O X 0]) rfl)));have m9:=aS.cell (aS.below a9.o d5.o a9.o.lt);have m5:=aS.cell (aS.below a8.o d5.o a8.o.lt);have f7:=(d5.o.cell (p:=⟨bc,oc,Z⟩) i2).trans g2;have f5:=(d5.o.cell (p:=⟨bc,oc+2,Z⟩) i2).trans f9;have f0:=(d5.o.cell (p:=⟨ba,oa,Z⟩) n5).trans f8;obtain⟨q6,n4⟩ : ∃q,q=decide ((x.ctors.getD 1 default).args.getD 0 []=[⟨9,(e:Int),0⟩]):=⟨_,rfl⟩;rw[<-n4] at i3 n8;clear n4 n1;go_wp2_with fail;refine wp_region_held_drew (S:=(fun W=>W.cell? ⟨w4.heap.size,4,Z⟩=J (Y (J ⟨bc,oc,Z⟩) nc cc)/\W.cell? ⟨w.heap.size,3,Z⟩=J (O X (e:Int))/\W.cell? ⟨bc,oc,Z⟩=J (Y A10 n10 c10)/\W.cell? ⟨bc,oc+2,Z⟩=J (Y (J ⟨ba,oa,Z⟩) n11 c11)/\W.cell? ⟨ba,oa,Z⟩=J (Y A3 n3 c3))) aC ?_ (fun hZ => ?_)
   · (try dsimp only);exact⟨p6.o.cell 4,p5.o.cell 3,g2,f9,f8⟩
   refine aL 0 hZ ?_;refine aL 1 hZ ?_;refine aL 2 hZ ?_;refine aL 3 hZ ?_;refine aL 4 hZ ?_;refine aL 5 hZ ?_;refine aL 6 hZ ?_;refine aL 7 hZ ?_;refine aL 8 hZ ?_;refine aL 9 hZ ?_;refine aL 10 hZ ?_;refine aL 11 hZ ?_;refine aL 12 hZ ?_;refine aL 13 hZ ?_;refine aL 14 hZ ?_;refine aL 15 hZ ?_;refine aL 16 hZ ?_;refine aL 17 hZ ?_;refine aL 18 hZ ?_;refine aL 19 hZ ?_;refine aL 20 hZ ?_;refine aL 21 hZ ?_;refine aL 22 hZ ?_;refine aL 23 hZ ?_;refine aL 24 hZ ?_;refine aL 25 hZ ?_;refine aL 26 hZ ?_;refine r1 27 fun K hK => ?_;go_simp;refine hK.o _ _ (by exact⟨m5 4,m9 3,f7,f5,f0⟩) fun hZ => ?_;clear hK K;try simp only[p7]
   refine r1 28 fun K hK => ?_;go_simp;go_at_call 13
   refine n8.o.mono ?_;rintro e' w8 ⟨rfl,m8,n0⟩;have d4:Hid (Below w6.heap.size w6 w8):=aB (by rw[n0];exact aT d5.o m8);have m1:=aB (c2.o.trans (d4.o.mono c2.o.size));have l9:=aB (aS.below a9.o d4.o a9.o.lt);have m7:=aS.cell l9.o;have m4:=aS.cell (aS.below a8.o d4.o a8.o.lt);have f6:=(d4.o.cell (p:=⟨bc,oc,Z⟩) i2).trans g2;have f4:=(d4.o.cell (p:=⟨bc,oc+2,Z⟩) i2).trans f9;have e9:=(d4.o.cell (p:=⟨ba,oa,Z⟩) n5).trans f8;clear n0;go_wp2_with fail;refine hK.o _ _ (by exact⟨m4 4,m7 3,f6,f4,e9⟩) fun hZ => ?_;clear hK K;try simp only[p7]
   refine aL 29 hZ ?_;refine aL 30 hZ ?_;refine wpAnyH_done aC ?_ _;cases q6 with
   | false =>
    have a0:Hid (res=22):=aB (by rw[i3.o];rfl);go_wp2_with fail;go_ret;rw[a0.o];exact⟨rfl,m1.o⟩
   | true =>
    have h6:Hid (res=if kS b [] b.prims=true then 0 else 22):=aB (by rw[i3.o];rfl);clear i3 HX;go_wp2_with fail;clear m7 m4 f6 f4 e9 m9 m5 f7 f5 f0 g2 f9 f8;go_loopw [6] (fun iv wr=>∃i:Nat,iv=O X (i:Int)/\i<=np/\Hid (kS b (b.prims.take i) (b.prims.drop i)=kS b [] b.prims)/\Hid (aS wr w.heap.size 26 #[O X bv,Y Ao no co,Y (J ⟨be,oe,Z⟩) ne ce,O X (e:Int),Y Ap np cp])/\Hid (Below w.heap.size w wr)) (fun i _=>np-(intOf i).toNat)
    case atStart=>exact⟨0,rfl,by omega,aB rfl,l9,m1⟩
    case round =>
     clear l9 m1 d4;obtain⟨i,rfl,hi,j5,a6,a1⟩:=hrel;have zk:=aS.cell a6.o;have o8:=a6.o.lt;obtain⟨wo,rfl⟩ : ∃wo:World,wo=wr:=⟨_,rfl⟩;by_cases hlt:i<np;case neg =>
      have a0:Hid (res=0):=aB (by
       have hq:=j5.o;rw[List.drop_of_length_le (by rw[l7.o];omega)] at hq;rw[h6.o,<-hq];rfl)
      go_wp2_with fail;go_ret;rw[a0.o];exact⟨rfl,a1.o⟩
     obtain⟨bp,op,p0,o7,g4⟩:=(i4.o wo a1.o).mem aA;subst p0;obtain⟨g0,g1⟩:=g4 i hlt;have c7:i<b.prims.length:=by rw[l7.o];exact hlt
     have hq:=j5.o;rw[List.drop_eq_getElem_cons c7,show b.prims[i]=b.prims.getD i (0,0) from by rw[List.getD_eq_getElem?_getD,List.getElem?_eq_getElem c7];rfl,kS] at hq;have i9:b.prims.take (i+1)=b.prims.take i++[b.prims.getD i (0,0)]:=by
      rw[List.take_succ_eq_append_getElem c7,List.getD_eq_getElem?_getD,List.getElem?_eq_getElem c7];rfl
     obtain⟨p,hp⟩ : ∃p,p=b.prims.getD i (0,0):=⟨_,rfl⟩;rw[<-hp] at g0 g1 hq i9;have n6:=aB i9;obtain⟨p1,d8⟩ : ∃y,y=p.1:=⟨_,rfl⟩;obtain⟨p2,d7⟩ : ∃y,y=p.2:=⟨_,rfl⟩;rw[<-d8] at g0;rw[<-d7] at g1;have o0:=aB d8;have n9:=aB d7;clear hp i9 g4 j5;have c1:=aB (a1.o.trans ((aP wo (I #[O X p1,O X p2] 69)).mono a1.o.size));have i5:Hid (aS (wo.alloc (I #[O X p1,O X p2] 69)) w.heap.size 26 #[O X bv,Y Ao no co,Y (J ⟨be,oe,Z⟩) ne ce,O X (e:Int),Y (J ⟨bp,op,Z⟩) np cp]):=aB (a6.o.alloc _);have l8:=aB (aS.new wo 69 #[O X p1,O X p2]);have o3:=aS.cell i5.o;have o2:=aS.cell l8.o;have j8:=i5.o.lt;by_cases hok:oY b p=true;case neg =>
      have a0:Hid (res=22):=aB (by rw[h6.o,<-hq,show oY b p=false from by simpa using hok];rfl);have j0:p1<0\/(0<=p1/\(ne:Int)<=p1)\/(0<=p1/\p1<ne/\p2<1)\/(0<=p1/\p1<ne/\1<=p2/\3<p2)\/(0<=p1/\p1<ne/\1<=p2/\p2<=3/\(bK b p1).kind ≠ 2):=by
       unfold oY at hok;rw[decide_eq_true_eq,e7.o,<-d8,<-d7] at hok;omega
      clear hq hok d8 d7 h6 n6;rcases j0 with h | ⟨h,h2⟩ | ⟨h,h2,h3⟩ | ⟨h,h2,h3,h4⟩ | ⟨h,h2,h3,h4,h5⟩
      · have y10:decide (p1<0)=true:=decide_eq_true h;go_wp2_with fail;go_ret;rw[a0.o];exact⟨rfl,c1.o⟩
      · have y10:decide (p1<0)=false:=decide_eq_false aA;have y11:decide (p1 ≥ (ne:Int))=true:=decide_eq_true h2;go_wp2_with fail;go_ret;rw[a0.o];exact⟨rfl,c1.o⟩
      · have y10:decide (p1<0)=false:=decide_eq_false aA;have y11:decide (p1 ≥ (ne:Int))=false:=decide_eq_false aA;have y12:decide (p2<1)=true:=decide_eq_true h3;go_wp2_with fail;go_ret;rw[a0.o];exact⟨rfl,c1.o⟩
      · have y10:decide (p1<0)=false:=decide_eq_false aA;have y11:decide (p1 ≥ (ne:Int))=false:=decide_eq_false aA;have y12:decide (p2<1)=false:=decide_eq_false aA;have y13:decide (p2>3)=true:=decide_eq_true h4;go_wp2_with fail;go_ret;rw[a0.o];exact⟨rfl,c1.o⟩
      have y10:decide (p1<0)=false:=decide_eq_false aA;have y11:decide (p1 ≥ (ne:Int))=false:=decide_eq_false aA;have y12:decide (p2<1)=false:=decide_eq_false aA;have y13:decide (p2>3)=false:=decide_eq_false aA;obtain⟨q,rfl⟩ : ∃q:Nat,p1=(q:Int):=⟨p1.toNat,by omega⟩;have j4:q<ne:=aA;have i0:=(i8.o _ c1.o).kind_at j4;rw[show b.entries.getD q default=bK b (q:Int) from by unfold bK;rw[Int.toNat_natCast]] at i0;have y15:((bK b (q:Int)).kind != 2)=true:=by simpa using h5
      generalize (bK b (q:Int)).kind=kk at *;go_wp2_with fail;go_ret;rw[a0.o];exact⟨rfl,c1.o⟩
     have j0:0<=p1/\p1<ne/\1<=p2/\p2<=3/\(bK b p1).kind=2:=by
      have c6:=hok;unfold oY at c6;rw[decide_eq_true_eq,e7.o,<-d8,<-d7] at c6;exact c6
     obtain⟨h,h2,h3,h4,h5⟩:=j0;rw[hok,Bool.true_and] at hq;have l6:=aB hq;clear hq hok d8 d7;have y10:decide (p1<0)=false:=decide_eq_false aA;have y11:decide (p1 ≥ (ne:Int))=false:=decide_eq_false aA;have y12:decide (p2<1)=false:=decide_eq_false aA;have y13:decide (p2>3)=false:=decide_eq_false aA;obtain⟨q,rfl⟩ : ∃q:Nat,p1=(q:Int):=⟨p1.toNat,by omega⟩;have j4:q<ne:=aA;have i0:=(i8.o _ c1.o).kind_at j4;rw[show b.entries.getD q default=bK b (q:Int) from by unfold bK;rw[Int.toNat_natCast],h5] at i0;clear h5;go_wp2_with fail;clear zk o3 o2 i0;go_loopw [8] (fun jv wr=>∃j:Nat,jv=O X (j:Int)/\j<=i/\Hid (mV (b.prims.take j) p=false)/\Hid (aS wr w.heap.size 26 #[O X bv,Y Ao no co,Y (J ⟨be,oe,Z⟩) ne ce,O X (e:Int),Y (J ⟨bp,op,Z⟩) np cp])/\Hid (aS wr wo.heap.size 69 #[O X (q:Int),O X p2])/\Hid (Below w.heap.size w wr)) (fun j _=>i-(intOf j).toNat)
     case atStart=>exact⟨0,rfl,by omega,aB rfl,i5,l8,c1⟩
     case round =>
      clear i5 l8 c1 j8;obtain⟨j,rfl,hj,n2,b9,g9,a5⟩:=hrel;have q0:=aS.cell b9.o;have p9:=aS.cell g9.o;by_cases hji:j<i;case neg =>
       have HQ:Hid (kS b (b.prims.take (i+1)) (b.prims.drop (i+1))=kS b [] b.prims):=aB (by
        have k0:j=i:=aA;have e:=n2.o;rw[k0] at e;have e2:=l6.o;rw[e] at e2;rw[n6.o,<-e2];rfl)
       go_wp2_with fail;go_roundw
       case rel=>first | exact⟨i+1,by go_num,by omega,HQ,b9,a5⟩ | ((repeat apply Exists.intro);exact⟨⟨i+1,by go_num,by omega,HQ,b9,a5⟩,rfl⟩)
       case measure=>simp[intOf];omega
      have g6:j<np:=aA;obtain⟨q5,g0j,g1j⟩:=(i4.o _ a5.o).cells g6;obtain⟨pj,c4⟩ : ∃y,y=b.prims.getD j (0,0):=⟨_,rfl⟩;rw[<-c4] at g0j g1j;by_cases e1:pj.1=(q:Int)
      · have y22:(pj.1==(q:Int))=true:=by simpa using e1
        have a0:Hid (res=22):=aB (by
         have e2:=l6.o;rw[H7 (ps:=b.prims) (i:=i) (j:=j) (p:=p) hji aA (.inl (by rw[<-c4,e1];exact o0.o))] at e2;rw[h6.o,<-e2];rfl)
        clear c4 e1;obtain⟨pa,pb⟩:=pj;simp only at g0j g1j y22;go_wp2_with fail;go_quiet (fail)
        go_wp2_with fail;go_ret;rw[a0.o];exact⟨rfl,aT a5.o _⟩
      by_cases e2:pj.2=p2
      · have y22:(pj.1==(q:Int))=false:=by simpa using e1
        have y23:(pj.2==p2)=true:=by simpa using e2
        have a0:Hid (res=22):=aB (by
         have e3:=l6.o;rw[H7 (ps:=b.prims) (i:=i) (j:=j) (p:=p) hji aA (.inr (by rw[<-c4,e2];exact n9.o))] at e3;rw[h6.o,<-e3];rfl)
        clear c4 e1 e2;obtain⟨pa,pb⟩:=pj;simp only at g0j g1j y22 y23;go_wp2_with fail;go_quiet (fail)
        go_wp2_with fail;go_ret;rw[a0.o];exact⟨rfl,aT a5.o _⟩
      have y22:(pj.1==(q:Int))=false:=by simpa using e1
      have y23:(pj.2==p2)=false:=by simpa using e2
      have p4:Hid (mV (b.prims.take (j+1)) p=false):=aB (J7 aA (by rw[<-c4,<-o0.o];exact e1) (by rw[<-c4,<-n9.o];exact e2) n2.o);clear c4 e1 e2;obtain⟨pa,pb⟩:=pj;simp only at g0j g1j y22 y23;go_wp2_with fail;go_quiet (fail)
      go_wp2_with fail;go_roundw
      case rel=>exact⟨j+1,by go_num,by omega,p4,aB (b9.o.drewN _),aB (g9.o.drewN _),aB (aT a5.o _)⟩
      case measure=>simp[intOf];omega
end

end Go.Proofs.YtjoddliplahgkaaGreat
