/- Merged: RefRightP, RefRight, RefFits. -/
import Derived.Test.YtplecfbdchmogaaGreatDRefRow
import Derived.Test.YtplecfbdchmogaaGreatDShort2
import Derived.Test.YtplecfbdchmogaaGreatDRefEntry
import Derived.Test.YtplecfbdchmogaaGreatDRefCheck
import Derived.Test.YtplecfbdchmogaaGreatDSame
namespace Go.Proofs.YtplecfbdchmogaaGreat
open Go.Value renaming int → O, slice → Y
open Go.IntKind renaming i64 → X
open Option renaming none → Z, some → J
open Go.Obj renaming cells → I
open Go.Lib (hid)
set_option maxHeartbeats 8000000
set_option maxRecDepth 100000
set_option linter.unusedVariables false
set_option linter.unusedSimpArgs false
section
def mD (seen:List (Int×Int)) (p:Int×Int):Bool:=seen.any (fun q=>decide (q.1=p.1)||decide (q.2=p.2))
def nO (b:Bk) (p:Int×Int):Bool:=decide (0<=p.1/\p.1<(b.entries.length:Int)/\1<=p.2/\p.2<=3/\(aT b p.1).kind=2)
def kH (b:Bk):List (Int×Int)->List (Int×Int)->Bool
 | _,[]=>true
 | seen,p::r=>nO b p&&(!(mD seen p)&&kH b (seen++[p]) r)
theorem xI {b:Bk} {p:Int×Int} {r:List (Int×Int)} {g:GF}:gU b (p::r) g=(if p.1<0 then false
 else if (b.entries.length:Int)<=p.1 then false
 else if (aT b p.1).kind ≠ 2 then false
 else if p.2<1 then false
 else if 3<p.2 then false
 else if 0<(g p.1 (-1)).getD 0+(g (-1) p.2).getD 0 then false
 else gU b r (eM (eM g p.1 (-1) 1) (-1) p.2 1)):=rfl
theorem sB {seen:List (Int×Int)} {p:Int×Int}:mD seen p=true ↔ (∃ q ∈ seen,q.1=p.1)\/∃ q ∈ seen,q.2=p.2:=by
 unfold mD;simp only [List.any_eq_true,Bool.or_eq_true,decide_eq_true_eq];constructor
 · rintro ⟨q,hq,h | h⟩
   · exact .inl ⟨q,hq,h⟩
   exact .inr ⟨q,hq,h⟩
 rintro (⟨q,hq,h⟩ | ⟨q,hq,h⟩)
 · exact ⟨q,hq,.inl h⟩
 exact ⟨q,hq,.inr h⟩
theorem tS {b:Bk} : ∀ (ps seen:List (Int×Int)) (g:GF),
 (∀ a:Int,0<=a->0<=(g a (-1)).getD 0/\(0<(g a (-1)).getD 0 ↔ ∃ q ∈ seen,q.1=a)) →
 (∀ c:Int,1<=c->0<=(g (-1) c).getD 0/\(0<(g (-1) c).getD 0 ↔ ∃ q ∈ seen,q.2=c))->gU b ps g=kH b seen ps
 | [],_,_,_,_=>rfl
 | p::r,seen,g,h1,h2=>by
  rw [xI,kH];by_cases hk:0<=p.1/\p.1<(b.entries.length:Int)/\1<=p.2/\p.2<=3/\(aT b p.1).kind=2;case neg =>
   rw [show nO b p=false from decide_eq_false hk,Bool.false_and]
   repeat' split
   all_goals first | rfl | (exfalso;apply hk;omega)
  obtain ⟨a1,a2,a3,a4,a5⟩:=hk;rw [show nO b p=true from decide_eq_true ⟨a1,a2,a3,a4,a5⟩,Bool.true_and,if_neg aA,if_neg aA,if_neg (by simpa using a5),if_neg aA,if_neg aA];obtain ⟨p1,q1⟩:=h1 p.1 a1;obtain ⟨p2,q2⟩:=h2 p.2 a3;by_cases hs:mD seen p=true
  · rw [hs,Bool.not_true,Bool.false_and];have h:=sB.1 hs;rw [<-q1,<-q2] at h;rw [if_pos aA]
  · have hs2:¬ ((∃ q ∈ seen,q.1=p.1)\/∃ q ∈ seen,q.2=p.2):=fun h=>hs (sB.2 h);rw [<-q1,<-q2] at hs2;rw [show mD seen p=false from by simpa using hs,Bool.not_false,Bool.true_and,if_neg aA];refine tS r (seen++[p]) _ (fun a ha => ?_) (fun c hc => ?_)
    · obtain ⟨g1,g2⟩:=h1 a ha;unfold eM;rw [if_neg aA];by_cases e:a=p.1
      · rw [if_pos ⟨e,rfl⟩];refine ⟨by decide,fun _=>⟨p,by simp,e.symm⟩,fun _=>by decide⟩
      rw [if_neg aA];refine ⟨g1,fun h => ?_,fun h => ?_⟩
      · obtain ⟨q,hq,e2⟩:=g2.1 h;exact ⟨q,by simp [hq],e2⟩
      obtain ⟨q,hq,e2⟩:=h;rw [List.mem_append,List.mem_singleton] at hq;rcases hq with hq | rfl
      · exact g2.2 ⟨q,hq,e2⟩
      exact absurd e2.symm e
    obtain ⟨g1,g2⟩:=h2 c hc;unfold eM;by_cases e:c=p.2
    · rw [if_pos ⟨rfl,e⟩];refine ⟨by decide,fun _=>⟨p,by simp,e.symm⟩,fun _=>by decide⟩
    rw [if_neg aA,if_neg aA];refine ⟨g1,fun h => ?_,fun h => ?_⟩
    · obtain ⟨q,hq,e2⟩:=g2.1 h;exact ⟨q,by simp [hq],e2⟩
    obtain ⟨q,hq,e2⟩:=h;rw [List.mem_append,List.mem_singleton] at hq;rcases hq with hq | rfl
    · exact g2.2 ⟨q,hq,e2⟩
    exact absurd e2.symm e
theorem AK {b:Bk} {ps:List (Int×Int)}:gU b ps (fun _ _=>Z)=kH b [] ps :=
 tS ps [] _ (fun _ _=>⟨by decide,by simp⟩) (fun _ _=>⟨by decide,by simp⟩)
theorem pZ {b:Bk} : ∀ (L:List En) (i k:Nat),bR b i L=0->k<L.length->bS b ((i+k:Nat):Int) (L.getD k default)=0
 | [],_,_,_,h=>absurd h (Nat.not_lt_zero _)
 | x::L,i,k,h,hk=>by
  have e:bR b i (x::L)=if bS b i x ≠ 0 then bS b i x else bR b (i+1) L:=rfl;rw [e] at h;by_cases h0:bS b i x=0
  · rw [if_neg (by simpa using h0)] at h;cases k with
    | zero=>exact h0
    | succ k =>
     have:=pZ L (i+1) k h (by simpa using hk);rw [show i+1+k=i+(k+1) from by omega] at this;exact this
  · rw [if_pos h0] at h;exact absurd h h0
def kJ:List Nd:=[⟨2,1,1⟩,⟨3,0,0⟩]
def LA (b:Bk) (e:Int):Bool :=
 if (decide (0<=e)&&fE b b.entries.length e)=false then false
 else if (aT b e).sort ≠ kJ then false
 else if 0<(aT b e).params.length+(aT b e).indices.length then false
 else if (aT b e).ctors.length ≠ 2 then false
 else if ((aT b e).ctors.getD 0 default).args.length ≠ 0 then false
 else if ((aT b e).ctors.getD 1 default).args.length ≠ 1 then false
 else decide (((aT b e).ctors.getD 1 default).args.getD 0 []=[⟨9,e,0⟩])
theorem LE {l:List Nd} (h:l.length=2):l=[aL l 0,aL l 1]:=by
 match l,h with
 | [a,c],_=>rfl
theorem LB {l:List Nd} (h:l.length=1):l=[aL l 0]:=by
 match l,h with
 | [a],_=>rfl
theorem J1 {l:List Nd} (hs:aO l=0) (h2:(aL l 0).op=2) (hl:l.length=2) (ha:(aL l 0).a=1) (h1:aL l 1=⟨3,0,0⟩):l=kJ:=by
 obtain ⟨_,n,ats,k,hpp,he,_⟩:=f6 hs;have hw:=kT hpp;obtain ⟨_,hok,hat,hk,_⟩:=hw;have hn:aL l 0=n:=by rw [he];rfl
 rw [hn] at h2 ha;unfold vP at hat;rw [if_pos h2] at hat;have hds:ds n=[]:=by
  unfold ds;simp [h2,eI]
 rw [hds] at hk;have hk0:k=.nil:=by
  cases k with
  | nil=>rfl
  | cons _ _ _ _ _=>exact hk.elim
 subst hk0;rw [he] at hl;simp only [row,List.append_nil,List.length_cons] at hl;have hb:n.b=1:=by
  simp only [iC,Bool.and_eq_true] at hok;rcases aD.1 hok.1.1 with h | h | h | h | h | h | h | h | h;all_goals first | omega | skip
  obtain ⟨_,_,g1,g2⟩:=h;obtain ⟨m,hm⟩ : ∃ m:Nat,n.b=m:=⟨n.b.toNat,by omega⟩;rw [hm,Int.toNat_natCast] at hat
  match ats,hl with
  | [x],_ =>
   match m,hm with
   | 0,hm=>omega
   | 1,hm=>omega
   | m+2,hm =>
    simp only [aU] at hat;split at hat<;>simp at hat
 rw [LE (l:=l) (by rw [he];simpa [row] using hl),h1,hn];obtain ⟨o,a,c⟩:=n;simp only at h2 ha hb;subst h2 ha hb;rfl
theorem JJ {b:Bk} {e:Int} (h:bR b 0 b.entries=0):rM b e=LA b e:=by
 unfold rM LA;by_cases h0:e<0
 · rw [if_pos h0,decide_eq_false (p:=0<=e) aA,Bool.false_and,if_pos rfl]
 rw [if_neg h0,decide_eq_true (p:=0<=e) aA,Bool.true_and];by_cases h1:(b.entries.length:Int)<=e
 · rw [if_pos h1,show fE b b.entries.length e=false from by unfold fE;rw [decide_eq_false aA,Bool.false_and],if_pos rfl]
 rw [if_neg h1];by_cases h2:(aT b e).kind=1;case neg =>
  rw [if_pos h2,show fE b b.entries.length e=false from by unfold fE;rw [show ((aT b e).kind==1)=false from by simpa using h2,Bool.and_false],if_pos rfl]
 rw [if_neg (by simpa using h2),show fE b b.entries.length e=true from by unfold fE;rw [decide_eq_true aA,h2];rfl,if_neg (c:=true=false) (by decide)];have he:=pZ b.entries 0 e.toNat h aA;rw [Nat.zero_add,show ((e.toNat:Nat):Int)=e from by omega,show b.entries.getD e.toNat default=aT b e from rfl] at he;have hs:aO (aT b e).sort=0/\(aL (aT b e).sort 0).op=2:=by
  unfold bS at he;rw [if_pos h2] at he;split at he
  · cases he
  split at he
  · cases he
  simp only [fR] at he;by_cases g:eW b e (-1) (aT b e).sort 0=0
  · rw [if_neg (by simpa using g)] at he;by_cases g2:lM (aT b e).sort=0
    · unfold eW at g;unfold lM at g2;refine ⟨?_,?_⟩
      · by_cases q:aO (aT b e).sort=0
        · exact q
        rw [if_pos q] at g;exact g
      by_cases q:(aL (aT b e).sort 0).op=2
      · exact q
      rw [if_pos q] at g2;cases g2
    rw [if_pos g2] at he;exact absurd he g2
  rw [if_pos g] at he;exact absurd he g
 by_cases hso:(aT b e).sort=kJ
 · rw [if_neg (c:=(aT b e).sort ≠ kJ) (by simpa using hso),hso,if_neg (c:=kJ.length ≠ 2) (by decide),if_neg (c:=(aL kJ 0).a ≠ 1) (by decide),if_neg (c:=aL kJ 1 ≠ ⟨3,0,0⟩) (by decide)]
   repeat' split
   all_goals try rfl
   · rename_i g6
     exact (decide_eq_false (fun q=>g6 (by rw [q];rfl))).symm
   rename_i g6
   have h3:=LB (l:=((aT b e).ctors.getD 1 default).args.getD 0 []) (by simpa using g6);refine decide_eq_decide.2 ⟨fun q=>by rw [h3,q],fun q=>by rw [q];rfl⟩
 rw [if_pos hso];by_cases q1:(aT b e).sort.length=2
 · rw [if_neg (by simpa using q1)];by_cases q2:(aL (aT b e).sort 0).a=1
   · rw [if_neg (by simpa using q2)];by_cases q3:aL (aT b e).sort 1=⟨3,0,0⟩
     · exact absurd (J1 hs.1 hs.2 q1 q2 q3) hso
     rw [if_pos q3]
   rw [if_pos q2]
 rw [if_pos q1]
end
section
open Go.RowKit
theorem L8 {w:World} {g:Nat} (h:aE w g 53 #[O X 2,O X 1,O X 1,O X 3,O X 0,O X 0]):aQ w (J ⟨g,0,Z⟩) 2 2 kJ :=
 ⟨rfl,by decide,by decide,(fun e=>by cases e),fun _=>⟨g,0,rfl,h.lt,fun k hk=>by
  match k,hk with
  | 0,_=>exact ⟨h.cell 0,h.cell 1,h.cell 2⟩
  | 1,_=>exact ⟨h.cell 3,h.cell 4,h.cell 5⟩⟩⟩
theorem L7 {w:World} {g:Nat} {e:Int} (h:aE w g 53 #[O X 9,O X e,O X 0]):aQ w (J ⟨g,0,Z⟩) 1 1 [⟨9,e,0⟩] :=
 ⟨rfl,by decide,by decide,(fun e=>by cases e),fun _=>⟨g,0,rfl,h.lt,fun k hk=>by
  match k,hk with
  | 0,_=>exact ⟨h.cell 0,h.cell 1,h.cell 2⟩⟩⟩
theorem nW.at3 {w:World} {A:Option Addr} {n c:Nat} {cs:List Ct} (h:nW w A n c cs) {k:Nat} (hk:k<n) : ∃ b off,A=J ⟨b,off,Z⟩/\b<w.heap.size/\∃ A1 n1 c1 A2 n2 c2,w.cell? ⟨b,off+k*2,Z⟩=J (Y A1 n1 c1)/\w.cell? ⟨b,off+k*2+1,Z⟩=J (Y A2 n2 c2)/\cE w A1 n1 c1 (cs.getD k default).args/\cE w A2 n2 c2 (cs.getD k default).outs:=by
 obtain ⟨b,off,e,hb,hm⟩:=h.mem aA;exact ⟨b,off,e,hb,hm k hk⟩
theorem sM.cells {w:World} {b off n c:Nat} {ps:List (Int×Int)} (h:sM w (J ⟨b,off,Z⟩) n c ps) {k:Nat} (hk:k<n):b<w.heap.size/\w.cell? ⟨b,off+k*2,Z⟩=J (O X (ps.getD k (0,0)).1)/\w.cell? ⟨b,off+k*2+1,Z⟩=J (O X (ps.getD k (0,0)).2):=by
 obtain ⟨b',off',e,hb,hm⟩:=h.mem aA;injection e with e;injection e with e1 e2;subst e1 e2;exact ⟨hb,hm k hk⟩
theorem qB.kind_at {w:World} {b off n c:Nat} {es:List En} (h:qB w (J ⟨b,off,Z⟩) n c es) {k:Nat} (hk:k<n):w.cell? ⟨b,off+k*7,Z⟩=J (O X (es.getD k default).kind):=by
 obtain ⟨b',off',e,hb,ev,h0,_⟩:=h.at_ hk;injection e with e;injection e with e1 e2;subst e1 e2;exact h0
theorem CJ {ps:List (Int×Int)} {i j:Nat} {p:Int×Int} (hj:j<i) (hi:i<=ps.length) (h:(ps.getD j (0,0)).1=p.1\/(ps.getD j (0,0)).2=p.2):mD (ps.take i) p=true:=by
 have hm:ps.getD j (0,0) ∈ ps.take i:=by
  rw [List.getD_eq_getElem?_getD,List.getElem?_eq_getElem aA];simp only [Option.getD_some];have h2:j<(ps.take i).length:=by rw [List.length_take];omega
  have h3:(ps.take i)[j]=ps[j]:=List.getElem_take;rw [<-h3];exact List.getElem_mem h2
 refine sB.2 ?_;rcases h with h | h
 · exact .inl ⟨_,hm,h⟩
 exact .inr ⟨_,hm,h⟩
theorem EX {ps:List (Int×Int)} {j:Nat} {p:Int×Int} (hj:j<ps.length) (h1:(ps.getD j (0,0)).1 ≠ p.1) (h2:(ps.getD j (0,0)).2 ≠ p.2) (h:mD (ps.take j) p=false):mD (ps.take (j+1)) p=false:=by
 rw [List.getD_eq_getElem?_getD,List.getElem?_eq_getElem hj,Option.getD_some] at h1 h2;unfold mD at h ⊢;rw [List.take_succ_eq_append_getElem hj,List.any_append,h];simp [h1,h2]
theorem uO {b:Bk} {i:Nat} {x:En} {r:List En}:bR b i (x::r)=if bS b i x ≠ 0 then bS b i x else bR b (i+1) r:=rfl
theorem vE {w:World} {v:cP} {b:Bk} (hb:bY w v b) :
 Calls Tryz.prog 10 #[.agg #[O X b.vars,Y v.Ao v.no v.co,Y v.Ae v.ne v.ce,O X b.nat,Y v.Ap v.np v.cp]] w (gD (cZ b) w):=by
 have hlen:=hb.entries.len;have hefew:=hb.entries.few;have hpfew:=hb.prims.few;have hplen:=hb.prims.len;have HCHK:=hid (fun (w':World) (h:Below w.heap.size w w')=>vA (hb.orders.below h) b.vars hb.vars);have HEN:=hid (fun (w':World) (h:Below w.heap.size w w')=>hb.entries.below h);have HPR:=hid (fun (w':World) (h:Below w.heap.size w w')=>hb.prims.below h);have HENT:=hid (fun (w':World) (i:Nat) (h:Below w.heap.size w w') (h1:i<b.entries.length)=>vB (hb.below h) i h1);have HFAM:=hid (fun (w':World) (h:Below w.heap.size w w')=>nE (hb.below h) b.nat (b.entries.length:Int) aA);have HB0:=hid (aB w (I #[O X b.vars,Y v.Ao v.no v.co,Y v.Ae v.ne v.ce,O X b.nat,Y v.Ap v.np v.cp] 26));have HK0:=hid (aE.new w 26 #[O X b.vars,Y v.Ao v.no v.co,Y v.Ae v.ne v.ce,O X b.nat,Y v.Ap v.np v.cp]);have HR0:Hid (cZ b=if (mL b.vars b.orders).1 ≠ 0 then (mL b.vars b.orders).1
 else if 64<b.entries.length then 5
 else if bR b 0 b.entries ≠ 0 then bR b 0 b.entries
 else if (if b.nat ≠ -1 then (if rM b b.nat then gU b b.prims (fun _ _=>Z) else false)
  else if 0<b.prims.length then false else true) then 0 else 22):=hid rfl
 generalize cZ b=res at *;generalize (mL b.vars b.orders).1=ck at *;rw [hlen,hplen] at HR0;rw [hlen] at HENT HFAM;have HLN:=hid hlen;have HPN:=hid hplen;obtain ⟨Ao,no,co,Ae,ne,ce,Ap,np,cp⟩:=v;simp only at HCHK HEN HPR HENT HFAM HB0 HK0 HR0 HLN HPN hefew hpfew ⊢;clear hb hlen hplen;generalize b.vars=bv at *;generalize b.nat=bn at *;by_cases h1:ck=0;case neg =>
  rw [if_pos h1] at HR0;have d1:(ck != 0)=true:=by simpa using h1
  clear h1;go_in;go_wp2_with fail
  refine (HCHK.o _ HB0.o).mono ?_;rintro e w2 ⟨rfl,hb2⟩;have HB2:=cN HB0 hb2;clear hb2;go_wp2_with fail
  go_ret;rw [HR0.o];exact ⟨rfl,HB2.o⟩
 subst h1;rw [if_neg (c:=(0:Int) ≠ 0) (by simp)] at HR0;by_cases h2:64<ne
 · rw [if_pos h2] at HR0;have d2:decide ((ne:Int)>64)=true:=decide_eq_true aA;clear h2;go_in;go_wp2_with fail
   refine (HCHK.o _ HB0.o).mono ?_;rintro e w2 ⟨rfl,hb2⟩;have HB2:=cN HB0 hb2;have zk2:=aE.cell (aE.below HK0.o hb2 (by simp));clear hb2;go_wp2_with fail
   go_ret;rw [HR0.o];exact ⟨rfl,HB2.o⟩
 rw [if_neg h2] at HR0;have d2:decide ((ne:Int)>64)=false:=decide_eq_false aA;clear h2;go_in;go_wp2_with fail
 refine (HCHK.o _ HB0.o).mono ?_;rintro e w2 ⟨rfl,hb2⟩;have HB2:=cN HB0 hb2;have HK2:=hid (aE.below HK0.o hb2 (by simp));have zk2:=aE.cell HK2.o;clear hb2;go_wp2_with fail
 clear zk2;go_loopw [4] (fun iv wr=>∃ i:Nat,iv=O X (i:Int)/\i<=ne/\Hid (bR b i (b.entries.drop i)=bR b 0 b.entries)/\Hid (aE wr w.heap.size 26 #[O X bv,Y Ao no co,Y Ae ne ce,O X bn,Y Ap np cp])/\Hid (Below w.heap.size w wr)) (fun i _=>ne-(intOf i).toNat)
 case atStart=>exact ⟨0,rfl,by omega,hid rfl,HK2,HB2⟩
 case round =>
  clear HK2 HB2 HK0 HB0;obtain ⟨i,rfl,hi,hes,hbk,hbw⟩:=hrel;have zk:=aE.cell hbk.o;by_cases hlt:i<ne
  · have hib:decide ((i:Int)<(ne:Int))=true:=decide_eq_true aA;have hib2:decide (i<ne)=true:=decide_eq_true hlt;have hil:i<b.entries.length:=by rw [HLN.o];exact hlt
    have hq:=hes.o;rw [List.drop_eq_getElem_cons hil,show b.entries[i]=b.entries.getD i default from by rw [List.getD_eq_getElem?_getD,List.getElem?_eq_getElem hil];rfl,uO] at hq;have HC:=hid (HENT.o wr i hbw.o hlt);generalize b.entries.getD i default=x at *;generalize bS b i x=ee at *;by_cases h3:ee=0
    · subst h3;rw [if_neg (by simp)] at hq;have HQ:=hid hq;clear hq;go_wp2_with fail
      refine (HC.o).mono ?_;rintro e w4 ⟨rfl,hb4⟩;have HB4:=cN hbw hb4;have HK4:=gJ hbk hb4;clear hb4 zk;go_wp2_with fail
      go_roundw
      case rel=>exact ⟨i+1,by go_num,by omega,HQ,HK4,HB4⟩
      case measure=>simp [intOf];omega
    rw [if_pos h3] at hq;have HRF:Hid (res=ee):=hid (by rw [HR0.o,<-hq,if_pos h3]);have d3:(ee != 0)=true:=by simpa using h3
    clear hq h3;go_wp2_with fail
    refine (HC.o).mono ?_;rintro e w4 ⟨rfl,hb4⟩;have HB4:=cN hbw hb4;clear hb4 zk;go_wp2_with fail
    go_ret;rw [HRF.o];exact ⟨rfl,HB4.o⟩
  have hib:decide ((i:Int)<(ne:Int))=false:=decide_eq_false aA;have hib2:decide (i<ne)=false:=decide_eq_false hlt;have hq:=hes.o;rw [List.drop_of_length_le (by rw [HLN.o];omega)] at hq;have he0:bR b 0 b.entries=0:=hq.symm;have hr0:=HR0.o;rw [he0,if_neg (c:=(0:Int) ≠ 0) (by simp),JJ he0,AK] at hr0;clear HR0 HENT HCHK hes hq he0 hlt hi;obtain ⟨wn,rfl⟩ : ∃ wn:World,wn=wr:=⟨_,rfl⟩;by_cases hn:bn = -1
  · subst hn;rw [if_neg (c:=(-1:Int) ≠ -1) (by simp)] at hr0;have HR1:=hid hr0;have y0:((-1:Int) != -1)=false:=by decide
    have y5:((-1:Int) == -1)=true:=by decide
    clear hr0;go_wp2_with fail
    clear zk;go_loopw [6] (fun iv wr=>∃ j:Nat,iv=O X (j:Int)/\j<=0/\Hid (aE wr w.heap.size 26 #[O X bv,Y Ao no co,Y Ae ne ce,O X (-1),Y Ap np cp])/\Hid (Below w.heap.size w wr)) (fun _ _=>0)
    case atStart=>exact ⟨0,rfl,by omega,hbk,hbw⟩
    case round =>
     obtain ⟨j,rfl,hj,hbk2,hbw2⟩:=hrel;have zk:=aE.cell hbk2.o;by_cases hjn:j<np
     · have y1:decide ((j:Int)<(np:Int))=true:=decide_eq_true aA;have y2:decide (j<np)=true:=decide_eq_true hjn;have HRF:Hid (res=22):=hid (by rw [HR1.o,if_pos (c:=0<np) aA];rfl);obtain ⟨bp,op,rfl,hbp,hpm⟩:=(HPR.o wr hbw2.o).mem aA;obtain ⟨g0,g1⟩:=hpm j hjn;have hbl:=hbk2.o.lt;clear hpm;have HBA:=hid (hbw2.o.trans ((aB wr (I #[O X (b.prims.getD j (0,0)).1,O X (b.prims.getD j (0,0)).2] 68)).mono hbw2.o.size));generalize b.prims.getD j (0,0)=p at *;go_wp2_with fail
       go_ret;rw [HRF.o];exact ⟨rfl,HBA.o⟩
     have y1:decide ((j:Int)<(np:Int))=false:=decide_eq_false aA;have y2:decide (j<np)=false:=decide_eq_false hjn;have HRF:Hid (res=0):=hid (by rw [HR1.o,if_neg (c:=0<np) aA];rfl);go_wp2_with fail
     go_ret;rw [HRF.o];exact ⟨rfl,hbw2.o⟩
  rw [if_pos hn] at hr0;have y0:(bn != -1)=true:=by simpa using hn
  have y00:(bn == -1)=false:=by simpa using hn
  obtain ⟨q1,hq1⟩ : ∃ q,q=(decide (0<=bn)&&fE b ne bn):=⟨_,rfl⟩;have HC:=hid (HFAM.o wn hbw.o);rw [<-hq1] at HC;unfold LA at hr0;rw [HLN.o,<-hq1] at hr0;cases q1 with
  | false =>
   rw [if_pos rfl] at hr0;have HRF:=hid hr0;clear hr0 hq1 hn;go_wp2_with fail
   refine (HC.o).mono ?_;rintro e w4 ⟨rfl,hb4⟩;have HB4:=cN hbw hb4;clear hb4 zk;go_wp2_with fail
   go_ret;rw [HRF.o];exact ⟨rfl,HB4.o⟩
  | true =>
   rw [if_neg (c:=true=false) (by decide)] at hr0;rw [eq_comm,Bool.and_eq_true,decide_eq_true_eq] at hq1;obtain ⟨hb1,hb2⟩:=hq1;simp only [fE,Bool.and_eq_true,decide_eq_true_eq,beq_iff_eq] at hb2;obtain ⟨hb2,hkd⟩:=hb2;obtain ⟨e,rfl⟩ : ∃ e:Nat,bn=(e:Int):=⟨bn.toNat,by omega⟩;have hene:e<ne:=aA;obtain ⟨be,oe,hA,hbe,ev,hc0,hc1,hc2,hc3,hc4,hc5,hc6,hec⟩:=(HEN.o w (Below.refl _ _)).at_ hene;subst hA;rw [show b.entries.getD e default=aT b (e:Int) from by unfold aT;rw [Int.toNat_natCast]] at hc0 hec;obtain ⟨x,hx⟩ : ∃ x,x=aT b (e:Int):=⟨_,rfl⟩;rw [<-hx] at hc0 hec hr0 hkd;rw [hkd] at hc0;rw [hec.params.len,hec.indices.len,hec.ctors.len] at hr0;have f1:=hec.params.few;have f2:=hec.indices.few;have f3:=hec.ctors.few;have HX:=hid (fun (w':World) (h:Below w.heap.size w w')=>hec.below h);obtain ⟨As,ns,cs,Ap2,np2,cp2,Ai,ni,ci,Ac,nc,cc,At,nt,ct,Ab,nb,cb⟩:=ev;simp only at hc1 hc2 hc3 hc4 hc5 hc6 hr0 HX f1 f2 f3;have HR1:=hid hr0;clear hec hx hkd hn hr0 hb1 hb2;go_wp2_with fail
   refine (HC.o).mono ?_;rintro e' w4 ⟨rfl,hb4⟩;have HB4:=cN hbw hb4;have HK4:=gJ hbk hb4;have zk4:=aE.cell HK4.o;have hbl4:=HK4.o.lt;have e0:=(HB4.o.cell (p:=⟨be,oe+e*7,Z⟩) hbe).trans hc0;have e1:=(HB4.o.cell (p:=⟨be,oe+e*7+1,Z⟩) hbe).trans hc1;have e2:=(HB4.o.cell (p:=⟨be,oe+e*7+2,Z⟩) hbe).trans hc2;have e3:=(HB4.o.cell (p:=⟨be,oe+e*7+3,Z⟩) hbe).trans hc3;have e4:=(HB4.o.cell (p:=⟨be,oe+e*7+4,Z⟩) hbe).trans hc4;have e5:=(HB4.o.cell (p:=⟨be,oe+e*7+5,Z⟩) hbe).trans hc5;have e6:=(HB4.o.cell (p:=⟨be,oe+e*7+6,Z⟩) hbe).trans hc6;clear hb4 zk hc0 hc1 hc2 hc3 hc4 hc5 hc6 HC;have HB5:=hid ((HB4.o.alloc HB4.o.size (I #[O X 1,Y As ns cs,Y Ap2 np2 cp2,Y Ai ni ci,Y Ac nc cc,Y At nt ct,Y Ab nb cb] 57)).alloc (Nat.le_trans HB4.o.size (by simp)) (I #[O X 2,O X 1,O X 1,O X 3,O X 0,O X 0] 53));have HK15:Hid (aE ((w4.alloc (I #[O X 1,Y As ns cs,Y Ap2 np2 cp2,Y Ai ni ci,Y Ac nc cc,Y At nt ct,Y Ab nb cb] 57)).alloc (I #[O X 2,O X 1,O X 1,O X 3,O X 0,O X 0] 53)) w.heap.size 26 #[O X bv,Y Ao no co,Y (J ⟨be,oe,Z⟩) ne ce,O X (e:Int),Y Ap np cp]):=hid ((HK4.o.alloc _).alloc _);have HK25:Hid (aE ((w4.alloc (I #[O X 1,Y As ns cs,Y Ap2 np2 cp2,Y Ai ni ci,Y Ac nc cc,Y At nt ct,Y Ab nb cb] 57)).alloc (I #[O X 2,O X 1,O X 1,O X 3,O X 0,O X 0] 53)) w4.heap.size 57 #[O X 1,Y As ns cs,Y Ap2 np2 cp2,Y Ai ni ci,Y Ac nc cc,Y At nt ct,Y Ab nb cb]):=hid ((aE.new w4 57 #[O X 1,Y As ns cs,Y Ap2 np2 cp2,Y Ai ni ci,Y Ac nc cc,Y At nt ct,Y Ab nb cb]).alloc _);have HL2:=hid (L8 (aE.new' (w:=(w4.alloc (I #[O X 1,Y As ns cs,Y Ap2 np2 cp2,Y Ai ni ci,Y Ac nc cc,Y At nt ct,Y Ab nb cb] 57))) (g:=w4.heap.size+1) (t:=53) (cs:=#[O X 2,O X 1,O X 1,O X 3,O X 0,O X 0]) (by simp)));have HSA:=hid (jY ((w4.alloc (I #[O X 1,Y As ns cs,Y Ap2 np2 cp2,Y Ai ni ci,Y Ac nc cc,Y At nt ct,Y Ab nb cb] 57)).alloc (I #[O X 2,O X 1,O X 1,O X 3,O X 0,O X 0] 53)) (HX.o ((w4.alloc (I #[O X 1,Y As ns cs,Y Ap2 np2 cp2,Y Ai ni ci,Y Ac nc cc,Y At nt ct,Y Ab nb cb] 57)).alloc (I #[O X 2,O X 1,O X 1,O X 3,O X 0,O X 0] 53)) HB5.o).sort HL2.o);go_wp2_with fail
   refine (HSA.o).mono ?_;rintro e' w6 ⟨rfl,m6,hw6⟩;have HB6:Hid (Below w.heap.size w w6):=hid (by rw [hw6];exact aK HB5.o m6);have HK16:Hid (aE w6 w.heap.size 26 #[O X bv,Y Ao no co,Y (J ⟨be,oe,Z⟩) ne ce,O X (e:Int),Y Ap np cp]):=hid (by rw [hw6];exact HK15.o.drewN m6);have HK26:Hid (aE w6 w4.heap.size 57 #[O X 1,Y As ns cs,Y Ap2 np2 cp2,Y Ai ni ci,Y Ac nc cc,Y At nt ct,Y Ab nb cb]):=hid (by rw [hw6];exact HK25.o.drewN m6);clear hw6;have ze6:=aE.cell HK26.o;clear e0 e1 e2 e3 e4 e5 e6 zk4 HSA HL2 HB5 HK15 HK25;by_cases hso:x.sort=kJ;case neg =>
    have y1:decide (x.sort=kJ)=false:=decide_eq_false hso;have HRF:Hid (res=22):=hid (by rw [HR1.o,if_pos (c:=x.sort ≠ kJ) hso];rfl);go_wp2_with fail
    go_ret;rw [HRF.o];exact ⟨rfl,HB6.o⟩
   have y1:decide (x.sort=kJ)=true:=decide_eq_true hso;have hr1:=HR1.o;rw [if_neg (c:=x.sort ≠ kJ) (by simpa using hso)] at hr1;have HR2:=hid hr1;have hwr:IntKind.i64.wrap ((np2:Int)+(ni:Int))=(np2:Int)+(ni:Int):=by rw [IntKind.wrap_i64];omega
   clear hr1 HR1 hso;by_cases hz:0<np2+ni
   · have y2:((np2:Int)+(ni:Int) != 0)=true:=by rw [bne_iff_ne];omega
     have HRF:Hid (res=22):=hid (by rw [HR2.o,if_pos (c:=0<np2+ni) hz];rfl);clear hz;go_wp2_with fail
     go_ret;rw [HRF.o];exact ⟨rfl,HB6.o⟩
   have y2:((np2:Int)+(ni:Int) != 0)=false:=by rw [bne_eq_false_iff_eq];omega
   have hr2:=HR2.o;rw [if_neg (c:=0<np2+ni) hz] at hr2;have HR3:=hid hr2;clear hr2 HR2 hz;by_cases hnc:nc=2;case neg =>
    have y3:((nc:Int) != 2)=true:=by rw [bne_iff_ne];omega
    have HRF:Hid (res=22):=hid (by rw [HR3.o,if_pos (c:=nc ≠ 2) hnc];rfl);clear hnc;go_wp2_with fail
    go_ret;rw [HRF.o];exact ⟨rfl,HB6.o⟩
   have y3:((nc:Int) != 2)=false:=by rw [bne_eq_false_iff_eq];omega
   have hr3:=HR3.o;rw [if_neg (c:=nc ≠ 2) (by simpa using hnc)] at hr3;have HR4:=hid hr3;have hnc0:0<nc:=aA;have hnc1:1<nc:=aA;clear hr3 HR3 hnc;obtain ⟨bc,oc,hAc,hbc,A10,n10,c10,A20,n20,c20,hz0,_,hr10,_⟩:=(HX.o _ HB6.o).ctors.at3 hnc0;subst hAc;obtain ⟨bc',oc',hAc',hbc',A11,n11,c11,A21,n21,c21,hz1,_,hr11,_⟩:=(HX.o _ HB6.o).ctors.at3 hnc1;obtain ⟨rfl,rfl⟩:bc=bc'/\oc=oc':=by
    injection hAc' with e;injection e with e1 e2;exact ⟨e1,e2⟩
   clear hAc' hbc';rw [Nat.zero_mul,Nat.add_zero] at hz0;rw [Nat.one_mul] at hz1;have hd0:decide (0<nc)=true:=decide_eq_true hnc0;have hd1:decide (1<nc)=true:=decide_eq_true hnc1;have hd0i:(0:Int)<(nc:Int):=aA;have hd1i:(1:Int)<(nc:Int):=aA;have hl10:=hr10.len;have hl11:=hr11.len;have zb6:=aE.cell HK16.o;have hbl6:=HK16.o.lt;have hbe6:=HK26.o.lt;by_cases hn10:n10=0;case neg =>
    have y4:((n10:Int) != 0)=true:=by rw [bne_iff_ne];omega
    have HRF:Hid (res=22):=hid (by rw [HR4.o,hl10,if_pos (c:=n10 ≠ 0) hn10];rfl);clear hn10 hl10 hl11 hr10 hr11;go_wp2_with fail
    go_quiet (fail)
    go_wp2_with fail
    go_ret;rw [HRF.o];exact ⟨rfl,aK HB6.o _⟩
   have y4:((n10:Int) != 0)=false:=by rw [bne_eq_false_iff_eq];omega
   have hr4:=HR4.o;rw [hl10,if_neg (c:=n10 ≠ 0) aA] at hr4;by_cases hn11:n11=1;case neg =>
    have y5:((n11:Int) != 1)=true:=by rw [bne_iff_ne];omega
    have HRF:Hid (res=22):=hid (by rw [hr4,hl11,if_pos (c:=n11 ≠ 1) hn11];rfl);clear hn10 hn11 hl10 hl11 hr10 hr11 hr4;go_wp2_with fail
    go_quiet (fail)
    go_wp2_with fail
    go_ret;rw [HRF.o];exact ⟨rfl,aK HB6.o _⟩
   have y5:((n11:Int) != 1)=false:=by rw [bne_eq_false_iff_eq];omega
   rw [hl11,if_neg (c:=n11 ≠ 1) aA] at hr4;obtain ⟨ba,oa,A3,n3,c3,hA11,hba,hz3,ht3⟩:=hr11.at_ (k:=0) aA;subst hA11;rw [Nat.add_zero] at hz3;have hd3:decide (0<n11)=true:=decide_eq_true aA;have hd3i:(0:Int)<(n11:Int):=aA;have HR5:=hid hr4;clear hr4 HR4 hr10 hr11 hl10 hl11;have HBd:=hid (aK HB6.o 1);have HKd:=hid (HK16.o.drewN 1);have HEd:=hid (HK26.o.drewN 1);have HD7:Hid (Below w6.heap.size w6 (w6.drew.alloc (I #[O X 9,O X (e:Int),O X 0] 53))):=hid ((aK (Below.refl w6.heap.size w6) 1).trans (aB w6.drew (I #[O X 9,O X (e:Int),O X 0] 53)));have HS2:=hid (jY (w6.drew.alloc (I #[O X 9,O X (e:Int),O X 0] 53)) (ht3.below HD7.o) (L7 (aE.new' (w:=w6.drew) (g:=w6.heap.size) (t:=53) (cs:=#[O X 9,O X (e:Int),O X 0]) rfl)));have zb7:=aE.cell (aE.below HK16.o HD7.o HK16.o.lt);have ze7:=aE.cell (aE.below HK26.o HD7.o HK26.o.lt);have zc07:=(HD7.o.cell (p:=⟨bc,oc,Z⟩) hbc).trans hz0;have zc17:=(HD7.o.cell (p:=⟨bc,oc+2,Z⟩) hbc).trans hz1;have zc37:=(HD7.o.cell (p:=⟨ba,oa,Z⟩) hba).trans hz3;have hlt7:=HD7.o.size;obtain ⟨q6,hq6⟩ : ∃ q,q=decide ((x.ctors.getD 1 default).args.getD 0 []=[⟨9,(e:Int),0⟩]):=⟨_,rfl⟩;rw [<-hq6] at HR5 HS2;clear hq6 ht3;go_wp2_with fail
   refine wp_region_held_drew (S:=(fun W=>W.cell? ⟨w4.heap.size,4,Z⟩=J (Y (J ⟨bc,oc,Z⟩) nc cc)/\W.cell? ⟨w.heap.size,3,Z⟩=J (O X (e:Int))/\W.cell? ⟨bc,oc,Z⟩=J (Y A10 n10 c10)/\W.cell? ⟨bc,oc+2,Z⟩=J (Y (J ⟨ba,oa,Z⟩) n11 c11)/\W.cell? ⟨ba,oa,Z⟩=J (Y A3 n3 c3))) (by kernel_rfl) ?_ (fun hHeld => ?_)
   · (try dsimp only);exact ⟨HEd.o.cell 4,HKd.o.cell 3,hz0,hz1,hz3⟩
   refine tq 0 hHeld ?_;try simp only [p7]
   refine tq 1 hHeld ?_;try simp only [p7]
   refine tq 2 hHeld ?_;try simp only [p7]
   refine tq 3 hHeld ?_;try simp only [p7]
   refine tq 4 hHeld ?_;try simp only [p7]
   refine tq 5 hHeld ?_;try simp only [p7]
   refine tq 6 hHeld ?_;try simp only [p7]
   refine tq 7 hHeld ?_;try simp only [p7]
   refine tq 8 hHeld ?_;try simp only [p7]
   refine tq 9 hHeld ?_;try simp only [p7]
   refine tq 10 hHeld ?_;try simp only [p7]
   refine tq 11 hHeld ?_;try simp only [p7]
   refine tq 12 hHeld ?_;try simp only [p7]
   refine tq 13 hHeld ?_;try simp only [p7]
   refine tq 14 hHeld ?_;try simp only [p7]
   refine tq 15 hHeld ?_;try simp only [p7]
   refine tq 16 hHeld ?_;try simp only [p7]
   refine tq 17 hHeld ?_;try simp only [p7]
   refine tq 18 hHeld ?_;try simp only [p7]
   refine tq 19 hHeld ?_;try simp only [p7]
   refine tq 20 hHeld ?_;try simp only [p7]
   refine tq 21 hHeld ?_;try simp only [p7]
   refine tq 22 hHeld ?_;try simp only [p7]
   refine tq 23 hHeld ?_;try simp only [p7]
   refine tq 24 hHeld ?_;try simp only [p7]
   refine tq 25 hHeld ?_;try simp only [p7]
   refine tq 26 hHeld ?_;try simp only [p7]
   refine r1 27 fun K hK => ?_;go_simp;refine hK.o _ _ (by exact ⟨ze7 4,zb7 3,zc07,zc17,zc37⟩) fun hHeld => ?_;clear hK K;try simp only [p7]
   refine r1 28 fun K hK => ?_;go_simp;go_at_call 23
   refine HS2.o.mono ?_;rintro e' w8 ⟨rfl,m8,hw8⟩;have HD8:Hid (Below w6.heap.size w6 w8):=hid (by rw [hw8];exact aK HD7.o m8);have HB8:=hid (HB6.o.trans (HD8.o.mono HB6.o.size));have HK8:=hid (aE.below HK16.o HD8.o HK16.o.lt);have zb8:=aE.cell HK8.o;have ze8:=aE.cell (aE.below HK26.o HD8.o HK26.o.lt);have zc08:=(HD8.o.cell (p:=⟨bc,oc,Z⟩) hbc).trans hz0;have zc18:=(HD8.o.cell (p:=⟨bc,oc+2,Z⟩) hbc).trans hz1;have zc38:=(HD8.o.cell (p:=⟨ba,oa,Z⟩) hba).trans hz3;clear hw8;go_wp2_with fail
   refine hK.o _ _ (by exact ⟨ze8 4,zb8 3,zc08,zc18,zc38⟩) fun hHeld => ?_;clear hK K;try simp only [p7]
   refine tq 29 hHeld ?_;try simp only [p7]
   refine tq 30 hHeld ?_;try simp only [p7]
   refine wpAnyH_done (by kernel_rfl) ?_ _;cases q6 with
   | false =>
    have HRF:Hid (res=22):=hid (by rw [HR5.o];rfl);go_wp2_with fail
    go_ret;rw [HRF.o];exact ⟨rfl,HB8.o⟩
   | true =>
    have HR6:Hid (res=if kH b [] b.prims=true then 0 else 22):=hid (by rw [HR5.o];rfl);clear HR5 HX;go_wp2_with fail
    clear zb8 ze8 zc08 zc18 zc38 zb7 ze7 zc07 zc17 zc37 hz0 hz1 hz3;go_loopw [6] (fun iv wr=>∃ i:Nat,iv=O X (i:Int)/\i<=np/\Hid (kH b (b.prims.take i) (b.prims.drop i)=kH b [] b.prims)/\Hid (aE wr w.heap.size 26 #[O X bv,Y Ao no co,Y (J ⟨be,oe,Z⟩) ne ce,O X (e:Int),Y Ap np cp])/\Hid (Below w.heap.size w wr)) (fun i _=>np-(intOf i).toNat)
    case atStart=>exact ⟨0,rfl,by omega,hid rfl,HK8,HB8⟩
    case round =>
     clear HK8 HB8 HD8;obtain ⟨i,rfl,hi,hps,hbk2,hbw2⟩:=hrel;have zk:=aE.cell hbk2.o;have hbl:=hbk2.o.lt;obtain ⟨wo,rfl⟩ : ∃ wo:World,wo=wr:=⟨_,rfl⟩;by_cases hlt:i<np;case neg =>
      have y6:decide ((i:Int)<(np:Int))=false:=decide_eq_false aA;have y7:decide (i<np)=false:=decide_eq_false hlt;have HRF:Hid (res=0):=hid (by
       have hq:=hps.o;rw [List.drop_of_length_le (by rw [HPN.o];omega)] at hq;rw [HR6.o,<-hq];rfl)
      go_wp2_with fail
      go_ret;rw [HRF.o];exact ⟨rfl,hbw2.o⟩
     have y6:decide ((i:Int)<(np:Int))=true:=decide_eq_true aA;have y7:decide (i<np)=true:=decide_eq_true hlt;obtain ⟨bp,op,hAp,hbp,hpm⟩:=(HPR.o wo hbw2.o).mem aA;subst hAp;obtain ⟨g0,g1⟩:=hpm i hlt;have hil:i<b.prims.length:=by rw [HPN.o];exact hlt
     have hq:=hps.o;rw [List.drop_eq_getElem_cons hil,show b.prims[i]=b.prims.getD i (0,0) from by rw [List.getD_eq_getElem?_getD,List.getElem?_eq_getElem hil];rfl,kH] at hq;have htk:b.prims.take (i+1)=b.prims.take i++[b.prims.getD i (0,0)]:=by
      rw [List.take_succ_eq_append_getElem hil,List.getD_eq_getElem?_getD,List.getElem?_eq_getElem hil];rfl
     obtain ⟨p,hp⟩ : ∃ p,p=b.prims.getD i (0,0):=⟨_,rfl⟩;rw [<-hp] at g0 g1 hq htk;have HTK:=hid htk;obtain ⟨p1,hp1⟩ : ∃ y,y=p.1:=⟨_,rfl⟩;obtain ⟨p2,hp2⟩ : ∃ y,y=p.2:=⟨_,rfl⟩;rw [<-hp1] at g0;rw [<-hp2] at g1;have HP1:=hid hp1;have HP2:=hid hp2;clear hp htk hpm hps;have HB9:=hid (hbw2.o.trans ((aB wo (I #[O X p1,O X p2] 68)).mono hbw2.o.size));have HK9:Hid (aE (wo.alloc (I #[O X p1,O X p2] 68)) w.heap.size 26 #[O X bv,Y Ao no co,Y (J ⟨be,oe,Z⟩) ne ce,O X (e:Int),Y (J ⟨bp,op,Z⟩) np cp]):=hid (hbk2.o.alloc _);have HP9:=hid (aE.new wo 68 #[O X p1,O X p2]);have zk9:=aE.cell HK9.o;have zp9:=aE.cell HP9.o;have hlt9:=HK9.o.lt;by_cases hok:nO b p=true;case neg =>
      have HRF:Hid (res=22):=hid (by rw [HR6.o,<-hq,show nO b p=false from by simpa using hok];rfl);have hsp:p1<0\/(0<=p1/\(ne:Int)<=p1)\/(0<=p1/\p1<ne/\p2<1)\/(0<=p1/\p1<ne/\1<=p2/\3<p2)\/(0<=p1/\p1<ne/\1<=p2/\p2<=3/\(aT b p1).kind ≠ 2):=by
       unfold nO at hok;rw [decide_eq_true_eq,HLN.o,<-hp1,<-hp2] at hok;omega
      clear hq hok hp1 hp2 HR6 HTK;rcases hsp with h | ⟨h,h2⟩ | ⟨h,h2,h3⟩ | ⟨h,h2,h3,h4⟩ | ⟨h,h2,h3,h4,h5⟩
      · have y10:decide (p1<0)=true:=decide_eq_true h;go_wp2_with fail
        go_ret;rw [HRF.o];exact ⟨rfl,HB9.o⟩
      · have y10:decide (p1<0)=false:=decide_eq_false aA;have y11:decide (p1 ≥ (ne:Int))=true:=decide_eq_true h2;go_wp2_with fail
        go_ret;rw [HRF.o];exact ⟨rfl,HB9.o⟩
      · have y10:decide (p1<0)=false:=decide_eq_false aA;have y11:decide (p1 ≥ (ne:Int))=false:=decide_eq_false aA;have y12:decide (p2<1)=true:=decide_eq_true h3;go_wp2_with fail
        go_ret;rw [HRF.o];exact ⟨rfl,HB9.o⟩
      · have y10:decide (p1<0)=false:=decide_eq_false aA;have y11:decide (p1 ≥ (ne:Int))=false:=decide_eq_false aA;have y12:decide (p2<1)=false:=decide_eq_false aA;have y13:decide (p2>3)=true:=decide_eq_true h4;go_wp2_with fail
        go_ret;rw [HRF.o];exact ⟨rfl,HB9.o⟩
      have y10:decide (p1<0)=false:=decide_eq_false aA;have y11:decide (p1 ≥ (ne:Int))=false:=decide_eq_false aA;have y12:decide (p2<1)=false:=decide_eq_false aA;have y13:decide (p2>3)=false:=decide_eq_false aA;obtain ⟨q,rfl⟩ : ∃ q:Nat,p1=(q:Int):=⟨p1.toNat,by omega⟩;have hqn:q<ne:=aA;have y16:decide (q<ne)=true:=decide_eq_true hqn;have hk0:=(HEN.o _ HB9.o).kind_at hqn;rw [show b.entries.getD q default=aT b (q:Int) from by unfold aT;rw [Int.toNat_natCast]] at hk0;have y15:((aT b (q:Int)).kind != 2)=true:=by simpa using h5
      generalize (aT b (q:Int)).kind=kk at *;go_wp2_with fail
      go_ret;rw [HRF.o];exact ⟨rfl,HB9.o⟩
     have hsp:0<=p1/\p1<ne/\1<=p2/\p2<=3/\(aT b p1).kind=2:=by
      have hok2:=hok;unfold nO at hok2;rw [decide_eq_true_eq,HLN.o,<-hp1,<-hp2] at hok2;exact hok2
     obtain ⟨h,h2,h3,h4,h5⟩:=hsp;rw [hok,Bool.true_and] at hq;have HQ0:=hid hq;clear hq hok hp1 hp2;have y10:decide (p1<0)=false:=decide_eq_false aA;have y11:decide (p1 ≥ (ne:Int))=false:=decide_eq_false aA;have y12:decide (p2<1)=false:=decide_eq_false aA;have y13:decide (p2>3)=false:=decide_eq_false aA;obtain ⟨q,rfl⟩ : ∃ q:Nat,p1=(q:Int):=⟨p1.toNat,by omega⟩;have hqn:q<ne:=aA;have y16:decide (q<ne)=true:=decide_eq_true hqn;have hk0:=(HEN.o _ HB9.o).kind_at hqn;rw [show b.entries.getD q default=aT b (q:Int) from by unfold aT;rw [Int.toNat_natCast],h5] at hk0;clear h5;go_wp2_with fail
     clear zk zk9 zp9 hk0;go_loopw [8] (fun jv wr=>∃ j:Nat,jv=O X (j:Int)/\j<=i/\Hid (mD (b.prims.take j) p=false)/\Hid (aE wr w.heap.size 26 #[O X bv,Y Ao no co,Y (J ⟨be,oe,Z⟩) ne ce,O X (e:Int),Y (J ⟨bp,op,Z⟩) np cp])/\Hid (aE wr wo.heap.size 68 #[O X (q:Int),O X p2])/\Hid (Below w.heap.size w wr)) (fun j _=>i-(intOf j).toNat)
     case atStart=>exact ⟨0,rfl,by omega,hid rfl,HK9,HP9,HB9⟩
     case round =>
      clear HK9 HP9 HB9 hlt9;obtain ⟨j,rfl,hj,hsn,hbk3,hbp3,hbw3⟩:=hrel;have zk3:=aE.cell hbk3.o;have zp3:=aE.cell hbp3.o;have hl3:=hbk3.o.lt;by_cases hji:j<i;case neg =>
       have y20:decide ((j:Int)<(i:Int))=false:=decide_eq_false aA;have y21:decide (j<i)=false:=decide_eq_false hji;have HQ:Hid (kH b (b.prims.take (i+1)) (b.prims.drop (i+1))=kH b [] b.prims):=hid (by
        have hji2:j=i:=aA;have e:=hsn.o;rw [hji2] at e;have e2:=HQ0.o;rw [e] at e2;rw [HTK.o,<-e2];rfl)
       go_wp2_with fail
       go_roundw
       case rel=>first | exact ⟨i+1,by go_num,by omega,HQ,hbk3,hbw3⟩ | ((repeat apply Exists.intro);exact ⟨⟨i+1,by go_num,by omega,HQ,hbk3,hbw3⟩,rfl⟩)
       case measure=>simp [intOf];omega
      have y20:decide ((j:Int)<(i:Int))=true:=decide_eq_true aA;have y21:decide (j<i)=true:=decide_eq_true hji;have hjn:j<np:=aA;have y24:decide (j<np)=true:=decide_eq_true hjn;have y25:decide ((j:Int)<(np:Int))=true:=decide_eq_true aA;obtain ⟨hbj,g0j,g1j⟩:=(HPR.o _ hbw3.o).cells hjn;obtain ⟨pj,hpj⟩ : ∃ y,y=b.prims.getD j (0,0):=⟨_,rfl⟩;rw [<-hpj] at g0j g1j;by_cases e1:pj.1=(q:Int)
      · have y22:(pj.1==(q:Int))=true:=by simpa using e1
        have HRF:Hid (res=22):=hid (by
         have e2:=HQ0.o;rw [CJ (ps:=b.prims) (i:=i) (j:=j) (p:=p) hji aA (.inl (by rw [<-hpj,e1];exact HP1.o))] at e2;rw [HR6.o,<-e2];rfl)
        clear hpj e1;obtain ⟨pa,pb⟩:=pj;simp only at g0j g1j y22;go_wp2_with fail
        go_quiet (fail)
        go_wp2_with fail
        go_ret;rw [HRF.o];exact ⟨rfl,aK hbw3.o _⟩
      by_cases e2:pj.2=p2
      · have y22:(pj.1==(q:Int))=false:=by simpa using e1
        have y23:(pj.2==p2)=true:=by simpa using e2
        have HRF:Hid (res=22):=hid (by
         have e3:=HQ0.o;rw [CJ (ps:=b.prims) (i:=i) (j:=j) (p:=p) hji aA (.inr (by rw [<-hpj,e2];exact HP2.o))] at e3;rw [HR6.o,<-e3];rfl)
        clear hpj e1 e2;obtain ⟨pa,pb⟩:=pj;simp only at g0j g1j y22 y23;go_wp2_with fail
        go_quiet (fail)
        go_wp2_with fail
        go_ret;rw [HRF.o];exact ⟨rfl,aK hbw3.o _⟩
      have y22:(pj.1==(q:Int))=false:=by simpa using e1
      have y23:(pj.2==p2)=false:=by simpa using e2
      have HSN:Hid (mD (b.prims.take (j+1)) p=false):=hid (EX aA (by rw [<-hpj,<-HP1.o];exact e1) (by rw [<-hpj,<-HP2.o];exact e2) hsn.o);clear hpj e1 e2;obtain ⟨pa,pb⟩:=pj;simp only at g0j g1j y22 y23;go_wp2_with fail
      go_quiet (fail)
      go_wp2_with fail
      go_roundw
      case rel=>exact ⟨j+1,by go_num,by omega,HSN,hid (hbk3.o.drewN _),hid (hbp3.o.drewN _),hid (aK hbw3.o _)⟩
      case measure=>simp [intOf];omega
end
section
open Go.RowKit
theorem pY {w:World} {v:cP} {b:Bk} (hb:bY w v b) (free:Int) {A:Option Addr} {n c:Nat} {l:List Nd} (ht:aQ w A n c l) :
 Calls Tryz.prog 12 #[.agg #[O X b.vars,Y v.Ao v.no v.co,Y v.Ae v.ne v.ce,O X b.nat,Y v.Ap v.np v.cp],O X free,Y A n c] w (gD (eS b free l) w):=by
 have hlen:=hb.entries.len;have HRT:=hid (fun (w':World) (h:Below w.heap.size w w')=>vE (hb.below h));have HRW:=hid (fun (w':World) (h:Below w.heap.size w w')=>jW (hb.below h) (b.entries.length:Int) (-1) free aA (ht.below h));have HB0:=hid (aB w (I #[O X b.vars,Y v.Ao v.no v.co,Y v.Ae v.ne v.ce,O X b.nat,Y v.Ap v.np v.cp] 26));have HK0:=hid (aE.new w 26 #[O X b.vars,Y v.Ao v.no v.co,Y v.Ae v.ne v.ce,O X b.nat,Y v.Ap v.np v.cp]);have HR0:Hid (eS b free l=if cZ b ≠ 0 then cZ b else if free<0 then 1 else eW b b.entries.length (-1) l free):=hid rfl;generalize eS b free l=res at *;generalize cZ b=re at *;generalize eW b b.entries.length (-1) l free=ro at *;rw [hlen] at HRW;obtain ⟨Ao,no,co,Ae,ne,ce,Ap,np,cp⟩:=v;simp only at HRT HRW HB0 HK0 ⊢;clear hb ht hlen;generalize b.vars=bv at *;generalize b.nat=bn at *;by_cases h1:re=0;case neg =>
  rw [if_pos h1] at HR0;have d1:(re != 0)=true:=by simpa using h1
  clear h1;go_in;go_wp2_with fail
  refine (HRT.o _ HB0.o).mono ?_;rintro e w2 ⟨rfl,hb2⟩;have HB2:=cN HB0 hb2;clear hb2;go_wp2_with fail
  go_ret;rw [HR0.o];exact ⟨rfl,HB2.o⟩
 subst h1;rw [if_neg (by simp)] at HR0;by_cases h2:free<0
 · rw [if_pos h2] at HR0;have d2:decide (free<0)=true:=decide_eq_true h2;clear h2;go_in;go_wp2_with fail
   refine (HRT.o _ HB0.o).mono ?_;rintro e w2 ⟨rfl,hb2⟩;have HB2:=cN HB0 hb2;clear hb2;go_wp2_with fail
   go_ret;rw [HR0.o];exact ⟨rfl,HB2.o⟩
 rw [if_neg h2] at HR0;have d2:decide (free<0)=false:=decide_eq_false h2;clear h2;go_in;go_wp2_with fail
 refine (HRT.o _ HB0.o).mono ?_;rintro e w2 ⟨rfl,hb2⟩;have HB2:=cN HB0 hb2;have zk2:=aE.cell (aE.below HK0.o hb2 (by simp));clear hb2;go_wp2_with fail
 refine (HRW.o _ HB2.o).mono ?_;rintro e w3 ⟨rfl,hb3⟩;have HB3:=cN HB2 hb3;clear hb3 zk2;go_wp2_with fail
 go_ret;rw [HR0.o];exact ⟨rfl,HB3.o⟩
end
end Go.Proofs.YtplecfbdchmogaaGreat
