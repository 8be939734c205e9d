/- Merged: RefRightP, RefRight, RefFits. -/
import Derived.Test.YtjoddliplahgkaaGreatTRefEntry
import Derived.Test.YtjoddliplahgkaaGreatTRefCheck
import Derived.Test.YtjoddliplahgkaaGreatTSame
namespace Go.Proofs.YtjoddliplahgkaaGreat
set_option linter.unusedVariables false
set_option linter.unusedSimpArgs false
open Go.RowKit
open Go.Value renaming int → O, slice → Y
open Go.IntKind renaming i64 → X
open Option renaming none → Z, some → J
open Go.Obj renaming cells → I
open Go.Lib renaming hid->aB
variable {b:Bk}{p:Int×Int}{ps:List (Int×Int)}{w:aAB}
def oF(D:List (Int×Int))(p:Int×Int):Bool:=D.any (fun q=>decide (q.1=p.1)||decide (q.2=p.2))
def qD(b:Bk)(p:Int×Int):Bool:=decide (0<=p.1/\p.1<(b.entries.length:Int)/\1<=p.2/\p.2<=3/\(bP b p.1).kind=2)
def lT(b:Bk):List (Int×Int)->List (Int×Int)->Bool
 | _,[]=>true
 | seen,p::r=>qD b p&&(!(oF seen p)&&lT b (seen++[p]) r)
theorem E8{r:List (Int×Int)}{g:GF}:jM b (p::r) g=(if p.1<0 then false
 else if (b.entries.length:Int)<=p.1 then false
 else if (bP b p.1).kind≠2 then false
 else if p.2<1 then false
 else if 3<p.2 then false
 else if 0<(g p.1 (-1)).getD 0+(g (-1) p.2).getD 0 then false
 else jM b r (gQ (gQ g p.1 (-1) 1) (-1) p.2 1)):=rfl
theorem xR{D:List (Int×Int)}:oF D p=true ↔ (∃q∈D,q.1=p.1)\/∃q∈D,q.2=p.2:=by
 unfold oF;simp only[List.any_eq_true,ZJ,YJ];constructor
 . rintro⟨q,F,h|h⟩
   . exact .inl ⟨q,F,h⟩
   exact .inr ⟨q,F,h⟩
 rintro (⟨q,F,h⟩|⟨q,F,h⟩)
 . exact⟨q,F,.inl h⟩
 exact⟨q,F,.inr h⟩
theorem AJ{b:Bk}:∀(ps D:List (Int×Int))(g:GF),
 (∀a:Int,0<=a->0<=(g a (-1)).getD 0/\(0<(g a (-1)).getD 0 ↔ ∃q∈D,q.1=a)) →
 (∀c:Int,1<=c->0<=(g (-1) c).getD 0/\(0<(g (-1) c).getD 0 ↔ ∃q∈D,q.2=c))->jM b ps g=lT b D ps
 | [],_,_,_,_=>rfl
 | p::r,D,g,h1,h2=>by
  rw[E8,lT];by_cases s:0<=p.1/\p.1<(b.entries.length:Int)/\1<=p.2/\p.2<=3/\(bP b p.1).kind=2;case neg =>
   rw[show qD b p=false from XQ s,Bool.false_and]
   repeat' split
   all_goals first|rfl|(exfalso;apply s;omega)
  obtain⟨a1,a2,a3,a4,a5⟩:=s;rw[show qD b p=true from XR ⟨a1,a2,a3,a4,a5⟩,YZ,XN aA,XN aA,XN (by simpa using a5),XN aA,XN aA];obtain⟨p1,q1⟩:=h1 p.1 a1;obtain⟨p2,q2⟩:=h2 p.2 a3;by_cases o:oF D p=true
  . rw[o,Bool.not_true,Bool.false_and];have h:=xR.1 o;rw[<-q1,<-q2]at h;rw[XP aA]
  . have z:¬ ((∃q∈D,q.1=p.1)\/∃q∈D,q.2=p.2):=fun h=>o (xR.2 h);rw[<-q1,<-q2]at z;rw[show oF D p=false from by simpa using o,Bool.not_false,YZ,XN aA];refine AJ r (D++[p]) _ (fun a ha=>?_) (fun c hc=>?_)
    . obtain⟨g1,U⟩:=h1 a ha;unfold gQ;rw[XN aA];by_cases e:a=p.1
      . rw[XP ⟨e,rfl⟩];refine⟨by decide,fun _=>⟨p,by simp,e.symm⟩,fun _=>by decide⟩
      rw[XN aA];refine⟨g1,fun h=>?_,fun h=>?_⟩
      . obtain⟨q,F,G⟩:=U.1 h;exact⟨q,by simp[F],G⟩
      obtain⟨q,F,G⟩:=h;rw[YW,ZK]at F;rcases F with F|rfl
      . exact U.2 ⟨q,F,G⟩
      exact absurd G.symm e
    obtain⟨g1,U⟩:=h2 c hc;unfold gQ;by_cases e:c=p.2
    . rw[XP ⟨rfl,e⟩];refine⟨by decide,fun _=>⟨p,by simp,e.symm⟩,fun _=>by decide⟩
    rw[XN aA,XN aA];refine⟨g1,fun h=>?_,fun h=>?_⟩
    . obtain⟨q,F,G⟩:=U.1 h;exact⟨q,by simp[F],G⟩
    obtain⟨q,F,G⟩:=h;rw[YW,ZK]at F;rcases F with F|rfl
    . exact U.2 ⟨q,F,G⟩
    exact absurd G.symm e
theorem I7:jM b ps (fun _ _=>Z)=lT b [] ps :=
 AJ ps [] _ (fun _ _=>⟨by decide,by simp⟩) (fun _ _=>⟨by decide,by simp⟩)
theorem tW{b:Bk}:∀(L:List En)(i k:Nat),dL b i L=0->k<L.length->dK b ((i+k:Nat):Int) (L.getD k default)=0
 | [],_,_,_,h=>absurd h (Nat.not_lt_zero _)
 | x::L,i,k,h,hk=>by
  have e:dL b i (x::L)=if dK b i x≠0 then dK b i x else dL b (i+1) L:=rfl;rw[e]at h;by_cases D:dK b i x=0
  . rw[XN (by simpa using D)]at h;cases k with
    | zero=>exact D
    | succ k =>
     have:=tW L (i+1) k h (by simpa using hk);rw[show i+1+k=i+(k+1) from by omega]at this;exact this
  . rw[XP D]at h;exact absurd h D
def lV:List Nd:=[⟨2,1,1⟩,⟨3,0,0⟩]
def U0(b:Bk)(e:Int):Bool :=
 if (decide (0<=e)&&fQ b b.entries.length e)=false then false
 else if (bP b e).sort≠lV then false
 else if 0<(bP b e).params.length+(bP b e).indices.length then false
 else if (bP b e).ctors.length≠2 then false
 else if ((bP b e).ctors.getD 0 default).args.length≠0 then false
 else if ((bP b e).ctors.getD 1 default).args.length≠1 then false
 else decide (((bP b e).ctors.getD 1 default).args.getD 0 []=[⟨9,e,0⟩])
theorem U8{l:List Nd}(h:l.length=2):l=[bC l 0,bC l 1]:=by
 match l,h with
 | [a,c],_=>rfl
theorem U1{l:List Nd}(h:l.length=1):l=[bC l 0]:=by
 match l,h with
 | [a],_=>rfl
theorem TN{l:List Nd}(hs:a6 l=0)(F:(bC l 0).op=2)(s:l.length=2)(ha:(bC l 0).a=1)(h1:bC l 1=⟨3,0,0⟩):l=lV:=by
 obtain⟨_,n,z,k,a2,he,_⟩:=eN hs;have hw:=i9 a2;obtain⟨_,U,D,hk,_⟩:=hw;have hn:bC l 0=n:=by rw[he];rfl
 rw[hn]at F ha;unfold iU at D;rw[XP F]at D;have a0:ds n=[]:=by
  unfold ds;simp[F,dU]
 rw[a0]at hk;have a1:k=.nil:=by
  cases k with
  | nil=>rfl
  | cons _ _ _ _ _=>exact hk.elim
 subst a1;rw[he]at s;simp only[row,YP,YA]at s;have hb:n.b=1:=by
  simp only[eW,YC]at U;rcases aV.1 U.1.1 with h|h|h|h|h|h|h|h|h;all_goals first|omega|skip
  obtain⟨_,_,g1,g2⟩:=h;obtain⟨m,G⟩:∃m:Nat,n.b=m:=⟨n.b.toNat,by omega⟩;rw[G,YG]at D
  match z,s with
  | [x],_ =>
   match m,G with
   | 0,G=>omega
   | 1,G=>omega
   | m+2,G =>
    simp only[bJ]at D;split at D<;>simp at D
 rw[U8 (l:=l) (by rw[he];simpa[row] using s),h1,hn];obtain⟨o,a,c⟩:=n;simp only at F ha hb;subst F ha hb;rfl
theorem SZ{e:Int}(h:dL b 0 b.entries=0):CT b e=U0 b e:=by
 unfold CT U0;by_cases z:e<0
 . rw[XP z,XQ (p:=0<=e) aA,Bool.false_and,XP rfl]
 rw[XN z,XR (p:=0<=e) aA,YZ];by_cases h1:(b.entries.length:Int)<=e
 . rw[XP h1,show fQ b b.entries.length e=false from by unfold fQ;rw[XQ aA,Bool.false_and],XP rfl]
 rw[XN h1];by_cases G:(bP b e).kind=1;case neg =>
  rw[XP G,show fQ b b.entries.length e=false from by unfold fQ;rw[show ((bP b e).kind==1)=false from by simpa using G,Bool.and_false],XP rfl]
 rw[XN (by simpa using G),show fQ b b.entries.length e=true from by unfold fQ;rw[XR aA,G];rfl,XN (c:=true=false) aE];have he:=tW b.entries 0 e.toNat h aA;rw[YH,show ((e.toNat:Nat):Int)=e from by omega,show b.entries.getD e.toNat default=bP b e from rfl]at he;have hs:a6 (bP b e).sort=0/\(bC (bP b e).sort 0).op=2:=by
  unfold dK at he;rw[XP G]at he;split at he
  . cases he
  split at he
  . cases he
  simp only[jW]at he;by_cases g:fM b e (-1) (bP b e).sort 0=0
  . rw[XN (by simpa using g)]at he;by_cases F:nE (bP b e).sort=0
    . unfold fM at g;unfold nE at F;refine⟨?_,?_⟩
      . by_cases q:a6 (bP b e).sort=0
        . exact q
        rw[XP q]at g;exact g
      by_cases q:(bC (bP b e).sort 0).op=2
      . exact q
      rw[XP q]at F;cases F
    rw[XP F]at he;exact absurd he F
  rw[XP g]at he;exact absurd he g
 by_cases D:(bP b e).sort=lV
 . rw[XN (c:=(bP b e).sort≠lV) (by simpa using D),D,XN (c:=lV.length≠2) aE,XN (c:=(bC lV 0).a≠1) aE,XN (c:=bC lV 1≠⟨3,0,0⟩) aE]
   repeat' split
   all_goals try rfl
   . rename_i U
     exact (XQ (fun q=>U (by rw[q];rfl))).symm
   rename_i U
   have h3:=U1 (l:=((bP b e).ctors.getD 1 default).args.getD 0 []) (by simpa using U);refine decide_eq_decide.2 ⟨fun q=>by rw[h3,q],fun q=>by rw[q];rfl⟩
 rw[XP D];by_cases o:(bP b e).sort.length=2
 . rw[XN (by simpa using o)];by_cases s:(bC (bP b e).sort 0).a=1
   . rw[XN (by simpa using s)];by_cases q3:bC (bP b e).sort 1=⟨3,0,0⟩
     . exact absurd (TN hs.1 hs.2 o s q3) D
     rw[XP q3]
   rw[XP s]
 rw[XP o]
section
theorem W6{g:Nat}(h:aT w g 46 #[O X 2,O X 1,O X 1,O X 3,O X 0,O X 0]):aX w (J ⟨g,0,Z⟩) 2 2 lV :=
 ⟨rfl,by decide,by decide,(fun e=>by cases e),fun _=>⟨g,0,rfl,h.lt,fun k D=>by
  match k,D with
  | 0,_=>exact⟨h.cell 0,h.cell 1,h.cell 2⟩
  | 1,_=>exact⟨h.cell 3,h.cell 4,h.cell 5⟩⟩⟩
theorem W0{g:Nat}{e:Int}(h:aT w g 46 #[O X 9,O X e,O X 0]):aX w (J ⟨g,0,Z⟩) 1 1 [⟨9,e,0⟩] :=
 ⟨rfl,by decide,by decide,(fun e=>by cases e),fun _=>⟨g,0,rfl,h.lt,fun k D=>by
  match k,D with
  | 0,_=>exact⟨h.cell 0,h.cell 1,h.cell 2⟩⟩⟩
theorem vJ.at3{A:ZZ}{n c:Nat}{cs:List Ct}(h:vJ w A n c cs){k:Nat}(U:k<n):∃b off,A=J ⟨b,off,Z⟩/\b<w.heap.size/\∃D n1 c1 F n2 c2,w.cell? ⟨b,off+k*2,Z⟩=J (Y D n1 c1)/\w.cell? ⟨b,off+k*2+1,Z⟩=J (Y F n2 c2)/\fP w D n1 c1 (cs.getD k default).args/\fP w F n2 c2 (cs.getD k default).outs:=by
 obtain⟨b,off,e,G,o⟩:=h.mem aA;exact⟨b,off,e,G,o k U⟩
theorem GK.cells{b off n c:Nat}(h:GK w (J ⟨b,off,Z⟩) n c ps){k:Nat}(U:k<n):b<w.heap.size/\w.cell? ⟨b,off+k*2,Z⟩=J (O X (ps.getD k (0,0)).1)/\w.cell? ⟨b,off+k*2+1,Z⟩=J (O X (ps.getD k (0,0)).2):=by
 obtain⟨s,off',e,G,o⟩:=h.mem aA;injection e with e;injection e with D F;subst D F;exact⟨G,o k U⟩
theorem BM.kind_at{b off n c:Nat}{es:List En}(h:BM w (J ⟨b,off,Z⟩) n c es){k:Nat}(U:k<n):w.cell? ⟨b,off+k*7,Z⟩=J (O X (es.getD k default).kind):=by
 obtain⟨o,off',e,z,s,G,_⟩:=h.at_ U;injection e with e;injection e with D F;subst D F;exact G
theorem LJ{i j:Nat}(o:j<i)(U:i<=ps.length)(h:(ps.getD j (0,0)).1=p.1\/(ps.getD j (0,0)).2=p.2):oF (ps.take i) p=true:=by
 have D:ps.getD j (0,0)∈ps.take i:=by
  rw[YD,YB aA];simp only[Option.getD_some];have F:j<(ps.take i).length:=by rw[ZS];omega
  have G:(ps.take i)[j]=ps[j]:=List.getElem_take;rw[<-G];exact ZQ F
 refine xR.2 ?_;rcases h with h|h
 . exact .inl ⟨_,D,h⟩
 exact .inr ⟨_,D,h⟩
theorem NV{j:Nat}(G:j<ps.length)(D:(ps.getD j (0,0)).1≠p.1)(F:(ps.getD j (0,0)).2≠p.2)(h:oF (ps.take j) p=false):oF (ps.take (j+1)) p=false:=by
 rw[YD,YB G,Option.getD_some]at D F;unfold oF at h ⊢;rw[List.take_succ_eq_append_getElem G,List.any_append,h];simp[D,F]
theorem CF{i:Nat}{x:En}{r:List En}:dL b i (x::r)=if dK b i x≠0 then dK b i x else dL b (i+1) r:=rfl
set_option maxRecDepth 100000 in
set_option maxHeartbeats 8000000 in
theorem C7{v:bR}(hb:cE w v b):
 Calls Tryz.prog 29 #[.agg #[O X b.vars,Y v.Ao v.no v.co,Y v.Ae v.ne v.ce,O X b.nat,Y v.Ap v.np v.cp]] w (iV (bU b) w):=by
 have c9:=hb.entries.len;have l6:=hb.entries.few;have l9:=hb.prims.few;have c6:=hb.prims.len;have b3:=aB (fun (w':aAB) (h:ZY w w')=>C3 (hb.orders.below h) b.vars hb.vars);have g8:=aB (fun (w':aAB) (h:ZY w w')=>hb.entries.below h);have h7:=aB (fun (w':aAB) (h:ZY w w')=>hb.prims.below h);have c7:=aB (fun (w':aAB) (i:Nat) (h:ZY w w') (h1:i<b.entries.length)=>C4 (hb.below h) i h1);have e9:=aB (fun (w':aAB) (h:ZY w w')=>pT (hb.below h) b.nat (b.entries.length:Int) aA);have b2:=aB (aQ w (I #[O X b.vars,Y v.Ao v.no v.co,Y v.Ae v.ne v.ce,O X b.nat,Y v.Ap v.np v.cp] 26));have g9:=aB (aT.new w 26 #[O X b.vars,Y v.Ao v.no v.co,Y v.Ae v.ne v.ce,O X b.nat,Y v.Ap v.np v.cp]);have a2:Hid (bU b=if (qI b.vars b.orders).1≠0 then (qI b.vars b.orders).1
 else if 64<b.entries.length then 5
 else if dL b 0 b.entries≠0 then dL b 0 b.entries
 else if (if b.nat ≠ -1 then (if CT b b.nat then jM b b.prims (fun _ _=>Z) else false)
  else if 0<b.prims.length then false else true) then 0 else 22):=aB rfl
 generalize bU b=res at *;generalize (qI b.vars b.orders).1=ck at *;rw[c9,c6]at a2;rw[c9]at c7 e9;obtain⟨d5,k4⟩:=aAC c9 c6;obtain⟨Ao,no,co,Ae,ne,ce,Ap,np,cp⟩:=v;simp only at b3 g8 h7 c7 e9 b2 g9 a2 d5 k4 l6 l9 ⊢;clear hb c9 c6;generalize b.vars=bv at *;generalize b.nat=bn at *;by_cases h1:ck=0;case neg =>
  rw[XP h1]at a2;have d1:(ck != 0)=true:=by simpa using h1
  clear h1;go_in;go_wp2_with fail;refine (b3.o _ b2.o).mono ?_;rintro e w2 ⟨rfl,z⟩;have d4:=bY b2 z;clear z;go_wp2_with fail;go_ret;rw[a2.o];exact⟨rfl,d4.o⟩
 subst h1;rw[XN (c:=(0:Int)≠0) aD]at a2;by_cases h2:64<ne
 . rw[XP h2]at a2;have d2:decide ((ne:Int)>64)=true:=XR aA;clear h2;go_in;go_wp2_with fail;refine (b3.o _ b2.o).mono ?_;rintro e w2 ⟨rfl,z⟩;have d4:=bY b2 z;have q0:=aT.cell (aT.below g9.o z aD);clear z;go_wp2_with fail;go_ret;rw[a2.o];exact⟨rfl,d4.o⟩
 rw[XN h2]at a2;have d2:decide ((ne:Int)>64)=false:=XQ aA;clear h2;go_in;go_wp2_with fail;refine (b3.o _ b2.o).mono ?_;rintro e w2 ⟨rfl,z⟩;have d4:=bY b2 z;have k1:=aB (aT.below g9.o z aD);have q0:=aT.cell k1.o;clear z;go_wp2_with fail;clear q0;go_loopw [4] (fun iv wr=>∃i:Nat,iv=O X (i:Int)/\i<=ne/\Hid (dL b i (b.entries.drop i)=dL b 0 b.entries)/\Hid (aT wr w.heap.size 26 #[O X bv,Y Ao no co,Y Ae ne ce,O X bn,Y Ap np cp])/\Hid (ZY w wr)) (fun i _=>ne-(intOf i).toNat)
 case atStart=>exact⟨0,rfl,by omega,aB rfl,k1,d4⟩
 case round =>
  clear k1 d4 g9 b2;obtain⟨i,rfl,hi,l7,i2,c2⟩:=hrel;have zk:=aT.cell i2.o;by_cases b6:i<ne
  . have r7:decide ((i:Int)<(ne:Int))=true:=XR aA;have o2:decide (i<ne)=true:=XR b6;have c4:i<b.entries.length:=by rw[d5.o];exact b6
    have hq:=l7.o;rw[YX c4,show b.entries[i]=b.entries.getD i default from by rw[YD,YB c4];rfl,CF]at hq;have HC:=aB (c7.o wr i c2.o b6);generalize b.entries.getD i default=x at *;generalize dK b i x=ee at *;by_cases h3:ee=0
    . subst h3;rw[XN aD]at hq;have HQ:=aB hq;clear hq;go_wp2_with fail;refine (HC.o).mono ?_;rintro e w4 ⟨rfl,a1⟩;have F:=bY c2 a1;have h0:=j8 i2 a1;clear a1 zk;go_wp2_with fail;go_roundw
      case rel=>exact⟨i+1,by go_num,by omega,HQ,h0,F⟩
      case measure=>simp[intOf];omega
    rw[XP h3]at hq;have D:Hid (res=ee):=aB (by rw[a2.o,<-hq,XP h3]);have d3:(ee != 0)=true:=by simpa using h3
    clear hq h3;go_wp2_with fail;refine (HC.o).mono ?_;rintro e w4 ⟨rfl,a1⟩;have F:=bY c2 a1;clear a1 zk;go_wp2_with fail;go_ret;rw[D.o];exact⟨rfl,F.o⟩
  have r7:decide ((i:Int)<(ne:Int))=false:=XQ aA;have o2:decide (i<ne)=false:=XQ b6;have hq:=l7.o;rw[YY (by rw[d5.o];omega)]at hq;have l5:dL b 0 b.entries=0:=hq.symm;have G:=a2.o;rw[l5,XN (c:=(0:Int)≠0) aD,SZ l5,I7]at G;clear a2 c7 b3 l7 hq l5 b6 hi;obtain⟨wn,rfl⟩:=aAJ wr;by_cases hn:bn = -1
  . subst hn;rw[XN (c:=(-1:Int) ≠ -1) aD]at G;have d6:=aB G;have y0:((-1:Int) != -1)=false:=by decide
    have y5:((-1:Int) == -1)=true:=by decide
    clear G;go_wp2_with fail;clear zk;go_loopw [6] (fun iv wr=>∃j:Nat,iv=O X (j:Int)/\j<=0/\Hid (aT wr w.heap.size 26 #[O X bv,Y Ao no co,Y Ae ne ce,O X (-1),Y Ap np cp])/\Hid (ZY w wr)) (fun _ _=>0)
    case atStart=>exact⟨0,rfl,by omega,i2,c2⟩
    case round =>
     obtain⟨j,rfl,hj,a6,a0⟩:=hrel;have zk:=aT.cell a6.o;by_cases f5:j<np
     . have y1:decide ((j:Int)<(np:Int))=true:=XR aA;have y2:decide (j<np)=true:=XR f5;have D:Hid (res=22):=aB (by rw[d6.o,XP (c:=0<np) aA];rfl);obtain⟨bp,op,rfl,r6,f8⟩:=(h7.o wr a0.o).mem aA;obtain⟨g0,g1⟩:=f8 j f5;have r5:=a6.o.lt;clear f8;have q3:=aB (a0.o.trans ((aQ wr (I #[O X (b.prims.getD j (0,0)).1,O X (b.prims.getD j (0,0)).2] 69)).mono a0.o.size));generalize b.prims.getD j (0,0)=p at *;go_wp2_with fail;go_ret;rw[D.o];exact⟨rfl,q3.o⟩
     have y1:decide ((j:Int)<(np:Int))=false:=XQ aA;have y2:decide (j<np)=false:=XQ f5;have D:Hid (res=0):=aB (by rw[d6.o,XN (c:=0<np) aA];rfl);go_wp2_with fail;go_ret;rw[D.o];exact⟨rfl,a0.o⟩
  rw[XP hn]at G;have y0:(bn != -1)=true:=by simpa using hn
  have t2:(bn == -1)=false:=by simpa using hn
  obtain⟨q1,f9⟩:=aAJ (decide (0<=bn)&&fQ b ne bn);have HC:=aB (e9.o wn c2.o);rw[<-f9]at HC;unfold U0 at G;rw[d5.o,<-f9]at G;cases q1 with
  | false =>
   rw[XP rfl]at G;have D:=aB G;clear G f9 hn;go_wp2_with fail;refine (HC.o).mono ?_;rintro e w4 ⟨rfl,a1⟩;have F:=bY c2 a1;clear a1 zk;go_wp2_with fail;go_ret;rw[D.o];exact⟨rfl,F.o⟩
  | true =>
   rw[XN (c:=true=false) aE]at G;rw[eq_comm,YC,YJ]at f9;obtain⟨r4,z⟩:=f9;simp only[fQ,YC,YJ,beq_iff_eq]at z;obtain⟨z,l8⟩:=z;obtain⟨e,rfl⟩:∃e:Nat,bn=(e:Int):=⟨bn.toNat,by omega⟩;have o1:e<ne:=aA;obtain⟨be,oe,hA,c1,ev,f4,k9,l0,l1,l2,l3,l4,a3⟩:=(g8.o w (XS _ _)).at_ o1;subst hA;rw[show b.entries.getD e default=bP b (e:Int) from by unfold bP;rw[YG]]at f4 a3;obtain⟨x,hx⟩:=aAJ (bP b (e:Int));rw[<-hx]at f4 a3 G l8;rw[l8]at f4;rw[a3.params.len,a3.indices.len,a3.ctors.len]at G;have f1:=a3.params.few;have f2:=a3.indices.few;have f3:=a3.ctors.few;have HX:=aB (fun (w':aAB) (h:ZY w w')=>a3.below h);obtain⟨As,ns,cs,a8,U,b1,Ai,ni,ci,Ac,nc,cc,At,nt,ct,Ab,nb,cb⟩:=ev;simp only at k9 l0 l1 l2 l3 l4 G HX f1 f2 f3;have d6:=aB G;clear a3 hx l8 hn G r4 z;go_wp2_with fail;refine (HC.o).mono ?_;rintro e' w4 ⟨rfl,a1⟩;have F:=bY c2 a1;have h0:=j8 i2 a1;have r9:=aT.cell h0.o;have e0:=(F.o.cell (p:=⟨be,oe+e*7,Z⟩) c1).trans f4;have e1:=(F.o.cell (p:=⟨be,oe+e*7+1,Z⟩) c1).trans k9;have e2:=(F.o.cell (p:=⟨be,oe+e*7+2,Z⟩) c1).trans l0;have e3:=(F.o.cell (p:=⟨be,oe+e*7+3,Z⟩) c1).trans l1;have e4:=(F.o.cell (p:=⟨be,oe+e*7+4,Z⟩) c1).trans l2;have e5:=(F.o.cell (p:=⟨be,oe+e*7+5,Z⟩) c1).trans l3;have e6:=(F.o.cell (p:=⟨be,oe+e*7+6,Z⟩) c1).trans l4;clear a1 zk f4 k9 l0 l1 l2 l3 l4 HC;have j9:=aB ((F.o.alloc F.o.size (I #[O X 1,Y As ns cs,Y a8 U b1,Y Ai ni ci,Y Ac nc cc,Y At nt ct,Y Ab nb cb] 61)).alloc (YE F.o.size aD) (I #[O X 2,O X 1,O X 1,O X 3,O X 0,O X 0] 46));have i7:Hid (aT ((w4.alloc (I #[O X 1,Y As ns cs,Y a8 U b1,Y Ai ni ci,Y Ac nc cc,Y At nt ct,Y Ab nb cb] 61)).alloc (I #[O X 2,O X 1,O X 1,O X 3,O X 0,O X 0] 46)) w.heap.size 26 #[O X bv,Y Ao no co,Y (J ⟨be,oe,Z⟩) ne ce,O X (e:Int),Y Ap np cp]):=aB ((h0.o.alloc _).alloc _);have i8:Hid (aT ((w4.alloc (I #[O X 1,Y As ns cs,Y a8 U b1,Y Ai ni ci,Y Ac nc cc,Y At nt ct,Y Ab nb cb] 61)).alloc (I #[O X 2,O X 1,O X 1,O X 3,O X 0,O X 0] 46)) w4.heap.size 61 #[O X 1,Y As ns cs,Y a8 U b1,Y Ai ni ci,Y Ac nc cc,Y At nt ct,Y Ab nb cb]):=aB ((aT.new w4 61 #[O X 1,Y As ns cs,Y a8 U b1,Y Ai ni ci,Y Ac nc cc,Y At nt ct,Y Ab nb cb]).alloc _);have n1:=aB (W6 (aT.new' (w:=(w4.alloc (I #[O X 1,Y As ns cs,Y a8 U b1,Y Ai ni ci,Y Ac nc cc,Y At nt ct,Y Ab nb cb] 61))) (g:=w4.heap.size+1) (t:=46) (cs:=#[O X 2,O X 1,O X 1,O X 3,O X 0,O X 0]) aD));have n6:=aB (rT ((w4.alloc (I #[O X 1,Y As ns cs,Y a8 U b1,Y Ai ni ci,Y Ac nc cc,Y At nt ct,Y Ab nb cb] 61)).alloc (I #[O X 2,O X 1,O X 1,O X 3,O X 0,O X 0] 46)) (HX.o ((w4.alloc (I #[O X 1,Y As ns cs,Y a8 U b1,Y Ai ni ci,Y Ac nc cc,Y At nt ct,Y Ab nb cb] 61)).alloc (I #[O X 2,O X 1,O X 1,O X 3,O X 0,O X 0] 46)) j9.o).sort n1.o);go_wp2_with fail;refine (n6.o).mono ?_;rintro e' w6 ⟨rfl,m6,i5⟩;have a9:Hid (ZY w w6):=aB (by rw[i5];exact aU j9.o m6);have a4:Hid (aT w6 w.heap.size 26 #[O X bv,Y Ao no co,Y (J ⟨be,oe,Z⟩) ne ce,O X (e:Int),Y Ap np cp]):=aB (by rw[i5];exact i7.o.drewN m6);have a5:Hid (aT w6 w4.heap.size 61 #[O X 1,Y As ns cs,Y a8 U b1,Y Ai ni ci,Y Ac nc cc,Y At nt ct,Y Ab nb cb]):=aB (by rw[i5];exact i8.o.drewN m6);clear i5;have t5:=aT.cell a5.o;clear e0 e1 e2 e3 e4 e5 e6 r9 n6 n1 j9 i7 i8;by_cases g2:x.sort=lV;case neg =>
    have y1:decide (x.sort=lV)=false:=XQ g2;have D:Hid (res=22):=aB (by rw[d6.o,XP (c:=x.sort≠lV) g2];rfl);go_wp2_with fail;go_ret;rw[D.o];exact⟨rfl,a9.o⟩
   have y1:decide (x.sort=lV)=true:=XR g2;have m2:=d6.o;rw[XN (c:=x.sort≠lV) (by simpa using g2)]at m2;have k6:=aB m2;have s9:IntKind.i64.wrap ((U:Int)+(ni:Int))=(U:Int)+(ni:Int):=by rw[XV];omega
   clear m2 d6 g2;by_cases hz:0<U+ni
   . have y2:((U:Int)+(ni:Int) != 0)=true:=by rw[bne_iff_ne];omega
     have D:Hid (res=22):=aB (by rw[k6.o,XP (c:=0<U+ni) hz];rfl);clear hz;go_wp2_with fail;go_ret;rw[D.o];exact⟨rfl,a9.o⟩
   have y2:((U:Int)+(ni:Int) != 0)=false:=by rw[bne_eq_false_iff_eq];omega
   have m3:=k6.o;rw[XN (c:=0<U+ni) hz]at m3;have k7:=aB m3;clear m3 k6 hz;by_cases i4:nc=2;case neg =>
    have y3:((nc:Int) != 2)=true:=by rw[bne_iff_ne];omega
    have D:Hid (res=22):=aB (by rw[k7.o,XP (c:=nc≠2) i4];rfl);clear i4;go_wp2_with fail;go_ret;rw[D.o];exact⟨rfl,a9.o⟩
   have y3:((nc:Int) != 2)=false:=by rw[bne_eq_false_iff_eq];omega
   have m4:=k7.o;rw[XN (c:=nc≠2) (by simpa using i4)]at m4;have k8:=aB m4;have o6:0<nc:=aA;have o7:1<nc:=aA;clear m4 k7 i4;obtain⟨bc,oc,r2,i1,q2,e7,q9,s4,t0,s6,g3,_,d0,_⟩:=(HX.o _ a9.o).ctors.at3 o6;subst r2;obtain⟨q8,r8,i9,o0,s3,e8,r0,s5,t1,s7,g4,_,b8,_⟩:=(HX.o _ a9.o).ctors.at3 o7;obtain⟨rfl,rfl⟩:bc=q8/\oc=r8:=by
    injection i9 with e;injection e with e1 e2;exact⟨e1,e2⟩
   clear i9 o0;rw[YU,YF]at g3;rw[Nat.one_mul]at g4;have s2:(1:Int)<(nc:Int):=aA;have b4:=d0.len;have b5:=b8.len;have t4:=aT.cell a4.o;by_cases f6:e7=0;case neg =>
    have y4:((e7:Int) != 0)=true:=by rw[bne_iff_ne];omega
    have D:Hid (res=22):=aB (by rw[k8.o,b4,XP (c:=e7≠0) f6];rfl);clear f6 b4 b5 d0 b8;go_wp2_with fail;go_quiet (fail)
    go_wp2_with fail;go_ret;rw[D.o];exact⟨rfl,aU a9.o _⟩
   have y4:((e7:Int) != 0)=false:=by rw[bne_eq_false_iff_eq];omega
   have d9:=k8.o;rw[b4,XN (c:=e7≠0) aA]at d9;by_cases j1:e8=1;case neg =>
    have y5:((e8:Int) != 1)=true:=by rw[bne_iff_ne];omega
    have D:Hid (res=22):=aB (by rw[d9,b5,XP (c:=e8≠1) j1];rfl);clear f6 j1 b4 b5 d0 b8 d9;go_wp2_with fail;go_quiet (fail)
    go_wp2_with fail;go_ret;rw[D.o];exact⟨rfl,aU a9.o _⟩
   have y5:((e8:Int) != 1)=false:=by rw[bne_eq_false_iff_eq];omega
   rw[b5,XN (c:=e8≠1) aA]at d9;obtain⟨ba,oa,A3,n3,c3,n8,n9,g5,p0⟩:=b8.at_ (k:=0) aA;subst n8;rw[YF]at g5;have h8:=aB d9;clear d9 k8 d0 b8 b4 b5;obtain⟨q5,q4⟩:=aAC (a4.o.drewN 1) (a5.o.drewN 1);have b9:Hid (ZY w6 (w6.drew.alloc (I #[O X 9,O X (e:Int),O X 0] 46))):=aB ((aU (XS w6.heap.size w6) 1).trans (aQ w6.drew (I #[O X 9,O X (e:Int),O X 0] 46)));have n5:=aB (rT (w6.drew.alloc (I #[O X 9,O X (e:Int),O X 0] 46)) (p0.below b9.o) (W0 (aT.new' (w:=w6.drew) (g:=w6.heap.size) (t:=46) (cs:=#[O X 9,O X (e:Int),O X 0]) rfl)));have p5:=aT.cell (aT.below a4.o b9.o a4.o.lt);have p8:=aT.cell (aT.below a5.o b9.o a5.o.lt);have j2:=(b9.o.cell (p:=⟨bc,oc,Z⟩) i1).trans g3;have j4:=(b9.o.cell (p:=⟨bc,oc+2,Z⟩) i1).trans g4;have j6:=(b9.o.cell (p:=⟨ba,oa,Z⟩) n9).trans g5;obtain⟨q6,o8⟩:=aAJ (decide ((x.ctors.getD 1 default).args.getD 0 []=[⟨9,(e:Int),0⟩]));rw[<-o8]at h8 n5;clear o8 p0;go_wp2_with fail;refine wp_region_held_drew (S:=(fun W=>W.cell? ⟨w4.heap.size,4,Z⟩=J (Y (J ⟨bc,oc,Z⟩) nc cc)/\W.cell? ⟨w.heap.size,3,Z⟩=J (O X (e:Int))/\W.cell? ⟨bc,oc,Z⟩=J (Y q2 e7 q9)/\W.cell? ⟨bc,oc+2,Z⟩=J (Y (J ⟨ba,oa,Z⟩) e8 r0)/\W.cell? ⟨ba,oa,Z⟩=J (Y A3 n3 c3))) aC ?_ (fun s=>?_)
   . (try dsimp only);exact⟨q4.o.cell 4,q5.o.cell 3,g3,g4,g5⟩
   refine aL 0 s ?_;refine aL 1 s ?_;refine aL 2 s ?_;refine aL 3 s ?_;refine aL 4 s ?_;refine aL 5 s ?_;refine aL 6 s ?_;refine aL 7 s ?_;refine aL 8 s ?_;refine aL 9 s ?_;refine aL 10 s ?_;refine aL 11 s ?_;refine aL 12 s ?_;refine aL 13 s ?_;refine aL 14 s ?_;refine aL 15 s ?_;refine aL 16 s ?_;refine aL 17 s ?_;refine aL 18 s ?_;refine aL 19 s ?_;refine aL 20 s ?_;refine aL 21 s ?_;refine aL 22 s ?_;refine aL 23 s ?_;refine aL 24 s ?_;refine aL 25 s ?_;refine aL 26 s ?_;refine r1 27 fun K hK=>?_;go_simp;refine hK.o _ _ (by exact⟨p8 4,p5 3,j2,j4,j6⟩) fun s=>?_;clear hK K;try simp only[p7]
   refine r1 28 fun K hK=>?_;go_simp;go_at_call 13
   refine n5.o.mono ?_;rintro e' w8 ⟨rfl,m8,p3⟩;have c0:Hid (ZY w6 w8):=aB (by rw[p3];exact aU b9.o m8);have k0:=aB (a9.o.trans (c0.o.mono a9.o.size));have k2:=aB (aT.below a4.o c0.o a4.o.lt);have p6:=aT.cell k2.o;have p9:=aT.cell (aT.below a5.o c0.o a5.o.lt);have j3:=(c0.o.cell (p:=⟨bc,oc,Z⟩) i1).trans g3;have j5:=(c0.o.cell (p:=⟨bc,oc+2,Z⟩) i1).trans g4;have j7:=(c0.o.cell (p:=⟨ba,oa,Z⟩) n9).trans g5;clear p3;go_wp2_with fail;refine hK.o _ _ (by exact⟨p9 4,p6 3,j3,j5,j7⟩) fun s=>?_;clear hK K;try simp only[p7]
   refine aL 29 s ?_;refine aL 30 s ?_;refine wpAnyH_done aC ?_ _;cases q6 with
   | false =>
    have D:Hid (res=22):=aB (by rw[h8.o];rfl);go_wp2_with fail;go_ret;rw[D.o];exact⟨rfl,k0.o⟩
   | true =>
    have f0:Hid (res=if lT b [] b.prims=true then 0 else 22):=aB (by rw[h8.o];rfl);clear h8 HX;go_wp2_with fail;clear p6 p9 j3 j5 j7 p5 p8 j2 j4 j6 g3 g4 g5;go_loopw [6] (fun iv wr=>∃i:Nat,iv=O X (i:Int)/\i<=np/\Hid (lT b (b.prims.take i) (b.prims.drop i)=lT b [] b.prims)/\Hid (aT wr w.heap.size 26 #[O X bv,Y Ao no co,Y (J ⟨be,oe,Z⟩) ne ce,O X (e:Int),Y Ap np cp])/\Hid (ZY w wr)) (fun i _=>np-(intOf i).toNat)
    case atStart=>exact⟨0,rfl,by omega,aB rfl,k2,k0⟩
    case round =>
     clear k2 k0 c0;obtain⟨i,rfl,hi,m0,a6,a0⟩:=hrel;have zk:=aT.cell a6.o;have r5:=a6.o.lt;obtain⟨wo,rfl⟩:=aAJ wr;by_cases b6:i<np;case neg =>
      have D:Hid (res=0):=aB (by
       have hq:=m0.o;rw[YY (by rw[k4.o];omega)]at hq;rw[f0.o,<-hq];rfl)
      go_wp2_with fail;go_ret;rw[D.o];exact⟨rfl,a0.o⟩
     obtain⟨bp,op,r3,r6,f8⟩:=(h7.o wo a0.o).mem aA;subst r3;obtain⟨g0,g1⟩:=f8 i b6;have c4:i<b.prims.length:=by rw[k4.o];exact b6
     have hq:=m0.o;rw[YX c4,show b.prims[i]=b.prims.getD i (0,0) from by rw[YD,YB c4];rfl,lT]at hq;have m7:b.prims.take (i+1)=b.prims.take i++[b.prims.getD i (0,0)]:=by
      rw[List.take_succ_eq_append_getElem c4,YD,YB c4];rfl
     obtain⟨p,hp⟩:=aAJ (b.prims.getD i (0,0));rw[<-hp]at g0 g1 hq m7;have n7:=aB m7;obtain⟨p1,d7⟩:=aAJ p.1;obtain⟨p2,d8⟩:=aAJ p.2;rw[<-d7]at g0;rw[<-d8]at g1;obtain⟨n2,n4⟩:=aAC d7 d8;clear hp m7 f8 m0;have b0:=aB (a0.o.trans ((aQ wo (I #[O X p1,O X p2] 69)).mono a0.o.size));have h6:Hid (aT (wo.alloc (I #[O X p1,O X p2] 69)) w.heap.size 26 #[O X bv,Y Ao no co,Y (J ⟨be,oe,Z⟩) ne ce,O X (e:Int),Y (J ⟨bp,op,Z⟩) np cp]):=aB (a6.o.alloc _);have k3:=aB (aT.new wo 69 #[O X p1,O X p2]);have s0:=aT.cell h6.o;have s1:=aT.cell k3.o;have o5:=h6.o.lt;by_cases c5:qD b p=true;case neg =>
      have D:Hid (res=22):=aB (by rw[f0.o,<-hq,show qD b p=false from by simpa using c5];rfl);have m5:p1<0\/(0<=p1/\(ne:Int)<=p1)\/(0<=p1/\p1<ne/\p2<1)\/(0<=p1/\p1<ne/\1<=p2/\3<p2)\/(0<=p1/\p1<ne/\1<=p2/\p2<=3/\(bP b p1).kind≠2):=by
       unfold qD at c5;rw[YJ,d5.o,<-d7,<-d8]at c5;omega
      clear hq c5 d7 d8 f0 n7;rcases m5 with h|⟨h,h2⟩|⟨h,h2,h3⟩|⟨h,h2,h3,h4⟩|⟨h,h2,h3,h4,h5⟩
      . have g6:decide (p1<0)=true:=XR h;go_wp2_with fail;go_ret;rw[D.o];exact⟨rfl,b0.o⟩
      . have g6:decide (p1<0)=false:=XQ aA;have i6:decide (p1 ≥ (ne:Int))=true:=XR h2;go_wp2_with fail;go_ret;rw[D.o];exact⟨rfl,b0.o⟩
      . have g6:decide (p1<0)=false:=XQ aA;have i6:decide (p1 ≥ (ne:Int))=false:=XQ aA;have m9:decide (p2<1)=true:=XR h3;go_wp2_with fail;go_ret;rw[D.o];exact⟨rfl,b0.o⟩
      . have g6:decide (p1<0)=false:=XQ aA;have i6:decide (p1 ≥ (ne:Int))=false:=XQ aA;have m9:decide (p2<1)=false:=XQ aA;have p4:decide (p2>3)=true:=XR h4;go_wp2_with fail;go_ret;rw[D.o];exact⟨rfl,b0.o⟩
      have g6:decide (p1<0)=false:=XQ aA;have i6:decide (p1 ≥ (ne:Int))=false:=XQ aA;have m9:decide (p2<1)=false:=XQ aA;have p4:decide (p2>3)=false:=XQ aA;obtain⟨q,rfl⟩:∃q:Nat,p1=(q:Int):=⟨p1.toNat,by omega⟩;have m1:q<ne:=aA;have i3:=(g8.o _ b0.o).kind_at m1;rw[show b.entries.getD q default=bP b (q:Int) from by unfold bP;rw[YG]]at i3;have t3:((bP b (q:Int)).kind != 2)=true:=by simpa using h5
      generalize (bP b (q:Int)).kind=kk at *;go_wp2_with fail;go_ret;rw[D.o];exact⟨rfl,b0.o⟩
     have m5:0<=p1/\p1<ne/\1<=p2/\p2<=3/\(bP b p1).kind=2:=by
      have f7:=c5;unfold qD at f7;rw[YJ,d5.o,<-d7,<-d8]at f7;exact f7
     obtain⟨h,h2,h3,h4,h5⟩:=m5;rw[c5,YZ]at hq;have k5:=aB hq;clear hq c5 d7 d8;have g6:decide (p1<0)=false:=XQ aA;have i6:decide (p1 ≥ (ne:Int))=false:=XQ aA;have m9:decide (p2<1)=false:=XQ aA;have p4:decide (p2>3)=false:=XQ aA;obtain⟨q,rfl⟩:∃q:Nat,p1=(q:Int):=⟨p1.toNat,by omega⟩;have m1:q<ne:=aA;have i3:=(g8.o _ b0.o).kind_at m1;rw[show b.entries.getD q default=bP b (q:Int) from by unfold bP;rw[YG],h5]at i3;clear h5;go_wp2_with fail;clear zk s0 s1 i3;go_loopw [8] (fun jv wr=>∃j:Nat,jv=O X (j:Int)/\j<=i/\Hid (oF (b.prims.take j) p=false)/\Hid (aT wr w.heap.size 26 #[O X bv,Y Ao no co,Y (J ⟨be,oe,Z⟩) ne ce,O X (e:Int),Y (J ⟨bp,op,Z⟩) np cp])/\Hid (aT wr wo.heap.size 69 #[O X (q:Int),O X p2])/\Hid (ZY w wr)) (fun j _=>i-(intOf j).toNat)
     case atStart=>exact⟨0,rfl,by omega,aB rfl,h6,k3,b0⟩
     case round =>
      clear h6 k3 b0 o5;obtain⟨j,rfl,hj,o9,c8,j0,a7⟩:=hrel;have t6:=aT.cell c8.o;have t7:=aT.cell j0.o;by_cases o3:j<i;case neg =>
       have HQ:Hid (lT b (b.prims.take (i+1)) (b.prims.drop (i+1))=lT b [] b.prims):=aB (by
        have o4:j=i:=aA;have e:=o9.o;rw[o4]at e;have e2:=k5.o;rw[e]at e2;rw[n7.o,<-e2];rfl)
       go_wp2_with fail;go_roundw
       case rel=>first|exact⟨i+1,by go_num,by omega,HQ,c8,a7⟩|((repeat apply Exists.intro);exact⟨⟨i+1,by go_num,by omega,HQ,c8,a7⟩,rfl⟩)
       case measure=>simp[intOf];omega
      have f5:j<np:=aA;obtain⟨s8,h9,i0⟩:=(h7.o _ a7.o).cells f5;obtain⟨pj,b7⟩:=aAJ (b.prims.getD j (0,0));rw[<-b7]at h9 i0;by_cases e1:pj.1=(q:Int)
      . have g7:(pj.1==(q:Int))=true:=by simpa using e1
        have D:Hid (res=22):=aB (by
         have e2:=k5.o;rw[LJ (ps:=b.prims) (i:=i) (j:=j) (p:=p) o3 aA (.inl (by rw[<-b7,e1];exact n2.o))]at e2;rw[f0.o,<-e2];rfl)
        clear b7 e1;obtain⟨pa,pb⟩:=pj;simp only at h9 i0 g7;go_wp2_with fail;go_quiet (fail)
        go_wp2_with fail;go_ret;rw[D.o];exact⟨rfl,aU a7.o _⟩
      by_cases e2:pj.2=p2
      . have g7:(pj.1==(q:Int))=false:=by simpa using e1
        have n0:(pj.2==p2)=true:=by simpa using e2
        have D:Hid (res=22):=aB (by
         have e3:=k5.o;rw[LJ (ps:=b.prims) (i:=i) (j:=j) (p:=p) o3 aA (.inr (by rw[<-b7,e2];exact n4.o))]at e3;rw[f0.o,<-e3];rfl)
        clear b7 e1 e2;obtain⟨pa,pb⟩:=pj;simp only at h9 i0 g7 n0;go_wp2_with fail;go_quiet (fail)
        go_wp2_with fail;go_ret;rw[D.o];exact⟨rfl,aU a7.o _⟩
      have g7:(pj.1==(q:Int))=false:=by simpa using e1
      have n0:(pj.2==p2)=false:=by simpa using e2
      have q7:Hid (oF (b.prims.take (j+1)) p=false):=aB (NV aA (by rw[<-b7,<-n2.o];exact e1) (by rw[<-b7,<-n4.o];exact e2) o9.o);clear b7 e1 e2;obtain⟨pa,pb⟩:=pj;simp only at h9 i0 g7 n0;go_wp2_with fail;go_quiet (fail)
      go_wp2_with fail;go_roundw
      case rel=>exact⟨j+1,by go_num,by omega,q7,aB (c8.o.drewN _),aB (j0.o.drewN _),aB (aU a7.o _)⟩
      case measure=>simp[intOf];omega
end

end Go.Proofs.YtjoddliplahgkaaGreat
