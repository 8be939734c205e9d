/- Merged: Subst1, Subst. -/
import Derived.Test.YtjoddliplahgkaaGreatPEnds
namespace Go.Proofs.YtjoddliplahgkaaGreat
set_option linter.unusedVariables false
set_option linter.unusedSimpArgs false
open Go.RowKit
open Go.Value renaming int → O, slice → Y, pointer → Z
open Go.IntKind renaming i64 → X
open Go.Obj renaming cells → I
open Option renaming none → D, some → U
section
open Go.Lib renaming hid->aB
set_option maxHeartbeats 1000000
set_option maxRecDepth 100000
def N9 (x:Int):IF (Int×Int) := { an:=fun _ _ _=>false,nx:=fun t v a=>if v-a=x then (wrap64 (t.1+1),max t.2 a) else t }
def S7 (px pt pd:Nat) (x:Int) (w:World) (t:Int×Int):Prop:=aS w px 3 #[O X x]/\aS w pt 3 #[O X t.1]/\aS w pd 3 #[O X t.2]
theorem DH {px pt pd:Nat} {x m d v a m' y:Int} {w:World} (h1:px ≠ pt) (h2:px ≠ pd) (h3:pt ≠ pd) (jx:aS w px 3 #[O X x]) (jt:aS w pt 3 #[O X m]) (jd:aS w pd 3 #[O X d]) (h:v-a=x) (hm:m'=wrap64 (m+1)) (hy:y=max d a) :
 bE (fun k=>k=pt\/k=pd) D w ((w.setCell ⟨pt,0,D⟩ (O X m')).setCell ⟨pd,0,D⟩ (O X y))/\S7 px pt pd x ((w.setCell ⟨pt,0,D⟩ (O X m')).setCell ⟨pd,0,D⟩ (O X y)) ((N9 x).nx (m,d) v a):=by
 subst hm hy;refine⟨((bE.refl _ _ w).setCell (p:=⟨pt,0,D⟩) (.inl rfl) _).setCell (p:=⟨pd,0,D⟩) (.inr rfl) _,?_⟩;simp only[N9];rw[if_pos h];refine⟨(jx.far (p:=⟨pt,0,D⟩) h1 _).far (p:=⟨pd,0,D⟩) h2 _,?_,?_⟩
 · have:=(jt.set_ 0 (O X (wrap64 (m+1)))).far (p:=⟨pd,0,D⟩) h3 (O X (max d a));simpa using this
 have:=(jd.far (p:=⟨pt,0,D⟩) (Ne.symm h3) (O X (wrap64 (m+1)))).set_ 0 (O X (max d a));simpa using this
theorem KG {px pt pd H:Nat} {x:Int} (hx:px<H) (ht:pt<H) (hd:pd<H) (h1:px ≠ pt) (h2:px ≠ pd) (h3:pt ≠ pd) :
 v5 Tryz.prog 134 #[Z (U ⟨px,0,D⟩),Z (U ⟨pt,0,D⟩),Z (U ⟨pd,0,D⟩)] (N9 x) (S7 px pt pd x) (fun k=>k=pt\/k=pd) H:=by
 rintro w ⟨m,d⟩ v a hH ⟨jx,jt,jd⟩ a1 a0 a3 a2;have cx:=jx.cell;have ct:=jt.cell;have ft:=jt.frozen;have cd:=jd.cell;have fd:=jd.frozen;have a4:=Ne.symm h3;have JX:=aB jx;have JT:=aB jt;have JD:=aB jd;clear jx jt jd;simp only at ct cd JT JD;show Calls Tryz.prog 134 #[O X v,O X a,Z (U ⟨px,0,D⟩),Z (U ⟨pt,0,D⟩),Z (U ⟨pd,0,D⟩)] w _;by_cases h:v-a=x
 · have hb:(v-a==x)=true:=by simp[h]
   have HH:=aB h;clear h;go_in;go_wp2_with fail;all_goals
    go_ret;first
     | exact⟨rfl,DH (y:=a) h1 h2 h3 JX.o JT.o JD.o HH.o rfl aA⟩
     | exact⟨rfl,DH (y:=d) h1 h2 h3 JX.o JT.o JD.o HH.o rfl aA⟩
 have hb:(v-a==x)=false:=by simp[h]
 have HH:=aB h;clear h;go_in;go_wp2_with fail;go_ret;refine⟨rfl,bE.refl _ _ _,?_⟩;simp only[N9];rw[if_neg HH.o];exact⟨JX.o,JT.o,JD.o⟩
def TC (px pd:Nat) (x d:Int) (w:World) (_:Unit):Prop:=aS w px 3 #[O X x]/\aS w pd 3 #[O X d]
theorem KH {px pd H:Nat} {x d:Int} (hx:px<H) (hd:pd<H) (hx0:0<=x) (hx1:x<=1048577) (hd0:0<=d) (hd1:d<=1000000000000) :
 v5 Tryz.prog 135 #[Z (U ⟨px,0,D⟩),Z (U ⟨pd,0,D⟩)] (GM fun v a=>decide (a<=v)&&decide (1048576<v-a+x+d)) (TC px pd x d) (fun _=>False) H:=by
 rintro w t v a hH ⟨jx,jd⟩ a3 a2 a5 a4;have cx:=jx.cell;have cd:=jd.cell;have JX:=aB jx;have JD:=aB jd;clear jx jd;show Calls Tryz.prog 135 #[O X v,O X a,Z (U ⟨px,0,D⟩),Z (U ⟨pd,0,D⟩)] w _;by_cases h:a<=v
 · have a1:IntKind.i64.wrap (v-a+x)=v-a+x:=IntWalk.i64_in _ aA;have a0:IntKind.i64.wrap (v-a+x+d)=v-a+x+d:=IntWalk.i64_in _ aA;go_in;go_wp2_with fail;go_ret;exact⟨fH (by simp only[GM];simp[h]),bE.refl _ _ _,JX.o,JD.o⟩
 have hb:decide (a<=v)=false:=by simp;omega
 go_in;go_wp2_with fail;go_ret;exact⟨fH (by simp only[GM];simp;omega),bE.refl _ _ _,JX.o,JD.o⟩
structure Put where
 n:Nd
 a:List Nd
 k:Fo
def oL (u:Put) (x:Int):cW Unit where
 em:=fun _ n a=>if n.op=1/\n.a=x+a then (jO (x+a) 0).E1 0 () u.n u.a u.k else if n.op=1/\x+a<n.a then [⟨n.op,n.a-1,n.b⟩] else [n]
 nx:=fun _ _ _=>()
 ok:=fun _ _ _=>true
 dm:=fun _ n a=>n.op=1/\n.a=x+a->(jO (x+a) 0).G1 0 () u.n u.k=true
def RN (px pu:Nat) (x:Int) (R:Nat->Prop) (A:Option Addr) (nn c:Nat) (l:List Nd) (w:World) (_:Unit):Prop:=aS w px 3 #[O X x]/\aS w pu 29 #[Y A nn c]/\bJ R w A nn c l
def RO (px pu:Nat) (R:Nat->Prop) (k:Nat):Prop:=k=px\/k=pu\/R k
theorem CP {px pu:Nat} {x:Int} {R:Nat->Prop} {A:Option Addr} {nn c:Nat} {l:List Nd} {w w':World} {s:Unit} (h:RN px pu x R A nn c l w s) (hk:∀k,RO px pu R k->w'.heap[k]? = w.heap[k]?):RN px pu x R A nn c l w' s :=
 ⟨h.1.same (hk _ (.inl rfl)),h.2.1.same (hk _ (.inr (.inl rfl))),h.2.2.keep fun b hb=>⟨hb,fun o=>aQ (hk b (.inr (.inr hb))) o⟩⟩
theorem p9 {u:Put} {x:Int} {px pu:Nat} {R:Nat->Prop} {A:Option Addr} {nn c:Nat} {l:List Nd} {base:Nat} {pan:List PanicEntry} {w w':World} {s:Unit} {v v':Value} {o l':List Nd} {n:Nd} {a:Int} (hj:RN px pu x R A nn c l w s) (hk:∀k,v.ownBlock=U k->¬ RO px pu R k) (hlt:∀k,RO px pu R k->k<w.heap.size)
 (hm:bE (fun _=>False) v.ownBlock w w') (hown:bN w' base v' (o++l')) (he:(oL u x).em () n a=l') (hn:fK v v' w) :
 pF (oL u x) (RN px pu x R A nn c l) (fun _=>False) base pan w s v o n a (.returned v') w':=by
 refine .inl ⟨rfl,hm,CP hj (fun k h=>hm.block k (hlt k h) (fun h=>h) (fun e=>hk k e.symm h)),_,rfl,?_,hn⟩;show bN w' base v' (o++(oL u x).em () n a);rw[he];exact hown
theorem KI {px pu:Nat} {x:Int} {R:Nat->Prop} {A:Option Addr} {nn c:Nat} {l:List Nd} {base H M:Nat} {pan:List PanicEntry} {u:Put} (hpx:px<H) (hpu:pu<H) (hR:∀b,R b->b<H) (hb:base<=H) (hM:M<=1000000000000) (hx0:0<=x) (hx1:x<=1048577) (hpp:pp [false] l=U (.cons [] u.n u.a u.k .nil,[])) (hsz:4*aX u.k<=1000000000000) :
 AO Tryz.prog 137 #[Z (U ⟨px,0,D⟩),Z (U ⟨pu,0,D⟩)] (oL u x) (RN px pu x R A nn c l) (RO px pu R) (fun _=>False) base H pan M:=by
 intro w s v o n a hH hj a5 c2 a9 c3 d9 d8 a6;obtain⟨Av,cv,rfl⟩:=a5.slice;have b8:cD n.op n.a n.b=true:=by simp only[eN,Bool.and_eq_true] at a9;exact a9.1.1
 obtain⟨c5,c4⟩:=fM b8;have c1:∀k,RO px pu R k->k<w.heap.size:=fun k hk=>by
  rcases hk with h | h | h
  · omega
  · omega
  have:=hR k h;omega
 have cx:=hj.1.cell;have cu:=hj.2.1.cell;have d5:px<w.heap.size:=aA;have d6:pu<w.heap.size:=aA;have d7:base<=w.heap.size:=aA;obtain⟨i0,hi,b7,b6,b5⟩:=info_parts infoN;have b4:=aB hi;have b3:=aB b7;have b2:=aB b6;have b1:=aB b5;have a2:=aB a5;have HJ:=aB hj;have a7:=aB c2;have a3:=aB a6;have a8:=aB c1;have d3:=aB c3;have c9:=aB hpp;have c8:=aB hsz;have HR:=aB hR;clear hi b7 b6 b5 a5 hj c2 a9 b8 a6 c1 c3 hpp hsz hR;show Calls Tryz.prog 137 #[Y Av o.length cv,.agg #[O X n.op,O X n.a,O X n.b],O X a,Z (U ⟨px,0,D⟩),Z (U ⟨pu,0,D⟩)] w _;have d4:IntKind.i64.wrap (x+a)=x+a:=IntWalk.i64_in _ aA;by_cases h1:n.op=1;rotate_left
 · have c7:(n.op==1)=false:=by simp[h1]
   have he:(oL u x).em () n a=[n]:=by
    show (if _ then _ else if _ then _ else _)=_;rw[if_neg (fun h=>h1 h.1),if_neg (fun h=>h1 h.1)]
   have hl:o.length+1<=1000000000000:=by have:=a3.o;rw[he] at this;simp at this;omega
   have HE:=aB he;clear he h1;go_in;go_wp2_with (at_builtin;refine bL rfl (cQ (.tmp 47) (.tmp 49) 29 rfl base i0 Tryz.underlying29 b4.o b3.o b2.o b1.o (Y Av o.length cv) o n (w.alloc (I #[O X n.op,O X n.a,O X n.b] 46)) aF aF (a2.o.alloc _) _ aF aD aA aG ?_);intro A' c' w' a0 a1)
   go_ret;exact p9 HJ.o a7.o a8.o ((bE.of_below (aP _ _)).trans (bE.of_grown a1.grown) (fun g hg=>.inl hg)) a0 HE.o (fun g hg=>(a1.new g hg).imp id (fun h=>by simp at h;omega))
 have c7:(n.op==1)=true:=by simp[h1]
 by_cases h2:n.a=x+a
 · have c6:(n.a==x+a)=true:=by simp[h2]
   have he:(oL u x).em () n a=(jO (x+a) 0).E1 0 () u.n u.a u.k:=if_pos ⟨h1,h2⟩;have hg:(jO (x+a) 0).G1 0 () u.n u.k=true:=d3.o ⟨h1,h2⟩;have hl:o.length+((jO (x+a) 0).E1 0 () u.n u.a u.k).length<=1000000000000:=by have:=a3.o;rw[he] at this;omega
   have HE:=aB he;have HG:=aB hg;have HL:=aB hl;clear he hg hl h1 h2;go_in;go_wp2_with fail;have b0:Below w.heap.size w (w.alloc (I #[O X n.op,O X n.a,O X n.b] 46)):=aP _ _;refine (oZ (R:=R) (base:=base) aG (fun b hb=>by have:=HR.o b hb;simp;omega) (HJ.o.2.2.keep fun b hb=>⟨hb,fun o=>aQ (b0.block b (by have:=HR.o b hb;omega)) o⟩) (a2.o.alloc _) (fun g hg hr=>a7.o g hg (.inr (.inr hr))) c9.o c8.o HL.o aA aA (Int.le_refl 0) aA).mono ?_;rintro e w3 ⟨c0,(⟨_,v',rfl,a4,b9⟩ | ⟨hg,_⟩)⟩
   · have d2:=aB c0;have d0:=aB a4;have d1:=aB b9;clear c0 a4 b9;go_wp2_with fail;go_ret;exact p9 HJ.o a7.o a8.o (bE.over b0 d2.o (fun _ _ h=>h)) d0.o HE.o (fun g hg=>(d1.o g hg).imp id (fun h=>Nat.le_trans b0.size h))
   rw[HG.o] at hg;cases hg
 have c6:(n.a==x+a)=false:=by simp[h2]
 by_cases h3:x+a<n.a
 · have he:(oL u x).em () n a=[⟨n.op,n.a-1,n.b⟩]:=by
    show (if _ then _ else if _ then _ else _)=_;rw[if_neg (fun h=>h2 h.2),if_pos ⟨h1,h3⟩]
   have hl:o.length+1<=1000000000000:=by have:=a3.o;rw[he] at this;simp at this;omega
   have HE:=aB he;clear he h1 h2;go_in;go_wp2_with (at_builtin;refine bL rfl (cQ (.tmp 47) (.tmp 49) 29 rfl base i0 Tryz.underlying29 b4.o b3.o b2.o b1.o (Y Av o.length cv) o ⟨n.op,n.a-1,n.b⟩ (w.alloc (I #[O X n.op,O X (n.a-1),O X n.b] 46)) aF aF (a2.o.alloc _) _ aF aD aA aG ?_);intro A' c' w' a0 a1)
   go_ret;exact p9 HJ.o a7.o a8.o ((bE.of_below (aP _ _)).trans (bE.of_grown a1.grown) (fun g hg=>.inl hg)) a0 HE.o (fun g hg=>(a1.new g hg).imp id (fun h=>by simp at h;omega))
 have e0:decide (x+a<n.a)=false:=by simp;omega
 have he:(oL u x).em () n a=[n]:=by
  show (if _ then _ else if _ then _ else _)=_;rw[if_neg (fun h=>h2 h.2),if_neg (fun h=>h3 h.2)]
 have hl:o.length+1<=1000000000000:=by have:=a3.o;rw[he] at this;simp at this;omega
 have HE:=aB he;clear he h1 h2;go_in;go_wp2_with (at_builtin;refine bL rfl (cQ (.tmp 47) (.tmp 49) 29 rfl base i0 Tryz.underlying29 b4.o b3.o b2.o b1.o (Y Av o.length cv) o n (w.alloc (I #[O X n.op,O X n.a,O X n.b] 46)) aF aF (a2.o.alloc _) _ aF aD aA aG ?_);intro A' c' w' a0 a1)
 go_ret;exact p9 HJ.o a7.o a8.o ((bE.of_below (aP _ _)).trans (bE.of_grown a1.grown) (fun g hg=>.inl hg)) a0 HE.o (fun g hg=>(a1.new g hg).imp id (fun h=>by simp at h;omega))
end
section
open Go.Lib renaming hid->aB
set_option maxHeartbeats 2000000
set_option maxRecDepth 100000
theorem oV:∀(f:Nat) (dl:List Bool) (l:List Nd) (x:Fo×List Nd),kR f dl l=U x->dC x.1
 | 0,_,_,_,h=>by simp[kR] at h
 | _+1,[],l,x,h=>by simp only[kR,Option.some.injEq] at h;subst h;trivial
 | f+1,d::dr,l,x,h=>by
  simp only[kR,Option.bind_eq_some_iff] at h;obtain⟨p,hp,h⟩:=h;split at h
  · cases h
  · split at h
    · rename_i hok
      simp only[Option.bind_eq_some_iff] at h;obtain⟨q,hq,k,hk,y,hy,h⟩:=h;simp only[Option.some.injEq] at h;subst h;exact⟨hok,oV f _ _ _ hk,oV f _ _ _ hy⟩
    cases h
theorem pZ {dl:List Bool} {l:List Nd} {x:Fo×List Nd} (h:pp dl l=U x):dC x.1:=oV _ _ _ _ h
def yR (x:Int) (pop pb:Int):Nat->Int->Fo->Int
 | _,_,.nil=>0
 | j,a,.cons _ n _ k y=>(if n.op=1/\n.a-(a+aR pop pb j)=x then 1 else 0)+yR x n.op n.b 0 (a+aR pop pb j) k+yR x pop pb (j+1) a y
def LN (x:Int) (pop pb:Int):Nat->Int->Int->Fo->Int
 | _,_,d,.nil=>d
 | j,a,d,.cons _ n _ k y=>LN x pop pb (j+1) a (LN x n.op n.b 0 (a+aR pop pb j) (if n.op=1/\n.a-(a+aR pop pb j)=x then max d (a+aR pop pb j) else d) k) y
def pJ (x:Int) (n:Nd) (k:Fo):Int:=(if n.op=1/\n.a=x then 1 else 0)+yR x n.op n.b 0 0 k
def I6 (x:Int) (n:Nd) (k:Fo):Int:=LN x n.op n.b 0 0 0 k
theorem yS (x:Int) (pop pb:Int) : ∀(j:Nat) (a:Int) (F:Fo),0<=yR x pop pb j a F/\yR x pop pb j a F<=aX F
 | _,_,.nil=>by simp[yR,aX]
 | j,a,.cons p n at' k y=>by
  have h1:=yS x n.op n.b 0 (a+aR pop pb j) k;have h2:=yS x pop pb (j+1) a y;simp only[yR,aX];split<;>omega
theorem NW (x:Int) (m d:Int) (n:Nd) (a:Int) (h0:0<=m) (h1:m<=1000000000000):(sL (N9 x)).nx (false,(m,d)) n a=(false,(m+(if n.op=1/\n.a-a=x then 1 else 0),if n.op=1/\n.a-a=x then max d a else d)):=by
 have hw:wrap64 (m+1)=m+1:=by unfold wrap64;omega
 simp only[sL,N9];by_cases h:n.op=1
 · by_cases h2:n.a-a=x
   · simp[h,h2,hw]
   simp[h,h2]
 simp[h]
theorem NV (x:Int) (pop pb:Int) : ∀(j:Nat) (a m d:Int) (F:Fo),0<=m->m+aX F<=1000000000000->(sL (N9 x)).S pop pb j a (false,(m,d)) F=(false,(m+yR x pop pb j a F,LN x pop pb j a d F))
 | _,_,m,d,.nil,_,_=>by simp[cW.S,yR,LN]
 | j,a,m,d,.cons p n at' k y,h0,h1=>by
  simp only[aX] at h1;have hc:=yS x n.op n.b 0 (a+aR pop pb j) k;rw[cW.S_cons,cW.S1,NW x m d n _ h0 aA];rw[NV x n.op n.b 0 _ _ _ k (by split<;>omega) (by split<;>omega)];rw[NV x pop pb (j+1) a _ _ y (by split<;>omega) (by split<;>omega)];simp only[yR,LN,Prod.mk.injEq,true_and,and_true];omega
theorem LT (x:Int) (n:Nd) (k:Fo) (h:aX k<=10000):(wM (N9 x) (0,0) n k).2=(pJ x n k,I6 x n k):=by
 have hz:(0:Int)<=(if n.op=1/\n.a=x then (1:Int) else 0)/\(if n.op=1/\n.a=x then (1:Int) else 0)<=1:=by split<;>omega
 have e:n.a-0=n.a:=aA;rw[wM,cW.S1,NW x 0 0 n 0 aA aA,e,NV x _ _ _ _ _ _ _ aA aA];have e2:(if n.op=1/\n.a=x then max (0:Int) 0 else 0)=0:=by split<;>rfl
 rw[e2];simp only[pJ,I6,Int.zero_add]
theorem EE (x:Int) (pop pb:Int) (hp:∀j:Int,0<=aR pop pb j/\aR pop pb j<=4) : ∀(j:Nat) (a d:Int) (F:Fo),dC F->0<=a->0<=d->0<=LN x pop pb j a d F/\LN x pop pb j a d F<=max d (a+4*aX F)
 | _,_,d,.nil,_,ha,hd=>by simp only[LN,aX];omega
 | j,a,d,.cons p n at' k y,hok,ha,hd=>by
  have h0:=hp j;have h1:=EE x n.op n.b (fun j=>eA hok.1 j) 0 (a+aR pop pb j) (if n.op=1/\n.a-(a+aR pop pb j)=x then max d (a+aR pop pb j) else d) k hok.2.1 aA (by split<;>omega);have h2:=EE x pop pb hp (j+1) a (LN x n.op n.b 0 (a+aR pop pb j) (if n.op=1/\n.a-(a+aR pop pb j)=x then max d (a+aR pop pb j) else d) k) y hok.2.2 ha h1.1;have h3:(if n.op=1/\n.a-(a+aR pop pb j)=x then max d (a+aR pop pb j) else d)<=max d (a+aR pop pb j):=by split<;>omega
  simp only[LN,aX];omega
theorem LO {x:Int} {n:Nd} {k:Fo} (hok:eN n=true) (hk:dC k):0<=I6 x n k/\I6 x n k<=4*aX k:=by
 have:=EE x n.op n.b (fun j=>eA hok j) 0 0 0 k hk (Int.le_refl _) (Int.le_refl _);unfold I6;omega
theorem zM (u:Put) (x:Int) (pop pb:Int) : ∀(j:Nat) (a:Int) (F:Fo),((oL u x).E pop pb j a () F).length<=(row F).length*((u.n::(u.a++row u.k)).length+1)
 | _,_,.nil=>by simp[cW.E,row]
 | j,a,.cons p n at' k y=>by
  rw[cW.E_cons,cW.E1];have h1:=zM u x n.op n.b 0 (a+aR pop pb j) k;have h2:=zM u x pop pb (j+1) a y;have h3:((oL u x).em () n (a+aR pop pb j)).length<=(u.n::(u.a++row u.k)).length+1:=by
   simp only[oL];split
   · rw[CS];omega
   split<;>simp
  have e:∀s:Unit,s=():=fun _=>rfl;rw[e ((oL u x).nx () n (a+aR pop pb j)),e ((oL u x).S1 (a+aR pop pb j) () n k)];simp only[List.length_append,row,List.length_cons] at h1 h2 h3 ⊢;have a0:1<=u.a.length+(row u.k).length+1+1:=aA;generalize u.a.length+(row u.k).length+1+1=q at *;generalize (row k).length=b at *;generalize (row y).length=c at *;have e1:(p.length+(at'.length+(b+c)+1))*q=p.length*q+(at'.length*q+(b*q+c*q)+q):=by
   rw[Nat.add_mul,Nat.add_mul,Nat.add_mul,Nat.add_mul,Nat.one_mul]
  have e2:p.length<=p.length*q/\at'.length<=at'.length*q:=⟨Nat.le_mul_of_pos_right _ aA,Nat.le_mul_of_pos_right _ aA⟩;rw[e1];omega
def rM (t u:List Nd) (x:Int):List Nd×Int :=
 match pp [false] t,pp [false] u with
 | some (.cons _ n a k _,_),U (.cons _ un ua uk _,_) =>
  if 0<pJ x n k/\oI (fun v b=>decide (b<=v)&&decide (1048576<v-b+x+I6 x n k)) 0 un uk=true then ([],6)
  else if 4096<(t.length:Int)+pJ x n k*((u.length:Int)-1) then ([],9)
  else ((oL ⟨un,ua,uk⟩ x).E1 0 () n a k,0)
 | _,_=>([],0)
def iZ (t u:List Nd) (at_:Int):List Nd×Int :=
 if a8 t=0 then (if a8 u=0 then (if at_<0 then ([],1) else rM t u (min at_ 1048577)) else ([],a8 u)) else ([],a8 t)
def uX (t u:List Nd) (x:Int):Prop :=
 match pp [false] t,pp [false] u with
 | some (.cons _ n _ k _,_),U (.cons _ un ua uk _,_)=>(oL ⟨un,ua,uk⟩ x).D1 0 () n k
 | _,_=>True
theorem KJ {A B:Option Addr} {nn c mm d:Nat} {t u:List Nd} {w:World} (ht:aY w A nn c t) (hu:aY w B mm d u) (at_:Int) (h:a8 t ≠ 0\/a8 u ≠ 0\/at_<0) :
 Calls Tryz.prog 113 #[Y A nn c,Y B mm d,O X at_] w (oP (iZ t u at_) w):=by
 have a4:=a7 w (I #[Y B mm d] 29) (I #[O X at_] 3);have a5:=ht.below a4;by_cases hs:a8 t=0;rotate_left
 · have b6:(a8 t != 0)=true:=by simp[hs]
   have hr:iZ t u at_=([],a8 t):=by unfold iZ;rw[if_neg hs]
   have HR:=aB hr;have a1:=aB a4;have a6:=aB a5;clear hr hs h a4 a5 hu ht;go_in;go_wp2_with fail;refine (dP a6.o).mono ?_;rintro e w2 ⟨rfl,a0⟩;go_wp2_with fail;go_ret2;exact eU (a1.o.trans (a0.mono a1.o.size)) HR.o
 have b6:(a8 t != 0)=false:=by simp[hs]
 have a9:aS ((w.alloc (I #[Y B mm d] 29)).alloc (I #[O X at_] 3)) w.heap.size 29 #[Y B mm d]:=(aS.new _ _ _).alloc _;have a2:aS ((w.alloc (I #[Y B mm d] 29)).alloc (I #[O X at_] 3)) (w.heap.size+1) 3 #[O X at_]:=aS.new' aD;by_cases hs2:a8 u=0
 · have b2:(a8 u != 0)=false:=by simp[hs2]
   have h3:at_<0:=by rcases h with h | h | h<;>first | exact absurd hs h | exact absurd hs2 h | exact h
   have hr:iZ t u at_=([],1):=by unfold iZ;rw[if_pos hs,if_pos hs2,if_pos h3]
   have HR:=aB hr;have a1:=aB a4;have a6:=aB a5;have HU:=aB hu;have b4:=aB a9;have b3:=aB a2;clear hr hs hs2 h a4 a5 hu ht a9 a2;go_in;go_wp2_with fail;refine (dP a6.o).mono ?_;rintro e w2 ⟨rfl,a0⟩;have a3:=a1.o.trans (a0.mono a1.o.size);have c0:=(b4.o.below a0 aG).cell;have b1:=b3.o.below a0 aD;have b5:=aB b1;clear b1;go_wp2_with fail;refine (dP (HU.o.below a3)).mono ?_;rintro e w3 ⟨rfl,b0⟩;have c1:=(b5.o.below b0 b5.o.lt).cell;go_wp2_with fail;go_ret2;exact eU (a3.trans (b0.mono a3.size)) HR.o
 have b2:(a8 u != 0)=true:=by simp[hs2]
 have hr:iZ t u at_=([],a8 u):=by unfold iZ;rw[if_pos hs,if_neg hs2]
 have HR:=aB hr;have a1:=aB a4;have a6:=aB a5;have HU:=aB hu;have b4:=aB a9;clear hr hs hs2 h a4 a5 hu ht a9 a2;go_in;go_wp2_with fail;refine (dP a6.o).mono ?_;rintro e w2 ⟨rfl,a0⟩;have a3:=a1.o.trans (a0.mono a1.o.size);have c0:=(b4.o.below a0 aG).cell;go_wp2_with fail;refine (dP (HU.o.below a3)).mono ?_;rintro e w3 ⟨rfl,b0⟩;go_wp2_with fail;go_ret2;exact eU (a3.trans (b0.mono a3.size)) HR.o
section
variable {A B : Option Addr} {nn c mm d : Nat} {t u : List Nd} {w w3 : World} {n un : Nd} {ats ua : List Nd} {k uk : Fo} {x : Int}
theorem DE (ht:aY w A nn c t) (hpp:pp [false] t=U (.cons [] n ats k .nil,[])) (hrow:t=n::(ats++row k)) (hfs:aX k<=4096) (hl:t.length<=4096) (hb:Below w.heap.size w w3) (hu:aS w3 w.heap.size 29 #[Y B mm d]) {z:Value} (hx:aS w3 (w.heap.size+1) 3 #[z]) (y:Int) (hy:y=x) :
 Calls Tryz.prog 127 #[Y A nn c,.func (.func 134) #[] #[Z (U ⟨w.heap.size+1,0,D⟩),Z (U ⟨w3.heap.size,0,D⟩),Z (U ⟨w3.heap.size+1,0,D⟩)]]
  (((w3.setCell ⟨w.heap.size+1,0,D⟩ (O X y)).alloc (I #[O X 0] 3)).alloc (I #[O X 0] 3)) fun e w5=>(∃b,e=.returned (.bool b))/\Below w.heap.size w w5/\aS w5 w.heap.size 29 #[Y B mm d]/\aS w5 (w.heap.size+1) 3 #[O X x]/\aS w5 w3.heap.size 3 #[O X (pJ x n k)]/\aS w5 (w3.heap.size+1) 3 #[O X (I6 x n k)]:=by
 subst hy;have a6:=hx.lt;have a0:Below w.heap.size w (((w3.setCell ⟨w.heap.size+1,0,D⟩ (O X y)).alloc (I #[O X 0] 3)).alloc (I #[O X 0] 3)) :=
  ((hb.setCell (p:=⟨w.heap.size+1,0,D⟩) aD _).alloc (by simp[World.setCell];omega) _).alloc (by simp[World.setCell];omega) _
 have a2:aS (((w3.setCell ⟨w.heap.size+1,0,D⟩ (O X y)).alloc (I #[O X 0] 3)).alloc (I #[O X 0] 3)) (w.heap.size+1) 3 #[O X y]:=by
  have:=((hx.set_ 0 (O X y)).alloc (I #[O X 0] 3)).alloc (I #[O X 0] 3);simpa using this
 have a3:=((hu.far (p:=⟨w.heap.size+1,0,D⟩) aD (O X y)).alloc (I #[O X 0] 3)).alloc (I #[O X 0] 3);have a4:aS (((w3.setCell ⟨w.heap.size+1,0,D⟩ (O X y)).alloc (I #[O X 0] 3)).alloc (I #[O X 0] 3)) w3.heap.size 3 #[O X 0]:=(aS.new' (by simp[World.setCell])).alloc _;have a5:aS (((w3.setCell ⟨w.heap.size+1,0,D⟩ (O X y)).alloc (I #[O X 0] 3)).alloc (I #[O X 0] 3)) (w3.heap.size+1) 3 #[O X 0]:=aS.new' (by simp[World.setCell]);have a1:=tF (N9 y) 0 (false,(0,0)) n ats k;rw[<-hrow] at a1;refine (tG (T:=N9 y) (J:=S7 (w.heap.size+1) w3.heap.size (w3.heap.size+1) y) (K:=fun b=>b=w.heap.size+1\/b=w3.heap.size\/b=w3.heap.size+1) (S:=fun b=>b=w3.heap.size\/b=w3.heap.size+1) (R:=(· < w.heap.size)) (t:=(0,0)) (fun b hb'=>⟨?_,?_⟩) (ht.keep fun b hb'=>⟨hb',fun o=>aQ (a0.block b hb') o⟩) (fun b hb' => ?_) (fun b hb'=>.inr hb')
  (fun w w' t hj hk=>⟨hj.1.same (hk _ (.inl rfl)),hj.2.1.same (hk _ (.inr (.inl rfl))),hj.2.2.same (hk _ (.inr (.inr rfl)))⟩) (fun _ _=>by kernel_rfl) (KG (by simp[World.setCell];omega) (by simp[World.setCell]<;>omega) (by simp[World.setCell]<;>omega) aA aA aA) ⟨a2,a4,a5⟩ hpp aA aA).mono ?_
 · have:=a0.size;omega
 · omega
 · simp[World.setCell];omega
 rintro e w5 ⟨he,hm,hj⟩;rw[LT y n k aA] at hj;refine⟨⟨_,he⟩,a0.trans (hm.to_below a0.size (fun b hb'=>by omega) (fun g hg=>by cases hg)),a3.moved hm aA aD,hj.1,hj.2.1,hj.2.2⟩
theorem RC (hu:aY w B mm d u) (hpp:pp [false] u=U (.cons [] un ua uk .nil,[])) (hrow:u=un::(ua++row uk)) (hfs:aX uk<=4096) (hl:u.length<=4096) (hx0:0<=x) (hx1:x<=1048577) {dp:Int} (hd0:0<=dp) (hd1:dp<=1000000000000) {pd:Nat} (hb:Below w.heap.size w w3) (hx:aS w3 (w.heap.size+1) 3 #[O X x]) (hd:aS w3 pd 3 #[O X dp]) (hpd:w.heap.size+1<pd) :
 Calls Tryz.prog 127 #[Y B mm d,.func (.func 135) #[] #[Z (U ⟨w.heap.size+1,0,D⟩),Z (U ⟨pd,0,D⟩)]] w3 (pE (oI (fun v b=>decide (b<=v)&&decide (1048576<v-b+x+dp)) 0 un uk) w3):=by
 have a1:=tF (GM fun v b=>decide (b<=v)&&decide (1048576<v-b+x+dp)) 0 (false,()) un ua uk;rw[<-hrow] at a1;refine (tG (T:=GM fun v b=>decide (b<=v)&&decide (1048576<v-b+x+dp)) (J:=TC (w.heap.size+1) pd x dp) (K:=fun b=>b=w.heap.size+1\/b=pd) (S:=fun _=>False) (R:=(· < w.heap.size)) (t:=()) (fun b a0=>⟨by have:=hb.size;omega,fun h=>h⟩) (hu.keep fun b a0=>⟨a0,fun o=>aQ (hb.block b a0) o⟩) (fun b a0 => ?_) (fun b a0=>a0.elim)
  (fun w w' t hj hk=>⟨hj.1.same (hk _ (.inl rfl)),hj.2.same (hk _ (.inr rfl))⟩) (fun _ _=>by kernel_rfl) (KH hx.lt hd.lt hx0 hx1 hd0 hd1) ⟨hx,hd⟩ hpp aA aA).mono ?_
 · rcases a0 with h | h
   · subst h;exact hx.lt
   subst h;exact hd.lt
 rintro e w5 ⟨rfl,hm,_⟩;exact⟨fH (BJ _ _ _),hm.to_below (Nat.le_refl _) (fun _ h=>h.elim) (fun g hg=>by cases hg)⟩
theorem DF (ht:aY w A nn c t) (hpp:pp [false] t=U (.cons [] n ats k .nil,[])) (hrow:t=n::(ats++row k)) (hfs:aX k<=4096) (hl:t.length<=4096) (hu:aY w B mm d u) (hpu:pp [false] u=U (.cons [] un ua uk .nil,[])) (hurow:u=un::(ua++row uk)) (hufs:aX uk<=4096) (hul:u.length<=4096) (hx0:0<=x) (hx1:x<=1048577) (hD:(oL ⟨un,ua,uk⟩ x).D1 0 () n k)
 (hb:Below w.heap.size w w3) (hub:aS w3 w.heap.size 29 #[Y B mm d]) (hx:aS w3 (w.heap.size+1) 3 #[O X x]) :
 Calls Tryz.prog 136 #[Y A nn c,Y D 0 0,.func (.func 137) #[] #[Z (U ⟨w.heap.size+1,0,D⟩),Z (U ⟨w.heap.size,0,D⟩)]] w3 fun e w'=>Below w.heap.size w w'/\∃A' m' c',e=.returned (.tuple #[Y A' m' c',O X 0])/\bN w' w.heap.size (Y A' m' c') ((oL ⟨un,ua,uk⟩ x).E1 0 () n ats k):=by
 have a1:((oL ⟨un,ua,uk⟩ x).E1 0 () n ats k).length<=1000000000000:=by
  have h1:=zM ⟨un,ua,uk⟩ x 0 0 0 0 (.cons [] n ats k .nil);rw[cW.E_cons] at h1;have e0:aR 0 0 ((0:Nat):Int)=0:=by decide
  rw[e0] at h1;simp only[Int.add_zero,List.nil_append,cW.E,List.append_nil] at h1;have h2:(row (.cons [] n ats k .nil)).length=t.length:=by rw[hrow];simp[row]
  have h3:(un::(ua++row uk)).length=u.length:=by rw[<-hurow]
  rw[h2,h3] at h1;have h4:t.length*(u.length+1)<=4096*4097:=Nat.mul_le_mul hl aA;omega
 have hG:∀(pop pb:Int) (j:Nat) (a:Int) (F:Fo),(oL ⟨un,ua,uk⟩ x).G pop pb j a () F=true:=by
  intro pop pb j a F
  induction F generalizing pop pb j a with
  | nil=>rfl
  | cons p n at' k y ih1 ih2=>rw[cW.G_cons,cW.G1,ih1,ih2];rfl
 have a2:mE (oL ⟨un,ua,uk⟩ x) 137 #[Z (U ⟨w.heap.size+1,0,D⟩),Z (U ⟨w.heap.size,0,D⟩)] (RN (w.heap.size+1) w.heap.size x (· < w.heap.size) B mm d u) (RO (w.heap.size+1) w.heap.size (· < w.heap.size)) (fun _=>False) w.heap.size 6 1000000000000 (· < w.heap.size) w3 A nn c t (Y D 0 0) () []:=by
  refine⟨hb.size,fun b h=>⟨Nat.lt_of_lt_of_le h hb.size,fun h=>h⟩,fun b h => ?_,fun b h=>h.elim,fun w w' s hj hk=>CP hj hk,Nat.le_refl _,fun _ _=>by kernel_rfl,KI hx.lt hub.lt (fun b h=>Nat.lt_of_lt_of_le h hb.size) hb.size (Nat.le_refl _) hx0 hx1 hpu (by show 4*aX uk<=_;omega),ht.keep fun b hb'=>⟨hb',fun o=>aQ (hb.block b hb') o⟩,bN.nil _ _,⟨hx,hub,hu.keep fun b hb'=>⟨hb',fun o=>aQ (hb.block b hb') o⟩⟩,fun g hg=>by simp[Value.ownBlock] at hg⟩;rcases h with h | h | h
  · subst h;exact hx.lt
  · subst h;exact hub.lt
  exact Nat.lt_of_lt_of_le h hb.size
 refine (vD a2 hpp aA hD (by simpa using a1)).mono ?_;rintro e w5 ⟨hm,(⟨_,_,v',rfl,a0,_⟩ | ⟨hg,_⟩)⟩
 · obtain⟨A',c',rfl⟩:=a0.slice;exact⟨hb.trans (hm.to_below hb.size (fun _ h=>h.elim) (fun g hg=>by simp[Value.ownBlock] at hg)),_,_,_,rfl,a0⟩
 rw[cW.G1,hG] at hg;cases hg
end
theorem uN {r:List Nd×Int} {l:List Nd} {w w':World} {A:Option Addr} {m c:Nat} (hb:Below w.heap.size w w') (hr:r=(l,0)) (hown:bN w' w.heap.size (Y A m c) l):oP r w (.returned (.tuple #[Y A m c,O X 0])) w':=by
 subst hr;exact⟨hb,_,_,_,rfl,hown⟩
theorem FV {A B:Option Addr} {nn c mm d:Nat} {t u:List Nd} {w:World} (ht:aY w A nn c t) (hu:aY w B mm d u) (at_:Int) (hs:a8 t=0) (hs2:a8 u=0) (h0:0<=at_) (x:Int) (hx:(at_<=1048577/\at_=x)\/(1048577<at_/\1048577=x)) (hD:uX t u x) :
 Calls Tryz.prog 113 #[Y A nn c,Y B mm d,O X at_] w (oP (rM t u x) w):=by
 obtain⟨hl,n,ats,k,b5,b4,f4⟩:=fB hs;obtain⟨f2,un,ua,uk,c6,a1,b3⟩:=fB hs2;have d7:0<=x:=aA;have d6:x<=1048577:=aA;have hr:rM t u x=if 0<pJ x n k/\oI (fun v b=>decide (b<=v)&&decide (1048576<v-b+x+I6 x n k)) 0 un uk=true then ([],6)
  else if 4096<(nn:Int)+pJ x n k*((mm:Int)-1) then ([],9)
  else ((oL ⟨un,ua,uk⟩ x).E1 0 () n ats k,0):=by
  unfold rM;rw[b5,c6,<-ht.len,<-hu.len]
 have f9:(oL ⟨un,ua,uk⟩ x).D1 0 () n k:=by
  unfold uX at hD;rw[b5,c6] at hD;exact hD
 have g9:=pZ b5;obtain⟨b7,b6,_⟩:=g9;have h6:=LO (x:=x) b7 b6;have h7:=yS x n.op n.b 0 0 k;have e3:0<=pJ x n k/\pJ x n k<=4097:=by unfold pJ;split<;>omega
 have h5:1<=mm/\mm<=4096:=by
  have h1:=congrArg List.length a1;rw[hu.len] at h1;simp only[List.length_cons] at h1;have:=hu.len;omega
 have i1:nn<=4096:=by have:=ht.len;omega
 obtain⟨e2,e1⟩:=e3;obtain⟨h4,h3⟩:=h5;obtain⟨e0,d9⟩:=h6;have g8:0<=pJ x n k*((mm:Int)-1)/\pJ x n k*((mm:Int)-1)<=4097*4096:=⟨Int.mul_nonneg e2 aA,Int.mul_le_mul e1 aA aA aA⟩;obtain⟨g7,g6⟩:=g8;have e4:=a7 w (I #[Y B mm d] 29) (I #[O X at_] 3);have f3:=ht.below e4;have i0:(a8 t != 0)=false:=by simp[hs]
 have g5:(a8 u != 0)=false:=by simp[hs2]
 have i4:decide (at_<0)=false:=by simp;omega
 have f5:aS ((w.alloc (I #[Y B mm d] 29)).alloc (I #[O X at_] 3)) w.heap.size 29 #[Y B mm d]:=(aS.new _ _ _).alloc _;have b8:aS ((w.alloc (I #[Y B mm d] 29)).alloc (I #[O X at_] 3)) (w.heap.size+1) 3 #[O X at_]:=aS.new' aD;have HR:=aB hr;have g4:=aB e4;have h8:=aB f3;have HT:=aB ht;have HU:=aB hu;have h9:=aB f5;have e8:=aB b8;have d0:=aB b5;have e6:=aB c6;have a4:=aB b4;have a3:=aB a1;have d2:=aB f4;have a6:=aB b3;have d1:=aB hl;have e7:=aB f2;have HD:=aB f9;have d8:I6 x n k<=1000000000000:=aA;have c5:IntKind.i64.wrap (pJ x n k*((mm:Int)-1))=pJ x n k*((mm:Int)-1):=IntWalk.i64_in _ aA;have c4:IntKind.i64.wrap ((nn:Int)+pJ x n k*((mm:Int)-1))=(nn:Int)+pJ x n k*((mm:Int)-1):=IntWalk.i64_in _ aA;have g2:=aB c5;have g1:=aB c4;clear hr hs hs2 e4 f3 hu ht f5 b8 b5 c6 b4 a1 f4 b3 hl f2 hD f9 b7 b6 h7 c5 c4 d9;rcases hx with⟨e5,d4⟩ | ⟨e5,d4⟩;all_goals
  have g0:=aB d4;clear d4;go_in;go_wp2_with fail;refine (dP h8.o).mono ?_;rintro e w2 ⟨rfl,c9⟩;have c8:=g4.o.trans (c9.mono g4.o.size);have b0:=h9.o.below c9 aG;have b1:=e8.o.below c9 aD;have c0:=b0.cell;have B0:=aB b0;have B1:=aB b1;clear b0 b1;go_wp2_with fail;refine (dP (HU.o.below c8)).mono ?_;rintro e w3 ⟨rfl,c7⟩;have b0:=B0.o.below c7 B0.o.lt;have b1:=B1.o.below c7 B1.o.lt;have c1:=b1.cell;have f1:=b1.frozen;have f8:=c8.trans (c7.mono c8.size);have i3:w.heap.size+1<w3.heap.size:=b1.lt;have B0':=aB b0;have B1':=aB b1;have g3:=aB f8;clear b0 b1 f8 c7 c8 c9 c0;go_wp2_with fail;first
   | refine (DE HT.o d0.o a4.o d2.o d1.o g3.o B0'.o B1'.o at_ g0.o).mono ?_
   | refine (DE HT.o d0.o a4.o d2.o d1.o g3.o B0'.o B1'.o 1048577 g0.o).mono ?_
  rintro e w5 ⟨⟨b,rfl⟩,f7,u5,x5,t5,d5⟩;have ct:=t5.cell;have cu:=u5.cell;have c3:=aB f7;have U5:=aB u5;have X5:=aB x5;have D5:=aB d5;have T5:=aB t5;clear f7 u5 x5 t5 d5 c1 f1;by_cases hm:0<pJ x n k;rotate_left
  · have i2:decide (0<pJ x n k)=false:=by simpa using hm
    have HM:=aB hm;clear hm;have c5:=g2.o;have c4:=g1.o;by_cases hbig:4096<(nn:Int)+pJ x n k*((mm:Int)-1)
    · have a0:=aB hbig;go_wp2_with fail;go_ret2;exact eU c3.o (by rw[HR.o,if_neg (fun h=>by have h1:=HM.o;have h2:=h.1;omega),if_pos a0.o])
    have b9:decide (4096<(nn:Int)+pJ x n k*((mm:Int)-1))=false:=by simpa using hbig
    have a0:=aB hbig;clear hbig;go_wp2_with fail;refine (DF HT.o d0.o a4.o d2.o d1.o HU.o e6.o a3.o a6.o e7.o d7 d6 HD.o c3.o U5.o X5.o).mono ?_;rintro e w7 ⟨c2,A',m',c',rfl,a2⟩;have a9:=aB a2;have e9:=aB c2;clear a2 c2;go_wp2_with fail;go_ret2;exact uN e9.o (by rw[HR.o,if_neg (fun h=>by have h1:=HM.o;have h2:=h.1;omega),if_neg (by have:=a0.o;omega)]) a9.o
  go_wp2_with fail;refine (RC HU.o e6.o a3.o a6.o e7.o d7 d6 e0 d8 c3.o X5.o D5.o aA).mono ?_;rintro e w6 ⟨rfl,b2⟩;have ct6:=(T5.o.below b2 T5.o.lt).cell;have cu6:=(U5.o.below b2 U5.o.lt).cell;have f6:=c3.o.trans (b2.mono c3.o.size);have U6:=aB (U5.o.below b2 U5.o.lt);have X6:=aB (X5.o.below b2 X5.o.lt);have f0:=aB f6;clear ct cu b2 f6;by_cases hex:oI (fun v b=>decide (b<=v)&&decide (1048576<v-b+x+I6 x n k)) 0 un uk=true
  · have d3:=aB hex;have HM:=aB hm;go_wp2_with fail;go_ret2;exact eU f0.o (by rw[HR.o,if_pos ⟨HM.o,d3.o⟩])
  have a5:oI (fun v b=>decide (b<=v)&&decide (1048576<v-b+x+I6 x n k)) 0 un uk=false:=by simpa using hex
  have d3:=aB a5;rw[a5];clear hex a5;have c5:=g2.o;have c4:=g1.o;by_cases hbig:4096<(nn:Int)+pJ x n k*((mm:Int)-1)
  · have a0:=aB hbig;go_wp2_with fail;go_ret2;exact eU f0.o (by rw[HR.o,if_neg (fun h=>by rw[d3.o] at h;cases h.2),if_pos a0.o])
  have b9:decide (4096<(nn:Int)+pJ x n k*((mm:Int)-1))=false:=by simpa using hbig
  have a0:=aB hbig;clear hbig;go_wp2_with fail;refine (DF HT.o d0.o a4.o d2.o d1.o HU.o e6.o a3.o a6.o e7.o d7 d6 HD.o f0.o U6.o X6.o).mono ?_;rintro e w7 ⟨c2,A',m',c',rfl,a2⟩;have a9:=aB a2;have e9:=aB c2;clear a2 c2;go_wp2_with fail;go_ret2;exact uN e9.o (by rw[HR.o,if_neg (fun h=>by rw[d3.o] at h;cases h.2),if_neg (by have:=a0.o;omega)]) a9.o
theorem xZ {A B:Option Addr} {nn c mm d:Nat} {t u:List Nd} {w:World} (ht:aY w A nn c t) (hu:aY w B mm d u) (at_:Int) (hD:a8 t=0->a8 u=0->0<=at_->uX t u (min at_ 1048577)) :
 Calls Tryz.prog 113 #[Y A nn c,Y B mm d,O X at_] w (oP (iZ t u at_) w):=by
 by_cases h:a8 t ≠ 0\/a8 u ≠ 0\/at_<0
 · exact KJ ht hu at_ h
 have h1:a8 t=0:=Classical.not_not.1 fun x=>h (.inl x);have h2:a8 u=0:=Classical.not_not.1 fun x=>h (.inr (.inl x));have h3:0<=at_:=Int.not_lt.1 fun x=>h (.inr (.inr x));have hr:iZ t u at_=rM t u (min at_ 1048577):=by unfold iZ;rw[if_pos h1,if_pos h2,if_neg aA]
 rw[hr];exact FV ht hu at_ h1 h2 h3 _ aA (hD h1 h2 h3)
end
end Go.Proofs.YtjoddliplahgkaaGreat
