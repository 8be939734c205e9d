/- Merged: Subst, Err18. -/
import Derived.Test.YtjllmblbbgojbaaGreatXSubst1
namespace Go.Proofs.YtjllmblbbgojbaaGreat
set_option linter.unusedVariables false
set_option linter.unusedSimpArgs false
open Go.RowKit
open Go.Value renaming int → O, slice → Z, pointer → I
open Go.IntKind renaming i64 → X
open Go.Obj renaming cells → Y
section
open Go.Lib renaming hid->aB
set_option maxHeartbeats 2000000
set_option maxRecDepth 100000
theorem nO:∀(f:Nat) (dl:List Bool) (l:List Nd) (x:Fo×List Nd),j9 f dl l=some x->dD x.1
 | 0,_,_,_,h=>by simp[j9] at h
 | _+1,[],l,x,h=>by simp only[j9,Option.some.injEq] at h;subst h;trivial
 | f+1,d::dr,l,x,h=>by
  simp only[j9,Option.bind_eq_some_iff] at h;obtain⟨p,hp,h⟩:=h;split at h
  · cases h
  · split at h
    · rename_i hok
      simp only[Option.bind_eq_some_iff] at h;obtain⟨q,hq,k,hk,y,hy,h⟩:=h;simp only[Option.some.injEq] at h;subst h;exact⟨hok,nO f _ _ _ hk,nO f _ _ _ hy⟩
    cases h
theorem oT {dl:List Bool} {l:List Nd} {x:Fo×List Nd} (h:pp dl l=some x):dD x.1:=nO _ _ _ _ h
def wZ (x:Int) (pop pb:Int):Nat->Int->Fo->Int
 | _,_,.nil=>0
 | j,a,.cons _ n _ k y=>(if n.op=1/\n.a-(a+aQ pop pb j)=x then 1 else 0)+wZ x n.op n.b 0 (a+aQ pop pb j) k+wZ x pop pb (j+1) a y
def JP (x:Int) (pop pb:Int):Nat->Int->Int->Fo->Int
 | _,_,d,.nil=>d
 | j,a,d,.cons _ n _ k y=>JP x pop pb (j+1) a (JP x n.op n.b 0 (a+aQ pop pb j) (if n.op=1/\n.a-(a+aQ pop pb j)=x then max d (a+aQ pop pb j) else d) k) y
def oD (x:Int) (n:Nd) (k:Fo):Int:=(if n.op=1/\n.a=x then 1 else 0)+wZ x n.op n.b 0 0 k
def GP (x:Int) (n:Nd) (k:Fo):Int:=JP x n.op n.b 0 0 0 k
theorem xD (x:Int) (pop pb:Int) : ∀(j:Nat) (a:Int) (F:Fo),0<=wZ x pop pb j a F/\wZ x pop pb j a F<=a7 F
 | _,_,.nil=>by simp[wZ,a7]
 | j,a,.cons p n at' k y=>by
  have h1:=xD x n.op n.b 0 (a+aQ pop pb j) k;have h2:=xD x pop pb (j+1) a y;simp only[wZ,a7];split<;>omega
theorem L0 (x:Int) (m d:Int) (n:Nd) (a:Int) (h0:0<=m) (h1:m<=1000000000000):(rC (MA x)).nx (false,(m,d)) n a=(false,(m+(if n.op=1/\n.a-a=x then 1 else 0),if n.op=1/\n.a-a=x then max d a else d)):=by
 have hw:wrap64 (m+1)=m+1:=by unfold wrap64;omega
 simp only[rC,MA];by_cases h:n.op=1
 · by_cases h2:n.a-a=x
   · simp[h,h2,hw]
   simp[h,h2]
 simp[h]
theorem LZ (x:Int) (pop pb:Int) : ∀(j:Nat) (a m d:Int) (F:Fo),0<=m->m+a7 F<=1000000000000->(rC (MA x)).S pop pb j a (false,(m,d)) F=(false,(m+wZ x pop pb j a F,JP x pop pb j a d F))
 | _,_,m,d,.nil,_,_=>by simp[cV.S,wZ,JP]
 | j,a,m,d,.cons p n at' k y,h0,h1=>by
  simp only[a7] at h1;have hc:=xD x n.op n.b 0 (a+aQ pop pb j) k;rw[cV.S_cons,cV.S1,L0 x m d n _ h0 aA];rw[LZ x n.op n.b 0 _ _ _ k (by split<;>omega) (by split<;>omega)];rw[LZ x pop pb (j+1) a _ _ y (by split<;>omega) (by split<;>omega)];simp only[wZ,JP,Prod.mk.injEq,true_and,and_true];omega
theorem JV (x:Int) (n:Nd) (k:Fo) (h:a7 k<=10000):(vB (MA x) (0,0) n k).2=(oD x n k,GP x n k):=by
 have hz:(0:Int)<=(if n.op=1/\n.a=x then (1:Int) else 0)/\(if n.op=1/\n.a=x then (1:Int) else 0)<=1:=by split<;>omega
 have e:n.a-0=n.a:=aA;rw[vB,cV.S1,L0 x 0 0 n 0 aA aA,e,LZ x _ _ _ _ _ _ _ aA aA];have e2:(if n.op=1/\n.a=x then max (0:Int) 0 else 0)=0:=by split<;>rfl
 rw[e2];simp only[oD,GP,Int.zero_add]
theorem CI (x:Int) (pop pb:Int) (hp:∀j:Int,0<=aQ pop pb j/\aQ pop pb j<=4) : ∀(j:Nat) (a d:Int) (F:Fo),dD F->0<=a->0<=d->0<=JP x pop pb j a d F/\JP x pop pb j a d F<=max d (a+4*a7 F)
 | _,_,d,.nil,_,ha,hd=>by simp only[JP,a7];omega
 | j,a,d,.cons p n at' k y,hok,ha,hd=>by
  have h0:=hp j;have h1:=CI x n.op n.b (fun j=>dW hok.1 j) 0 (a+aQ pop pb j) (if n.op=1/\n.a-(a+aQ pop pb j)=x then max d (a+aQ pop pb j) else d) k hok.2.1 aA (by split<;>omega);have h2:=CI x pop pb hp (j+1) a (JP x n.op n.b 0 (a+aQ pop pb j) (if n.op=1/\n.a-(a+aQ pop pb j)=x then max d (a+aQ pop pb j) else d) k) y hok.2.2 ha h1.1;have h3:(if n.op=1/\n.a-(a+aQ pop pb j)=x then max d (a+aQ pop pb j) else d)<=max d (a+aQ pop pb j):=by split<;>omega
  simp only[JP,a7];omega
theorem JQ {x:Int} {n:Nd} {k:Fo} (hok:eE n=true) (hk:dD k):0<=GP x n k/\GP x n k<=4*a7 k:=by
 have:=CI x n.op n.b (fun j=>dW hok j) 0 0 0 k hk (Int.le_refl _) (Int.le_refl _);unfold GP;omega
theorem xS (u:Put) (x:Int) (pop pb:Int) : ∀(j:Nat) (a:Int) (F:Fo),((nB u x).E pop pb j a () F).length<=(row F).length*((u.n::(u.a++row u.k)).length+1)
 | _,_,.nil=>by simp[cV.E,row]
 | j,a,.cons p n at' k y=>by
  rw[cV.E_cons,cV.E1];have h1:=xS u x n.op n.b 0 (a+aQ pop pb j) k;have h2:=xS u x pop pb (j+1) a y;have h3:((nB u x).em () n (a+aQ pop pb j)).length<=(u.n::(u.a++row u.k)).length+1:=by
   simp only[nB];split
   · rw[AM];omega
   split<;>simp
  have e:∀s:Unit,s=():=fun _=>rfl;rw[e ((nB u x).nx () n (a+aQ pop pb j)),e ((nB u x).S1 (a+aQ pop pb j) () n k)];simp only[List.length_append,row,List.length_cons] at h1 h2 h3 ⊢;have hq1:1<=u.a.length+(row u.k).length+1+1:=aA;generalize u.a.length+(row u.k).length+1+1=q at *;generalize (row k).length=b at *;generalize (row y).length=c at *;have e1:(p.length+(at'.length+(b+c)+1))*q=p.length*q+(at'.length*q+(b*q+c*q)+q):=by
   rw[Nat.add_mul,Nat.add_mul,Nat.add_mul,Nat.add_mul,Nat.one_mul]
  have e2:p.length<=p.length*q/\at'.length<=at'.length*q:=⟨Nat.le_mul_of_pos_right _ aA,Nat.le_mul_of_pos_right _ aA⟩;rw[e1];omega
def qH (t u:List Nd) (x:Int):List Nd×Int :=
 match pp [false] t,pp [false] u with
 | some (.cons _ n a k _,_),some (.cons _ un ua uk _,_) =>
  if 0<oD x n k/\nW (fun v b=>decide (b<=v)&&decide (1048576<v-b+x+GP x n k)) 0 un uk=true then ([],6)
  else if 4096<(t.length:Int)+oD x n k*((u.length:Int)-1) then ([],9)
  else ((nB ⟨un,ua,uk⟩ x).E1 0 () n a k,0)
 | _,_=>([],0)
def iS (t u:List Nd) (at_:Int):List Nd×Int :=
 if bC t=0 then (if bC u=0 then (if at_<0 then ([],1) else qH t u (min at_ 1048577)) else ([],bC u)) else ([],bC t)
def tK (t u:List Nd) (x:Int):Prop :=
 match pp [false] t,pp [false] u with
 | some (.cons _ n _ k _,_),some (.cons _ un ua uk _,_)=>(nB ⟨un,ua,uk⟩ x).D1 0 () n k
 | _,_=>True
theorem IX {A B:Option Addr} {nn c mm d:Nat} {t u:List Nd} {w:World} (ht:bB w A nn c t) (hu:bB w B mm d u) (at_:Int) (h:bC t ≠ 0\/bC u ≠ 0\/at_<0) :
 Calls Tryz.prog 42 #[Z A nn c,Z B mm d,O X at_] w (nI (iS t u at_) w):=by
 have hb0:=bF w (Y #[Z B mm d] 28) (Y #[O X at_] 3);have hta:=ht.below hb0;by_cases hs:bC t=0;rotate_left
 · have hsb:(bC t != 0)=true:=by simp[hs]
   have hr:iS t u at_=([],bC t):=by unfold iS;rw[if_neg hs]
   have HR:=aB hr;have HB0:=aB hb0;have HTA:=aB hta;clear hr hs h hb0 hta hu ht;go_in;go_wp2_with fail;refine (dM HTA.o).mono ?_;rintro e w2 ⟨rfl,hb2⟩;go_wp2_with fail;go_ret2;exact eQ (HB0.o.trans (hb2.mono HB0.o.size)) HR.o
 have hsb:(bC t != 0)=false:=by simp[hs]
 have hbx:aS ((w.alloc (Y #[Z B mm d] 28)).alloc (Y #[O X at_] 3)) w.heap.size 28 #[Z B mm d]:=(aS.new _ _ _).alloc _;have hbx2:aS ((w.alloc (Y #[Z B mm d] 28)).alloc (Y #[O X at_] 3)) (w.heap.size+1) 3 #[O X at_]:=aS.new' aD;by_cases hs2:bC u=0
 · have hsb2:(bC u != 0)=false:=by simp[hs2]
   have h3:at_<0:=by rcases h with h | h | h<;>first | exact absurd hs h | exact absurd hs2 h | exact h
   have hr:iS t u at_=([],1):=by unfold iS;rw[if_pos hs,if_pos hs2,if_pos h3]
   have HR:=aB hr;have HB0:=aB hb0;have HTA:=aB hta;have HU:=aB hu;have HBX:=aB hbx;have HBX2:=aB hbx2;clear hr hs hs2 h hb0 hta hu ht hbx hbx2;go_in;go_wp2_with fail;refine (dM HTA.o).mono ?_;rintro e w2 ⟨rfl,hb2⟩;have hb3:=HB0.o.trans (hb2.mono HB0.o.size);have c0:=(HBX.o.below hb2 aG).cell;have b1:=HBX2.o.below hb2 aD;have HB1:=aB b1;clear b1;go_wp2_with fail;refine (dM (HU.o.below hb3)).mono ?_;rintro e w3 ⟨rfl,hb4⟩;have c1:=(HB1.o.below hb4 HB1.o.lt).cell;go_wp2_with fail;go_ret2;exact eQ (hb3.trans (hb4.mono hb3.size)) HR.o
 have hsb2:(bC u != 0)=true:=by simp[hs2]
 have hr:iS t u at_=([],bC u):=by unfold iS;rw[if_pos hs,if_neg hs2]
 have HR:=aB hr;have HB0:=aB hb0;have HTA:=aB hta;have HU:=aB hu;have HBX:=aB hbx;clear hr hs hs2 h hb0 hta hu ht hbx hbx2;go_in;go_wp2_with fail;refine (dM HTA.o).mono ?_;rintro e w2 ⟨rfl,hb2⟩;have hb3:=HB0.o.trans (hb2.mono HB0.o.size);have c0:=(HBX.o.below hb2 aG).cell;go_wp2_with fail;refine (dM (HU.o.below hb3)).mono ?_;rintro e w3 ⟨rfl,hb4⟩;go_wp2_with fail;go_ret2;exact eQ (hb3.trans (hb4.mono hb3.size)) HR.o
section
variable {A B : Option Addr} {nn c mm d : Nat} {t u : List Nd} {w w3 : World} {n un : Nd} {ats ua : List Nd} {k uk : Fo} {x : Int}
theorem BG (ht:bB w A nn c t) (hpp:pp [false] t=some (.cons [] n ats k .nil,[])) (hrow:t=n::(ats++row k)) (hfs:a7 k<=4096) (hl:t.length<=4096) (hb:Below w.heap.size w w3) (hu:aS w3 w.heap.size 28 #[Z B mm d]) {z:Value} (hx:aS w3 (w.heap.size+1) 3 #[z]) (y:Int) (hy:y=x) :
 Calls Tryz.prog 67 #[Z A nn c,.func (.func 68) #[] #[I (some ⟨w.heap.size+1,0,none⟩),I (some ⟨w3.heap.size,0,none⟩),I (some ⟨w3.heap.size+1,0,none⟩)]]
  (((w3.setCell ⟨w.heap.size+1,0,none⟩ (O X y)).alloc (Y #[O X 0] 3)).alloc (Y #[O X 0] 3)) fun e w5=>(∃b,e=.returned (.bool b))/\Below w.heap.size w w5/\aS w5 w.heap.size 28 #[Z B mm d]/\aS w5 (w.heap.size+1) 3 #[O X x]/\aS w5 w3.heap.size 3 #[O X (oD x n k)]/\aS w5 (w3.heap.size+1) 3 #[O X (GP x n k)]:=by
 subst hy;have hxl:=hx.lt;have hb4:Below w.heap.size w (((w3.setCell ⟨w.heap.size+1,0,none⟩ (O X y)).alloc (Y #[O X 0] 3)).alloc (Y #[O X 0] 3)) :=
  ((hb.setCell (p:=⟨w.heap.size+1,0,none⟩) aD _).alloc (by simp[World.setCell];omega) _).alloc (by simp[World.setCell];omega) _
 have hx4:aS (((w3.setCell ⟨w.heap.size+1,0,none⟩ (O X y)).alloc (Y #[O X 0] 3)).alloc (Y #[O X 0] 3)) (w.heap.size+1) 3 #[O X y]:=by
  have:=((hx.set_ 0 (O X y)).alloc (Y #[O X 0] 3)).alloc (Y #[O X 0] 3);simpa using this
 have hu4:=((hu.far (p:=⟨w.heap.size+1,0,none⟩) aD (O X y)).alloc (Y #[O X 0] 3)).alloc (Y #[O X 0] 3);have ht4:aS (((w3.setCell ⟨w.heap.size+1,0,none⟩ (O X y)).alloc (Y #[O X 0] 3)).alloc (Y #[O X 0] 3)) w3.heap.size 3 #[O X 0]:=(aS.new' (by simp[World.setCell])).alloc _;have hd4:aS (((w3.setCell ⟨w.heap.size+1,0,none⟩ (O X y)).alloc (Y #[O X 0] 3)).alloc (Y #[O X 0] 3)) (w3.heap.size+1) 3 #[O X 0]:=aS.new' (by simp[World.setCell]);have hlen:=r8 (MA y) 0 (false,(0,0)) n ats k;rw[<-hrow] at hlen;refine (r9 (T:=MA y) (J:=P2 (w.heap.size+1) w3.heap.size (w3.heap.size+1) y) (K:=fun b=>b=w.heap.size+1\/b=w3.heap.size\/b=w3.heap.size+1) (S:=fun b=>b=w3.heap.size\/b=w3.heap.size+1) (R:=(· < w.heap.size)) (t:=(0,0)) (fun b hb'=>⟨?_,?_⟩) (ht.keep fun b hb'=>⟨hb',fun o=>aU (hb4.block b hb') o⟩) (fun b hb' => ?_) (fun b hb'=>.inr hb')
  (fun w w' t hj hk=>⟨hj.1.same (hk _ (.inl rfl)),hj.2.1.same (hk _ (.inr (.inl rfl))),hj.2.2.same (hk _ (.inr (.inr rfl)))⟩) (fun _ _=>by kernel_rfl) (IU (by simp[World.setCell];omega) (by simp[World.setCell]<;>omega) (by simp[World.setCell]<;>omega) aA aA aA) ⟨hx4,ht4,hd4⟩ hpp aA aA).mono ?_
 · have:=hb4.size;omega
 · omega
 · simp[World.setCell];omega
 rintro e w5 ⟨he,hm,hj⟩;rw[JV y n k aA] at hj;refine⟨⟨_,he⟩,hb4.trans (hm.to_below hb4.size (fun b hb'=>by omega) (fun g hg=>by cases hg)),hu4.moved hm aA aD,hj.1,hj.2.1,hj.2.2⟩
theorem OX (hu:bB w B mm d u) (hpp:pp [false] u=some (.cons [] un ua uk .nil,[])) (hrow:u=un::(ua++row uk)) (hfs:a7 uk<=4096) (hl:u.length<=4096) (hx0:0<=x) (hx1:x<=1048577) {dp:Int} (hd0:0<=dp) (hd1:dp<=1000000000000) {pd:Nat} (hb:Below w.heap.size w w3) (hx:aS w3 (w.heap.size+1) 3 #[O X x]) (hd:aS w3 pd 3 #[O X dp]) (hpd:w.heap.size+1<pd) :
 Calls Tryz.prog 67 #[Z B mm d,.func (.func 69) #[] #[I (some ⟨w.heap.size+1,0,none⟩),I (some ⟨pd,0,none⟩)]] w3 (nX (nW (fun v b=>decide (b<=v)&&decide (1048576<v-b+x+dp)) 0 un uk) w3):=by
 have hlen:=r8 (EQ fun v b=>decide (b<=v)&&decide (1048576<v-b+x+dp)) 0 (false,()) un ua uk;rw[<-hrow] at hlen;refine (r9 (T:=EQ fun v b=>decide (b<=v)&&decide (1048576<v-b+x+dp)) (J:=P9 (w.heap.size+1) pd x dp) (K:=fun b=>b=w.heap.size+1\/b=pd) (S:=fun _=>False) (R:=(· < w.heap.size)) (t:=()) (fun b hb'=>⟨by have:=hb.size;omega,fun h=>h⟩) (hu.keep fun b hb'=>⟨hb',fun o=>aU (hb.block b hb') o⟩) (fun b hb' => ?_) (fun b hb'=>hb'.elim)
  (fun w w' t hj hk=>⟨hj.1.same (hk _ (.inl rfl)),hj.2.same (hk _ (.inr rfl))⟩) (fun _ _=>by kernel_rfl) (IV hx.lt hd.lt hx0 hx1 hd0 hd1) ⟨hx,hd⟩ hpp aA aA).mono ?_
 · rcases hb' with h | h
   · subst h;exact hx.lt
   subst h;exact hd.lt
 rintro e w5 ⟨rfl,hm,_⟩;exact⟨fQ (zH _ _ _),hm.to_below (Nat.le_refl _) (fun _ h=>h.elim) (fun g hg=>by cases hg)⟩
theorem BH (ht:bB w A nn c t) (hpp:pp [false] t=some (.cons [] n ats k .nil,[])) (hrow:t=n::(ats++row k)) (hfs:a7 k<=4096) (hl:t.length<=4096) (hu:bB w B mm d u) (hpu:pp [false] u=some (.cons [] un ua uk .nil,[])) (hurow:u=un::(ua++row uk)) (hufs:a7 uk<=4096) (hul:u.length<=4096) (hx0:0<=x) (hx1:x<=1048577) (hD:(nB ⟨un,ua,uk⟩ x).D1 0 () n k)
 (hb:Below w.heap.size w w3) (hub:aS w3 w.heap.size 28 #[Z B mm d]) (hx:aS w3 (w.heap.size+1) 3 #[O X x]) :
 Calls Tryz.prog 70 #[Z A nn c,Z none 0 0,.func (.func 71) #[] #[I (some ⟨w.heap.size+1,0,none⟩),I (some ⟨w.heap.size,0,none⟩)]] w3 fun e w'=>Below w.heap.size w w'/\∃A' m' c',e=.returned (.tuple #[Z A' m' c',O X 0])/\bR w' w.heap.size (Z A' m' c') ((nB ⟨un,ua,uk⟩ x).E1 0 () n ats k):=by
 have hlen:((nB ⟨un,ua,uk⟩ x).E1 0 () n ats k).length<=1000000000000:=by
  have h1:=xS ⟨un,ua,uk⟩ x 0 0 0 0 (.cons [] n ats k .nil);rw[cV.E_cons] at h1;have e0:aQ 0 0 ((0:Nat):Int)=0:=by decide
  rw[e0] at h1;simp only[Int.add_zero,List.nil_append,cV.E,List.append_nil] at h1;have h2:(row (.cons [] n ats k .nil)).length=t.length:=by rw[hrow];simp[row]
  have h3:(un::(ua++row uk)).length=u.length:=by rw[<-hurow]
  rw[h2,h3] at h1;have h4:t.length*(u.length+1)<=4096*4097:=Nat.mul_le_mul hl aA;omega
 have hG:∀(pop pb:Int) (j:Nat) (a:Int) (F:Fo),(nB ⟨un,ua,uk⟩ x).G pop pb j a () F=true:=by
  intro pop pb j a F
  induction F generalizing pop pb j a with
  | nil=>rfl
  | cons p n at' k y ih1 ih2=>rw[cV.G_cons,cV.G1,ih1,ih2];rfl
 have hin:lJ (nB ⟨un,ua,uk⟩ x) 71 #[I (some ⟨w.heap.size+1,0,none⟩),I (some ⟨w.heap.size,0,none⟩)] (O7 (w.heap.size+1) w.heap.size x (· < w.heap.size) B mm d u) (O8 (w.heap.size+1) w.heap.size (· < w.heap.size)) (fun _=>False) w.heap.size 6 1000000000000 (· < w.heap.size) w3 A nn c t (Z none 0 0) () []:=by
  refine⟨hb.size,fun b h=>⟨Nat.lt_of_lt_of_le h hb.size,fun h=>h⟩,fun b h => ?_,fun b h=>h.elim,fun w w' s hj hk=>AJ hj hk,Nat.le_refl _,fun _ _=>by kernel_rfl,IW hx.lt hub.lt (fun b h=>Nat.lt_of_lt_of_le h hb.size) hb.size (Nat.le_refl _) hx0 hx1 hpu (by show 4*a7 uk<=_;omega),ht.keep fun b hb'=>⟨hb',fun o=>aU (hb.block b hb') o⟩,bR.nil _ _,⟨hx,hub,hu.keep fun b hb'=>⟨hb',fun o=>aU (hb.block b hb') o⟩⟩,fun g hg=>by simp[Value.ownBlock] at hg⟩;rcases h with h | h | h
  · subst h;exact hx.lt
  · subst h;exact hub.lt
  exact Nat.lt_of_lt_of_le h hb.size
 refine (tQ hin hpp aA hD (by simpa using hlen)).mono ?_;rintro e w5 ⟨hm,(⟨_,_,v',rfl,hown,_⟩ | ⟨hg,_⟩)⟩
 · obtain⟨A',c',rfl⟩:=hown.slice;exact⟨hb.trans (hm.to_below hb.size (fun _ h=>h.elim) (fun g hg=>by simp[Value.ownBlock] at hg)),_,_,_,rfl,hown⟩
 rw[cV.G1,hG] at hg;cases hg
end
theorem tC {r:List Nd×Int} {l:List Nd} {w w':World} {A:Option Addr} {m c:Nat} (hb:Below w.heap.size w w') (hr:r=(l,0)) (hown:bR w' w.heap.size (Z A m c) l):nI r w (.returned (.tuple #[Z A m c,O X 0])) w':=by
 subst hr;exact⟨hb,_,_,_,rfl,hown⟩
theorem D4 {A B:Option Addr} {nn c mm d:Nat} {t u:List Nd} {w:World} (ht:bB w A nn c t) (hu:bB w B mm d u) (at_:Int) (hs:bC t=0) (hs2:bC u=0) (h0:0<=at_) (x:Int) (hx:(at_<=1048577/\at_=x)\/(1048577<at_/\1048577=x)) (hD:tK t u x) :
 Calls Tryz.prog 42 #[Z A nn c,Z B mm d,O X at_] w (nI (qH t u x) w):=by
 obtain⟨hl,n,ats,k,hpp,hrow,hfs⟩:=fL hs;obtain⟨hul,un,ua,uk,hpu,hurow,hufs⟩:=fL hs2;have hx0:0<=x:=aA;have hx1:x<=1048577:=aA;have hr:qH t u x=if 0<oD x n k/\nW (fun v b=>decide (b<=v)&&decide (1048576<v-b+x+GP x n k)) 0 un uk=true then ([],6)
  else if 4096<(nn:Int)+oD x n k*((mm:Int)-1) then ([],9)
  else ((nB ⟨un,ua,uk⟩ x).E1 0 () n ats k,0):=by
  unfold qH;rw[hpp,hpu,<-ht.len,<-hu.len]
 have hD':(nB ⟨un,ua,uk⟩ x).D1 0 () n k:=by
  unfold tK at hD;rw[hpp,hpu] at hD;exact hD
 have hok:=oT hpp;obtain⟨hok1,hok2,_⟩:=hok;have hdp:=JQ (x:=x) hok1 hok2;have hcn:=xD x n.op n.b 0 0 k;have hcn0:0<=oD x n k/\oD x n k<=4097:=by unfold oD;split<;>omega
 have hmm:1<=mm/\mm<=4096:=by
  have h1:=congrArg List.length hurow;rw[hu.len] at h1;simp only[List.length_cons] at h1;have:=hu.len;omega
 have hnn:nn<=4096:=by have:=ht.len;omega
 obtain⟨hcn1,hcn2⟩:=hcn0;obtain⟨hmm1,hmm2⟩:=hmm;obtain⟨hdp1,hdp2⟩:=hdp;have hpr:0<=oD x n k*((mm:Int)-1)/\oD x n k*((mm:Int)-1)<=4097*4096:=⟨Int.mul_nonneg hcn1 aA,Int.mul_le_mul hcn2 aA aA aA⟩;obtain⟨hpr1,hpr2⟩:=hpr;have hb0:=bF w (Y #[Z B mm d] 28) (Y #[O X at_] 3);have hta:=ht.below hb0;have hsb:(bC t != 0)=false:=by simp[hs]
 have hsb2:(bC u != 0)=false:=by simp[hs2]
 have hat:decide (at_<0)=false:=by simp;omega
 have hbx:aS ((w.alloc (Y #[Z B mm d] 28)).alloc (Y #[O X at_] 3)) w.heap.size 28 #[Z B mm d]:=(aS.new _ _ _).alloc _;have hbx2:aS ((w.alloc (Y #[Z B mm d] 28)).alloc (Y #[O X at_] 3)) (w.heap.size+1) 3 #[O X at_]:=aS.new' aD;have HR:=aB hr;have HB0:=aB hb0;have HTA:=aB hta;have HT:=aB ht;have HU:=aB hu;have HBX:=aB hbx;have HBX2:=aB hbx2;have HPP:=aB hpp;have HPU:=aB hpu;have HROW:=aB hrow;have HUROW:=aB hurow;have HFS:=aB hfs;have HUFS:=aB hufs;have HLT:=aB hl;have HLU:=aB hul;have HD:=aB hD';have hdp3:GP x n k<=1000000000000:=aA;have hwa:IntKind.i64.wrap (oD x n k*((mm:Int)-1))=oD x n k*((mm:Int)-1):=IntWalk.i64_in _ aA;have hwb:IntKind.i64.wrap ((nn:Int)+oD x n k*((mm:Int)-1))=(nn:Int)+oD x n k*((mm:Int)-1):=IntWalk.i64_in _ aA;have HWA:=aB hwa;have HWB:=aB hwb;clear hr hs hs2 hb0 hta hu ht hbx hbx2 hpp hpu hrow hurow hfs hufs hl hul hD hD' hok1 hok2 hcn hwa hwb hdp2;rcases hx with⟨hat1,hxe⟩ | ⟨hat1,hxe⟩;all_goals
  have HXE:=aB hxe;clear hxe;go_in;go_wp2_with fail;refine (dM HTA.o).mono ?_;rintro e w2 ⟨rfl,hb2⟩;have hb3:=HB0.o.trans (hb2.mono HB0.o.size);have b0:=HBX.o.below hb2 aG;have b1:=HBX2.o.below hb2 aD;have c0:=b0.cell;have B0:=aB b0;have B1:=aB b1;clear b0 b1;go_wp2_with fail;refine (dM (HU.o.below hb3)).mono ?_;rintro e w3 ⟨rfl,hb4⟩;have b0:=B0.o.below hb4 B0.o.lt;have b1:=B1.o.below hb4 B1.o.lt;have c1:=b1.cell;have f1:=b1.frozen;have hb5:=hb3.trans (hb4.mono hb3.size);have hl1:w.heap.size+1<w3.heap.size:=b1.lt;have B0':=aB b0;have B1':=aB b1;have HB5:=aB hb5;clear b0 b1 hb5 hb4 hb3 hb2 c0;go_wp2_with fail;first
   | refine (BG HT.o HPP.o HROW.o HFS.o HLT.o HB5.o B0'.o B1'.o at_ HXE.o).mono ?_
   | refine (BG HT.o HPP.o HROW.o HFS.o HLT.o HB5.o B0'.o B1'.o 1048577 HXE.o).mono ?_
  rintro e w5 ⟨⟨b,rfl⟩,hb6,u5,x5,t5,d5⟩;have ct:=t5.cell;have cu:=u5.cell;have HB6:=aB hb6;have U5:=aB u5;have X5:=aB x5;have D5:=aB d5;have T5:=aB t5;clear hb6 u5 x5 t5 d5 c1 f1;by_cases hm:0<oD x n k;rotate_left
  · have hmb:decide (0<oD x n k)=false:=by simpa using hm
    have HM:=aB hm;clear hm;have hwa:=HWA.o;have hwb:=HWB.o;by_cases hbig:4096<(nn:Int)+oD x n k*((mm:Int)-1)
    · have HBIG:=aB hbig;go_wp2_with fail;go_ret2;exact eQ HB6.o (by rw[HR.o,if_neg (fun h=>by have h1:=HM.o;have h2:=h.1;omega),if_pos HBIG.o])
    have hbigb:decide (4096<(nn:Int)+oD x n k*((mm:Int)-1))=false:=by simpa using hbig
    have HBIG:=aB hbig;clear hbig;go_wp2_with fail;refine (BH HT.o HPP.o HROW.o HFS.o HLT.o HU.o HPU.o HUROW.o HUFS.o HLU.o hx0 hx1 HD.o HB6.o U5.o X5.o).mono ?_;rintro e w7 ⟨hb9,A',m',c',rfl,hown⟩;have HOWN:=aB hown;have HB9:=aB hb9;clear hown hb9;go_wp2_with fail;go_ret2;exact tC HB9.o (by rw[HR.o,if_neg (fun h=>by have h1:=HM.o;have h2:=h.1;omega),if_neg (by have:=HBIG.o;omega)]) HOWN.o
  go_wp2_with fail;refine (OX HU.o HPU.o HUROW.o HUFS.o HLU.o hx0 hx1 hdp1 hdp3 HB6.o X5.o D5.o aA).mono ?_;rintro e w6 ⟨rfl,hb7⟩;have ct6:=(T5.o.below hb7 T5.o.lt).cell;have cu6:=(U5.o.below hb7 U5.o.lt).cell;have hb8:=HB6.o.trans (hb7.mono HB6.o.size);have U6:=aB (U5.o.below hb7 U5.o.lt);have X6:=aB (X5.o.below hb7 X5.o.lt);have HB8:=aB hb8;clear ct cu hb7 hb8;by_cases hex:nW (fun v b=>decide (b<=v)&&decide (1048576<v-b+x+GP x n k)) 0 un uk=true
  · have HEX:=aB hex;have HM:=aB hm;go_wp2_with fail;go_ret2;exact eQ HB8.o (by rw[HR.o,if_pos ⟨HM.o,HEX.o⟩])
  have hexb:nW (fun v b=>decide (b<=v)&&decide (1048576<v-b+x+GP x n k)) 0 un uk=false:=by simpa using hex
  have HEX:=aB hexb;rw[hexb];clear hex hexb;have hwa:=HWA.o;have hwb:=HWB.o;by_cases hbig:4096<(nn:Int)+oD x n k*((mm:Int)-1)
  · have HBIG:=aB hbig;go_wp2_with fail;go_ret2;exact eQ HB8.o (by rw[HR.o,if_neg (fun h=>by rw[HEX.o] at h;cases h.2),if_pos HBIG.o])
  have hbigb:decide (4096<(nn:Int)+oD x n k*((mm:Int)-1))=false:=by simpa using hbig
  have HBIG:=aB hbig;clear hbig;go_wp2_with fail;refine (BH HT.o HPP.o HROW.o HFS.o HLT.o HU.o HPU.o HUROW.o HUFS.o HLU.o hx0 hx1 HD.o HB8.o U6.o X6.o).mono ?_;rintro e w7 ⟨hb9,A',m',c',rfl,hown⟩;have HOWN:=aB hown;have HB9:=aB hb9;clear hown hb9;go_wp2_with fail;go_ret2;exact tC HB9.o (by rw[HR.o,if_neg (fun h=>by rw[HEX.o] at h;cases h.2),if_neg (by have:=HBIG.o;omega)]) HOWN.o
theorem wG {A B:Option Addr} {nn c mm d:Nat} {t u:List Nd} {w:World} (ht:bB w A nn c t) (hu:bB w B mm d u) (at_:Int) (hD:bC t=0->bC u=0->0<=at_->tK t u (min at_ 1048577)) :
 Calls Tryz.prog 42 #[Z A nn c,Z B mm d,O X at_] w (nI (iS t u at_) w):=by
 by_cases h:bC t ≠ 0\/bC u ≠ 0\/at_<0
 · exact IX ht hu at_ h
 have h1:bC t=0:=Classical.not_not.1 fun x=>h (.inl x);have h2:bC u=0:=Classical.not_not.1 fun x=>h (.inr (.inl x));have h3:0<=at_:=Int.not_lt.1 fun x=>h (.inr (.inr x));have hr:iS t u at_=qH t u (min at_ 1048577):=by unfold iS;rw[if_pos h1,if_pos h2,if_neg aA]
 rw[hr];exact D4 ht hu at_ h1 h2 h3 _ aA (hD h1 h2 h3)
end

end Go.Proofs.YtjllmblbbgojbaaGreat
