/- Merged: Subst, Err18. -/
import Derived.Test.YtjllmblbbgojbaaGreatWSubst1
namespace Go.Proofs.YtjllmblbbgojbaaGreat
open Go.Value renaming int → O, slice → Z, pointer → I
open Go.IntKind renaming i64 → X
open Go.Obj renaming cells → Y
section
open Go.Lib (hid)
set_option maxHeartbeats 2000000
set_option maxRecDepth 100000
open Go.RowKit
theorem mV:∀ (f:Nat) (dl:List Bool) (l:List Nd) (x:Fo×List Nd),jH f dl l=some x->cL x.1
 | 0,_,_,_,h=>by simp [jH] at h
 | _+1,[],l,x,h=>by simp only [jH,Option.some.injEq] at h;subst h;trivial
 | f+1,d::dr,l,x,h=>by
  simp only [jH,Option.bind_eq_some_iff] at h;obtain ⟨p,hp,h⟩:=h;split at h
  · cases h
  · split at h
    · rename_i hok
      simp only [Option.bind_eq_some_iff] at h;obtain ⟨q,hq,k,hk,y,hy,h⟩:=h;simp only [Option.some.injEq] at h;subst h;exact ⟨hok,mV f _ _ _ hk,mV f _ _ _ hy⟩
    cases h
theorem nU {dl:List Bool} {l:List Nd} {x:Fo×List Nd} (h:pp dl l=some x):cL x.1:=mV _ _ _ _ h
def s8 (x:Int) (pop pb:Int):Nat->Int->Fo->Int
 | _,_,.nil=>0
 | j,a,.cons _ n _ k y=>(if n.op=1/\n.a-(a+aC pop pb j)=x then 1 else 0)+s8 x n.op n.b 0 (a+aC pop pb j) k+s8 x pop pb (j+1) a y
def G5 (x:Int) (pop pb:Int):Nat->Int->Int->Fo->Int
 | _,_,d,.nil=>d
 | j,a,d,.cons _ n _ k y=>G5 x pop pb (j+1) a (G5 x n.op n.b 0 (a+aC pop pb j) (if n.op=1/\n.a-(a+aC pop pb j)=x then max d (a+aC pop pb j) else d) k) y
def mN (x:Int) (n:Nd) (k:Fo):Int:=(if n.op=1/\n.a=x then 1 else 0)+s8 x n.op n.b 0 0 k
def EX (x:Int) (n:Nd) (k:Fo):Int:=G5 x n.op n.b 0 0 0 k
theorem vO (x:Int) (pop pb:Int) : ∀ (j:Nat) (a:Int) (F:Fo),0<=s8 x pop pb j a F/\s8 x pop pb j a F<=aL F
 | _,_,.nil=>by simp [s8,aL]
 | j,a,.cons p n at' k y=>by
  have h1:=vO x n.op n.b 0 (a+aC pop pb j) k;have h2:=vO x pop pb (j+1) a y;simp only [s8,aL];split<;>omega
theorem JU (x:Int) (m d:Int) (n:Nd) (a:Int) (h0:0<=m) (h1:m<=1000000000000):(qI (J3 x)).nx (false,(m,d)) n a=(false,(m+(if n.op=1/\n.a-a=x then 1 else 0),if n.op=1/\n.a-a=x then max d a else d)):=by
 have hw:wrap64 (m+1)=m+1:=by unfold wrap64;omega
 simp only [qI,J3];by_cases h:n.op=1
 · by_cases h2:n.a-a=x
   · simp [h,h2,hw]
   simp [h,h2]
 simp [h]
theorem JS (x:Int) (pop pb:Int) : ∀ (j:Nat) (a m d:Int) (F:Fo),0<=m->m+aL F<=1000000000000->(qI (J3 x)).S pop pb j a (false,(m,d)) F=(false,(m+s8 x pop pb j a F,G5 x pop pb j a d F))
 | _,_,m,d,.nil,_,_=>by simp [bV.S,s8,G5]
 | j,a,m,d,.cons p n at' k y,h0,h1=>by
  simp only [aL] at h1;have hc:=vO x n.op n.b 0 (a+aC pop pb j) k;rw [bV.S_cons,bV.S1,JU x m d n _ h0 aA];rw [JS x n.op n.b 0 _ _ _ k (by split<;>omega) (by split<;>omega)];rw [JS x pop pb (j+1) a _ _ y (by split<;>omega) (by split<;>omega)];simp only [s8,G5,Prod.mk.injEq,true_and,and_true];omega
theorem HY (x:Int) (n:Nd) (k:Fo) (h:aL k<=10000):(tU (J3 x) (0,0) n k).2=(mN x n k,EX x n k):=by
 have hz:(0:Int)<=(if n.op=1/\n.a=x then (1:Int) else 0)/\(if n.op=1/\n.a=x then (1:Int) else 0)<=1:=by split<;>omega
 have e:n.a-0=n.a:=aA;rw [tU,bV.S1,JU x 0 0 n 0 aA aA,e,JS x _ _ _ _ _ _ _ aA aA];have e2:(if n.op=1/\n.a=x then max (0:Int) 0 else 0)=0:=by split<;>rfl
 rw [e2];simp only [mN,EX,Int.zero_add]
theorem AY (x:Int) (pop pb:Int) (hp:∀ j:Int,0<=aC pop pb j/\aC pop pb j<=4) : ∀ (j:Nat) (a d:Int) (F:Fo),cL F->0<=a->0<=d->0<=G5 x pop pb j a d F/\G5 x pop pb j a d F<=max d (a+4*aL F)
 | _,_,d,.nil,_,ha,hd=>by simp only [G5,aL];omega
 | j,a,d,.cons p n at' k y,hok,ha,hd=>by
  have h0:=hp j;have h1:=AY x n.op n.b (fun j=>cV hok.1 j) 0 (a+aC pop pb j) (if n.op=1/\n.a-(a+aC pop pb j)=x then max d (a+aC pop pb j) else d) k hok.2.1 aA (by split<;>omega);have h2:=AY x pop pb hp (j+1) a (G5 x n.op n.b 0 (a+aC pop pb j) (if n.op=1/\n.a-(a+aC pop pb j)=x then max d (a+aC pop pb j) else d) k) y hok.2.2 ha h1.1;have h3:(if n.op=1/\n.a-(a+aC pop pb j)=x then max d (a+aC pop pb j) else d)<=max d (a+aC pop pb j):=by split<;>omega
  simp only [G5,aL];omega
theorem G6 {x:Int} {n:Nd} {k:Fo} (hok:dG n=true) (hk:cL k):0<=EX x n k/\EX x n k<=4*aL k:=by
 have:=AY x n.op n.b (fun j=>cV hok j) 0 0 0 k hk (Int.le_refl _) (Int.le_refl _);unfold EX;omega
theorem wC (u:Put) (x:Int) (pop pb:Int) : ∀ (j:Nat) (a:Int) (F:Fo),((i8 u x).E pop pb j a () F).length<=(row F).length*((u.n::(u.a++row u.k)).length+1)
 | _,_,.nil=>by simp [bV.E,row]
 | j,a,.cons p n at' k y=>by
  rw [bV.E_cons,bV.E1];have h1:=wC u x n.op n.b 0 (a+aC pop pb j) k;have h2:=wC u x pop pb (j+1) a y;have h3:((i8 u x).em () n (a+aC pop pb j)).length<=(u.n::(u.a++row u.k)).length+1:=by
   simp only [i8];split
   · rw [rT];omega
   split<;>simp
  have e:∀ s:Unit,s=():=fun _=>rfl;rw [e ((i8 u x).nx () n (a+aC pop pb j)),e ((i8 u x).S1 (a+aC pop pb j) () n k)];simp only [List.length_append,row,List.length_cons] at h1 h2 h3 ⊢;have hq1:1<=u.a.length+(row u.k).length+1+1:=aA;generalize u.a.length+(row u.k).length+1+1=q at *;generalize (row k).length=b at *;generalize (row y).length=c at *;have e1:(p.length+(at'.length+(b+c)+1))*q=p.length*q+(at'.length*q+(b*q+c*q)+q):=by
   rw [Nat.add_mul,Nat.add_mul,Nat.add_mul,Nat.add_mul,Nat.one_mul]
  have e2:p.length<=p.length*q/\at'.length<=at'.length*q:=⟨Nat.le_mul_of_pos_right _ aA,Nat.le_mul_of_pos_right _ aA⟩;rw [e1];omega
def m4 (t u:List Nd) (x:Int):List Nd×Int :=
 match pp [false] t,pp [false] u with
 | some (.cons _ n a k _,_),some (.cons _ un ua uk _,_) =>
  if 0<mN x n k/\mB (fun v b=>decide (b<=v)&&decide (1048576<v-b+x+EX x n k)) 0 un uk=true then ([],6)
  else if 4096<(t.length:Int)+mN x n k*((u.length:Int)-1) then ([],9)
  else ((i8 ⟨un,ua,uk⟩ x).E1 0 () n a k,0)
 | _,_=>([],0)
def fY (t u:List Nd) (at_:Int):List Nd×Int :=
 if aN t=0 then (if aN u=0 then (if at_<0 then ([],1) else m4 t u (min at_ 1048577)) else ([],aN u)) else ([],aN t)
def mZ (t u:List Nd) (x:Int):Prop :=
 match pp [false] t,pp [false] u with
 | some (.cons _ n _ k _,_),some (.cons _ un ua uk _,_)=>(i8 ⟨un,ua,uk⟩ x).D1 0 () n k
 | _,_=>True
theorem GE {A B:Option Addr} {nn c mm d:Nat} {t u:List Nd} {w:World} (ht:aP w A nn c t) (hu:aP w B mm d u) (at_:Int) (h:aN t ≠ 0\/aN u ≠ 0\/at_<0) :
 Calls Tryz.prog 42 #[Z A nn c,Z B mm d,O X at_] w (mL (fY t u at_) w):=by
 have hb0:=aS w (Y #[Z B mm d] 28) (Y #[O X at_] 3);have hta:=ht.below hb0;by_cases hs:aN t=0;rotate_left
 · have hsb:(aN t != 0)=true:=by simp [hs]
   have hr:fY t u at_=([],aN t):=by unfold fY;rw [if_neg hs]
   have HR:=hid hr;have HB0:=hid hb0;have HTA:=hid hta;clear hr hs h hb0 hta hu ht;go_in;go_wp2_with fail
   refine (cS HTA.o).mono ?_;rintro e w2 ⟨rfl,hb2⟩;go_wp2_with fail
   go_ret2;exact dW (HB0.o.trans (hb2.mono HB0.o.size)) HR.o
 have hsb:(aN t != 0)=false:=by simp [hs]
 have hbx:aD ((w.alloc (Y #[Z B mm d] 28)).alloc (Y #[O X at_] 3)) w.heap.size 28 #[Z B mm d]:=(aD.new _ _ _).alloc _;have hbx2:aD ((w.alloc (Y #[Z B mm d] 28)).alloc (Y #[O X at_] 3)) (w.heap.size+1) 3 #[O X at_]:=aD.new' (by simp);by_cases hs2:aN u=0
 · have hsb2:(aN u != 0)=false:=by simp [hs2]
   have h3:at_<0:=by rcases h with h | h | h<;>first | exact absurd hs h | exact absurd hs2 h | exact h
   have hr:fY t u at_=([],1):=by unfold fY;rw [if_pos hs,if_pos hs2,if_pos h3]
   have HR:=hid hr;have HB0:=hid hb0;have HTA:=hid hta;have HU:=hid hu;have HBX:=hid hbx;have HBX2:=hid hbx2;clear hr hs hs2 h hb0 hta hu ht hbx hbx2;go_in;go_wp2_with fail
   refine (cS HTA.o).mono ?_;rintro e w2 ⟨rfl,hb2⟩;have hb3:=HB0.o.trans (hb2.mono HB0.o.size);have c0:=(HBX.o.below hb2 (by simp;omega)).cell;have b1:=HBX2.o.below hb2 (by simp);have HB1:=hid b1;clear b1;go_wp2_with fail
   refine (cS (HU.o.below hb3)).mono ?_;rintro e w3 ⟨rfl,hb4⟩;have c1:=(HB1.o.below hb4 HB1.o.lt).cell;go_wp2_with fail
   go_ret2;exact dW (hb3.trans (hb4.mono hb3.size)) HR.o
 have hsb2:(aN u != 0)=true:=by simp [hs2]
 have hr:fY t u at_=([],aN u):=by unfold fY;rw [if_pos hs,if_neg hs2]
 have HR:=hid hr;have HB0:=hid hb0;have HTA:=hid hta;have HU:=hid hu;have HBX:=hid hbx;clear hr hs hs2 h hb0 hta hu ht hbx hbx2;go_in;go_wp2_with fail
 refine (cS HTA.o).mono ?_;rintro e w2 ⟨rfl,hb2⟩;have hb3:=HB0.o.trans (hb2.mono HB0.o.size);have c0:=(HBX.o.below hb2 (by simp;omega)).cell;go_wp2_with fail
 refine (cS (HU.o.below hb3)).mono ?_;rintro e w3 ⟨rfl,hb4⟩;go_wp2_with fail
 go_ret2;exact dW (hb3.trans (hb4.mono hb3.size)) HR.o
section
variable {A B : Option Addr} {nn c mm d : Nat} {t u : List Nd} {w w3 : World} {n un : Nd} {ats ua : List Nd} {k uk : Fo} {x : Int}
theorem zX (ht:aP w A nn c t) (hpp:pp [false] t=some (.cons [] n ats k .nil,[])) (hrow:t=n::(ats++row k)) (hfs:aL k<=4096) (hl:t.length<=4096) (hb:Below w.heap.size w w3) (hu:aD w3 w.heap.size 28 #[Z B mm d]) {z:Value} (hx:aD w3 (w.heap.size+1) 3 #[z]) (y:Int) (hy:y=x) :
 Calls Tryz.prog 67 #[Z A nn c,.func (.func 68) #[] #[I (some ⟨w.heap.size+1,0,none⟩),I (some ⟨w3.heap.size,0,none⟩),I (some ⟨w3.heap.size+1,0,none⟩)]]
  (((w3.setCell ⟨w.heap.size+1,0,none⟩ (O X y)).alloc (Y #[O X 0] 3)).alloc (Y #[O X 0] 3)) fun e w5=>(∃ b,e=.returned (.bool b))/\Below w.heap.size w w5/\aD w5 w.heap.size 28 #[Z B mm d]/\aD w5 (w.heap.size+1) 3 #[O X x]/\aD w5 w3.heap.size 3 #[O X (mN x n k)]/\aD w5 (w3.heap.size+1) 3 #[O X (EX x n k)]:=by
 subst hy;have hxl:=hx.lt;have hsz:w.heap.size+1<w3.heap.size:=hxl;have hb4:Below w.heap.size w (((w3.setCell ⟨w.heap.size+1,0,none⟩ (O X y)).alloc (Y #[O X 0] 3)).alloc (Y #[O X 0] 3)) :=
  ((hb.setCell (p:=⟨w.heap.size+1,0,none⟩) (by simp) _).alloc (by simp [World.setCell];omega) _).alloc (by simp [World.setCell];omega) _
 have hx4:aD (((w3.setCell ⟨w.heap.size+1,0,none⟩ (O X y)).alloc (Y #[O X 0] 3)).alloc (Y #[O X 0] 3)) (w.heap.size+1) 3 #[O X y]:=by
  have:=((hx.set_ 0 (O X y)).alloc (Y #[O X 0] 3)).alloc (Y #[O X 0] 3);simpa using this
 have hu4:=((hu.far (p:=⟨w.heap.size+1,0,none⟩) (by simp) (O X y)).alloc (Y #[O X 0] 3)).alloc (Y #[O X 0] 3);have ht4:aD (((w3.setCell ⟨w.heap.size+1,0,none⟩ (O X y)).alloc (Y #[O X 0] 3)).alloc (Y #[O X 0] 3)) w3.heap.size 3 #[O X 0]:=(aD.new' (by simp [World.setCell])).alloc _;have hd4:aD (((w3.setCell ⟨w.heap.size+1,0,none⟩ (O X y)).alloc (Y #[O X 0] 3)).alloc (Y #[O X 0] 3)) (w3.heap.size+1) 3 #[O X 0]:=aD.new' (by simp [World.setCell]);have hlen:=rA (J3 y) 0 (false,(0,0)) n ats k;rw [<-hrow] at hlen;refine (rB (T:=J3 y) (J:=NV (w.heap.size+1) w3.heap.size (w3.heap.size+1) y) (K:=fun b=>b=w.heap.size+1\/b=w3.heap.size\/b=w3.heap.size+1) (S:=fun b=>b=w3.heap.size\/b=w3.heap.size+1) (R:=(· < w.heap.size)) (t:=(0,0)) (fun b hb'=>⟨?_,?_⟩) (ht.keep fun b hb'=>⟨hb',fun o=>aH (hb4.block b hb') o⟩) (fun b hb' => ?_) (fun b hb'=>.inr hb')
  (fun w w' t hj hk=>⟨hj.1.same (hk _ (.inl rfl)),hj.2.1.same (hk _ (.inr (.inl rfl))),hj.2.2.same (hk _ (.inr (.inr rfl)))⟩) (fun _ _=>by kernel_rfl) (GB (by simp [World.setCell];omega) (by simp [World.setCell]<;>omega) (by simp [World.setCell]<;>omega) aA aA aA) ⟨hx4,ht4,hd4⟩ hpp aA aA).mono ?_
 · have:=hb4.size;omega
 · omega
 · simp [World.setCell];omega
 rintro e w5 ⟨he,hm,hj⟩;rw [HY y n k aA] at hj;refine ⟨⟨_,he⟩,hb4.trans (hm.to_below hb4.size (fun b hb'=>by omega) (fun g hg=>by cases hg)),hu4.moved hm aA (by simp),hj.1,hj.2.1,hj.2.2⟩
theorem MX (hu:aP w B mm d u) (hpp:pp [false] u=some (.cons [] un ua uk .nil,[])) (hrow:u=un::(ua++row uk)) (hfs:aL uk<=4096) (hl:u.length<=4096) (hx0:0<=x) (hx1:x<=1048577) {dp:Int} (hd0:0<=dp) (hd1:dp<=1000000000000) {pd:Nat} (hb:Below w.heap.size w w3) (hx:aD w3 (w.heap.size+1) 3 #[O X x]) (hd:aD w3 pd 3 #[O X dp]) (hpd:w.heap.size+1<pd) :
 Calls Tryz.prog 67 #[Z B mm d,.func (.func 69) #[] #[I (some ⟨w.heap.size+1,0,none⟩),I (some ⟨pd,0,none⟩)]] w3 (nB (mB (fun v b=>decide (b<=v)&&decide (1048576<v-b+x+dp)) 0 un uk) w3):=by
 have hlen:=rA (DC fun v b=>decide (b<=v)&&decide (1048576<v-b+x+dp)) 0 (false,()) un ua uk;rw [<-hrow] at hlen;refine (rB (T:=DC fun v b=>decide (b<=v)&&decide (1048576<v-b+x+dp)) (J:=N1 (w.heap.size+1) pd x dp) (K:=fun b=>b=w.heap.size+1\/b=pd) (S:=fun _=>False) (R:=(· < w.heap.size)) (t:=()) (fun b hb'=>⟨by have:=hb.size;omega,fun h=>h⟩) (hu.keep fun b hb'=>⟨hb',fun o=>aH (hb.block b hb') o⟩) (fun b hb' => ?_) (fun b hb'=>hb'.elim)
  (fun w w' t hj hk=>⟨hj.1.same (hk _ (.inl rfl)),hj.2.same (hk _ (.inr rfl))⟩) (fun _ _=>by kernel_rfl) (GC hx.lt hd.lt hx0 hx1 hd0 hd1) ⟨hx,hd⟩ hpp aA aA).mono ?_
 · rcases hb' with h | h
   · subst h;exact hx.lt
   subst h;exact hd.lt
 rintro e w5 ⟨rfl,hm,_⟩;exact ⟨eS (xX _ _ _),hm.to_below (Nat.le_refl _) (fun _ h=>h.elim) (fun g hg=>by cases hg)⟩
theorem zY (ht:aP w A nn c t) (hpp:pp [false] t=some (.cons [] n ats k .nil,[])) (hrow:t=n::(ats++row k)) (hfs:aL k<=4096) (hl:t.length<=4096) (hu:aP w B mm d u) (hpu:pp [false] u=some (.cons [] un ua uk .nil,[])) (hurow:u=un::(ua++row uk)) (hufs:aL uk<=4096) (hul:u.length<=4096) (hx0:0<=x) (hx1:x<=1048577) (hD:(i8 ⟨un,ua,uk⟩ x).D1 0 () n k)
 (hb:Below w.heap.size w w3) (hub:aD w3 w.heap.size 28 #[Z B mm d]) (hx:aD w3 (w.heap.size+1) 3 #[O X x]) :
 Calls Tryz.prog 70 #[Z A nn c,Z none 0 0,.func (.func 71) #[] #[I (some ⟨w.heap.size+1,0,none⟩),I (some ⟨w.heap.size,0,none⟩)]] w3 fun e w'=>Below w.heap.size w w'/\∃ A' m' c',e=.returned (.tuple #[Z A' m' c',O X 0])/\bE w' w.heap.size (Z A' m' c') ((i8 ⟨un,ua,uk⟩ x).E1 0 () n ats k):=by
 have hlen:((i8 ⟨un,ua,uk⟩ x).E1 0 () n ats k).length<=1000000000000:=by
  have h1:=wC ⟨un,ua,uk⟩ x 0 0 0 0 (.cons [] n ats k .nil);rw [bV.E_cons] at h1;have e0:aC 0 0 ((0:Nat):Int)=0:=by decide
  rw [e0] at h1;simp only [Int.add_zero,List.nil_append,bV.E,List.append_nil] at h1;have h2:(row (.cons [] n ats k .nil)).length=t.length:=by rw [hrow];simp [row]
  have h3:(un::(ua++row uk)).length=u.length:=by rw [<-hurow]
  rw [h2,h3] at h1;have h4:t.length*(u.length+1)<=4096*4097:=Nat.mul_le_mul hl aA;omega
 have hG:∀ (pop pb:Int) (j:Nat) (a:Int) (F:Fo),(i8 ⟨un,ua,uk⟩ x).G pop pb j a () F=true:=by
  intro pop pb j a F
  induction F generalizing pop pb j a with
  | nil=>rfl
  | cons p n at' k y ih1 ih2=>rw [bV.G_cons,bV.G1,ih1,ih2];rfl
 have hin:kL (i8 ⟨un,ua,uk⟩ x) 71 #[I (some ⟨w.heap.size+1,0,none⟩),I (some ⟨w.heap.size,0,none⟩)] (NA (w.heap.size+1) w.heap.size x (· < w.heap.size) B mm d u) (NB (w.heap.size+1) w.heap.size (· < w.heap.size)) (fun _=>False) w.heap.size 6 1000000000000 (· < w.heap.size) w3 A nn c t (Z none 0 0) () []:=by
  refine ⟨hb.size,fun b h=>⟨Nat.lt_of_lt_of_le h hb.size,fun h=>h⟩,fun b h => ?_,fun b h=>h.elim,fun w w' s hj hk=>yZ hj hk,Nat.le_refl _,fun _ _=>by kernel_rfl,GD hx.lt hub.lt (fun b h=>Nat.lt_of_lt_of_le h hb.size) hb.size (Nat.le_refl _) hx0 hx1 hpu (by show 4*aL uk<=_;omega),ht.keep fun b hb'=>⟨hb',fun o=>aH (hb.block b hb') o⟩,bE.nil _ _,⟨hx,hub,hu.keep fun b hb'=>⟨hb',fun o=>aH (hb.block b hb') o⟩⟩,fun g hg=>by simp [Value.ownBlock] at hg⟩;rcases h with h | h | h
  · subst h;exact hx.lt
  · subst h;exact hub.lt
  exact Nat.lt_of_lt_of_le h hb.size
 refine (sT hin hpp aA hD (by simpa using hlen)).mono ?_;rintro e w5 ⟨hm,(⟨_,_,v',rfl,hown,_⟩ | ⟨hg,_⟩)⟩
 · obtain ⟨A',c',rfl⟩:=hown.slice;exact ⟨hb.trans (hm.to_below hb.size (fun _ h=>h.elim) (fun g hg=>by simp [Value.ownBlock] at hg)),_,_,_,rfl,hown⟩
 rw [bV.G1,hG] at hg;cases hg
end
theorem sG {r:List Nd×Int} {l:List Nd} {w w':World} {A:Option Addr} {m c:Nat} (hb:Below w.heap.size w w') (hr:r=(l,0)) (hown:bE w' w.heap.size (Z A m c) l):mL r w (.returned (.tuple #[Z A m c,O X 0])) w':=by
 subst hr;exact ⟨hb,_,_,_,rfl,hown⟩
theorem CS {A B:Option Addr} {nn c mm d:Nat} {t u:List Nd} {w:World} (ht:aP w A nn c t) (hu:aP w B mm d u) (at_:Int) (hs:aN t=0) (hs2:aN u=0) (h0:0<=at_) (x:Int) (hx:(at_<=1048577/\at_=x)\/(1048577<at_/\1048577=x)) (hD:mZ t u x) :
 Calls Tryz.prog 42 #[Z A nn c,Z B mm d,O X at_] w (mL (m4 t u x) w):=by
 have hmf:∀ (fn:Fn) (first cap:Array Value) (w:World),(Instr.makeFunc fn first cap).run Tryz.prog w=.ok (.func fn first cap) w:=fun _ _ _ _=>rfl;obtain ⟨hl,n,ats,k,hpp,hrow,hfs⟩:=dQ hs;obtain ⟨hul,un,ua,uk,hpu,hurow,hufs⟩:=dQ hs2;have hx0:0<=x:=aA;have hx1:x<=1048577:=aA;have hr:m4 t u x=if 0<mN x n k/\mB (fun v b=>decide (b<=v)&&decide (1048576<v-b+x+EX x n k)) 0 un uk=true then ([],6)
  else if 4096<(nn:Int)+mN x n k*((mm:Int)-1) then ([],9)
  else ((i8 ⟨un,ua,uk⟩ x).E1 0 () n ats k,0):=by
  unfold m4;rw [hpp,hpu,<-ht.len,<-hu.len]
 have hD':(i8 ⟨un,ua,uk⟩ x).D1 0 () n k:=by
  unfold mZ at hD;rw [hpp,hpu] at hD;exact hD
 have hok:=nU hpp;obtain ⟨hok1,hok2,_⟩:=hok;have hdp:=G6 (x:=x) hok1 hok2;have hcn:=vO x n.op n.b 0 0 k;have hcn0:0<=mN x n k/\mN x n k<=4097:=by unfold mN;split<;>omega
 have hmm:1<=mm/\mm<=4096:=by
  have h1:=congrArg List.length hurow;rw [hu.len] at h1;simp only [List.length_cons] at h1;have:=hu.len;omega
 have hnn:nn<=4096:=by have:=ht.len;omega
 obtain ⟨hcn1,hcn2⟩:=hcn0;obtain ⟨hmm1,hmm2⟩:=hmm;obtain ⟨hdp1,hdp2⟩:=hdp;have hpr:0<=mN x n k*((mm:Int)-1)/\mN x n k*((mm:Int)-1)<=4097*4096:=⟨Int.mul_nonneg hcn1 aA,Int.mul_le_mul hcn2 aA aA aA⟩;obtain ⟨hpr1,hpr2⟩:=hpr;have hb0:=aS w (Y #[Z B mm d] 28) (Y #[O X at_] 3);have hta:=ht.below hb0;have hsb:(aN t != 0)=false:=by simp [hs]
 have hsb2:(aN u != 0)=false:=by simp [hs2]
 have hat:decide (at_<0)=false:=by simp;omega
 have hbx:aD ((w.alloc (Y #[Z B mm d] 28)).alloc (Y #[O X at_] 3)) w.heap.size 28 #[Z B mm d]:=(aD.new _ _ _).alloc _;have hbx2:aD ((w.alloc (Y #[Z B mm d] 28)).alloc (Y #[O X at_] 3)) (w.heap.size+1) 3 #[O X at_]:=aD.new' (by simp);have HR:=hid hr;have HB0:=hid hb0;have HTA:=hid hta;have HT:=hid ht;have HU:=hid hu;have HBX:=hid hbx;have HBX2:=hid hbx2;have HPP:=hid hpp;have HPU:=hid hpu;have HROW:=hid hrow;have HUROW:=hid hurow;have HFS:=hid hfs;have HUFS:=hid hufs;have HLT:=hid hl;have HLU:=hid hul;have HD:=hid hD';have hdp3:EX x n k<=1000000000000:=aA;have hwa:IntKind.i64.wrap (mN x n k*((mm:Int)-1))=mN x n k*((mm:Int)-1):=IntWalk.i64_in _ aA;have hwb:IntKind.i64.wrap ((nn:Int)+mN x n k*((mm:Int)-1))=(nn:Int)+mN x n k*((mm:Int)-1):=IntWalk.i64_in _ aA;have HWA:=hid hwa;have HWB:=hid hwb;clear hr hs hs2 hb0 hta hu ht hbx hbx2 hpp hpu hrow hurow hfs hufs hl hul hD hD' hok1 hok2 hcn hwa hwb hdp2;rcases hx with ⟨hat1,hxe⟩ | ⟨hat1,hxe⟩;all_goals
  have HXE:=hid hxe;clear hxe;go_in;go_wp2_with fail
  refine (cS HTA.o).mono ?_;rintro e w2 ⟨rfl,hb2⟩;have hb3:=HB0.o.trans (hb2.mono HB0.o.size);have b0:=HBX.o.below hb2 (by simp;omega);have b1:=HBX2.o.below hb2 (by simp);have c0:=b0.cell;have B0:=hid b0;have B1:=hid b1;clear b0 b1;go_wp2_with fail
  refine (cS (HU.o.below hb3)).mono ?_;rintro e w3 ⟨rfl,hb4⟩;have b0:=B0.o.below hb4 B0.o.lt;have b1:=B1.o.below hb4 B1.o.lt;have c1:=b1.cell;have f1:=b1.frozen;have hb5:=hb3.trans (hb4.mono hb3.size);have hl1:w.heap.size+1<w3.heap.size:=b1.lt;have B0':=hid b0;have B1':=hid b1;have HB5:=hid hb5;clear b0 b1 hb5 hb4 hb3 hb2 c0;go_wp2_with fail
  first
   | refine (zX HT.o HPP.o HROW.o HFS.o HLT.o HB5.o B0'.o B1'.o at_ HXE.o).mono ?_
   | refine (zX HT.o HPP.o HROW.o HFS.o HLT.o HB5.o B0'.o B1'.o 1048577 HXE.o).mono ?_
  rintro e w5 ⟨⟨b,rfl⟩,hb6,u5,x5,t5,d5⟩;have ct:=t5.cell;have cu:=u5.cell;have HB6:=hid hb6;have U5:=hid u5;have X5:=hid x5;have D5:=hid d5;have T5:=hid t5;clear hb6 u5 x5 t5 d5 c1 f1;by_cases hm:0<mN x n k;rotate_left
  · have hmb:decide (0<mN x n k)=false:=by simpa using hm
    have HM:=hid hm;clear hm;have hwa:=HWA.o;have hwb:=HWB.o;by_cases hbig:4096<(nn:Int)+mN x n k*((mm:Int)-1)
    · have HBIG:=hid hbig;go_wp2_with fail
      go_ret2;exact dW HB6.o (by rw [HR.o,if_neg (fun h=>by have h1:=HM.o;have h2:=h.1;omega),if_pos HBIG.o])
    have hbigb:decide (4096<(nn:Int)+mN x n k*((mm:Int)-1))=false:=by simpa using hbig
    have HBIG:=hid hbig;clear hbig;go_wp2_with fail
    refine (zY HT.o HPP.o HROW.o HFS.o HLT.o HU.o HPU.o HUROW.o HUFS.o HLU.o hx0 hx1 HD.o HB6.o U5.o X5.o).mono ?_;rintro e w7 ⟨hb9,A',m',c',rfl,hown⟩;have HOWN:=hid hown;have HB9:=hid hb9;clear hown hb9;go_wp2_with fail
    go_ret2;exact sG HB9.o (by rw [HR.o,if_neg (fun h=>by have h1:=HM.o;have h2:=h.1;omega),if_neg (by have:=HBIG.o;omega)]) HOWN.o
  go_wp2_with fail
  refine (MX HU.o HPU.o HUROW.o HUFS.o HLU.o hx0 hx1 hdp1 hdp3 HB6.o X5.o D5.o aA).mono ?_;rintro e w6 ⟨rfl,hb7⟩;have ct6:=(T5.o.below hb7 T5.o.lt).cell;have cu6:=(U5.o.below hb7 U5.o.lt).cell;have hb8:=HB6.o.trans (hb7.mono HB6.o.size);have U6:=hid (U5.o.below hb7 U5.o.lt);have X6:=hid (X5.o.below hb7 X5.o.lt);have HB8:=hid hb8;clear ct cu hb7 hb8;by_cases hex:mB (fun v b=>decide (b<=v)&&decide (1048576<v-b+x+EX x n k)) 0 un uk=true
  · have HEX:=hid hex;have HM:=hid hm;go_wp2_with fail
    go_ret2;exact dW HB8.o (by rw [HR.o,if_pos ⟨HM.o,HEX.o⟩])
  have hexb:mB (fun v b=>decide (b<=v)&&decide (1048576<v-b+x+EX x n k)) 0 un uk=false:=by simpa using hex
  have HEX:=hid hexb;rw [hexb];clear hex hexb;have hwa:=HWA.o;have hwb:=HWB.o;by_cases hbig:4096<(nn:Int)+mN x n k*((mm:Int)-1)
  · have HBIG:=hid hbig;go_wp2_with fail
    go_ret2;exact dW HB8.o (by rw [HR.o,if_neg (fun h=>by rw [HEX.o] at h;cases h.2),if_pos HBIG.o])
  have hbigb:decide (4096<(nn:Int)+mN x n k*((mm:Int)-1))=false:=by simpa using hbig
  have HBIG:=hid hbig;clear hbig;go_wp2_with fail
  refine (zY HT.o HPP.o HROW.o HFS.o HLT.o HU.o HPU.o HUROW.o HUFS.o HLU.o hx0 hx1 HD.o HB8.o U6.o X6.o).mono ?_;rintro e w7 ⟨hb9,A',m',c',rfl,hown⟩;have HOWN:=hid hown;have HB9:=hid hb9;clear hown hb9;go_wp2_with fail
  go_ret2;exact sG HB9.o (by rw [HR.o,if_neg (fun h=>by rw [HEX.o] at h;cases h.2),if_neg (by have:=HBIG.o;omega)]) HOWN.o
theorem uY {A B:Option Addr} {nn c mm d:Nat} {t u:List Nd} {w:World} (ht:aP w A nn c t) (hu:aP w B mm d u) (at_:Int) (hD:aN t=0->aN u=0->0<=at_->mZ t u (min at_ 1048577)) :
 Calls Tryz.prog 42 #[Z A nn c,Z B mm d,O X at_] w (mL (fY t u at_) w):=by
 by_cases h:aN t ≠ 0\/aN u ≠ 0\/at_<0
 · exact GE ht hu at_ h
 have h1:aN t=0:=Classical.not_not.1 fun x=>h (.inl x);have h2:aN u=0:=Classical.not_not.1 fun x=>h (.inr (.inl x));have h3:0<=at_:=Int.not_lt.1 fun x=>h (.inr (.inr x));have hr:fY t u at_=m4 t u (min at_ 1048577):=by unfold fY;rw [if_pos h1,if_pos h2,if_neg aA]
 rw [hr];exact CS ht hu at_ h1 h2 h3 _ aA (hD h1 h2 h3)
end
section
open Go.RowKit
end
end Go.Proofs.YtjllmblbbgojbaaGreat
