/- Merged: Subst, Err18. -/
import Derived.Test.YtlahmbhimhmoaaaVSubst1
import Derived.Test.YtlahmbhimhmoaaaVLiftG
namespace Go.Proofs.Ytlahmbhimhmoaaa
set_option linter.unusedVariables false
set_option linter.unusedSimpArgs false
open Go.RowKit
open Go.Value renaming int → O, slice → Z, pointer → I
open Go.IntKind renaming i64 → X
open Go.Obj renaming cells → Y
section
open Go.Lib renaming hid->aB
set_option maxHeartbeats 2000000
set_option maxRecDepth 100000
theorem kN:∀(f:Nat)(F:List Bool)(l:List Nd)(x:Fo×List Nd),iA f F l=some x->nD x.1
 | 0,_,_,_,h=>by simp[iA]at h
 | _+1,[],l,x,h=>by simp only[iA,MS]at h;subst h;trivial
 | f+1,d::dr,l,x,h=>by
  simp only[iA,NV]at h;obtain⟨p,o,h⟩:=h;split at h
  . cases h
  . split at h
    . rename_i D
      simp only[NV]at h;obtain⟨q,s,k,G,y,U,h⟩:=h;simp only[MS]at h;subst h;exact⟨D,kN f _ _ _ G,kN f _ _ _ U⟩
    cases h
theorem pP{D:List Bool}{l:List Nd}{x:Fo×List Nd}(h:pp D l=some x):nD x.1:=kN _ _ _ _ h
def wP(x:Int)(D F:Int):Nat->Int->Fo->Int
 | _,_,.nil=>0
 | j,a,.cons _ n _ k y=>(if n.op=1/\n.a-(a+aR D F j)=x then 1 else 0)+wP x n.op n.b 0 (a+aR D F j) k+wP x D F (j+1) a y
def D7(x:Int)(D F:Int):Nat->Int->Int->Fo->Int
 | _,_,d,.nil=>d
 | j,a,d,.cons _ n _ k y=>D7 x D F (j+1) a (D7 x n.op n.b 0 (a+aR D F j) (if n.op=1/\n.a-(a+aR D F j)=x then max d (a+aR D F j) else d) k) y
def lU(x:Int)(n:Nd)(k:Fo):Int:=(if n.op=1/\n.a=x then 1 else 0)+wP x n.op n.b 0 0 k
def BV(x:Int)(n:Nd)(k:Fo):Int:=D7 x n.op n.b 0 0 0 k
theorem sW(x:Int)(D G:Int):∀(j:Nat)(a:Int)(F:Fo),0<=wP x D G j a F/\wP x D G j a F<=bS F
 | _,_,.nil=>by simp[wP,bS]
 | j,a,.cons p n at' k y=>by
  have U:=sW x n.op n.b 0 (a+aR D G j) k;have h:=sW x D G (j+1) a y;simp only[wP,bS];split<;>omega
theorem FS(x:Int)(m d:Int)(n:Nd)(a:Int)(G:0<=m)(U:m<=1000000000000):(nY (F7 x)).nx (false,(m,d)) n a=(false,(m+(if n.op=1/\n.a-a=x then 1 else 0),if n.op=1/\n.a-a=x then max d a else d)):=by
 have F:wrap64 (m+1)=m+1:=by unfold wrap64;omega
 simp only[nY,F7];by_cases h:n.op=1
 . by_cases D:n.a-a=x
   . simp[h,D,F]
   simp[h,D]
 simp[h]
theorem FR(x:Int)(D G:Int):∀(j:Nat)(a m d:Int)(F:Fo),0<=m->m+bS F<=1000000000000->(nY (F7 x)).S D G j a (false,(m,d)) F=(false,(m+wP x D G j a F,D7 x D G j a d F))
 | _,_,m,d,.nil,_,_=>by simp[bT.S,wP,D7]
 | j,a,m,d,.cons p n at' k y,U,h=>by
  simp only[bS]at h;have o:=sW x n.op n.b 0 (a+aR D G j) k;rw[bT.S_cons,bT.S1,FS x m d n _ U aA];rw[FR x n.op n.b 0 _ _ _ k (by split<;>omega) (by split<;>omega)];rw[FR x D G (j+1) a _ _ y (by split<;>omega) (by split<;>omega)];simp only[wP,D7,MZ,true_and,and_true];omega
theorem ED(x:Int)(n:Nd)(k:Fo)(h:bS k<=10000):(rJ (F7 x) (0,0) n k).2=(lU x n k,BV x n k):=by
 have hz:(0:Int)<=(if n.op=1/\n.a=x then (1:Int) else 0)/\(if n.op=1/\n.a=x then (1:Int) else 0)<=1:=by split<;>omega
 have e:n.a-0=n.a:=aA;rw[rJ,bT.S1,FS x 0 0 n 0 aA aA,e,FR x _ _ _ _ _ _ _ aA aA];have D:(if n.op=1/\n.a=x then max (0:Int) 0 else 0)=0:=by split<;>rfl
 rw[D];simp only[lU,BV,Int.zero_add]
theorem xN(x:Int)(D G:Int)(U:∀j:Int,0<=aR D G j/\aR D G j<=4):∀(j:Nat)(a d:Int)(F:Fo),nD F->0<=a->0<=d->0<=D7 x D G j a d F/\D7 x D G j a d F<=max d (a+4*bS F)
 | _,_,d,.nil,_,ha,hd=>by simp only[D7,bS];omega
 | j,a,d,.cons p n at' k y,hok,ha,hd=>by
  have o:=U j;have h:=xN x n.op n.b (fun j=>eN hok.1 j) 0 (a+aR D G j) (if n.op=1/\n.a-(a+aR D G j)=x then max d (a+aR D G j) else d) k hok.2.1 aA (by split<;>omega);have s:=xN x D G U (j+1) a (D7 x n.op n.b 0 (a+aR D G j) (if n.op=1/\n.a-(a+aR D G j)=x then max d (a+aR D G j) else d) k) y hok.2.2 ha h.1;have z:(if n.op=1/\n.a-(a+aR D G j)=x then max d (a+aR D G j) else d)<=max d (a+aR D G j):=by split<;>omega
  simp only[D7,bS];omega
theorem D8{x:Int}{n:Nd}{k:Fo}(D:eU n=true)(F:nD k):0<=BV x n k/\BV x n k<=4*bS k:=by
 have:=xN x n.op n.b (fun j=>eN D j) 0 0 0 k F (MR _) (MR _);unfold BV;omega
theorem tE(u:KU)(x:Int)(D G:Int):∀(j:Nat)(a:Int)(F:Fo),((kH u x).E D G j a () F).length<=(row F).length*((u.n::(u.a++row u.k)).length+1)
 | _,_,.nil=>by simp[bT.E,row]
 | j,a,.cons p n at' k y=>by
  rw[bT.E_cons,bT.E1];have h:=tE u x n.op n.b 0 (a+aR D G j) k;have o:=tE u x D G (j+1) a y;have z:((kH u x).em () n (a+aR D G j)).length<=(u.n::(u.a++row u.k)).length+1:=by
   simp only[kH];split
   . rw[pS];omega
   split<;>simp
  have e:∀s:Unit,s=():=fun _=>rfl;rw[e ((kH u x).nx () n (a+aR D G j)),e ((kH u x).S1 (a+aR D G j) () n k)];simp only[MG,row,MN]at h o z ⊢;have a0:1<=u.a.length+(row u.k).length+1+1:=aA;generalize u.a.length+(row u.k).length+1+1=q at *;generalize (row k).length=b at *;generalize (row y).length=c at *;have U:(p.length+(at'.length+(b+c)+1))*q=p.length*q+(at'.length*q+(b*q+c*q)+q):=by
   rw[Nat.add_mul,Nat.add_mul,Nat.add_mul,Nat.add_mul,Nat.one_mul]
  have e2:p.length<=p.length*q/\at'.length<=at'.length*q:=⟨Nat.le_mul_of_pos_right _ aA,Nat.le_mul_of_pos_right _ aA⟩;rw[U];omega
def mY(t u:List Nd)(x:Int):List Nd×Int :=
 match pp [false] t,pp [false] u with
 | some (.cons _ n a k _,_),some (.cons _ un ua uk _,_) =>
  if 0<lU x n k/\kU (fun v b=>decide (b<=v)&&decide (1048576<v-b+x+BV x n k)) 0 un uk=true then ([],6)
  else if 4096<(t.length:Int)+lU x n k*((u.length:Int)-1) then ([],9)
  else ((kH ⟨un,ua,uk⟩ x).E1 0 () n a k,0)
 | _,_=>([],0)
def fL(t u:List Nd)(at_:Int):List Nd×Int :=
 if aZ t=0 then (if aZ u=0 then (if at_<0 then ([],1) else mY t u (min at_ 1048577)) else ([],aZ u)) else ([],aZ t)
def qB(t u:List Nd)(x:Int):Prop :=
 match pp [false] t,pp [false] u with
 | some (.cons _ n _ k _,_),some (.cons _ un ua uk _,_)=>(kH ⟨un,ua,uk⟩ x).D1 0 () n k
 | _,_=>True
theorem DB{A B:OC}{nn c mm d:Nat}{t u:List Nd}{w:OE}(ht:aX w A nn c t)(hu:aX w B mm d u)(at_:Int)(h:aZ t≠0\/aZ u≠0\/at_<0):
 Calls Try.prog 96 #[Z A nn c,Z B mm d,O X at_] w (iU (fL t u at_) w):=by
 have G:=cB w (Y #[Z B mm d] 29) (Y #[O X at_] 3);have z:=ht.below G;by_cases hs:aZ t=0;rotate_left
 . have a8:(aZ t != 0)=true:=by simp[hs]
   have hr:fL t u at_=([],aZ t):=by unfold fL;rw[aN hs]
   obtain⟨HR,D,a0⟩:=OK hr G z;clear hr hs h G z hu ht;go_in;go_wp2_with fail;refine (bM a0.o).mono ?_;rintro e w2 ⟨rfl,F⟩;go_wp2_with fail;go_ret2;exact bV (D.o.trans (F.mono D.o.size)) HR.o
 have a8:(aZ t != 0)=false:=by simp[hs]
 have a3:aW ((w.alloc (Y #[Z B mm d] 29)).alloc (Y #[O X at_] 3)) w.heap.size 29 #[Z B mm d]:=(aW.new _ _ _).alloc _;have a1:aW ((w.alloc (Y #[Z B mm d] 29)).alloc (Y #[O X at_] 3)) (w.heap.size+1) 3 #[O X at_]:=aW.new' aD;by_cases s:aZ u=0
 . have a7:(aZ u != 0)=false:=by simp[s]
   have h3:at_<0:=by rcases h with h|h|h<;>first|exact absurd hs h|exact absurd s h|exact h
   have hr:fL t u at_=([],1):=by unfold fL;rw[LZ hs,LZ s,LZ h3]
   obtain⟨HR,D,a0,HU,a4,a6⟩:=OJ hr G z hu a3 a1;clear hr hs s h G z hu ht a3 a1;go_in;go_wp2_with fail;refine (bM a0.o).mono ?_;rintro e w2 ⟨rfl,F⟩;have U:=D.o.trans (F.mono D.o.size);have c0:=(a4.o.below F aG).cell;have b1:=a6.o.below F aD;have a5:=aB b1;clear b1;go_wp2_with fail;refine (bM (HU.o.below U)).mono ?_;rintro e w3 ⟨rfl,a2⟩;have c1:=(a5.o.below a2 a5.o.lt).cell;go_wp2_with fail;go_ret2;exact bV (U.trans (a2.mono U.size)) HR.o
 have a7:(aZ u != 0)=true:=by simp[s]
 have hr:fL t u at_=([],aZ u):=by unfold fL;rw[LZ hs,aN s]
 obtain⟨HR,D,a0,HU,a4⟩:=OG hr G z hu a3;clear hr hs s h G z hu ht a3 a1;go_in;go_wp2_with fail;refine (bM a0.o).mono ?_;rintro e w2 ⟨rfl,F⟩;have U:=D.o.trans (F.mono D.o.size);have c0:=(a4.o.below F aG).cell;go_wp2_with fail;refine (bM (HU.o.below U)).mono ?_;rintro e w3 ⟨rfl,a2⟩;go_wp2_with fail;go_ret2;exact bV (U.trans (a2.mono U.size)) HR.o
section
variable {A B : OC}{nn c mm d : Nat}{t u : List Nd}{w w3 : OE}{n un : Nd}{ats ua : List Nd}{k uk : Fo}{x : Int}
theorem wH(ht:aX w A nn c t)(a1:pp [false] t=some (.cons [] n ats k .nil,[]))(s:t=n::(ats++row k))(a6:bS k<=4096)(hl:t.length<=4096)(hb:OB w w3)(hu:aW w3 w.heap.size 29 #[Z B mm d]){z:Value}(hx:aW w3 (w.heap.size+1) 3 #[z])(y:Int)(hy:y=x):
 Calls Try.prog 52 #[Z A nn c,.func (.func 102) #[] #[I (some ⟨w.heap.size+1,0,none⟩),I (some ⟨w3.heap.size,0,none⟩),I (some ⟨w3.heap.size+1,0,none⟩)]]
  (((w3.setCell ⟨w.heap.size+1,0,none⟩ (O X y)).alloc (Y #[O X 0] 3)).alloc (Y #[O X 0] 3)) fun e U=>(∃b,e=.returned (.bool b))/\OB w U/\aW U w.heap.size 29 #[Z B mm d]/\aW U (w.heap.size+1) 3 #[O X x]/\aW U w3.heap.size 3 #[O X (lU x n k)]/\aW U (w3.heap.size+1) 3 #[O X (BV x n k)]:=by
 subst hy;have a5:=hx.lt;have a7:w.heap.size+1<w3.heap.size:=a5;have F:OB w (((w3.setCell ⟨w.heap.size+1,0,none⟩ (O X y)).alloc (Y #[O X 0] 3)).alloc (Y #[O X 0] 3)) :=
  ((hb.setCell (p:=⟨w.heap.size+1,0,none⟩) aD _).alloc (by simp[World.setCell];omega) _).alloc (by simp[World.setCell];omega) _
 have a4:aW (((w3.setCell ⟨w.heap.size+1,0,none⟩ (O X y)).alloc (Y #[O X 0] 3)).alloc (Y #[O X 0] 3)) (w.heap.size+1) 3 #[O X y]:=by
  have:=((hx.set_ 0 (O X y)).alloc (Y #[O X 0] 3)).alloc (Y #[O X 0] 3);simpa using this
 have a3:=((hu.far (p:=⟨w.heap.size+1,0,none⟩) aD (O X y)).alloc (Y #[O X 0] 3)).alloc (Y #[O X 0] 3);have a2:aW (((w3.setCell ⟨w.heap.size+1,0,none⟩ (O X y)).alloc (Y #[O X 0] 3)).alloc (Y #[O X 0] 3)) w3.heap.size 3 #[O X 0]:=(aW.new' (by simp[World.setCell])).alloc _;have a0:aW (((w3.setCell ⟨w.heap.size+1,0,none⟩ (O X y)).alloc (Y #[O X 0] 3)).alloc (Y #[O X 0] 3)) (w3.heap.size+1) 3 #[O X 0]:=aW.new' (by simp[World.setCell]);have h:=oV (F7 y) 0 (false,(0,0)) n ats k;rw[<-s]at h;refine (oW (T:=F7 y) (J:=LN (w.heap.size+1) w3.heap.size (w3.heap.size+1) y) (K:=fun b=>b=w.heap.size+1\/b=w3.heap.size\/b=w3.heap.size+1) (S:=fun b=>b=w3.heap.size\/b=w3.heap.size+1) (R:=(· < w.heap.size)) (t:=(0,0)) (fun b D=>⟨?_,?_⟩) (ht.keep fun b D=>⟨D,fun o=>aP (F.block b D) o⟩) (fun b D=>?_) (fun b D=>.inr D)
  (fun w w' t G hk=>⟨G.1.same (hk _ (.inl rfl)),G.2.1.same (hk _ (.inr (.inl rfl))),G.2.2.same (hk _ (.inr (.inr rfl)))⟩) (fun _ _=>by kernel_rfl) (C8 (by simp[World.setCell];omega) (by simp[World.setCell]<;>omega) (by simp[World.setCell]<;>omega) aA aA aA) ⟨a4,a2,a0⟩ a1 aA aA).mono ?_
 . have:=F.size;omega
 . omega
 . simp[World.setCell];omega
 rintro e U ⟨he,hm,G⟩;rw[ED y n k aA]at G;refine⟨⟨_,he⟩,F.trans (hm.to_below F.size (fun b D=>by omega) (fun g hg=>by cases hg)),a3.moved hm aA aD,G.1,G.2.1,G.2.2⟩
theorem JV(hu:aX w B mm d u)(a1:pp [false] u=some (.cons [] un ua uk .nil,[]))(U:u=un::(ua++row uk))(a4:bS uk<=4096)(hl:u.length<=4096)(a2:0<=x)(a3:x<=1048577){F:Int}(z:0<=F)(a0:F<=1000000000000){s:Nat}(hb:OB w w3)(hx:aW w3 (w.heap.size+1) 3 #[O X x])(hd:aW w3 s 3 #[O X F])(a5:w.heap.size+1<s):
 Calls Try.prog 52 #[Z B mm d,.func (.func 103) #[] #[I (some ⟨w.heap.size+1,0,none⟩),I (some ⟨s,0,none⟩)]] w3 (oH (kU (fun v b=>decide (b<=v)&&decide (1048576<v-b+x+F)) 0 un uk) w3):=by
 have G:=oV (zW fun v b=>decide (b<=v)&&decide (1048576<v-b+x+F)) 0 (false,()) un ua uk;rw[<-U]at G;refine (oW (T:=zW fun v b=>decide (b<=v)&&decide (1048576<v-b+x+F)) (J:=LT (w.heap.size+1) s x F) (K:=fun b=>b=w.heap.size+1\/b=s) (S:=fun _=>False) (R:=(· < w.heap.size)) (t:=()) (fun b D=>⟨by have:=hb.size;omega,fun h=>h⟩) (hu.keep fun b D=>⟨D,fun o=>aP (hb.block b D) o⟩) (fun b D=>?_) (fun b D=>D.elim)
  (fun w w' t hj hk=>⟨hj.1.same (hk _ (.inl rfl)),hj.2.same (hk _ (.inr rfl))⟩) (fun _ _=>by kernel_rfl) (C9 hx.lt hd.lt a2 a3 z a0) ⟨hx,hd⟩ a1 aA aA).mono ?_
 . rcases D with h|h
   . subst h;exact hx.lt
   subst h;exact hd.lt
 rintro e w5 ⟨rfl,hm,_⟩;exact⟨cU (uS _ _ _),hm.to_below (MF _) (fun _ h=>h.elim) (fun g hg=>by cases hg)⟩
theorem wI(ht:aX w A nn c t)(a6:pp [false] t=some (.cons [] n ats k .nil,[]))(a4:t=n::(ats++row k))(b4:bS k<=4096)(hl:t.length<=4096)(hu:aX w B mm d u)(a7:pp [false] u=some (.cons [] un ua uk .nil,[]))(a1:u=un::(ua++row uk))(b2:bS uk<=4096)(b5:u.length<=4096)(a8:0<=x)(a9:x<=1048577)(hD:(kH ⟨un,ua,uk⟩ x).D1 0 () n k)
 (U:OB w w3) (a0:aW w3 w.heap.size 29 #[Z B mm d]) (hx:aW w3 (w.heap.size+1) 3 #[O X x]) :
 Calls Try.prog 71 #[Z A nn c,Z none 0 0,.func (.func 104) #[] #[I (some ⟨w.heap.size+1,0,none⟩),I (some ⟨w.heap.size,0,none⟩)]] w3 fun e w'=>OB w w'/\∃A' m' c',e=.returned (.tuple #[Z A' m' c',O X 0])/\bG w' w.heap.size (Z A' m' c') ((kH ⟨un,ua,uk⟩ x).E1 0 () n ats k):=by
 have a3:((kH ⟨un,ua,uk⟩ x).E1 0 () n ats k).length<=1000000000000:=by
  have h1:=tE ⟨un,ua,uk⟩ x 0 0 0 0 (.cons [] n ats k .nil);rw[bT.E_cons]at h1;have e0:aR 0 0 ((0:Nat):Int)=0:=by decide
  rw[e0]at h1;simp only[MV,MY,bT.E,NF]at h1;have h2:(row (.cons [] n ats k .nil)).length=t.length:=by rw[a4];simp[row]
  have h3:(un::(ua++row uk)).length=u.length:=by rw[<-a1]
  rw[h2,h3]at h1;have h4:t.length*(u.length+1)<=4096*4097:=Nat.mul_le_mul hl aA;omega
 have hG:∀(a2 pb:Int)(j:Nat)(a:Int)(F:Fo),(kH ⟨un,ua,uk⟩ x).G a2 pb j a () F=true:=by
  intro a2 pb j a F
  induction F generalizing a2 pb j a with
  | nil=>rfl
  | cons p n b3 k y b0 b1=>rw[bT.G_cons,bT.G1,b0,b1];rfl
 have a5:jC (kH ⟨un,ua,uk⟩ x) 104 #[I (some ⟨w.heap.size+1,0,none⟩),I (some ⟨w.heap.size,0,none⟩)] (J2 (w.heap.size+1) w.heap.size x (· < w.heap.size) B mm d u) (J3 (w.heap.size+1) w.heap.size (· < w.heap.size)) (fun _=>False) w.heap.size 6 1000000000000 (· < w.heap.size) w3 A nn c t (Z none 0 0) () []:=by
  refine⟨U.size,fun b h=>⟨MD h U.size,fun h=>h⟩,fun b h=>?_,fun b h=>h.elim,fun w w' s hj hk=>vR hj hk,MF _,fun _ _=>by kernel_rfl,DA hx.lt a0.lt (fun b h=>MD h U.size) U.size (MF _) a8 a9 a7 (by show 4*bS uk<=_;omega),ht.keep fun b D=>⟨D,fun o=>aP (U.block b D) o⟩,bG.nil _ _,⟨hx,a0,hu.keep fun b D=>⟨D,fun o=>aP (U.block b D) o⟩⟩,fun g hg=>by simp[Value.ownBlock]at hg⟩;rcases h with h|h|h
  . subst h;exact hx.lt
  . subst h;exact a0.lt
  exact MD h U.size
 refine (qF a5 a6 aA hD (by simpa using a3)).mono ?_;rintro e w5 ⟨hm,(⟨_,_,v',rfl,z,_⟩|⟨hg,_⟩)⟩
 . obtain⟨A',c',rfl⟩:=z.slice;exact⟨U.trans (hm.to_below U.size (fun _ h=>h.elim) (fun g hg=>by simp[Value.ownBlock]at hg)),_,_,_,rfl,z⟩
 rw[bT.G1,hG]at hg;cases hg
end
theorem pZ{r:List Nd×Int}{l:List Nd}{w w':OE}{A:OC}{m c:Nat}(F:OB w w')(G:r=(l,0))(D:bG w' w.heap.size (Z A m c) l):iU r w (.returned (.tuple #[Z A m c,O X 0])) w':=by
 subst G;exact⟨F,_,_,_,rfl,D⟩
theorem yY{A B:OC}{nn c mm d:Nat}{t u:List Nd}{w:OE}(ht:aX w A nn c t)(hu:aX w B mm d u)(at_:Int)(hs:aZ t=0)(d3:aZ u=0)(h0:0<=at_)(x:Int)(hx:(at_<=1048577/\at_=x)\/(1048577<at_/\1048577=x))(hD:qB t u x):
 Calls Try.prog 96 #[Z A nn c,Z B mm d,O X at_] w (iU (mY t u x) w):=by
 have i2:∀(fn:Fn)(first cap:Array Value)(w:OE),(Instr.makeFunc fn first cap).run Try.prog w=.ok (.func fn first cap) w:=fun _ _ _ _=>rfl;obtain⟨hl,n,ats,k,a6,c4,f9⟩:=fE hs;obtain⟨g1,un,ua,uk,b6,s,c5⟩:=fE d3;have d4:0<=x:=aA;have d6:x<=1048577:=aA;have hr:mY t u x=if 0<lU x n k/\kU (fun v b=>decide (b<=v)&&decide (1048576<v-b+x+BV x n k)) 0 un uk=true then ([],6)
  else if 4096<(nn:Int)+lU x n k*((mm:Int)-1) then ([],9)
  else ((kH ⟨un,ua,uk⟩ x).E1 0 () n ats k,0):=by
  unfold mY;rw[a6,b6,<-ht.len,<-hu.len]
 have e6:(kH ⟨un,ua,uk⟩ x).D1 0 () n k:=by
  unfold qB at hD;rw[a6,b6]at hD;exact hD
 have g7:=pP a6;obtain⟨c2,c3,_⟩:=g7;have g5:=D8 (x:=x) c2 c3;have g4:=sW x n.op n.b 0 0 k;have f3:0<=lU x n k/\lU x n k<=4097:=by unfold lU;split<;>omega
 have g6:1<=mm/\mm<=4096:=by
  have h1:=congrArg List.length s;rw[hu.len]at h1;simp only[MN]at h1;have:=hu.len;omega
 have i3:nn<=4096:=by have:=ht.len;omega
 obtain⟨f4,f5⟩:=f3;obtain⟨g9,h3⟩:=g6;obtain⟨f6,f7⟩:=g5;have g8:0<=lU x n k*((mm:Int)-1)/\lU x n k*((mm:Int)-1)<=4097*4096:=⟨Int.mul_nonneg f4 aA,Int.mul_le_mul f5 aA aA aA⟩;obtain⟨h4,h5⟩:=g8;have d0:=cB w (Y #[Z B mm d] 29) (Y #[O X at_] 3);have g0:=ht.below d0;have i4:(aZ t != 0)=false:=by simp[hs]
 have h6:(aZ u != 0)=false:=by simp[d3]
 have h9:decide (at_<0)=false:=by simp;omega
 have f2:aW ((w.alloc (Y #[Z B mm d] 29)).alloc (Y #[O X at_] 3)) w.heap.size 29 #[Z B mm d]:=(aW.new _ _ _).alloc _;have b9:aW ((w.alloc (Y #[Z B mm d] 29)).alloc (Y #[O X at_] 3)) (w.heap.size+1) 3 #[O X at_]:=aW.new' aD;obtain⟨HR,e0,g3,HT,HU,g2,e2,b2⟩:=OH hr d0 g0 ht hu f2 b9 a6;obtain⟨c9,z,U,a8,a3,a9,c8,HD⟩:=OH b6 c4 s f9 c5 hl g1 e6;have f8:BV x n k<=1000000000000:=aA;have b7:IntKind.i64.wrap (lU x n k*((mm:Int)-1))=lU x n k*((mm:Int)-1):=IntWalk.i64_in _ aA;have b8:IntKind.i64.wrap ((nn:Int)+lU x n k*((mm:Int)-1))=(nn:Int)+lU x n k*((mm:Int)-1):=IntWalk.i64_in _ aA;obtain⟨e3,e4⟩:=OF b7 b8;clear hr hs d3 d0 g0 hu ht f2 b9 a6 b6 c4 s f9 c5 hl g1 hD e6 c2 c3 g4 b7 b8 f7;rcases hx with⟨e7,d7⟩|⟨e7,d7⟩;all_goals
  have e5:=aB d7;clear d7;go_in;go_wp2_with fail;refine (bM g3.o).mono ?_;rintro e w2 ⟨rfl,b3⟩;have b4:=e0.o.trans (b3.mono e0.o.size);have b0:=g2.o.below b3 aG;have b1:=e2.o.below b3 aD;have c0:=b0.cell;obtain⟨B0,B1⟩:=OF b0 b1;clear b0 b1;go_wp2_with fail;refine (bM (HU.o.below b4)).mono ?_;rintro e w3 ⟨rfl,b5⟩;have b0:=B0.o.below b5 B0.o.lt;have b1:=B1.o.below b5 B1.o.lt;have c1:=b1.cell;have f1:=b1.frozen;have e8:=b4.trans (b5.mono b4.size);have i0:w.heap.size+1<w3.heap.size:=b1.lt;obtain⟨d8,d9,e1⟩:=OK b0 b1 e8;clear b0 b1 e8 b5 b4 b3 c0;go_wp2_with fail;first
   | refine (wH HT.o b2.o z.o a8.o a9.o e1.o d8.o d9.o at_ e5.o).mono ?_
   | refine (wH HT.o b2.o z.o a8.o a9.o e1.o d8.o d9.o 1048577 e5.o).mono ?_
  rintro e w5 ⟨⟨b,rfl⟩,e9,u5,x5,t5,d5⟩;have ct:=t5.cell;have cu:=u5.cell;obtain⟨a1,U5,X5,D5,T5⟩:=OG e9 u5 x5 d5 t5;clear e9 u5 x5 t5 d5 c1 f1;by_cases hm:0<lU x n k;rotate_left
  . have i1:decide (0<lU x n k)=false:=by simpa using hm
    have HM:=aB hm;clear hm;have b7:=e3.o;have b8:=e4.o;by_cases D:4096<(nn:Int)+lU x n k*((mm:Int)-1)
    . have F:=aB D;go_wp2_with fail;go_ret2;exact bV a1.o (by rw[HR.o,aN (fun h=>by have h1:=HM.o;have h2:=h.1;omega),LZ F.o])
    have d1:decide (4096<(nn:Int)+lU x n k*((mm:Int)-1))=false:=by simpa using D
    have F:=aB D;clear D;go_wp2_with fail;refine (wI HT.o b2.o z.o a8.o a9.o HU.o c9.o U.o a3.o c8.o d4 d6 HD.o a1.o U5.o X5.o).mono ?_;rintro e w7 ⟨a4,A',m',c',rfl,G⟩;have a2:=aB G;have c7:=aB a4;clear G a4;go_wp2_with fail;go_ret2;exact pZ c7.o (by rw[HR.o,aN (fun h=>by have h1:=HM.o;have h2:=h.1;omega),aN (by have:=F.o;omega)]) a2.o
  go_wp2_with fail;refine (JV HU.o c9.o U.o a3.o c8.o d4 d6 f6 f8 a1.o X5.o D5.o aA).mono ?_;rintro e w6 ⟨rfl,a0⟩;have h7:=(T5.o.below a0 T5.o.lt).cell;have h8:=(U5.o.below a0 U5.o.lt).cell;have f0:=a1.o.trans (a0.mono a1.o.size);obtain⟨U6,X6,c6⟩:=OK (U5.o.below a0 U5.o.lt) (X5.o.below a0 X5.o.lt) f0;clear ct cu a0 f0;by_cases d2:kU (fun v b=>decide (b<=v)&&decide (1048576<v-b+x+BV x n k)) 0 un uk=true
  . obtain⟨a7,HM⟩:=OF d2 hm;go_wp2_with fail;go_ret2;exact bV c6.o (by rw[HR.o,LZ ⟨HM.o,a7.o⟩])
  have a5:kU (fun v b=>decide (b<=v)&&decide (1048576<v-b+x+BV x n k)) 0 un uk=false:=by simpa using d2
  have a7:=aB a5;rw[a5];clear d2 a5;have b7:=e3.o;have b8:=e4.o;by_cases D:4096<(nn:Int)+lU x n k*((mm:Int)-1)
  . have F:=aB D;go_wp2_with fail;go_ret2;exact bV c6.o (by rw[HR.o,aN (fun h=>by rw[a7.o]at h;cases h.2),LZ F.o])
  have d1:decide (4096<(nn:Int)+lU x n k*((mm:Int)-1))=false:=by simpa using D
  have F:=aB D;clear D;go_wp2_with fail;refine (wI HT.o b2.o z.o a8.o a9.o HU.o c9.o U.o a3.o c8.o d4 d6 HD.o c6.o U6.o X6.o).mono ?_;rintro e w7 ⟨a4,A',m',c',rfl,G⟩;have a2:=aB G;have c7:=aB a4;clear G a4;go_wp2_with fail;go_ret2;exact pZ c7.o (by rw[HR.o,aN (fun h=>by rw[a7.o]at h;cases h.2),aN (by have:=F.o;omega)]) a2.o
theorem sG{A B:OC}{nn c mm d:Nat}{t u:List Nd}{w:OE}(ht:aX w A nn c t)(U:aX w B mm d u)(at_:Int)(o:aZ t=0->aZ u=0->0<=at_->qB t u (min at_ 1048577)):
 Calls Try.prog 96 #[Z A nn c,Z B mm d,O X at_] w (iU (fL t u at_) w):=by
 by_cases h:aZ t≠0\/aZ u≠0\/at_<0
 . exact DB ht U at_ h
 have D:aZ t=0:=Classical.not_not.1 fun x=>h (.inl x);have F:aZ u=0:=Classical.not_not.1 fun x=>h (.inr (.inl x));have G:0<=at_:=Int.not_lt.1 fun x=>h (.inr (.inr x));have s:fL t u at_=mY t u (min at_ 1048577):=by unfold fL;rw[LZ D,LZ F,aN aA]
 rw[s];exact yY ht U at_ D F G _ aA (o D F G)
end

end Go.Proofs.Ytlahmbhimhmoaaa
