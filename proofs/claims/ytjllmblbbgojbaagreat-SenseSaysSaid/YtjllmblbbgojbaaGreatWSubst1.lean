/- Merged: Sub, LiftG, Subst1. -/
import Derived.Test.YtjllmblbbgojbaaGreatWGuarded
import Derived.Test.YtjllmblbbgojbaaGreatWBooks
import Derived.Test.YtjllmblbbgojbaaGreatWEnds
namespace Go.Proofs.YtjllmblbbgojbaaGreat
open Go.Value renaming int → O, pointer → X
open Go.IntKind renaming i64 → S
open Option renaming none → Y
section
open Go.RowKit
theorem xQ:∀ (k:Nat) (last:Int) (l:List Nd) (p:List Nd×List Nd),aU k last l=some p->∀ m ∈ p.1,m.op=3
 | 0,_,_,p,h,m,hm=>by
  simp only [aU,Option.some.injEq] at h;subst h;cases hm
 | k+1,last,[],p,h,m,hm=>by simp [aU] at h
 | k+1,last,x::l,p,h,m,hm=>by
  simp only [aU] at h;split at h
  · rename_i hc
    simp only [Option.map_eq_some_iff] at h;obtain ⟨q,hq,rfl⟩:=h;rcases List.mem_cons.1 hm with rfl | hm
    · exact hc.1
    exact xQ k x.a l q hq m hm
  · cases h
def dX (l:List Nd):TT:=match pp [false] l with
 | some (.cons _ n a k _,_)=>(n,a,k)
 | none=>(default,[],.nil)
 | some (.nil,_)=>(default,[],.nil)
theorem GI {l:List Nd} {n:Nd} {a:List Nd} {k:Fo} (h:Rt l n a k):dX l=(n,a,k):=by
 unfold dX;rw [h.pp]
theorem rC:∀ {L:List Int},gH L=0->∀ e ∈ L,e=0
 | [],_,e,he=>by cases he
 | x::r,h,e,he=>by
  simp only [gH] at h;split at h
  · rename_i h1;exact absurd h h1
  · rename_i h1
    rcases List.mem_cons.1 he with rfl | he
    · exact Decidable.not_not.1 h1
    exact rC h e he
theorem x7 {b:Bk} {known:Int} {x:En} (h:bX b known x=0):x.ctors.length<=16/\∀ c ∈ x.ctors,c.args.length<=16:=by
 unfold bX at h;split at h
 rotate_left
 · split at h
   · split at h
     · cases h
     rename_i h3
     have:x.ctors=[]:=List.eq_nil_of_length_eq_zero aA;rw [this];exact ⟨by simp,fun c hc=>by cases hc⟩
   cases h
 split at h
 · cases h
 split at h
 · cases h
 rename_i h1 h2 h3
 refine ⟨by omega,?_⟩;have hc:eU b known x x.ctors=0:=by
  exact rC h _ (by simp)
 generalize x.ctors=L at hc;clear h h1 h2 h3
 induction L with
 | nil=>intro c hc;cases hc
 | cons c r ih =>
  simp only [eU] at hc;split at hc
  · cases hc
  · rename_i h1
    split at hc
    · cases hc
    split at hc
    · rename_i h2;exact absurd hc h2
    split at hc
    · rename_i h3;exact absurd hc h3
    intro c' hc';rcases List.mem_cons.1 hc' with rfl | hc'
    · omega
    exact ih hc c' hc'
theorem mA {b:Bk} : ∀ {L:List En} {i:Nat},bZ b i L=0->∀ x ∈ L,x.ctors.length<=16/\∀ c ∈ x.ctors,c.args.length<=16
 | [],_,_,x,hx=>by cases hx
 | y::r,i,h,x,hx=>by
  rw [show bZ b i (y::r)=if bX b i y ≠ 0 then bX b i y else bZ b (i+1) r from rfl] at h;split at h
  · rename_i h1;exact absurd h h1
  · rename_i h1
    rcases List.mem_cons.1 hx with rfl | hx
    · exact x7 (Decidable.not_not.1 h1)
    exact mA h x hx
theorem zL {b:Bk} (h:bY b=0) : ∀ x ∈ b.entries,x.ctors.length<=16/\∀ c ∈ x.ctors,c.args.length<=16:=by
 unfold bY at h;split at h
 · rename_i h1;exact absurd h h1
 split at h
 · cases h
 split at h
 · rename_i h1;exact absurd h h1
 rename_i h1
 exact mA (Decidable.not_not.1 h1)
theorem rD {b:Bk} {free:Int} {l:List Nd} (h:eM b free l=0):bY b=0/\0<=free/\eP b b.entries.length (-1) l free=0:=by
 unfold eM at h;split at h
 · rename_i h1;exact absurd h h1
 rename_i h1
 split at h
 · cases h
 rename_i h2
 exact ⟨Decidable.not_not.1 h1,by omega,h⟩
theorem uO {b:Bk} {known self below:Int} {l:List Nd} (h:eP b known self l below=0):aN l=0/\eT l below=true/\∀ m ∈ l,bH b known self m=true:=by
 unfold eP at h;split at h
 · rename_i h1;exact absurd h h1
 rename_i h1
 split at h
 · cases h
 rename_i h2
 split at h
 · rename_i h3
   exact ⟨Decidable.not_not.1 h1,by simpa using h2,List.all_eq_true.1 h3⟩
 cases h
end
section
open Go.RowKit
theorem AQ:∀ (F:Fo) (dl:List Bool),Wf dl F->NL F
 | .nil,_,_=>trivial
 | .cons _ _ _ _ _,[],h=>h.elim
 | .cons p n a k x,d::dr,h=>by
  obtain ⟨_,hok,_,hk,hx⟩:=h;refine ⟨fun h12 => ?_,AQ k _ hk,AQ x _ hx⟩;simp only [dG,Bool.and_eq_true] at hok;exact (hP hok.1.1).1
theorem C8 {n:Nd} (h:n.op=1):ds n=[]:=by simp [ds,dA,h]
theorem pL:∀ (F:Fo) (dl:List Bool),Wf dl F->M6 F
 | .nil,_,_=>trivial
 | .cons _ _ _ _ _,[],h=>h.elim
 | .cons p n a k x,d::dr,h=>by
  obtain ⟨_,hok,hat,hk,hx⟩:=h;refine ⟨fun h1 => ?_,pL k _ hk,pL x _ hx⟩;rw [C8 h1] at hk;constructor
  · unfold gW at hat;rw [if_neg aA] at hat;exact hat
  · cases k with
    | nil=>rfl
    | cons _ _ _ _ _=>exact hk.elim
theorem DV (up fr:Int) (p:List Nd) (n:Nd) (a:List Nd) (k:Fo):jA up fr 0 0 0 0 (.cons p n a k .nil)=.cons p (iK up fr n 0) a (jA up fr n.op n.b 0 0 k) .nil:=rfl
theorem CJ {up fr:Int} (pop pb:Int) : ∀ (j:Nat) (a:Int) (F:Fo),∀ m ∈ row (jA up fr pop pb j a F),m ∈ row F\/m.op=1
 | _,_,.nil,m,hm=>by simp [jA,row] at hm
 | j,a,.cons p n ats k x,m,hm=>by
  simp only [jA,row,List.mem_append,List.mem_cons] at hm ⊢;rcases hm with hm | rfl | hm | hm | hm
  · exact .inl (.inl hm)
  · unfold iK;split
    · rename_i h;exact .inr h.1
    exact .inl (.inr (.inl rfl))
  · exact .inl (.inr (.inr (.inl hm)))
  · rcases CJ n.op n.b 0 _ k m hm with h | h
    · exact .inl (.inr (.inr (.inr (.inl h))))
    exact .inr h
  · rcases CJ pop pb (j+1) a x m hm with h | h
    · exact .inl (.inr (.inr (.inr (.inr h))))
    exact .inr h
theorem E9 {b:Bk} {known self:Int} {m:Nd} (h:m.op=1):bH b known self m=true:=by
 unfold bH;rw [if_neg aA,if_neg aA,if_neg aA,if_neg aA,if_neg aA]
theorem D0 {b:Bk} {known self below:Int} {l:List Nd} (h1:aN l=0) (h2:eT l below=true) (h3:∀ m ∈ l,bH b known self m=true):eP b known self l below=0:=by
 unfold eP;rw [h1,if_neg (by simp),h2,if_neg (by simp),if_pos (List.all_eq_true.2 h3)]
theorem DD {b:Bk} {free:Int} {l:List Nd} (h1:bY b=0) (h2:0<=free) (h3:eP b b.entries.length (-1) l free=0):eM b free l=0:=by
 unfold eM;rw [h1,if_neg (by simp),if_neg aA,h3]
theorem xR {l:List Nd} {n:Nd} {a:List Nd} {k:Fo} (h:Rt l n a k) (v:Int):eT l v = !mB (fun x z=>decide (max v 0<=x-z)) 0 n k:=by
 unfold eT KT;rw [h.shape,h.pp];simp
end
section
open Go.Lib (hid)
set_option maxHeartbeats 1000000
set_option maxRecDepth 100000
open Go.RowKit
def J3 (x:Int):EF (Int×Int) := { an:=fun _ _ _=>false,nx:=fun t v a=>if v-a=x then (wrap64 (t.1+1),max t.2 a) else t }
def NV (px pt pd:Nat) (x:Int) (w:World) (t:Int×Int):Prop:=aD w px 3 #[O S x]/\aD w pt 3 #[O S t.1]/\aD w pd 3 #[O S t.2]
theorem z8 {px pt pd:Nat} {x m d v a m' y:Int} {w:World} (h1:px ≠ pt) (h2:px ≠ pd) (h3:pt ≠ pd) (jx:aD w px 3 #[O S x]) (jt:aD w pt 3 #[O S m]) (jd:aD w pd 3 #[O S d]) (h:v-a=x) (hm:m'=wrap64 (m+1)) (hy:y=max d a) :
 aG (fun k=>k=pt\/k=pd) Y w ((w.setCell ⟨pt,0,Y⟩ (O S m')).setCell ⟨pd,0,Y⟩ (O S y))/\NV px pt pd x ((w.setCell ⟨pt,0,Y⟩ (O S m')).setCell ⟨pd,0,Y⟩ (O S y)) ((J3 x).nx (m,d) v a):=by
 subst hm hy;refine ⟨((aG.refl _ _ w).setCell (p:=⟨pt,0,Y⟩) (.inl rfl) _).setCell (p:=⟨pd,0,Y⟩) (.inr rfl) _,?_⟩;simp only [J3];rw [if_pos h];refine ⟨(jx.far (p:=⟨pt,0,Y⟩) h1 _).far (p:=⟨pd,0,Y⟩) h2 _,?_,?_⟩
 · have:=(jt.set_ 0 (O S (wrap64 (m+1)))).far (p:=⟨pd,0,Y⟩) h3 (O S (max d a));simpa using this
 have:=(jd.far (p:=⟨pt,0,Y⟩) (Ne.symm h3) (O S (wrap64 (m+1)))).set_ 0 (O S (max d a));simpa using this
theorem GB {px pt pd H:Nat} {x:Int} (hx:px<H) (ht:pt<H) (hd:pd<H) (h1:px ≠ pt) (h2:px ≠ pd) (h3:pt ≠ pd) :
 tN Tryz.prog 68 #[X (some ⟨px,0,Y⟩),X (some ⟨pt,0,Y⟩),X (some ⟨pd,0,Y⟩)] (J3 x) (NV px pt pd x) (fun k=>k=pt\/k=pd) H:=by
 rintro w ⟨m,d⟩ v a hH ⟨jx,jt,jd⟩ hv0 hv1 ha0 ha1;have cx:=jx.cell;have ct:=jt.cell;have ft:=jt.frozen;have cd:=jd.cell;have fd:=jd.frozen;have hlx:px<w.heap.size:=aA;have hlt:pt<w.heap.size:=aA;have hld:pd<w.heap.size:=aA;have h1':=Ne.symm h1;have h2':=Ne.symm h2;have h3':=Ne.symm h3;have JX:=hid jx;have JT:=hid jt;have JD:=hid jd;clear jx jt jd;simp only at ct cd JT JD;show Calls Tryz.prog 68 #[O S v,O S a,X (some ⟨px,0,Y⟩),X (some ⟨pt,0,Y⟩),X (some ⟨pd,0,Y⟩)] w _;by_cases h:v-a=x
 · have hb:(v-a==x)=true:=by simp [h]
   have HH:=hid h;clear h;go_in;go_wp2_with fail
   all_goals
    go_ret;first
     | exact ⟨rfl,z8 (y:=a) h1 h2 h3 JX.o JT.o JD.o HH.o rfl aA⟩
     | exact ⟨rfl,z8 (y:=d) h1 h2 h3 JX.o JT.o JD.o HH.o rfl aA⟩
 have hb:(v-a==x)=false:=by simp [h]
 have HH:=hid h;clear h;go_in;go_wp2_with fail
 go_ret;refine ⟨rfl,aG.refl _ _ _,?_⟩;simp only [J3];rw [if_neg HH.o];exact ⟨JX.o,JT.o,JD.o⟩
def N1 (px pd:Nat) (x d:Int) (w:World) (_:Unit):Prop:=aD w px 3 #[O S x]/\aD w pd 3 #[O S d]
theorem GC {px pd H:Nat} {x d:Int} (hx:px<H) (hd:pd<H) (hx0:0<=x) (hx1:x<=1048577) (hd0:0<=d) (hd1:d<=1000000000000) :
 tN Tryz.prog 69 #[X (some ⟨px,0,Y⟩),X (some ⟨pd,0,Y⟩)] (DC fun v a=>decide (a<=v)&&decide (1048576<v-a+x+d)) (N1 px pd x d) (fun _=>False) H:=by
 rintro w t v a hH ⟨jx,jd⟩ hv0 hv1 ha0 ha1;have cx:=jx.cell;have cd:=jd.cell;have hlx:px<w.heap.size:=aA;have hld:pd<w.heap.size:=aA;have JX:=hid jx;have JD:=hid jd;clear jx jd;show Calls Tryz.prog 69 #[O S v,O S a,X (some ⟨px,0,Y⟩),X (some ⟨pd,0,Y⟩)] w _;by_cases h:a<=v
 · have hw1:IntKind.i64.wrap (v-a+x)=v-a+x:=IntWalk.i64_in _ aA;have hw2:IntKind.i64.wrap (v-a+x+d)=v-a+x+d:=IntWalk.i64_in _ aA;go_in;go_wp2_with fail
   go_ret;exact ⟨eS (by simp only [DC];simp [h]),aG.refl _ _ _,JX.o,JD.o⟩
 have hb:decide (a<=v)=false:=by simp;omega
 go_in;go_wp2_with fail
 go_ret;exact ⟨eS (by simp only [DC];simp;omega),aG.refl _ _ _,JX.o,JD.o⟩
structure Put where
 n:Nd
 a:List Nd
 k:Fo
def i8 (u:Put) (x:Int):bV Unit where
 em:=fun _ n a=>if n.op=1/\n.a=x+a then (fJ (x+a) 0).E1 0 () u.n u.a u.k else if n.op=1/\x+a<n.a then [⟨n.op,n.a-1,n.b⟩] else [n]
 nx:=fun _ _ _=>()
 ok:=fun _ _ _=>true
 dm:=fun _ n a=>n.op=1/\n.a=x+a->(fJ (x+a) 0).G1 0 () u.n u.k=true
def NA (px pu:Nat) (x:Int) (R:Nat->Prop) (A:Option Addr) (nn c:Nat) (l:List Nd) (w:World) (_:Unit):Prop:=aD w px 3 #[O S x]/\aD w pu 28 #[.slice A nn c]/\bA R w A nn c l
def NB (px pu:Nat) (R:Nat->Prop) (k:Nat):Prop:=k=px\/k=pu\/R k
theorem yZ {px pu:Nat} {x:Int} {R:Nat->Prop} {A:Option Addr} {nn c:Nat} {l:List Nd} {w w':World} {s:Unit} (h:NA px pu x R A nn c l w s) (hk:∀ k,NB px pu R k->w'.heap[k]? = w.heap[k]?):NA px pu x R A nn c l w' s :=
 ⟨h.1.same (hk _ (.inl rfl)),h.2.1.same (hk _ (.inr (.inl rfl))),h.2.2.keep fun b hb=>⟨hb,fun o=>aH (hk b (.inr (.inr hb))) o⟩⟩
theorem nW {u:Put} {x:Int} {px pu:Nat} {R:Nat->Prop} {A:Option Addr} {nn c:Nat} {l:List Nd} {base:Nat} {pan:List PanicEntry} {w w':World} {s:Unit} {v v':Value} {o l':List Nd} {n:Nd} {a:Int} (hj:NA px pu x R A nn c l w s) (hk:∀ k,v.ownBlock=some k->¬ NB px pu R k) (hlt:∀ k,NB px pu R k->k<w.heap.size)
 (hm:aG (fun _=>False) v.ownBlock w w') (hown:bE w' base v' (o++l')) (he:(i8 u x).em () n a=l') (hn:eX v v' w) :
 nD (i8 u x) (NA px pu x R A nn c l) (fun _=>False) base pan w s v o n a (.returned v') w':=by
 refine .inl ⟨rfl,hm,yZ hj (fun k h=>hm.block k (hlt k h) (fun h=>h) (fun e=>hk k e.symm h)),_,rfl,?_,hn⟩;show bE w' base v' (o++(i8 u x).em () n a);rw [he];exact hown
set_option linter.unusedSimpArgs false in
theorem GD {px pu:Nat} {x:Int} {R:Nat->Prop} {A:Option Addr} {nn c:Nat} {l:List Nd} {base H M:Nat} {pan:List PanicEntry} {u:Put} (hpx:px<H) (hpu:pu<H) (hR:∀ b,R b->b<H) (hb:base<=H) (hM:M<=1000000000000) (hx0:0<=x) (hx1:x<=1048577) (hpp:pp [false] l=some (.cons [] u.n u.a u.k .nil,[])) (hsz:4*aL u.k<=1000000000000) :
 xJ Tryz.prog 71 #[X (some ⟨px,0,Y⟩),X (some ⟨pu,0,Y⟩)] (i8 u x) (NA px pu x R A nn c l) (NB px pu R) (fun _=>False) base H pan M:=by
 intro w s v o n a hH hj hown hkk hok hdm ha0 ha1 hlen;obtain ⟨Av,cv,rfl⟩:=hown.slice;have hpl:bD n.op n.a n.b=true:=by simp only [dG,Bool.and_eq_true] at hok;exact hok.1.1
 obtain ⟨hna0,hna1⟩:=eN hpl;have hlt:∀ k,NB px pu R k->k<w.heap.size:=fun k hk=>by
  rcases hk with h | h | h
  · omega
  · omega
  have:=hR k h;omega
 have cx:=hj.1.cell;have cu:=hj.2.1.cell;have hlx:px<w.heap.size:=aA;have hlu:pu<w.heap.size:=aA;have hbs:base<=w.heap.size:=aA;obtain ⟨i0,hi,hy0,hy1,hy2⟩:=info_parts infoN;have HI0:=hid hi;have HY0:=hid hy0;have HY1:=hid hy1;have HY2:=hid hy2;have HOWN:=hid hown;have HJ:=hid hj;have HKK:=hid hkk;have HLEN:=hid hlen;have HLT:=hid hlt;have HDM:=hid hdm;have HPP:=hid hpp;have HSZ:=hid hsz;have HR:=hid hR;clear hi hy0 hy1 hy2 hown hj hkk hok hpl hlen hlt hdm hpp hsz hR;show Calls Tryz.prog 71 #[.slice Av o.length cv,.agg #[O S n.op,O S n.a,O S n.b],O S a,X (some ⟨px,0,Y⟩),X (some ⟨pu,0,Y⟩)] w _;have hw1:IntKind.i64.wrap (x+a)=x+a:=IntWalk.i64_in _ aA;by_cases h1:n.op=1;rotate_left
 · have h1b:(n.op==1)=false:=by simp [h1]
   have he:(i8 u x).em () n a=[n]:=by
    show (if _ then _ else if _ then _ else _)=_;rw [if_neg (fun h=>h1 h.1),if_neg (fun h=>h1 h.1)]
   have hl:o.length+1<=1000000000000:=by have:=HLEN.o;rw [he] at this;simp at this;omega
   have HE:=hid he;clear he h1;go_in;go_wp2_with (at_builtin;refine a8 rfl (bT (.tmp 47) (.tmp 49) 28 rfl base i0 Tryz.underlying28 HI0.o HY0.o HY1.o HY2.o (.slice Av o.length cv) o n (w.alloc (.cells #[O S n.op,O S n.a,O S n.b] 40)) (by rfl) (by rfl) (HOWN.o.alloc _) _ (by rfl) (by simp) aA (by simp;omega) ?_);intro A' c' w' hown' happ)
   go_ret;exact nW HJ.o HKK.o HLT.o ((aG.of_below (aB _ _)).trans (aG.of_grown happ.grown) (fun g hg=>.inl hg)) hown' HE.o (fun g hg=>(happ.new g hg).imp id (fun h=>by simp at h;omega))
 have h1b:(n.op==1)=true:=by simp [h1]
 by_cases h2:n.a=x+a
 · have h2b:(n.a==x+a)=true:=by simp [h2]
   have he:(i8 u x).em () n a=(fJ (x+a) 0).E1 0 () u.n u.a u.k:=if_pos ⟨h1,h2⟩;have hg:(fJ (x+a) 0).G1 0 () u.n u.k=true:=HDM.o ⟨h1,h2⟩;have hl:o.length+((fJ (x+a) 0).E1 0 () u.n u.a u.k).length<=1000000000000:=by have:=HLEN.o;rw [he] at this;omega
   have HE:=hid he;have HG:=hid hg;have HL:=hid hl;clear he hg hl h1 h2;go_in;go_wp2_with fail
   have hba:Below w.heap.size w (w.alloc (.cells #[O S n.op,O S n.a,O S n.b] 40)):=aB _ _;refine (mY (R:=R) (base:=base) (by simp;omega) (fun b hb=>by have:=HR.o b hb;simp;omega) (HJ.o.2.2.keep fun b hb=>⟨hb,fun o=>aH (hba.block b (by have:=HR.o b hb;omega)) o⟩) (HOWN.o.alloc _) (fun g hg hr=>HKK.o g hg (.inr (.inr hr))) HPP.o HSZ.o HL.o aA aA (Int.le_refl 0) aA).mono ?_;rintro e w3 ⟨hm3,(⟨_,v',rfl,hown3,hnr⟩ | ⟨hg,_⟩)⟩
   · have HM3:=hid hm3;have HO3:=hid hown3;have HN3:=hid hnr;clear hm3 hown3 hnr;go_wp2_with fail
     go_ret;exact nW HJ.o HKK.o HLT.o (aG.over hba HM3.o (fun _ _ h=>h)) HO3.o HE.o (fun g hg=>(HN3.o g hg).imp id (fun h=>Nat.le_trans hba.size h))
   rw [HG.o] at hg;cases hg
 have h2b:(n.a==x+a)=false:=by simp [h2]
 by_cases h3:x+a<n.a
 · have he:(i8 u x).em () n a=[⟨n.op,n.a-1,n.b⟩]:=by
    show (if _ then _ else if _ then _ else _)=_;rw [if_neg (fun h=>h2 h.2),if_pos ⟨h1,h3⟩]
   have hl:o.length+1<=1000000000000:=by have:=HLEN.o;rw [he] at this;simp at this;omega
   have HE:=hid he;clear he h1 h2;go_in;go_wp2_with (at_builtin;refine a8 rfl (bT (.tmp 47) (.tmp 49) 28 rfl base i0 Tryz.underlying28 HI0.o HY0.o HY1.o HY2.o (.slice Av o.length cv) o ⟨n.op,n.a-1,n.b⟩ (w.alloc (.cells #[O S n.op,O S (n.a-1),O S n.b] 40)) (by rfl) (by rfl) (HOWN.o.alloc _) _ (by rfl) (by simp) aA (by simp;omega) ?_);intro A' c' w' hown' happ)
   go_ret;exact nW HJ.o HKK.o HLT.o ((aG.of_below (aB _ _)).trans (aG.of_grown happ.grown) (fun g hg=>.inl hg)) hown' HE.o (fun g hg=>(happ.new g hg).imp id (fun h=>by simp at h;omega))
 have h3b:decide (x+a<n.a)=false:=by simp;omega
 have he:(i8 u x).em () n a=[n]:=by
  show (if _ then _ else if _ then _ else _)=_;rw [if_neg (fun h=>h2 h.2),if_neg (fun h=>h3 h.2)]
 have hl:o.length+1<=1000000000000:=by have:=HLEN.o;rw [he] at this;simp at this;omega
 have HE:=hid he;clear he h1 h2;go_in;go_wp2_with (at_builtin;refine a8 rfl (bT (.tmp 47) (.tmp 49) 28 rfl base i0 Tryz.underlying28 HI0.o HY0.o HY1.o HY2.o (.slice Av o.length cv) o n (w.alloc (.cells #[O S n.op,O S n.a,O S n.b] 40)) (by rfl) (by rfl) (HOWN.o.alloc _) _ (by rfl) (by simp) aA (by simp;omega) ?_);intro A' c' w' hown' happ)
 go_ret;exact nW HJ.o HKK.o HLT.o ((aG.of_below (aB _ _)).trans (aG.of_grown happ.grown) (fun g hg=>.inl hg)) hown' HE.o (fun g hg=>(happ.new g hg).imp id (fun h=>by simp at h;omega))
end
end Go.Proofs.YtjllmblbbgojbaaGreat
