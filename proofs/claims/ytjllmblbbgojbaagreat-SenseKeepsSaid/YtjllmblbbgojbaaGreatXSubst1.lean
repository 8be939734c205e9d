/- Merged: Sub, LiftG, Subst1. -/
import Derived.Test.YtjllmblbbgojbaaGreatXBooks
namespace Go.Proofs.YtjllmblbbgojbaaGreat
set_option linter.unusedVariables false
set_option linter.unusedSimpArgs false
open Go.RowKit
open Go.Value renaming int → O, pointer → X
open Go.IntKind renaming i64 → S
open Option renaming none → Y
theorem yY:∀(k:Nat) (last:Int) (l:List Nd) (p:List Nd×List Nd),bI k last l=some p->∀m ∈ p.1,m.op=3
 | 0,_,_,p,h,m,hm=>by
  simp only[bI,Option.some.injEq] at h;subst h;cases hm
 | k+1,last,[],p,h,m,hm=>by simp[bI] at h
 | k+1,last,x::l,p,h,m,hm=>by
  simp only[bI] at h;split at h
  · rename_i hc
    simp only[Option.map_eq_some_iff] at h;obtain⟨q,hq,rfl⟩:=h;rcases List.mem_cons.1 hm with rfl | hm
    · exact hc.1
    exact yY k x.a l q hq m hm
  · cases h
def eY (l:List Nd):TT:=match pp [false] l with
 | some (.cons _ n a k _,_)=>(n,a,k)
 | none=>(default,[],.nil)
 | some (.nil,_)=>(default,[],.nil)
theorem I0 {l:List Nd} {n:Nd} {a:List Nd} {k:Fo} (h:Rt l n a k):eY l=(n,a,k):=by
 unfold eY;rw[h.pp]
theorem sD:∀{L:List Int},iB L=0->∀e ∈ L,e=0
 | [],_,e,he=>by cases he
 | x::r,h,e,he=>by
  simp only[iB] at h;split at h
  · rename_i h1;exact absurd h h1
  · rename_i h1
    rcases List.mem_cons.1 he with rfl | he
    · exact Decidable.not_not.1 h1
    exact sD h e he
theorem zK {b:Bk} {known:Int} {x:En} (h:cO b known x=0):x.ctors.length<=16/\∀c ∈ x.ctors,c.args.length<=16:=by
 unfold cO at h;split at h
 rotate_left
 · split at h
   · split at h
     · cases h
     rename_i h3
     have:x.ctors=[]:=List.eq_nil_of_length_eq_zero aA;rw[this];exact⟨by simp,fun c hc=>by cases hc⟩
   cases h
 split at h
 · cases h
 split at h
 · cases h
 rename_i h1 h2 h3
 refine⟨by omega,?_⟩;have hc:fR b known x x.ctors=0:=by
  exact sD h _ aD
 generalize x.ctors=L at hc;clear h h1 h2 h3
 induction L with
 | nil=>intro c hc;cases hc
 | cons c r ih =>
  simp only[fR] at hc;split at hc
  · cases hc
  · rename_i h1
    split at hc
    · cases hc
    split at hc
    · rename_i h2;exact absurd hc h2
    split at hc
    · rename_i h3;exact absurd hc h3
    intro c' hc';rcases List.mem_cons.1 hc' with rfl | hc'
    · omega
    exact ih hc c' hc'
theorem m4 {b:Bk} : ∀{L:List En} {i:Nat},cR b i L=0->∀x ∈ L,x.ctors.length<=16/\∀c ∈ x.ctors,c.args.length<=16
 | [],_,_,x,hx=>by cases hx
 | y::r,i,h,x,hx=>by
  rw[show cR b i (y::r)=if cO b i y ≠ 0 then cO b i y else cR b (i+1) r from rfl] at h;split at h
  · rename_i h1;exact absurd h h1
  · rename_i h1
    rcases List.mem_cons.1 hx with rfl | hx
    · exact zK (Decidable.not_not.1 h1)
    exact m4 h x hx
theorem AU {b:Bk} (h:cT b=0) : ∀x ∈ b.entries,x.ctors.length<=16/\∀c ∈ x.ctors,c.args.length<=16:=by
 unfold cT at h;split at h
 · rename_i h1;exact absurd h h1
 split at h
 · cases h
 split at h
 · rename_i h1;exact absurd h h1
 rename_i h1
 exact m4 (Decidable.not_not.1 h1)
theorem sE {b:Bk} {free:Int} {l:List Nd} (h:fT b free l=0):cT b=0/\0<=free/\fM b b.entries.length (-1) l free=0:=by
 unfold fT at h;split at h
 · rename_i h1;exact absurd h h1
 rename_i h1
 split at h
 · cases h
 rename_i h2
 exact⟨Decidable.not_not.1 h1,by omega,h⟩
theorem vW {b:Bk} {known self below:Int} {l:List Nd} (h:fM b known self l below=0):bC l=0/\fZ l below=true/\∀m ∈ l,bZ b known self m=true:=by
 unfold fM at h;split at h
 · rename_i h1;exact absurd h h1
 rename_i h1
 split at h
 · cases h
 rename_i h2
 split at h
 · rename_i h3
   exact⟨Decidable.not_not.1 h1,by simpa using h2,List.all_eq_true.1 h3⟩
 cases h
theorem B7:∀(F:Fo) (dl:List Bool),Wf dl F->PQ F
 | .nil,_,_=>trivial
 | .cons _ _ _ _ _,[],h=>h.elim
 | .cons p n a k x,d::dr,h=>by
  obtain⟨_,hok,_,hk,hx⟩:=h;refine⟨fun h12 => ?_,B7 k _ hk,B7 x _ hx⟩;simp only[eE,Bool.and_eq_true] at hok;exact (iX hok.1.1).1
theorem EN {n:Nd} (h:n.op=1):ds n=[]:=by simp[ds,dU,h]
theorem qI:∀(F:Fo) (dl:List Bool),Wf dl F->O4 F
 | .nil,_,_=>trivial
 | .cons _ _ _ _ _,[],h=>h.elim
 | .cons p n a k x,d::dr,h=>by
  obtain⟨_,hok,hat,hk,hx⟩:=h;refine⟨fun h1 => ?_,qI k _ hk,qI x _ hx⟩;rw[EN h1] at hk;constructor
  · unfold iY at hat;rw[if_neg aA] at hat;exact hat
  · cases k with
    | nil=>rfl
    | cons _ _ _ _ _=>exact hk.elim
theorem FJ (up fr:Int) (p:List Nd) (n:Nd) (a:List Nd) (k:Fo):sS up fr 0 0 0 0 (.cons p n a k .nil)=.cons p (rH up fr n 0) a (sS up fr n.op n.b 0 0 k) .nil:=rfl
theorem DT {up fr:Int} (pop pb:Int) : ∀(j:Nat) (a:Int) (F:Fo),∀m ∈ row (sS up fr pop pb j a F),m ∈ row F\/m.op=1
 | _,_,.nil,m,hm=>by simp[sS,row] at hm
 | j,a,.cons p n ats k x,m,hm=>by
  simp only[sS,row,List.mem_append,List.mem_cons] at hm ⊢;rcases hm with hm | rfl | hm | hm | hm
  · exact .inl (.inl hm)
  · unfold rH;split
    · rename_i h;exact .inr h.1
    exact .inl (.inr (.inl rfl))
  · exact .inl (.inr (.inr (.inl hm)))
  · rcases DT n.op n.b 0 _ k m hm with h | h
    · exact .inl (.inr (.inr (.inr (.inl h))))
    exact .inr h
  · rcases DT pop pb (j+1) a x m hm with h | h
    · exact .inl (.inr (.inr (.inr (.inr h))))
    exact .inr h
theorem G2 {b:Bk} {known self:Int} {m:Nd} (h:m.op=1):bZ b known self m=true:=by
 unfold bZ;rw[if_neg aA,if_neg aA,if_neg aA,if_neg aA,if_neg aA]
theorem NK {b:Bk} {known self below:Int} {l:List Nd} (h1:bC l=0) (h2:fZ l below=true) (h3:∀m ∈ l,bZ b known self m=true):fM b known self l below=0:=by
 unfold fM;rw[h1,if_neg aD,h2,if_neg aD,if_pos (List.all_eq_true.2 h3)]
theorem M0 {b:Bk} {free:Int} {l:List Nd} (h1:cT b=0) (h2:0<=free) (h3:fM b b.entries.length (-1) l free=0):fT b free l=0:=by
 unfold fT;rw[h1,if_neg aD,if_neg aA,h3]
theorem JG {l:List Nd} {n:Nd} {a:List Nd} {k:Fo} (h:Rt l n a k) (v:Int):fZ l v = !nW (fun x z=>decide (max v 0<=x-z)) 0 n k:=by
 unfold fZ O5;rw[h.shape,h.pp];simp
section
open Go.Lib renaming hid->aB
set_option maxHeartbeats 1000000
set_option maxRecDepth 100000
def MA (x:Int):FZ (Int×Int) := { an:=fun _ _ _=>false,nx:=fun t v a=>if v-a=x then (wrap64 (t.1+1),max t.2 a) else t }
def P2 (px pt pd:Nat) (x:Int) (w:World) (t:Int×Int):Prop:=aS w px 3 #[O S x]/\aS w pt 3 #[O S t.1]/\aS w pd 3 #[O S t.2]
theorem BJ {px pt pd:Nat} {x m d v a m' y:Int} {w:World} (h1:px ≠ pt) (h2:px ≠ pd) (h3:pt ≠ pd) (jx:aS w px 3 #[O S x]) (jt:aS w pt 3 #[O S m]) (jd:aS w pd 3 #[O S d]) (h:v-a=x) (hm:m'=wrap64 (m+1)) (hy:y=max d a) :
 aW (fun k=>k=pt\/k=pd) Y w ((w.setCell ⟨pt,0,Y⟩ (O S m')).setCell ⟨pd,0,Y⟩ (O S y))/\P2 px pt pd x ((w.setCell ⟨pt,0,Y⟩ (O S m')).setCell ⟨pd,0,Y⟩ (O S y)) ((MA x).nx (m,d) v a):=by
 subst hm hy;refine⟨((aW.refl _ _ w).setCell (p:=⟨pt,0,Y⟩) (.inl rfl) _).setCell (p:=⟨pd,0,Y⟩) (.inr rfl) _,?_⟩;simp only[MA];rw[if_pos h];refine⟨(jx.far (p:=⟨pt,0,Y⟩) h1 _).far (p:=⟨pd,0,Y⟩) h2 _,?_,?_⟩
 · have:=(jt.set_ 0 (O S (wrap64 (m+1)))).far (p:=⟨pd,0,Y⟩) h3 (O S (max d a));simpa using this
 have:=(jd.far (p:=⟨pt,0,Y⟩) (Ne.symm h3) (O S (wrap64 (m+1)))).set_ 0 (O S (max d a));simpa using this
theorem IU {px pt pd H:Nat} {x:Int} (hx:px<H) (ht:pt<H) (hd:pd<H) (h1:px ≠ pt) (h2:px ≠ pd) (h3:pt ≠ pd) :
 uT Tryz.prog 68 #[X (some ⟨px,0,Y⟩),X (some ⟨pt,0,Y⟩),X (some ⟨pd,0,Y⟩)] (MA x) (P2 px pt pd x) (fun k=>k=pt\/k=pd) H:=by
 rintro w ⟨m,d⟩ v a hH ⟨jx,jt,jd⟩ hv0 hv1 ha0 ha1;have cx:=jx.cell;have ct:=jt.cell;have ft:=jt.frozen;have cd:=jd.cell;have fd:=jd.frozen;have h3':=Ne.symm h3;have JX:=aB jx;have JT:=aB jt;have JD:=aB jd;clear jx jt jd;simp only at ct cd JT JD;show Calls Tryz.prog 68 #[O S v,O S a,X (some ⟨px,0,Y⟩),X (some ⟨pt,0,Y⟩),X (some ⟨pd,0,Y⟩)] w _;by_cases h:v-a=x
 · have hb:(v-a==x)=true:=by simp[h]
   have HH:=aB h;clear h;go_in;go_wp2_with fail;all_goals
    go_ret;first
     | exact⟨rfl,BJ (y:=a) h1 h2 h3 JX.o JT.o JD.o HH.o rfl aA⟩
     | exact⟨rfl,BJ (y:=d) h1 h2 h3 JX.o JT.o JD.o HH.o rfl aA⟩
 have hb:(v-a==x)=false:=by simp[h]
 have HH:=aB h;clear h;go_in;go_wp2_with fail;go_ret;refine⟨rfl,aW.refl _ _ _,?_⟩;simp only[MA];rw[if_neg HH.o];exact⟨JX.o,JT.o,JD.o⟩
def P9 (px pd:Nat) (x d:Int) (w:World) (_:Unit):Prop:=aS w px 3 #[O S x]/\aS w pd 3 #[O S d]
theorem IV {px pd H:Nat} {x d:Int} (hx:px<H) (hd:pd<H) (hx0:0<=x) (hx1:x<=1048577) (hd0:0<=d) (hd1:d<=1000000000000) :
 uT Tryz.prog 69 #[X (some ⟨px,0,Y⟩),X (some ⟨pd,0,Y⟩)] (EQ fun v a=>decide (a<=v)&&decide (1048576<v-a+x+d)) (P9 px pd x d) (fun _=>False) H:=by
 rintro w t v a hH ⟨jx,jd⟩ hv0 hv1 ha0 ha1;have cx:=jx.cell;have cd:=jd.cell;have JX:=aB jx;have JD:=aB jd;clear jx jd;show Calls Tryz.prog 69 #[O S v,O S a,X (some ⟨px,0,Y⟩),X (some ⟨pd,0,Y⟩)] w _;by_cases h:a<=v
 · have hw1:IntKind.i64.wrap (v-a+x)=v-a+x:=IntWalk.i64_in _ aA;have hw2:IntKind.i64.wrap (v-a+x+d)=v-a+x+d:=IntWalk.i64_in _ aA;go_in;go_wp2_with fail;go_ret;exact⟨fQ (by simp only[EQ];simp[h]),aW.refl _ _ _,JX.o,JD.o⟩
 have hb:decide (a<=v)=false:=by simp;omega
 go_in;go_wp2_with fail;go_ret;exact⟨fQ (by simp only[EQ];simp;omega),aW.refl _ _ _,JX.o,JD.o⟩
structure Put where
 n:Nd
 a:List Nd
 k:Fo
def nB (u:Put) (x:Int):cV Unit where
 em:=fun _ n a=>if n.op=1/\n.a=x+a then (jB (x+a) 0).E1 0 () u.n u.a u.k else if n.op=1/\x+a<n.a then [⟨n.op,n.a-1,n.b⟩] else [n]
 nx:=fun _ _ _=>()
 ok:=fun _ _ _=>true
 dm:=fun _ n a=>n.op=1/\n.a=x+a->(jB (x+a) 0).G1 0 () u.n u.k=true
def O7 (px pu:Nat) (x:Int) (R:Nat->Prop) (A:Option Addr) (nn c:Nat) (l:List Nd) (w:World) (_:Unit):Prop:=aS w px 3 #[O S x]/\aS w pu 28 #[.slice A nn c]/\bP R w A nn c l
def O8 (px pu:Nat) (R:Nat->Prop) (k:Nat):Prop:=k=px\/k=pu\/R k
theorem AJ {px pu:Nat} {x:Int} {R:Nat->Prop} {A:Option Addr} {nn c:Nat} {l:List Nd} {w w':World} {s:Unit} (h:O7 px pu x R A nn c l w s) (hk:∀k,O8 px pu R k->w'.heap[k]? = w.heap[k]?):O7 px pu x R A nn c l w' s :=
 ⟨h.1.same (hk _ (.inl rfl)),h.2.1.same (hk _ (.inr (.inl rfl))),h.2.2.keep fun b hb=>⟨hb,fun o=>aU (hk b (.inr (.inr hb))) o⟩⟩
theorem oV {u:Put} {x:Int} {px pu:Nat} {R:Nat->Prop} {A:Option Addr} {nn c:Nat} {l:List Nd} {base:Nat} {pan:List PanicEntry} {w w':World} {s:Unit} {v v':Value} {o l':List Nd} {n:Nd} {a:Int} (hj:O7 px pu x R A nn c l w s) (hk:∀k,v.ownBlock=some k->¬ O8 px pu R k) (hlt:∀k,O8 px pu R k->k<w.heap.size)
 (hm:aW (fun _=>False) v.ownBlock w w') (hown:bR w' base v' (o++l')) (he:(nB u x).em () n a=l') (hn:fW v v' w) :
 nY (nB u x) (O7 px pu x R A nn c l) (fun _=>False) base pan w s v o n a (.returned v') w':=by
 refine .inl ⟨rfl,hm,AJ hj (fun k h=>hm.block k (hlt k h) (fun h=>h) (fun e=>hk k e.symm h)),_,rfl,?_,hn⟩;show bR w' base v' (o++(nB u x).em () n a);rw[he];exact hown
theorem IW {px pu:Nat} {x:Int} {R:Nat->Prop} {A:Option Addr} {nn c:Nat} {l:List Nd} {base H M:Nat} {pan:List PanicEntry} {u:Put} (hpx:px<H) (hpu:pu<H) (hR:∀b,R b->b<H) (hb:base<=H) (hM:M<=1000000000000) (hx0:0<=x) (hx1:x<=1048577) (hpp:pp [false] l=some (.cons [] u.n u.a u.k .nil,[])) (hsz:4*a7 u.k<=1000000000000) :
 yS Tryz.prog 71 #[X (some ⟨px,0,Y⟩),X (some ⟨pu,0,Y⟩)] (nB u x) (O7 px pu x R A nn c l) (O8 px pu R) (fun _=>False) base H pan M:=by
 intro w s v o n a hH hj hown hkk hok hdm ha0 ha1 hlen;obtain⟨Av,cv,rfl⟩:=hown.slice;have hpl:bW n.op n.a n.b=true:=by simp only[eE,Bool.and_eq_true] at hok;exact hok.1.1
 obtain⟨hna0,hna1⟩:=fK hpl;have hlt:∀k,O8 px pu R k->k<w.heap.size:=fun k hk=>by
  rcases hk with h | h | h
  · omega
  · omega
  have:=hR k h;omega
 have cx:=hj.1.cell;have cu:=hj.2.1.cell;have hlx:px<w.heap.size:=aA;have hlu:pu<w.heap.size:=aA;have hbs:base<=w.heap.size:=aA;obtain⟨i0,hi,hy0,hy1,hy2⟩:=info_parts infoN;have HI0:=aB hi;have HY0:=aB hy0;have HY1:=aB hy1;have HY2:=aB hy2;have HOWN:=aB hown;have HJ:=aB hj;have HKK:=aB hkk;have HLEN:=aB hlen;have HLT:=aB hlt;have HDM:=aB hdm;have HPP:=aB hpp;have HSZ:=aB hsz;have HR:=aB hR;clear hi hy0 hy1 hy2 hown hj hkk hok hpl hlen hlt hdm hpp hsz hR;show Calls Tryz.prog 71 #[.slice Av o.length cv,.agg #[O S n.op,O S n.a,O S n.b],O S a,X (some ⟨px,0,Y⟩),X (some ⟨pu,0,Y⟩)] w _;have hw1:IntKind.i64.wrap (x+a)=x+a:=IntWalk.i64_in _ aA;by_cases h1:n.op=1;rotate_left
 · have h1b:(n.op==1)=false:=by simp[h1]
   have he:(nB u x).em () n a=[n]:=by
    show (if _ then _ else if _ then _ else _)=_;rw[if_neg (fun h=>h1 h.1),if_neg (fun h=>h1 h.1)]
   have hl:o.length+1<=1000000000000:=by have:=HLEN.o;rw[he] at this;simp at this;omega
   have HE:=aB he;clear he h1;go_in;go_wp2_with (at_builtin;refine bM rfl (cK (.tmp 47) (.tmp 49) 28 rfl base i0 Tryz.underlying28 HI0.o HY0.o HY1.o HY2.o (.slice Av o.length cv) o n (w.alloc (.cells #[O S n.op,O S n.a,O S n.b] 40)) aF aF (HOWN.o.alloc _) _ aF aD aA aG ?_);intro A' c' w' hown' happ)
   go_ret;exact oV HJ.o HKK.o HLT.o ((aW.of_below (aP _ _)).trans (aW.of_grown happ.grown) (fun g hg=>.inl hg)) hown' HE.o (fun g hg=>(happ.new g hg).imp id (fun h=>by simp at h;omega))
 have h1b:(n.op==1)=true:=by simp[h1]
 by_cases h2:n.a=x+a
 · have h2b:(n.a==x+a)=true:=by simp[h2]
   have he:(nB u x).em () n a=(jB (x+a) 0).E1 0 () u.n u.a u.k:=if_pos ⟨h1,h2⟩;have hg:(jB (x+a) 0).G1 0 () u.n u.k=true:=HDM.o ⟨h1,h2⟩;have hl:o.length+((jB (x+a) 0).E1 0 () u.n u.a u.k).length<=1000000000000:=by have:=HLEN.o;rw[he] at this;omega
   have HE:=aB he;have HG:=aB hg;have HL:=aB hl;clear he hg hl h1 h2;go_in;go_wp2_with fail;have hba:Below w.heap.size w (w.alloc (.cells #[O S n.op,O S n.a,O S n.b] 40)):=aP _ _;refine (nS (R:=R) (base:=base) aG (fun b hb=>by have:=HR.o b hb;simp;omega) (HJ.o.2.2.keep fun b hb=>⟨hb,fun o=>aU (hba.block b (by have:=HR.o b hb;omega)) o⟩) (HOWN.o.alloc _) (fun g hg hr=>HKK.o g hg (.inr (.inr hr))) HPP.o HSZ.o HL.o aA aA (Int.le_refl 0) aA).mono ?_;rintro e w3 ⟨hm3,(⟨_,v',rfl,hown3,hnr⟩ | ⟨hg,_⟩)⟩
   · have HM3:=aB hm3;have HO3:=aB hown3;have HN3:=aB hnr;clear hm3 hown3 hnr;go_wp2_with fail;go_ret;exact oV HJ.o HKK.o HLT.o (aW.over hba HM3.o (fun _ _ h=>h)) HO3.o HE.o (fun g hg=>(HN3.o g hg).imp id (fun h=>Nat.le_trans hba.size h))
   rw[HG.o] at hg;cases hg
 have h2b:(n.a==x+a)=false:=by simp[h2]
 by_cases h3:x+a<n.a
 · have he:(nB u x).em () n a=[⟨n.op,n.a-1,n.b⟩]:=by
    show (if _ then _ else if _ then _ else _)=_;rw[if_neg (fun h=>h2 h.2),if_pos ⟨h1,h3⟩]
   have hl:o.length+1<=1000000000000:=by have:=HLEN.o;rw[he] at this;simp at this;omega
   have HE:=aB he;clear he h1 h2;go_in;go_wp2_with (at_builtin;refine bM rfl (cK (.tmp 47) (.tmp 49) 28 rfl base i0 Tryz.underlying28 HI0.o HY0.o HY1.o HY2.o (.slice Av o.length cv) o ⟨n.op,n.a-1,n.b⟩ (w.alloc (.cells #[O S n.op,O S (n.a-1),O S n.b] 40)) aF aF (HOWN.o.alloc _) _ aF aD aA aG ?_);intro A' c' w' hown' happ)
   go_ret;exact oV HJ.o HKK.o HLT.o ((aW.of_below (aP _ _)).trans (aW.of_grown happ.grown) (fun g hg=>.inl hg)) hown' HE.o (fun g hg=>(happ.new g hg).imp id (fun h=>by simp at h;omega))
 have h3b:decide (x+a<n.a)=false:=by simp;omega
 have he:(nB u x).em () n a=[n]:=by
  show (if _ then _ else if _ then _ else _)=_;rw[if_neg (fun h=>h2 h.2),if_neg (fun h=>h3 h.2)]
 have hl:o.length+1<=1000000000000:=by have:=HLEN.o;rw[he] at this;simp at this;omega
 have HE:=aB he;clear he h1 h2;go_in;go_wp2_with (at_builtin;refine bM rfl (cK (.tmp 47) (.tmp 49) 28 rfl base i0 Tryz.underlying28 HI0.o HY0.o HY1.o HY2.o (.slice Av o.length cv) o n (w.alloc (.cells #[O S n.op,O S n.a,O S n.b] 40)) aF aF (HOWN.o.alloc _) _ aF aD aA aG ?_);intro A' c' w' hown' happ)
 go_ret;exact oV HJ.o HKK.o HLT.o ((aW.of_below (aP _ _)).trans (aW.of_grown happ.grown) (fun g hg=>.inl hg)) hown' HE.o (fun g hg=>(happ.new g hg).imp id (fun h=>by simp at h;omega))
end
end Go.Proofs.YtjllmblbbgojbaaGreat
