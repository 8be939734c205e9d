/- Merged: Guarded, Sub, ProgW. -/
import Derived.Test.YtplecfbdchmogaaGreatDShort2
import Derived.Test.YtplecfbdchmogaaGreatDWrt
import Derived.Test.YtplecfbdchmogaaGreatDFines
import Derived.Test.YtplecfbdchmogaaGreatDBase
import Derived.Test.YtplecfbdchmogaaGreatDBooks
import Derived.Test.YtplecfbdchmogaaGreatDRdC
namespace Go.Proofs.YtplecfbdchmogaaGreat
section
open Go.RowKit
end
section
open Go.RowKit
theorem vT:∀ (k:Nat) (last:Int) (l:List Nd) (p:List Nd×List Nd),aU k last l=some p->∀ m ∈ p.1,m.op=3
 | 0,_,_,p,h,m,hm=>by
  simp only [aU,Option.some.injEq] at h;subst h;cases hm
 | k+1,last,[],p,h,m,hm=>by simp [aU] at h
 | k+1,last,x::l,p,h,m,hm=>by
  simp only [aU] at h;split at h
  · rename_i hc
    simp only [Option.map_eq_some_iff] at h;obtain ⟨q,hq,rfl⟩:=h;rcases List.mem_cons.1 hm with rfl | hm
    · exact hc.1
    exact vT k x.a l q hq m hm
  · cases h
theorem ES {b:Bk} {known self below:Int} {l:List Nd} (h:eW b known self l below=0):aO l=0/\gE l below=true/\∀ m ∈ l,cM b known self m=true:=by
 unfold eW at h;split at h
 · rename_i h1;exact absurd h h1
 rename_i h1
 split at h
 · cases h
 rename_i h2
 split at h
 · rename_i h3
   exact ⟨Decidable.not_not.1 h1,by simpa using h2,List.all_eq_true.1 h3⟩
 cases h
end
section
open Go.RowKit
theorem JX {t:List Nd} (h:aO t=0):m5 t:=by
 refine ⟨?_,fun n hn => ?_⟩
 · unfold aO at h;by_cases h1:4096<t.length
   · rw [if_pos h1] at h;cases h
   omega
 have hp:=p5 h n hn;have h1:=EE hp;have h2:=oO hp;have h3:=kP hp;exact ⟨by omega,h2,by omega⟩
theorem AV {b:Bk} {known self below:Int} {l:List Nd} (h:eW b known self l below=0):m5 l:=JX (ES h).1
theorem mV {b:Bk} {known self step:Int} : ∀ (ls:List (List Nd)) (below:Int),bP b known self step ls below=0->∀ t ∈ ls,m5 t
 | [],_,_,t,h=>by cases h
 | l::r,below,h,t,ht=>by
  simp only [bP] at h;by_cases h1:eW b known self l below ≠ 0
  · rw [if_pos h1] at h;exact absurd h h1
  rw [if_neg h1] at h;rcases List.mem_cons.1 ht with rfl | ht
  · exact AV (Decidable.not_not.1 h1)
  · exact mV r _ h t ht
theorem vV {b:Bk} {known:Int} {x:En} (hi:x.indices.length<=16) : ∀ cs:List Ct,eD b known x cs=0->∀ c ∈ cs,tD c
 | [],_,c,h=>by cases h
 | c::r,h,y,hy=>by
  simp only [eD] at h;by_cases h1:16<c.args.length
  · rw [if_pos h1] at h;cases h
  rw [if_neg h1] at h;by_cases h2:c.outs.length ≠ x.indices.length
  · rw [if_pos h2] at h;cases h
  rw [if_neg h2] at h;by_cases h3:bP b known known 1 c.args x.params.length ≠ 0
  · rw [if_pos h3] at h;exact absurd h h3
  rw [if_neg h3] at h;by_cases h4:bP b known known 0 c.outs ((x.params.length:Int)+c.args.length) ≠ 0
  · rw [if_pos h4] at h;exact absurd h h4
  rw [if_neg h4] at h;rcases List.mem_cons.1 hy with rfl | hy
  · exact ⟨⟨by omega,mV _ _ (Decidable.not_not.1 h3)⟩,⟨by omega,mV _ _ (Decidable.not_not.1 h4)⟩⟩
  · exact vV hi r h y hy
theorem lQ:∀ (l:List Int),fR l=0->∀ e ∈ l,e=0
 | [],_,e,h=>by cases h
 | x::r,h,e,he=>by
  simp only [fR] at h;by_cases h1:x ≠ 0
  · rw [if_pos h1] at h;exact absurd h h1
  rw [if_neg h1] at h;rcases List.mem_cons.1 he with rfl | he
  · exact Decidable.not_not.1 h1
  · exact lQ r h e he
theorem gT {α:Type} {l:List α} (h:l.length=0):l=[]:=List.eq_nil_of_length_eq_zero h
theorem F7 {b:Bk} {known:Int} {x:En} (h:bS b known x=0):kW x:=by
 unfold bS at h;by_cases k1:x.kind=1
 · rw [if_pos k1] at h;by_cases h1:0<x.type.length+x.body.length
   · rw [if_pos h1] at h;cases h
   rw [if_neg h1] at h;by_cases h2:16<x.params.length\/16<x.indices.length\/16<x.ctors.length
   · rw [if_pos h2] at h;cases h
   rw [if_neg h2] at h;have hz:=lQ _ h;have e1:=hz _ (List.mem_cons_self);have e3:=hz (bP b known (-1) 1 x.params 0) (by simp);have e4:=hz (bP b known (-1) 1 x.indices x.params.length) (by simp);have e5:=hz (eD b known x x.ctors) (by simp);exact .inl ⟨k1,⟨AV e1,⟨by omega,mV _ _ e3⟩,⟨by omega,mV _ _ e4⟩,⟨by omega,vV aA _ e5⟩⟩,gT aA,gT aA⟩
 rw [if_neg k1] at h;by_cases k2:x.kind=2
 · rw [if_pos k2] at h;by_cases h1:0<x.sort.length+x.params.length+x.indices.length+x.ctors.length
   · rw [if_pos h1] at h;cases h
   rw [if_neg h1] at h;have hr:=mV _ _ h;exact .inr ⟨k2,⟨hr _ (by simp),hr _ (by simp)⟩,gT aA,gT aA,gT aA,gT aA⟩
 rw [if_neg k2] at h;cases h
theorem rB {b:Bk} : ∀ (es:List En) (i:Nat),bR b i es=0->∀ x ∈ es,kW x
 | [],_,_,x,h=>by cases h
 | y::r,i,h,x,hx=>by
  simp only [bR] at h;by_cases h1:bS b i y ≠ 0
  · rw [if_pos h1] at h;exact absurd h h1
  rw [if_neg h1] at h;rcases List.mem_cons.1 hx with rfl | hx
  · exact F7 (Decidable.not_not.1 h1)
  · exact rB r (i+1) h x hx
theorem G0 {vars:Int} : ∀ (os:List Nd) (g g':GF),k9 vars os g=some g'->∀ o ∈ os,iL vars o=false
 | [],_,_,_,o,h=>by cases h
 | x::r,g,g',h,o,ho=>by
  simp only [k9] at h;by_cases h1:iL vars x=true
  · rw [if_pos h1] at h;cases h
  rw [if_neg h1] at h;rcases List.mem_cons.1 ho with rfl | ho
  · simpa using h1
  · exact G0 r _ _ h o ho
theorem LO {vars:Int} {os:List Nd} (h:(mL vars os).1=0):(0<=vars/\vars<=16)/\os.length<=64/\∀ o ∈ os,iL vars o=false:=by
 unfold mL at h;by_cases h1:vars<0\/16<vars
 · rw [if_pos h1] at h;cases h
 rw [if_neg h1] at h;by_cases h2:64<os.length
 · rw [if_pos h2] at h;cases h
 rw [if_neg h2] at h;refine ⟨by omega,by omega,?_⟩;cases hg:k9 vars os (oI (vars.toNat+1)) with
 | none=>rw [hg] at h;cases h
 | some g=>exact G0 os _ _ hg
def mE (g:GF) (i:Int):Nat:=if 0<(g (-1) i).getD 0 then 0 else 1
theorem xJ {b:Bk} : ∀ (ps:List (Int×Int)) (g:GF),(∀ x y,0<=(g x y).getD 0)->gU b ps g=true->ps.length<=mE g 1+mE g 2+mE g 3/\∀ p ∈ ps,(0<=p.1/\p.1<b.entries.length)/\1<=p.2/\p.2<=3
 | [],_,_,_=>⟨Nat.zero_le _,fun p h=>by cases h⟩
 | p::r,g,hg,h=>by
  simp only [gU] at h;by_cases h1:p.1<0
  · rw [if_pos h1] at h;cases h
  rw [if_neg h1] at h;by_cases h2:(b.entries.length:Int)<=p.1
  · rw [if_pos h2] at h;cases h
  rw [if_neg h2] at h;by_cases h3:(aT b p.1).kind ≠ 2
  · rw [if_pos h3] at h;cases h
  rw [if_neg h3] at h;by_cases h4:p.2<1
  · rw [if_pos h4] at h;cases h
  rw [if_neg h4] at h;by_cases h5:3<p.2
  · rw [if_pos h5] at h;cases h
  rw [if_neg h5] at h;by_cases h6:0<(g p.1 (-1)).getD 0+(g (-1) p.2).getD 0
  · rw [if_pos h6] at h;cases h
  rw [if_neg h6] at h;have hg2:∀ x y,0<=(eM (eM g p.1 (-1) 1) (-1) p.2 1 x y).getD 0:=fun x y=>by
   unfold eM;split
   · decide
   split
   · decide
   exact hg x y
  obtain ⟨i1,i2⟩:=xJ r _ hg2 h;have a1:=hg p.1 (-1);have a2:(g (-1) p.2).getD 0<=0:=aA;have hs:∀ i,mE (eM (eM g p.1 (-1) 1) (-1) p.2 1) i=if i=p.2 then 0 else mE g i:=fun i=>by
   have hv:eM (eM g p.1 (-1) 1) (-1) p.2 1 (-1) i=if i=p.2 then some 1 else g (-1) i:=by
    unfold eM;by_cases e:i=p.2
    · rw [if_pos ⟨rfl,e⟩,if_pos e]
    rw [if_neg (fun hh=>e hh.2),if_neg (fun hh=>h1 aA),if_neg e]
   unfold mE;rw [hv];by_cases e:i=p.2
   · rw [if_pos e,if_pos e];rfl
   rw [if_neg e,if_neg e]
  have hp:mE g p.2=1:=by unfold mE;rw [if_neg aA]
  rw [hs,hs,hs] at i1;refine ⟨?_,fun q hq => ?_⟩
  · have hc:p.2=1\/p.2=2\/p.2=3:=aA;simp only [List.length_cons];rcases hc with e | e | e
    · rw [e] at i1 hp;simp at i1;omega
    · rw [e] at i1 hp;simp at i1;omega
    rw [e] at i1 hp;simp at i1;omega
  · rcases List.mem_cons.1 hq with rfl | hq
    · exact ⟨by omega,by omega⟩
    exact i2 q hq
theorem rT {p:Pg} (h:dU p=0):oQ p:=by
 unfold dU at h;by_cases h1:cZ p.book ≠ 0
 · rw [if_pos h1] at h;exact absurd h h1
 rw [if_neg h1] at h;by_cases h2:eS p.book 0 p.main ≠ 0
 · rw [if_pos h2] at h;exact absurd h h2
 rw [if_neg h2] at h;have hr:=Decidable.not_not.1 h1;have hm:=Decidable.not_not.1 h2;have fw:∀ l,eS p.book 0 l=0->m5 l:=fun l hl=>by
  unfold eS at hl;rw [if_neg h1,if_neg (by decide)] at hl;exact AV hl
 unfold cZ at hr;by_cases c1:(mL p.book.vars p.book.orders).1 ≠ 0
 · rw [if_pos c1] at hr;exact absurd hr c1
 rw [if_neg c1] at hr;by_cases c2:64<p.book.entries.length
 · rw [if_pos c2] at hr;cases hr
 rw [if_neg c2] at hr;by_cases c3:bR p.book 0 p.book.entries ≠ 0
 · rw [if_pos c3] at hr;exact absurd hr c3
 rw [if_neg c3] at hr;by_cases c4:vF p.book=true;rotate_left
 · rw [if_neg c4] at hr;cases hr
 obtain ⟨v1,v2,v3⟩:=LO (Decidable.not_not.1 c1);have hord:BY p.book.orders:=⟨by omega,fun o ho=>by
  have:=v3 o ho;simp only [iL,Bool.or_eq_false_iff,decide_eq_false_iff_not] at this;exact ⟨by omega,by omega,by omega⟩⟩
 have hent:wF p.book.entries:=⟨by omega,rB _ _ (Decidable.not_not.1 c3)⟩;unfold vF at c4;by_cases n1:p.book.nat ≠ -1;rotate_left
 · rw [if_neg n1] at c4;by_cases n3:0<p.book.prims.length
   · rw [if_pos n3] at c4;cases c4
   have:p.book.prims=[]:=gT aA;exact ⟨⟨by omega,hord,hent⟩,by omega,⟨by rw [this];exact Nat.zero_le _,fun q hq=>by rw [this] at hq;cases hq⟩,fw _ hm,fw _ h⟩
 rw [if_pos n1] at c4;by_cases n2:rM p.book p.book.nat=true;rotate_left
 · rw [if_neg n2] at c4;cases c4
 rw [if_pos n2] at c4;obtain ⟨q1,q2⟩:=xJ _ _ (fun _ _=>by simp) c4;have s1:mE (fun _ _=>none) 1+mE (fun _ _=>none) 2+mE (fun _ _=>none) 3=3:=rfl;have hn:0<=p.book.nat/\p.book.nat<p.book.entries.length:=by
  unfold rM at n2;by_cases m1:p.book.nat<0
  · rw [if_pos m1] at n2;cases n2
  rw [if_neg m1] at n2;by_cases m2:(p.book.entries.length:Int)<=p.book.nat
  · rw [if_pos m2] at n2;cases n2
  omega
 exact ⟨⟨by omega,hord,hent⟩,by omega,⟨by omega,fun q hq=>by
  have:=q2 q hq;exact ⟨by omega,by omega⟩⟩,fw _ hm,fw _ h⟩
end
end Go.Proofs.YtplecfbdchmogaaGreat
