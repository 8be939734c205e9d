/- Numbers and rows as bytes: plain. -/
import Derived.Test.YtplecfbdchmogaaGreatDBase
namespace Go.Proofs.YtplecfbdchmogaaGreat
open Go.RowKit
def cL:Nat->Nat->List Nat
 | 0,n=>[n % 256]
 | k+1,n=>if n<128 then [n] else (n % 128+128)::cL k (n / 128)
def aH (n:Nat):List Nat:=cL 9 n
theorem rE:∀ (k j n:Nat),n<128 ^ (k+1)->cL (k+j) n=cL k n
 | 0,j,n,h=>by
  cases j with
  | zero=>rfl
  | succ j =>
   have h1:n<128:=by simpa using h
   rw [show 0+(j+1)=j+1 from by omega];simp only [cL,h1,if_true];rw [Nat.mod_eq_of_lt aA]
 | k+1,j,n,h=>by
  rw [show k+1+j=k+j+1 from by omega];simp only [cL];by_cases h1:n<128
  · rw [if_pos h1,if_pos h1]
  · rw [if_neg h1,if_neg h1,rE k j (n / 128) (by rw [Nat.div_lt_iff_lt_mul aA];rw [<-Nat.pow_succ];exact h)]
theorem pU {n:Nat} (h:n<128):aH n=[n]:=by
 unfold aH cL;rw [if_pos h]
theorem rF {n:Nat} (h:128<=n) (h2:n<18446744073709551616):aH n=(n % 128+128)::aH (n / 128):=by
 have e:aH n=(n % 128+128)::cL 8 (n / 128):=by
  show cL (8+1) n=_;simp only [cL];rw [if_neg aA]
 rw [e];have:aH (n / 128)=cL 8 (n / 128):=rE 8 1 (n / 128) (by
  rw [Nat.div_lt_iff_lt_mul aA];have:(128:Nat) ^ (8+1)*128=1180591620717411303424:=by decide
  omega)
 rw [this]
theorem pA:∀ (k n:Nat),1<=(cL k n).length/\(cL k n).length<=k+1
 | 0,n=>by simp [cL]
 | k+1,n=>by
  simp only [cL];by_cases h1:n<128
  · rw [if_pos h1];simp
  · rw [if_neg h1];have:=pA k (n / 128);simp only [List.length_cons];omega
theorem aW (n:Nat):1<=(aH n).length/\(aH n).length<=10:=pA 9 n
theorem rD:∀ (k n:Nat),∀ c ∈ cL k n,c<256
 | 0,n,c,h=>by
  simp only [cL,List.mem_singleton] at h;subst h;exact Nat.mod_lt _ aA
 | k+1,n,c,h=>by
  simp only [cL] at h;by_cases h1:n<128
  · rw [if_pos h1,List.mem_singleton] at h;omega
  · rw [if_neg h1,List.mem_cons] at h;rcases h with h | h
    · omega
    exact rD k _ c h
theorem dJ (n:Nat) : ∀ c ∈ aH n,c<256:=rD 9 n
def mZ (z:Int):Nat:=if 0<=z then 2*z.toNat else 2*(-z).toNat-1
def cO (ns:List Int):List Nat:=ns.flatMap fun n=>aH n.toNat
def gG (n:Nd):List Nat:=aH n.op.toNat++aH n.a.toNat++aH n.b.toNat
def bU (t:List Nd):List Nat:=aH t.length++t.flatMap gG
def cU (ls:List (List Nd)):List Nat:=aH ls.length++ls.flatMap bU
def eU (o:Nd):List Nat:=aH o.op.toNat++aH (mZ o.a)++aH o.b.toNat
def bZ (most:Nat):Nat->Nat->List Nat->Int×Nat×Nat
 | _,_,[]=>(4,0,0)
 | i,n,c::r =>
  if (i=9/\1<c % 128)\/most<n+c % 128*2 ^ (7*i)\/(0<i/\c=0) then (3,0,0)
  else if c<128 then (0,n+c % 128*2 ^ (7*i),i+1)
  else if 56<7*i\/most-(n+c % 128*2 ^ (7*i))<2 ^ (7*i+7) then (3,0,0)
  else bZ most (i+1) (n+c % 128*2 ^ (7*i)) r
structure Rd where
 rest:List Nat
 err:Int
 odd:Bool
def aJ (most:Nat) (s:Rd):Nat×Rd :=
 if s.err ≠ 0 then (0,s)
 else if (bZ most 0 0 s.rest).1 ≠ 0 then (0,⟨s.rest,(bZ most 0 0 s.rest).1,s.odd⟩)
 else ((bZ most 0 0 s.rest).2.1,⟨s.rest.drop (bZ most 0 0 s.rest).2.2,0,s.odd⟩)
theorem nJ:∀ (k i n m most:Nat) (r:List Nat),i+k=9->n+m*2 ^ (7*i)<=most->most<2 ^ 64->m<128 ^ (k+1)->(k=0->m<=1)->(0<i->0<m)->bZ most i n (cL k m++r)=(0,n+m*2 ^ (7*i),i+(cL k m).length)
 | 0,i,n,m,most,r,hi,hm,h64,hk,h0,hp=>by
  have hm1:=h0 rfl;obtain rfl:i=9:=aA;have hm0:=hp aA;obtain rfl:m=1:=aA;simp only [cL,List.singleton_append,bZ];rw [if_neg aA,if_pos aA];rfl
 | k+1,i,n,m,most,r,hi,hm,h64,hk,h0,hp=>by
  simp only [cL];by_cases h1:m<128
  · rw [if_pos h1,List.singleton_append];simp only [bZ];have e:m % 128=m:=Nat.mod_eq_of_lt h1;rw [e,if_neg aA,if_pos h1];rfl
  · rw [if_neg h1,List.cons_append];simp only [bZ];have e:(m % 128+128) % 128=m % 128:=aA;have hd:=Nat.div_add_mod m 128;have hp2:2 ^ (7*i+7)=2 ^ (7*i)*128:=by rw [Nat.pow_add]
    have hq:1<=m / 128:=aA;have hsum:m*2 ^ (7*i)=m / 128*(2 ^ (7*i)*128)+m % 128*2 ^ (7*i):=by
     have h3:m*2 ^ (7*i)=(128*(m / 128)+m % 128)*2 ^ (7*i):=by rw [hd]
     rw [h3,Nat.add_mul,Nat.mul_comm 128 (m / 128),Nat.mul_assoc,Nat.mul_comm 128]
    have hge:2 ^ (7*i)*128<=m / 128*(2 ^ (7*i)*128):=Nat.le_mul_of_pos_left _ hq;rw [e,if_neg aA,if_neg aA,if_neg (by rw [hp2];omega)];have hk2:m / 128<128 ^ (k+1):=by rw [Nat.div_lt_iff_lt_mul aA,<-Nat.pow_succ];exact hk
    have:=nJ k (i+1) (n+m % 128*2 ^ (7*i)) (m / 128) most r aA (by rw [show 7*(i+1)=7*i+7 from by omega,hp2];omega) h64 hk2 (fun hk0=>by
     subst hk0;have hi8:i=8:=aA;subst hi8;have h9:(2:Nat) ^ (7*8)*128=9223372036854775808:=by decide
     have h10:(2:Nat) ^ 64=18446744073709551616:=by decide
     rw [h9] at hsum hge;rw [h10] at h64;omega) (fun _=>hq)
    rw [this,show 7*(i+1)=7*i+7 from by omega,hp2];refine Prod.ext rfl (Prod.ext ?_ ?_)
    · show n+m % 128*2 ^ (7*i)+m / 128*(2 ^ (7*i)*128)=n+m*2 ^ (7*i);omega
    show i+1+(cL k (m / 128)).length=i+((m % 128+128)::cL k (m / 128)).length;simp only [List.length_cons];omega
theorem pC:∀ (k i n m most p:Nat),i+k=9->n+m*2 ^ (7*i)<=most->most<2 ^ 64->m<128 ^ (k+1)->(k=0->m<=1)->p<(cL k m).length->bZ most i n ((cL k m).take p)=(4,0,0)
 | _,_,_,_,_,0,_,_,_,_,_,_=>by simp [bZ]
 | 0,i,n,m,most,p+1,hi,hm,h64,hk,h0,hp=>by simp [cL] at hp
 | k+1,i,n,m,most,p+1,hi,hm,h64,hk,h0,hp=>by
  simp only [cL] at hp ⊢;by_cases h1:m<128
  · rw [if_pos h1] at hp;simp at hp
  · rw [if_neg h1] at hp ⊢;rw [List.take_succ_cons];simp only [bZ];have e:(m % 128+128) % 128=m % 128:=aA;have hd:=Nat.div_add_mod m 128;have hp2:2 ^ (7*i+7)=2 ^ (7*i)*128:=by rw [Nat.pow_add]
    have hq:1<=m / 128:=aA;have hsum:m*2 ^ (7*i)=m / 128*(2 ^ (7*i)*128)+m % 128*2 ^ (7*i):=by
     have h3:m*2 ^ (7*i)=(128*(m / 128)+m % 128)*2 ^ (7*i):=by rw [hd]
     rw [h3,Nat.add_mul,Nat.mul_comm 128 (m / 128),Nat.mul_assoc,Nat.mul_comm 128]
    have hge:2 ^ (7*i)*128<=m / 128*(2 ^ (7*i)*128):=Nat.le_mul_of_pos_left _ hq;rw [e,if_neg aA,if_neg aA,if_neg (by rw [hp2];omega)];have hk2:m / 128<128 ^ (k+1):=by rw [Nat.div_lt_iff_lt_mul aA,<-Nat.pow_succ];exact hk
    refine pC k (i+1) (n+m % 128*2 ^ (7*i)) (m / 128) most p aA (by rw [show 7*(i+1)=7*i+7 from by omega,hp2];omega) h64 hk2 (fun hk0 => ?_) (by simpa using hp);subst hk0;have hi8:i=8:=aA;subst hi8;have h9:(2:Nat) ^ (7*8)*128=9223372036854775808:=by decide
    have h10:(2:Nat) ^ 64=18446744073709551616:=by decide
    rw [h9] at hsum hge;rw [h10] at h64;omega
theorem lX:∀ (k i n most:Nat) (l:List Nat) (v j:Nat),i+k=9->(∀ c ∈ l,c<256)->bZ most i n l=(0,v,j)->∃ m,v=n+m*2 ^ (7*i)/\j=i+(cL k m).length/\l=cL k m++l.drop (j-i)/\v<=most/\(0<i->0<m)
 | k,i,n,most,[],v,j,hi,hc,h=>by simp [bZ] at h
 | 0,i,n,most,c::r,v,j,hi,hc,h=>by
  have hi9:i=9:=aA;simp only [bZ] at h;by_cases h1:(i=9/\1<c % 128)\/most<n+c % 128*2 ^ (7*i)\/(0<i/\c=0)
  · rw [if_pos h1] at h;simp at h
  rw [if_neg h1] at h;by_cases h2:c<128
  · rw [if_pos h2] at h;injection h with _ h;injection h with h3 h4;have e:c=1:=aA;subst e;refine ⟨1,h3.symm,h4.symm,?_,by omega,fun _=>by omega⟩;rw [<-h4,show i+1-i=1 from by omega];rfl
  · rw [if_neg h2,if_pos aA] at h;simp at h
 | k+1,i,n,most,c::r,v,j,hi,hc,h=>by
  simp only [bZ] at h;by_cases h1:(i=9/\1<c % 128)\/most<n+c % 128*2 ^ (7*i)\/(0<i/\c=0)
  · rw [if_pos h1] at h;simp at h
  rw [if_neg h1] at h;by_cases h2:c<128
  · rw [if_pos h2] at h;injection h with _ h;injection h with h3 h4;have e:c % 128=c:=Nat.mod_eq_of_lt h2;rw [e] at h3 h1;refine ⟨c,h3.symm,?_,?_,by omega,fun _=>by omega⟩
    · simp only [cL];rw [if_pos h2];simp [h4]
    simp only [cL];rw [if_pos h2,<-h4,show i+1-i=1 from by omega];rfl
  · rw [if_neg h2] at h;by_cases h3:56<7*i\/most-(n+c % 128*2 ^ (7*i))<2 ^ (7*i+7)
    · rw [if_pos h3] at h;simp at h
    rw [if_neg h3] at h;obtain ⟨m,hv,hj,hl,hmost,hpos⟩:=lX k (i+1) _ most r v j aA (fun x hx=>hc x (List.mem_cons_of_mem _ hx)) h;have hm:=hpos aA;have hc2:=hc c List.mem_cons_self;have hp2:2 ^ (7*(i+1))=128*2 ^ (7*i):=by rw [show 7*(i+1)=7*i+7 from by omega,Nat.pow_add,Nat.mul_comm]
    have hd:(m*128+c % 128) / 128=m:=aA;have hr:(m*128+c % 128) % 128+128=c:=aA;refine ⟨m*128+c % 128,?_,?_,?_,hmost,fun _=>by omega⟩
    · rw [hv,hp2,Nat.add_mul,Nat.mul_assoc];omega
    · simp only [cL];rw [if_neg aA,hd,hj];simp only [List.length_cons];omega
    simp only [cL];rw [if_neg aA,hd,hr,List.cons_append];have:j-i=(j-(i+1))+1:=by have:=(pA k m).1;omega
    rw [this,List.drop_succ_cons,<-hl]
theorem xR {most n:Nat} (hn:n<=most) (hm:most<2 ^ 64) (r:List Nat) (o:Bool):aJ most ⟨aH n++r,0,o⟩=(n,⟨r,0,o⟩):=by
 have h:=nJ 9 0 0 n most r rfl (by simpa using hn) hm (by
  have h10:(2:Nat) ^ 64=18446744073709551616:=by decide
  have h11:(128:Nat) ^ (9+1)=1180591620717411303424:=by decide
  rw [h10] at hm;rw [h11];omega) (fun h=>absurd h aA) (fun h=>absurd h aA)
 unfold aJ;rw [if_neg (by simp),show aH n=cL 9 n from rfl,h];simp
theorem AL {most n p:Nat} (hn:n<=most) (hm:most<2 ^ 64) (hp:p<(aH n).length) (o:Bool):(aJ most ⟨(aH n).take p,0,o⟩).2.err=4/\(aJ most ⟨(aH n).take p,0,o⟩).2.odd=o/\(aJ most ⟨(aH n).take p,0,o⟩).1=0:=by
 have h:=pC 9 0 0 n most p rfl (by simpa using hn) hm (by
  have h10:(2:Nat) ^ 64=18446744073709551616:=by decide
  have h11:(128:Nat) ^ (9+1)=1180591620717411303424:=by decide
  rw [h10] at hm;rw [h11];omega) (fun h=>absurd h aA) hp
 unfold aJ;rw [if_neg (by simp),show aH n=cL 9 n from rfl,h];simp
theorem EK {most:Nat} {s:Rd} (hb:∀ c ∈ s.rest,c<256) (h:(aJ most s).2.err=0):s.err=0/\(aJ most s).1<=most/\s.rest=aH (aJ most s).1++(aJ most s).2.rest:=by
 unfold aJ at h ⊢;by_cases h1:s.err ≠ 0
 · rw [if_pos h1] at h;exact absurd h h1
 rw [if_neg h1] at h ⊢;by_cases h2:(bZ most 0 0 s.rest).1 ≠ 0
 · rw [if_pos h2] at h;exact absurd h h2
 rw [if_neg h2];obtain ⟨m,hv,hj,hl,hm,_⟩:=lX 9 0 0 most s.rest (bZ most 0 0 s.rest).2.1 (bZ most 0 0 s.rest).2.2 rfl hb (by
  have:(bZ most 0 0 s.rest).1=0:=by simpa using h2
  rw [<-this])
 refine ⟨by simpa using h1,hm,?_⟩;have e:(bZ most 0 0 s.rest).2.1=m:=by rw [hv];simp
 rw [e,show aH m=cL 9 m from rfl];simpa using hl
theorem bI (most:Nat) (s:Rd):(aJ most s).2.odd=s.odd:=by
 unfold aJ;split
 · rfl
 split<;>rfl
theorem eY {most:Nat} {s:Rd} (h:s.err ≠ 0):aJ most s=(0,s):=by
 unfold aJ;rw [if_pos h]
end Go.Proofs.YtplecfbdchmogaaGreat
