/- Merged: Subst1, Subst, TermL. -/
import Derived.Test.YtplecfbdchmogaaGreatDEnds
namespace Go.Proofs.YtplecfbdchmogaaGreat
section
open Go.RowKit
structure Put where
 n:Nd
 a:List Nd
 k:Fo
end
section
open Go.RowKit
theorem nM:∀ (f:Nat) (dl:List Bool) (l:List Nd) (x:Fo×List Nd),kF f dl l=some x->gI x.1
 | 0,_,_,_,h=>by simp [kF] at h
 | _+1,[],l,x,h=>by simp only [kF,Option.some.injEq] at h;subst h;trivial
 | f+1,d::dr,l,x,h=>by
  simp only [kF,Option.bind_eq_some_iff] at h;obtain ⟨p,hp,h⟩:=h;split at h
  · cases h
  · split at h
    · rename_i hok
      simp only [Option.bind_eq_some_iff] at h;obtain ⟨q,hq,k,hk,y,hy,h⟩:=h;simp only [Option.some.injEq] at h;subst h;exact ⟨hok,nM f _ _ _ hk,nM f _ _ _ hy⟩
    cases h
theorem xH {dl:List Bool} {l:List Nd} {x:Fo×List Nd} (h:pp dl l=some x):gI x.1:=nM _ _ _ _ h
section
variable {A B : Option Addr} {nn c mm d : Nat} {t u : List Nd} {w w3 : World} {n un : Nd} {ats ua : List Nd} {k uk : Fo} {x : Int}
end
end
section
open Go.RowKit
end
end Go.Proofs.YtplecfbdchmogaaGreat
