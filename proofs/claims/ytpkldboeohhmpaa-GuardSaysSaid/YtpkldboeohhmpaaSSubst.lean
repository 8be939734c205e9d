/- Subst: a term in a variable's place. -/
import Derived.Test.YtpkldboeohhmpaaSSubst1
namespace Go.Proofs.Ytpkldboeohhmpaa
open Go.RowKit
theorem pars_allok : ∀ (f : Nat) (dl : List Bool) (l : List Nd) (x : Fo × List Nd), pars f dl l = some x → AllOk x.1
 | 0, _, _, _, h => by simp [pars] at h
 | _ + 1, [], l, x, h => by simp only [pars, Option.some.injEq] at h; subst h; trivial
 | f + 1, d :: dr, l, x, h => by
  simp only [pars, Option.bind_eq_some_iff] at h
  obtain ⟨p, hp, h⟩ := h
  split at h
  · cases h
  · split at h
    · rename_i hok
      simp only [Option.bind_eq_some_iff] at h
      obtain ⟨q, hq, k, hk, y, hy, h⟩ := h
      simp only [Option.some.injEq] at h
      subst h
      exact ⟨hok, pars_allok f _ _ _ hk, pars_allok f _ _ _ hy⟩
    · cases h
theorem pp_allok {dl : List Bool} {l : List Nd} {x : Fo × List Nd} (h : pp dl l = some x) : AllOk x.1 := pars_allok _ _ _ _ h
def cnF (x : Int) (pop pb : Int) : Nat → Int → Fo → Int
 | _, _, .nil => 0
 | j, a, .cons _ n _ k y => (if n.op = 1 ∧ n.a - (a + aroundI pop pb j) = x then 1 else 0) + cnF x n.op n.b 0 (a + aroundI pop pb j) k + cnF x pop pb (j + 1) a y
def dpF (x : Int) (pop pb : Int) : Nat → Int → Int → Fo → Int
 | _, _, d, .nil => d
 | j, a, d, .cons _ n _ k y => dpF x pop pb (j + 1) a (dpF x n.op n.b 0 (a + aroundI pop pb j) (if n.op = 1 ∧ n.a - (a + aroundI pop pb j) = x then max d (a + aroundI pop pb j) else d) k) y
def cnT (x : Int) (n : Nd) (k : Fo) : Int := (if n.op = 1 ∧ n.a = x then 1 else 0) + cnF x n.op n.b 0 0 k
def dpT (x : Int) (n : Nd) (k : Fo) : Int := dpF x n.op n.b 0 0 0 k
def substT (t u : List Nd) (x : Int) : List Nd × Int :=
 match pp [false] t, pp [false] u with
 | some (.cons _ n a k _, _), some (.cons _ un ua uk _, _) =>
  if 0 < cnT x n k ∧ exT (fun v b => decide (b ≤ v) && decide (1048576 < v - b + x + dpT x n k)) 0 un uk = true then ([], 6)
  else if 4096 < (t.length : Int) + cnT x n k * ((u.length : Int) - 1) then ([], 9)
  else ((puV ⟨un, ua, uk⟩ x).E1 0 () n a k, 0)
 | _, _ => ([], 0)
def substR (t u : List Nd) (at_ : Int) : List Nd × Int :=
 if shapeI t = 0 then (if shapeI u = 0 then (if at_ < 0 then ([], 1) else substT t u (min at_ 1048577)) else ([], shapeI u)) else ([], shapeI t)
def substD (t u : List Nd) (x : Int) : Prop :=
 match pp [false] t, pp [false] u with
 | some (.cons _ n _ k _, _), some (.cons _ un ua uk _, _) => (puV ⟨un, ua, uk⟩ x).D1 0 () n k
 | _, _ => True
section
variable {A B : Option Addr} {nn c mm d : Nat} {t u : List Nd} {w w3 : World} {n un : Nd} {ats ua : List Nd} {k uk : Fo} {x : Int}
end
end Go.Proofs.Ytpkldboeohhmpaa
