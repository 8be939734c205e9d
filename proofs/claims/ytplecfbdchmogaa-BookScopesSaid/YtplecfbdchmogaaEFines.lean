/- Merged: Subst1, Subst, TermL, Heads, Match, FineS, FineL, FineT, FineX, Fines. -/
import Derived.Test.YtplecfbdchmogaaEEnds
import Derived.Test.YtplecfbdchmogaaELeafs
import Derived.Test.YtplecfbdchmogaaEBase
import Derived.Test.YtplecfbdchmogaaEShort2
namespace Go.Proofs.Ytplecfbdchmogaa
section
open Go.RowKit
structure Put where
 n : Nd
 a : List Nd
 k : Fo
end
section
open Go.RowKit
theorem pars_allok : ∀ (f : Nat) (dl : List Bool) (l : List Nd) (x : Fo × List Nd), pars f dl l = some x → AllOk x.1
 | 0, _, _, _, h => by simp [pars] at h
 | _ + 1, [], l, x, h => by simp only [pars, Option.some.injEq] at h; subst h; trivial
 | f + 1, d :: dr, l, x, h => by
  simp only [pars, Option.bind_eq_some_iff] at h
  obtain ⟨p, hp, h⟩ := h
  split at h
  · cases h
  · split at h
    · rename_i hok
      simp only [Option.bind_eq_some_iff] at h
      obtain ⟨q, hq, k, hk, y, hy, h⟩ := h
      simp only [Option.some.injEq] at h
      subst h
      exact ⟨hok, pars_allok f _ _ _ hk, pars_allok f _ _ _ hy⟩
    cases h
theorem pp_allok {dl : List Bool} {l : List Nd} {x : Fo × List Nd} (h : pp dl l = some x) : AllOk x.1 := pars_allok _ _ _ _ h
section
variable {A B : Option Addr} {nn c mm d : Nat} {t u : List Nd} {w w3 : World} {n un : Nd} {ats ua : List Nd} {k uk : Fo} {x : Int}
end
end
section
open Go.RowKit
end
section
section
open Go.RowKit
abbrev TT := Nd × List Nd × Fo
def rowT (x : TT) : List Nd := x.1 :: (x.2.1 ++ row x.2.2)
def RtX (x : TT) : Prop := Rt (rowT x) x.1 x.2.1 x.2.2
def hd : Nat → TT → TT × List TT
 | m + 1, (n, a, .cons p n1 a1 k1 (.cons q n2 a2 k2 r)) => if n.op = 6 then ((hd m (n1, a1, k1)).1, (hd m (n1, a1, k1)).2 ++ [(n2, a2, k2)]) else ((n, a, .cons p n1 a1 k1 (.cons q n2 a2 k2 r)), [])
 | _, x => (x, [])
theorem infoR : (Try.prog.info? 28).map (fun i => (i.zero, i.size, i.bytes)) = some (some (.slice none 0 0), 1, 24) := by kernel_rfl
def lenOf : Value → Nat
 | .slice _ n _ => n
 | _ => 0
end
section
open Go.RowKit
def ofI (zs : List Int) (v : Int) : Int := if (zs.length : Int) ≤ v then 0 else zs.getD (zs.length - 1 - v.toNat) 0
def BoolP (b : Bool) (w : World) (e : Ending) (w' : World) : Prop := e = .returned (.bool b) ∧ Below w.heap.size w w'
end
section
open Go.RowKit
end
section
open Go.RowKit
end
section
open Go.RowKit
end
section
open Go.RowKit
end
section
open Go.RowKit
end
section
open Go.RowKit
structure At (t : List Nd) (p : Nat) (dl : List Bool) (F : Fo) : Prop where
 wf : Wf dl F
 few : t.length ≤ 4096
 le : p ≤ t.length
 rest : t.drop p = row F
end
end
section
open Go.RowKit
end
section
open Go.RowKit
end
section
open Go.RowKit
end
section
open Go.RowKit
end
section
open Go.RowKit
end
section
section
open Go.RowKit
end
section
open Go.RowKit
def ErrP (e : Int) (w : World) (en : Ending) (w' : World) : Prop := en = .returned (.int .i64 e) ∧ Below w.heap.size w w'
theorem infoI : (Try.prog.info? 3).map (fun i => (i.zero, i.size, i.bytes)) = some (some (.int .i64 0), 1, 8) := by kernel_rfl
end
end
end Go.Proofs.Ytplecfbdchmogaa
