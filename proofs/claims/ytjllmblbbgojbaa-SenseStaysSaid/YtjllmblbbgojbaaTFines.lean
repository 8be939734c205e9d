/- Merged: FineA, GuardP. -/
import Derived.Test.YtjllmblbbgojbaaTFineT
import Derived.Test.YtjllmblbbgojbaaTFineX
import Derived.Test.YtjllmblbbgojbaaTHeads
namespace Go.Proofs.Ytjllmblbbgojbaa
section
open Go.RowKit
end
section
open Go.RowKit
def tysT : List TT → List TT
 | a :: _ :: r => a :: tysT r
 | _ => []
def bdsT : List TT → List TT
 | _ :: b :: r => b :: bdsT r
 | _ => []
def guardL (rec_ : List Int → TT → Bool) (zs : List Int) : List Int → List TT → List TT → Bool
 | p :: pl, t :: ts, b :: bs => (takenT p.toNat t && bodyT rec_ (p.toNat + 1) zs b) && guardL rec_ zs pl ts bs
 | _, _, _ => true
def placesT (k : Fo) : List Int := (press k).map (·.a)
def marks0 (n : Nat) : List Int := (List.range n).map fun j : Nat => (100 : Int) + (j : Int)
def guardT (ca : Int → Nat → Nat) (m : Nat) (x : TT) : Bool :=
 guardL (fineT (placesT x.2.2) ca m) (marks0 x.1.b.toNat) (placesT x.2.2) (tysT (kidL x.2.2)) (bdsT (kidL x.2.2))
def ErrP (e : Int) (w : World) (en : Ending) (w' : World) : Prop := en = .returned (.int .i64 e) ∧ Below w.heap.size w w'
theorem row_kid : ∀ {k : Fo} {y : TT}, y ∈ kidL k → ∀ m ∈ rowT y, m ∈ row k
 | .nil, y, h, _, _ => by cases h
 | .cons p n a k x, y, h, m, hm => by
  rw [show kidL (.cons p n a k x) = (n, a, k) :: kidL x from rfl] at h
  simp only [row]
  rcases List.mem_cons.1 h with rfl | h
  · simp only [rowT, List.mem_cons, List.mem_append] at hm ⊢
    rcases hm with rfl | hm | hm
    · exact .inr (.inl rfl)
    · exact .inr (.inr (.inl hm))
    exact .inr (.inr (.inr (.inl hm)))
  · have := row_kid h m hm
    simp only [List.mem_cons, List.mem_append]
    exact .inr (.inr (.inr (.inr this)))
abbrev OwnI (w : World) (base : Nat) (A : Option Addr) (n c : Nat) (zs : List Int) : Prop := w.ownsRow base 3 1 (.slice A n c) n (zs.map (Value.int .i64))
theorem infoI : (Try.prog.info? 3).map (fun i => (i.zero, i.size, i.bytes)) = some (some (.int .i64 0), 1, 8) := by kernel_rfl
def Sep (v u : Value) : Prop := ∀ g, v.ownBlock = some g → u.ownBlock ≠ some g
theorem Sep.symm {v u : Value} (h : Sep v u) : Sep u v := fun g hu hv => h g hv hu
theorem own_sep {w w' : World} {base : Nat} {e : TypeId} {size n : Nat} {v u : Value} {xs : List Value} (h : w.ownsRow base e size v n xs) (hg : w.grownBy w' u.ownBlock) (hs : Sep v u) : w'.ownsRow base e size v n xs := by
 refine h.kept hg ?_
 cases hv : v.ownBlock with
 | none => exact .inl rfl
 | some g => exact .inr fun e => hs g hv e.symm
theorem Sep.app {w w' : World} {base base' : Nat} {e e' : TypeId} {size size' n n' : Nat} {v u : Value} {xs ys : List Value} {A : Option Addr} {c : Nat} (h : w.ownsRow base e size v n xs) (hs : Sep v u) (ha : Appended w w' base' e' size' u A n' c ys) : Sep v (.slice A n' c) := fun g hv hu => by
 rcases ha.new g hu with h1 | h1
 · exact hs g hv h1
 have := (ownsRow_block h hv).2.1
 omega
end
end Go.Proofs.Ytjllmblbbgojbaa
