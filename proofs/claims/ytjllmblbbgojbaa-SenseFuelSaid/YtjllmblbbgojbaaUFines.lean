/- Merged: FineA, GuardP. -/
import Derived.Test.YtjllmblbbgojbaaUFineX
import Derived.Test.YtjllmblbbgojbaaUHeads
namespace Go.Proofs.Ytjllmblbbgojbaa
section
open Go.RowKit
end
section
open Go.RowKit
def bdsT : List TT → List TT
 | _ :: b :: r => b :: bdsT r
 | _ => []
def placesT (k : Fo) : List Int := (press k).map (·.a)
def ErrP (e : Int) (w : World) (en : Ending) (w' : World) : Prop := en = .returned (.int .i64 e) ∧ Below w.heap.size w w'
def JE (ne : Nat) (x : TT) : Prop := ∀ m ∈ rowT x, m.op = 11 → m.a < (ne : Int)
theorem row_kid : ∀ {k : Fo} {y : TT}, y ∈ kidL k → ∀ m ∈ rowT y, m ∈ row k
 | .nil, y, h, _, _ => by cases h
 | .cons p n a k x, y, h, m, hm => by
  rw [show kidL (.cons p n a k x) = (n, a, k) :: kidL x from rfl] at h
  simp only [row]
  rcases List.mem_cons.1 h with rfl | h
  · simp only [rowT, List.mem_cons, List.mem_append] at hm ⊢
    rcases hm with rfl | hm | hm
    · exact .inr (.inl rfl)
    · exact .inr (.inr (.inl hm))
    exact .inr (.inr (.inr (.inl hm)))
  · have := row_kid h m hm
    simp only [List.mem_cons, List.mem_append]
    exact .inr (.inr (.inr (.inr this)))
theorem JE.kid {ne : Nat} {n : Nd} {a : List Nd} {k : Fo} (h : JE ne (n, a, k)) : ∀ y ∈ kidL k, JE ne y := fun y hy m hm => h m (by
 simp only [rowT, List.mem_cons, List.mem_append]
 exact .inr (.inr (row_kid hy m hm)))
theorem JE.node {ne : Nat} {n : Nd} {a : List Nd} {k : Fo} (h : JE ne (n, a, k)) : n.op = 11 → n.a < (ne : Int) := h n (by simp [rowT])
abbrev OwnI (w : World) (base : Nat) (A : Option Addr) (n c : Nat) (zs : List Int) : Prop := w.ownsRow base 3 1 (.slice A n c) n (zs.map (Value.int .i64))
theorem infoI : (Try.prog.info? 3).map (fun i => (i.zero, i.size, i.bytes)) = some (some (.int .i64 0), 1, 8) := by kernel_rfl
def Sep (v u : Value) : Prop := ∀ g, v.ownBlock = some g → u.ownBlock ≠ some g
theorem Sep.symm {v u : Value} (h : Sep v u) : Sep u v := fun g hu hv => h g hv hu
theorem own_sep {w w' : World} {base : Nat} {e : TypeId} {size n : Nat} {v u : Value} {xs : List Value} (h : w.ownsRow base e size v n xs) (hg : w.grownBy w' u.ownBlock) (hs : Sep v u) : w'.ownsRow base e size v n xs := by
 refine h.kept hg ?_
 cases hv : v.ownBlock with
 | none => exact .inl rfl
 | some g => exact .inr fun e => hs g hv e.symm
theorem Sep.app {w w' : World} {base base' : Nat} {e e' : TypeId} {size size' n n' : Nat} {v u : Value} {xs ys : List Value} {A : Option Addr} {c : Nat} (h : w.ownsRow base e size v n xs) (hs : Sep v u) (ha : Appended w w' base' e' size' u A n' c ys) : Sep v (.slice A n' c) := fun g hv hu => by
 rcases ha.new g hu with h1 | h1
 · exact hs g hv h1
 have := (ownsRow_block h hv).2.1
 omega
theorem EntR.below {K : LK} {ca : Int → Nat → Nat} {w w' : World} (h : EntR K ca w) (hb : Below w.heap.size w w') : EntR K ca w' := ⟨fun e he => by
 obtain ⟨b, off, Ac, nc, cc, e1, hlt, hc, h100, hm, h0⟩ := h.ent e he
 refine ⟨b, off, Ac, nc, cc, e1, Nat.lt_of_lt_of_le hlt hb.size, (hb.cell (p := ⟨b, off + e * 7 + 4, none⟩) hlt).trans hc, h100, fun k hk => ?_, h0⟩
 obtain ⟨b2, o2, A, c, e2, hlt2, hc2, h2⟩ := hm k hk
 exact ⟨b2, o2, A, c, e2, Nat.lt_of_lt_of_le hlt2 hb.size, (hb.cell (p := ⟨b2, o2 + k * 2, none⟩) hlt2).trans hc2, h2⟩⟩
theorem EntR.places {vars nat : Int} {Ao Ae Ap Aq Ar : Option Addr} {no co ne ce np cp nq cq nr cr : Nat} {ca : Int → Nat → Nat} {w : World} (h : EntR ⟨vars, nat, Ao, no, co, Ae, ne, ce, Ap, np, cp, Aq, nq, cq⟩ ca w) : EntR ⟨vars, nat, Ao, no, co, Ae, ne, ce, Ap, np, cp, Ar, nr, cr⟩ ca w := ⟨h.ent⟩
end
end Go.Proofs.Ytjllmblbbgojbaa
