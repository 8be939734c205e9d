/- Raising the variables of a tree, in plain Lean; words for trees that are made of old and new memory. -/
import Derived.Test.YtnmeglbamfjcgaaOwn3
import Derived.Test.YtnmeglbamfjcgaaFold
namespace Go.Proofs.Ytnmeglbamfjcgaa
open Go.RowKit

def raiN (up : Int) (n : Nd) (f : Int) : Nd := if n.op = 1 ∧ f ≤ n.a then ⟨1, n.a + up, 0⟩ else n
def raiA (n : Nd) (a : List Nd) (f : Int) : List Nd := if n.op = 1 ∧ f ≤ n.a then [] else a
def rai (pop pb up : Int) : Nat → Int → Fo → Fo
  | _, _, .nil => .nil
  | j, f, .cons p n a k x => .cons p (raiN up n (f + aroundI pop pb j)) (raiA n a (f + aroundI pop pb j)) (if n.op = 1 ∧ f + aroundI pop pb j ≤ n.a then .nil else rai n.op n.b up 0 (f + aroundI pop pb j) k) (rai pop pb up (j + 1) f x)
def raiK (up : Int) (n : Nd) (k : Fo) (f : Int) : Fo := if n.op = 1 ∧ f ≤ n.a then .nil else rai n.op n.b up 0 f k
theorem rai_cons (pop pb up : Int) (j : Nat) (f : Int) (p : List Nd) (n : Nd) (a : List Nd) (k x : Fo) : rai pop pb up j f (.cons p n a k x) = .cons p (raiN up n (f + aroundI pop pb j)) (raiA n a (f + aroundI pop pb j)) (raiK up n k (f + aroundI pop pb j)) (rai pop pb up (j + 1) f x) := rfl
theorem flen_rai (pop pb up : Int) : ∀ (j : Nat) (f : Int) (F : Fo), flen (rai pop pb up j f F) = flen F
  | _, _, .nil => rfl
  | j, f, .cons p n a k x => by rw [rai_cons]; simp only [flen, flen_rai pop pb up (j + 1) f x]
theorem press_rai (pop pb up : Int) : ∀ (j : Nat) (f : Int) (F : Fo), press (rai pop pb up j f F) = press F
  | _, _, .nil => rfl
  | j, f, .cons p n a k x => by rw [rai_cons]; simp only [press, press_rai pop pb up (j + 1) f x]
theorem rai_app (pop pb up : Int) : ∀ (j : Nat) (f : Int) (F G : Fo), rai pop pb up j f (F.app G) = (rai pop pb up j f F).app (rai pop pb up (j + flen F) f G)
  | _, _, .nil, G => by simp [Fo.app, rai, flen]
  | j, f, .cons p n a k x, G => by
    have := rai_app pop pb up (j + 1) f x G
    rw [show (Fo.cons p n a k x).app G = .cons p n a k (x.app G) from rfl, rai_cons, rai_cons, this]
    simp only [Fo.app, flen]
    rw [show j + 1 + flen x = j + (flen x + 1) from by omega]

/-- Blocks of R, and new ones. -/
def Mixed (R : Nat → Prop) (w w' : World) (b : Nat) : Prop := R b ∨ fresh w w' b
/-- A tree comes back, of old and new memory. -/
def TreePost (R : Nat → Prop) (w : World) (n : Nd) (ats : List Nd) (ks : Fo) (e : Ending) (w' : World) : Prop := Below w.heap.size w w' ∧ ∃ ys, e = .returned (.agg ys.toArray) ∧ TreeC (Mixed R w w') w' ys n ats ks

/-- .. while one row of the call's own is still written. -/
def Beside1 (R : Nat → Prop) (B : Nat) (w : World) (u : Value) (b : Nat) : Prop := (R b ∨ (B ≤ b ∧ b < w.heap.size)) ∧ u.ownBlock ≠ some b

theorem foc_step1 {R : Nat → Prop} {B0 B : Nat} {wr V w2 W w' wf : World} {e1 : TypeId} {s1 n1 : Nat} {u : Value} {x1 : List Value} {F : Fo} {xs ys : List Value} {nd : Nd} {ats : List Nd} {ks : Fo} {pre : List Nd} {A' : Option Addr} {m c' : Nat} {zs : List Value}
    (hfc : FoC (Beside1 R B wr u) wr F xs) (ht : TreeC (Mixed R V w2) w2 ys nd ats ks) (hV : wr.heap.size ≤ V.heap.size) (hb : Below wr.heap.size wr w2) (hB : B ≤ wr.heap.size) (hR : ∀ b, R b → b < B0) (hB0 : B0 ≤ B)
    (h1 : wr.ownsRow B e1 s1 u n1 x1) (hW : Below w2.heap.size w2 W) (hap : Appended W w' B e1 s1 u A' m c' zs)
    (hwf : ∀ b, b < B0 ∨ B ≤ b → ∀ o, wf.cell? ⟨b, o, none⟩ = w'.cell? ⟨b, o, none⟩) (hws : wf.heap.size = w'.heap.size) :
    FoC (Beside1 R B wf (.slice A' m c')) wf (F.app (.cons pre nd ats ks .nil)) (xs ++ ys) := by
  have hWs := hW.size
  have hbs := hb.size
  have hgs := hap.grown.size
  have hcell : ∀ b, b < w2.heap.size → (b < B0 ∨ B ≤ b) → u.ownBlock ≠ some b → ∀ o, wf.cell? ⟨b, o, none⟩ = w2.cell? ⟨b, o, none⟩ := fun b hb1 hb2 hb3 o => by
    rw [hwf b hb2 o, World.cell?_of_block (w := W) (hap.grown.block b (by omega) (fun e => hb3 e.symm)), hW.cell (p := ⟨b, o, none⟩) hb1]
  have hnew : ∀ b, b < w2.heap.size → u.ownBlock ≠ some b → (Value.slice A' m c').ownBlock ≠ some b := fun b hb1 hb2 e => by
    rcases hap.new b e with e | e
    · exact hb2 e
    · omega
  refine FoC.app F _ xs ys (FoC.keep ?_ F xs hfc) ?_
  · rintro b ⟨hb1, hb3⟩
    have hlt : b < wr.heap.size := by
      rcases hb1 with h | h
      · have := hR b h; omega
      · exact h.2
    have hor : b < B0 ∨ B ≤ b := by
      rcases hb1 with h | h
      · exact .inl (hR b h)
      · exact .inr h.1
    refine ⟨⟨hb1.imp id (fun h => ⟨h.1, by omega⟩), hnew b (by omega) hb3⟩, fun o => ?_⟩
    rw [hcell b (by omega) hor hb3, hb.cell (p := ⟨b, o, none⟩) hlt]
  · refine ⟨ys, [], by simp, ht.keep ?_, rfl⟩
    intro b hm
    have hu : u.ownBlock ≠ some b := fun e => by
      have h2 := ownsRow_block h1 e
      rcases hm with h | ⟨h, _⟩
      · have := hR b h; omega
      · omega
    have hlt : b < w2.heap.size := by
      rcases hm with h | ⟨_, h⟩
      · have := hR b h; omega
      · exact h
    have hor : b < B0 ∨ B ≤ b := by
      rcases hm with h | ⟨h, _⟩
      · exact .inl (hR b h)
      · exact .inr (by omega)
    refine ⟨⟨?_, hnew b hlt hu⟩, hcell b hlt hor hu⟩
    rcases hm with h | ⟨h, h'⟩
    · exact .inl h
    · exact .inr ⟨by omega, by omega⟩

end Go.Proofs.Ytnmeglbamfjcgaa
