/- Merged: Short2, Short3. -/
import Derived.Test.YtjoddliplahgkaaGreatPBase
namespace Go.Proofs.YtjoddliplahgkaaGreat
set_option linter.unusedVariables false
set_option linter.unusedSimpArgs false
section
open Go.RowKit
theorem p7 : (∀ (a : Act) (t : Tmp) (v : Value), a.put (some t) v = { a with tmps := a.tmps.setIfInBounds t v }) ∧ (∀ (a : Act) (v : Value), a.put none v = a) ∧ (∀ (α : Type) (l : List α) (i : Nat) (h : i < l.toArray.size), l.toArray[i] = l[i]'(by simpa using h)) ∧ (∀ (α : Type) (x : α) (l : List α) (h : 0 < (x :: l).length), (x :: l)[0] = x) ∧ (∀ (α : Type) (x : α) (l : List α) (i : Nat) (h : i + 1 < (x :: l).length), (x :: l)[i + 1] = l[i]'(by simpa using h)) ∧ (∀ (l : List Value) (i : Nat) (x : Value), l.toArray.setIfInBounds i x = (l.set i x).toArray) ∧ (∀ (x y : Value) (l : List Value), (x :: l).set 0 y = y :: l) ∧ (∀ (x y : Value) (l : List Value) (i : Nat), (x :: l).set (i + 1) y = x :: l.set i y) :=
 ⟨fun _ _ _ => rfl, fun _ _ => rfl, fun _ _ _ _ => by simp, fun _ _ _ _ => rfl, fun _ _ _ _ _ => rfl, fun _ _ _ => by simp, fun _ _ _ => rfl, fun _ _ _ _ => rfl⟩
end
section
open Go.RowKit
section
variable {P : Program} {ops : Array Oper} {Q : Exit → Act → World → Prop} {md : Region.Mode} {S : World → Prop} {l : Nat}
theorem te (i : Nat) {v : Value} {oi : Oper} {fuel : Nat} {done : Array Bool} {a : Act} {w : World} (hS : S w) (h : gQ P md ops Q S l fuel (done.setIfInBounds i true) (a.put oi.dst v) w)
 (hi : ops[i]? = some oi := by exact rfl) (hy : ∀ w, S w → (execOp a.eval oi).run P w = .ok (.value v) w := by (intro w hSw; (try dsimp only at hSw); go_simp; try with_reducible rfl)) (hw : vC md ops i 8 l = true := by kernel_rfl) (hsh : H8 md ops done = true := by kernel_rfl)
 (hs : Region.noSelect ops = true := by kernel_rfl) (hf : Region.free md ops done i = true := by kernel_rfl) (hr : (Region.ready md ops done).contains i = true := by kernel_rfl)
 (hQ : ∀ c a w, Q (.panic c) (a.put oi.dst v) w → Q (.panic c) a w := by exact fun _ _ _ h => h) (hwn : Region.wanted oi (yielded ops a.tmps) = true := by rfl) : gQ P md ops Q S l (fuel + 1) done a w :=
 bA hi hw hsh hs hf hr hQ (.inl ⟨hwn, hy⟩) hS h
end
end
section
open Go.RowKit
variable {P : Program} {ops : Array Oper} {Q : Exit → Act → World → Prop} {md : Region.Mode} {S : World → Prop} {l : Nat}
theorem aN (i : Nat) {v : Value} {oi : Oper} {fuel : Nat} {listed l' : Array Bool} {a a' : Act} {w : World} (hS : S w) (h : gQ P md ops Q S l fuel l' a' w) (hi : ops[i]? = some oi := by exact rfl) (hy : ∀ w, S w → (execOp a.eval oi).run P w = .ok (.value v) w := by (intro w hSw; (try dsimp only at hSw); go_simp; try with_reducible rfl)) (hv : vC md ops i 8 l = true := by kernel_rfl) (hsh : H8 md ops listed = true := by kernel_rfl) (hs : Region.noSelect ops = true := by kernel_rfl) (hf : Region.free md ops listed i = true := by kernel_rfl) (hr : (Region.ready md ops listed).contains i = true := by kernel_rfl) (hQ : ∀ c a w, Q (.panic c) (a.put oi.dst v) w → Q (.panic c) a w := by exact fun _ _ _ h => h) (hw : Region.wanted oi (yielded ops a.tmps) = true := by rfl) (el : listed.setIfInBounds i true = l' := by ((try simp only [aO]); rfl)) (ea : a.put oi.dst v = a' := by ((try simp only [aO]); rfl)) : gQ P md ops Q S l (fuel + 1) listed a w := bA hi hv hsh hs hf hr hQ (.inl ⟨hw, hy⟩) hS (by rw [el, ea]; exact h)
end
end Go.Proofs.YtjoddliplahgkaaGreat
