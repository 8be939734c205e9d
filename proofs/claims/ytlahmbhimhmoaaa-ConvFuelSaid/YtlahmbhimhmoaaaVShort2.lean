/- More on the moves of a walk through a drawn region. -/
import Derived.Test.YtlahmbhimhmoaaaVBase
namespace Go.Proofs.Ytlahmbhimhmoaaa
set_option linter.unusedVariables false
set_option linter.unusedSimpArgs false
open Go.RowKit
theorem p7 : (∀(a : Act)(t : Tmp)(v : Value), a.put (some t) v = { a with tmps:=a.tmps.setIfInBounds t v })∧(∀(a : Act)(v : Value), a.put none v = a)∧(∀(α : Type)(l : List α)(i : Nat)(h : i < l.toArray.size), l.toArray[i] = l[i]'(by simpa using h))∧(∀(α : Type)(x : α)(l : List α)(h : 0 < (x :: l).length), (x :: l)[0] = x)∧(∀(α : Type)(x : α)(l : List α)(i : Nat)(h : i + 1 < (x :: l).length), (x :: l)[i + 1] = l[i]'(by simpa using h))∧(∀(l : List Value)(i : Nat)(x : Value), l.toArray.setIfInBounds i x = (l.set i x).toArray)∧(∀(x y : Value)(l : List Value), (x :: l).set 0 y = y :: l)∧(∀(x y : Value)(l : List Value)(i : Nat), (x :: l).set (i + 1) y = x :: l.set i y) :=
 ⟨fun _ _ _=>rfl, fun _ _=>rfl, fun _ _ _ _=>by simp, fun _ _ _ _=>rfl, fun _ _ _ _ _=>rfl, fun _ _ _=>by simp, fun _ _ _=>rfl, fun _ _ _ _=>rfl⟩
end Go.Proofs.Ytlahmbhimhmoaaa
