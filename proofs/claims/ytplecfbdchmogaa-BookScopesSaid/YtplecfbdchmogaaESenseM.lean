/- Merged: FineW, Tr, FixF, LiftG, Err18, PutG, PartG, SenseP, SenseL, SenseM. -/
import Derived.Test.YtplecfbdchmogaaEFines
import Derived.Test.YtplecfbdchmogaaESub
import Derived.Test.YtplecfbdchmogaaEDeeps
import Derived.Test.YtplecfbdchmogaaEKidss
namespace Go.Proofs.Ytplecfbdchmogaa
section
open Go.RowKit
abbrev szT (x : TT) : Nat := (rowT x).length
end
section
open Go.RowKit
section
variable {σ : Int → Nd → TT}
theorem around_plain {op b : Int} (h4 : op ≠ 4) (h5 : op ≠ 5) (h7 : op ≠ 7) (h12 : op ≠ 12) (k : Int) : aroundI op b k = 0 := by
 unfold aroundI
 rw [if_neg (by omega), if_neg (by omega)]
variable {places : List Int} {ca : Int → Nat → Nat}
end
end
section
open Go.RowKit
section
variable {σ : Int → Nd → TT} {places : List Int} {ca : Int → Nat → Nat}
end
end
section
open Go.RowKit
theorem nodeB_var {b : Bk} {known self : Int} {m : Nd} (h : m.op = 1) : nodeB b known self m = true := by
 unfold nodeB
 rw [if_neg (by omega), if_neg (by omega), if_neg (by omega), if_neg (by omega), if_neg (by omega)]
theorem rowE_ok {b : Bk} {known self below : Int} {l : List Nd} (h1 : shapeI l = 0) (h2 : belowB l below = true) (h3 : ∀ m ∈ l, nodeB b known self m = true) : rowE b known self l below = 0 := by
 unfold rowE
 rw [h1, if_neg (by simp), h2, if_neg (by simp), if_pos (List.all_eq_true.2 h3)]
theorem fits_ok {b : Bk} {free : Int} {l : List Nd} (h1 : rightE b = 0) (h2 : 0 ≤ free) (h3 : rowE b b.entries.length (-1) l free = 0) : fitsE b free l = 0 := by
 unfold fitsE
 rw [h1, if_neg (by simp), if_neg (by omega), h3]
theorem below_rt {l : List Nd} {n : Nd} {a : List Nd} {k : Fo} (h : Rt l n a k) (v : Int) : belowB l v = !exT (fun x z => decide (max v 0 ≤ x - z)) 0 n k := by
 unfold belowB exR
 rw [h.shape, h.pp]
 simp
end
section
open Go.RowKit
end
section
open Go.RowKit
def pf (zs : List Int) (v z : Int) : Bool := decide (z ≤ v ∧ 100 ≤ ofI zs (v - z))
theorem exF_shift {p q : Int → Int → Bool} {c : Int} (h : ∀ v z, q v z = true → p v (z + c) = true) (pop pb : Int) : ∀ (j : Nat) (a : Int) (F : Fo), exF q pop pb j a F = true → exF p pop pb j (a + c) F = true
 | _, _, .nil, hh => by simp [exF] at hh
 | j, a, .cons pr n ats k x, hh => by
  simp only [exF, Bool.or_eq_true, Bool.and_eq_true] at hh ⊢
  have e : a + c + aroundI pop pb (j : Int) = a + aroundI pop pb (j : Int) + c := by omega
  rw [e]
  rcases hh with (hh | hh) | hh
  · exact .inl (.inl ⟨hh.1, h _ _ hh.2⟩)
  · exact .inl (.inr (exF_shift h n.op n.b 0 _ k hh))
  · exact .inr (exF_shift h pop pb (j + 1) a x hh)
theorem exT_shift {p q : Int → Int → Bool} {c : Int} (h : ∀ v z, q v z = true → p v (z + c) = true) {a : Int} {n : Nd} {k : Fo} (hh : exT p (a + c) n k = false) : exT q a n k = false := by
 cases he : exT q a n k with
 | false => rfl
 | true =>
  have : exT p (a + c) n k = true := by
   unfold exT at he ⊢
   simp only [Bool.or_eq_true, Bool.and_eq_true] at he ⊢
   rcases he with he | he
   · exact .inl ⟨he.1, h _ _ he.2⟩
   exact .inr (exF_shift h n.op n.b 0 _ k he)
  rw [this] at hh
  cases hh
def far (a v z : Int) : Bool := decide (z ≤ v ∧ v - z < a)
structure OkT (u : TT) : Prop where
 ok : okN u.1 = true
 at_ : AtOk u.1 u.2.1
 wf : Wf (ds u.1) u.2.2
end
section
open Go.RowKit
end
section
open Go.RowKit
def appTT (f a : TT) : TT := (⟨6, 0, 0⟩, [], .cons [] f.1 f.2.1 f.2.2 (.cons [] a.1 a.2.1 a.2.2 .nil))
end
section
open Go.RowKit
structure FitT (b : Bk) (free : Int) (x : TT) : Prop where
 okt : OkT x
 few : szT x ≤ 4096
 low : exT (fun v z => decide (free ≤ v - z)) 0 x.1 x.2.2 = false
 nod : ∀ m ∈ rowT x, nodeB b b.entries.length (-1) m = true
theorem FitT.rt {b : Bk} {free : Int} {x : TT} (h : FitT b free x) : RtX x := rt_make h.okt.ok h.okt.at_ h.okt.wf h.few
theorem FitT.fits {b : Bk} {free : Int} {x : TT} (h : FitT b free x) (hr : rightE b = 0) (h0 : 0 ≤ free) : fitsE b free (rowT x) = 0 := by
 refine fits_ok hr h0 (rowE_ok h.rt.shape ?_ h.nod)
 rw [below_rt h.rt, Bool.not_eq_true', show max free 0 = free from by omega]
 exact h.low
theorem FitT.mono {b : Bk} {free free' : Int} {x : TT} (h : FitT b free x) (hf : free ≤ free') : FitT b free' x :=
 ⟨h.okt, h.few, exT_shift (p := fun v z => decide (free ≤ v - z)) (q := fun v z => decide (free' ≤ v - z)) (c := 0) (fun v z hh => by
  simp only [decide_eq_true_eq] at hh ⊢
  omega) (a := 0) h.low, h.nod⟩
theorem app_fit {b : Bk} {free : Int} {g a : TT} (hg : FitT b free g) (ha : FitT b free a) (hs : 1 + szT g + szT a ≤ 4096) : FitT b free (appTT g a) := by
 have hrow : rowT (appTT g a) = ⟨6, 0, 0⟩ :: (rowT g ++ rowT a) := by simp [appTT, rowT, row]
 have hz : ∀ k : Int, aroundI 6 0 k = 0 := around_plain (by decide) (by decide) (by decide) (by decide)
 refine ⟨⟨(by show okN ⟨6, 0, 0⟩ = true; decide), rfl, ?_⟩, ?_, ?_, ?_⟩
 · show Wf (ds ⟨6, 0, 0⟩) _
   have hds : ds ⟨6, 0, 0⟩ = [false, false] := rfl
   rw [hds]
   exact ⟨rfl, hg.okt.ok, hg.okt.at_, hg.okt.wf, rfl, ha.okt.ok, ha.okt.at_, ha.okt.wf, trivial⟩
 · show (rowT (appTT g a)).length ≤ 4096
   rw [hrow]
   simp only [List.length_cons, List.length_append]
   simp only [szT] at hs
   omega
 · unfold appTT exT
   simp only
   rw [exF_cons, exF_cons, hz, hz, Int.add_zero, hg.low, ha.low]
   rfl
 rw [hrow]
 intro m hm
 rcases List.mem_cons.1 hm with rfl | hm
 · rfl
 rcases List.mem_append.1 hm with hm | hm
 · exact hg.nod m hm
 exact ha.nod m hm
theorem app_len (g a : TT) : szT (appTT g a) = 1 + szT g + szT a := by
 have hrow : rowT (appTT g a) = ⟨6, 0, 0⟩ :: (rowT g ++ rowT a) := by simp [appTT, rowT, row]
 unfold szT
 rw [hrow]
 simp only [List.length_cons, List.length_append]
 omega
end
section
open Go.RowKit
theorem entries_at {b : Bk} : ∀ (L : List En) (i : Nat), entriesE b i L = 0 → ∀ (j : Nat) (x : En), L[j]? = some x → entryE b ((i + j : Nat) : Int) x = 0
 | [], _, _, j, x, h => by simp at h
 | y :: r, i, he, 0, x, h => by
  simp only [List.getElem?_cons_zero, Option.some.injEq] at h
  subst h
  simp only [entriesE] at he
  split at he
  · rename_i h0; exact absurd he h0
  · rename_i h0; exact Classical.not_not.1 h0
 | y :: r, i, he, j + 1, x, h => by
  simp only [entriesE] at he
  split at he
  · rename_i h0; exact absurd he h0
  · have := entries_at r (i + 1) he j x (by simpa using h)
    rwa [show i + 1 + j = i + (j + 1) from by omega] at this
end
end Go.Proofs.Ytplecfbdchmogaa
