/- Merged: Sub, LiftG. -/
import Derived.Test.YtjoddliplahgkaaBGuarded
import Derived.Test.YtjoddliplahgkaaBBooks
namespace Go.Proofs.Ytjoddliplahgkaa
section
open Go.RowKit
def treeAt (l : List Nd) : TT := match pp [false] l with
 | some (.cons _ n a k _, _) => (n, a, k)
 | none => (default, [], .nil)
 | some (.nil, _) => (default, [], .nil)
theorem treeAt_rt {l : List Nd} {n : Nd} {a : List Nd} {k : Fo} (h : Rt l n a k) : treeAt l = (n, a, k) := by
 unfold treeAt
 rw [h.pp]
theorem fits_row {b : Bk} {free : Int} {l : List Nd} (h : fitsE b free l = 0) : rightE b = 0 ∧ 0 ≤ free ∧ rowE b b.entries.length (-1) l free = 0 := by
 unfold fitsE at h
 split at h
 · rename_i h1; exact absurd h h1
 rename_i h1
 split at h
 · cases h
 rename_i h2
 exact ⟨Decidable.not_not.1 h1, by omega, h⟩
theorem row_nodes {b : Bk} {known self below : Int} {l : List Nd} (h : rowE b known self l below = 0) : shapeI l = 0 ∧ belowB l below = true ∧ ∀ m ∈ l, nodeB b known self m = true := by
 unfold rowE at h
 split at h
 · rename_i h1; exact absurd h h1
 rename_i h1
 split at h
 · cases h
 rename_i h2
 split at h
 · rename_i h3
   exact ⟨Decidable.not_not.1 h1, by simpa using h2, List.all_eq_true.1 h3⟩
 cases h
end
section
open Go.RowKit
theorem bok_wf : ∀ (F : Fo) (dl : List Bool), Wf dl F → BOk F
 | .nil, _, _ => trivial
 | .cons _ _ _ _ _, [], h => h.elim
 | .cons p n a k x, d :: dr, h => by
  obtain ⟨_, hok, _, hk, hx⟩ := h
  refine ⟨fun h12 => ?_, bok_wf k _ hk, bok_wf x _ hx⟩
  simp only [okN, Bool.and_eq_true] at hok
  exact (plainB_b hok.1.1).1
theorem ds_one' {n : Nd} (h : n.op = 1) : ds n = [] := by simp [ds, kidsI, h]
theorem vkF_wf : ∀ (F : Fo) (dl : List Bool), Wf dl F → VkF F
 | .nil, _, _ => trivial
 | .cons _ _ _ _ _, [], h => h.elim
 | .cons p n a k x, d :: dr, h => by
  obtain ⟨_, hok, hat, hk, hx⟩ := h
  refine ⟨fun h1 => ?_, vkF_wf k _ hk, vkF_wf x _ hx⟩
  rw [ds_one' h1] at hk
  constructor
  · unfold AtOk at hat
    rw [if_neg (by omega)] at hat
    exact hat
  · cases k with
    | nil => rfl
    | cons _ _ _ _ _ => exact hk.elim
theorem raF_one (up fr : Int) (p : List Nd) (n : Nd) (a : List Nd) (k : Fo) : raF up fr 0 0 0 0 (.cons p n a k .nil) = .cons p (raN up fr n 0) a (raF up fr n.op n.b 0 0 k) .nil := rfl
theorem exF_ra {up fr v : Int} (pop pb : Int) : ∀ (j : Nat) (a : Int) (F : Fo), exF (fun x z => decide (v + up ≤ x - z)) pop pb j a (raF up fr pop pb j a F) = true → 0 ≤ up → exF (fun x z => decide (v ≤ x - z)) pop pb j a F = true
 | _, _, .nil, h, _ => by simp [raF, exF] at h
 | j, a, .cons p n ats k x, h, h0 => by
  have hs := raN_same up fr n (a + aroundI pop pb j)
  simp only [raF, exF, hs.1, hs.2, Bool.or_eq_true, Bool.and_eq_true, decide_eq_true_eq] at h ⊢
  rcases h with (⟨h1, h2⟩ | h) | h
  · refine .inl (.inl ⟨h1, ?_⟩)
    unfold raN at h2
    split at h2
    · simp only at h2; omega
    omega
  · exact .inl (.inr (exF_ra n.op n.b 0 _ k h h0))
  · exact .inr (exF_ra pop pb (j + 1) a x h h0)
theorem row_ra {up fr : Int} (pop pb : Int) : ∀ (j : Nat) (a : Int) (F : Fo), ∀ m ∈ row (raF up fr pop pb j a F), m ∈ row F ∨ m.op = 1
 | _, _, .nil, m, hm => by simp [raF, row] at hm
 | j, a, .cons p n ats k x, m, hm => by
  simp only [raF, row, List.mem_append, List.mem_cons] at hm ⊢
  rcases hm with hm | rfl | hm | hm | hm
  · exact .inl (.inl hm)
  · unfold raN
    split
    · rename_i h; exact .inr h.1
    exact .inl (.inr (.inl rfl))
  · exact .inl (.inr (.inr (.inl hm)))
  · rcases row_ra n.op n.b 0 _ k m hm with h | h
    · exact .inl (.inr (.inr (.inr (.inl h))))
    exact .inr h
  · rcases row_ra pop pb (j + 1) a x m hm with h | h
    · exact .inl (.inr (.inr (.inr (.inr h))))
    exact .inr h
theorem nodeB_var {b : Bk} {known self : Int} {m : Nd} (h : m.op = 1) : nodeB b known self m = true := by
 unfold nodeB
 rw [if_neg (by omega), if_neg (by omega), if_neg (by omega), if_neg (by omega), if_neg (by omega)]
theorem rowE_ok {b : Bk} {known self below : Int} {l : List Nd} (h1 : shapeI l = 0) (h2 : belowB l below = true) (h3 : ∀ m ∈ l, nodeB b known self m = true) : rowE b known self l below = 0 := by
 unfold rowE
 rw [h1, if_neg (by simp), h2, if_neg (by simp), if_pos (List.all_eq_true.2 h3)]
theorem fits_ok {b : Bk} {free : Int} {l : List Nd} (h1 : rightE b = 0) (h2 : 0 ≤ free) (h3 : rowE b b.entries.length (-1) l free = 0) : fitsE b free l = 0 := by
 unfold fitsE
 rw [h1, if_neg (by simp), if_neg (by omega), h3]
theorem below_rt {l : List Nd} {n : Nd} {a : List Nd} {k : Fo} (h : Rt l n a k) (v : Int) : belowB l v = !exT (fun x z => decide (max v 0 ≤ x - z)) 0 n k := by
 unfold belowB exR
 rw [h.shape, h.pp]
 simp
end
end Go.Proofs.Ytjoddliplahgkaa
