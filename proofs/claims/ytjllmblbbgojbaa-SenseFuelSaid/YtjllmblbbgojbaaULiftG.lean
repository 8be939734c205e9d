/- Lifted terms are guarded as before: plain laws. -/
import Derived.Test.YtjllmblbbgojbaaUFixF
import Derived.Test.YtjllmblbbgojbaaUTermL
import Derived.Test.YtjllmblbbgojbaaUSub
namespace Go.Proofs.Ytjllmblbbgojbaa
open Go.RowKit
theorem bok_wf : ∀ (F : Fo) (dl : List Bool), Wf dl F → BOk F
 | .nil, _, _ => trivial
 | .cons _ _ _ _ _, [], h => h.elim
 | .cons p n a k x, d :: dr, h => by
  obtain ⟨_, hok, _, hk, hx⟩ := h
  refine ⟨fun h12 => ?_, bok_wf k _ hk, bok_wf x _ hx⟩
  simp only [okN, Bool.and_eq_true] at hok
  exact (plainB_b hok.1.1).1
theorem ds_one' {n : Nd} (h : n.op = 1) : ds n = [] := by simp [ds, kidsI, h]
theorem vkF_wf : ∀ (F : Fo) (dl : List Bool), Wf dl F → VkF F
 | .nil, _, _ => trivial
 | .cons _ _ _ _ _, [], h => h.elim
 | .cons p n a k x, d :: dr, h => by
  obtain ⟨_, hok, hat, hk, hx⟩ := h
  refine ⟨fun h1 => ?_, vkF_wf k _ hk, vkF_wf x _ hx⟩
  rw [ds_one' h1] at hk
  constructor
  · unfold AtOk at hat
    rw [if_neg (by omega)] at hat
    exact hat
  · cases k with
    | nil => rfl
    | cons _ _ _ _ _ => exact hk.elim
theorem raF_one (up fr : Int) (p : List Nd) (n : Nd) (a : List Nd) (k : Fo) : raF up fr 0 0 0 0 (.cons p n a k .nil) = .cons p (raN up fr n 0) a (raF up fr n.op n.b 0 0 k) .nil := rfl
theorem row_ra {up fr : Int} (pop pb : Int) : ∀ (j : Nat) (a : Int) (F : Fo), ∀ m ∈ row (raF up fr pop pb j a F), m ∈ row F ∨ m.op = 1
 | _, _, .nil, m, hm => by simp [raF, row] at hm
 | j, a, .cons p n ats k x, m, hm => by
  simp only [raF, row, List.mem_append, List.mem_cons] at hm ⊢
  rcases hm with hm | rfl | hm | hm | hm
  · exact .inl (.inl hm)
  · unfold raN
    split
    · rename_i h; exact .inr h.1
    exact .inl (.inr (.inl rfl))
  · exact .inl (.inr (.inr (.inl hm)))
  · rcases row_ra n.op n.b 0 _ k m hm with h | h
    · exact .inl (.inr (.inr (.inr (.inl h))))
    exact .inr h
  · rcases row_ra pop pb (j + 1) a x m hm with h | h
    · exact .inl (.inr (.inr (.inr (.inr h))))
    exact .inr h
theorem nodeB_var {b : Bk} {known self : Int} {m : Nd} (h : m.op = 1) : nodeB b known self m = true := by
 unfold nodeB
 rw [if_neg (by omega), if_neg (by omega), if_neg (by omega), if_neg (by omega), if_neg (by omega)]
theorem rowE_ok {b : Bk} {known self below : Int} {l : List Nd} (h1 : shapeI l = 0) (h2 : belowB l below = true) (h3 : ∀ m ∈ l, nodeB b known self m = true) : rowE b known self l below = 0 := by
 unfold rowE
 rw [h1, if_neg (by simp), h2, if_neg (by simp), if_pos (List.all_eq_true.2 h3)]
theorem fits_ok {b : Bk} {free : Int} {l : List Nd} (h1 : rightE b = 0) (h2 : 0 ≤ free) (h3 : rowE b b.entries.length (-1) l free = 0) : fitsE b free l = 0 := by
 unfold fitsE
 rw [h1, if_neg (by simp), if_neg (by omega), h3]
theorem below_rt {l : List Nd} {n : Nd} {a : List Nd} {k : Fo} (h : Rt l n a k) (v : Int) : belowB l v = !exT (fun x z => decide (max v 0 ≤ x - z)) 0 n k := by
 unfold belowB exR
 rw [h.shape, h.pp]
 simp
end Go.Proofs.Ytjllmblbbgojbaa
