/- Terms in terms; what Right and Fits give the guard checker. -/
import Derived.Test.YtjllmblbbgojbaaUGuarded
import Derived.Test.YtjllmblbbgojbaaUBooks
namespace Go.Proofs.Ytjllmblbbgojbaa
open Go.RowKit
def treeAt (l : List Nd) : TT := match pp [false] l with
 | some (.cons _ n a k _, _) => (n, a, k)
 | none => (default, [], .nil)
 | some (.nil, _) => (default, [], .nil)
theorem treeAt_rt {l : List Nd} {n : Nd} {a : List Nd} {k : Fo} (h : Rt l n a k) : treeAt l = (n, a, k) := by
 unfold treeAt
 rw [h.pp]
theorem firstE_all : ∀ {L : List Int}, firstE L = 0 → ∀ e ∈ L, e = 0
 | [], _, e, he => by cases he
 | x :: r, h, e, he => by
  simp only [firstE] at h
  split at h
  · rename_i h1; exact absurd h h1
  · rename_i h1
    rcases List.mem_cons.1 he with rfl | he
    · exact Decidable.not_not.1 h1
    exact firstE_all h e he
theorem entry_small {b : Bk} {known : Int} {x : En} (h : entryE b known x = 0) : x.ctors.length ≤ 16 ∧ ∀ c ∈ x.ctors, c.args.length ≤ 16 := by
 unfold entryE at h
 split at h
 rotate_left
 · split at h
   · split at h
     · cases h
     rename_i h3
     have : x.ctors = [] := List.eq_nil_of_length_eq_zero (by omega)
     rw [this]
     exact ⟨by simp, fun c hc => by cases hc⟩
   cases h
 split at h
 · cases h
 split at h
 · cases h
 rename_i h1 h2 h3
 refine ⟨by omega, ?_⟩
 have hc : ctorsE b known x x.ctors = 0 := by
  exact firstE_all h _ (by simp)
 generalize x.ctors = L at hc
 clear h h1 h2 h3
 induction L with
 | nil => intro c hc; cases hc
 | cons c r ih =>
  simp only [ctorsE] at hc
  split at hc
  · cases hc
  · rename_i h1
    split at hc
    · cases hc
    split at hc
    · rename_i h2; exact absurd hc h2
    split at hc
    · rename_i h3; exact absurd hc h3
    intro c' hc'
    rcases List.mem_cons.1 hc' with rfl | hc'
    · omega
    exact ih hc c' hc'
theorem entries_small {b : Bk} : ∀ {L : List En} {i : Nat}, entriesE b i L = 0 → ∀ x ∈ L, x.ctors.length ≤ 16 ∧ ∀ c ∈ x.ctors, c.args.length ≤ 16
 | [], _, _, x, hx => by cases hx
 | y :: r, i, h, x, hx => by
  rw [show entriesE b i (y :: r) = if entryE b i y ≠ 0 then entryE b i y else entriesE b (i + 1) r from rfl] at h
  split at h
  · rename_i h1; exact absurd h h1
  · rename_i h1
    rcases List.mem_cons.1 hx with rfl | hx
    · exact entry_small (Decidable.not_not.1 h1)
    exact entries_small h x hx
theorem right_small {b : Bk} (h : rightE b = 0) : ∀ x ∈ b.entries, x.ctors.length ≤ 16 ∧ ∀ c ∈ x.ctors, c.args.length ≤ 16 := by
 unfold rightE at h
 split at h
 · rename_i h1; exact absurd h h1
 split at h
 · cases h
 split at h
 · rename_i h1; exact absurd h h1
 rename_i h1
 exact entries_small (Decidable.not_not.1 h1)
theorem fits_row {b : Bk} {free : Int} {l : List Nd} (h : fitsE b free l = 0) : rightE b = 0 ∧ 0 ≤ free ∧ rowE b b.entries.length (-1) l free = 0 := by
 unfold fitsE at h
 split at h
 · rename_i h1; exact absurd h h1
 rename_i h1
 split at h
 · cases h
 rename_i h2
 exact ⟨Decidable.not_not.1 h1, by omega, h⟩
theorem row_nodes {b : Bk} {known self below : Int} {l : List Nd} (h : rowE b known self l below = 0) : shapeI l = 0 ∧ belowB l below = true ∧ ∀ m ∈ l, nodeB b known self m = true := by
 unfold rowE at h
 split at h
 · rename_i h1; exact absurd h h1
 rename_i h1
 split at h
 · cases h
 rename_i h2
 split at h
 · rename_i h3
   exact ⟨Decidable.not_not.1 h1, by simpa using h2, List.all_eq_true.1 h3⟩
 cases h
end Go.Proofs.Ytjllmblbbgojbaa
