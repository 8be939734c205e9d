/- What does not fit has another error than what is not guarded. -/
import Derived.Test.YtpkldboeohhmpaaSub
namespace Go.Proofs.Ytpkldboeohhmpaa
open Go.RowKit

theorem shape_18 (l : List Nd) : shapeI l ≠ 18 := by
  unfold shapeI
  split
  · decide
  · split <;> decide
theorem rowE_18 (b : Bk) (known self : Int) (l : List Nd) (below : Int) : rowE b known self l below ≠ 18 := by
  unfold rowE
  split
  · exact shape_18 l
  · split
    · decide
    · split <;> decide
theorem rowsE_18 (b : Bk) (known self step : Int) : ∀ (L : List (List Nd)) (below : Int), rowsE b known self step L below ≠ 18
  | [], _ => by simp [rowsE]
  | l :: r, below => by
    simp only [rowsE]
    split
    · exact rowE_18 _ _ _ _ _
    · exact rowsE_18 b known self step r _
theorem ctorsE_18 (b : Bk) (known : Int) (x : En) : ∀ (L : List Ct), ctorsE b known x L ≠ 18
  | [] => by simp [ctorsE]
  | c :: r => by
    simp only [ctorsE]
    split
    · decide
    · split
      · decide
      · split
        · exact rowsE_18 _ _ _ _ _ _
        · split
          · exact rowsE_18 _ _ _ _ _ _
          · exact ctorsE_18 b known x r
theorem firstE_18 : ∀ {L : List Int}, (∀ e ∈ L, e ≠ 18) → firstE L ≠ 18
  | [], _ => by simp [firstE]
  | e :: r, h => by
    simp only [firstE]
    split
    · exact h e (by simp)
    · exact firstE_18 (fun e he => h e (by simp [he]))
theorem entryE_18 (b : Bk) (known : Int) (x : En) : entryE b known x ≠ 18 := by
  unfold entryE
  split
  · split
    · decide
    · split
      · decide
      · refine firstE_18 ?_
        intro e he
        simp only [List.mem_cons, List.not_mem_nil, or_false] at he
        rcases he with rfl | rfl | rfl | rfl | rfl
        · exact rowE_18 _ _ _ _ _
        · unfold sortE
          split <;> decide
        · exact rowsE_18 _ _ _ _ _ _
        · exact rowsE_18 _ _ _ _ _ _
        · exact ctorsE_18 _ _ _ _
  · split
    · split
      · decide
      · exact rowsE_18 _ _ _ _ _ _
    · decide
theorem entriesE_18 (b : Bk) : ∀ (i : Nat) (L : List En), entriesE b i L ≠ 18
  | _, [] => by simp [entriesE]
  | i, x :: r => by
    simp only [entriesE]
    split
    · exact entryE_18 _ _ _
    · exact entriesE_18 b (i + 1) r
theorem rightE_18 (b : Bk) : rightE b ≠ 18 := by
  unfold rightE
  split
  · unfold clR
    split
    · decide
    · split
      · decide
      · split
        · simp
        · split <;> simp
  · split
    · decide
    · split
      · exact entriesE_18 _ _ _
      · split <;> decide
theorem fitsE_18 (b : Bk) (free : Int) (l : List Nd) : fitsE b free l ≠ 18 := by
  unfold fitsE
  split
  · exact rightE_18 b
  · split
    · decide
    · exact rowE_18 _ _ _ _ _
/-- Taken or not guarded: it fits. -/
theorem chk_fits {b : Bk} {free : Int} {l : List Nd} (h : chkGE b free l = 0 ∨ chkGE b free l = 18) : fitsE b free l = 0 := by
  unfold chkGE at h
  split at h
  · rename_i h1
    rcases h with h | h
    · exact absurd h h1
    · exact absurd h (fitsE_18 _ _ _)
  · rename_i h1
    exact Decidable.not_not.1 h1

end Go.Proofs.Ytpkldboeohhmpaa
