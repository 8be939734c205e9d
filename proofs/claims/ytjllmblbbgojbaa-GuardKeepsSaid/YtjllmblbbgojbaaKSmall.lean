/- A book of few nodes and things has short rows. Plain laws. -/
import Derived.Test.YtjllmblbbgojbaaKSized
import Derived.Test.YtjllmblbbgojbaaKCopyBook
namespace Go.Proofs.Ytjllmblbbgojbaa
open Go.RowKit
theorem sizeF_all {lid : Int} : ∀ (r : List (List Nd)) (n : Int), sizeF lid r n < lid → n + r.length ≤ sizeF lid r n
 | [], n, _ => by simp [sizeF]
 | l :: r, n, h => by
  simp only [sizeF] at h ⊢
  split at h
  · rename_i h0
    rw [if_pos h0]
    have := sizeF_all r _ h
    simp only [List.length_cons]
    omega
  · rename_i h0
    exact absurd h h0
theorem sizeC_ge' {lid : Int} : ∀ (r : List Ct) (n : Int), n ≤ sizeC lid r n
 | [], n => Int.le_refl _
 | c :: r, n => by
  simp only [sizeC]
  split
  · have h1 := sizeF_ge lid c.args 0
    have h2 := sizeF_ge lid c.outs 0
    have := sizeC_ge' (lid := lid) r (n + 1 + sizeF lid c.args 0 + sizeF lid c.outs 0)
    omega
  · exact Int.le_refl _
theorem sizeC_all {lid : Int} : ∀ (r : List Ct) (n : Int), 0 ≤ n → sizeC lid r n < lid → n + r.length ≤ sizeC lid r n ∧ ∀ c ∈ r, (c.args.length : Int) ≤ lid ∧ (c.outs.length : Int) ≤ lid
 | [], n, _, _ => ⟨by simp [sizeC], fun c hc => by cases hc⟩
 | c :: r, n, h0, h => by
  simp only [sizeC] at h ⊢
  split at h
  · rename_i hl
    rw [if_pos hl]
    have h1 := sizeF_ge lid c.args 0
    have h2 := sizeF_ge lid c.outs 0
    have h3 := sizeC_ge' (lid := lid) r (n + 1 + sizeF lid c.args 0 + sizeF lid c.outs 0)
    have h4 := sizeF_all (lid := lid) c.args 0
    have h5 := sizeF_all (lid := lid) c.outs 0
    obtain ⟨i1, i2⟩ := sizeC_all r _ (by omega) h
    have h4 := h4 (by omega)
    have h5 := h5 (by omega)
    refine ⟨by simp only [List.length_cons]; omega, fun x hx => ?_⟩
    rcases List.mem_cons.1 hx with rfl | hx
    · omega
    exact i2 x hx
  · rename_i hl
    exact absurd h hl
theorem sizeE_ge' {lid : Int} : ∀ (r : List En) (n : Int), n ≤ sizeE lid r n
 | [], n => Int.le_refl _
 | x :: r, n => by
  simp only [sizeE]
  split
  · have h1 := sizeF_ge lid x.params 0
    have h2 := sizeF_ge lid x.indices 0
    have h3 := sizeC_ge' (lid := lid) x.ctors (n + 1 + (x.sort.length : Int) + (x.type.length : Int) + (x.body.length : Int) + sizeF lid x.params 0 + sizeF lid x.indices 0)
    have := sizeE_ge' (lid := lid) r (sizeC lid x.ctors (n + 1 + (x.sort.length : Int) + (x.type.length : Int) + (x.body.length : Int) + sizeF lid x.params 0 + sizeF lid x.indices 0))
    omega
  · exact Int.le_refl _
theorem sizeE_all {lid : Int} : ∀ (r : List En) (n : Int), 0 ≤ n → sizeE lid r n < lid → n + r.length ≤ sizeE lid r n ∧ ∀ x ∈ r, (x.params.length : Int) ≤ lid ∧ (x.indices.length : Int) ≤ lid ∧ (x.ctors.length : Int) ≤ lid ∧ ∀ c ∈ x.ctors, (c.args.length : Int) ≤ lid ∧ (c.outs.length : Int) ≤ lid
 | [], n, _, _ => ⟨by simp [sizeE], fun c hc => by cases hc⟩
 | x :: r, n, h0, h => by
  simp only [sizeE] at h ⊢
  split at h
  · rename_i hl
    rw [if_pos hl]
    have h1 := sizeF_ge lid x.params 0
    have h2 := sizeF_ge lid x.indices 0
    have h3 := sizeC_ge' (lid := lid) x.ctors (n + 1 + (x.sort.length : Int) + (x.type.length : Int) + (x.body.length : Int) + sizeF lid x.params 0 + sizeF lid x.indices 0)
    have h6 := sizeE_ge' (lid := lid) r (sizeC lid x.ctors (n + 1 + (x.sort.length : Int) + (x.type.length : Int) + (x.body.length : Int) + sizeF lid x.params 0 + sizeF lid x.indices 0))
    have h4 := sizeF_all (lid := lid) x.params 0
    have h5 := sizeF_all (lid := lid) x.indices 0
    obtain ⟨i1, i2⟩ := sizeE_all r _ (by omega) h
    have h4 := h4 (by omega)
    have h5 := h5 (by omega)
    obtain ⟨j1, j2⟩ := sizeC_all x.ctors _ (by omega) (by omega : sizeC lid x.ctors (n + 1 + (x.sort.length : Int) + (x.type.length : Int) + (x.body.length : Int) + sizeF lid x.params 0 + sizeF lid x.indices 0) < lid)
    refine ⟨by simp only [List.length_cons]; omega, fun y hy => ?_⟩
    rcases List.mem_cons.1 hy with rfl | hy
    · exact ⟨by omega, by omega, by omega, j2⟩
    exact i2 y hy
  · rename_i hl
    exact absurd h hl
theorem small_size {lid : Int} {b : Bk} (hl : lid ≤ 1000000) (h : sizeB lid b < lid) : SmallB b := by
 obtain ⟨h1, h2⟩ := sizeE_all _ _ (by omega) h
 unfold sizeB at h
 refine ⟨by omega, fun x hx => ?_⟩
 obtain ⟨a1, a2, a3, a4⟩ := h2 x hx
 exact ⟨by omega, by omega, by omega, fun c hc => by have := a4 c hc; omega⟩
end Go.Proofs.Ytjllmblbbgojbaa
