/- Merged: Match, FineS. -/
import Derived.Test.YtjllmblbbgojbaaUHeads
import Derived.Test.YtjllmblbbgojbaaULeafs
namespace Go.Proofs.Ytjllmblbbgojbaa
section
open Go.RowKit
end
section
open Go.RowKit
theorem hd_len : ∀ (m : Nat) (x : TT), RtX x → (hd m x).2.length < (rowT x).length
 | 0, x, _ => by
  obtain ⟨n, a, k⟩ := x
  simp [hd, rowT]
 | m + 1, (n, a, k), h => by
  by_cases h6 : n.op = 6
  · obtain ⟨n1, a1, k1, n2, a2, k2, rfl, hs⟩ := app_split h h6
    rw [hd_app h6]
    have e1 := hd_len m (n1, a1, k1) hs.fst
    have hr := congrArg List.length hs.eq
    simp only [rowT, List.length_cons, List.length_append] at hr e1 ⊢
    simp only [List.length_nil]
    omega
  · rw [hd_stop (x := (n, a, k)) h6]
    simp [rowT]
def GM (nq : Nat) (zs : List Int) : Prop := ∀ z ∈ zs, (0 ≤ z ∧ z ≤ 2) ∨ (100 ≤ z ∧ z < 100 + (nq : Int))
theorem GM.add {nq : Nat} {zs : List Int} {z : Int} (h0 : 0 ≤ z) (h2 : z ≤ 2) (h : GM nq zs) : GM nq (zs ++ [z]) := fun u hu => by
 rcases List.mem_append.1 hu with hu | hu
 · exact h u hu
 rw [List.mem_singleton] at hu; subst hu; exact .inl ⟨h0, h2⟩
theorem GM.many {nq : Nat} {zs : List Int} {m : Nat} (h : GM nq zs) : GM nq (zs ++ List.replicate m 0) := fun u hu => by
 rcases List.mem_append.1 hu with hu | hu
 · exact h u hu
 rw [List.eq_of_mem_replicate hu]; exact .inl ⟨by omega, by omega⟩
theorem GM.of {nq : Nat} {zs : List Int} {v : Int} (h : GM nq zs) (h0 : 0 ≤ v) : (0 ≤ ofI zs v ∧ ofI zs v ≤ 2) ∨ (100 ≤ ofI zs v ∧ ofI zs v < 100 + (nq : Int)) := by
 unfold ofI
 split
 · exact .inl ⟨by omega, by omega⟩
 have hlt : zs.length - 1 - v.toNat < zs.length := by omega
 rw [List.getD_eq_getElem?_getD, List.getElem?_eq_getElem hlt]
 exact h _ (List.getElem_mem hlt)
end
end Go.Proofs.Ytjllmblbbgojbaa
