/- What closed terms mean: what comes is a value that fits; how fuel counts. Plain laws. -/
import Derived.Test.YtjoddliplahgkaaBSenseL
namespace Go.Proofs.Ytjoddliplahgkaa
open Go.RowKit
theorem fixk {x : TT} (h : OkT x) (h12 : x.1.op = 12) : (press x.2.2).length = x.1.b.toNat ∧ (∀ m ∈ press x.2.2, 0 ≤ m.a ∧ m.a < 16) := by
 have hok := h.ok
 simp only [okN, Bool.and_eq_true] at hok
 have h2 := plainB_iff.1 hok.1.1
 have hds : ds x.1 = (List.replicate x.1.b.toNat [true, false]).flatten := by unfold ds; rw [if_pos h12]
 have key : ∀ (B : Nat) (F : Fo), Wf ((List.replicate B [true, false]).flatten) F → (press F).length = B ∧ (∀ m ∈ press F, 0 ≤ m.a ∧ m.a < 16) := by
  intro B
  induction B with
  | zero =>
   intro F hF
   cases F with
   | nil => exact ⟨rfl, fun m hm => by cases hm⟩
   | cons _ _ _ _ _ => exact hF.elim
  | succ B ih =>
   intro F hF
   rw [List.replicate_succ, List.flatten_cons] at hF
   match F, hF with
   | .cons p1 n1 a1 k1 (.cons p2 n2 a2 k2 x), hF =>
    obtain ⟨⟨f, rfl, hf⟩, _, _, _, hp2, _, _, _, hx⟩ := hF
    simp only at hp2
    subst hp2
    obtain ⟨g1, g2⟩ := ih x hx
    simp only [press, List.nil_append]
    refine ⟨by simp [g1], fun m hm => ?_⟩
    simp only [List.singleton_append, List.mem_cons] at hm
    rcases hm with rfl | hm
    · simp only [okF, Bool.and_eq_true, decide_eq_true_eq] at hf
      have := plainB_iff.1 hf.1
      omega
    · exact g2 m hm
   | .cons p1 n1 a1 k1 .nil, hF => exact hF.2.2.2.2.elim
   | .nil, hF => exact hF.elim
 exact key _ x.2.2 (hds ▸ h.wf)
theorem place_bd {x : TT} (h : OkT x) (h12 : x.1.op = 12) : 0 ≤ placeT x ∧ placeT x < 16 := by
 obtain ⟨h1, h2⟩ := fixk h h12
 obtain ⟨_, _, h3, h4, _⟩ := fix_parts h h12
 unfold placeT placesT
 have hl : x.1.a.toNat < ((press x.2.2).map (·.a)).length := by rw [List.length_map, h1]; omega
 rw [List.getD_eq_getElem?_getD, List.getElem?_eq_getElem hl]
 simp only [Option.getD_some, List.getElem_map]
 exact h2 _ (List.getElem_mem _)
theorem node_mono {b : Bk} {k k' : Int} {m : Nd} (h : nodeB b k (-1) m = true) (hk : k ≤ k') : nodeB b k' (-1) m = true := by
 have fam : ∀ e, famB b k e = true → famB b k' e = true := fun e he => by
  unfold famB at he ⊢
  rw [Bool.and_eq_true, decide_eq_true_eq] at he ⊢
  exact ⟨by omega, he.2⟩
 unfold nodeB at h ⊢
 split
 · rename_i h3
   rw [if_pos h3] at h; exact h
 rename_i h3
 rw [if_neg h3] at h
 split
 · rename_i h8
   rw [if_pos h8, Bool.and_eq_true, decide_eq_true_eq] at h
   rw [Bool.and_eq_true, decide_eq_true_eq]
   exact ⟨by omega, h.2⟩
 rename_i h8
 rw [if_neg h8] at h
 split
 · rename_i h9
   rw [if_pos h9, Bool.or_eq_true] at h
   rw [Bool.or_eq_true]
   exact h.imp id (fam _)
 rename_i h9
 rw [if_neg h9] at h
 split
 · rename_i h11
   rw [if_pos h11] at h; exact fam _ h
 rename_i h11
 rw [if_neg h11] at h
 split
 · rename_i h10
   rw [if_pos h10, Bool.and_eq_true] at h
   rw [Bool.and_eq_true]
   exact ⟨fam _ h.1, h.2⟩
 rfl
theorem entries_at {b : Bk} : ∀ (L : List En) (i : Nat), entriesE b i L = 0 → ∀ (j : Nat) (x : En), L[j]? = some x → entryE b ((i + j : Nat) : Int) x = 0
 | [], _, _, j, x, h => by simp at h
 | y :: r, i, he, 0, x, h => by
  simp only [List.getElem?_cons_zero, Option.some.injEq] at h
  subst h
  simp only [entriesE] at he
  split at he
  · rename_i h0; exact absurd he h0
  · rename_i h0; exact Classical.not_not.1 h0
 | y :: r, i, he, j + 1, x, h => by
  simp only [entriesE] at he
  split at he
  · rename_i h0; exact absurd he h0
  · have := entries_at r (i + 1) he j x (by simpa using h)
    rwa [show i + 1 + j = i + (j + 1) from by omega] at this
theorem right_entries {b : Bk} (h : rightE b = 0) : entriesE b 0 b.entries = 0 := by
 unfold rightE at h
 split at h
 · rename_i h0; exact absurd h h0
 split at h
 · cases h
 split at h
 · rename_i h0; exact absurd h h0
 rename_i h0; exact Classical.not_not.1 h0
theorem body_def {b : Bk} (hr : rightE b = 0) {e : Int} (h0 : 0 ≤ e) (h1 : e < (b.entries.length : Int)) (h2 : (entB b e).kind = 2) : fitsE b 0 (entB b e).body = 0 := by
 have hl : e.toNat < b.entries.length := by omega
 have hx : b.entries[e.toNat]? = some (entB b e) := by
  unfold entB
  rw [List.getD_eq_getElem?_getD, List.getElem?_eq_getElem hl]
  rfl
 have he := entries_at _ _ (right_entries hr) _ _ hx
 rw [Nat.zero_add] at he
 unfold entryE at he
 rw [if_neg (by omega), if_pos h2] at he
 split at he
 · cases he
 simp only [rowsE] at he
 split at he
 · rename_i h3; exact absurd he h3
 split at he
 · rename_i h3; exact absurd he h3
 rename_i h3
 have h4 := Classical.not_not.1 h3
 rw [Int.add_zero] at h4
 obtain ⟨a1, a2, a3⟩ := row_nodes h4
 exact fits_ok hr (by omega) (rowE_ok a1 a2 (fun m hm => node_mono (a3 m hm) (by omega)))
theorem kids_two {x : TT} (h : OkT x) (h6 : x.1.op = 6 ∨ x.1.op = 5 ∨ x.1.op = 4) : ∃ p q, kidL x.2.2 = [p, q] := by
 have hl := wf_kids h.wf
 rw [ds_len h.ok] at hl
 unfold nkI at hl
 generalize kidL x.2.2 = L at *
 have : L.length = 2 := by
  rw [hl]
  rcases h6 with h6 | h6 | h6 <;> rw [h6] <;> rfl
 match L, this with
 | [p, q], _ => exact ⟨p, q, rfl⟩
theorem kids_three {x : TT} (h : OkT x) (h7 : x.1.op = 7) : ∃ p q r, kidL x.2.2 = [p, q, r] := by
 have hl := wf_kids h.wf
 rw [ds_len h.ok] at hl
 unfold nkI at hl
 generalize kidL x.2.2 = L at *
 have : L.length = 3 := by rw [hl, h7]; rfl
 match L, this with
 | [p, q, r], _ => exact ⟨p, q, r, rfl⟩
theorem kids_match {x : TT} (h : OkT x) (h11 : x.1.op = 11) : ∃ p q br, kidL x.2.2 = p :: q :: br ∧ (br.length : Int) = x.1.b := by
 have hl := wf_kids h.wf
 have hok := h.ok
 rw [ds_len hok] at hl
 simp only [okN, Bool.and_eq_true] at hok
 have hb := (plainB_b hok.1.1).1
 unfold nkI at hl
 generalize kidL x.2.2 = L at *
 have : L.length = 2 + x.1.b.toNat := by rw [hl, h11]; simp; omega
 match L, this with
 | p :: q :: br, this => exact ⟨p, q, br, rfl, by simp at this; omega⟩
 | [_], this => simp at this; omega
 | [], this => simp at this; omega
theorem ctor_bd {x : TT} (h : OkT x) (_h10 : x.1.op = 10) : 0 ≤ x.1.b := by
 have hok := h.ok
 simp only [okN, Bool.and_eq_true] at hok
 exact (plainB_b hok.1.1).1
end Go.Proofs.Ytjoddliplahgkaa
