/- Merged: PartG, SenseP, SenseL, SenseM. -/
import Derived.Test.YtjoddliplahgkaaDSubst1
import Derived.Test.YtjoddliplahgkaaDRowsD
import Derived.Test.YtjoddliplahgkaaDKidss
namespace Go.Proofs.Ytjoddliplahgkaa
section
open Go.RowKit
theorem arL_at (pop pb : Int) : ∀ (F : Fo) (j i : Nat), i < flen F → (arL pop pb j F).getD i 0 = aroundI pop pb ((j + i : Nat) : Int)
 | .nil, _, i, h => by simp [flen] at h
 | .cons p n a k x, j, 0, h => rfl
 | .cons p n a k x, j, i + 1, h => by
  have := arL_at pop pb x (j + 1) i (by simpa [flen] using h)
  rw [show j + (i + 1) = j + 1 + i from by omega, ← this]
  simp [arL]
theorem kid_wf : ∀ {F : Fo} {dl : List Bool}, Wf dl F → ∀ {y : TT}, y ∈ kidL F → OkT y
 | .nil, _, _, y, h => by cases h
 | .cons _ _ _ _ _, [], h, _, _ => h.elim
 | .cons p n a k x, d :: dr, h, y, hy => by
  obtain ⟨_, hok, hat, hk, hx⟩ := h
  rw [kidL_cons] at hy
  rcases List.mem_cons.1 hy with rfl | hy
  · exact ⟨hok, hat, hk⟩
  · exact kid_wf hx hy
end
section
open Go.RowKit
inductive RV where
 | ok (x : TT) (f : Nat)
 | er (e : Int)
def placeT (x : TT) : Int := (placesT x.2.2).getD x.1.a.toNat 0
def subTT (x u : TT) : TT × Int := if 4096 < (szT x : Int) + cnT 0 x.1 x.2.2 * ((szT u : Int) - 1) then (x, 9) else (trT (suS u) 0 x, 0)
def appTT (f a : TT) : TT := (⟨6, 0, 0⟩, [], .cons [] f.1 f.2.1 f.2.2 (.cons [] a.1 a.2.1 a.2.2 .nil))
def fixAt (h : TT) (i : Nat) : TT := (⟨h.1.op, (i : Int), h.1.b⟩, h.2.1, h.2.2)
end
section
open Go.RowKit
structure FitT (b : Bk) (free : Int) (x : TT) : Prop where
 okt : OkT x
 few : szT x ≤ 4096
 low : exT (fun v z => decide (free ≤ v - z)) 0 x.1 x.2.2 = false
 nod : ∀ m ∈ rowT x, nodeB b b.entries.length (-1) m = true
theorem FitT.rt {b : Bk} {free : Int} {x : TT} (h : FitT b free x) : RtX x := rt_make h.okt.ok h.okt.at_ h.okt.wf h.few
theorem FitT.fits {b : Bk} {free : Int} {x : TT} (h : FitT b free x) (hr : rightE b = 0) (h0 : 0 ≤ free) : fitsE b free (rowT x) = 0 := by
 refine fits_ok hr h0 (rowE_ok h.rt.shape ?_ h.nod)
 rw [below_rt h.rt, Bool.not_eq_true', show max free 0 = free from by omega]
 exact h.low
theorem fit_of {b : Bk} {free : Int} {l : List Nd} (h : fitsE b free l = 0) : l = rowT (treeAt l) ∧ FitT b free (treeAt l) := by
 obtain ⟨hr, hf, hrow⟩ := fits_row h
 obtain ⟨hs, hbl, hnd⟩ := row_nodes hrow
 obtain ⟨n, a, k, hrt⟩ := rt_of hs
 obtain ⟨hok, hat, hk⟩ := hrt.wf
 rw [treeAt_rt hrt]
 have e : l = rowT (n, a, k) := hrt.eq
 refine ⟨e, ⟨⟨hok, hat, hk⟩, by have := hrt.few; rw [e] at this; exact this, ?_, fun m hm => hnd m (by rw [e]; exact hm)⟩⟩
 rw [below_rt hrt, Bool.not_eq_true', show max free 0 = free from by omega] at hbl
 exact hbl
theorem FitT.mono {b : Bk} {free free' : Int} {x : TT} (h : FitT b free x) (hf : free ≤ free') : FitT b free' x :=
 ⟨h.okt, h.few, exT_shift (p := fun v z => decide (free ≤ v - z)) (q := fun v z => decide (free' ≤ v - z)) (c := 0) (fun v z hh => by
  simp only [decide_eq_true_eq] at hh ⊢
  omega) (a := 0) h.low, h.nod⟩
theorem OkT.around {x : TT} (h : OkT x) (i : Int) : 0 ≤ aroundI x.1.op x.1.b i ∧ aroundI x.1.op x.1.b i ≤ 4 := aroundI_bd h.ok i
theorem FitT.kid {b : Bk} {free : Int} {x : TT} (h : FitT b free x) {i : Nat} {y : TT} (hy : (kidL x.2.2)[i]? = some y) : FitT b (free + aroundI x.1.op x.1.b (i : Int)) y := by
 obtain ⟨n, a, k⟩ := x
 have hmem : y ∈ kidL k := List.mem_of_getElem? hy
 have hsz := sz_kid hmem
 have hf := h.few
 rw [szT_eq] at hf
 refine ⟨kid_wf h.okt.wf hmem, by omega, ?_, fun m hm => h.nod m ?_⟩
 · have e1 := ex_kid (ex_top h.low).2 i y hy
   rw [Nat.zero_add] at e1
   refine exT_shift (p := fun v z => decide (free ≤ v - z)) (fun v z hh => ?_) e1
   simp only [decide_eq_true_eq] at hh ⊢
   omega
 simp only [rowT, List.mem_cons, List.mem_append]
 exact .inr (.inr (row_kid hmem m hm))
theorem FitT.kid0 {b : Bk} {free : Int} {x : TT} (h : FitT b free x) {i : Nat} {y : TT} (hy : (kidL x.2.2)[i]? = some y) (h0 : aroundI x.1.op x.1.b (i : Int) = 0) : FitT b free y := by
 have := h.kid hy
 rwa [h0, Int.add_zero] at this
theorem app_fit {b : Bk} {free : Int} {g a : TT} (hg : FitT b free g) (ha : FitT b free a) (hs : 1 + szT g + szT a ≤ 4096) : FitT b free (appTT g a) := by
 have hrow : rowT (appTT g a) = ⟨6, 0, 0⟩ :: (rowT g ++ rowT a) := by simp [appTT, rowT, row]
 have hz : ∀ k : Int, aroundI 6 0 k = 0 := around_plain (by decide) (by decide) (by decide) (by decide)
 refine ⟨⟨(by show okN ⟨6, 0, 0⟩ = true; decide), rfl, ?_⟩, ?_, ?_, ?_⟩
 · show Wf (ds ⟨6, 0, 0⟩) _
   have hds : ds ⟨6, 0, 0⟩ = [false, false] := rfl
   rw [hds]
   exact ⟨rfl, hg.okt.ok, hg.okt.at_, hg.okt.wf, rfl, ha.okt.ok, ha.okt.at_, ha.okt.wf, trivial⟩
 · show (rowT (appTT g a)).length ≤ 4096
   rw [hrow]
   simp only [List.length_cons, List.length_append]
   simp only [szT] at hs
   omega
 · unfold appTT exT
   simp only
   rw [exF_cons, exF_cons, hz, hz, Int.add_zero, hg.low, ha.low]
   rfl
 rw [hrow]
 intro m hm
 rcases List.mem_cons.1 hm with rfl | hm
 · rfl
 rcases List.mem_append.1 hm with hm | hm
 · exact hg.nod m hm
 exact ha.nod m hm
theorem app_len (g a : TT) : szT (appTT g a) = 1 + szT g + szT a := by
 have hrow : rowT (appTT g a) = ⟨6, 0, 0⟩ :: (rowT g ++ rowT a) := by simp [appTT, rowT, row]
 unfold szT
 rw [hrow]
 simp only [List.length_cons, List.length_append]
 omega
theorem fix_ok {op na nb i : Int} (h12 : op = 12) (h : okN ⟨op, na, nb⟩ = true) (h0 : 0 ≤ i) (h1 : i < nb) : okN ⟨op, i, nb⟩ = true := by
 have h2 : plainB op na nb = true ∧ op ≠ 3 ∧ op ≠ 13 := by
  simp only [okN, Bool.and_eq_true, decide_eq_true_eq] at h
  exact ⟨h.1.1, h.1.2, h.2⟩
 have hpl := h2.1
 rw [plainB_iff] at hpl
 have h4 : 1 ≤ nb ∧ nb ≤ 4 := by omega
 clear hpl
 have h3 : plainB op i nb = true := by
  rw [plainB_iff]
  exact .inr (.inr (.inr (.inr (.inr (.inr (.inr (.inl ⟨h12, h4.1, h4.2, h0, h1⟩)))))))
 unfold okN
 simp only
 rw [h3, decide_eq_true h2.2.1, decide_eq_true h2.2.2]
 rfl
theorem node_fix {b : Bk} {known self : Int} {m : Nd} (h : m.op = 12) : nodeB b known self m = true := by
 unfold nodeB
 rw [if_neg (by omega), if_neg (by omega), if_neg (by omega), if_neg (by omega), if_neg (by omega)]
theorem fixAt_fit {b : Bk} {free : Int} {h : TT} (hh : FitT b free h) (h12 : h.1.op = 12) {i : Nat} (hi : (i : Int) < h.1.b) : FitT b free (fixAt h i) := by
 obtain ⟨⟨op, na, nb⟩, a, k⟩ := h
 have e : rowT (fixAt (⟨op, na, nb⟩, a, k) i) = ⟨op, (i : Int), nb⟩ :: (a ++ row k) := rfl
 have e0 : rowT (⟨op, na, nb⟩, a, k) = ⟨op, na, nb⟩ :: (a ++ row k) := rfl
 refine ⟨⟨fix_ok h12 hh.okt.ok (by omega) hi, ?_, hh.okt.wf⟩, ?_, ?_, ?_⟩
 · have := hh.okt.at_
   unfold AtOk at this ⊢
   exact this
 · have := hh.few
   unfold szT at this ⊢
   rw [e]
   rw [e0] at this
   exact this
 · have hl := (ex_top hh.low).2
   unfold exT
   have h1 : decide ((fixAt (⟨op, na, nb⟩, a, k) i).1.op = 1) = false := decide_eq_false (by show ¬ op = 1; simp only at h12; omega)
   rw [h1, Bool.false_and, Bool.false_or]
   exact hl
 intro m hm
 rw [e] at hm
 rcases List.mem_cons.1 hm with rfl | hm
 · exact node_fix h12
 exact hh.nod m (by rw [e0]; exact List.mem_cons_of_mem _ hm)
theorem wf_kids : ∀ {F : Fo} {dl : List Bool}, Wf dl F → (kidL F).length = dl.length
 | .nil, [], _ => rfl
 | .nil, _ :: _, h => h.elim
 | .cons _ _ _ _ _, [], h => h.elim
 | .cons p n a k x, d :: dr, h => by
  rw [kidL_cons, List.length_cons, List.length_cons, wf_kids h.2.2.2.2]
theorem fix_parts {x : TT} (hx : OkT x) (h12 : x.1.op = 12) : 1 ≤ x.1.b ∧ x.1.b ≤ 4 ∧ 0 ≤ x.1.a ∧ x.1.a < x.1.b ∧ (kidL x.2.2).length = 2 * x.1.b.toNat := by
 have hok := hx.ok
 have hl := wf_kids hx.wf
 rw [ds_len hok] at hl
 simp only [okN, Bool.and_eq_true] at hok
 have hpl := plainB_iff.1 hok.1.1
 refine ⟨by omega, by omega, by omega, by omega, ?_⟩
 rw [hl]
 unfold nkI
 rw [h12]
 simp
 omega
end
section
open Go.RowKit
theorem fixk {x : TT} (h : OkT x) (h12 : x.1.op = 12) : (press x.2.2).length = x.1.b.toNat ∧ (∀ m ∈ press x.2.2, 0 ≤ m.a ∧ m.a < 16) := by
 have hok := h.ok
 simp only [okN, Bool.and_eq_true] at hok
 have h2 := plainB_iff.1 hok.1.1
 have hds : ds x.1 = (List.replicate x.1.b.toNat [true, false]).flatten := by unfold ds; rw [if_pos h12]
 have key : ∀ (B : Nat) (F : Fo), Wf ((List.replicate B [true, false]).flatten) F → (press F).length = B ∧ (∀ m ∈ press F, 0 ≤ m.a ∧ m.a < 16) := by
  intro B
  induction B with
  | zero =>
   intro F hF
   cases F with
   | nil => exact ⟨rfl, fun m hm => by cases hm⟩
   | cons _ _ _ _ _ => exact hF.elim
  | succ B ih =>
   intro F hF
   rw [List.replicate_succ, List.flatten_cons] at hF
   match F, hF with
   | .cons p1 n1 a1 k1 (.cons p2 n2 a2 k2 x), hF =>
    obtain ⟨⟨f, rfl, hf⟩, _, _, _, hp2, _, _, _, hx⟩ := hF
    simp only at hp2
    subst hp2
    obtain ⟨g1, g2⟩ := ih x hx
    simp only [press, List.nil_append]
    refine ⟨by simp [g1], fun m hm => ?_⟩
    simp only [List.singleton_append, List.mem_cons] at hm
    rcases hm with rfl | hm
    · simp only [okF, Bool.and_eq_true, decide_eq_true_eq] at hf
      have := plainB_iff.1 hf.1
      omega
    · exact g2 m hm
   | .cons p1 n1 a1 k1 .nil, hF => exact hF.2.2.2.2.elim
   | .nil, hF => exact hF.elim
 exact key _ x.2.2 (hds ▸ h.wf)
theorem place_bd {x : TT} (h : OkT x) (h12 : x.1.op = 12) : 0 ≤ placeT x ∧ placeT x < 16 := by
 obtain ⟨h1, h2⟩ := fixk h h12
 obtain ⟨_, _, h3, h4, _⟩ := fix_parts h h12
 unfold placeT placesT
 have hl : x.1.a.toNat < ((press x.2.2).map (·.a)).length := by rw [List.length_map, h1]; omega
 rw [List.getD_eq_getElem?_getD, List.getElem?_eq_getElem hl]
 simp only [Option.getD_some, List.getElem_map]
 exact h2 _ (List.getElem_mem _)
theorem node_mono {b : Bk} {k k' : Int} {m : Nd} (h : nodeB b k (-1) m = true) (hk : k ≤ k') : nodeB b k' (-1) m = true := by
 have fam : ∀ e, famB b k e = true → famB b k' e = true := fun e he => by
  unfold famB at he ⊢
  rw [Bool.and_eq_true, decide_eq_true_eq] at he ⊢
  exact ⟨by omega, he.2⟩
 unfold nodeB at h ⊢
 split
 · rename_i h3
   rw [if_pos h3] at h; exact h
 rename_i h3
 rw [if_neg h3] at h
 split
 · rename_i h8
   rw [if_pos h8, Bool.and_eq_true, decide_eq_true_eq] at h
   rw [Bool.and_eq_true, decide_eq_true_eq]
   exact ⟨by omega, h.2⟩
 rename_i h8
 rw [if_neg h8] at h
 split
 · rename_i h9
   rw [if_pos h9, Bool.or_eq_true] at h
   rw [Bool.or_eq_true]
   exact h.imp id (fam _)
 rename_i h9
 rw [if_neg h9] at h
 split
 · rename_i h11
   rw [if_pos h11] at h; exact fam _ h
 rename_i h11
 rw [if_neg h11] at h
 split
 · rename_i h10
   rw [if_pos h10, Bool.and_eq_true] at h
   rw [Bool.and_eq_true]
   exact ⟨fam _ h.1, h.2⟩
 rfl
theorem entries_at {b : Bk} : ∀ (L : List En) (i : Nat), entriesE b i L = 0 → ∀ (j : Nat) (x : En), L[j]? = some x → entryE b ((i + j : Nat) : Int) x = 0
 | [], _, _, j, x, h => by simp at h
 | y :: r, i, he, 0, x, h => by
  simp only [List.getElem?_cons_zero, Option.some.injEq] at h
  subst h
  simp only [entriesE] at he
  split at he
  · rename_i h0; exact absurd he h0
  · rename_i h0; exact Classical.not_not.1 h0
 | y :: r, i, he, j + 1, x, h => by
  simp only [entriesE] at he
  split at he
  · rename_i h0; exact absurd he h0
  · have := entries_at r (i + 1) he j x (by simpa using h)
    rwa [show i + 1 + j = i + (j + 1) from by omega] at this
theorem right_entries {b : Bk} (h : rightE b = 0) : entriesE b 0 b.entries = 0 := by
 unfold rightE at h
 split at h
 · rename_i h0; exact absurd h h0
 split at h
 · cases h
 split at h
 · rename_i h0; exact absurd h h0
 rename_i h0; exact Classical.not_not.1 h0
theorem body_def {b : Bk} (hr : rightE b = 0) {e : Int} (h0 : 0 ≤ e) (h1 : e < (b.entries.length : Int)) (h2 : (entB b e).kind = 2) : fitsE b 0 (entB b e).body = 0 := by
 have hl : e.toNat < b.entries.length := by omega
 have hx : b.entries[e.toNat]? = some (entB b e) := by
  unfold entB
  rw [List.getD_eq_getElem?_getD, List.getElem?_eq_getElem hl]
  rfl
 have he := entries_at _ _ (right_entries hr) _ _ hx
 rw [Nat.zero_add] at he
 unfold entryE at he
 rw [if_neg (by omega), if_pos h2] at he
 split at he
 · cases he
 simp only [rowsE] at he
 split at he
 · rename_i h3; exact absurd he h3
 split at he
 · rename_i h3; exact absurd he h3
 rename_i h3
 have h4 := Classical.not_not.1 h3
 rw [Int.add_zero] at h4
 obtain ⟨a1, a2, a3⟩ := row_nodes h4
 exact fits_ok hr (by omega) (rowE_ok a1 a2 (fun m hm => node_mono (a3 m hm) (by omega)))
theorem kids_two {x : TT} (h : OkT x) (h6 : x.1.op = 6 ∨ x.1.op = 5 ∨ x.1.op = 4) : ∃ p q, kidL x.2.2 = [p, q] := by
 have hl := wf_kids h.wf
 rw [ds_len h.ok] at hl
 unfold nkI at hl
 generalize kidL x.2.2 = L at *
 have : L.length = 2 := by
  rw [hl]
  rcases h6 with h6 | h6 | h6 <;> rw [h6] <;> rfl
 match L, this with
 | [p, q], _ => exact ⟨p, q, rfl⟩
theorem kids_three {x : TT} (h : OkT x) (h7 : x.1.op = 7) : ∃ p q r, kidL x.2.2 = [p, q, r] := by
 have hl := wf_kids h.wf
 rw [ds_len h.ok] at hl
 unfold nkI at hl
 generalize kidL x.2.2 = L at *
 have : L.length = 3 := by rw [hl, h7]; rfl
 match L, this with
 | [p, q, r], _ => exact ⟨p, q, r, rfl⟩
theorem kids_match {x : TT} (h : OkT x) (h11 : x.1.op = 11) : ∃ p q br, kidL x.2.2 = p :: q :: br ∧ (br.length : Int) = x.1.b := by
 have hl := wf_kids h.wf
 have hok := h.ok
 rw [ds_len hok] at hl
 simp only [okN, Bool.and_eq_true] at hok
 have hb := (plainB_b hok.1.1).1
 unfold nkI at hl
 generalize kidL x.2.2 = L at *
 have : L.length = 2 + x.1.b.toNat := by rw [hl, h11]; simp; omega
 match L, this with
 | p :: q :: br, this => exact ⟨p, q, br, rfl, by simp at this; omega⟩
 | [_], this => simp at this; omega
 | [], this => simp at this; omega
theorem ctor_bd {x : TT} (h : OkT x) (_h10 : x.1.op = 10) : 0 ≤ x.1.b := by
 have hok := h.ok
 simp only [okN, Bool.and_eq_true] at hok
 exact (plainB_b hok.1.1).1
end
end Go.Proofs.Ytjoddliplahgkaa
