/- Merged: PartG, SenseP, SenseL. -/
import Derived.Test.YtjoddliplahgkaaBLiftG
import Derived.Test.YtjoddliplahgkaaBPutG
import Derived.Test.YtjoddliplahgkaaBKidss
namespace Go.Proofs.Ytjoddliplahgkaa
section
open Go.RowKit
theorem kid_wf : ∀ {F : Fo} {dl : List Bool}, Wf dl F → ∀ {y : TT}, y ∈ kidL F → OkT y
 | .nil, _, _, y, h => by cases h
 | .cons _ _ _ _ _, [], h, _, _ => h.elim
 | .cons p n a k x, d :: dr, h, y, hy => by
  obtain ⟨_, hok, hat, hk, hx⟩ := h
  rw [kidL_cons] at hy
  rcases List.mem_cons.1 hy with rfl | hy
  · exact ⟨hok, hat, hk⟩
  · exact kid_wf hx hy
end
section
open Go.RowKit
inductive RV where
 | ok (x : TT) (f : Nat)
 | er (e : Int)
def placeT (x : TT) : Int := (placesT x.2.2).getD x.1.a.toNat 0
def subTT (x u : TT) : TT × Int := if 4096 < (szT x : Int) + cnT 0 x.1 x.2.2 * ((szT u : Int) - 1) then (x, 9) else (trT (suS u) 0 x, 0)
def appTT (f a : TT) : TT := (⟨6, 0, 0⟩, [], .cons [] f.1 f.2.1 f.2.2 (.cons [] a.1 a.2.1 a.2.2 .nil))
def fixAt (h : TT) (i : Nat) : TT := (⟨h.1.op, (i : Int), h.1.b⟩, h.2.1, h.2.2)
end
section
open Go.RowKit
structure FitT (b : Bk) (free : Int) (x : TT) : Prop where
 okt : OkT x
 few : szT x ≤ 4096
 low : exT (fun v z => decide (free ≤ v - z)) 0 x.1 x.2.2 = false
 nod : ∀ m ∈ rowT x, nodeB b b.entries.length (-1) m = true
theorem FitT.rt {b : Bk} {free : Int} {x : TT} (h : FitT b free x) : RtX x := rt_make h.okt.ok h.okt.at_ h.okt.wf h.few
theorem FitT.fits {b : Bk} {free : Int} {x : TT} (h : FitT b free x) (hr : rightE b = 0) (h0 : 0 ≤ free) : fitsE b free (rowT x) = 0 := by
 refine fits_ok hr h0 (rowE_ok h.rt.shape ?_ h.nod)
 rw [below_rt h.rt, Bool.not_eq_true', show max free 0 = free from by omega]
 exact h.low
theorem fit_of {b : Bk} {free : Int} {l : List Nd} (h : fitsE b free l = 0) : l = rowT (treeAt l) ∧ FitT b free (treeAt l) := by
 obtain ⟨hr, hf, hrow⟩ := fits_row h
 obtain ⟨hs, hbl, hnd⟩ := row_nodes hrow
 obtain ⟨n, a, k, hrt⟩ := rt_of hs
 obtain ⟨hok, hat, hk⟩ := hrt.wf
 rw [treeAt_rt hrt]
 have e : l = rowT (n, a, k) := hrt.eq
 refine ⟨e, ⟨⟨hok, hat, hk⟩, by have := hrt.few; rw [e] at this; exact this, ?_, fun m hm => hnd m (by rw [e]; exact hm)⟩⟩
 rw [below_rt hrt, Bool.not_eq_true', show max free 0 = free from by omega] at hbl
 exact hbl
theorem FitT.mono {b : Bk} {free free' : Int} {x : TT} (h : FitT b free x) (hf : free ≤ free') : FitT b free' x :=
 ⟨h.okt, h.few, exT_shift (p := fun v z => decide (free ≤ v - z)) (q := fun v z => decide (free' ≤ v - z)) (c := 0) (fun v z hh => by
  simp only [decide_eq_true_eq] at hh ⊢
  omega) (a := 0) h.low, h.nod⟩
theorem FitT.kid {b : Bk} {free : Int} {x : TT} (h : FitT b free x) {i : Nat} {y : TT} (hy : (kidL x.2.2)[i]? = some y) : FitT b (free + aroundI x.1.op x.1.b (i : Int)) y := by
 obtain ⟨n, a, k⟩ := x
 have hmem : y ∈ kidL k := List.mem_of_getElem? hy
 have hsz := sz_kid hmem
 have hf := h.few
 rw [szT_eq] at hf
 refine ⟨kid_wf h.okt.wf hmem, by omega, ?_, fun m hm => h.nod m ?_⟩
 · have e1 := ex_kid (ex_top h.low).2 i y hy
   rw [Nat.zero_add] at e1
   refine exT_shift (p := fun v z => decide (free ≤ v - z)) (fun v z hh => ?_) e1
   simp only [decide_eq_true_eq] at hh ⊢
   omega
 simp only [rowT, List.mem_cons, List.mem_append]
 exact .inr (.inr (row_kid hmem m hm))
theorem FitT.kid0 {b : Bk} {free : Int} {x : TT} (h : FitT b free x) {i : Nat} {y : TT} (hy : (kidL x.2.2)[i]? = some y) (h0 : aroundI x.1.op x.1.b (i : Int) = 0) : FitT b free y := by
 have := h.kid hy
 rwa [h0, Int.add_zero] at this
theorem app_fit {b : Bk} {free : Int} {g a : TT} (hg : FitT b free g) (ha : FitT b free a) (hs : 1 + szT g + szT a ≤ 4096) : FitT b free (appTT g a) := by
 have hrow : rowT (appTT g a) = ⟨6, 0, 0⟩ :: (rowT g ++ rowT a) := by simp [appTT, rowT, row]
 have hz : ∀ k : Int, aroundI 6 0 k = 0 := around_plain (by decide) (by decide) (by decide) (by decide)
 refine ⟨⟨(by show okN ⟨6, 0, 0⟩ = true; decide), rfl, ?_⟩, ?_, ?_, ?_⟩
 · show Wf (ds ⟨6, 0, 0⟩) _
   have hds : ds ⟨6, 0, 0⟩ = [false, false] := rfl
   rw [hds]
   exact ⟨rfl, hg.okt.ok, hg.okt.at_, hg.okt.wf, rfl, ha.okt.ok, ha.okt.at_, ha.okt.wf, trivial⟩
 · show (rowT (appTT g a)).length ≤ 4096
   rw [hrow]
   simp only [List.length_cons, List.length_append]
   simp only [szT] at hs
   omega
 · unfold appTT exT
   simp only
   rw [exF_cons, exF_cons, hz, hz, Int.add_zero, hg.low, ha.low]
   rfl
 rw [hrow]
 intro m hm
 rcases List.mem_cons.1 hm with rfl | hm
 · rfl
 rcases List.mem_append.1 hm with hm | hm
 · exact hg.nod m hm
 exact ha.nod m hm
theorem app_len (g a : TT) : szT (appTT g a) = 1 + szT g + szT a := by
 have hrow : rowT (appTT g a) = ⟨6, 0, 0⟩ :: (rowT g ++ rowT a) := by simp [appTT, rowT, row]
 unfold szT
 rw [hrow]
 simp only [List.length_cons, List.length_append]
 omega
theorem fix_ok {op na nb i : Int} (h12 : op = 12) (h : okN ⟨op, na, nb⟩ = true) (h0 : 0 ≤ i) (h1 : i < nb) : okN ⟨op, i, nb⟩ = true := by
 have h2 : plainB op na nb = true ∧ op ≠ 3 ∧ op ≠ 13 := by
  simp only [okN, Bool.and_eq_true, decide_eq_true_eq] at h
  exact ⟨h.1.1, h.1.2, h.2⟩
 have hpl := h2.1
 rw [plainB_iff] at hpl
 have h4 : 1 ≤ nb ∧ nb ≤ 4 := by omega
 clear hpl
 have h3 : plainB op i nb = true := by
  rw [plainB_iff]
  exact .inr (.inr (.inr (.inr (.inr (.inr (.inr (.inl ⟨h12, h4.1, h4.2, h0, h1⟩)))))))
 unfold okN
 simp only
 rw [h3, decide_eq_true h2.2.1, decide_eq_true h2.2.2]
 rfl
theorem node_fix {b : Bk} {known self : Int} {m : Nd} (h : m.op = 12) : nodeB b known self m = true := by
 unfold nodeB
 rw [if_neg (by omega), if_neg (by omega), if_neg (by omega), if_neg (by omega), if_neg (by omega)]
theorem fixAt_fit {b : Bk} {free : Int} {h : TT} (hh : FitT b free h) (h12 : h.1.op = 12) {i : Nat} (hi : (i : Int) < h.1.b) : FitT b free (fixAt h i) := by
 obtain ⟨⟨op, na, nb⟩, a, k⟩ := h
 have e : rowT (fixAt (⟨op, na, nb⟩, a, k) i) = ⟨op, (i : Int), nb⟩ :: (a ++ row k) := rfl
 have e0 : rowT (⟨op, na, nb⟩, a, k) = ⟨op, na, nb⟩ :: (a ++ row k) := rfl
 refine ⟨⟨fix_ok h12 hh.okt.ok (by omega) hi, ?_, hh.okt.wf⟩, ?_, ?_, ?_⟩
 · have := hh.okt.at_
   unfold AtOk at this ⊢
   exact this
 · have := hh.few
   unfold szT at this ⊢
   rw [e]
   rw [e0] at this
   exact this
 · have hl := (ex_top hh.low).2
   unfold exT
   have h1 : decide ((fixAt (⟨op, na, nb⟩, a, k) i).1.op = 1) = false := decide_eq_false (by show ¬ op = 1; simp only at h12; omega)
   rw [h1, Bool.false_and, Bool.false_or]
   exact hl
 intro m hm
 rw [e] at hm
 rcases List.mem_cons.1 hm with rfl | hm
 · exact node_fix h12
 exact hh.nod m (by rw [e0]; exact List.mem_cons_of_mem _ hm)
theorem wf_kids : ∀ {F : Fo} {dl : List Bool}, Wf dl F → (kidL F).length = dl.length
 | .nil, [], _ => rfl
 | .nil, _ :: _, h => h.elim
 | .cons _ _ _ _ _, [], h => h.elim
 | .cons p n a k x, d :: dr, h => by
  rw [kidL_cons, List.length_cons, List.length_cons, wf_kids h.2.2.2.2]
theorem fix_parts {x : TT} (hx : OkT x) (h12 : x.1.op = 12) : 1 ≤ x.1.b ∧ x.1.b ≤ 4 ∧ 0 ≤ x.1.a ∧ x.1.a < x.1.b ∧ (kidL x.2.2).length = 2 * x.1.b.toNat := by
 have hok := hx.ok
 have hl := wf_kids hx.wf
 rw [ds_len hok] at hl
 simp only [okN, Bool.and_eq_true] at hok
 have hpl := plainB_iff.1 hok.1.1
 refine ⟨by omega, by omega, by omega, by omega, ?_⟩
 rw [hl]
 unfold nkI
 rw [h12]
 simp
 omega
end
end Go.Proofs.Ytjoddliplahgkaa
