/- Lifted terms are guarded as before: plain laws. -/
import Derived.Test.YtpkldboeohhmpaaFixF
import Derived.Test.YtpkldboeohhmpaaTermL
import Derived.Test.YtpkldboeohhmpaaSub
namespace Go.Proofs.Ytpkldboeohhmpaa
open Go.RowKit

/-! The fixes of a row are those of its forest. -/
theorem allG_skip {b : Bk} {l : List Nd} : ∀ (s : List Nd) (i r : Nat) (rest : List Nd), l.drop i = s ++ rest → (∀ m ∈ s, m.op ≠ 12) → allG b l (s.length + r) i = allG b l r (i + s.length)
  | [], i, r, _, _, _ => by simp
  | m :: s, i, r, rest, hd, h => by
    have h0 : nth l i = m := by
      have h0 : nth (l.drop i) 0 = m := by rw [hd]; rfl
      rwa [nth_drop, Nat.add_zero] at h0
    have hd2 : l.drop (i + 1) = s ++ rest := by
      have := congrArg (List.drop 1) hd
      simpa [List.drop_drop] using this
    rw [List.length_cons, show s.length + 1 + r = (s.length + r) + 1 from by omega]
    simp only [allG]
    rw [h0, if_neg (h m (by simp)), Bool.true_and, allG_skip s (i + 1) r rest hd2 (fun m hm => h m (by simp [hm]))]
    congr 1
    omega
theorem drop_step {l s rest : List Nd} {i : Nat} (h : l.drop i = s ++ rest) : l.drop (i + s.length) = rest := by
  rw [← List.drop_drop, h, List.drop_left]
theorem allG_fo {b : Bk} {l : List Nd} : ∀ (F : Fo) (dl : List Bool), Wf dl F → ∀ (i r : Nat) (rest : List Nd), l.drop i = row F ++ rest → allG b l ((row F).length + r) i = (fixF (argsB b) F && allG b l r (i + (row F).length))
  | .nil, _, _, i, r, _, _ => by simp [row, fixF]
  | .cons _ _ _ _ _, [], h, _, _, _, _ => h.elim
  | .cons p n a k x, d :: dr, h, i, r, rest, hd => by
    obtain ⟨hp, hok, hat, hk, hx⟩ := h
    have hp12 : ∀ m ∈ p, m.op ≠ 12 := by
      intro m hm
      cases d with
      | false => simp only at hp; subst hp; cases hm
      | true =>
        obtain ⟨f, rfl, hf⟩ := hp
        rw [List.mem_singleton] at hm
        subst hm
        simp only [okF, Bool.and_eq_true, decide_eq_true_eq] at hf
        omega
    have ha12 : ∀ m ∈ a, m.op ≠ 12 := by
      intro m hm
      unfold AtOk at hat
      split at hat
      · have := atoms_op _ _ _ _ hat m hm
        omega
      · subst hat; cases hm
    have e1 : l.drop i = p ++ (n :: (a ++ (row k ++ (row x ++ rest)))) := by rw [hd]; simp [row]
    have e2 := drop_step e1
    have e3 : l.drop (i + p.length + 1) = a ++ (row k ++ (row x ++ rest)) := by
      have := congrArg (List.drop 1) e2
      simpa [List.drop_drop] using this
    have e4 := drop_step e3
    have e5 := drop_step e4
    have hlen : (row (.cons p n a k x)).length = p.length + (1 + (a.length + ((row k).length + (row x).length))) := by simp [row]; omega
    rw [hlen, show p.length + (1 + (a.length + ((row k).length + (row x).length))) + r = p.length + ((a.length + ((row k).length + ((row x).length + r))) + 1) from by omega]
    rw [allG_skip p i _ _ e1 hp12]
    have h0 : nth l (i + p.length) = n := by
      have h0 : nth (l.drop (i + p.length)) 0 = n := by rw [e2]; rfl
      rwa [nth_drop, Nat.add_zero] at h0
    have htr : treeAt (l.drop (i + p.length)) = (n, a, k) := by
      have := treeAt_row (rest := row x ++ rest) hok hat hk
      rw [← this, e2]
      simp [rowT]
    rw [show allG b l ((a.length + ((row k).length + ((row x).length + r))) + 1) (i + p.length) = ((if (nth l (i + p.length)).op = 12 then guardT (argsB b) (rowT (treeAt (l.drop (i + p.length)))).length (treeAt (l.drop (i + p.length))) else true) && allG b l (a.length + ((row k).length + ((row x).length + r))) (i + p.length + 1)) from rfl]
    rw [h0, htr, allG_skip a (i + p.length + 1) _ _ e3 ha12, allG_fo k _ hk _ _ _ e4, allG_fo x _ hx _ _ _ e5, fixF_cons]
    unfold fixT
    rw [show i + p.length + 1 + a.length + (row k).length + (row x).length = i + (p.length + (1 + (a.length + ((row k).length + (row x).length)))) from by omega]
    simp only [Bool.and_assoc]
    rfl
theorem allG_rt {b : Bk} {t : List Nd} {n : Nd} {a : List Nd} {k : Fo} (h : Rt t n a k) : allG b t t.length 0 = fixT (argsB b) (n, a, k) := by
  have hw := wf_of_pp h.pp
  have he := h.eq
  have hr : t = row (.cons [] n a k .nil) := by rw [he]; simp [row]
  have := allG_fo (b := b) (l := t) (.cons [] n a k .nil) [false] hw 0 0 [] (by rw [← hr]; simp)
  rw [← hr, Nat.add_zero] at this
  rw [this, fixF_cons]
  simp [fixF, allG]

/-! What a right forest has. -/
theorem bok_wf : ∀ (F : Fo) (dl : List Bool), Wf dl F → BOk F
  | .nil, _, _ => trivial
  | .cons _ _ _ _ _, [], h => h.elim
  | .cons p n a k x, d :: dr, h => by
    obtain ⟨_, hok, _, hk, hx⟩ := h
    refine ⟨fun h12 => ?_, bok_wf k _ hk, bok_wf x _ hx⟩
    simp only [okN, Bool.and_eq_true] at hok
    exact (plainB_b hok.1.1).1
theorem ds_one' {n : Nd} (h : n.op = 1) : ds n = [] := by simp [ds, kidsI, h]
theorem vkF_wf : ∀ (F : Fo) (dl : List Bool), Wf dl F → VkF F
  | .nil, _, _ => trivial
  | .cons _ _ _ _ _, [], h => h.elim
  | .cons p n a k x, d :: dr, h => by
    obtain ⟨_, hok, hat, hk, hx⟩ := h
    refine ⟨fun h1 => ?_, vkF_wf k _ hk, vkF_wf x _ hx⟩
    rw [ds_one' h1] at hk
    constructor
    · unfold AtOk at hat
      rw [if_neg (by omega)] at hat
      exact hat
    · cases k with
      | nil => rfl
      | cons _ _ _ _ _ => exact hk.elim
/-- Lifting, as a replacement. -/
def liS (up : Int) (a : Int) (n : Nd) : TT := (raN up 0 n a, [], .nil)
theorem raF_tr (up : Int) (pop pb : Int) : ∀ (j : Nat) (a : Int) (F : Fo), VkF F → raF up 0 pop pb j a F = trF (liS up) pop pb j a F
  | _, _, .nil, _ => rfl
  | j, a, .cons p n ats k x, h => by
    obtain ⟨h1, h2, h3⟩ := h
    rw [trF_cons, ← raF_tr up pop pb (j + 1) a x h3]
    by_cases hv : n.op = 1
    · rw [trT_var (x := (n, ats, k)) hv]
      obtain ⟨rfl, rfl⟩ := h1 hv
      rfl
    · rw [trT_other (x := (n, ats, k)) hv]
      simp only [raF]
      rw [raF_tr up n.op n.b 0 _ k h2]
      unfold raN
      rw [if_neg (fun h => hv h.1)]
theorem fine_varT {places : List Int} {ca : Int → Nat → Nat} {zs : List Int} {n : Nd} (h1 : n.op = 1) (h : ofI zs n.a < 100) : fineW places ca zs (n, [], .nil) = true := by
  rw [fineW_eq, hdW_stop (x := (n, [], .nil)) (by simp only; omega)]
  simp only [List.all_nil, Bool.true_and]
  unfold headW
  rw [if_pos h1, if_pos h]
theorem liS_sig {up : Int} (h0 : 0 ≤ up) (ca : Int → Nat → Nat) (places : List Int) : Sig places ca (liS up) := by
  refine ⟨fun a n h1 h => ?_, fun a n _ h1 h => ?_⟩
  · unfold liS raN
    rw [if_neg (by omega)]
  · have e : liS up a n = (⟨n.op, n.a + up, n.b⟩, [], .nil) := by
      unfold liS raN
      rw [if_pos ⟨h1, by omega⟩]
    rw [e]
    refine ⟨fun zs hz => fine_varT h1 ?_, fun zs m hz => ?_, fun _ => ?_⟩
    · rw [ofI_far hz (by simp only; omega)]; decide
    · rw [branchT_not5 (by simp only; omega)]
      exact fine_varT h1 (by rw [ofI_far hz (by simp only; omega)]; decide)
    · rw [hdW_stop (by simp only; omega)]
      simp only
      omega
theorem liS_keep {up : Int} : KeepV (liS up) := fun a n h1 _ => by
  unfold liS
  exact (raN_same up 0 n a).1.trans h1
theorem liS_fix {up : Int} {ca : Int → Nat → Nat} (a : Int) (n : Nd) (h1 : n.op = 1) : fixT ca (liS up a n) = true := by
  unfold liS fixT
  rw [if_neg (by simp only; rw [(raN_same up 0 n a).1]; omega)]
  rfl
theorem raF_one (up fr : Int) (p : List Nd) (n : Nd) (a : List Nd) (k : Fo) : raF up fr 0 0 0 0 (.cons p n a k .nil) = .cons p (raN up fr n 0) a (raF up fr n.op n.b 0 0 k) .nil := rfl
theorem chk_fit {b : Bk} {free : Int} {l : List Nd} (h : fitsE b free l = 0) : chkGE b free l = if allG b l l.length 0 then 0 else 18 := by
  unfold chkGE
  rw [h]
  rfl
/-- What is lifted has the same guarded fixes. -/
theorem lift_fix {up : Int} (h0 : 0 ≤ up) (ca : Int → Nat → Nat) {n : Nd} {ats : List Nd} {k : Fo} (hok : okN n = true) (hat : AtOk n ats) (hk : Wf (ds n) k) : fixT ca (raN up 0 n 0, ats, raF up 0 n.op n.b 0 0 k) = fixT ca (n, ats, k) := by
  have hv := vkF_wf k _ hk
  have hb := bok_wf k _ hk
  have hb0 : n.op = 12 → 0 ≤ n.b := fun _ => by
    simp only [okN, Bool.and_eq_true] at hok
    exact (plainB_b hok.1.1).1
  have hw : Wf [false] (.cons [] n ats k .nil) := ⟨rfl, hok, hat, hk, trivial⟩
  have h := (fix_tr (ca := ca) (liS_sig h0 ca) (fun a n _ h1 _ => liS_fix a n h1) 0 0 (by decide) 0 0 (.cons [] n ats k .nil) (Int.le_refl _) (vkF_wf _ _ hw) (bok_wf _ _ hw)).2 liS_keep
  rw [← raF_tr _ _ _ _ _ _ (vkF_wf _ _ hw), raF_one] at h
  simp only [fixF, Bool.and_true] at h
  exact h
/-! What fits. -/
theorem exF_ra {up fr v : Int} (pop pb : Int) : ∀ (j : Nat) (a : Int) (F : Fo), exF (fun x z => decide (v + up ≤ x - z)) pop pb j a (raF up fr pop pb j a F) = true → 0 ≤ up → exF (fun x z => decide (v ≤ x - z)) pop pb j a F = true
  | _, _, .nil, h, _ => by simp [raF, exF] at h
  | j, a, .cons p n ats k x, h, h0 => by
    have hs := raN_same up fr n (a + aroundI pop pb j)
    simp only [raF, exF, hs.1, hs.2, Bool.or_eq_true, Bool.and_eq_true, decide_eq_true_eq] at h ⊢
    rcases h with (⟨h1, h2⟩ | h) | h
    · refine .inl (.inl ⟨h1, ?_⟩)
      unfold raN at h2
      split at h2
      · simp only at h2; omega
      · omega
    · exact .inl (.inr (exF_ra n.op n.b 0 _ k h h0))
    · exact .inr (exF_ra pop pb (j + 1) a x h h0)
theorem row_ra {up fr : Int} (pop pb : Int) : ∀ (j : Nat) (a : Int) (F : Fo), ∀ m ∈ row (raF up fr pop pb j a F), m ∈ row F ∨ m.op = 1
  | _, _, .nil, m, hm => by simp [raF, row] at hm
  | j, a, .cons p n ats k x, m, hm => by
    simp only [raF, row, List.mem_append, List.mem_cons] at hm ⊢
    rcases hm with hm | rfl | hm | hm | hm
    · exact .inl (.inl hm)
    · unfold raN
      split
      · rename_i h; exact .inr h.1
      · exact .inl (.inr (.inl rfl))
    · exact .inl (.inr (.inr (.inl hm)))
    · rcases row_ra n.op n.b 0 _ k m hm with h | h
      · exact .inl (.inr (.inr (.inr (.inl h))))
      · exact .inr h
    · rcases row_ra pop pb (j + 1) a x m hm with h | h
      · exact .inl (.inr (.inr (.inr (.inr h))))
      · exact .inr h
theorem nodeB_var {b : Bk} {known self : Int} {m : Nd} (h : m.op = 1) : nodeB b known self m = true := by
  unfold nodeB
  rw [if_neg (by omega), if_neg (by omega), if_neg (by omega), if_neg (by omega), if_neg (by omega)]
theorem rowE_ok {b : Bk} {known self below : Int} {l : List Nd} (h1 : shapeI l = 0) (h2 : belowB l below = true) (h3 : ∀ m ∈ l, nodeB b known self m = true) : rowE b known self l below = 0 := by
  unfold rowE
  rw [h1, if_neg (by simp), h2, if_neg (by simp), if_pos (List.all_eq_true.2 h3)]
theorem fits_ok {b : Bk} {free : Int} {l : List Nd} (h1 : rightE b = 0) (h2 : 0 ≤ free) (h3 : rowE b b.entries.length (-1) l free = 0) : fitsE b free l = 0 := by
  unfold fitsE
  rw [h1, if_neg (by simp), if_neg (by omega), h3]
theorem below_rt {l : List Nd} {n : Nd} {a : List Nd} {k : Fo} (h : Rt l n a k) (v : Int) : belowB l v = !exT (fun x z => decide (max v 0 ≤ x - z)) 0 n k := by
  unfold belowB exR
  rw [h.shape, h.pp]
  simp
/-- Lifted, a term fits and is guarded as before. -/
theorem lift_guard {b : Bk} {t : List Nd} {free up : Int} (h : fitsE b free t = 0) (h0 : 0 ≤ up) (h1 : up ≤ 1000) (hl : (liftR t up 0).2 = 0) : chkGE b (free + up) (liftR t up 0).1 = chkGE b free t ∧ (liftR t up 0).1.length = t.length := by
  obtain ⟨hr, hfr, hrow⟩ := fits_row h
  obtain ⟨hs, hbl, hnd⟩ := row_nodes hrow
  obtain ⟨n, a, k, hrt⟩ := rt_of hs
  obtain ⟨hok, hat, hk⟩ := hrt.wf
  have hm : min (0 : Int) 1048577 = 0 := by decide
  have hlr : liftR t up 0 = if (raV up 0).G1 0 () n k = true then ((raV up 0).E1 0 () n a k, 0) else ([], 6) := by
    unfold liftR
    rw [if_pos hs, if_neg (by omega)]
    unfold liftT
    rw [hrt.pp, hm]
  by_cases hg : (raV up 0).G1 0 () n k = true
  case neg =>
    rw [hlr, if_neg hg] at hl
    cases hl
  rw [if_pos hg] at hlr
  obtain ⟨hp2, hs2, hl2⟩ := lift_right (up := up) (fr := 0) hrt.pp hrt.few h0 hg
  have hrt2 : Rt (liftR t up 0).1 (raN up 0 n 0) a (raF up 0 n.op n.b 0 0 k) := by
    rw [hlr]
    exact ⟨hp2, by rw [hl2]; exact hrt.few⟩
  have hlen : (liftR t up 0).1.length = t.length := by rw [hlr]; exact hl2
  have hs := raN_same up 0 n 0
  have hfit : fitsE b (free + up) (liftR t up 0).1 = 0 := by
    refine fits_ok hr (by omega) (rowE_ok hrt2.shape ?_ ?_)
    · rw [below_rt hrt2]
      rw [below_rt hrt] at hbl
      rw [Bool.not_eq_true'] at hbl ⊢
      cases he : exT (fun x z => decide (max (free + up) 0 ≤ x - z)) 0 (raN up 0 n 0) (raF up 0 n.op n.b 0 0 k) with
      | false => rfl
      | true =>
        have e1 : exF (fun x z => decide (free + up ≤ x - z)) 0 0 0 0 (raF up 0 0 0 0 0 (.cons [] n a k .nil)) = true := by
          have hz : aroundI 0 0 ((0 : Nat) : Int) = 0 := by decide
          simp only [raF, exF, hz, Int.add_zero, Bool.or_false]
          rw [show max (free + up) 0 = free + up from by omega] at he
          exact he
        have e2 := exF_ra 0 0 0 0 _ e1 h0
        have hz : aroundI 0 0 ((0 : Nat) : Int) = 0 := by decide
        simp only [exF, hz, Int.add_zero, Bool.or_false] at e2
        rw [show max free 0 = free from by omega] at hbl
        have e3 : exT (fun x z => decide (free ≤ x - z)) 0 n k = true := e2
        rw [hbl] at e3
        cases e3
    · intro m hm
      have h2 := row_ra 0 0 0 0 (.cons [] n a k .nil) m (by
        rw [raF_one]
        rw [hrt2.eq] at hm
        simpa [row] using hm)
      rcases h2 with h2 | h2
      · refine hnd m ?_
        rw [hrt.eq]
        simpa [row] using h2
      · exact nodeB_var h2
  refine ⟨?_, hlen⟩
  rw [chk_fit hfit, chk_fit h, allG_rt hrt, allG_rt hrt2, lift_fix h0 _ hok hat hk]

end Go.Proofs.Ytpkldboeohhmpaa
