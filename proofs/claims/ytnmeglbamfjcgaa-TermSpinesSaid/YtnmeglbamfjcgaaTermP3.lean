/- What the reference reckons over trees is what the program reckons over rows: plain laws for lifting and for free variables. -/
import Derived.Test.YtnmeglbamfjcgaaTermP2
import Derived.Test.YtnmeglbamfjcgaaFold
import Derived.Test.YtnmeglbamfjcgaaLiftP
namespace Go.Proofs.Ytnmeglbamfjcgaa
open Go.RowKit

/-- Right nodes all the way; variables have nothing below them. -/
def Vk : Fo → Prop
  | .nil => True
  | .cons _ n ats k x => okN n = true ∧ (n.op = 1 → ats = [] ∧ k = .nil) ∧ Vk k ∧ Vk x
theorem ds_one {n : Nd} (h : n.op = 1) : ds n = [] := by simp [ds, kidsI, h]
theorem vk_node {n : Nd} {ats : List Nd} {k : Fo} (h1 : AtOk n ats) (h2 : Wf (ds n) k) (h : n.op = 1) : ats = [] ∧ k = .nil := by
  rw [ds_one h] at h2
  constructor
  · unfold AtOk at h1
    rw [if_neg (by omega)] at h1
    exact h1
  · cases k with
    | nil => rfl
    | cons _ _ _ _ _ => exact h2.elim
theorem vk_of_wf : ∀ (F : Fo) (dl : List Bool), Wf dl F → Vk F
  | .nil, _, _ => trivial
  | .cons _ _ _ _ _, [], h => h.elim
  | .cons p n ats k x, d :: dr, h => by
    obtain ⟨_, hok, hat, hk, hx⟩ := h
    exact ⟨hok, vk_node hat hk, vk_of_wf k _ hk, vk_of_wf x _ hx⟩
theorem var_ok {n : Nd} (hok : okN n = true) (h : n.op = 1) : 0 ≤ n.a ∧ n.a ≤ 1048576 ∧ n.b = 0 := by
  simp only [okN, Bool.and_eq_true] at hok
  have := hok.1.1
  rw [h] at this
  simpa [plainB] using this

theorem pre_all : ∀ (F : Fo), (∀ m i, i % 2 = 0 → Wf ((List.replicate m [true, false]).flatten) F → PreOk true i F) ∧ (∀ m i, i % 2 = 1 → Wf (false :: (List.replicate m [true, false]).flatten) F → PreOk true i F) ∧ (∀ m i, Wf (List.replicate m false) F → PreOk false i F)
  | .nil => ⟨fun _ _ _ _ => trivial, fun _ _ _ _ => trivial, fun _ _ _ => trivial⟩
  | .cons p n ats k x => by
    have hk := pre_all k
    have hx := pre_all x
    have kid : Wf (ds n) k → PreOk (decide (n.op = 12)) 0 k := fun h => by
      unfold ds at h
      by_cases h12 : n.op = 12
      · rw [if_pos h12] at h
        rw [decide_eq_true h12]
        exact hk.1 _ 0 rfl h
      · rw [if_neg h12] at h
        rw [decide_eq_false h12]
        exact hk.2.2 _ 0 h
    refine ⟨fun m i hi h => ?_, fun m i hi h => ?_, fun m i h => ?_⟩
    · cases m with
      | zero => exact h.elim
      | succ m =>
        simp only [List.replicate_succ, List.flatten_cons, List.cons_append, List.nil_append] at h
        obtain ⟨⟨f, hp, _⟩, _, _, hkk, hxx⟩ := h
        exact ⟨by rw [hp]; simp [hi], kid hkk, hx.2.1 m (i + 1) (by omega) hxx⟩
    · obtain ⟨hp, _, _, hkk, hxx⟩ := h
      simp only at hp
      exact ⟨by rw [hp]; simp [hi], kid hkk, hx.1 m (i + 1) (by omega) hxx⟩
    · cases m with
      | zero => exact h.elim
      | succ m =>
        rw [List.replicate_succ] at h
        obtain ⟨hp, _, _, hkk, hxx⟩ := h
        simp only at hp
        exact ⟨by rw [hp]; simp, kid hkk, hx.2.2 m (i + 1) hxx⟩
theorem pre_of_wf {n : Nd} {k : Fo} (h : Wf (ds n) k) : PreOk (decide (n.op = 12)) 0 k := by
  have hk := pre_all k
  unfold ds at h
  by_cases h12 : n.op = 12
  · rw [if_pos h12] at h
    rw [decide_eq_true h12]
    exact hk.1 _ 0 rfl h
  · rw [if_neg h12] at h
    rw [decide_eq_false h12]
    exact hk.2.2 _ 0 h

theorem le_max_dec (m x y : Int) : decide (m ≤ max x y) = (decide (m ≤ x) || decide (m ≤ y)) := by
  rw [← Bool.decide_or]
  exact decide_eq_decide.2 (by omega)
theorem max_le_dec (m x y : Int) : decide (max x y ≤ m) = (decide (x ≤ m) && decide (y ≤ m)) := by
  rw [← Bool.decide_and]
  exact decide_eq_decide.2 (by omega)

/-- The greatest free variable. -/
theorem grtT_of {m a : Int} (hm : 0 ≤ m) {n : Nd} {k : Fo} (h1 : n.op = 1 → k = .nil) (ih : decide (m ≤ grt n.op n.b 0 a k) = exF (fun v z => decide (m ≤ v - z)) n.op n.b 0 a k) : decide (m ≤ grtT n k a) = exT (fun v z => decide (m ≤ v - z)) a n k := by
  unfold grtT exT
  by_cases h : n.op = 1
  · rw [if_pos h, h1 h, decide_eq_true h]
    simp only [exF, Bool.or_false, Bool.true_and]
    exact decide_eq_decide.2 (by omega)
  · rw [if_neg h, decide_eq_false h, ih]
    simp
theorem grt_ge {m : Int} (hm : 0 ≤ m) (pop pb : Int) : ∀ (j : Nat) (a : Int) (F : Fo), Vk F → decide (m ≤ grt pop pb j a F) = exF (fun v z => decide (m ≤ v - z)) pop pb j a F
  | _, _, .nil, _ => decide_eq_false (by simp only [grt]; omega)
  | j, a, .cons p n ats k x, h => by
    rw [grt_cons, exF_cons, le_max_dec, grt_ge hm pop pb (j + 1) a x h.2.2.2, grtT_of hm (fun q => (h.2.1 q).2) (grt_ge hm n.op n.b 0 _ k h.2.2.1)]

/-- How often a variable stands free. -/
theorem timT_of {v a : Int} {n : Nd} {k : Fo} (h1 : n.op = 1 → k = .nil) (ih : 0 ≤ (tim n.op n.b 0 (v + a) k).1 ∧ decide (0 < (tim n.op n.b 0 (v + a) k).1) = exF (fun x z => decide (x - z = v)) n.op n.b 0 a k) : 0 ≤ (timT n k (v + a)).1 ∧ decide (0 < (timT n k (v + a)).1) = exT (fun x z => decide (x - z = v)) a n k := by
  unfold timT exT
  by_cases h : n.op = 1
  · rw [if_pos h, h1 h, decide_eq_true h]
    simp only [exF, Bool.or_false, Bool.true_and]
    by_cases h2 : n.a = v + a
    · rw [if_pos h2]
      exact ⟨by decide, by rw [decide_eq_true (by omega : n.a - a = v)]; decide⟩
    · rw [if_neg h2]
      exact ⟨by decide, by rw [decide_eq_false (by omega : ¬ n.a - a = v)]; decide⟩
  · rw [if_neg h, decide_eq_false h, ih.2]
    exact ⟨ih.1, by simp⟩
theorem tim_ex (v : Int) (pop pb : Int) : ∀ (j : Nat) (a : Int) (F : Fo), Vk F → 0 ≤ (tim pop pb j (v + a) F).1 ∧ decide (0 < (tim pop pb j (v + a) F).1) = exF (fun x z => decide (x - z = v)) pop pb j a F
  | _, _, .nil, _ => ⟨Int.le_refl _, rfl⟩
  | j, a, .cons p n ats k x, h => by
    have h1 := timT_of (v := v) (a := a + aroundI pop pb j) (fun q => (h.2.1 q).2) (tim_ex v n.op n.b 0 _ k h.2.2.1)
    have h2 := tim_ex v pop pb (j + 1) a x h.2.2.2
    rw [tim_cons, exF_cons, Int.add_assoc]
    simp only
    refine ⟨by omega, ?_⟩
    rw [← h1.2, ← h2.2, ← Bool.decide_or]
    exact decide_eq_decide.2 (by omega)

/-- A question that no variable answers with yes. -/
theorem exF_no {p : Int → Int → Bool} (hp : ∀ x z, 0 ≤ x → x ≤ 1048576 → 0 ≤ z → p x z = false) (pop pb : Int) (hpa : ∀ k : Int, 0 ≤ aroundI pop pb k) : ∀ (j : Nat) (a : Int) (F : Fo), Vk F → 0 ≤ a → exF p pop pb j a F = false
  | _, _, .nil, _, _ => rfl
  | j, a, .cons _ n _ k x, h, ha => by
    have h0 := hpa j
    have h1 := exF_no hp n.op n.b (fun i => (aroundI_bd h.1 i).1) 0 (a + aroundI pop pb j) k h.2.2.1 (by omega)
    have h2 := exF_no hp pop pb hpa (j + 1) a x h.2.2.2 ha
    rw [exF_cons, h2, exT, h1]
    by_cases hv : n.op = 1
    · have := var_ok h.1 hv
      rw [hp _ _ this.1 this.2.1 (by omega)]
      simp
    · rw [decide_eq_false hv]; rfl
theorem exT_no {p : Int → Int → Bool} (hp : ∀ x z, 0 ≤ x → x ≤ 1048576 → 0 ≤ z → p x z = false) {n : Nd} {k : Fo} (hok : okN n = true) (hk : Vk k) : exT p 0 n k = false := by
  have h1 := exF_no hp n.op n.b (fun i => (aroundI_bd hok i).1) 0 0 k hk (Int.le_refl _)
  rw [exT, h1]
  by_cases hv : n.op = 1
  · have := var_ok hok hv
    rw [hp _ _ this.1 this.2.1 (Int.le_refl _)]
    simp
  · rw [decide_eq_false hv]; rfl

/-- The highest index, once raised. -/
theorem higT_of {up fr a : Int} {n : Nd} {k : Fo} (h1 : n.op = 1 → k = .nil) (ih : decide (hig n.op n.b up 0 (fr + a) k ≤ 1048576) = (raV up fr).G n.op n.b 0 a () k) : decide (higT up n k (fr + a) ≤ 1048576) = (raV up fr).G1 a () n k := by
  have e : ∀ s : Unit, s = () := fun _ => rfl
  rw [Vis.G1, e ((raV up fr).nx () n a)]
  unfold higT
  by_cases h : n.op = 1
  · rw [if_pos h, h1 h]
    simp only [raV, Vis.G, Bool.and_true]
    by_cases h2 : fr + a ≤ n.a
    · rw [if_pos h2, if_pos ⟨h, h2⟩]
      exact decide_eq_decide.2 (by omega)
    · rw [if_neg h2, if_neg (fun q => h2 q.2)]
      decide
  · rw [if_neg h, ih]
    have : (raV up fr).ok () n a = true := if_neg (fun q => h q.1)
    rw [this, Bool.true_and]
theorem hig_le (up fr : Int) (pop pb : Int) : ∀ (j : Nat) (a : Int) (F : Fo), Vk F → decide (hig pop pb up j (fr + a) F ≤ 1048576) = (raV up fr).G pop pb j a () F
  | _, _, .nil, _ => rfl
  | j, a, .cons p n ats k x, h => by
    have e : ∀ s : Unit, s = () := fun _ => rfl
    rw [hig_cons, Vis.G_cons, max_le_dec, Int.add_assoc, higT_of (fun q => (h.2.1 q).2) (hig_le up fr n.op n.b 0 _ k h.2.2.1), hig_le up fr pop pb (j + 1) a x h.2.2.2, e ((raV up fr).S1 _ () n k)]

/-- What is raised. -/
theorem rai_node {up fr a : Int} {n : Nd} {ats : List Nd} {k : Fo} (hok : okN n = true) (h1 : n.op = 1 → ats = [] ∧ k = .nil) (ih : rai n.op n.b up 0 (fr + a) k = raF up fr n.op n.b 0 a k) : raiN up n (fr + a) = raN up fr n a ∧ raiA n ats (fr + a) = ats ∧ raiK up n k (fr + a) = raF up fr n.op n.b 0 a k := by
  unfold raiN raN raiA raiK
  by_cases h : n.op = 1 ∧ fr + a ≤ n.a
  · rw [if_pos h, if_pos h, if_pos h, if_pos h]
    have := var_ok hok h.1
    refine ⟨by rw [h.1, this.2.2], (h1 h.1).1.symm, by rw [(h1 h.1).2]; rfl⟩
  · rw [if_neg h, if_neg h, if_neg h, if_neg h]
    exact ⟨rfl, rfl, ih⟩
theorem rai_eq (up fr : Int) (pop pb : Int) : ∀ (j : Nat) (a : Int) (F : Fo), Vk F → rai pop pb up j (fr + a) F = raF up fr pop pb j a F
  | _, _, .nil, _ => rfl
  | j, a, .cons p n ats k x, h => by
    have h1 := rai_node (up := up) (fr := fr) (a := a + aroundI pop pb j) h.1 h.2.1 (rai_eq up fr n.op n.b 0 _ k h.2.2.1)
    rw [rai_cons, Int.add_assoc, h1.1, h1.2.1, h1.2.2, rai_eq up fr pop pb (j + 1) a x h.2.2.2]
    rfl

/-- None is raised: all stays, and nothing is too large. -/
theorem raG_low {up fr : Int} (pop pb : Int) : ∀ (j : Nat) (a : Int) (F : Fo), exF (fun v z => decide (fr ≤ v - z)) pop pb j a F = false → (raV up fr).G pop pb j a () F = true
  | _, _, .nil, _ => rfl
  | j, a, .cons p n ats k x, h => by
    have e : ∀ s : Unit, s = () := fun _ => rfl
    rw [exF_cons, exT] at h
    simp only [Bool.or_eq_false_iff] at h
    obtain ⟨⟨h1, h2⟩, h3⟩ := h
    have h0 : (raV up fr).ok () n (a + aroundI pop pb j) = true := by
      refine if_neg fun q => ?_
      simp only [Bool.and_eq_false_iff, decide_eq_false_iff_not] at h1
      rcases h1 with h1 | h1
      · exact h1 q.1
      · exact h1 (by omega)
    rw [Vis.G_cons, Vis.G1, h0, e ((raV up fr).nx () _ _), raG_low n.op n.b 0 _ k h2, e ((raV up fr).S1 _ () n k), raG_low pop pb (j + 1) a x h3]
    rfl
theorem raG1_low {up fr : Int} {n : Nd} {k : Fo} (h : exT (fun v z => decide (fr ≤ v - z)) 0 n k = false) (ats : List Nd) : (raV up fr).G1 0 () n k = true ∧ (raV up fr).E1 0 () n ats k = n :: (ats ++ row k) := by
  have e : ∀ s : Unit, s = () := fun _ => rfl
  rw [exT] at h
  simp only [Bool.or_eq_false_iff] at h
  obtain ⟨h1, h2⟩ := h
  constructor
  · have h0 : (raV up fr).ok () n 0 = true := by
      refine if_neg fun q => ?_
      simp only [Bool.and_eq_false_iff, decide_eq_false_iff_not] at h1
      rcases h1 with h1 | h1
      · exact h1 q.1
      · exact h1 (by omega)
    rw [Vis.G1, h0, e ((raV up fr).nx () _ _), raG_low n.op n.b 0 _ k h2]
    rfl
  · rw [raV_row1, ra_low h1, raF_low n.op n.b 0 _ k h2]
/-- Something is raised by more than the highest index. -/
theorem raG_big {up fr : Int} (hup : 1048576 < up) (pop pb : Int) : ∀ (j : Nat) (a : Int) (F : Fo), Vk F → exF (fun v z => decide (fr ≤ v - z)) pop pb j a F = true → (raV up fr).G pop pb j a () F = false
  | _, _, .nil, _, h => by cases h
  | j, a, .cons p n ats k x, hv, h => by
    have e : ∀ s : Unit, s = () := fun _ => rfl
    rw [exF_cons, exT] at h
    simp only [Bool.or_eq_true, Bool.and_eq_true, decide_eq_true_eq] at h
    rw [Vis.G_cons, Vis.G1, e ((raV up fr).nx () _ _), e ((raV up fr).S1 _ () n k)]
    rcases h with (h | h) | h
    · have := var_ok hv.1 h.1
      have h0 : (raV up fr).ok () n (a + aroundI pop pb j) = false := by
        simp only [raV]
        rw [if_pos ⟨h.1, by omega⟩]
        exact decide_eq_false (by omega)
      rw [h0]; rfl
    · rw [raG_big hup n.op n.b 0 _ k hv.2.2.1 h]; simp
    · rw [raG_big hup pop pb (j + 1) a x hv.2.2.2 h]; simp
theorem raG1_big {up fr : Int} (hup : 1048576 < up) {n : Nd} {k : Fo} (hok : okN n = true) (hk : Vk k) (h : exT (fun v z => decide (fr ≤ v - z)) 0 n k = true) : (raV up fr).G1 0 () n k = false := by
  have e : ∀ s : Unit, s = () := fun _ => rfl
  rw [exT] at h
  simp only [Bool.or_eq_true, Bool.and_eq_true, decide_eq_true_eq] at h
  rw [Vis.G1, e ((raV up fr).nx () _ _)]
  rcases h with h | h
  · have := var_ok hok h.1
    have h0 : (raV up fr).ok () n 0 = false := by
      simp only [raV]
      rw [if_pos ⟨h.1, by omega⟩]
      exact decide_eq_false (by omega)
    rw [h0]; rfl
  · rw [raG_big hup n.op n.b 0 _ k hk h]; simp

end Go.Proofs.Ytnmeglbamfjcgaa
