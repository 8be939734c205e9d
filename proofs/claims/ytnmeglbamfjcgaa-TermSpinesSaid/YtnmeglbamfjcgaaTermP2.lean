/- Lifting twice, told of forests: plain laws. -/
import Derived.Test.YtnmeglbamfjcgaaTermP
namespace Go.Proofs.Ytnmeglbamfjcgaa
open Go.RowKit

theorem ra_twice {a b fr : Int} (ha : 0 ≤ a) (n : Nd) (y : Int) : raN b (fr + a) (raN a fr n y) y = raN (a + b) fr n y := by
  unfold raN
  by_cases h : n.op = 1 ∧ fr + y ≤ n.a
  · rw [if_pos h, if_pos h]
    simp only
    rw [if_pos ⟨h.1, by omega⟩]
    congr 1
    omega
  · rw [if_neg h, if_neg h, if_neg (fun q => h ⟨q.1, by omega⟩)]
theorem ra_twice_ok {a b fr : Int} (ha : 0 ≤ a) (hb : 0 ≤ b) {n : Nd} {y : Int} (h : (raV (a + b) fr).ok () n y = true) : (raV a fr).ok () n y = true ∧ (raV b (fr + a)).ok () (raN a fr n y) y = true := by
  simp only [raV] at h ⊢
  unfold raN
  by_cases h1 : n.op = 1 ∧ fr + y ≤ n.a
  · rw [if_pos h1] at h
    rw [if_pos h1, if_pos h1]
    simp only [decide_eq_true_eq] at h ⊢
    rw [if_pos ⟨h1.1, by omega⟩]
    exact ⟨by omega, by simp only [decide_eq_true_eq]; omega⟩
  · rw [if_neg h1, if_neg h1, if_neg (fun q => h1 ⟨q.1, by omega⟩)]
    exact ⟨rfl, rfl⟩
theorem raF_twice {a b fr : Int} (ha : 0 ≤ a) (pop pb : Int) : ∀ (j : Nat) (y : Int) (F : Fo), raF b (fr + a) pop pb j y (raF a fr pop pb j y F) = raF (a + b) fr pop pb j y F
  | _, _, .nil => rfl
  | j, y, .cons p n ats k x => by
    have hs := raN_same a fr n (y + aroundI pop pb j)
    simp only [raF]
    rw [hs.1, hs.2, ra_twice ha, raF_twice ha n.op n.b 0 _ k, raF_twice ha pop pb (j + 1) y x]
theorem raF_twice_ok {a b fr : Int} (ha : 0 ≤ a) (hb : 0 ≤ b) (pop pb : Int) : ∀ (j : Nat) (y : Int) (F : Fo), (raV (a + b) fr).G pop pb j y () F = true → (raV a fr).G pop pb j y () F = true ∧ (raV b (fr + a)).G pop pb j y () (raF a fr pop pb j y F) = true
  | _, _, .nil, _ => ⟨rfl, rfl⟩
  | j, y, .cons p n ats k x, h => by
    have hs := raN_same a fr n (y + aroundI pop pb j)
    rw [Vis.G_cons, Vis.G1, Bool.and_eq_true, Bool.and_eq_true] at h
    obtain ⟨⟨h1, h2⟩, h3⟩ := h
    have q1 := ra_twice_ok ha hb h1
    have q2 := raF_twice_ok ha hb n.op n.b 0 _ k h2
    have q3 := raF_twice_ok ha hb pop pb (j + 1) y x h3
    simp only [raF]
    rw [Vis.G_cons, Vis.G1, Vis.G_cons, Vis.G1, hs.1, hs.2]
    simp only [Bool.and_eq_true]
    exact ⟨⟨⟨q1.1, q2.1⟩, q3.1⟩, ⟨⟨q1.2, q2.2⟩, q3.2⟩⟩
theorem ra_gone {a fr : Int} (ha : 0 < a) (n : Nd) (y : Int) : (decide ((raN a fr n y).op = 1) && decide ((raN a fr n y).a - y = fr)) = false := by
  unfold raN
  split
  · rename_i h
    simp only [Bool.and_eq_false_iff, decide_eq_false_iff_not]
    right; omega
  · rename_i h
    simp only [Bool.and_eq_false_iff, decide_eq_false_iff_not]
    by_cases h1 : n.op = 1
    · right
      intro h2
      exact h ⟨h1, by omega⟩
    · exact .inl h1
theorem raF_gone {a fr : Int} (ha : 0 < a) (pop pb : Int) : ∀ (j : Nat) (y : Int) (F : Fo), exF (fun v z => decide (v - z = fr)) pop pb j y (raF a fr pop pb j y F) = false
  | _, _, .nil => rfl
  | j, y, .cons p n ats k x => by
    have hs := raN_same a fr n (y + aroundI pop pb j)
    have h1 := ra_gone (fr := fr) ha n (y + aroundI pop pb j)
    have h2 := raF_gone (fr := fr) ha n.op n.b 0 (y + aroundI pop pb j) k
    have h3 := raF_gone (fr := fr) ha pop pb (j + 1) y x
    simp only [raF, exF]
    rw [h1, hs.1, hs.2, h2, h3]
    rfl
theorem ra_low {up fr : Int} {n : Nd} {y : Int} (h : (decide (n.op = 1) && decide (fr ≤ n.a - y)) = false) : raN up fr n y = n := by
  unfold raN
  simp only [Bool.and_eq_false_iff, decide_eq_false_iff_not] at h
  rw [if_neg]
  intro q
  rcases h with h | h
  · exact h q.1
  · exact h (by omega)
theorem raF_low {up fr : Int} (pop pb : Int) : ∀ (j : Nat) (y : Int) (F : Fo), exF (fun v z => decide (fr ≤ v - z)) pop pb j y F = false → raF up fr pop pb j y F = F
  | _, _, .nil, _ => rfl
  | j, y, .cons p n ats k x, h => by
    simp only [exF, Bool.or_eq_false_iff] at h
    obtain ⟨⟨h1, h2⟩, h3⟩ := h
    simp only [raF]
    rw [ra_low h1, raF_low n.op n.b 0 _ k h2, raF_low pop pb (j + 1) y x h3]

theorem liftR_form {t : List Nd} {n : Nd} {ats : List Nd} {k : Fo} {up fr : Int} (ht : shapeI t = 0) (hpp : pp [false] t = some (.cons [] n ats k .nil, [])) (h0 : 0 ≤ up) (h1 : 0 ≤ fr) (h2 : fr ≤ 1048577) :
    liftR t up fr = if (raV up fr).G1 0 () n k = true then ((raV up fr).E1 0 () n ats k, 0) else ([], 6) := by
  have hm : min fr 1048577 = fr := by omega
  unfold liftR
  rw [if_pos ht, if_neg (by omega)]
  unfold liftT
  rw [hpp, hm]

/-- Lifting by a sum is lifting twice; and what is lifted. -/
theorem lifted {t : List Nd} {a b fr : Int} (ht : shapeI t = 0) (ha : 0 ≤ a) (hb : 0 ≤ b) (hf : 0 ≤ fr) (hfa : fr + a ≤ 1048577) (h : (liftR t (a + b) fr).2 = 0) :
    (liftR t a fr).2 = 0 ∧ shapeI (liftR t a fr).1 = 0 ∧ (liftR (liftR t a fr).1 b (fr + a)).2 = 0 ∧ (liftR (liftR t a fr).1 b (fr + a)).1 = (liftR t (a + b) fr).1 ∧ shapeI (liftR t (a + b) fr).1 = 0 ∧
      (0 < a → freeB (liftR t a fr).1 fr = false) ∧ (belowB t fr = true → t = (liftR t (a + b) fr).1) := by
  obtain ⟨hl, n, ats, k, hpp, hrow, hfs⟩ := shape_ok ht
  have e1 := liftR_form (up := a + b) (fr := fr) ht hpp (by omega) hf (by omega)
  have e2 := liftR_form (up := a) (fr := fr) ht hpp ha hf (by omega)
  by_cases hg : (raV (a + b) fr).G1 0 () n k = true
  · rw [if_pos hg] at e1
    have hs := raN_same a fr n 0
    have hg0 := hg
    rw [Vis.G1, Bool.and_eq_true] at hg0
    obtain ⟨g1, g2⟩ := hg0
    have q1 := ra_twice_ok ha hb g1
    have q2 := raF_twice_ok ha hb n.op n.b 0 0 k g2
    have hga : (raV a fr).G1 0 () n k = true := by
      rw [Vis.G1, Bool.and_eq_true]; exact ⟨q1.1, q2.1⟩
    rw [if_pos hga] at e2
    obtain ⟨hp2, hs2, hl2⟩ := lift_right (up := a) (fr := fr) hpp hl ha hga
    have hgb : (raV b (fr + a)).G1 0 () (raN a fr n 0) (raF a fr n.op n.b 0 0 k) = true := by
      rw [Vis.G1, Bool.and_eq_true, hs.1, hs.2]; exact ⟨q1.2, q2.2⟩
    have e3 := liftR_form (up := b) (fr := fr + a) hs2 hp2 hb (by omega) hfa
    rw [if_pos hgb] at e3
    obtain ⟨_, hs1, _⟩ := lift_right (up := a + b) (fr := fr) hpp hl (by omega) hg
    have e4 : (raV b (fr + a)).E1 0 () (raN a fr n 0) ats (raF a fr n.op n.b 0 0 k) = (raV (a + b) fr).E1 0 () n ats k := by
      rw [raV_row1, raV_row1, hs.1, hs.2, ra_twice ha, raF_twice ha]
    rw [e2]
    simp only
    rw [e3, e1]
    refine ⟨by trivial, hs2, by trivial, e4, hs1, fun hpos => ?_, fun hbel => ?_⟩
    · have r1 := ra_gone (fr := fr) hpos n 0
      have r2 := raF_gone (fr := fr) hpos n.op n.b 0 0 k
      unfold freeB exR
      rw [hp2]
      simp only [exT]
      rw [r1, hs.1, hs.2, r2]
      simp
    · unfold belowB exR at hbel
      rw [hpp] at hbel
      have hmx : max fr 0 = fr := by omega
      rw [hmx] at hbel
      simp only [exT, Bool.and_eq_true, Bool.not_eq_true', Bool.or_eq_false_iff] at hbel
      obtain ⟨_, r1, r2⟩ := hbel
      simp only
      rw [raV_row1, ra_low r1, raF_low n.op n.b 0 0 k r2, hrow]
  · rw [if_neg hg] at e1
    rw [e1] at h
    cases h

end Go.Proofs.Ytnmeglbamfjcgaa
