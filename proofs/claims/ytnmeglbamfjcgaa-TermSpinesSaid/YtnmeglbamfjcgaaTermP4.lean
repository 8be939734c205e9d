/- Lift, Free and Below of the reference told as the program's: plain laws. -/
import Derived.Test.YtnmeglbamfjcgaaTermP3
namespace Go.Proofs.Ytnmeglbamfjcgaa
open Go.RowKit

section
variable {l : List Nd} {n : Nd} {ats : List Nd} {k : Fo}

/-- What a right row has. -/
theorem right_row (hs : shapeI l = 0) (hpp : pp [false] l = some (.cons [] n ats k .nil, [])) : okN n = true ∧ (n.op = 1 → ats = [] ∧ k = .nil) ∧ Vk k ∧ AllOk k ∧ PreOk (decide (n.op = 12)) 0 k ∧ l = n :: (ats ++ row k) ∧ l.length ≤ 4096 ∧ fsize k ≤ 4096 := by
  obtain ⟨hl, n', ats', k', hpp', hrow, hfs⟩ := shape_ok hs
  rw [hpp] at hpp'
  injection hpp' with e
  injection e with e1 _
  injection e1 with _ e2 e3 e4 _
  subst e2 e3 e4
  have hw := wf_of_pp hpp
  have hal := pp_allok hpp
  obtain ⟨_, hok, hat, hk, _⟩ := hw
  exact ⟨hok, vk_node hat hk, vk_of_wf _ _ hk, hal.2.1, pre_of_wf hk, hrow, hl, hfs⟩

theorem most_le (hok : okN n = true) (h1 : n.op = 1 → k = .nil) (hk : Vk k) : grtT n k 0 ≤ 1048576 := by
  have h := grtT_of (m := 1048577) (a := 0) (by decide) h1 (grt_ge (by decide) n.op n.b 0 0 k hk)
  rw [exT_no (p := fun v z => decide ((1048577 : Int) ≤ v - z)) (fun x z _ _ _ => decide_eq_false (by omega)) hok hk] at h
  have := of_decide_eq_false h
  omega
theorem liftA (hs : shapeI l = 0) (hpp : pp [false] l = some (.cons [] n ats k .nil, [])) {up fr : Int} (h0 : 0 ≤ up) (h1 : 0 ≤ fr) (h : grtT n k 0 < fr) : liftR l up fr = (l, 0) := by
  obtain ⟨hok, hv, hk, _, _, hrow, _⟩ := right_row hs hpp
  have hm := most_le hok (fun q => (hv q).2) hk
  have hx : exT (fun v z => decide (min fr 1048577 ≤ v - z)) 0 n k = false := by
    rw [← grtT_of (by omega) (fun q => (hv q).2) (grt_ge (by omega) n.op n.b 0 0 k hk)]
    exact decide_eq_false (by omega)
  have hg := raG1_low (up := up) hx ats
  unfold liftR
  rw [if_pos hs, if_neg (by omega)]
  unfold liftT
  rw [hpp]
  simp only
  rw [if_pos hg.1, hg.2, hrow]
theorem lift_fr (hs : shapeI l = 0) (hpp : pp [false] l = some (.cons [] n ats k .nil, [])) {up fr : Int} (h0 : 0 ≤ up) (h1 : 0 ≤ fr) (h : fr ≤ grtT n k 0) : liftR l up fr = if (raV up fr).G1 0 () n k = true then ((raV up fr).E1 0 () n ats k, 0) else ([], 6) := by
  obtain ⟨hok, hv, hk, _⟩ := right_row hs hpp
  have hm := most_le hok (fun q => (hv q).2) hk
  exact liftR_form hs hpp h0 h1 (by omega)
theorem liftB (hs : shapeI l = 0) (hpp : pp [false] l = some (.cons [] n ats k .nil, [])) {up fr : Int} (h1 : 0 ≤ fr) (h : fr ≤ grtT n k 0) (hup : 1048576 < up) : liftR l up fr = ([], 6) := by
  obtain ⟨hok, hv, hk, _⟩ := right_row hs hpp
  have hx : exT (fun v z => decide (fr ≤ v - z)) 0 n k = true := by
    rw [← grtT_of h1 (fun q => (hv q).2) (grt_ge h1 n.op n.b 0 0 k hk)]
    exact decide_eq_true h
  rw [lift_fr hs hpp (by omega) h1 h, raG1_big hup hok hk hx]
  rfl
theorem liftC (hs : shapeI l = 0) (hpp : pp [false] l = some (.cons [] n ats k .nil, [])) {up fr : Int} (h0 : 0 ≤ up) (h1 : 0 ≤ fr) (h : fr ≤ grtT n k 0) (hh : 1048576 < higT up n k fr) : liftR l up fr = ([], 6) := by
  obtain ⟨hok, hv, hk, _⟩ := right_row hs hpp
  have hg := higT_of (up := up) (fr := fr) (a := 0) (fun q => (hv q).2) (hig_le up fr n.op n.b 0 0 k hk)
  rw [Int.add_zero, decide_eq_false (by omega)] at hg
  rw [lift_fr hs hpp h0 h1 h, ← hg]
  rfl
theorem liftD (hs : shapeI l = 0) (hpp : pp [false] l = some (.cons [] n ats k .nil, [])) {up fr : Int} (h0 : 0 ≤ up) (h1 : 0 ≤ fr) (h : fr ≤ grtT n k 0) (hh : higT up n k fr ≤ 1048576) :
    liftR l up fr = (row (.cons [] (raiN up n fr) (raiA n ats fr) (raiK up n k fr) .nil), 0) ∧ PreOk (decide ((raiN up n fr).op = 12)) 0 (raiK up n k fr) ∧ (row (.cons [] (raiN up n fr) (raiA n ats fr) (raiK up n k fr) .nil)).length ≤ 4096 := by
  obtain ⟨hok, hv, hk, _, _, hrow, hl, _⟩ := right_row hs hpp
  have hg := higT_of (up := up) (fr := fr) (a := 0) (fun q => (hv q).2) (hig_le up fr n.op n.b 0 0 k hk)
  rw [Int.add_zero, decide_eq_true hh] at hg
  have hr := rai_node (up := up) (fr := fr) (a := 0) hok hv (rai_eq up fr n.op n.b 0 0 k hk)
  rw [Int.add_zero] at hr
  obtain ⟨hp2, hs2, hl2⟩ := lift_right (up := up) (fr := fr) hpp hl h0 hg.symm
  rw [hr.1, hr.2.1, hr.2.2]
  obtain ⟨_, _, _, _, hpre, hrow2, _⟩ := right_row hs2 hp2
  have e : (raV up fr).E1 0 () n ats k = row (.cons [] (raN up fr n 0) ats (raF up fr n.op n.b 0 0 k) .nil) := by
    rw [raV_row1]; simp [row]
  refine ⟨?_, ?_, by rw [← e, hl2]; exact hl⟩
  · rw [lift_fr hs hpp h0 h1 h, if_pos hg.symm, e]
  · have := (raN_same up fr n 0)
    exact hpre
theorem free_told (hs : shapeI l = 0) (hpp : pp [false] l = some (.cons [] n ats k .nil, [])) {v : Int} (h0 : 0 ≤ v) : freeB l v = decide (0 < (timT n k v).1) := by
  obtain ⟨hok, hv, hk, _⟩ := right_row hs hpp
  have h := timT_of (v := v) (a := 0) (fun q => (hv q).2) (tim_ex v n.op n.b 0 0 k hk)
  rw [Int.add_zero] at h
  unfold freeB exR
  rw [hpp, decide_eq_true h0, decide_eq_true hs, h.2]
  rfl
theorem free_big (hs : shapeI l = 0) (hpp : pp [false] l = some (.cons [] n ats k .nil, [])) {v : Int} (h0 : 1048576 < v) : freeB l v = false := by
  obtain ⟨hok, hv, hk, _⟩ := right_row hs hpp
  unfold freeB exR
  rw [hpp]
  simp only
  rw [exT_no (p := fun x z => decide (x - z = v)) (fun x z _ _ _ => decide_eq_false (by omega)) hok hk]
  simp
theorem below_told (hs : shapeI l = 0) (hpp : pp [false] l = some (.cons [] n ats k .nil, [])) (v : Int) : belowB l v = (decide (grtT n k 0 < 0) || decide (grtT n k 0 < v)) := by
  obtain ⟨hok, hv, hk, _⟩ := right_row hs hpp
  have h := grtT_of (m := max v 0) (a := 0) (by omega) (fun q => (hv q).2) (grt_ge (by omega) n.op n.b 0 0 k hk)
  unfold belowB exR
  rw [hpp, decide_eq_true hs]
  simp only
  rw [← h, Bool.true_and, ← Bool.decide_or, ← decide_not]
  exact decide_eq_decide.2 (by omega)
end

end Go.Proofs.Ytnmeglbamfjcgaa
