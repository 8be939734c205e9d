/- Merged: LiftP, TermP, TermP2, TermP3, TermP4, Parts0, KidsD, Parts1, Clone, Count, Parts, Kids. -/
import Derived.Test.YtpkldboeohhmpaaSBase
import Derived.Test.YtpkldboeohhmpaaSSubst
import Derived.Test.YtpkldboeohhmpaaSTermL
import Derived.Test.YtpkldboeohhmpaaSFines
import Derived.Test.YtpkldboeohhmpaaSRowsD
import Derived.Test.YtpkldboeohhmpaaSEnds
import Derived.Test.YtpkldboeohhmpaaSLeafs
import Derived.Lib.SliceRun
import Derived.Test.YtpkldboeohhmpaaProg
import Derived.WalkKit
import Derived.WalkLawsBesides
import Derived.WalkSpells
import Derived.Lib.Hide
import Derived.Deep.QuietTactic
import Derived.BigQuiet
namespace Go.Proofs.Ytpkldboeohhmpaa
set_option maxHeartbeats 1000000
set_option maxRecDepth 100000
section
open Go.RowKit
end
section
open Go.RowKit
theorem und_cn (x : Int) (pop pb : Int) : ∀ (j : Nat) (a : Int) (F : Fo), cnF x pop pb j a (raF 1 x pop pb j a F) = 0
 | _, _, .nil => rfl
 | j, a, .cons p n ats k y => by
  have hs := raN_same 1 x n (a + aroundI pop pb j)
  simp only [raF, cnF, hs.1, hs.2]
  rw [und_cn x n.op n.b 0 _ k, und_cn x pop pb (j + 1) a y]
  have : ¬ (n.op = 1 ∧ (raN 1 x n (a + aroundI pop pb j)).a - (a + aroundI pop pb j) = x) := by
   unfold raN
   split
   · simp only; omega
   · omega
  rw [if_neg this]; rfl
theorem und_em (u : Put) (x : Int) (n : Nd) (a : Int) : (puV u x).em () (raN 1 x n a) a = [n] ∧ (puV u x).dm () (raN 1 x n a) a := by
 unfold raN
 split
 · rename_i h
   constructor
   · simp only [puV]
     rw [if_neg (by omega), if_pos (by omega)]
     have : n.a + 1 - 1 = n.a := by omega
     rw [this]
   · simp only [puV]; intro h2; omega
 · rename_i h
   constructor
   · simp only [puV]
     rw [if_neg (by omega), if_neg (by omega)]
   · simp only [puV]; intro h2; omega
theorem und_row (u : Put) (x : Int) (pop pb : Int) : ∀ (j : Nat) (a : Int) (F : Fo), (puV u x).E pop pb j a () (raF 1 x pop pb j a F) = row F ∧ (puV u x).D pop pb j a () (raF 1 x pop pb j a F)
 | _, _, .nil => ⟨rfl, trivial⟩
 | j, a, .cons p n ats k y => by
  have e : ∀ s : Unit, s = () := fun _ => rfl
  have hs := raN_same 1 x n (a + aroundI pop pb j)
  have h1 := und_row u x n.op n.b 0 (a + aroundI pop pb j) k
  have h2 := und_row u x pop pb (j + 1) a y
  have h3 := und_em u x n (a + aroundI pop pb j)
  constructor
  · simp only [raF]
    rw [Vis.E_cons, Vis.E1, h3.1, hs.1, hs.2, e ((puV u x).nx () _ _), e ((puV u x).S1 _ () _ _), h1.1, h2.1]
    simp [row]
  · simp only [raF]
    rw [Vis.D_cons, Vis.D1, hs.1, hs.2, e ((puV u x).nx () _ _), e ((puV u x).S1 _ () _ _)]
    exact ⟨⟨h3.2, h1.2⟩, h2.2⟩
theorem undone {t u : List Nd} {x : Int} (ht : shapeI t = 0) (hu : shapeI u = 0) (h0 : 0 ≤ x) (h1 : x ≤ 1048577) (h : (liftR t 1 x).2 = 0) : substD (liftR t 1 x).1 u (min x 1048577) ∧ shapeI (liftR t 1 x).1 = 0 ∧ substR (liftR t 1 x).1 u x = (t, 0) := by
 obtain ⟨hl, n, ats, k, hpp, hrow, hfs⟩ := shape_ok ht
 obtain ⟨hul, un, ua, uk, hpu, hurow, hufs⟩ := shape_ok hu
 have hm : min x 1048577 = x := by omega
 have hlr : liftR t 1 x = if (raV 1 x).G1 0 () n k = true then ((raV 1 x).E1 0 () n ats k, 0) else ([], 6) := by
  unfold liftR
  rw [if_pos ht, if_neg (by omega)]
  unfold liftT
  rw [hpp, hm]
 by_cases hg : (raV 1 x).G1 0 () n k = true
 · rw [if_pos hg] at hlr
   rw [hlr]
   obtain ⟨hp2, hs2, hl2⟩ := lift_right (up := 1) (fr := x) hpp hl (by omega) hg
   have hs := raN_same 1 x n 0
   have hem := und_em ⟨un, ua, uk⟩ x n 0
   have hro := und_row ⟨un, ua, uk⟩ x n.op n.b 0 0 k
   have e : ∀ s : Unit, s = () := fun _ => rfl
   have hcn : cnT x (raN 1 x n 0) (raF 1 x n.op n.b 0 0 k) = 0 := by
    unfold cnT
    rw [hs.1, hs.2, und_cn]
    have : ¬ (n.op = 1 ∧ (raN 1 x n 0).a = x) := by
     unfold raN
     split
     · simp only; omega
     · omega
    rw [if_neg this]; rfl
   refine ⟨?_, hs2, ?_⟩
   · unfold substD
     rw [hp2, hpu, hm]
     simp only
     rw [Vis.D1, hs.1, hs.2]
     exact ⟨hem.2, hro.2⟩
   · unfold substR
     rw [if_pos hs2, if_pos hu, if_neg (by omega), hm]
     unfold substT
     rw [hp2, hpu]
     simp only
     rw [hcn, if_neg (by omega), if_neg (by rw [hl2]; omega), Vis.E1, hem.1, hs.1, hs.2, e ((puV ⟨un, ua, uk⟩ x).nx () _ _), hro.1, hrow]
     rfl
 · rw [if_neg hg] at hlr
   rw [hlr] at h
   cases h
end
section
open Go.RowKit
theorem ra_twice {a b fr : Int} (ha : 0 ≤ a) (n : Nd) (y : Int) : raN b (fr + a) (raN a fr n y) y = raN (a + b) fr n y := by
 unfold raN
 by_cases h : n.op = 1 ∧ fr + y ≤ n.a
 · rw [if_pos h, if_pos h]
   simp only
   rw [if_pos ⟨h.1, by omega⟩]
   congr 1
   omega
 · rw [if_neg h, if_neg h, if_neg (fun q => h ⟨q.1, by omega⟩)]
theorem ra_twice_ok {a b fr : Int} (ha : 0 ≤ a) (hb : 0 ≤ b) {n : Nd} {y : Int} (h : (raV (a + b) fr).ok () n y = true) : (raV a fr).ok () n y = true ∧ (raV b (fr + a)).ok () (raN a fr n y) y = true := by
 simp only [raV] at h ⊢
 unfold raN
 by_cases h1 : n.op = 1 ∧ fr + y ≤ n.a
 · rw [if_pos h1] at h
   rw [if_pos h1, if_pos h1]
   simp only [decide_eq_true_eq] at h ⊢
   rw [if_pos ⟨h1.1, by omega⟩]
   exact ⟨by omega, by simp only [decide_eq_true_eq]; omega⟩
 · rw [if_neg h1, if_neg h1, if_neg (fun q => h1 ⟨q.1, by omega⟩)]
   exact ⟨rfl, rfl⟩
theorem raF_twice {a b fr : Int} (ha : 0 ≤ a) (pop pb : Int) : ∀ (j : Nat) (y : Int) (F : Fo), raF b (fr + a) pop pb j y (raF a fr pop pb j y F) = raF (a + b) fr pop pb j y F
 | _, _, .nil => rfl
 | j, y, .cons p n ats k x => by
  have hs := raN_same a fr n (y + aroundI pop pb j)
  simp only [raF]
  rw [hs.1, hs.2, ra_twice ha, raF_twice ha n.op n.b 0 _ k, raF_twice ha pop pb (j + 1) y x]
theorem raF_twice_ok {a b fr : Int} (ha : 0 ≤ a) (hb : 0 ≤ b) (pop pb : Int) : ∀ (j : Nat) (y : Int) (F : Fo), (raV (a + b) fr).G pop pb j y () F = true → (raV a fr).G pop pb j y () F = true ∧ (raV b (fr + a)).G pop pb j y () (raF a fr pop pb j y F) = true
 | _, _, .nil, _ => ⟨rfl, rfl⟩
 | j, y, .cons p n ats k x, h => by
  have hs := raN_same a fr n (y + aroundI pop pb j)
  rw [Vis.G_cons, Vis.G1, Bool.and_eq_true, Bool.and_eq_true] at h
  obtain ⟨⟨h1, h2⟩, h3⟩ := h
  have q1 := ra_twice_ok ha hb h1
  have q2 := raF_twice_ok ha hb n.op n.b 0 _ k h2
  have q3 := raF_twice_ok ha hb pop pb (j + 1) y x h3
  simp only [raF]
  rw [Vis.G_cons, Vis.G1, Vis.G_cons, Vis.G1, hs.1, hs.2]
  simp only [Bool.and_eq_true]
  exact ⟨⟨⟨q1.1, q2.1⟩, q3.1⟩, ⟨⟨q1.2, q2.2⟩, q3.2⟩⟩
theorem ra_gone {a fr : Int} (ha : 0 < a) (n : Nd) (y : Int) : (decide ((raN a fr n y).op = 1) && decide ((raN a fr n y).a - y = fr)) = false := by
 unfold raN
 split
 · rename_i h
   simp only [Bool.and_eq_false_iff, decide_eq_false_iff_not]
   right; omega
 · rename_i h
   simp only [Bool.and_eq_false_iff, decide_eq_false_iff_not]
   by_cases h1 : n.op = 1
   · right
     intro h2
     exact h ⟨h1, by omega⟩
   · exact .inl h1
theorem raF_gone {a fr : Int} (ha : 0 < a) (pop pb : Int) : ∀ (j : Nat) (y : Int) (F : Fo), exF (fun v z => decide (v - z = fr)) pop pb j y (raF a fr pop pb j y F) = false
 | _, _, .nil => rfl
 | j, y, .cons p n ats k x => by
  have hs := raN_same a fr n (y + aroundI pop pb j)
  have h1 := ra_gone (fr := fr) ha n (y + aroundI pop pb j)
  have h2 := raF_gone (fr := fr) ha n.op n.b 0 (y + aroundI pop pb j) k
  have h3 := raF_gone (fr := fr) ha pop pb (j + 1) y x
  simp only [raF, exF]
  rw [h1, hs.1, hs.2, h2, h3]
  rfl
theorem ra_low {up fr : Int} {n : Nd} {y : Int} (h : (decide (n.op = 1) && decide (fr ≤ n.a - y)) = false) : raN up fr n y = n := by
 unfold raN
 simp only [Bool.and_eq_false_iff, decide_eq_false_iff_not] at h
 rw [if_neg]
 intro q
 rcases h with h | h
 · exact h q.1
 · exact h (by omega)
theorem raF_low {up fr : Int} (pop pb : Int) : ∀ (j : Nat) (y : Int) (F : Fo), exF (fun v z => decide (fr ≤ v - z)) pop pb j y F = false → raF up fr pop pb j y F = F
 | _, _, .nil, _ => rfl
 | j, y, .cons p n ats k x, h => by
  simp only [exF, Bool.or_eq_false_iff] at h
  obtain ⟨⟨h1, h2⟩, h3⟩ := h
  simp only [raF]
  rw [ra_low h1, raF_low n.op n.b 0 _ k h2, raF_low pop pb (j + 1) y x h3]
theorem liftR_form {t : List Nd} {n : Nd} {ats : List Nd} {k : Fo} {up fr : Int} (ht : shapeI t = 0) (hpp : pp [false] t = some (.cons [] n ats k .nil, [])) (h0 : 0 ≤ up) (h1 : 0 ≤ fr) (h2 : fr ≤ 1048577) :
 liftR t up fr = if (raV up fr).G1 0 () n k = true then ((raV up fr).E1 0 () n ats k, 0) else ([], 6) := by
 have hm : min fr 1048577 = fr := by omega
 unfold liftR
 rw [if_pos ht, if_neg (by omega)]
 unfold liftT
 rw [hpp, hm]
theorem lifted {t : List Nd} {a b fr : Int} (ht : shapeI t = 0) (ha : 0 ≤ a) (hb : 0 ≤ b) (hf : 0 ≤ fr) (hfa : fr + a ≤ 1048577) (h : (liftR t (a + b) fr).2 = 0) :
 (liftR t a fr).2 = 0 ∧ shapeI (liftR t a fr).1 = 0 ∧ (liftR (liftR t a fr).1 b (fr + a)).2 = 0 ∧ (liftR (liftR t a fr).1 b (fr + a)).1 = (liftR t (a + b) fr).1 ∧ shapeI (liftR t (a + b) fr).1 = 0 ∧
  (0 < a → freeB (liftR t a fr).1 fr = false) ∧ (belowB t fr = true → t = (liftR t (a + b) fr).1) := by
 obtain ⟨hl, n, ats, k, hpp, hrow, hfs⟩ := shape_ok ht
 have e1 := liftR_form (up := a + b) (fr := fr) ht hpp (by omega) hf (by omega)
 have e2 := liftR_form (up := a) (fr := fr) ht hpp ha hf (by omega)
 by_cases hg : (raV (a + b) fr).G1 0 () n k = true
 · rw [if_pos hg] at e1
   have hs := raN_same a fr n 0
   have hg0 := hg
   rw [Vis.G1, Bool.and_eq_true] at hg0
   obtain ⟨g1, g2⟩ := hg0
   have q1 := ra_twice_ok ha hb g1
   have q2 := raF_twice_ok ha hb n.op n.b 0 0 k g2
   have hga : (raV a fr).G1 0 () n k = true := by
    rw [Vis.G1, Bool.and_eq_true]; exact ⟨q1.1, q2.1⟩
   rw [if_pos hga] at e2
   obtain ⟨hp2, hs2, hl2⟩ := lift_right (up := a) (fr := fr) hpp hl ha hga
   have hgb : (raV b (fr + a)).G1 0 () (raN a fr n 0) (raF a fr n.op n.b 0 0 k) = true := by
    rw [Vis.G1, Bool.and_eq_true, hs.1, hs.2]; exact ⟨q1.2, q2.2⟩
   have e3 := liftR_form (up := b) (fr := fr + a) hs2 hp2 hb (by omega) hfa
   rw [if_pos hgb] at e3
   obtain ⟨_, hs1, _⟩ := lift_right (up := a + b) (fr := fr) hpp hl (by omega) hg
   have e4 : (raV b (fr + a)).E1 0 () (raN a fr n 0) ats (raF a fr n.op n.b 0 0 k) = (raV (a + b) fr).E1 0 () n ats k := by
    rw [raV_row1, raV_row1, hs.1, hs.2, ra_twice ha, raF_twice ha]
   rw [e2]
   simp only
   rw [e3, e1]
   refine ⟨by trivial, hs2, by trivial, e4, hs1, fun hpos => ?_, fun hbel => ?_⟩
   · have r1 := ra_gone (fr := fr) hpos n 0
     have r2 := raF_gone (fr := fr) hpos n.op n.b 0 0 k
     unfold freeB exR
     rw [hp2]
     simp only [exT]
     rw [r1, hs.1, hs.2, r2]
     simp
   · unfold belowB exR at hbel
     rw [hpp] at hbel
     have hmx : max fr 0 = fr := by omega
     rw [hmx] at hbel
     simp only [exT, Bool.and_eq_true, Bool.not_eq_true', Bool.or_eq_false_iff] at hbel
     obtain ⟨_, r1, r2⟩ := hbel
     simp only
     rw [raV_row1, ra_low r1, raF_low n.op n.b 0 0 k r2, hrow]
 · rw [if_neg hg] at e1
   rw [e1] at h
   cases h
end
section
open Go.RowKit
def Vk : Fo → Prop
 | .nil => True
 | .cons _ n ats k x => okN n = true ∧ (n.op = 1 → ats = [] ∧ k = .nil) ∧ Vk k ∧ Vk x
theorem ds_one {n : Nd} (h : n.op = 1) : ds n = [] := by simp [ds, kidsI, h]
theorem vk_node {n : Nd} {ats : List Nd} {k : Fo} (h1 : AtOk n ats) (h2 : Wf (ds n) k) (h : n.op = 1) : ats = [] ∧ k = .nil := by
 rw [ds_one h] at h2
 constructor
 · unfold AtOk at h1
   rw [if_neg (by omega)] at h1
   exact h1
 · cases k with
   | nil => rfl
   | cons _ _ _ _ _ => exact h2.elim
theorem vk_of_wf : ∀ (F : Fo) (dl : List Bool), Wf dl F → Vk F
 | .nil, _, _ => trivial
 | .cons _ _ _ _ _, [], h => h.elim
 | .cons p n ats k x, d :: dr, h => by
  obtain ⟨_, hok, hat, hk, hx⟩ := h
  exact ⟨hok, vk_node hat hk, vk_of_wf k _ hk, vk_of_wf x _ hx⟩
theorem pre_all : ∀ (F : Fo), (∀ m i, i % 2 = 0 → Wf ((List.replicate m [true, false]).flatten) F → PreOk true i F) ∧ (∀ m i, i % 2 = 1 → Wf (false :: (List.replicate m [true, false]).flatten) F → PreOk true i F) ∧ (∀ m i, Wf (List.replicate m false) F → PreOk false i F)
 | .nil => ⟨fun _ _ _ _ => trivial, fun _ _ _ _ => trivial, fun _ _ _ => trivial⟩
 | .cons p n ats k x => by
  have hk := pre_all k
  have hx := pre_all x
  have kid : Wf (ds n) k → PreOk (decide (n.op = 12)) 0 k := fun h => by
   unfold ds at h
   by_cases h12 : n.op = 12
   · rw [if_pos h12] at h
     rw [decide_eq_true h12]
     exact hk.1 _ 0 rfl h
   · rw [if_neg h12] at h
     rw [decide_eq_false h12]
     exact hk.2.2 _ 0 h
  refine ⟨fun m i hi h => ?_, fun m i hi h => ?_, fun m i h => ?_⟩
  · cases m with
    | zero => exact h.elim
    | succ m =>
     simp only [List.replicate_succ, List.flatten_cons, List.cons_append, List.nil_append] at h
     obtain ⟨⟨f, hp, _⟩, _, _, hkk, hxx⟩ := h
     exact ⟨by rw [hp]; simp [hi], kid hkk, hx.2.1 m (i + 1) (by omega) hxx⟩
  · obtain ⟨hp, _, _, hkk, hxx⟩ := h
    simp only at hp
    exact ⟨by rw [hp]; simp [hi], kid hkk, hx.1 m (i + 1) (by omega) hxx⟩
  · cases m with
    | zero => exact h.elim
    | succ m =>
     rw [List.replicate_succ] at h
     obtain ⟨hp, _, _, hkk, hxx⟩ := h
     simp only at hp
     exact ⟨by rw [hp]; simp, kid hkk, hx.2.2 m (i + 1) hxx⟩
theorem pre_of_wf {n : Nd} {k : Fo} (h : Wf (ds n) k) : PreOk (decide (n.op = 12)) 0 k := by
 have hk := pre_all k
 unfold ds at h
 by_cases h12 : n.op = 12
 · rw [if_pos h12] at h
   rw [decide_eq_true h12]
   exact hk.1 _ 0 rfl h
 · rw [if_neg h12] at h
   rw [decide_eq_false h12]
   exact hk.2.2 _ 0 h
theorem le_max_dec (m x y : Int) : decide (m ≤ max x y) = (decide (m ≤ x) || decide (m ≤ y)) := by
 rw [← Bool.decide_or]
 exact decide_eq_decide.2 (by omega)
theorem grtT_of {m a : Int} (hm : 0 ≤ m) {n : Nd} {k : Fo} (h1 : n.op = 1 → k = .nil) (ih : decide (m ≤ grt n.op n.b 0 a k) = exF (fun v z => decide (m ≤ v - z)) n.op n.b 0 a k) : decide (m ≤ grtT n k a) = exT (fun v z => decide (m ≤ v - z)) a n k := by
 unfold grtT exT
 by_cases h : n.op = 1
 · rw [if_pos h, h1 h, decide_eq_true h]
   simp only [exF, Bool.or_false, Bool.true_and]
   exact decide_eq_decide.2 (by omega)
 · rw [if_neg h, decide_eq_false h, ih]
   simp
theorem grt_ge {m : Int} (hm : 0 ≤ m) (pop pb : Int) : ∀ (j : Nat) (a : Int) (F : Fo), Vk F → decide (m ≤ grt pop pb j a F) = exF (fun v z => decide (m ≤ v - z)) pop pb j a F
 | _, _, .nil, _ => decide_eq_false (by simp only [grt]; omega)
 | j, a, .cons p n ats k x, h => by
  rw [grt_cons, exF_cons, le_max_dec, grt_ge hm pop pb (j + 1) a x h.2.2.2, grtT_of hm (fun q => (h.2.1 q).2) (grt_ge hm n.op n.b 0 _ k h.2.2.1)]
end
section
open Go.RowKit
section
variable {l : List Nd} {n : Nd} {ats : List Nd} {k : Fo}
theorem right_row (hs : shapeI l = 0) (hpp : pp [false] l = some (.cons [] n ats k .nil, [])) : okN n = true ∧ (n.op = 1 → ats = [] ∧ k = .nil) ∧ Vk k ∧ AllOk k ∧ PreOk (decide (n.op = 12)) 0 k ∧ l = n :: (ats ++ row k) ∧ l.length ≤ 4096 ∧ fsize k ≤ 4096 := by
 obtain ⟨hl, n', ats', k', hpp', hrow, hfs⟩ := shape_ok hs
 rw [hpp] at hpp'
 injection hpp' with e
 injection e with e1 _
 injection e1 with _ e2 e3 e4 _
 subst e2 e3 e4
 have hw := wf_of_pp hpp
 have hal := pp_allok hpp
 obtain ⟨_, hok, hat, hk, _⟩ := hw
 exact ⟨hok, vk_node hat hk, vk_of_wf _ _ hk, hal.2.1, pre_of_wf hk, hrow, hl, hfs⟩
theorem below_told (hs : shapeI l = 0) (hpp : pp [false] l = some (.cons [] n ats k .nil, [])) (v : Int) : belowB l v = (decide (grtT n k 0 < 0) || decide (grtT n k 0 < v)) := by
 obtain ⟨hok, hv, hk, _⟩ := right_row hs hpp
 have h := grtT_of (m := max v 0) (a := 0) (by omega) (fun q => (hv q).2) (grt_ge (by omega) n.op n.b 0 0 k hk)
 unfold belowB exR
 rw [hpp, decide_eq_true hs]
 simp only
 rw [← h, Bool.true_and, ← Bool.decide_or, ← decide_not]
 exact decide_eq_decide.2 (by omega)
end
end
section
open Go.RowKit
end
section
open Go.RowKit
end
section
open Go.RowKit
structure NxS (g : Nat) (A : Option Addr) (n c p j : Nat) (A1 : Option Addr) (k1 : Nat) (A2 : Option Addr) (k2 : Nat) (xs1 xs2 : List Value) (w : World) : Prop where
 bt : Blk w g 33 #[.slice A n c]
 bo : Blk w (g + 2) 48 #[.slice A1 j k1]
 br : Blk w (g + 3) 50 #[.slice A2 j k2]
 ba : Blk w (g + 4) 3 #[.int .i64 (p : Int)]
 own1 : w.ownsRow (g + 5) 33 1 (.slice A1 j k1) j xs1
 own2 : w.ownsRow (g + 5) 3 1 (.slice A2 j k2) j xs2
 off : ∀ b, (Value.slice A1 j k1).ownBlock = some b → (Value.slice A2 j k2).ownBlock ≠ some b
end
section
open Go.RowKit
end
section
open Go.RowKit
def CountPost (n : Nd) (w : World) (e : Ending) (w' : World) : Prop := (∃ k : Int, e = .returned (.tuple #[.int .i64 k, .bool (okN n)]) ∧ (okN n = true → k = nkI n.op n.b)) ∧ Below w.heap.size w w'
theorem countPost {n : Nd} {w w' : World} {k : Int} {b : Bool} (hb : b = okN n) (hk : okN n = true → k = nkI n.op n.b) (hw : Below w.heap.size w w') : CountPost n w (.returned (.tuple #[.int .i64 k, .bool b])) w' :=
 ⟨⟨k, by rw [hb], hk⟩, hw⟩
theorem within_q (n lo hi : Int) (w : World) (m : Nat) :
 Calls Try.prog 79 #[.int .i64 n, .int .i64 lo, .int .i64 hi] (w.drewN m) fun e w' => e = .returned (.bool (decide (lo ≤ n) && decide (n ≤ hi))) ∧ ∃ k, w' = w.drewN k :=
 (within_any n lo hi (w.drewN m)).mono fun _ _ ⟨h1, h2⟩ => ⟨h1, m, h2.symm⟩
theorem within_qt (n lo hi : Int) (w : World) (m : Nat) (h : lo ≤ n ∧ n ≤ hi) :
 Calls Try.prog 79 #[.int .i64 n, .int .i64 lo, .int .i64 hi] (w.drewN m) fun e w' => e = .returned (.bool true) ∧ ∃ k, w' = w.drewN k :=
 (within_q n lo hi w m).mono fun _ _ ⟨h1, h2⟩ => ⟨by rw [h1]; simp [h], h2⟩
theorem within_qf (n lo hi : Int) (w : World) (m : Nat) (h : ¬ (lo ≤ n ∧ n ≤ hi)) :
 Calls Try.prog 79 #[.int .i64 n, .int .i64 lo, .int .i64 hi] (w.drewN m) fun e w' => e = .returned (.bool false) ∧ ∃ k, w' = w.drewN k :=
 (within_q n lo hi w m).mono fun _ _ ⟨h1, h2⟩ => ⟨by rw [h1, ← Bool.decide_and, decide_eq_false h], h2⟩
theorem below_box_drewN (w : World) (o : Obj) (m : Nat) : Below w.heap.size w ((w.alloc o).drewN m) := below_drewN (below_alloc w o) m
theorem okN_iff (n : Nd) : okN n = true ↔ plainB n.op n.a n.b = true ∧ n.op ≠ 3 ∧ n.op ≠ 13 := by
 simp only [okN, Bool.and_eq_true, decide_eq_true_eq, and_assoc]
theorem okN_false_iff (n : Nd) : okN n = false ↔ ¬ (plainB n.op n.a n.b = true ∧ n.op ≠ 3 ∧ n.op ≠ 13) := by
 rw [← okN_iff]; simp
theorem count_1 (a b : Int) (w : World) :
 Calls Try.prog 78 #[.agg #[.int .i64 1, .int .i64 a, .int .i64 b]] w (CountPost ⟨1, a, b⟩ w) := by
 by_cases a0 : a = 0
 · have a0b : (a == 0) = true := by simp [a0]
   have A0 := Lib.hid a0
   clear a0
   by_cases ht : 0 ≤ a ∧ a ≤ 1048576
   · obtain ⟨hl, hh⟩ := ht
     go_enter Try.func78, Try.ntmps78
     go_wp2_with fail
     all_goals
      go_quiet ((go_at_call 79; first | exact within_qt _ _ _ _ _ (by omega) | exact within_qf _ _ _ _ _ (by omega) | exact within_q _ _ _ _ _))
      go_wp2_with fail
     all_goals
      have a0 := A0.out
      refine bodyPost_ret (results_tmp2 rfl _ _ _) rfl ?_
      refine countPost ?_ ?_ (by first | exact below_alloc _ _ | exact below_box_drewN _ _ _)
      · rw [Bool.eq_iff_iff, okN_iff, plainB_iff]; first | (simp; done) | (simp; omega) | (simp [IntKind.wrap_i64]; omega)
      · rw [okN_iff, plainB_iff]; first | (simp [nkI]; done) | (simp [nkI]; omega) | (simp [nkI, wrap64]; omega) | (simp [nkI, IntKind.wrap_i64]; omega)
   · have htb : (decide ((0 : Int) ≤ a) && decide (a ≤ 1048576)) = false := by rw [Bool.and_eq_false_iff, decide_eq_false_iff_not, decide_eq_false_iff_not]; omega
     have HT := Lib.hid ht
     go_enter Try.func78, Try.ntmps78
     go_wp2_with fail
     all_goals
      go_quiet ((go_at_call 79; first | exact within_qt _ _ _ _ _ (by omega) | exact within_qf _ _ _ _ _ (by omega) | exact within_q _ _ _ _ _))
      go_wp2_with fail
     all_goals
      have a0 := A0.out
      refine bodyPost_ret (results_tmp2 rfl _ _ _) rfl ?_
      refine countPost ?_ ?_ (by first | exact below_alloc _ _ | exact below_box_drewN _ _ _)
      · rw [Bool.eq_iff_iff, okN_iff, plainB_iff]; first | (simp; done) | (simp; omega) | (simp [IntKind.wrap_i64]; omega)
      · rw [okN_iff, plainB_iff]; first | (simp [nkI]; done) | (simp [nkI]; omega) | (simp [nkI, wrap64]; omega) | (simp [nkI, IntKind.wrap_i64]; omega)
 · have a0b : (a == 0) = false := by simp [a0]
   have A0 := Lib.hid a0
   clear a0
   by_cases ht : 0 ≤ a ∧ a ≤ 1048576
   · obtain ⟨hl, hh⟩ := ht
     go_enter Try.func78, Try.ntmps78
     go_wp2_with fail
     all_goals
      go_quiet ((go_at_call 79; first | exact within_qt _ _ _ _ _ (by omega) | exact within_qf _ _ _ _ _ (by omega) | exact within_q _ _ _ _ _))
      go_wp2_with fail
     all_goals
      have a0 := A0.out
      refine bodyPost_ret (results_tmp2 rfl _ _ _) rfl ?_
      refine countPost ?_ ?_ (by first | exact below_alloc _ _ | exact below_box_drewN _ _ _)
      · rw [Bool.eq_iff_iff, okN_iff, plainB_iff]; first | (simp; done) | (simp; omega) | (simp [IntKind.wrap_i64]; omega)
      · rw [okN_iff, plainB_iff]; first | (simp [nkI]; done) | (simp [nkI]; omega) | (simp [nkI, wrap64]; omega) | (simp [nkI, IntKind.wrap_i64]; omega)
   · have htb : (decide ((0 : Int) ≤ a) && decide (a ≤ 1048576)) = false := by rw [Bool.and_eq_false_iff, decide_eq_false_iff_not, decide_eq_false_iff_not]; omega
     have HT := Lib.hid ht
     go_enter Try.func78, Try.ntmps78
     go_wp2_with fail
     all_goals
      go_quiet ((go_at_call 79; first | exact within_qt _ _ _ _ _ (by omega) | exact within_qf _ _ _ _ _ (by omega) | exact within_q _ _ _ _ _))
      go_wp2_with fail
     all_goals
      have a0 := A0.out
      refine bodyPost_ret (results_tmp2 rfl _ _ _) rfl ?_
      refine countPost ?_ ?_ (by first | exact below_alloc _ _ | exact below_box_drewN _ _ _)
      · rw [Bool.eq_iff_iff, okN_iff, plainB_iff]; first | (simp; done) | (simp; omega) | (simp [IntKind.wrap_i64]; omega)
      · rw [okN_iff, plainB_iff]; first | (simp [nkI]; done) | (simp [nkI]; omega) | (simp [nkI, wrap64]; omega) | (simp [nkI, IntKind.wrap_i64]; omega)
theorem count_2 (a b : Int) (w : World) :
 Calls Try.prog 78 #[.agg #[.int .i64 2, .int .i64 a, .int .i64 b]] w (CountPost ⟨2, a, b⟩ w) := by
 by_cases a0 : a = 0
 · have a0b : (a == 0) = true := by simp [a0]
   have A0 := Lib.hid a0
   clear a0
   by_cases ht : 0 ≤ a ∧ a ≤ 1
   · obtain ⟨hl, hh⟩ := ht
     go_enter Try.func78, Try.ntmps78
     go_wp2_with (go_at_call 79; refine (within_any _ _ _ _).mono ?_; rintro e w2 ⟨rfl, rfl⟩)
     all_goals
      have a0 := A0.out
      refine bodyPost_ret (results_tmp2 rfl _ _ _) rfl ?_
      refine countPost ?_ ?_ (by first | exact below_alloc _ _ | exact below_box_drewN _ _ _)
      · rw [Bool.eq_iff_iff, okN_iff, plainB_iff]; first | (simp; done) | (simp; omega) | (simp [IntKind.wrap_i64]; omega)
      · rw [okN_iff, plainB_iff]; first | (simp [nkI]; done) | (simp [nkI]; omega) | (simp [nkI, wrap64]; omega) | (simp [nkI, IntKind.wrap_i64]; omega)
   · have htb : (decide ((0 : Int) ≤ a) && decide (a ≤ 1)) = false := by rw [Bool.and_eq_false_iff, decide_eq_false_iff_not, decide_eq_false_iff_not]; omega
     have HT := Lib.hid ht
     clear ht
     go_enter Try.func78, Try.ntmps78
     go_wp2_with (go_at_call 79; refine (within_any _ _ _ _).mono ?_; rintro e w2 ⟨rfl, rfl⟩)
     all_goals
      have a0 := A0.out
      have ht := HT.out
      refine bodyPost_ret (results_tmp2 rfl _ _ _) rfl ?_
      refine countPost ?_ ?_ (by first | exact below_alloc _ _ | exact below_box_drewN _ _ _)
      · rw [Bool.eq_iff_iff, okN_iff, plainB_iff]; first | (simp; done) | (simp; omega) | (simp [IntKind.wrap_i64]; omega)
      · rw [okN_iff, plainB_iff]; first | (simp [nkI]; done) | (simp [nkI]; omega) | (simp [nkI, wrap64]; omega) | (simp [nkI, IntKind.wrap_i64]; omega)
 · have a0b : (a == 0) = false := by simp [a0]
   have A0 := Lib.hid a0
   clear a0
   by_cases ht : 0 ≤ a ∧ a ≤ 1
   · obtain ⟨hl, hh⟩ := ht
     go_enter Try.func78, Try.ntmps78
     go_wp2_with (go_at_call 79; refine (within_any _ _ _ _).mono ?_; rintro e w2 ⟨rfl, rfl⟩)
     all_goals
      have a0 := A0.out
      refine bodyPost_ret (results_tmp2 rfl _ _ _) rfl ?_
      refine countPost ?_ ?_ (by first | exact below_alloc _ _ | exact below_box_drewN _ _ _)
      · rw [Bool.eq_iff_iff, okN_iff, plainB_iff]; first | (simp; done) | (simp; omega) | (simp [IntKind.wrap_i64]; omega)
      · rw [okN_iff, plainB_iff]; first | (simp [nkI]; done) | (simp [nkI]; omega) | (simp [nkI, wrap64]; omega) | (simp [nkI, IntKind.wrap_i64]; omega)
   · have htb : (decide ((0 : Int) ≤ a) && decide (a ≤ 1)) = false := by rw [Bool.and_eq_false_iff, decide_eq_false_iff_not, decide_eq_false_iff_not]; omega
     have HT := Lib.hid ht
     clear ht
     go_enter Try.func78, Try.ntmps78
     go_wp2_with (go_at_call 79; refine (within_any _ _ _ _).mono ?_; rintro e w2 ⟨rfl, rfl⟩)
     all_goals
      have a0 := A0.out
      have ht := HT.out
      refine bodyPost_ret (results_tmp2 rfl _ _ _) rfl ?_
      refine countPost ?_ ?_ (by first | exact below_alloc _ _ | exact below_box_drewN _ _ _)
      · rw [Bool.eq_iff_iff, okN_iff, plainB_iff]; first | (simp; done) | (simp; omega) | (simp [IntKind.wrap_i64]; omega)
      · rw [okN_iff, plainB_iff]; first | (simp [nkI]; done) | (simp [nkI]; omega) | (simp [nkI, wrap64]; omega) | (simp [nkI, IntKind.wrap_i64]; omega)
theorem count_4 (a b : Int) (w : World) :
 Calls Try.prog 78 #[.agg #[.int .i64 4, .int .i64 a, .int .i64 b]] w (CountPost ⟨4, a, b⟩ w) := by
 by_cases h1 : a = 0
 · have h2 : (a == 0) = true := by simp [h1]
   have H1 := Lib.hid h1
   clear h1
   go_enter Try.func78, Try.ntmps78
   go_wp2
   all_goals
    have h1 := H1.out
    refine bodyPost_ret (results_tmp2 rfl _ _ _) rfl ?_
    refine countPost ?_ ?_ (by first | exact below_alloc _ _ | exact below_box_drewN _ _ _)
    · rw [Bool.eq_iff_iff, okN_iff, plainB_iff]; first | (simp; done) | (simp; omega) | (simp [IntKind.wrap_i64]; omega)
    · rw [okN_iff, plainB_iff]; first | (simp [nkI]; done) | (simp [nkI]; omega) | (simp [nkI, wrap64]; omega) | (simp [nkI, IntKind.wrap_i64]; omega)
 · have h2 : (a == 0) = false := by simp [h1]
   have H1 := Lib.hid h1
   clear h1
   go_enter Try.func78, Try.ntmps78
   go_wp2
   all_goals
    have h1 := H1.out
    refine bodyPost_ret (results_tmp2 rfl _ _ _) rfl ?_
    refine countPost ?_ ?_ (by first | exact below_alloc _ _ | exact below_box_drewN _ _ _)
    · rw [Bool.eq_iff_iff, okN_iff, plainB_iff]; first | (simp; done) | (simp; omega) | (simp [IntKind.wrap_i64]; omega)
    · rw [okN_iff, plainB_iff]; first | (simp [nkI]; done) | (simp [nkI]; omega) | (simp [nkI, wrap64]; omega) | (simp [nkI, IntKind.wrap_i64]; omega)
theorem count_5 (a b : Int) (w : World) :
 Calls Try.prog 78 #[.agg #[.int .i64 5, .int .i64 a, .int .i64 b]] w (CountPost ⟨5, a, b⟩ w) := by
 by_cases h1 : a = 0
 · have h2 : (a == 0) = true := by simp [h1]
   have H1 := Lib.hid h1
   clear h1
   go_enter Try.func78, Try.ntmps78
   go_wp2
   all_goals
    have h1 := H1.out
    refine bodyPost_ret (results_tmp2 rfl _ _ _) rfl ?_
    refine countPost ?_ ?_ (by first | exact below_alloc _ _ | exact below_box_drewN _ _ _)
    · rw [Bool.eq_iff_iff, okN_iff, plainB_iff]; first | (simp; done) | (simp; omega) | (simp [IntKind.wrap_i64]; omega)
    · rw [okN_iff, plainB_iff]; first | (simp [nkI]; done) | (simp [nkI]; omega) | (simp [nkI, wrap64]; omega) | (simp [nkI, IntKind.wrap_i64]; omega)
 · have h2 : (a == 0) = false := by simp [h1]
   have H1 := Lib.hid h1
   clear h1
   go_enter Try.func78, Try.ntmps78
   go_wp2
   all_goals
    have h1 := H1.out
    refine bodyPost_ret (results_tmp2 rfl _ _ _) rfl ?_
    refine countPost ?_ ?_ (by first | exact below_alloc _ _ | exact below_box_drewN _ _ _)
    · rw [Bool.eq_iff_iff, okN_iff, plainB_iff]; first | (simp; done) | (simp; omega) | (simp [IntKind.wrap_i64]; omega)
    · rw [okN_iff, plainB_iff]; first | (simp [nkI]; done) | (simp [nkI]; omega) | (simp [nkI, wrap64]; omega) | (simp [nkI, IntKind.wrap_i64]; omega)
theorem count_6 (a b : Int) (w : World) :
 Calls Try.prog 78 #[.agg #[.int .i64 6, .int .i64 a, .int .i64 b]] w (CountPost ⟨6, a, b⟩ w) := by
 by_cases h1 : a = 0
 · have h2 : (a == 0) = true := by simp [h1]
   have H1 := Lib.hid h1
   clear h1
   go_enter Try.func78, Try.ntmps78
   go_wp2
   all_goals
    have h1 := H1.out
    refine bodyPost_ret (results_tmp2 rfl _ _ _) rfl ?_
    refine countPost ?_ ?_ (by first | exact below_alloc _ _ | exact below_box_drewN _ _ _)
    · rw [Bool.eq_iff_iff, okN_iff, plainB_iff]; first | (simp; done) | (simp; omega) | (simp [IntKind.wrap_i64]; omega)
    · rw [okN_iff, plainB_iff]; first | (simp [nkI]; done) | (simp [nkI]; omega) | (simp [nkI, wrap64]; omega) | (simp [nkI, IntKind.wrap_i64]; omega)
 · have h2 : (a == 0) = false := by simp [h1]
   have H1 := Lib.hid h1
   clear h1
   go_enter Try.func78, Try.ntmps78
   go_wp2
   all_goals
    have h1 := H1.out
    refine bodyPost_ret (results_tmp2 rfl _ _ _) rfl ?_
    refine countPost ?_ ?_ (by first | exact below_alloc _ _ | exact below_box_drewN _ _ _)
    · rw [Bool.eq_iff_iff, okN_iff, plainB_iff]; first | (simp; done) | (simp; omega) | (simp [IntKind.wrap_i64]; omega)
    · rw [okN_iff, plainB_iff]; first | (simp [nkI]; done) | (simp [nkI]; omega) | (simp [nkI, wrap64]; omega) | (simp [nkI, IntKind.wrap_i64]; omega)
theorem count_7 (a b : Int) (w : World) :
 Calls Try.prog 78 #[.agg #[.int .i64 7, .int .i64 a, .int .i64 b]] w (CountPost ⟨7, a, b⟩ w) := by
 by_cases h1 : a = 0
 · have h2 : (a == 0) = true := by simp [h1]
   have H1 := Lib.hid h1
   clear h1
   go_enter Try.func78, Try.ntmps78
   go_wp2
   all_goals
    have h1 := H1.out
    refine bodyPost_ret (results_tmp2 rfl _ _ _) rfl ?_
    refine countPost ?_ ?_ (by first | exact below_alloc _ _ | exact below_box_drewN _ _ _)
    · rw [Bool.eq_iff_iff, okN_iff, plainB_iff]; first | (simp; done) | (simp; omega) | (simp [IntKind.wrap_i64]; omega)
    · rw [okN_iff, plainB_iff]; first | (simp [nkI]; done) | (simp [nkI]; omega) | (simp [nkI, wrap64]; omega) | (simp [nkI, IntKind.wrap_i64]; omega)
 · have h2 : (a == 0) = false := by simp [h1]
   have H1 := Lib.hid h1
   clear h1
   go_enter Try.func78, Try.ntmps78
   go_wp2
   all_goals
    have h1 := H1.out
    refine bodyPost_ret (results_tmp2 rfl _ _ _) rfl ?_
    refine countPost ?_ ?_ (by first | exact below_alloc _ _ | exact below_box_drewN _ _ _)
    · rw [Bool.eq_iff_iff, okN_iff, plainB_iff]; first | (simp; done) | (simp; omega) | (simp [IntKind.wrap_i64]; omega)
    · rw [okN_iff, plainB_iff]; first | (simp [nkI]; done) | (simp [nkI]; omega) | (simp [nkI, wrap64]; omega) | (simp [nkI, IntKind.wrap_i64]; omega)
theorem count_8 (a b : Int) (w : World) :
 Calls Try.prog 78 #[.agg #[.int .i64 8, .int .i64 a, .int .i64 b]] w (CountPost ⟨8, a, b⟩ w) := by
 by_cases a0 : a = 0
 · have a0b : (a == 0) = true := by simp [a0]
   have A0 := Lib.hid a0
   clear a0
   by_cases ht : 0 ≤ a ∧ a ≤ 63
   · obtain ⟨hl, hh⟩ := ht
     go_enter Try.func78, Try.ntmps78
     go_wp2_with fail
     all_goals
      go_quiet ((go_at_call 79; first | exact within_qt _ _ _ _ _ (by omega) | exact within_qf _ _ _ _ _ (by omega) | exact within_q _ _ _ _ _))
      go_wp2_with fail
     all_goals
      have a0 := A0.out
      refine bodyPost_ret (results_tmp2 rfl _ _ _) rfl ?_
      refine countPost ?_ ?_ (by first | exact below_alloc _ _ | exact below_box_drewN _ _ _)
      · rw [Bool.eq_iff_iff, okN_iff, plainB_iff]; first | (simp; done) | (simp; omega) | (simp [IntKind.wrap_i64]; omega)
      · rw [okN_iff, plainB_iff]; first | (simp [nkI]; done) | (simp [nkI]; omega) | (simp [nkI, wrap64]; omega) | (simp [nkI, IntKind.wrap_i64]; omega)
   · have htb : (decide ((0 : Int) ≤ a) && decide (a ≤ 63)) = false := by rw [Bool.and_eq_false_iff, decide_eq_false_iff_not, decide_eq_false_iff_not]; omega
     have HT := Lib.hid ht
     go_enter Try.func78, Try.ntmps78
     go_wp2_with fail
     all_goals
      go_quiet ((go_at_call 79; first | exact within_qt _ _ _ _ _ (by omega) | exact within_qf _ _ _ _ _ (by omega) | exact within_q _ _ _ _ _))
      go_wp2_with fail
     all_goals
      have a0 := A0.out
      refine bodyPost_ret (results_tmp2 rfl _ _ _) rfl ?_
      refine countPost ?_ ?_ (by first | exact below_alloc _ _ | exact below_box_drewN _ _ _)
      · rw [Bool.eq_iff_iff, okN_iff, plainB_iff]; first | (simp; done) | (simp; omega) | (simp [IntKind.wrap_i64]; omega)
      · rw [okN_iff, plainB_iff]; first | (simp [nkI]; done) | (simp [nkI]; omega) | (simp [nkI, wrap64]; omega) | (simp [nkI, IntKind.wrap_i64]; omega)
 · have a0b : (a == 0) = false := by simp [a0]
   have A0 := Lib.hid a0
   clear a0
   by_cases ht : 0 ≤ a ∧ a ≤ 63
   · obtain ⟨hl, hh⟩ := ht
     go_enter Try.func78, Try.ntmps78
     go_wp2_with fail
     all_goals
      go_quiet ((go_at_call 79; first | exact within_qt _ _ _ _ _ (by omega) | exact within_qf _ _ _ _ _ (by omega) | exact within_q _ _ _ _ _))
      go_wp2_with fail
     all_goals
      have a0 := A0.out
      refine bodyPost_ret (results_tmp2 rfl _ _ _) rfl ?_
      refine countPost ?_ ?_ (by first | exact below_alloc _ _ | exact below_box_drewN _ _ _)
      · rw [Bool.eq_iff_iff, okN_iff, plainB_iff]; first | (simp; done) | (simp; omega) | (simp [IntKind.wrap_i64]; omega)
      · rw [okN_iff, plainB_iff]; first | (simp [nkI]; done) | (simp [nkI]; omega) | (simp [nkI, wrap64]; omega) | (simp [nkI, IntKind.wrap_i64]; omega)
   · have htb : (decide ((0 : Int) ≤ a) && decide (a ≤ 63)) = false := by rw [Bool.and_eq_false_iff, decide_eq_false_iff_not, decide_eq_false_iff_not]; omega
     have HT := Lib.hid ht
     go_enter Try.func78, Try.ntmps78
     go_wp2_with fail
     all_goals
      go_quiet ((go_at_call 79; first | exact within_qt _ _ _ _ _ (by omega) | exact within_qf _ _ _ _ _ (by omega) | exact within_q _ _ _ _ _))
      go_wp2_with fail
     all_goals
      have a0 := A0.out
      refine bodyPost_ret (results_tmp2 rfl _ _ _) rfl ?_
      refine countPost ?_ ?_ (by first | exact below_alloc _ _ | exact below_box_drewN _ _ _)
      · rw [Bool.eq_iff_iff, okN_iff, plainB_iff]; first | (simp; done) | (simp; omega) | (simp [IntKind.wrap_i64]; omega)
      · rw [okN_iff, plainB_iff]; first | (simp [nkI]; done) | (simp [nkI]; omega) | (simp [nkI, wrap64]; omega) | (simp [nkI, IntKind.wrap_i64]; omega)
theorem count_9 (a b : Int) (w : World) :
 Calls Try.prog 78 #[.agg #[.int .i64 9, .int .i64 a, .int .i64 b]] w (CountPost ⟨9, a, b⟩ w) := by
 by_cases a0 : a = 0
 · have a0b : (a == 0) = true := by simp [a0]
   have A0 := Lib.hid a0
   clear a0
   by_cases ht : 0 ≤ a ∧ a ≤ 63
   · obtain ⟨hl, hh⟩ := ht
     go_enter Try.func78, Try.ntmps78
     go_wp2_with fail
     all_goals
      go_quiet ((go_at_call 79; first | exact within_qt _ _ _ _ _ (by omega) | exact within_qf _ _ _ _ _ (by omega) | exact within_q _ _ _ _ _))
      go_wp2_with fail
     all_goals
      have a0 := A0.out
      refine bodyPost_ret (results_tmp2 rfl _ _ _) rfl ?_
      refine countPost ?_ ?_ (by first | exact below_alloc _ _ | exact below_box_drewN _ _ _)
      · rw [Bool.eq_iff_iff, okN_iff, plainB_iff]; first | (simp; done) | (simp; omega) | (simp [IntKind.wrap_i64]; omega)
      · rw [okN_iff, plainB_iff]; first | (simp [nkI]; done) | (simp [nkI]; omega) | (simp [nkI, wrap64]; omega) | (simp [nkI, IntKind.wrap_i64]; omega)
   · have htb : (decide ((0 : Int) ≤ a) && decide (a ≤ 63)) = false := by rw [Bool.and_eq_false_iff, decide_eq_false_iff_not, decide_eq_false_iff_not]; omega
     have HT := Lib.hid ht
     go_enter Try.func78, Try.ntmps78
     go_wp2_with fail
     all_goals
      go_quiet ((go_at_call 79; first | exact within_qt _ _ _ _ _ (by omega) | exact within_qf _ _ _ _ _ (by omega) | exact within_q _ _ _ _ _))
      go_wp2_with fail
     all_goals
      have a0 := A0.out
      refine bodyPost_ret (results_tmp2 rfl _ _ _) rfl ?_
      refine countPost ?_ ?_ (by first | exact below_alloc _ _ | exact below_box_drewN _ _ _)
      · rw [Bool.eq_iff_iff, okN_iff, plainB_iff]; first | (simp; done) | (simp; omega) | (simp [IntKind.wrap_i64]; omega)
      · rw [okN_iff, plainB_iff]; first | (simp [nkI]; done) | (simp [nkI]; omega) | (simp [nkI, wrap64]; omega) | (simp [nkI, IntKind.wrap_i64]; omega)
 · have a0b : (a == 0) = false := by simp [a0]
   have A0 := Lib.hid a0
   clear a0
   by_cases ht : 0 ≤ a ∧ a ≤ 63
   · obtain ⟨hl, hh⟩ := ht
     go_enter Try.func78, Try.ntmps78
     go_wp2_with fail
     all_goals
      go_quiet ((go_at_call 79; first | exact within_qt _ _ _ _ _ (by omega) | exact within_qf _ _ _ _ _ (by omega) | exact within_q _ _ _ _ _))
      go_wp2_with fail
     all_goals
      have a0 := A0.out
      refine bodyPost_ret (results_tmp2 rfl _ _ _) rfl ?_
      refine countPost ?_ ?_ (by first | exact below_alloc _ _ | exact below_box_drewN _ _ _)
      · rw [Bool.eq_iff_iff, okN_iff, plainB_iff]; first | (simp; done) | (simp; omega) | (simp [IntKind.wrap_i64]; omega)
      · rw [okN_iff, plainB_iff]; first | (simp [nkI]; done) | (simp [nkI]; omega) | (simp [nkI, wrap64]; omega) | (simp [nkI, IntKind.wrap_i64]; omega)
   · have htb : (decide ((0 : Int) ≤ a) && decide (a ≤ 63)) = false := by rw [Bool.and_eq_false_iff, decide_eq_false_iff_not, decide_eq_false_iff_not]; omega
     have HT := Lib.hid ht
     go_enter Try.func78, Try.ntmps78
     go_wp2_with fail
     all_goals
      go_quiet ((go_at_call 79; first | exact within_qt _ _ _ _ _ (by omega) | exact within_qf _ _ _ _ _ (by omega) | exact within_q _ _ _ _ _))
      go_wp2_with fail
     all_goals
      have a0 := A0.out
      refine bodyPost_ret (results_tmp2 rfl _ _ _) rfl ?_
      refine countPost ?_ ?_ (by first | exact below_alloc _ _ | exact below_box_drewN _ _ _)
      · rw [Bool.eq_iff_iff, okN_iff, plainB_iff]; first | (simp; done) | (simp; omega) | (simp [IntKind.wrap_i64]; omega)
      · rw [okN_iff, plainB_iff]; first | (simp [nkI]; done) | (simp [nkI]; omega) | (simp [nkI, wrap64]; omega) | (simp [nkI, IntKind.wrap_i64]; omega)
theorem count_10 (a b : Int) (w : World) :
 Calls Try.prog 78 #[.agg #[.int .i64 10, .int .i64 a, .int .i64 b]] w (CountPost ⟨10, a, b⟩ w) := by
 by_cases a0 : a = 0
 · have a0b : (a == 0) = true := by simp [a0]
   have A0 := Lib.hid a0
   clear a0
   by_cases ht : 0 ≤ a ∧ a ≤ 63
   · obtain ⟨hl, hh⟩ := ht
     go_enter Try.func78, Try.ntmps78
     go_wp2_with (go_at_call 79; refine (within_any _ _ _ _).mono ?_; rintro e w2 ⟨rfl, rfl⟩)
     all_goals
      have a0 := A0.out
      refine bodyPost_ret (results_tmp2 rfl _ _ _) rfl ?_
      refine countPost ?_ ?_ (by first | exact below_alloc _ _ | exact below_box_drewN _ _ _)
      · rw [Bool.eq_iff_iff, okN_iff, plainB_iff]; first | (simp; done) | (simp; omega) | (simp [IntKind.wrap_i64]; omega)
      · rw [okN_iff, plainB_iff]; first | (simp [nkI]; done) | (simp [nkI]; omega) | (simp [nkI, wrap64]; omega) | (simp [nkI, IntKind.wrap_i64]; omega)
   · have htb : (decide ((0 : Int) ≤ a) && decide (a ≤ 63)) = false := by rw [Bool.and_eq_false_iff, decide_eq_false_iff_not, decide_eq_false_iff_not]; omega
     have HT := Lib.hid ht
     clear ht
     go_enter Try.func78, Try.ntmps78
     go_wp2_with (go_at_call 79; refine (within_any _ _ _ _).mono ?_; rintro e w2 ⟨rfl, rfl⟩)
     all_goals
      have a0 := A0.out
      have ht := HT.out
      refine bodyPost_ret (results_tmp2 rfl _ _ _) rfl ?_
      refine countPost ?_ ?_ (by first | exact below_alloc _ _ | exact below_box_drewN _ _ _)
      · rw [Bool.eq_iff_iff, okN_iff, plainB_iff]; first | (simp; done) | (simp; omega) | (simp [IntKind.wrap_i64]; omega)
      · rw [okN_iff, plainB_iff]; first | (simp [nkI]; done) | (simp [nkI]; omega) | (simp [nkI, wrap64]; omega) | (simp [nkI, IntKind.wrap_i64]; omega)
 · have a0b : (a == 0) = false := by simp [a0]
   have A0 := Lib.hid a0
   clear a0
   by_cases ht : 0 ≤ a ∧ a ≤ 63
   · obtain ⟨hl, hh⟩ := ht
     go_enter Try.func78, Try.ntmps78
     go_wp2_with (go_at_call 79; refine (within_any _ _ _ _).mono ?_; rintro e w2 ⟨rfl, rfl⟩)
     all_goals
      have a0 := A0.out
      refine bodyPost_ret (results_tmp2 rfl _ _ _) rfl ?_
      refine countPost ?_ ?_ (by first | exact below_alloc _ _ | exact below_box_drewN _ _ _)
      · rw [Bool.eq_iff_iff, okN_iff, plainB_iff]; first | (simp; done) | (simp; omega) | (simp [IntKind.wrap_i64]; omega)
      · rw [okN_iff, plainB_iff]; first | (simp [nkI]; done) | (simp [nkI]; omega) | (simp [nkI, wrap64]; omega) | (simp [nkI, IntKind.wrap_i64]; omega)
   · have htb : (decide ((0 : Int) ≤ a) && decide (a ≤ 63)) = false := by rw [Bool.and_eq_false_iff, decide_eq_false_iff_not, decide_eq_false_iff_not]; omega
     have HT := Lib.hid ht
     clear ht
     go_enter Try.func78, Try.ntmps78
     go_wp2_with (go_at_call 79; refine (within_any _ _ _ _).mono ?_; rintro e w2 ⟨rfl, rfl⟩)
     all_goals
      have a0 := A0.out
      have ht := HT.out
      refine bodyPost_ret (results_tmp2 rfl _ _ _) rfl ?_
      refine countPost ?_ ?_ (by first | exact below_alloc _ _ | exact below_box_drewN _ _ _)
      · rw [Bool.eq_iff_iff, okN_iff, plainB_iff]; first | (simp; done) | (simp; omega) | (simp [IntKind.wrap_i64]; omega)
      · rw [okN_iff, plainB_iff]; first | (simp [nkI]; done) | (simp [nkI]; omega) | (simp [nkI, wrap64]; omega) | (simp [nkI, IntKind.wrap_i64]; omega)
theorem count_11 (a b : Int) (w : World) :
 Calls Try.prog 78 #[.agg #[.int .i64 11, .int .i64 a, .int .i64 b]] w (CountPost ⟨11, a, b⟩ w) := by
 by_cases a0 : a = 0
 · have a0b : (a == 0) = true := by simp [a0]
   have A0 := Lib.hid a0
   clear a0
   by_cases ht : 0 ≤ a ∧ a ≤ 63
   · obtain ⟨hl, hh⟩ := ht
     go_enter Try.func78, Try.ntmps78
     go_wp2_with fail
     all_goals
      go_quiet ((go_at_call 79; first | exact within_qt _ _ _ _ _ (by omega) | exact within_qf _ _ _ _ _ (by omega) | exact within_q _ _ _ _ _))
      go_wp2_with fail
     all_goals
      have a0 := A0.out
      refine bodyPost_ret (results_tmp2 rfl _ _ _) rfl ?_
      refine countPost ?_ ?_ (by first | exact below_alloc _ _ | exact below_box_drewN _ _ _)
      · rw [Bool.eq_iff_iff, okN_iff, plainB_iff]; first | (simp; done) | (simp; omega) | (simp [IntKind.wrap_i64]; omega)
      · rw [okN_iff, plainB_iff]; first | (simp [nkI]; done) | (simp [nkI]; omega) | (simp [nkI, wrap64]; omega) | (simp [nkI, IntKind.wrap_i64]; omega)
   · have htb : (decide ((0 : Int) ≤ a) && decide (a ≤ 63)) = false := by rw [Bool.and_eq_false_iff, decide_eq_false_iff_not, decide_eq_false_iff_not]; omega
     have HT := Lib.hid ht
     go_enter Try.func78, Try.ntmps78
     go_wp2_with fail
     all_goals
      go_quiet ((go_at_call 79; first | exact within_qt _ _ _ _ _ (by omega) | exact within_qf _ _ _ _ _ (by omega) | exact within_q _ _ _ _ _))
      go_wp2_with fail
     all_goals
      have a0 := A0.out
      refine bodyPost_ret (results_tmp2 rfl _ _ _) rfl ?_
      refine countPost ?_ ?_ (by first | exact below_alloc _ _ | exact below_box_drewN _ _ _)
      · rw [Bool.eq_iff_iff, okN_iff, plainB_iff]; first | (simp; done) | (simp; omega) | (simp [IntKind.wrap_i64]; omega)
      · rw [okN_iff, plainB_iff]; first | (simp [nkI]; done) | (simp [nkI]; omega) | (simp [nkI, wrap64]; omega) | (simp [nkI, IntKind.wrap_i64]; omega)
 · have a0b : (a == 0) = false := by simp [a0]
   have A0 := Lib.hid a0
   clear a0
   by_cases ht : 0 ≤ a ∧ a ≤ 63
   · obtain ⟨hl, hh⟩ := ht
     go_enter Try.func78, Try.ntmps78
     go_wp2_with fail
     all_goals
      go_quiet ((go_at_call 79; first | exact within_qt _ _ _ _ _ (by omega) | exact within_qf _ _ _ _ _ (by omega) | exact within_q _ _ _ _ _))
      go_wp2_with fail
     all_goals
      have a0 := A0.out
      refine bodyPost_ret (results_tmp2 rfl _ _ _) rfl ?_
      refine countPost ?_ ?_ (by first | exact below_alloc _ _ | exact below_box_drewN _ _ _)
      · rw [Bool.eq_iff_iff, okN_iff, plainB_iff]; first | (simp; done) | (simp; omega) | (simp [IntKind.wrap_i64]; omega)
      · rw [okN_iff, plainB_iff]; first | (simp [nkI]; done) | (simp [nkI]; omega) | (simp [nkI, wrap64]; omega) | (simp [nkI, IntKind.wrap_i64]; omega)
   · have htb : (decide ((0 : Int) ≤ a) && decide (a ≤ 63)) = false := by rw [Bool.and_eq_false_iff, decide_eq_false_iff_not, decide_eq_false_iff_not]; omega
     have HT := Lib.hid ht
     go_enter Try.func78, Try.ntmps78
     go_wp2_with fail
     all_goals
      go_quiet ((go_at_call 79; first | exact within_qt _ _ _ _ _ (by omega) | exact within_qf _ _ _ _ _ (by omega) | exact within_q _ _ _ _ _))
      go_wp2_with fail
     all_goals
      have a0 := A0.out
      refine bodyPost_ret (results_tmp2 rfl _ _ _) rfl ?_
      refine countPost ?_ ?_ (by first | exact below_alloc _ _ | exact below_box_drewN _ _ _)
      · rw [Bool.eq_iff_iff, okN_iff, plainB_iff]; first | (simp; done) | (simp; omega) | (simp [IntKind.wrap_i64]; omega)
      · rw [okN_iff, plainB_iff]; first | (simp [nkI]; done) | (simp [nkI]; omega) | (simp [nkI, wrap64]; omega) | (simp [nkI, IntKind.wrap_i64]; omega)
theorem count_12 (a b : Int) (w : World) :
 Calls Try.prog 78 #[.agg #[.int .i64 12, .int .i64 a, .int .i64 b]] w (CountPost ⟨12, a, b⟩ w) := by
 by_cases a0 : a = 0
 · have a0b : (a == 0) = true := by simp [a0]
   have A0 := Lib.hid a0
   clear a0
   by_cases ht : 1 ≤ b ∧ b ≤ 4
   · obtain ⟨hl, hh⟩ := ht
     go_enter Try.func78, Try.ntmps78
     go_wp2_with fail
     all_goals
      go_quiet ((go_at_call 79; first | exact within_qt _ _ _ _ _ (by omega) | exact within_qf _ _ _ _ _ (by omega) | exact within_q _ _ _ _ _))
      go_wp2_with fail
     all_goals
      have a0 := A0.out
      refine bodyPost_ret (results_tmp2 rfl _ _ _) rfl ?_
      refine countPost ?_ ?_ (by first | exact below_alloc _ _ | exact below_box_drewN _ _ _)
      · rw [Bool.eq_iff_iff, okN_iff, plainB_iff]; first | (simp; done) | (simp; omega) | (simp [IntKind.wrap_i64]; omega)
      · rw [okN_iff, plainB_iff]; first | (simp [nkI]; done) | (simp [nkI]; omega) | (simp [nkI, wrap64]; omega) | (simp [nkI, IntKind.wrap_i64]; omega)
   · have htb : (decide ((1 : Int) ≤ b) && decide (b ≤ 4)) = false := by rw [Bool.and_eq_false_iff, decide_eq_false_iff_not, decide_eq_false_iff_not]; omega
     have HT := Lib.hid ht
     go_enter Try.func78, Try.ntmps78
     go_wp2_with fail
     all_goals
      go_quiet ((go_at_call 79; first | exact within_qt _ _ _ _ _ (by omega) | exact within_qf _ _ _ _ _ (by omega) | exact within_q _ _ _ _ _))
      go_wp2_with fail
     all_goals
      have a0 := A0.out
      refine bodyPost_ret (results_tmp2 rfl _ _ _) rfl ?_
      refine countPost ?_ ?_ (by first | exact below_alloc _ _ | exact below_box_drewN _ _ _)
      · rw [Bool.eq_iff_iff, okN_iff, plainB_iff]; first | (simp; done) | (simp; omega) | (simp [IntKind.wrap_i64]; omega)
      · rw [okN_iff, plainB_iff]; first | (simp [nkI]; done) | (simp [nkI]; omega) | (simp [nkI, wrap64]; omega) | (simp [nkI, IntKind.wrap_i64]; omega)
 · have a0b : (a == 0) = false := by simp [a0]
   have A0 := Lib.hid a0
   clear a0
   by_cases ht : 1 ≤ b ∧ b ≤ 4
   · obtain ⟨hl, hh⟩ := ht
     go_enter Try.func78, Try.ntmps78
     go_wp2_with fail
     all_goals
      go_quiet ((go_at_call 79; first | exact within_qt _ _ _ _ _ (by omega) | exact within_qf _ _ _ _ _ (by omega) | exact within_q _ _ _ _ _))
      go_wp2_with fail
     all_goals
      have a0 := A0.out
      refine bodyPost_ret (results_tmp2 rfl _ _ _) rfl ?_
      refine countPost ?_ ?_ (by first | exact below_alloc _ _ | exact below_box_drewN _ _ _)
      · rw [Bool.eq_iff_iff, okN_iff, plainB_iff]; first | (simp; done) | (simp; omega) | (simp [IntKind.wrap_i64]; omega)
      · rw [okN_iff, plainB_iff]; first | (simp [nkI]; done) | (simp [nkI]; omega) | (simp [nkI, wrap64]; omega) | (simp [nkI, IntKind.wrap_i64]; omega)
   · have htb : (decide ((1 : Int) ≤ b) && decide (b ≤ 4)) = false := by rw [Bool.and_eq_false_iff, decide_eq_false_iff_not, decide_eq_false_iff_not]; omega
     have HT := Lib.hid ht
     go_enter Try.func78, Try.ntmps78
     go_wp2_with fail
     all_goals
      go_quiet ((go_at_call 79; first | exact within_qt _ _ _ _ _ (by omega) | exact within_qf _ _ _ _ _ (by omega) | exact within_q _ _ _ _ _))
      go_wp2_with fail
     all_goals
      have a0 := A0.out
      refine bodyPost_ret (results_tmp2 rfl _ _ _) rfl ?_
      refine countPost ?_ ?_ (by first | exact below_alloc _ _ | exact below_box_drewN _ _ _)
      · rw [Bool.eq_iff_iff, okN_iff, plainB_iff]; first | (simp; done) | (simp; omega) | (simp [IntKind.wrap_i64]; omega)
      · rw [okN_iff, plainB_iff]; first | (simp [nkI]; done) | (simp [nkI]; omega) | (simp [nkI, wrap64]; omega) | (simp [nkI, IntKind.wrap_i64]; omega)
theorem count_bad (op a b : Int) (w : World) (hop : ¬ (1 ≤ op ∧ op ≤ 12 ∧ op ≠ 3)) :
 Calls Try.prog 78 #[.agg #[.int .i64 op, .int .i64 a, .int .i64 b]] w (CountPost ⟨op, a, b⟩ w) := by
 have b1 : (op == 1) = false := beq_eq_false_iff_ne.2 (by omega)
 have b2 : (op == 2) = false := beq_eq_false_iff_ne.2 (by omega)
 have b4 : (op == 4) = false := beq_eq_false_iff_ne.2 (by omega)
 have b5 : (op == 5) = false := beq_eq_false_iff_ne.2 (by omega)
 have b6 : (op == 6) = false := beq_eq_false_iff_ne.2 (by omega)
 have b7 : (op == 7) = false := beq_eq_false_iff_ne.2 (by omega)
 have b8 : (op == 8) = false := beq_eq_false_iff_ne.2 (by omega)
 have b9 : (op == 9) = false := beq_eq_false_iff_ne.2 (by omega)
 have b10 : (op == 10) = false := beq_eq_false_iff_ne.2 (by omega)
 have b11 : (op == 11) = false := beq_eq_false_iff_ne.2 (by omega)
 have b12 : (op == 12) = false := beq_eq_false_iff_ne.2 (by omega)
 have HOP := Lib.hid hop
 clear hop
 by_cases a0 : a = 0
 · have a0b : (a == 0) = true := by simp [a0]
   clear a0
   go_enter Try.func78, Try.ntmps78
   go_wp2_with fail
   all_goals
    refine bodyPost_ret (results_tmp2 rfl _ _ _) rfl ?_
    refine countPost ?_ ?_ (below_alloc _ _)
    · have hop := HOP.out
      symm
      rw [okN_false_iff, plainB_iff]; dsimp only; omega
    · have hop := HOP.out
      rw [okN_iff, plainB_iff]; dsimp only; omega
 · have a0b : (a == 0) = false := by simp [a0]
   clear a0
   go_enter Try.func78, Try.ntmps78
   go_wp2_with fail
   all_goals
    refine bodyPost_ret (results_tmp2 rfl _ _ _) rfl ?_
    refine countPost ?_ ?_ (below_alloc _ _)
    · have hop := HOP.out
      symm
      rw [okN_false_iff, plainB_iff]; dsimp only; omega
    · have hop := HOP.out
      rw [okN_iff, plainB_iff]; dsimp only; omega
theorem count_any (op a b : Int) (w : World) :
 Calls Try.prog 78 #[.agg #[.int .i64 op, .int .i64 a, .int .i64 b]] w (CountPost ⟨op, a, b⟩ w) := by
 by_cases hop : 1 ≤ op ∧ op ≤ 12 ∧ op ≠ 3
 · have : op = 1 ∨ op = 2 ∨ op = 4 ∨ op = 5 ∨ op = 6 ∨ op = 7 ∨ op = 8 ∨ op = 9 ∨ op = 10 ∨ op = 11 ∨ op = 12 := by omega
   rcases this with rfl | rfl | rfl | rfl | rfl | rfl | rfl | rfl | rfl | rfl | rfl
   · exact count_1 a b w
   · exact count_2 a b w
   · exact count_4 a b w
   · exact count_5 a b w
   · exact count_6 a b w
   · exact count_7 a b w
   · exact count_8 a b w
   · exact count_9 a b w
   · exact count_10 a b w
   · exact count_11 a b w
   · exact count_12 a b w
 · exact count_bad op a b w hop
theorem count_yes (op a b : Int) (w : World) (h : okN ⟨op, a, b⟩ = true) :
 Calls Try.prog 78 #[.agg #[.int .i64 op, .int .i64 a, .int .i64 b]] w fun e w' => e = .returned (.tuple #[.int .i64 (nkI op b), .bool true]) ∧ Below w.heap.size w w' :=
 (count_any op a b w).mono fun _ _ ⟨⟨k, h1, h2⟩, h3⟩ => ⟨by rw [h1, h, h2 h], h3⟩
theorem count_no (op a b : Int) (w : World) (h : okN ⟨op, a, b⟩ = false) :
 Calls Try.prog 78 #[.agg #[.int .i64 op, .int .i64 a, .int .i64 b]] w fun e w' => (∃ k : Int, e = .returned (.tuple #[.int .i64 k, .bool false])) ∧ Below w.heap.size w w' :=
 (count_any op a b w).mono fun _ _ ⟨⟨k, h1, _⟩, h3⟩ => ⟨⟨k, by rw [h1, h]⟩, h3⟩
end
section
open Go.RowKit
theorem NxS.alloc {g : Nat} {A : Option Addr} {n c p j : Nat} {A1 : Option Addr} {k1 : Nat} {A2 : Option Addr} {k2 : Nat} {xs1 xs2 : List Value} {w : World} (h : NxS g A n c p j A1 k1 A2 k2 xs1 xs2 w) (o : Obj) :
 NxS g A n c p j A1 k1 A2 k2 xs1 xs2 (w.alloc o) :=
 ⟨h.bt.alloc _, h.bo.alloc _, h.br.alloc _, h.ba.alloc _, h.own1.alloc _, h.own2.alloc _, h.off⟩
end
section
open Go.RowKit
end
end Go.Proofs.Ytpkldboeohhmpaa
