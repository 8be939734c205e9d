/- Lifting and putting, told of forests: plain laws. -/
import Derived.Test.YtnmeglbamfjcgaaSubst
namespace Go.Proofs.Ytnmeglbamfjcgaa
open Go.RowKit

/-- The atoms behind a node. -/
def AtOk (n : Nd) (ats : List Nd) : Prop := if n.op = 2 then takeAtoms n.b.toNat (-1) ats = some (ats, []) else ats = []
/-- A forest as rows have it. -/
def Wf : List Bool → Fo → Prop
  | [], .nil => True
  | d :: dr, .cons p n ats k x => (match d with | false => p = [] | true => ∃ f, p = [f] ∧ okF f = true) ∧ okN n = true ∧ AtOk n ats ∧ Wf (ds n) k ∧ Wf dr x
  | _, _ => False
theorem takeAtoms_more : ∀ (k : Nat) (last : Int) (l m rest : List Nd), takeAtoms k last l = some (m, []) → takeAtoms k last (l ++ rest) = some (m, rest)
  | 0, _, l, m, rest, h => by
    simp only [takeAtoms, Option.some.injEq, Prod.mk.injEq] at h
    obtain ⟨rfl, rfl⟩ := h
    simp [takeAtoms]
  | k + 1, last, [], m, rest, h => by simp [takeAtoms] at h
  | k + 1, last, x :: l, m, rest, h => by
    simp only [takeAtoms, List.cons_append] at h ⊢
    split at h
    · rename_i hc
      rw [if_pos hc]
      simp only [Option.map_eq_some_iff, Prod.mk.injEq] at h ⊢
      obtain ⟨q, hq, rfl, hq2⟩ := h
      obtain ⟨q1, q2⟩ := q
      simp only at hq2
      subst hq2
      exact ⟨_, takeAtoms_more k x.a l q1 rest hq, rfl, rfl⟩
    · cases h
theorem takeAtoms_less : ∀ (k : Nat) (last : Int) (l : List Nd) (p : List Nd × List Nd), takeAtoms k last l = some p → takeAtoms k last p.1 = some (p.1, [])
  | 0, _, l, p, h => by
    simp only [takeAtoms, Option.some.injEq] at h
    subst h; rfl
  | k + 1, last, [], p, h => by simp [takeAtoms] at h
  | k + 1, last, x :: l, p, h => by
    simp only [takeAtoms] at h
    split at h
    · rename_i hc
      simp only [Option.map_eq_some_iff] at h
      obtain ⟨q, hq, rfl⟩ := h
      simp only [takeAtoms]
      rw [if_pos hc, takeAtoms_less k x.a l q hq]
      rfl
    · cases h
theorem atoms_wf {n : Nd} {l : List Nd} {q : List Nd × List Nd} (h : atomsOf n l = some q) : AtOk n q.1 := by
  unfold atomsOf at h
  unfold AtOk
  split at h
  · rename_i h2
    rw [if_pos h2]
    exact takeAtoms_less _ _ _ _ h
  · rename_i h2
    rw [if_neg h2]
    simp only [Option.some.injEq] at h
    subst h; rfl
theorem atoms_of {n : Nd} {ats : List Nd} (h : AtOk n ats) (rest : List Nd) : atomsOf n (ats ++ rest) = some (ats, rest) := by
  unfold AtOk at h
  unfold atomsOf
  split at h
  · rename_i h2
    rw [if_pos h2]
    exact takeAtoms_more _ _ _ _ _ h
  · rename_i h2
    rw [if_neg h2, h]; rfl
theorem pp_of_wf : ∀ (F : Fo) (dl : List Bool) (rest : List Nd), Wf dl F → pp dl (row F ++ rest) = some (F, rest)
  | .nil, [], rest, _ => by rw [pp_nil]; rfl
  | .nil, _ :: _, _, h => h.elim
  | .cons _ _ _ _ _, [], _, h => h.elim
  | .cons p n ats k x, d :: dr, rest, h => by
    obtain ⟨hp, hok, hat, hk, hx⟩ := h
    have e : row (.cons p n ats k x) ++ rest = p ++ (n :: (ats ++ (row k ++ (row x ++ rest)))) := by simp [row]
    have hpre : preOf d (p ++ (n :: (ats ++ (row k ++ (row x ++ rest))))) = some (p, n :: (ats ++ (row k ++ (row x ++ rest)))) := by
      cases d with
      | false => simp only at hp; subst hp; rfl
      | true =>
        obtain ⟨f, rfl, hf⟩ := hp
        simp only [List.cons_append, List.nil_append, preOf, hf, if_true]
    rw [e, pp_cons, hpre]
    simp only [Option.bind_some, hok, if_true, atoms_of hat]
    rw [pp_of_wf k (ds n) _ hk]
    simp only [Option.bind_some]
    rw [pp_of_wf x dr rest hx]
    rfl
theorem wf_of_pars : ∀ (f : Nat) (dl : List Bool) (l : List Nd) (x : Fo × List Nd), pars f dl l = some x → Wf dl x.1
  | 0, _, _, _, h => by simp [pars] at h
  | _ + 1, [], l, x, h => by simp only [pars, Option.some.injEq] at h; subst h; trivial
  | f + 1, d :: dr, l, x, h => by
    simp only [pars, Option.bind_eq_some_iff] at h
    obtain ⟨p, hp, h⟩ := h
    split at h
    · cases h
    · split at h
      · rename_i hok
        simp only [Option.bind_eq_some_iff] at h
        obtain ⟨q, hq, k, hk, y, hy, h⟩ := h
        simp only [Option.some.injEq] at h
        subst h
        refine ⟨?_, hok, atoms_wf hq, wf_of_pars f _ _ _ hk, wf_of_pars f _ _ _ hy⟩
        cases d with
        | false => simp only [preOf, Option.some.injEq] at hp; subst hp; rfl
        | true =>
          cases l with
          | nil => simp [preOf] at hp
          | cons z l =>
            simp only [preOf] at hp
            split at hp
            · rename_i hz
              simp only [Option.some.injEq] at hp
              subst hp
              exact ⟨z, rfl, hz⟩
            · cases hp
      · cases h
theorem wf_of_pp {dl : List Bool} {l : List Nd} {x : Fo × List Nd} (h : pp dl l = some x) : Wf dl x.1 := wf_of_pars _ _ _ _ h
theorem shape_of_pp {l : List Nd} {x : Fo} (h : pp [false] l = some (x, [])) (hl : l.length ≤ 4096) : shapeI l = 0 := by
  have h0 := pp_lt h (by simp)
  simp only [List.length_nil] at h0
  have he : endI l 0 = l.length := by
    unfold endI
    rw [if_pos (by omega)]
    have : ends [false] l 0 = some l.length := by
      unfold ends
      rw [List.drop_zero, h]; rfl
    simp only [Int.toNat_zero, this]
  unfold shapeI
  rw [if_neg (by omega), if_pos he]

/-- A forest whose free variables from one on are higher. -/
def raN (up fr : Int) (n : Nd) (a : Int) : Nd := if n.op = 1 ∧ fr + a ≤ n.a then ⟨n.op, n.a + up, n.b⟩ else n
def raF (up fr : Int) (pop pb : Int) : Nat → Int → Fo → Fo
  | _, _, .nil => .nil
  | j, a, .cons p n ats k x => .cons p (raN up fr n (a + aroundI pop pb j)) ats (raF up fr n.op n.b 0 (a + aroundI pop pb j) k) (raF up fr pop pb (j + 1) a x)
theorem raN_same (up fr : Int) (n : Nd) (a : Int) : (raN up fr n a).op = n.op ∧ (raN up fr n a).b = n.b := by unfold raN; split <;> exact ⟨rfl, rfl⟩
theorem raV_em (up fr : Int) (n : Nd) (a : Int) : (raV up fr).em () n a = [raN up fr n a] := by
  simp only [raV, raN]; split <;> rfl
theorem raV_row (up fr : Int) (pop pb : Int) : ∀ (j : Nat) (a : Int) (F : Fo), (raV up fr).E pop pb j a () F = row (raF up fr pop pb j a F)
  | _, _, .nil => rfl
  | j, a, .cons p n ats k x => by
    have e : ∀ s : Unit, s = () := fun _ => rfl
    rw [Vis.E_cons, Vis.E1, raV_em, e ((raV up fr).nx () n (a + aroundI pop pb j)), e ((raV up fr).S1 (a + aroundI pop pb j) () n k), raV_row up fr _ _ _ _ k, raV_row up fr pop pb (j + 1) a x]
    simp [raF, row]
theorem raV_row1 (up fr : Int) (a : Int) (n : Nd) (ats : List Nd) (k : Fo) : (raV up fr).E1 a () n ats k = raN up fr n a :: (ats ++ row (raF up fr n.op n.b 0 a k)) := by
  have e : ∀ s : Unit, s = () := fun _ => rfl
  rw [Vis.E1, raV_em, e ((raV up fr).nx () n a), raV_row]; rfl
theorem raN_ok {up fr : Int} {n : Nd} {a : Int} (hok : okN n = true) (h0 : 0 ≤ up) (hg : (raV up fr).ok () n a = true) : okN (raN up fr n a) = true := by
  unfold raN
  split
  · rename_i h
    simp only [raV, if_pos h, decide_eq_true_eq] at hg
    simp only [okN, Bool.and_eq_true, decide_eq_true_eq] at hok ⊢
    obtain ⟨⟨h1, h2⟩, h3⟩ := hok
    refine ⟨⟨?_, h2⟩, h3⟩
    rw [h.1] at h1 ⊢
    simp only [plainB, if_true, decide_eq_true_eq] at h1 ⊢
    omega
  · exact hok
theorem raF_wf {up fr : Int} (h0 : 0 ≤ up) (pop pb : Int) : ∀ (F : Fo) (dl : List Bool) (j : Nat) (a : Int), Wf dl F → (raV up fr).G pop pb j a () F = true → Wf dl (raF up fr pop pb j a F)
  | .nil, [], _, _, _, _ => trivial
  | .nil, _ :: _, _, _, h, _ => h.elim
  | .cons _ _ _ _ _, [], _, _, h, _ => h.elim
  | .cons p n ats k x, d :: dr, j, a, h, hg => by
    obtain ⟨hp, hok, hat, hk, hx⟩ := h
    rw [Vis.G_cons, Vis.G1, Bool.and_eq_true, Bool.and_eq_true] at hg
    obtain ⟨⟨hg1, hg2⟩, hg3⟩ := hg
    have hs := raN_same up fr n (a + aroundI pop pb j)
    have hds : ds (raN up fr n (a + aroundI pop pb j)) = ds n := by simp only [ds, hs.1, hs.2]
    refine ⟨hp, raN_ok hok h0 hg1, ?_, ?_, raF_wf h0 pop pb x dr (j + 1) a hx hg3⟩
    · unfold AtOk at hat ⊢
      rw [hs.1, hs.2]; exact hat
    · rw [hds]; exact raF_wf h0 n.op n.b k (ds n) 0 (a + aroundI pop pb j) hk hg2

/-- A right row, lifted, is right. -/
theorem lift_right {t : List Nd} {n : Nd} {ats : List Nd} {k : Fo} {up fr : Int} (hpp : pp [false] t = some (.cons [] n ats k .nil, [])) (hl : t.length ≤ 4096) (h0 : 0 ≤ up) (hg : (raV up fr).G1 0 () n k = true) :
    pp [false] ((raV up fr).E1 0 () n ats k) = some (.cons [] (raN up fr n 0) ats (raF up fr n.op n.b 0 0 k) .nil, []) ∧ shapeI ((raV up fr).E1 0 () n ats k) = 0 ∧ ((raV up fr).E1 0 () n ats k).length = t.length := by
  have hw := wf_of_pp hpp
  obtain ⟨_, hok, hat, hk, _⟩ := hw
  rw [Vis.G1, Bool.and_eq_true] at hg
  have hs := raN_same up fr n 0
  have hds : ds (raN up fr n 0) = ds n := by simp only [ds, hs.1, hs.2]
  have hw2 : Wf [false] (.cons [] (raN up fr n 0) ats (raF up fr n.op n.b 0 0 k) .nil) := by
    refine ⟨rfl, raN_ok hok h0 hg.1, ?_, ?_, trivial⟩
    · unfold AtOk at hat ⊢
      rw [hs.1, hs.2]; exact hat
    · rw [hds]; exact raF_wf h0 n.op n.b k (ds n) 0 0 hk hg.2
  have h1 := pp_of_wf _ _ [] hw2
  have h2 : (raV up fr).E1 0 () n ats k = row (.cons [] (raN up fr n 0) ats (raF up fr n.op n.b 0 0 k) .nil) ++ [] := by rw [raV_row1]; simp [row]
  have hrow := pp_row hpp
  have hlen : ((raV up fr).E1 0 () n ats k).length = t.length := by
    rw [raV_len1, hrow]; simp [row]
  rw [← h2] at h1
  exact ⟨h1, shape_of_pp h1 (by omega), hlen⟩

/-- What was lifted by one leaves no place. -/
theorem und_cn (x : Int) (pop pb : Int) : ∀ (j : Nat) (a : Int) (F : Fo), cnF x pop pb j a (raF 1 x pop pb j a F) = 0
  | _, _, .nil => rfl
  | j, a, .cons p n ats k y => by
    have hs := raN_same 1 x n (a + aroundI pop pb j)
    simp only [raF, cnF, hs.1, hs.2]
    rw [und_cn x n.op n.b 0 _ k, und_cn x pop pb (j + 1) a y]
    have : ¬ (n.op = 1 ∧ (raN 1 x n (a + aroundI pop pb j)).a - (a + aroundI pop pb j) = x) := by
      unfold raN
      split
      · simp only; omega
      · omega
    rw [if_neg this]; rfl
theorem und_em (u : Put) (x : Int) (n : Nd) (a : Int) : (puV u x).em () (raN 1 x n a) a = [n] ∧ (puV u x).dm () (raN 1 x n a) a := by
  unfold raN
  split
  · rename_i h
    constructor
    · simp only [puV]
      rw [if_neg (by omega), if_pos (by omega)]
      have : n.a + 1 - 1 = n.a := by omega
      rw [this]
    · simp only [puV]; intro h2; omega
  · rename_i h
    constructor
    · simp only [puV]
      rw [if_neg (by omega), if_neg (by omega)]
    · simp only [puV]; intro h2; omega
theorem und_row (u : Put) (x : Int) (pop pb : Int) : ∀ (j : Nat) (a : Int) (F : Fo), (puV u x).E pop pb j a () (raF 1 x pop pb j a F) = row F ∧ (puV u x).D pop pb j a () (raF 1 x pop pb j a F)
  | _, _, .nil => ⟨rfl, trivial⟩
  | j, a, .cons p n ats k y => by
    have e : ∀ s : Unit, s = () := fun _ => rfl
    have hs := raN_same 1 x n (a + aroundI pop pb j)
    have h1 := und_row u x n.op n.b 0 (a + aroundI pop pb j) k
    have h2 := und_row u x pop pb (j + 1) a y
    have h3 := und_em u x n (a + aroundI pop pb j)
    constructor
    · simp only [raF]
      rw [Vis.E_cons, Vis.E1, h3.1, hs.1, hs.2, e ((puV u x).nx () _ _), e ((puV u x).S1 _ () _ _), h1.1, h2.1]
      simp [row]
    · simp only [raF]
      rw [Vis.D_cons, Vis.D1, hs.1, hs.2, e ((puV u x).nx () _ _), e ((puV u x).S1 _ () _ _)]
      exact ⟨⟨h3.2, h1.2⟩, h2.2⟩

/-- Lifted by one at a place, and anything put there: it is as it was. -/
theorem undone {t u : List Nd} {x : Int} (ht : shapeI t = 0) (hu : shapeI u = 0) (h0 : 0 ≤ x) (h1 : x ≤ 1048577) (h : (liftR t 1 x).2 = 0) : substD (liftR t 1 x).1 u (min x 1048577) ∧ shapeI (liftR t 1 x).1 = 0 ∧ substR (liftR t 1 x).1 u x = (t, 0) := by
  obtain ⟨hl, n, ats, k, hpp, hrow, hfs⟩ := shape_ok ht
  obtain ⟨hul, un, ua, uk, hpu, hurow, hufs⟩ := shape_ok hu
  have hm : min x 1048577 = x := by omega
  have hlr : liftR t 1 x = if (raV 1 x).G1 0 () n k = true then ((raV 1 x).E1 0 () n ats k, 0) else ([], 6) := by
    unfold liftR
    rw [if_pos ht, if_neg (by omega)]
    unfold liftT
    rw [hpp, hm]
  by_cases hg : (raV 1 x).G1 0 () n k = true
  · rw [if_pos hg] at hlr
    rw [hlr]
    obtain ⟨hp2, hs2, hl2⟩ := lift_right (up := 1) (fr := x) hpp hl (by omega) hg
    have hs := raN_same 1 x n 0
    have hem := und_em ⟨un, ua, uk⟩ x n 0
    have hro := und_row ⟨un, ua, uk⟩ x n.op n.b 0 0 k
    have e : ∀ s : Unit, s = () := fun _ => rfl
    have hcn : cnT x (raN 1 x n 0) (raF 1 x n.op n.b 0 0 k) = 0 := by
      unfold cnT
      rw [hs.1, hs.2, und_cn]
      have : ¬ (n.op = 1 ∧ (raN 1 x n 0).a = x) := by
        unfold raN
        split
        · simp only; omega
        · omega
      rw [if_neg this]; rfl
    refine ⟨?_, hs2, ?_⟩
    · unfold substD
      rw [hp2, hpu, hm]
      simp only
      rw [Vis.D1, hs.1, hs.2]
      exact ⟨hem.2, hro.2⟩
    · unfold substR
      rw [if_pos hs2, if_pos hu, if_neg (by omega), hm]
      unfold substT
      rw [hp2, hpu]
      simp only
      rw [hcn, if_neg (by omega), if_neg (by rw [hl2]; omega), Vis.E1, hem.1, hs.1, hs.2, e ((puV ⟨un, ua, uk⟩ x).nx () _ _), hro.1, hrow]
      rfl
  · rw [if_neg hg] at hlr
    rw [hlr] at h
    cases h

end Go.Proofs.Ytnmeglbamfjcgaa
