/- Merged: PutG, RowsD. -/
import Derived.Test.YtjoddliplahgkaaDSubst1
import Derived.Test.YtjoddliplahgkaaDSubst
import Derived.Test.YtjoddliplahgkaaDErr18
import Derived.Test.YtjoddliplahgkaaDDeeps
import Derived.Test.YtjoddliplahgkaaDBase
namespace Go.Proofs.Ytjoddliplahgkaa
section
open Go.RowKit
def pf (zs : List Int) (v z : Int) : Bool := decide (z ≤ v ∧ 100 ≤ ofI zs (v - z))
theorem exF_shift {p q : Int → Int → Bool} {c : Int} (h : ∀ v z, q v z = true → p v (z + c) = true) (pop pb : Int) : ∀ (j : Nat) (a : Int) (F : Fo), exF q pop pb j a F = true → exF p pop pb j (a + c) F = true
 | _, _, .nil, hh => by simp [exF] at hh
 | j, a, .cons pr n ats k x, hh => by
  simp only [exF, Bool.or_eq_true, Bool.and_eq_true] at hh ⊢
  have e : a + c + aroundI pop pb (j : Int) = a + aroundI pop pb (j : Int) + c := by omega
  rw [e]
  rcases hh with (hh | hh) | hh
  · exact .inl (.inl ⟨hh.1, h _ _ hh.2⟩)
  · exact .inl (.inr (exF_shift h n.op n.b 0 _ k hh))
  · exact .inr (exF_shift h pop pb (j + 1) a x hh)
theorem exT_shift {p q : Int → Int → Bool} {c : Int} (h : ∀ v z, q v z = true → p v (z + c) = true) {a : Int} {n : Nd} {k : Fo} (hh : exT p (a + c) n k = false) : exT q a n k = false := by
 cases he : exT q a n k with
 | false => rfl
 | true =>
  have : exT p (a + c) n k = true := by
   unfold exT at he ⊢
   simp only [Bool.or_eq_true, Bool.and_eq_true] at he ⊢
   rcases he with he | he
   · exact .inl ⟨he.1, h _ _ he.2⟩
   exact .inr (exF_shift h n.op n.b 0 _ k he)
  rw [this] at hh
  cases hh
theorem ex_kid {p : Int → Int → Bool} {pop pb : Int} : ∀ {k : Fo} {j : Nat} {a : Int}, exF p pop pb j a k = false → ∀ i y, (kidL k)[i]? = some y → exT p (a + aroundI pop pb ((j + i : Nat) : Int)) y.1 y.2.2 = false
 | .nil, _, _, _, i, y, h => by simp [kidL] at h
 | .cons pr n ats k x, j, a, hh, i, y, h => by
  rw [exF_cons, Bool.or_eq_false_iff] at hh
  rw [kidL_cons] at h
  cases i with
  | zero =>
   simp only [List.getElem?_cons_zero, Option.some.injEq] at h
   subst h
   exact hh.1
  | succ i =>
   have := ex_kid hh.2 i y (by simpa using h)
   rw [show j + (i + 1) = j + 1 + i from by omega]
   exact this
theorem ex_top {p : Int → Int → Bool} {a : Int} {n : Nd} {k : Fo} (h : exT p a n k = false) : (n.op = 1 → p n.a a = false) ∧ exF p n.op n.b 0 a k = false := by
 unfold exT at h
 rw [Bool.or_eq_false_iff] at h
 refine ⟨fun h1 => ?_, h.2⟩
 have := h.1
 rw [decide_eq_true h1, Bool.true_and] at this
 exact this
def far (a v z : Int) : Bool := decide (z ≤ v ∧ v - z < a)
def upT (u : TT) (a : Int) : TT := (raN a 0 u.1 0, u.2.1, raF a 0 u.1.op u.1.b 0 0 u.2.2)
structure OkT (u : TT) : Prop where
 ok : okN u.1 = true
 at_ : AtOk u.1 u.2.1
 wf : Wf (ds u.1) u.2.2
theorem OkT.one {u : TT} (h : OkT u) : Wf [false] (.cons [] u.1 u.2.1 u.2.2 .nil) := ⟨rfl, h.ok, h.at_, h.wf, trivial⟩
def suS (u : TT) (a : Int) (n : Nd) : TT := if n.a = a then upT u a else if a < n.a then (⟨n.op, n.a - 1, n.b⟩, [], .nil) else (n, [], .nil)
theorem puV_row (u : TT) (pop pb : Int) : ∀ (j : Nat) (a : Int) (F : Fo), VkF F → (puV ⟨u.1, u.2.1, u.2.2⟩ 0).E pop pb j a () F = row (trF (suS u) pop pb j a F)
 | _, _, .nil, _ => rfl
 | j, a, .cons p n ats k x, h => by
  obtain ⟨h1, h2, h3⟩ := h
  have e : ∀ s : Unit, s = () := fun _ => rfl
  rw [trF_cons, Vis.E_cons, Vis.E1, e ((puV ⟨u.1, u.2.1, u.2.2⟩ 0).nx () n _), e ((puV ⟨u.1, u.2.1, u.2.2⟩ 0).S1 _ () n k), puV_row u n.op n.b 0 _ k h2, puV_row u pop pb (j + 1) a x h3]
  have key : (puV ⟨u.1, u.2.1, u.2.2⟩ 0).em () n (a + aroundI pop pb j) ++ (ats ++ row (trF (suS u) n.op n.b 0 (a + aroundI pop pb j) k)) = rowT (trT (suS u) (a + aroundI pop pb j) (n, ats, k)) := by
   by_cases hv : n.op = 1
   · obtain ⟨rfl, rfl⟩ := h1 hv
     rw [trT_var (x := (n, [], .nil)) hv]
     simp only [puV, suS, trF, row, List.append_nil, Int.zero_add]
     by_cases h2 : n.a = a + aroundI pop pb j
     · rw [if_pos ⟨hv, h2⟩, if_pos h2, raV_row1]
       rfl
     rw [if_neg (fun h => h2 h.2), if_neg h2]
     by_cases h3 : a + aroundI pop pb j < n.a
     · rw [if_pos ⟨hv, h3⟩, if_pos h3]; rfl
     rw [if_neg (fun h => h3 h.2), if_neg h3]; rfl
   rw [trT_other (x := (n, ats, k)) hv]
   simp only [puV]
   rw [if_neg (fun h => hv h.1), if_neg (fun h => hv h.1)]
   rfl
  rw [key]
  simp [row, rowT]
theorem up_len (u : TT) (a : Int) : szT (upT u a) = szT u := by
 have h := raV_len a 0 u.1.op u.1.b 0 0 u.2.2
 rw [raV_row] at h
 unfold upT szT rowT
 simp only [List.length_cons, List.length_append, h]
theorem su_len (u : TT) (pop pb : Int) : ∀ (j : Nat) (a : Int) (F : Fo), VkF F → ((row (trF (suS u) pop pb j a F)).length : Int) = (row F).length + cnF 0 pop pb j a F * ((szT u : Int) - 1)
 | _, _, .nil, _ => by simp [trF, row, cnF]
 | j, a, .cons p n ats k x, h => by
  obtain ⟨h1, h2, h3⟩ := h
  have ix := su_len u pop pb (j + 1) a x h3
  have ik := su_len u n.op n.b 0 (a + aroundI pop pb j) k h2
  rw [trF_cons, sz_cons, sz_cons]
  simp only [cnF]
  rw [Int.add_mul, Int.add_mul]
  by_cases hv : n.op = 1
  · obtain ⟨rfl, rfl⟩ := h1 hv
    rw [trT_var (x := (n, [], .nil)) hv]
    simp only
    have e1 : szT (n, [], Fo.nil) = 1 := rfl
    have e2 : cnF 0 n.op n.b 0 (a + aroundI pop pb j) .nil = 0 := rfl
    have e3 : suS u (a + aroundI pop pb j) n = if n.a = a + aroundI pop pb j then upT u (a + aroundI pop pb j) else if a + aroundI pop pb j < n.a then (⟨n.op, n.a - 1, n.b⟩, [], .nil) else (n, [], .nil) := rfl
    rw [e1, e2, e3]
    have e4 : (row Fo.nil).length = 0 := rfl
    rw [e4] at ik
    clear e1 e2 e3 e4
    by_cases h2 : n.a = a + aroundI pop pb j
    · rw [if_pos h2, if_pos ⟨hv, by omega⟩]
      have := up_len u (a + aroundI pop pb j)
      rw [show ((upT u (a + aroundI pop pb j)).1, (upT u (a + aroundI pop pb j)).2.1, (upT u (a + aroundI pop pb j)).2.2) = upT u (a + aroundI pop pb j) from rfl, this]
      push_cast
      omega
    have hne : ¬ (n.op = 1 ∧ n.a - (a + aroundI pop pb (j : Int)) = 0) := by omega
    rw [if_neg h2, if_neg hne]
    split
    · have e1 : szT (⟨n.op, n.a - 1, n.b⟩, [], Fo.nil) = 1 := rfl
      simp only
      rw [e1]
      push_cast
      omega
    have e1 : szT (n, [], Fo.nil) = 1 := rfl
    simp only
    rw [e1]
    push_cast
    omega
  · rw [trT_other (x := (n, ats, k)) hv, if_neg (fun h => hv h.1)]
    simp only
    rw [szT_eq, szT_eq]
    push_cast
    omega
theorem raV_far {B up : Int} (h0 : 0 ≤ up) (pop pb : Int) (hp : ∀ j : Int, 0 ≤ aroundI pop pb j ∧ aroundI pop pb j ≤ 4) : ∀ (j : Nat) (z : Int) (F : Fo) (dl : List Bool), Wf dl F → exF (fun v z => decide (B ≤ v - z)) pop pb j z F = false → B + z + 4 * ((row F).length : Int) + up ≤ 1048577 → (raV up 0).G pop pb j z () F = true
 | _, _, .nil, _, _, _, _ => rfl
 | j, z, .cons p n ats k x, [], h, _, _ => h.elim
 | j, z, .cons p n ats k x, d :: dr, h, he, hb => by
  obtain ⟨_, hok, _, hk, hx⟩ := h
  rw [exF_cons, Bool.or_eq_false_iff] at he
  obtain ⟨he1, he2⟩ := he
  obtain ⟨t1, t2⟩ := ex_top he1
  have hl : ((row (.cons p n ats k x)).length : Int) = p.length + (1 + ats.length + (row k).length) + (row x).length := by rw [sz_cons, szT_eq]; push_cast; omega
  have ha := hp (j : Int)
  rw [Vis.G_cons, Vis.G1, Bool.and_eq_true, Bool.and_eq_true]
  refine ⟨⟨?_, raV_far h0 n.op n.b (aroundI_bd hok) 0 _ k _ hk t2 (by omega)⟩, raV_far h0 pop pb hp (j + 1) z x _ hx he2 (by omega)⟩
  simp only [raV]
  split
  · rename_i hh
    have := t1 hh.1
    rw [decide_eq_false_iff_not] at this
    rw [decide_eq_true_eq]
    omega
  · rfl
def UpOk (u : TT) (M : Int) : Prop := ∀ a : Int, 0 ≤ a → a ≤ M → (raV a 0).G1 0 () u.1 u.2.2 = true
theorem puV_D {u : TT} {M : Int} (hu : UpOk u M) (pop pb : Int) (hp : ∀ j : Int, 0 ≤ aroundI pop pb j ∧ aroundI pop pb j ≤ 4) : ∀ (j : Nat) (a : Int) (F : Fo) (dl : List Bool), Wf dl F → 0 ≤ a → a + 4 * ((row F).length : Int) ≤ M → (puV ⟨u.1, u.2.1, u.2.2⟩ 0).D pop pb j a () F
 | _, _, .nil, _, _, _, _ => trivial
 | j, a, .cons p n ats k x, [], h, _, _ => h.elim
 | j, a, .cons p n ats k x, d :: dr, h, h0, hb => by
  obtain ⟨_, hok, _, hk, hx⟩ := h
  have hl : ((row (.cons p n ats k x)).length : Int) = p.length + (1 + ats.length + (row k).length) + (row x).length := by rw [sz_cons, szT_eq]; push_cast; omega
  have ha := hp (j : Int)
  rw [Vis.D_cons, Vis.D1]
  refine ⟨⟨fun hh => ?_, puV_D hu n.op n.b (aroundI_bd hok) 0 _ k _ hk (by omega) (by omega)⟩, puV_D hu pop pb hp (j + 1) a x _ hx h0 (by omega)⟩
  rw [Int.zero_add]
  exact hu _ (by omega) (by omega)
theorem up_okT {u : TT} (hu : OkT u) {a : Int} (h0 : 0 ≤ a) (hg : (raV a 0).G1 0 () u.1 u.2.2 = true) : OkT (upT u a) := by
 rw [Vis.G1, Bool.and_eq_true] at hg
 have hs := raN_same a 0 u.1 0
 have hds : ds (raN a 0 u.1 0) = ds u.1 := by simp only [ds, hs.1, hs.2]
 refine ⟨raN_ok hu.ok h0 hg.1, ?_, ?_⟩
 · have := hu.at_
   show AtOk (raN a 0 u.1 0) u.2.1
   unfold AtOk at this ⊢
   rw [hs.1, hs.2]; exact this
 show Wf (ds (raN a 0 u.1 0)) (raF a 0 u.1.op u.1.b 0 0 u.2.2)
 rw [hds]; exact raF_wf h0 u.1.op u.1.b u.2.2 (ds u.1) 0 0 hu.wf hg.2
theorem su_wf {u : TT} (hu : OkT u) {M : Int} (hM : UpOk u M) (pop pb : Int) (hp : ∀ j : Int, 0 ≤ aroundI pop pb j ∧ aroundI pop pb j ≤ 4) : ∀ (j : Nat) (a : Int) (F : Fo) (dl : List Bool), Wf dl F → 0 ≤ a → a + 4 * ((row F).length : Int) ≤ M → Wf dl (trF (suS u) pop pb j a F)
 | _, _, .nil, _, h, _, _ => h
 | j, a, .cons p n ats k x, [], h, _, _ => h.elim
 | j, a, .cons p n ats k x, d :: dr, h, h0, hb => by
  obtain ⟨hpr, hok, hat, hk, hx⟩ := h
  have hl : ((row (.cons p n ats k x)).length : Int) = p.length + (1 + ats.length + (row k).length) + (row x).length := by rw [sz_cons, szT_eq]; push_cast; omega
  have ha := hp (j : Int)
  have ix := su_wf hu hM pop pb hp (j + 1) a x dr hx h0 (by omega)
  rw [trF_cons]
  have key : OkT (trT (suS u) (a + aroundI pop pb j) (n, ats, k)) := by
   by_cases hv : n.op = 1
   rotate_left
   · rw [trT_other (x := (n, ats, k)) hv]
     exact ⟨hok, hat, su_wf hu hM n.op n.b (aroundI_bd hok) 0 _ k (ds n) hk (by omega) (by omega)⟩
   rw [trT_var (x := (n, ats, k)) hv]
   unfold suS
   split
   · exact up_okT hu (by omega) (hM _ (by omega) (by omega))
   obtain ⟨rfl, rfl⟩ := (show ats = [] ∧ k = .nil from (vkF_wf (.cons [] n ats k .nil) [false] ⟨rfl, hok, hat, hk, trivial⟩).1 hv)
   have hds : ∀ m : Nd, m.op = 1 → ds m = [] := fun m h => ds_one' h
   split
   rotate_left
   · exact ⟨hok, hat, hk⟩
   rename_i h1 h2
   simp only at h1 h2
   refine ⟨?_, ?_, ?_⟩
   · simp only
     simp only [okN, Bool.and_eq_true] at hok
     have h3 := plainB_iff.1 hok.1.1
     have h4 : n.b = 0 ∧ n.a ≤ 1048576 := by omega
     rw [hv, h4.1]
     exact okVar (by omega) (by omega)
   · show AtOk ⟨n.op, n.a - 1, n.b⟩ []
     unfold AtOk
     rw [if_neg (by simp only; omega)]
   show Wf (ds ⟨n.op, n.a - 1, n.b⟩) .nil
   rw [hds ⟨n.op, n.a - 1, n.b⟩ hv]; trivial
  exact ⟨hpr, key.ok, key.at_, key.wf, ix⟩
theorem exF_up {B c : Int} (hB : 0 ≤ B) (pop pb : Int) : ∀ (j : Nat) (z : Int) (F : Fo), 0 ≤ c → exF (fun v z => decide (B ≤ v - z)) pop pb j (z + c) (raF c 0 pop pb j z F) = true → exF (fun v z => decide (B ≤ v - z)) pop pb j z F = true
 | _, _, .nil, _, h => by simp [raF, exF] at h
 | j, z, .cons p n ats k x, h0, h => by
  have hs := raN_same c 0 n (z + aroundI pop pb j)
  simp only [raF, exF, hs.1, hs.2, Bool.or_eq_true, Bool.and_eq_true, decide_eq_true_eq] at h ⊢
  have e : z + c + aroundI pop pb (j : Int) = z + aroundI pop pb (j : Int) + c := by omega
  rw [e] at h
  rcases h with (⟨h1, h2⟩ | h) | h
  · refine .inl (.inl ⟨h1, ?_⟩)
    unfold raN at h2
    split at h2
    · simp only at h2; omega
    omega
  · exact .inl (.inr (exF_up hB n.op n.b 0 _ k h0 h))
  · exact .inr (exF_up hB pop pb (j + 1) z x h0 h)
theorem su_ex {u : TT} {B : Int} (hB : 0 ≤ B) (hu : exT (fun v z => decide (B ≤ v - z)) 0 u.1 u.2.2 = false) (pop pb : Int) (hp : ∀ j : Int, 0 ≤ aroundI pop pb j) : ∀ (j : Nat) (a : Int) (F : Fo), VkF F → BOk F → 0 ≤ a → exF (fun v z => decide (B + 1 ≤ v - z)) pop pb j a F = false → exF (fun v z => decide (B ≤ v - z)) pop pb j a (trF (suS u) pop pb j a F) = false
 | _, _, .nil, _, _, _, _ => rfl
 | j, a, .cons p n ats k x, hk, hb, h0, he => by
  obtain ⟨k1, k2, k3⟩ := hk
  obtain ⟨b1, b2, b3⟩ := hb
  have ha := hp (j : Int)
  rw [exF_cons, Bool.or_eq_false_iff] at he
  obtain ⟨t1, t2⟩ := ex_top he.1
  rw [trF_cons, exF_cons, su_ex hB hu pop pb hp (j + 1) a x k3 b3 h0 he.2, Bool.or_false]
  by_cases hv : n.op = 1
  · rw [trT_var (x := (n, ats, k)) hv]
    have t3 := t1 hv
    rw [decide_eq_false_iff_not] at t3
    unfold suS
    split
    · cases hh : exT (fun v z => decide (B ≤ v - z)) (a + aroundI pop pb j) (upT u (a + aroundI pop pb j)).1 (upT u (a + aroundI pop pb j)).2.2 with
      | false => rfl
      | true =>
       have e1 : exF (fun v z => decide (B ≤ v - z)) 0 0 0 (0 + (a + aroundI pop pb j)) (raF (a + aroundI pop pb j) 0 0 0 0 0 (.cons [] u.1 u.2.1 u.2.2 .nil)) = true := by
        rw [raF_one, exF_cons, Int.zero_add]
        have hz : aroundI 0 0 ((0 : Nat) : Int) = 0 := by decide
        rw [hz, Int.add_zero, Bool.or_eq_true]
        exact .inl hh
       have e2 := exF_up hB 0 0 0 0 _ (by omega) e1
       have hz : aroundI 0 0 ((0 : Nat) : Int) = 0 := by decide
       rw [exF_cons, hz, Int.add_zero, hu] at e2
       simp [exF] at e2
    split
    · simp only [exT, exF, Bool.or_false]
      rw [decide_eq_true hv, Bool.true_and]
      exact decide_eq_false (by simp only at *; omega)
    simp only [exT, exF, Bool.or_false]
    rw [decide_eq_true hv, Bool.true_and]
    exact decide_eq_false (by simp only at *; omega)
  · rw [trT_other (x := (n, ats, k)) hv]
    simp only [exT]
    rw [decide_eq_false hv, Bool.false_and, Bool.false_or]
    exact su_ex hB hu n.op n.b (around_ge b1) 0 _ k k2 b2 (by omega) t2
theorem su_nodes {u : TT} (P : Nd → Prop) (hv : ∀ m : Nd, m.op = 1 → P m) (hu : ∀ m ∈ rowT u, P m) (pop pb : Int) : ∀ (j : Nat) (a : Int) (F : Fo), (∀ m ∈ row F, P m) → ∀ m ∈ row (trF (suS u) pop pb j a F), P m
 | _, _, .nil, _, m, hm => by simp [trF, row] at hm
 | j, a, .cons p n ats k x, h, m, hm => by
  have hrow : row (.cons p n ats k x) = p ++ (rowT (n, ats, k) ++ row x) := by simp [row, rowT]
  rw [hrow] at h
  have hrow2 : ∀ (y : TT) (F : Fo), row (.cons p y.1 y.2.1 y.2.2 F) = p ++ (rowT y ++ row F) := fun y F => by simp [row, rowT]
  rw [trF_cons, hrow2, List.mem_append, List.mem_append] at hm
  rcases hm with hm | hm | hm
  · exact h m (by simp [hm])
  · by_cases h1 : n.op = 1
    · rw [trT_var (x := (n, ats, k)) h1] at hm
      unfold suS at hm
      split at hm
      · have h2 := row_ra (up := a + aroundI pop pb j) (fr := 0) 0 0 0 0 (.cons [] u.1 u.2.1 u.2.2 .nil) m (by
         rw [raF_one]
         simpa [row, rowT, upT] using hm)
        rcases h2 with h2 | h2
        · exact hu m (by simpa [row, rowT] using h2)
        exact hv m h2
      split at hm
      · simp only [rowT, row, List.append_nil, List.mem_singleton] at hm
        subst hm
        exact hv _ h1
      simp only [rowT, row, List.append_nil, List.mem_singleton] at hm
      subst hm
      exact hv _ h1
    rw [trT_other (x := (n, ats, k)) h1] at hm
    simp only [rowT, List.mem_cons, List.mem_append] at hm
    rcases hm with rfl | hm | hm
    · exact h _ (by simp [rowT])
    · exact h m (by simp [rowT, hm])
    exact su_nodes P hv hu n.op n.b 0 _ k (fun m hm => h m (by simp [rowT, hm])) m hm
  · exact su_nodes P hv hu pop pb (j + 1) a x (fun m hm => h m (by simp [hm])) m hm
end
section
open Go.RowKit
structure RowsR (R : Nat → Prop) (w : World) (A : Option Addr) (n c : Nat) (ls : List (List Nd)) : Prop where
 len : ls.length = n
 few : n ≤ 5864062014805
 mem : 0 < n → ∃ b off, A = some ⟨b, off, none⟩ ∧ R b ∧ ∀ k, k < n → ∃ A' n' c', w.cell? ⟨b, off + k, none⟩ = some (.slice A' n' c') ∧ TermR R w A' n' c' (ls.getD k [])
theorem RowsR.keep {R R' : Nat → Prop} {w w' : World} {A : Option Addr} {n c : Nat} {ls : List (List Nd)} (h : RowsR R w A n c ls) (hR : ∀ b, R b → R' b ∧ ∀ o, w'.cell? ⟨b, o, none⟩ = w.cell? ⟨b, o, none⟩) : RowsR R' w' A n c ls := by
 refine ⟨h.len, h.few, fun hn => ?_⟩
 obtain ⟨b, off, e, hb, hk⟩ := h.mem hn
 refine ⟨b, off, e, (hR b hb).1, fun k hkn => ?_⟩
 obtain ⟨A', n', c', hc, ht⟩ := hk k hkn
 exact ⟨A', n', c', by rw [(hR b hb).2]; exact hc, ht.keep hR⟩
def RowsC (S : Nat → Prop) (w : World) : List Value → List (List Nd) → Prop
 | [], [] => True
 | x :: xs, l :: ls => (∃ A n c, x = .slice A n c ∧ TermR S w A n c l) ∧ RowsC S w xs ls
 | _, _ => False
theorem RowsC.keep {S S' : Nat → Prop} {w w' : World} (hS : ∀ b, S b → S' b ∧ ∀ o, w'.cell? ⟨b, o, none⟩ = w.cell? ⟨b, o, none⟩) : ∀ {xs : List Value} {ls : List (List Nd)}, RowsC S w xs ls → RowsC S' w' xs ls
 | [], [], _ => trivial
 | [], _ :: _, h => h.elim
 | _ :: _, [], h => h.elim
 | x :: xs, l :: ls, h => by
  obtain ⟨⟨A, n, c, e, ht⟩, h2⟩ := h
  exact ⟨⟨A, n, c, e, ht.keep hS⟩, h2.keep hS⟩
theorem RowsC.add {S : Nat → Prop} {w : World} {A : Option Addr} {n c : Nat} {m : List Nd} (ht : TermR S w A n c m) : ∀ {xs : List Value} {ls : List (List Nd)}, RowsC S w xs ls → RowsC S w (xs ++ [.slice A n c]) (ls ++ [m])
 | [], [], _ => ⟨⟨A, n, c, rfl, ht⟩, trivial⟩
 | [], _ :: _, h => h.elim
 | _ :: _, [], h => h.elim
 | _ :: _, _ :: _, h => ⟨h.1, h.2.add ht⟩
theorem RowsC.len {S : Nat → Prop} {w : World} : ∀ {xs : List Value} {ls : List (List Nd)}, RowsC S w xs ls → xs.length = ls.length
 | [], [], _ => rfl
 | [], _ :: _, h => h.elim
 | _ :: _, [], h => h.elim
 | x :: xs, l :: ls, h => by simp [RowsC.len h.2]
theorem RowsC.at_ {S : Nat → Prop} {w : World} : ∀ {xs : List Value} {ls : List (List Nd)} (k : Nat), RowsC S w xs ls → k < ls.length → ∃ A n c, xs[k]? = some (.slice A n c) ∧ TermR S w A n c (ls.getD k [])
 | [], [], _, _, hk => absurd hk (by simp)
 | [], _ :: _, _, h, _ => h.elim
 | _ :: _, [], _, h, _ => h.elim
 | x :: xs, l :: ls, 0, h, _ => by
  obtain ⟨⟨A, n, c, e, ht⟩, _⟩ := h
  exact ⟨A, n, c, by simp [e], ht⟩
 | x :: xs, l :: ls, k + 1, h, hk => by
  obtain ⟨A, n, c, e, ht⟩ := RowsC.at_ k h.2 (by simpa using hk)
  exact ⟨A, n, c, by simpa using e, by simpa using ht⟩
theorem own_rows {w : World} {base n c : Nat} {A : Option Addr} {xs : List Value} {ls : List (List Nd)} {S : Nat → Prop} (h : w.ownsRow base 29 1 (.slice A n c) n xs) (hn : n = ls.length) (hf : n ≤ 5864062014805) (hr : RowsC S w xs ls) (hS : ∀ b, S b → b < w.heap.size) : RowsR (· < w.heap.size) w A n c ls := by
 refine ⟨hn.symm, hf, fun hpos => ?_⟩
 have h0 := h
 obtain ⟨_, hcase⟩ := h
 rcases hcase with ⟨_, h2⟩ | ⟨g, cap', cur, hv, hg, hh, _⟩
 · omega
 injection hv with e1 e2 e3
 subst e1
 refine ⟨g, 0, rfl, (ownsRow_block h0 rfl).2.1, fun k hk => ?_⟩
 obtain ⟨A', n', c', hx, ht⟩ := hr.at_ k (by omega)
 refine ⟨A', n', c', ?_, ht.keep fun b hb => ⟨hS b hb, fun _ => rfl⟩⟩
 rw [Nat.zero_add, h0.cellAt k (by omega)]
 exact hx
def Aside (B : Nat) (w : World) (v : Value) (b : Nat) : Prop := B ≤ b ∧ b < w.heap.size ∧ v.ownBlock ≠ some b
theorem own_rowsQ {w : World} {base n c : Nat} {A : Option Addr} {xs : List Value} {ls : List (List Nd)} {S R : Nat → Prop} (h : w.ownsRow base 29 1 (.slice A n c) n xs) (hn : n = ls.length) (hf : n ≤ 5864062014805) (hr : RowsC S w xs ls) (hS : ∀ b, S b → R b) (hv : ∀ g, (Value.slice A n c).ownBlock = some g → R g) : RowsR R w A n c ls := by
 refine ⟨hn.symm, hf, fun hpos => ?_⟩
 have h0 := h
 obtain ⟨_, hcase⟩ := h
 rcases hcase with ⟨_, h2⟩ | ⟨g, cap', cur, hv2, hg, hh, _⟩
 · omega
 injection hv2 with e1 e2 e3
 subst e1
 refine ⟨g, 0, rfl, hv g rfl, fun k hk => ?_⟩
 obtain ⟨A', n', c', hx, ht⟩ := hr.at_ k (by omega)
 refine ⟨A', n', c', ?_, ht.keep fun b hb => ⟨hS b hb, fun _ => rfl⟩⟩
 rw [Nat.zero_add, h0.cellAt k (by omega)]
 exact hx
end
end Go.Proofs.Ytjoddliplahgkaa
