/- Is a term fine? Told without fuel. -/
import Derived.Test.YtjllmblbbgojbaaUHeads
namespace Go.Proofs.Ytjllmblbbgojbaa
open Go.RowKit
abbrev szT (x : TT) : Nat := (rowT x).length
theorem szT_eq (n : Nd) (a : List Nd) (k : Fo) : szT (n, a, k) = 1 + a.length + (row k).length := by
 simp only [szT, rowT, List.length_cons, List.length_append]; omega
theorem sz_cons (p : List Nd) (n : Nd) (a : List Nd) (k x : Fo) : (row (.cons p n a k x)).length = p.length + szT (n, a, k) + (row x).length := by
 simp only [row, List.length_append, List.length_cons, szT, rowT]; omega
theorem sz_kid : ∀ {k : Fo} {y : TT}, y ∈ kidL k → szT y ≤ (row k).length
 | .nil, y, h => by cases h
 | .cons p n a k x, y, h => by
  rw [sz_cons]
  rw [show kidL (.cons p n a k x) = (n, a, k) :: kidL x from rfl] at h
  rcases List.mem_cons.1 h with rfl | h
  · omega
  · have := sz_kid h
    omega
def hdW (x : TT) : TT × List TT := hd (szT x) x
theorem hd_fuel : ∀ (m m' : Nat) (x : TT), szT x ≤ m → szT x ≤ m' → hd m x = hd m' x
 | 0, _, (n, a, k), h, _ => by rw [szT_eq] at h; omega
 | _ + 1, 0, (n, a, k), _, h => by rw [szT_eq] at h; omega
 | m + 1, m' + 1, (n, a, .nil), _, _ => rfl
 | m + 1, m' + 1, (n, a, .cons p n1 a1 k1 .nil), _, _ => rfl
 | m + 1, m' + 1, (n, a, .cons p n1 a1 k1 (.cons q n2 a2 k2 r)), h, h' => by
  simp only [hd]
  rw [szT_eq, sz_cons] at h h'
  split
  · rw [hd_fuel m m' (n1, a1, k1) (by omega) (by omega)]
  · rfl
theorem hdW_fuel {m : Nat} {x : TT} (h : szT x ≤ m) : hd m x = hdW x := hd_fuel _ _ _ h (Nat.le_refl _)
theorem hdW_stop {x : TT} (h : x.1.op ≠ 6) : hdW x = (x, []) := hd_stop h
theorem hdW_app {n n1 n2 : Nd} {a a1 a2 p q : List Nd} {k1 k2 r : Fo} (h : n.op = 6) : hdW (n, a, .cons p n1 a1 k1 (.cons q n2 a2 k2 r)) = ((hdW (n1, a1, k1)).1, (hdW (n1, a1, k1)).2 ++ [(n2, a2, k2)]) := by
 have h0 : szT (n, a, .cons p n1 a1 k1 (.cons q n2 a2 k2 r)) = 1 + a.length + (p.length + szT (n1, a1, k1) + (row (.cons q n2 a2 k2 r)).length) := by rw [szT_eq, sz_cons]
 rw [← hdW_fuel (m := szT (n, a, .cons p n1 a1 k1 (.cons q n2 a2 k2 r)) - 1 + 1) (x := (n, a, .cons p n1 a1 k1 (.cons q n2 a2 k2 r))) (by omega)]
 simp only [hd]
 rw [if_pos h, hdW_fuel (by omega)]
theorem hdW_few {x : TT} (h : (kidL x.2.2).length < 2) : hdW x = (x, []) := by
 obtain ⟨n, a, k⟩ := x
 match k, h with
 | .nil, _ => rw [← hdW_fuel (Nat.le_succ _)]; rfl
 | .cons p n1 a1 k1 .nil, _ => rw [← hdW_fuel (Nat.le_succ _)]; rfl
 | .cons p n1 a1 k1 (.cons q n2 a2 k2 r), h => simp [kidL] at h; omega
theorem hdW_size : ∀ (x : TT), szT (hdW x).1 ≤ szT x ∧ ∀ y ∈ (hdW x).2, szT y < szT x := by
 have key : ∀ (s : Nat) (x : TT), szT x ≤ s → szT (hdW x).1 ≤ szT x ∧ ∀ y ∈ (hdW x).2, szT y < szT x := by
  intro s
  induction s with
  | zero => intro x h; obtain ⟨n, a, k⟩ := x; rw [szT_eq] at h; omega
  | succ s ih =>
   intro x hs
   obtain ⟨n, a, k⟩ := x
   by_cases h6 : n.op = 6
   · match k, hs with
     | .nil, _ => rw [hdW_few (by simp [kidL])]; exact ⟨Nat.le_refl _, fun y hy => by cases hy⟩
     | .cons p n1 a1 k1 .nil, _ => rw [hdW_few (by simp [kidL])]; exact ⟨Nat.le_refl _, fun y hy => by cases hy⟩
     | .cons p n1 a1 k1 (.cons q n2 a2 k2 r), hs =>
      rw [hdW_app h6]
      have h0 : szT (n, a, .cons p n1 a1 k1 (.cons q n2 a2 k2 r)) = 1 + a.length + (p.length + szT (n1, a1, k1) + (q.length + szT (n2, a2, k2) + (row r).length)) := by rw [szT_eq, sz_cons, sz_cons]
      obtain ⟨i1, i2⟩ := ih (n1, a1, k1) (by omega)
      refine ⟨by show szT (hdW (n1, a1, k1)).1 ≤ _; omega, fun y hy => ?_⟩
      rcases List.mem_append.1 hy with hy | hy
      · have := i2 y hy; omega
      · rw [List.mem_singleton] at hy; subst hy; omega
   · rw [hdW_stop h6]
     exact ⟨Nat.le_refl _, fun y hy => by cases hy⟩
 exact fun x => key _ x (Nat.le_refl _)
theorem all_congr' {α : Type} {f g : α → Bool} : ∀ {L : List α}, (∀ y ∈ L, f y = g y) → L.all f = L.all g
 | [], _ => rfl
 | x :: L, h => by
  simp only [List.all_cons]
  rw [h x (by simp), all_congr' (fun y hy => h y (by simp [hy]))]
end Go.Proofs.Ytjllmblbbgojbaa
