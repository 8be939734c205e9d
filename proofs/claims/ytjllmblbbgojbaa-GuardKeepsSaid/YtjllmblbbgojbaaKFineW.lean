/- Is a term fine? Told without fuel. -/
import Derived.Test.YtjllmblbbgojbaaKHeads
namespace Go.Proofs.Ytjllmblbbgojbaa
open Go.RowKit
abbrev szT (x : TT) : Nat := (rowT x).length
theorem szT_eq (n : Nd) (a : List Nd) (k : Fo) : szT (n, a, k) = 1 + a.length + (row k).length := by
 simp only [szT, rowT, List.length_cons, List.length_append]; omega
theorem sz_cons (p : List Nd) (n : Nd) (a : List Nd) (k x : Fo) : (row (.cons p n a k x)).length = p.length + szT (n, a, k) + (row x).length := by
 simp only [row, List.length_append, List.length_cons, szT, rowT]; omega
theorem sz_kid : ∀ {k : Fo} {y : TT}, y ∈ kidL k → szT y ≤ (row k).length
 | .nil, y, h => by cases h
 | .cons p n a k x, y, h => by
  rw [sz_cons]
  rw [show kidL (.cons p n a k x) = (n, a, k) :: kidL x from rfl] at h
  rcases List.mem_cons.1 h with rfl | h
  · omega
  · have := sz_kid h
    omega
def hdW (x : TT) : TT × List TT := hd (szT x) x
theorem hd_fuel : ∀ (m m' : Nat) (x : TT), szT x ≤ m → szT x ≤ m' → hd m x = hd m' x
 | 0, _, (n, a, k), h, _ => by rw [szT_eq] at h; omega
 | _ + 1, 0, (n, a, k), _, h => by rw [szT_eq] at h; omega
 | m + 1, m' + 1, (n, a, .nil), _, _ => rfl
 | m + 1, m' + 1, (n, a, .cons p n1 a1 k1 .nil), _, _ => rfl
 | m + 1, m' + 1, (n, a, .cons p n1 a1 k1 (.cons q n2 a2 k2 r)), h, h' => by
  simp only [hd]
  rw [szT_eq, sz_cons] at h h'
  split
  · rw [hd_fuel m m' (n1, a1, k1) (by omega) (by omega)]
  · rfl
theorem hdW_fuel {m : Nat} {x : TT} (h : szT x ≤ m) : hd m x = hdW x := hd_fuel _ _ _ h (Nat.le_refl _)
theorem hdW_stop {x : TT} (h : x.1.op ≠ 6) : hdW x = (x, []) := hd_stop h
theorem hdW_app {n n1 n2 : Nd} {a a1 a2 p q : List Nd} {k1 k2 r : Fo} (h : n.op = 6) : hdW (n, a, .cons p n1 a1 k1 (.cons q n2 a2 k2 r)) = ((hdW (n1, a1, k1)).1, (hdW (n1, a1, k1)).2 ++ [(n2, a2, k2)]) := by
 have h0 : szT (n, a, .cons p n1 a1 k1 (.cons q n2 a2 k2 r)) = 1 + a.length + (p.length + szT (n1, a1, k1) + (row (.cons q n2 a2 k2 r)).length) := by rw [szT_eq, sz_cons]
 rw [← hdW_fuel (m := szT (n, a, .cons p n1 a1 k1 (.cons q n2 a2 k2 r)) - 1 + 1) (x := (n, a, .cons p n1 a1 k1 (.cons q n2 a2 k2 r))) (by omega)]
 simp only [hd]
 rw [if_pos h, hdW_fuel (by omega)]
theorem hdW_few {x : TT} (h : (kidL x.2.2).length < 2) : hdW x = (x, []) := by
 obtain ⟨n, a, k⟩ := x
 match k, h with
 | .nil, _ => rw [← hdW_fuel (Nat.le_succ _)]; rfl
 | .cons p n1 a1 k1 .nil, _ => rw [← hdW_fuel (Nat.le_succ _)]; rfl
 | .cons p n1 a1 k1 (.cons q n2 a2 k2 r), h => simp [kidL] at h; omega
theorem hdW_size : ∀ (x : TT), szT (hdW x).1 ≤ szT x ∧ ∀ y ∈ (hdW x).2, szT y < szT x := by
 have key : ∀ (s : Nat) (x : TT), szT x ≤ s → szT (hdW x).1 ≤ szT x ∧ ∀ y ∈ (hdW x).2, szT y < szT x := by
  intro s
  induction s with
  | zero => intro x h; obtain ⟨n, a, k⟩ := x; rw [szT_eq] at h; omega
  | succ s ih =>
   intro x hs
   obtain ⟨n, a, k⟩ := x
   by_cases h6 : n.op = 6
   · match k, hs with
     | .nil, _ => rw [hdW_few (by simp [kidL])]; exact ⟨Nat.le_refl _, fun y hy => by cases hy⟩
     | .cons p n1 a1 k1 .nil, _ => rw [hdW_few (by simp [kidL])]; exact ⟨Nat.le_refl _, fun y hy => by cases hy⟩
     | .cons p n1 a1 k1 (.cons q n2 a2 k2 r), hs =>
      rw [hdW_app h6]
      have h0 : szT (n, a, .cons p n1 a1 k1 (.cons q n2 a2 k2 r)) = 1 + a.length + (p.length + szT (n1, a1, k1) + (q.length + szT (n2, a2, k2) + (row r).length)) := by rw [szT_eq, sz_cons, sz_cons]
      obtain ⟨i1, i2⟩ := ih (n1, a1, k1) (by omega)
      refine ⟨by show szT (hdW (n1, a1, k1)).1 ≤ _; omega, fun y hy => ?_⟩
      rcases List.mem_append.1 hy with hy | hy
      · have := i2 y hy; omega
      · rw [List.mem_singleton] at hy; subst hy; omega
   · rw [hdW_stop h6]
     exact ⟨Nat.le_refl _, fun y hy => by cases hy⟩
 exact fun x => key _ x (Nat.le_refl _)
def headW (places : List Int) (ca : Int → Nat → Nat) (rec_ : List Int → TT → Bool) (zs : List Int) (h : TT) (args : List TT) : Bool :=
 if h.1.op = 1 then (if ofI zs h.1.a < 100 then true else (match args[(places.getD (ofI zs h.1.a - 100).toNat 0).toNat]? with | some y => lessT zs y | none => false))
 else if h.1.op = 11 then (match kidL h.2.2 with
  | mo :: sc :: br => (rec_ zs mo && rec_ zs sc) && branchesT rec_ (fun k => if downT zs sc then ca h.1.a k else 0) zs 0 br
  | _ => true)
 else if h.1.op = 4 ∨ h.1.op = 5 then (match kidL h.2.2 with
  | a :: b :: _ => rec_ zs a && rec_ (zs ++ [0]) b
  | _ => true)
 else if h.1.op = 7 then (match kidL h.2.2 with
  | a :: b :: c :: _ => (rec_ zs a && rec_ zs b) && rec_ (zs ++ [0]) c
  | _ => true)
 else if h.1.op = 12 then pairsT rec_ zs (zs ++ List.replicate h.1.b.toNat 0) (kidL h.2.2)
 else true
theorem fineT_suc (places : List Int) (ca : Int → Nat → Nat) (f : Nat) (zs : List Int) (x : TT) : fineT places ca (f + 1) zs x = ((hdW x).2.all (fineT places ca f zs) && headW places ca (fineT places ca f) zs (hdW x).1 (hdW x).2) := rfl
theorem branchT_congr {r1 r2 : List Int → TT → Bool} : ∀ (n : Nat) (zs : List Int) (y : TT), (∀ zs' y', szT y' ≤ szT y → r1 zs' y' = r2 zs' y') → branchT r1 n zs y = branchT r2 n zs y
 | 0, zs, y, h => h zs y (Nat.le_refl _)
 | n + 1, zs, (nd, a, .nil), h => h zs _ (Nat.le_refl _)
 | n + 1, zs, (nd, a, .cons p n1 a1 k1 .nil), h => h zs _ (Nat.le_refl _)
 | n + 1, zs, (nd, a, .cons p n1 a1 k1 (.cons q n2 a2 k2 r)), h => by
  have h0 : szT (nd, a, .cons p n1 a1 k1 (.cons q n2 a2 k2 r)) = 1 + a.length + (p.length + szT (n1, a1, k1) + (q.length + szT (n2, a2, k2) + (row r).length)) := by rw [szT_eq, sz_cons, sz_cons]
  simp only [branchT]
  rw [h zs (n1, a1, k1) (by omega), branchT_congr n (zs ++ [2]) (n2, a2, k2) (fun zs' y' hy => h zs' y' (by omega)), h zs _ (Nat.le_refl _)]
theorem branchesT_congr {r1 r2 : List Int → TT → Bool} {ca : Nat → Nat} {zs : List Int} : ∀ (k : Nat) (L : List TT), (∀ y ∈ L, ∀ zs' y', szT y' ≤ szT y → r1 zs' y' = r2 zs' y') → branchesT r1 ca zs k L = branchesT r2 ca zs k L
 | _, [], _ => rfl
 | k, y :: L, h => by
  simp only [branchesT]
  rw [branchT_congr _ _ y (h y (by simp)), branchesT_congr (k + 1) L (fun z hz => h z (by simp [hz]))]
theorem pairsT_congr {r1 r2 : List Int → TT → Bool} {zs zu : List Int} : ∀ (L : List TT), (∀ y ∈ L, ∀ zs', r1 zs' y = r2 zs' y) → pairsT r1 zs zu L = pairsT r2 zs zu L
 | [], _ => rfl
 | [_], _ => rfl
 | t :: b :: L, h => by
  simp only [pairsT]
  rw [h t (by simp), h b (by simp), pairsT_congr L (fun z hz => h z (by simp [hz]))]
theorem headW_congr {places : List Int} {ca : Int → Nat → Nat} {r1 r2 : List Int → TT → Bool} {zs : List Int} {h : TT} {args : List TT} (hr : ∀ zs' y, szT y < szT h → r1 zs' y = r2 zs' y) : headW places ca r1 zs h args = headW places ca r2 zs h args := by
 obtain ⟨n, a, k⟩ := h
 have hk : ∀ y ∈ kidL k, ∀ zs', r1 zs' y = r2 zs' y := fun y hy zs' => hr zs' y (by have := sz_kid hy; rw [szT_eq n a k]; omega)
 have hk2 : ∀ y ∈ kidL k, ∀ zs' y', szT y' ≤ szT y → r1 zs' y' = r2 zs' y' := fun y hy zs' y' h => hr zs' y' (by have := sz_kid hy; rw [szT_eq n a k]; omega)
 unfold headW
 simp only
 split
 · rfl
 split
 · generalize kidL k = L at *
   match L with
   | [] => rfl
   | [_] => rfl
   | mo :: sc :: br =>
    simp only
    rw [hk mo (by simp), hk sc (by simp), branchesT_congr 0 br (fun y hy => hk2 y (by simp [hy]))]
 split
 · generalize kidL k = L at *
   match L with
   | [] => rfl
   | [_] => rfl
   | x :: y :: _ => simp only; rw [hk x (by simp), hk y (by simp)]
 split
 · generalize kidL k = L at *
   match L with
   | [] => rfl
   | [_] => rfl
   | [_, _] => rfl
   | x :: y :: z :: _ => simp only; rw [hk x (by simp), hk y (by simp), hk z (by simp)]
 split
 · exact pairsT_congr _ hk
 rfl
theorem all_congr' {α : Type} {f g : α → Bool} : ∀ {L : List α}, (∀ y ∈ L, f y = g y) → L.all f = L.all g
 | [], _ => rfl
 | x :: L, h => by
  simp only [List.all_cons]
  rw [h x (by simp), all_congr' (fun y hy => h y (by simp [hy]))]
theorem fine_fuel {places : List Int} {ca : Int → Nat → Nat} : ∀ (f g : Nat) (zs : List Int) (x : TT), szT x ≤ f → szT x ≤ g → fineT places ca f zs x = fineT places ca g zs x
 | 0, _, _, (n, a, k), h, _ => by rw [szT_eq] at h; omega
 | _ + 1, 0, _, (n, a, k), _, h => by rw [szT_eq] at h; omega
 | f + 1, g + 1, zs, x, h, h' => by
  rw [fineT_suc, fineT_suc]
  obtain ⟨h1, h2⟩ := hdW_size x
  rw [all_congr' (g := fineT places ca g zs) (fun y hy => fine_fuel f g zs y (by have := h2 y hy; omega) (by have := h2 y hy; omega)), headW_congr (r2 := fineT places ca g) (fun zs' y hy => fine_fuel f g zs' y (by omega) (by omega))]
def fineW (places : List Int) (ca : Int → Nat → Nat) (zs : List Int) (x : TT) : Bool := fineT places ca (szT x) zs x
theorem fineW_fuel {places : List Int} {ca : Int → Nat → Nat} {f : Nat} {zs : List Int} {x : TT} (h : szT x ≤ f) : fineT places ca f zs x = fineW places ca zs x := fine_fuel _ _ _ _ h (Nat.le_refl _)
theorem fineW_eq (places : List Int) (ca : Int → Nat → Nat) (zs : List Int) (x : TT) : fineW places ca zs x = ((hdW x).2.all (fineW places ca zs) && headW places ca (fineW places ca) zs (hdW x).1 (hdW x).2) := by
 obtain ⟨h1, h2⟩ := hdW_size x
 obtain ⟨m, hm⟩ : ∃ m, szT x = m + 1 := ⟨szT x - 1, by obtain ⟨n, a, k⟩ := x; rw [szT_eq]; omega⟩
 have : fineW places ca zs x = fineT places ca (m + 1) zs x := by unfold fineW; rw [hm]
 rw [this, fineT_suc, all_congr' (g := fineW places ca zs) (fun y hy => fineW_fuel (by have := h2 y hy; omega)), headW_congr (r2 := fineW places ca) (fun zs' y hy => fineW_fuel (by omega))]
end Go.Proofs.Ytjllmblbbgojbaa
