/- Free variables replaced: a term is fine as before. -/
import Derived.Test.YtpkldboeohhmpaaFineW
namespace Go.Proofs.Ytpkldboeohhmpaa
open Go.RowKit

/-- A forest in which variables have been replaced. -/
def trF (σ : Int → Nd → TT) (pop pb : Int) : Nat → Int → Fo → Fo
  | _, _, .nil => .nil
  | j, a, .cons p n ats k x =>
    if n.op = 1 then .cons p (σ (a + aroundI pop pb j) n).1 (σ (a + aroundI pop pb j) n).2.1 (σ (a + aroundI pop pb j) n).2.2 (trF σ pop pb (j + 1) a x)
    else .cons p n ats (trF σ n.op n.b 0 (a + aroundI pop pb j) k) (trF σ pop pb (j + 1) a x)
def trT (σ : Int → Nd → TT) (a : Int) (x : TT) : TT := if x.1.op = 1 then σ a x.1 else (x.1, x.2.1, trF σ x.1.op x.1.b 0 a x.2.2)
def trL (σ : Int → Nd → TT) (pop pb : Int) : Nat → Int → List TT → List TT
  | _, _, [] => []
  | j, a, y :: L => trT σ (a + aroundI pop pb j) y :: trL σ pop pb (j + 1) a L
section
variable {σ : Int → Nd → TT}
theorem trT_var {a : Int} {x : TT} (h : x.1.op = 1) : trT σ a x = σ a x.1 := by unfold trT; rw [if_pos h]
theorem trT_other {a : Int} {x : TT} (h : x.1.op ≠ 1) : trT σ a x = (x.1, x.2.1, trF σ x.1.op x.1.b 0 a x.2.2) := by unfold trT; rw [if_neg h]
theorem trF_cons (pop pb : Int) (j : Nat) (a : Int) (p : List Nd) (n : Nd) (ats : List Nd) (k x : Fo) : trF σ pop pb j a (.cons p n ats k x) = .cons p (trT σ (a + aroundI pop pb j) (n, ats, k)).1 (trT σ (a + aroundI pop pb j) (n, ats, k)).2.1 (trT σ (a + aroundI pop pb j) (n, ats, k)).2.2 (trF σ pop pb (j + 1) a x) := by
  simp only [trF, trT]
  split <;> rfl
theorem kidL_cons (p : List Nd) (n : Nd) (a : List Nd) (k x : Fo) : kidL (.cons p n a k x) = (n, a, k) :: kidL x := rfl
theorem kidL_tr (pop pb : Int) : ∀ (j : Nat) (a : Int) (F : Fo), kidL (trF σ pop pb j a F) = trL σ pop pb j a (kidL F)
  | _, _, .nil => rfl
  | j, a, .cons p n ats k x => by
    rw [trF_cons, kidL_cons, kidL_cons, kidL_tr pop pb (j + 1) a x]
    rfl
theorem trL_len (pop pb : Int) : ∀ (j : Nat) (a : Int) (L : List TT), (trL σ pop pb j a L).length = L.length
  | _, _, [] => rfl
  | j, a, y :: L => by simp only [trL, List.length_cons, trL_len pop pb (j + 1) a L]
theorem press_tr (pop pb : Int) : ∀ (j : Nat) (a : Int) (F : Fo), press (trF σ pop pb j a F) = press F
  | _, _, .nil => rfl
  | j, a, .cons p n ats k x => by rw [trF_cons, press, press, press_tr pop pb (j + 1) a x]
/-- A list of kids that have no binders around them. -/
theorem trL_plain {pop pb : Int} (h : ∀ j : Nat, aroundI pop pb (j : Int) = 0) : ∀ (j : Nat) (a : Int) (L : List TT), trL σ pop pb j a L = L.map (trT σ a)
  | _, _, [] => rfl
  | j, a, y :: L => by
    simp only [trL, List.map_cons, trL_plain h (j + 1) a L, h j, Int.add_zero]
theorem around_plain {op b : Int} (h4 : op ≠ 4) (h5 : op ≠ 5) (h7 : op ≠ 7) (h12 : op ≠ 12) (k : Int) : aroundI op b k = 0 := by
  unfold aroundI
  rw [if_neg (by omega), if_neg (by omega)]

/-- Every fix of a tree has so many functions. -/
def BOk : Fo → Prop
  | .nil => True
  | .cons _ n _ k x => (n.op = 12 → 0 ≤ n.b) ∧ BOk k ∧ BOk x
def BOkT (x : TT) : Prop := (x.1.op = 12 → 0 ≤ x.1.b) ∧ BOk x.2.2
theorem bok_kid : ∀ {k : Fo} {y : TT}, BOk k → y ∈ kidL k → BOkT y
  | .nil, y, _, h => by cases h
  | .cons p n a k x, y, hb, h => by
    rw [show kidL (.cons p n a k x) = (n, a, k) :: kidL x from rfl] at h
    obtain ⟨h1, h2, h3⟩ := hb
    rcases List.mem_cons.1 h with rfl | h
    · exact ⟨h1, h2⟩
    · exact bok_kid h3 h
theorem bok_hd : ∀ (s : Nat) (x : TT), szT x ≤ s → BOkT x → BOkT (hdW x).1 ∧ ∀ y ∈ (hdW x).2, BOkT y
  | 0, (n, a, k), h, _ => by rw [szT_eq] at h; omega
  | s + 1, (n, a, k), h, hb => by
    by_cases h6 : n.op = 6
    · match k, h, hb with
      | .nil, _, hb => rw [hdW_few (by simp [kidL])]; exact ⟨hb, fun y hy => by cases hy⟩
      | .cons p n1 a1 k1 .nil, _, hb => rw [hdW_few (by simp [kidL])]; exact ⟨hb, fun y hy => by cases hy⟩
      | .cons p n1 a1 k1 (.cons q n2 a2 k2 r), hs, hb =>
        rw [hdW_app h6]
        have h0 : szT (n, a, .cons p n1 a1 k1 (.cons q n2 a2 k2 r)) = 1 + a.length + (p.length + szT (n1, a1, k1) + (q.length + szT (n2, a2, k2) + (row r).length)) := by rw [szT_eq, sz_cons, sz_cons]
        obtain ⟨_, b1, b2, b3, b4, _⟩ := hb
        obtain ⟨i1, i2⟩ := bok_hd s (n1, a1, k1) (by omega) ⟨b1, b2⟩
        refine ⟨i1, fun y hy => ?_⟩
        rcases List.mem_append.1 hy with hy | hy
        · exact i2 y hy
        · rw [List.mem_singleton] at hy; subst hy; exact ⟨b3, b4⟩
    · rw [hdW_stop h6]
      exact ⟨hb, fun y hy => by cases hy⟩

variable {places : List Int} {ca : Int → Nat → Nat}
/-- A term that does no harm where so many variables have marks. -/
structure Harm (places : List Int) (ca : Int → Nat → Nat) (a : Int) (y : TT) : Prop where
  fine : ∀ zs : List Int, (zs.length : Int) ≤ a → fineW places ca zs y = true
  branch : ∀ (zs : List Int) (m : Nat), (zs.length : Int) ≤ a → branchT (fineW places ca) m zs y = true
  head : (hdW y).1.1.op = 1 → a ≤ (hdW y).1.1.a
structure Sig (places : List Int) (ca : Int → Nat → Nat) (σ : Int → Nd → TT) : Prop where
  bound : ∀ a n, n.op = 1 → n.a < a → σ a n = (n, [], .nil)
  free : ∀ a n, 0 ≤ a → n.op = 1 → a ≤ n.a → Harm places ca a (σ a n)
theorem ofI_far {zs : List Int} {a v : Int} (h : (zs.length : Int) ≤ a) (hv : a ≤ v) : ofI zs v = 0 := by
  unfold ofI
  rw [if_pos (by omega)]

theorem hdW_tr (H : Sig places ca σ) (a : Int) : ∀ (s : Nat) (x : TT), szT x ≤ s →
    (((hdW x).1.1.op = 1 → (hdW x).1.1.a < a) → hdW (trT σ a x) = (trT σ a (hdW x).1, (hdW x).2.map (trT σ a))) ∧
    ((hdW x).1.1.op = 1 → a ≤ (hdW x).1.1.a → hdW (trT σ a x) = ((hdW (σ a (hdW x).1.1)).1, (hdW (σ a (hdW x).1.1)).2 ++ (hdW x).2.map (trT σ a)))
  | 0, (n, ats, k), h => by rw [szT_eq] at h; omega
  | s + 1, (n, ats, k), h => by
    by_cases h6 : n.op = 6
    · have h1 : n.op ≠ 1 := by omega
      have e := trT_other (σ := σ) (a := a) (x := (n, ats, k)) h1
      rw [e]
      simp only
      by_cases hk : (kidL k).length < 2
      · have e1 : hdW (n, ats, k) = ((n, ats, k), []) := hdW_few hk
        have e2 : hdW (n, ats, trF σ n.op n.b 0 a k) = ((n, ats, trF σ n.op n.b 0 a k), []) := hdW_few (by simp only; rw [kidL_tr, trL_len]; exact hk)
        rw [e1, e2]
        refine ⟨fun _ => ?_, fun h => absurd h h1⟩
        simp only [List.map_nil]
        rw [e]
      · match k, hk, h with
        | .nil, hk, _ => simp [kidL] at hk
        | .cons p n1 a1 k1 .nil, hk, _ => simp [kidL] at hk
        | .cons p n1 a1 k1 (.cons q n2 a2 k2 r), _, h =>
          have h0 : szT (n, ats, .cons p n1 a1 k1 (.cons q n2 a2 k2 r)) = 1 + ats.length + (p.length + szT (n1, a1, k1) + (q.length + szT (n2, a2, k2) + (row r).length)) := by rw [szT_eq, sz_cons, sz_cons]
          obtain ⟨i1, i2⟩ := hdW_tr H a s (n1, a1, k1) (by omega)
          have z : ∀ j : Int, aroundI n.op n.b j = 0 := around_plain (by omega) (by omega) (by omega) (by omega)
          rw [trF_cons, trF_cons, hdW_app h6, hdW_app h6, z, z, Int.add_zero]
          simp only
          refine ⟨fun hh => ?_, fun h1 h2 => ?_⟩
          · rw [show ((trT σ a (n1, a1, k1)).1, (trT σ a (n1, a1, k1)).2.1, (trT σ a (n1, a1, k1)).2.2) = trT σ a (n1, a1, k1) from rfl, i1 hh, List.map_append]
            rfl
          · rw [show ((trT σ a (n1, a1, k1)).1, (trT σ a (n1, a1, k1)).2.1, (trT σ a (n1, a1, k1)).2.2) = trT σ a (n1, a1, k1) from rfl, i2 h1 h2, List.map_append]
            simp only [List.append_assoc]
            rfl
    · rw [hdW_stop (x := (n, ats, k)) h6]
      simp only [List.map_nil, List.append_nil]
      by_cases h1 : n.op = 1
      · rw [trT_var (σ := σ) (a := a) (x := (n, ats, k)) h1]
        refine ⟨fun hh => ?_, fun _ _ => rfl⟩
        rw [H.bound a n h1 (hh h1)]
        exact hdW_stop h6
      · rw [trT_other (σ := σ) (a := a) (x := (n, ats, k)) h1]
        exact ⟨fun _ => hdW_stop h6, fun h => absurd h h1⟩
theorem lessT_hd (zs : List Int) (x : TT) : lessT zs x = ((hdW x).1.1.op == 1 && ofI zs (hdW x).1.1.a == 2) := rfl
theorem downT_hd (zs : List Int) (x : TT) : downT zs x = ((if (hdW x).1.1.op = 1 then ofI zs (hdW x).1.1.a else 0) == 2 || ((if (hdW x).1.1.op = 1 then ofI zs (hdW x).1.1.a else 0) == 1 && (hdW x).2.isEmpty)) := rfl
theorem trT_bound (H : Sig places ca σ) {a : Int} {x : TT} (h : x.1.op = 1) (hb : x.1.a < a) : trT σ a x = (x.1, [], .nil) := by rw [trT_var h, H.bound _ _ h hb]
theorem trT_op {a : Int} {x : TT} (h : x.1.op ≠ 1) : (trT σ a x).1 = x.1 := by rw [trT_other h]
theorem less_tr (H : Sig places ca σ) {a : Int} {zs : List Int} (hz : (zs.length : Int) ≤ a) (x : TT) : lessT zs (trT σ a x) = lessT zs x := by
  obtain ⟨i1, i2⟩ := hdW_tr H a (szT x) x (Nat.le_refl _)
  rw [lessT_hd, lessT_hd]
  by_cases h1 : (hdW x).1.1.op = 1
  · by_cases h2 : (hdW x).1.1.a < a
    · rw [i1 (fun _ => h2)]
      simp only
      rw [trT_bound H h1 h2]
    · rw [i2 h1 (by omega), ofI_far hz (by omega : a ≤ (hdW x).1.1.a)]
      simp only
      have hh := (H.free a (hdW x).1.1 (by omega) h1 (by omega)).head
      by_cases h3 : (hdW (σ a (hdW x).1.1)).1.1.op = 1
      · rw [ofI_far hz (hh h3)]
        simp
      · simp [h3]
  · rw [i1 (fun h => absurd h h1)]
    simp only
    rw [trT_op h1]
theorem down_tr (H : Sig places ca σ) {a : Int} {zs : List Int} (hz : (zs.length : Int) ≤ a) (x : TT) : downT zs (trT σ a x) = downT zs x := by
  obtain ⟨i1, i2⟩ := hdW_tr H a (szT x) x (Nat.le_refl _)
  rw [downT_hd, downT_hd]
  by_cases h1 : (hdW x).1.1.op = 1
  · by_cases h2 : (hdW x).1.1.a < a
    · rw [i1 (fun _ => h2)]
      simp only
      rw [trT_bound H h1 h2]
      simp
    · rw [i2 h1 (by omega), ofI_far hz (by omega : a ≤ (hdW x).1.1.a)]
      simp only
      have hh := (H.free a (hdW x).1.1 (by omega) h1 (by omega)).head
      by_cases h3 : (hdW (σ a (hdW x).1.1)).1.1.op = 1
      · rw [ofI_far hz (hh h3)]
        simp
      · simp [h3]
  · rw [i1 (fun h => absurd h h1)]
    simp only
    rw [trT_op h1]
    simp
theorem branchT_not5 {r : List Int → TT → Bool} {y : TT} (h : y.1.op ≠ 5) : ∀ (m : Nat) (zs : List Int), branchT r m zs y = r zs y
  | 0, zs => rfl
  | m + 1, zs => by
    obtain ⟨n, a, k⟩ := y
    match k with
    | .nil => rfl
    | .cons p n1 a1 k1 .nil => rfl
    | .cons p n1 a1 k1 (.cons q n2 a2 k2 r') => simp only [branchT]; rw [if_neg h]
theorem branchT_few {r : List Int → TT → Bool} {y : TT} (h : (kidL y.2.2).length < 2) : ∀ (m : Nat) (zs : List Int), branchT r m zs y = r zs y
  | 0, zs => rfl
  | m + 1, zs => by
    obtain ⟨n, a, k⟩ := y
    match k, h with
    | .nil, _ => rfl
    | .cons p n1 a1 k1 .nil, _ => rfl
    | .cons p n1 a1 k1 (.cons q n2 a2 k2 r'), h => simp [kidL] at h; omega
theorem branch_tr (H : Sig places ca σ) : ∀ (m : Nat) (a : Int) (zs : List Int) (y : TT), BOkT y → (zs.length : Int) ≤ a → (∀ (a' : Int) (zs' : List Int) (y' : TT), szT y' ≤ szT y → BOkT y' → (zs'.length : Int) ≤ a' → fineW places ca zs' (trT σ a' y') = fineW places ca zs' y') → branchT (fineW places ca) m zs (trT σ a y) = branchT (fineW places ca) m zs y
  | 0, a, zs, y, hy, hz, ih => ih a zs y (Nat.le_refl _) hy hz
  | m + 1, a, zs, (n, ats, k), hy, hz, ih => by
    by_cases h1 : n.op = 1
    · rw [branchT_not5 (y := (n, ats, k)) (by simp only; omega), ← ih a zs _ (Nat.le_refl _) hy hz]
      by_cases h2 : n.a < a
      · rw [trT_bound H (x := (n, ats, k)) h1 h2]
        exact branchT_not5 (by simp only; omega) _ _
      · have hh := H.free a n (by omega) h1 (by omega)
        rw [trT_var (x := (n, ats, k)) h1]
        exact (hh.branch zs (m + 1) hz).trans (hh.fine zs hz).symm
    · by_cases h5 : n.op = 5
      · by_cases hk : (kidL k).length < 2
        · rw [branchT_few (y := (n, ats, k)) hk, ← ih a zs _ (Nat.le_refl _) hy hz]
          refine branchT_few ?_ _ _
          rw [trT_other (x := (n, ats, k)) h1]
          simp only
          rw [kidL_tr, trL_len]
          exact hk
        · match k, hk, ih, hy with
          | .nil, hk, _, _ => simp [kidL] at hk
          | .cons p n1 a1 k1 .nil, hk, _, _ => simp [kidL] at hk
          | .cons p n1 a1 k1 (.cons q n2 a2 k2 r), _, ih, hy =>
            obtain ⟨_, b1, b2, b3, b4, _⟩ := hy
            have h0 : szT (n, ats, .cons p n1 a1 k1 (.cons q n2 a2 k2 r)) = 1 + ats.length + (p.length + szT (n1, a1, k1) + (q.length + szT (n2, a2, k2) + (row r).length)) := by rw [szT_eq, sz_cons, sz_cons]
            have e0 : aroundI n.op n.b ((0 : Nat) : Int) = 0 := by rw [h5]; simp [aroundI]
            have e1 : aroundI n.op n.b ((0 + 1 : Nat) : Int) = 1 := by rw [h5]; simp [aroundI]
            rw [trT_other (x := (n, ats, .cons p n1 a1 k1 (.cons q n2 a2 k2 r))) h1]
            simp only
            rw [trF_cons, trF_cons, e0, e1, Int.add_zero]
            simp only [branchT]
            rw [if_pos h5, if_pos h5]
            have i1 := ih a zs (n1, a1, k1) (by omega) ⟨b1, b2⟩ hz
            have i2 := branch_tr H m (a + 1) (zs ++ [2]) (n2, a2, k2) ⟨b3, b4⟩ (by simp; omega) (fun a' zs' y' h => ih a' zs' y' (by omega))
            rw [show ((trT σ a (n1, a1, k1)).1, (trT σ a (n1, a1, k1)).2.1, (trT σ a (n1, a1, k1)).2.2) = trT σ a (n1, a1, k1) from rfl, show ((trT σ (a + 1) (n2, a2, k2)).1, (trT σ (a + 1) (n2, a2, k2)).2.1, (trT σ (a + 1) (n2, a2, k2)).2.2) = trT σ (a + 1) (n2, a2, k2) from rfl, i1, i2]
      · rw [branchT_not5 (y := (n, ats, k)) h5, ← ih a zs _ (Nat.le_refl _) hy hz]
        refine branchT_not5 ?_ _ _
        rw [trT_op (x := (n, ats, k)) h1]
        exact h5
theorem branches_tr (H : Sig places ca σ) {a : Int} {zs : List Int} (hz : (zs.length : Int) ≤ a) {ca' : Nat → Nat} : ∀ (k : Nat) (L : List TT), (∀ y ∈ L, BOkT y) → (∀ y ∈ L, ∀ (a' : Int) (zs' : List Int) (y' : TT), szT y' ≤ szT y → BOkT y' → (zs'.length : Int) ≤ a' → fineW places ca zs' (trT σ a' y') = fineW places ca zs' y') → branchesT (fineW places ca) ca' zs k (L.map (trT σ a)) = branchesT (fineW places ca) ca' zs k L
  | _, [], _, _ => rfl
  | k, y :: L, hb, h => by
    simp only [List.map_cons, branchesT]
    rw [branch_tr H _ a zs y (hb y (by simp)) hz (h y (by simp)), branches_tr H hz (k + 1) L (fun z hz => hb z (by simp [hz])) (fun z hz => h z (by simp [hz]))]
theorem pairs_tr {a : Int} {zs zu : List Int} {b : Int} (hz : (zs.length : Int) ≤ a) (hu : (zu.length : Int) ≤ a + b) : ∀ (j : Nat) (L : List TT), j % 2 = 0 → (∀ y ∈ L, ∀ (a' : Int) (zs' : List Int), (zs'.length : Int) ≤ a' → fineW places ca zs' (trT σ a' y) = fineW places ca zs' y) → pairsT (fineW places ca) zs zu (trL σ 12 b j a L) = pairsT (fineW places ca) zs zu L
  | _, [], _, _ => rfl
  | _, [_], _, _ => rfl
  | j, t :: y :: L, hj, h => by
    have e0 : aroundI 12 b (j : Int) = 0 := by unfold aroundI; rw [if_neg (by omega), if_neg (by omega)]
    have e1 : aroundI 12 b ((j + 1 : Nat) : Int) = b := by unfold aroundI; rw [if_neg (by omega), if_pos (by omega)]
    simp only [trL, pairsT, e0, e1, Int.add_zero]
    rw [h t (by simp) a zs hz, h y (by simp) (a + b) zu hu, pairs_tr hz hu (j + 2) L (by omega) (fun z hz => h z (by simp [hz]))]
theorem all_map_congr {f g : TT → Bool} {h : TT → TT} : ∀ {L : List TT}, (∀ y ∈ L, f (h y) = g y) → (L.map h).all f = L.all g
  | [], _ => rfl
  | x :: L, hh => by
    simp only [List.map_cons, List.all_cons]
    rw [hh x (by simp), all_map_congr (fun y hy => hh y (by simp [hy]))]
/-- Of a head that is no free variable. -/
theorem head_tr (H : Sig places ca σ) {a : Int} {zs : List Int} (hz : (zs.length : Int) ≤ a) {h : TT} {args : List TT} (hb : h.1.op = 1 → h.1.a < a) (ih : ∀ (y : TT), szT y < szT h → BOkT y → ∀ (a' : Int) (zs' : List Int), (zs'.length : Int) ≤ a' → fineW places ca zs' (trT σ a' y) = fineW places ca zs' y) (hok : BOkT h) :
    headW places ca (fineW places ca) zs (trT σ a h) (args.map (trT σ a)) = headW places ca (fineW places ca) zs h args := by
  by_cases h1 : h.1.op = 1
  · rw [trT_bound H h1 (hb h1)]
    unfold headW
    simp only
    rw [if_pos h1, if_pos h1, List.getElem?_map]
    split
    · rfl
    · cases args[(places.getD (ofI zs h.1.a - 100).toNat 0).toNat]? with
      | none => rfl
      | some y => exact less_tr H hz y
  · rw [trT_other h1]
    obtain ⟨n, ats, k⟩ := h
    simp only at h1 ih ⊢
    have hkb : ∀ y ∈ kidL k, BOkT y := fun y hy => bok_kid hok.2 hy
    have hk : ∀ y ∈ kidL k, ∀ (a' : Int) (zs' : List Int), (zs'.length : Int) ≤ a' → fineW places ca zs' (trT σ a' y) = fineW places ca zs' y := fun y hy => ih y (by have := sz_kid hy; rw [szT_eq n ats k]; omega) (hkb y hy)
    have hk2 : ∀ y ∈ kidL k, ∀ (a' : Int) (zs' : List Int) (y' : TT), szT y' ≤ szT y → BOkT y' → (zs'.length : Int) ≤ a' → fineW places ca zs' (trT σ a' y') = fineW places ca zs' y' := fun y hy a' zs' y' h hb => ih y' (by have := sz_kid hy; rw [szT_eq n ats k]; omega) hb a' zs'
    unfold headW
    simp only
    rw [if_neg h1, if_neg h1, kidL_tr]
    generalize kidL k = L at *
    have z1 : ∀ m : Int, ((zs ++ [m]).length : Int) ≤ a + 1 := fun m => by simp; omega
    split
    · rename_i h11
      rw [trL_plain (fun j => around_plain (by omega) (by omega) (by omega) (by omega) _)]
      match L with
      | [] => rfl
      | [_] => rfl
      | mo :: sc :: br =>
        simp only [List.map_cons]
        rw [hk mo (by simp) a zs hz, hk sc (by simp) a zs hz, down_tr H hz, branches_tr H hz 0 br (fun y hy => hkb y (by simp [hy])) (fun y hy => hk2 y (by simp [hy]))]
    · split
      · rename_i h45
        have e0 : aroundI n.op n.b ((0 : Nat) : Int) = 0 := by unfold aroundI; rw [if_neg (by omega), if_neg (by omega)]
        have e1 : aroundI n.op n.b ((0 + 1 : Nat) : Int) = 1 := by unfold aroundI; rw [if_pos (by omega)]
        match L with
        | [] => rfl
        | [_] => rfl
        | x :: y :: _ =>
          simp only [trL, e0, e1, Int.add_zero]
          rw [hk x (by simp) a zs hz, hk y (by simp) (a + 1) _ (z1 0)]
      · split
        · rename_i h7
          have e0 : aroundI n.op n.b ((0 : Nat) : Int) = 0 := by unfold aroundI; rw [if_neg (by omega), if_neg (by omega)]
          have e1 : aroundI n.op n.b ((0 + 1 : Nat) : Int) = 0 := by unfold aroundI; rw [if_neg (by omega), if_neg (by omega)]
          have e2 : aroundI n.op n.b ((0 + 1 + 1 : Nat) : Int) = 1 := by unfold aroundI; rw [if_pos (by omega)]
          match L with
          | [] => rfl
          | [_] => rfl
          | [_, _] => rfl
          | x :: y :: z :: _ =>
            simp only [trL, e0, e1, e2, Int.add_zero]
            rw [hk x (by simp) a zs hz, hk y (by simp) a zs hz, hk z (by simp) (a + 1) _ (z1 0)]
        · split
          · rename_i h12
            have hb0 := hok.1 h12
            simp only at hb0
            rw [h12]
            exact pairs_tr hz (by simp; omega) 0 L rfl hk
          · rfl

/-- A term is fine as before. -/
theorem fine_tr (H : Sig places ca σ) : ∀ (s : Nat) (x : TT), szT x ≤ s → BOkT x → ∀ (a : Int) (zs : List Int), (zs.length : Int) ≤ a → fineW places ca zs (trT σ a x) = fineW places ca zs x
  | 0, (n, ats, k), h, _, _, _, _ => by rw [szT_eq] at h; omega
  | s + 1, x, hs, hb, a, zs, hz => by
    obtain ⟨i1, i2⟩ := hdW_tr H a (szT x) x (Nat.le_refl _)
    obtain ⟨z1, z2⟩ := hdW_size x
    obtain ⟨b1, b2⟩ := bok_hd (szT x) x (Nat.le_refl _) hb
    have hargs : ((hdW x).2.map (trT σ a)).all (fineW places ca zs) = (hdW x).2.all (fineW places ca zs) := all_map_congr (fun y hy => fine_tr H s y (by have := z2 y hy; omega) (b2 y hy) a zs hz)
    rw [fineW_eq places ca zs x, fineW_eq places ca zs (trT σ a x)]
    by_cases hf : (hdW x).1.1.op = 1 ∧ a ≤ (hdW x).1.1.a
    · obtain ⟨h1, h2⟩ := hf
      rw [i2 h1 h2]
      simp only
      have hh := H.free a (hdW x).1.1 (by omega) h1 h2
      have h3 := hh.fine zs hz
      rw [fineW_eq, Bool.and_eq_true] at h3
      rw [List.all_append, h3.1, Bool.true_and, hargs]
      have e1 : headW places ca (fineW places ca) zs (hdW x).1 (hdW x).2 = true := by
        unfold headW
        rw [if_pos h1, ofI_far hz h2]; rfl
      have e2 : ∀ args, headW places ca (fineW places ca) zs (hdW (σ a (hdW x).1.1)).1 args = true := by
        intro args
        by_cases h4 : (hdW (σ a (hdW x).1.1)).1.1.op = 1
        · unfold headW
          rw [if_pos h4, ofI_far hz (hh.head h4)]; rfl
        · have := h3.2
          unfold headW at this ⊢
          rw [if_neg h4] at this ⊢
          exact this
      rw [e1, e2]
    · have hb' : (hdW x).1.1.op = 1 → (hdW x).1.1.a < a := fun h1 => by
        rcases Int.lt_or_le (hdW x).1.1.a a with h | h
        · exact h
        · exact absurd ⟨h1, h⟩ hf
      rw [i1 hb']
      simp only
      rw [hargs, head_tr H hz hb' (fun y hy hby a' zs' hz' => fine_tr H s y (by omega) hby a' zs' hz') b1]
end
end Go.Proofs.Ytpkldboeohhmpaa
