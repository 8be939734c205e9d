/- The fixes of a row, told of forests; free variables replaced. -/
import Derived.Test.YtpkldboeohhmpaaFines
import Derived.Test.YtpkldboeohhmpaaTr
namespace Go.Proofs.Ytpkldboeohhmpaa
open Go.RowKit

/-- Is a fix guarded? -/
def guardN (ca : Int → Nat → Nat) (x : TT) : Bool := guardT ca (szT x) x
theorem bodyT_congr {r1 r2 : List Int → TT → Bool} : ∀ (n : Nat) (zs : List Int) (y : TT), (∀ zs' y', szT y' ≤ szT y → r1 zs' y' = r2 zs' y') → bodyT r1 n zs y = bodyT r2 n zs y
  | 0, zs, y, h => h zs y (Nat.le_refl _)
  | n + 1, zs, (nd, a, .nil), h => rfl
  | n + 1, zs, (nd, a, .cons p n1 a1 k1 .nil), h => rfl
  | n + 1, zs, (nd, a, .cons p n1 a1 k1 (.cons q n2 a2 k2 r)), h => by
    have h0 : szT (nd, a, .cons p n1 a1 k1 (.cons q n2 a2 k2 r)) = 1 + a.length + (p.length + szT (n1, a1, k1) + (q.length + szT (n2, a2, k2) + (row r).length)) := by rw [szT_eq, sz_cons, sz_cons]
    simp only [bodyT]
    rw [h zs (n1, a1, k1) (by omega), bodyT_congr n _ (n2, a2, k2) (fun zs' y' hy => h zs' y' (by omega))]
theorem guardL_congr {r1 r2 : List Int → TT → Bool} {zs : List Int} : ∀ (pl : List Int) (ts bs : List TT), (∀ y ∈ bs, ∀ zs' y', szT y' ≤ szT y → r1 zs' y' = r2 zs' y') → guardL r1 zs pl ts bs = guardL r2 zs pl ts bs
  | [], _, _, _ => by simp [guardL]
  | _ :: _, [], _, _ => by simp [guardL]
  | _ :: _, _ :: _, [], _ => by simp [guardL]
  | p :: pl, t :: ts, b :: bs, h => by
    simp only [guardL]
    rw [bodyT_congr _ _ b (h b (by simp)), guardL_congr pl ts bs (fun y hy => h y (by simp [hy]))]
theorem bds_in : ∀ {L : List TT} {y : TT}, y ∈ bdsT L → y ∈ L
  | [], _, h => by simp [bdsT] at h
  | [_], _, h => by simp [bdsT] at h
  | t :: b :: r, y, h => by
    simp only [bdsT, List.mem_cons] at h ⊢
    rcases h with rfl | h
    · exact .inr (.inl rfl)
    · exact .inr (.inr (bds_in h))
theorem tys_in : ∀ {L : List TT} {y : TT}, y ∈ tysT L → y ∈ L
  | [], _, h => by simp [tysT] at h
  | [_], _, h => by simp [tysT] at h
  | t :: b :: r, y, h => by
    simp only [tysT, List.mem_cons] at h ⊢
    rcases h with rfl | h
    · exact .inl rfl
    · exact .inr (.inr (tys_in h))
theorem guardT_eq {ca : Int → Nat → Nat} {m : Nat} {x : TT} (hm : szT x ≤ m) : guardT ca m x = guardL (fineW (placesT x.2.2) ca) (marks0 x.1.b.toNat) (placesT x.2.2) (tysT (kidL x.2.2)) (bdsT (kidL x.2.2)) := by
  obtain ⟨n, a, k⟩ := x
  rw [szT_eq] at hm
  unfold guardT
  exact guardL_congr _ _ _ (fun y hy zs' y' hy' => fineW_fuel (by have h1 := sz_kid (bds_in hy); simp only at h1; omega))
theorem guardN_eq {ca : Int → Nat → Nat} {x : TT} : guardN ca x = guardL (fineW (placesT x.2.2) ca) (marks0 x.1.b.toNat) (placesT x.2.2) (tysT (kidL x.2.2)) (bdsT (kidL x.2.2)) := guardT_eq (Nat.le_refl _)

section
variable {σ : Int → Nd → TT} {places : List Int} {ca : Int → Nat → Nat}
/-- What takes a free variable's place is a variable. -/
def KeepV (σ : Int → Nd → TT) : Prop := ∀ a n, n.op = 1 → a ≤ n.a → (σ a n).1.op = 1
theorem takenT_few {p : Nat} {y : TT} (h : (kidL y.2.2).length < 2) : takenT p y = false := by
  obtain ⟨n, a, k⟩ := y
  match k, h with
  | .nil, _ => cases p <;> rfl
  | .cons _ n1 a1 k1 .nil, _ => cases p <;> rfl
  | .cons p' n1 a1 k1 (.cons q n2 a2 k2 r'), h => simp [kidL] at h; omega
theorem bodyT_few {r : List Int → TT → Bool} {m : Nat} {zs : List Int} {y : TT} (h : (kidL y.2.2).length < 2) : bodyT r (m + 1) zs y = false := by
  obtain ⟨n, a, k⟩ := y
  match k, h with
  | .nil, _ => rfl
  | .cons _ n1 a1 k1 .nil, _ => rfl
  | .cons p' n1 a1 k1 (.cons q n2 a2 k2 r'), h => simp [kidL] at h; omega
theorem taken_tr (H : Sig places ca σ) : ∀ (p : Nat) (a : Int) (y : TT), (takenT p y = true → takenT p (trT σ a y) = true) ∧ (KeepV σ → takenT p (trT σ a y) = takenT p y)
  | p, a, (n, ats, k) => by
    by_cases h4 : n.op = 4
    case neg =>
      rw [takenT_stop (y := (n, ats, k)) h4]
      refine ⟨fun h => (by cases h), fun hk => takenT_stop ?_⟩
      by_cases h1 : n.op = 1
      · rw [trT_var (x := (n, ats, k)) h1]
        by_cases h2 : n.a < a
        · rw [H.bound a n h1 h2]; exact h4
        · rw [hk a n h1 (by omega)]; decide
      · rw [trT_op (x := (n, ats, k)) h1]; exact h4
    have h1 : n.op ≠ 1 := by omega
    by_cases hk : (kidL k).length < 2
    · rw [takenT_few (y := (n, ats, k)) hk, takenT_few (y := trT σ a (n, ats, k))]
      · exact ⟨id, fun _ => rfl⟩
      · rw [trT_other (x := (n, ats, k)) h1]
        simp only
        rw [kidL_tr, trL_len]
        exact hk
    · match k, hk with
      | .nil, hk => simp [kidL] at hk
      | .cons p' n1 a1 k1 .nil, hk => simp [kidL] at hk
      | .cons p' n1 a1 k1 (.cons q n2 a2 k2 r), _ =>
        have e0 : aroundI n.op n.b ((0 : Nat) : Int) = 0 := by rw [h4]; simp [aroundI]
        have e1 : aroundI n.op n.b ((0 + 1 : Nat) : Int) = 1 := by rw [h4]; simp [aroundI]
        rw [trT_other (x := (n, ats, .cons p' n1 a1 k1 (.cons q n2 a2 k2 r))) h1]
        simp only
        rw [trF_cons, trF_cons, e0, e1, Int.add_zero]
        cases p with
        | zero =>
          simp only [takenT]
          rw [if_pos h4, if_pos h4]
          obtain ⟨i1, i2⟩ := hdW_tr H a (szT (n1, a1, k1)) (n1, a1, k1) (Nat.le_refl _)
          have key : ((hdW (n1, a1, k1)).1.1.op = 9 → (hdW (trT σ a (n1, a1, k1))).1.1.op = 9) ∧ (KeepV σ → (hdW (n1, a1, k1)).1.1.op ≠ 9 → (hdW (trT σ a (n1, a1, k1))).1.1.op ≠ 9) := by
            by_cases hv : (hdW (n1, a1, k1)).1.1.op = 1
            · refine ⟨fun h => by omega, fun hk _ => ?_⟩
              by_cases hb : (hdW (n1, a1, k1)).1.1.a < a
              · rw [i1 (fun _ => hb)]
                simp only
                rw [trT_bound H hv hb]
                omega
              · rw [i2 hv (by omega)]
                simp only
                have := hk a _ hv (by omega : a ≤ (hdW (n1, a1, k1)).1.1.a)
                rw [hdW_stop (by omega)]
                simp only
                omega
            · rw [i1 (fun h => absurd h hv)]
              simp only
              rw [trT_op hv]
              exact ⟨id, fun _ h => h⟩
          show (((hdW (n1, a1, k1)).1.1.op == 9) = true → ((hdW (trT σ a (n1, a1, k1))).1.1.op == 9) = true) ∧ (KeepV σ → ((hdW (trT σ a (n1, a1, k1))).1.1.op == 9) = ((hdW (n1, a1, k1)).1.1.op == 9))
          refine ⟨fun h => by simpa using key.1 (by simpa using h), fun hk => ?_⟩
          by_cases h9 : (hdW (n1, a1, k1)).1.1.op = 9
          · rw [key.1 h9, h9]
          · rw [beq_false_of_ne (key.2 hk h9), beq_false_of_ne h9]
        | succ p =>
          obtain ⟨i1, i2⟩ := taken_tr H p (a + 1) (n2, a2, k2)
          simp only [takenT]
          rw [if_pos h4, if_pos h4]
          exact ⟨i1, i2⟩
theorem body_tr (H : Sig places ca σ) : ∀ (r : Nat) (a : Int) (zs : List Int) (y : TT), BOkT y → (zs.length : Int) ≤ a → (bodyT (fineW places ca) (r + 1) zs y = true → bodyT (fineW places ca) (r + 1) zs (trT σ a y) = true) ∧ (KeepV σ → bodyT (fineW places ca) (r + 1) zs (trT σ a y) = bodyT (fineW places ca) (r + 1) zs y)
  | r, a, zs, (n, ats, k), hb, hz => by
    by_cases h5 : n.op = 5
    case neg =>
      rw [bodyT_stop (y := (n, ats, k)) h5]
      refine ⟨fun h => (by cases h), fun hk => bodyT_stop ?_⟩
      by_cases h1 : n.op = 1
      · rw [trT_var (x := (n, ats, k)) h1]
        by_cases h2 : n.a < a
        · rw [H.bound a n h1 h2]; exact h5
        · rw [hk a n h1 (by omega)]; decide
      · rw [trT_op (x := (n, ats, k)) h1]; exact h5
    have h1 : n.op ≠ 1 := by omega
    by_cases hk : (kidL k).length < 2
    · rw [bodyT_few (y := (n, ats, k)) hk, bodyT_few (y := trT σ a (n, ats, k))]
      · exact ⟨id, fun _ => rfl⟩
      · rw [trT_other (x := (n, ats, k)) h1]
        simp only
        rw [kidL_tr, trL_len]
        exact hk
    · match k, hk, hb with
      | .nil, hk, _ => simp [kidL] at hk
      | .cons p' n1 a1 k1 .nil, hk, _ => simp [kidL] at hk
      | .cons p' n1 a1 k1 (.cons q n2 a2 k2 r'), _, hb =>
        obtain ⟨_, b1, b2, b3, b4, _⟩ := hb
        have e0 : aroundI n.op n.b ((0 : Nat) : Int) = 0 := by rw [h5]; simp [aroundI]
        have e1 : aroundI n.op n.b ((0 + 1 : Nat) : Int) = 1 := by rw [h5]; simp [aroundI]
        rw [trT_other (x := (n, ats, .cons p' n1 a1 k1 (.cons q n2 a2 k2 r'))) h1]
        simp only
        rw [trF_cons, trF_cons, e0, e1, Int.add_zero]
        simp only [bodyT]
        rw [if_pos h5, if_pos h5]
        rw [show ((trT σ a (n1, a1, k1)).1, (trT σ a (n1, a1, k1)).2.1, (trT σ a (n1, a1, k1)).2.2) = trT σ a (n1, a1, k1) from rfl, show ((trT σ (a + 1) (n2, a2, k2)).1, (trT σ (a + 1) (n2, a2, k2)).2.1, (trT σ (a + 1) (n2, a2, k2)).2.2) = trT σ (a + 1) (n2, a2, k2) from rfl, fine_tr H _ (n1, a1, k1) (Nat.le_refl _) ⟨b1, b2⟩ a zs hz]
        cases r with
        | zero =>
          have i2 := fine_tr H _ (n2, a2, k2) (Nat.le_refl _) ⟨b3, b4⟩ (a + 1) (zs ++ [if (0 : Nat) = 0 then 1 else 0]) (by simp; omega)
          simp only [bodyT, if_true] at i2 ⊢
          rw [i2]
          exact ⟨id, fun _ => rfl⟩
        | succ r =>
          obtain ⟨i1, i2⟩ := body_tr H r (a + 1) (zs ++ [if r + 1 = 0 then 1 else 0]) (n2, a2, k2) ⟨b3, b4⟩ (by simp; omega)
          refine ⟨fun h => ?_, fun hk => by rw [i2 hk]⟩
          rw [Bool.and_eq_true] at h ⊢
          exact ⟨h.1, i1 h.2⟩
theorem tys_tr {b a : Int} : ∀ (j : Nat) (L : List TT), j % 2 = 0 → tysT (trL σ 12 b j a L) = (tysT L).map (trT σ a)
  | _, [], _ => rfl
  | _, [_], _ => rfl
  | j, t :: y :: L, hj => by
    have e0 : aroundI 12 b (j : Int) = 0 := by unfold aroundI; rw [if_neg (by omega), if_neg (by omega)]
    simp only [trL, tysT, List.map_cons, e0, Int.add_zero]
    rw [tys_tr (j + 1 + 1) L (by omega)]
theorem bds_tr {b a : Int} : ∀ (j : Nat) (L : List TT), j % 2 = 0 → bdsT (trL σ 12 b j a L) = (bdsT L).map (trT σ (a + b))
  | _, [], _ => rfl
  | _, [_], _ => rfl
  | j, t :: y :: L, hj => by
    have e1 : aroundI 12 b ((j + 1 : Nat) : Int) = b := by unfold aroundI; rw [if_neg (by omega), if_pos (by omega)]
    simp only [trL, bdsT, List.map_cons, e1]
    rw [bds_tr (j + 1 + 1) L (by omega)]
theorem guardL_tr (H : Sig places ca σ) {a b : Int} {zs : List Int} (hz : (zs.length : Int) ≤ a + b) : ∀ (pl : List Int) (ts bs : List TT), (∀ y ∈ bs, BOkT y) → (guardL (fineW places ca) zs pl ts bs = true → guardL (fineW places ca) zs pl (ts.map (trT σ a)) (bs.map (trT σ (a + b))) = true) ∧ (KeepV σ → guardL (fineW places ca) zs pl (ts.map (trT σ a)) (bs.map (trT σ (a + b))) = guardL (fineW places ca) zs pl ts bs)
  | [], _, _, _ => by simp [guardL]
  | _ :: _, [], _, _ => by simp [guardL]
  | _ :: _, _ :: _, [], _ => by simp [guardL]
  | p :: pl, t :: ts, y :: bs, hb => by
    obtain ⟨i1, i2⟩ := guardL_tr H hz pl ts bs (fun y hy => hb y (by simp [hy]))
    obtain ⟨t1, t2⟩ := taken_tr H p.toNat a t
    obtain ⟨b1, b2⟩ := body_tr H p.toNat (a + b) zs y (hb y (by simp)) hz
    simp only [List.map_cons, guardL]
    refine ⟨fun h => ?_, fun hk => by rw [i2 hk, t2 hk, b2 hk]⟩
    rw [Bool.and_eq_true, Bool.and_eq_true] at h ⊢
    exact ⟨⟨t1 h.1.1, b1 h.1.2⟩, i1 h.2⟩
theorem guardN_tr (H : ∀ places, Sig places ca σ) {a : Int} (ha : 0 ≤ a) {x : TT} (h12 : x.1.op = 12) (hb : BOkT x) : (guardN ca x = true → guardN ca (trT σ a x) = true) ∧ (KeepV σ → guardN ca (trT σ a x) = guardN ca x) := by
  obtain ⟨n, ats, k⟩ := x
  simp only at h12
  rw [trT_other (x := (n, ats, k)) (by simp only; omega), guardN_eq, guardN_eq]
  simp only
  have hp : placesT (trF σ n.op n.b 0 a k) = placesT k := by unfold placesT; rw [press_tr]
  rw [hp, kidL_tr, h12, tys_tr 0 _ rfl, bds_tr 0 _ rfl]
  have h0 := hb.1 h12
  simp only at h0
  exact guardL_tr (H _) (by simp only [marks0, List.length_map, List.length_range]; omega) _ _ _ (fun y hy => bok_kid hb.2 (bds_in hy))

/-- All fixes of a forest are guarded. -/
def fixF (ca : Int → Nat → Nat) : Fo → Bool
  | .nil => true
  | .cons _ n a k x => ((if n.op = 12 then guardN ca (n, a, k) else true) && fixF ca k) && fixF ca x
def fixT (ca : Int → Nat → Nat) (x : TT) : Bool := (if x.1.op = 12 then guardN ca x else true) && fixF ca x.2.2
theorem fixF_cons (p : List Nd) (n : Nd) (a : List Nd) (k x : Fo) : fixF ca (.cons p n a k x) = (fixT ca (n, a, k) && fixF ca x) := rfl
/-- Variables have nothing below them. -/
def VkF : Fo → Prop
  | .nil => True
  | .cons _ n ats k x => (n.op = 1 → ats = [] ∧ k = .nil) ∧ VkF k ∧ VkF x
theorem around_ge {op b : Int} (h : op = 12 → 0 ≤ b) (k : Int) : 0 ≤ aroundI op b k := by
  unfold aroundI
  split
  · omega
  · split
    · rename_i h2; exact h h2.1
    · omega
theorem fix_tr (H : ∀ places, Sig places ca σ) (hv : ∀ a n, 0 ≤ a → n.op = 1 → a ≤ n.a → fixT ca (σ a n) = true) (pop pb : Int) (hp : pop = 12 → 0 ≤ pb) : ∀ (j : Nat) (a : Int) (F : Fo), 0 ≤ a → VkF F → BOk F → (fixF ca F = true → fixF ca (trF σ pop pb j a F) = true) ∧ (KeepV σ → fixF ca (trF σ pop pb j a F) = fixF ca F)
  | _, _, .nil, _, _, _ => ⟨id, fun _ => rfl⟩
  | j, a, .cons p n ats k x, ha, hvk, hb => by
    obtain ⟨hk1, hk2, hk3⟩ := hvk
    obtain ⟨hb1, hb2, hb3⟩ := hb
    have ha' : 0 ≤ a + aroundI pop pb j := by have := around_ge hp (j : Int); omega
    obtain ⟨x1, x2⟩ := fix_tr H hv pop pb hp (j + 1) a x ha hk3 hb3
    rw [trF_cons, fixF_cons, fixF_cons]
    have key : (fixT ca (n, ats, k) = true → fixT ca (trT σ (a + aroundI pop pb j) (n, ats, k)) = true) ∧ (KeepV σ → fixT ca (trT σ (a + aroundI pop pb j) (n, ats, k)) = fixT ca (n, ats, k)) := by
      by_cases h1 : n.op = 1
      · have e1 : fixT ca (n, ats, k) = true := by
          obtain ⟨rfl, rfl⟩ := hk1 h1
          unfold fixT
          rw [if_neg (by simp only; omega)]; rfl
        have e2 : fixT ca (trT σ (a + aroundI pop pb j) (n, ats, k)) = true := by
          by_cases h2 : n.a < a + aroundI pop pb j
          · rw [trT_bound (H []) (x := (n, ats, k)) h1 h2]
            unfold fixT
            rw [if_neg (by simp only; omega)]; rfl
          · rw [trT_var (x := (n, ats, k)) h1]
            exact hv _ n ha' h1 (by omega)
        rw [e1, e2]
        exact ⟨id, fun _ => rfl⟩
      · obtain ⟨k1, k2⟩ := fix_tr H hv n.op n.b hb1 0 (a + aroundI pop pb j) k ha' hk2 hb2
        have eo := trT_other (σ := σ) (a := a + aroundI pop pb j) (x := (n, ats, k)) h1
        by_cases h12 : n.op = 12
        · obtain ⟨g1, g2⟩ := guardN_tr H ha' (x := (n, ats, k)) h12 ⟨hb1, hb2⟩
          rw [eo] at g1 g2 ⊢
          unfold fixT
          simp only at g1 g2 ⊢
          simp only [if_pos h12]
          refine ⟨fun h => ?_, fun hk => by rw [g2 hk, k2 hk]⟩
          rw [Bool.and_eq_true] at h ⊢
          exact ⟨g1 h.1, k1 h.2⟩
        · rw [eo]
          unfold fixT
          simp only
          simp only [if_neg h12, Bool.true_and]
          exact ⟨k1, k2⟩
    refine ⟨fun h => ?_, fun hk => ?_⟩
    case refine_2 =>
      rw [x2 hk]
      exact congrArg (· && fixF ca x) (key.2 hk)
    rw [Bool.and_eq_true] at h ⊢
    exact ⟨key.1 h.1, x1 h.2⟩
end
end Go.Proofs.Ytpkldboeohhmpaa
