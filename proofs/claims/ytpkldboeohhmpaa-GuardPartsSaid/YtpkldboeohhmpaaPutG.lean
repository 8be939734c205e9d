/- A guarded term in a free variable's place: plain laws. -/
import Derived.Test.YtpkldboeohhmpaaLiftG
import Derived.Test.YtpkldboeohhmpaaSubst
import Derived.Test.YtpkldboeohhmpaaErr18
import Derived.Test.YtpkldboeohhmpaaDeeps
namespace Go.Proofs.Ytpkldboeohhmpaa
open Go.RowKit

/-- Every node of a forest. -/
def AllN (P : Nd → Prop) : Fo → Prop
  | .nil => True
  | .cons _ n _ k x => P n ∧ AllN P k ∧ AllN P x
def AllNT (P : Nd → Prop) (x : TT) : Prop := P x.1 ∧ AllN P x.2.2
theorem alln_kid {P : Nd → Prop} : ∀ {k : Fo} {y : TT}, AllN P k → y ∈ kidL k → AllNT P y
  | .nil, y, _, h => by cases h
  | .cons p n a k x, y, hb, h => by
    rw [kidL_cons] at h
    obtain ⟨h1, h2, h3⟩ := hb
    rcases List.mem_cons.1 h with rfl | h
    · exact ⟨h1, h2⟩
    · exact alln_kid h3 h
/-- A head and its arguments have what the nodes of a term have. -/
theorem hd_all {Q : TT → Prop} (hq : ∀ n a p n1 a1 k1 q n2 a2 k2 r, n.op = 6 → Q (n, a, .cons p n1 a1 k1 (.cons q n2 a2 k2 r)) → Q (n1, a1, k1) ∧ Q (n2, a2, k2)) : ∀ (s : Nat) (x : TT), szT x ≤ s → Q x → Q (hdW x).1 ∧ ∀ y ∈ (hdW x).2, Q y
  | 0, (n, a, k), h, _ => by rw [szT_eq] at h; omega
  | s + 1, (n, a, k), h, hb => by
    by_cases h6 : n.op = 6
    · match k, h, hb with
      | .nil, _, hb => rw [hdW_few (by simp [kidL])]; exact ⟨hb, fun y hy => by cases hy⟩
      | .cons p n1 a1 k1 .nil, _, hb => rw [hdW_few (by simp [kidL])]; exact ⟨hb, fun y hy => by cases hy⟩
      | .cons p n1 a1 k1 (.cons q n2 a2 k2 r), hs, hb =>
        rw [hdW_app h6]
        have h0 : szT (n, a, .cons p n1 a1 k1 (.cons q n2 a2 k2 r)) = 1 + a.length + (p.length + szT (n1, a1, k1) + (q.length + szT (n2, a2, k2) + (row r).length)) := by rw [szT_eq, sz_cons, sz_cons]
        obtain ⟨b1, b2⟩ := hq n a p n1 a1 k1 q n2 a2 k2 r h6 hb
        obtain ⟨i1, i2⟩ := hd_all hq s (n1, a1, k1) (by omega) b1
        refine ⟨i1, fun y hy => ?_⟩
        rcases List.mem_append.1 hy with hy | hy
        · exact i2 y hy
        · rw [List.mem_singleton] at hy; subst hy; exact b2
    · rw [hdW_stop h6]
      exact ⟨hb, fun y hy => by cases hy⟩

/-- A variable that names a function. -/
def pf (zs : List Int) (v z : Int) : Bool := decide (z ≤ v ∧ 100 ≤ ofI zs (v - z))
theorem exF_shift {p q : Int → Int → Bool} {c : Int} (h : ∀ v z, q v z = true → p v (z + c) = true) (pop pb : Int) : ∀ (j : Nat) (a : Int) (F : Fo), exF q pop pb j a F = true → exF p pop pb j (a + c) F = true
  | _, _, .nil, hh => by simp [exF] at hh
  | j, a, .cons pr n ats k x, hh => by
    simp only [exF, Bool.or_eq_true, Bool.and_eq_true] at hh ⊢
    have e : a + c + aroundI pop pb (j : Int) = a + aroundI pop pb (j : Int) + c := by omega
    rw [e]
    rcases hh with (hh | hh) | hh
    · exact .inl (.inl ⟨hh.1, h _ _ hh.2⟩)
    · exact .inl (.inr (exF_shift h n.op n.b 0 _ k hh))
    · exact .inr (exF_shift h pop pb (j + 1) a x hh)
theorem exT_shift {p q : Int → Int → Bool} {c : Int} (h : ∀ v z, q v z = true → p v (z + c) = true) {a : Int} {n : Nd} {k : Fo} (hh : exT p (a + c) n k = false) : exT q a n k = false := by
  cases he : exT q a n k with
  | false => rfl
  | true =>
    have : exT p (a + c) n k = true := by
      unfold exT at he ⊢
      simp only [Bool.or_eq_true, Bool.and_eq_true] at he ⊢
      rcases he with he | he
      · exact .inl ⟨he.1, h _ _ he.2⟩
      · exact .inr (exF_shift h n.op n.b 0 _ k he)
    rw [this] at hh
    cases hh
theorem ofI_app {zs ms : List Int} (v : Int) (hv : 0 ≤ v) : ofI (zs ++ ms) v = if v < ms.length then ms.getD (ms.length - 1 - v.toNat) 0 else ofI zs (v - ms.length) := by
  unfold ofI
  rw [List.length_append]
  split
  · rename_i h
    rw [if_neg (by omega), if_pos (by omega)]
  · rename_i h
    split
    · rename_i h2
      rw [List.getD_eq_getElem?_getD, List.getD_eq_getElem?_getD, List.getElem?_append_right (by omega)]
      congr 2
      omega
    · rename_i h2
      rw [if_neg (by omega), List.getD_eq_getElem?_getD, List.getD_eq_getElem?_getD, List.getElem?_append_left (by omega)]
      congr 2
      omega
theorem pf_more {zs ms : List Int} (hm : ∀ m ∈ ms, m < 100) {v z : Int} (h : pf (zs ++ ms) v z = true) : pf zs v (z + ms.length) = true := by
  unfold pf at h ⊢
  rw [decide_eq_true_eq] at h ⊢
  obtain ⟨h1, h2⟩ := h
  rw [ofI_app _ (by omega)] at h2
  split at h2
  · rename_i h3
    have : ms.getD (ms.length - 1 - (v - z).toNat) 0 ∈ ms := by
      rw [List.getD_eq_getElem?_getD, List.getElem?_eq_getElem (by omega)]
      exact List.getElem_mem _
    have := hm _ this
    omega
  · exact ⟨by omega, by rw [show v - (z + (ms.length : Int)) = v - z - ms.length from by omega]; exact h2⟩
theorem ex_kid {p : Int → Int → Bool} {pop pb : Int} : ∀ {k : Fo} {j : Nat} {a : Int}, exF p pop pb j a k = false → ∀ i y, (kidL k)[i]? = some y → exT p (a + aroundI pop pb ((j + i : Nat) : Int)) y.1 y.2.2 = false
  | .nil, _, _, _, i, y, h => by simp [kidL] at h
  | .cons pr n ats k x, j, a, hh, i, y, h => by
    rw [exF_cons, Bool.or_eq_false_iff] at hh
    rw [kidL_cons] at h
    cases i with
    | zero =>
      simp only [List.getElem?_cons_zero, Option.some.injEq] at h
      subst h
      exact hh.1
    | succ i =>
      have := ex_kid hh.2 i y (by simpa using h)
      rw [show j + (i + 1) = j + 1 + i from by omega]
      exact this
theorem ex_top {p : Int → Int → Bool} {a : Int} {n : Nd} {k : Fo} (h : exT p a n k = false) : (n.op = 1 → p n.a a = false) ∧ exF p n.op n.b 0 a k = false := by
  unfold exT at h
  rw [Bool.or_eq_false_iff] at h
  refine ⟨fun h1 => ?_, h.2⟩
  have := h.1
  rw [decide_eq_true h1, Bool.true_and] at this
  exact this
theorem pairs_all {rec_ : List Int → TT → Bool} {zs zu : List Int} : ∀ (L : List TT), (∀ (i : Nat) (y : TT), L[i]? = some y → (i % 2 = 0 → rec_ zs y = true) ∧ (i % 2 = 1 → rec_ zu y = true)) → pairsT rec_ zs zu L = true
  | [], _ => rfl
  | [_], _ => rfl
  | t :: b :: r, h => by
    simp only [pairsT]
    rw [(h 0 t rfl).1 rfl, (h 1 b rfl).2 rfl, pairs_all r (fun i y hy => by
      have := h (i + 2) y (by simpa using hy)
      exact ⟨fun e => this.1 (by omega), fun e => this.2 (by omega)⟩)]
    rfl
/-- A term that names no function is fine. -/
theorem fine_free {places : List Int} {ca : Int → Nat → Nat} : ∀ (s : Nat) (x : TT), szT x ≤ s → AllNT (fun n => n.op = 1 → 0 ≤ n.a) x → BOkT x → ∀ (zs : List Int), exT (pf zs) 0 x.1 x.2.2 = false → fineW places ca zs x = true ∧ ∀ m, branchT (fineW places ca) m zs x = true
  | 0, (n, a, k), h, _, _, _, _ => by rw [szT_eq] at h; omega
  | s + 1, x, hs, hn, hb, zs, hx => by
    have hfine : fineW places ca zs x = true := by
      obtain ⟨z1, z2⟩ := hdW_size x
      have hq := hd_all (Q := fun y => exT (pf zs) 0 y.1 y.2.2 = false ∧ AllNT (fun n => n.op = 1 → 0 ≤ n.a) y ∧ BOkT y) (fun n a p n1 a1 k1 q n2 a2 k2 r h6 hh => by
        obtain ⟨h1, ⟨_, h2, h3, h4, h5, _⟩, _, h7, h8, h9, h10, _⟩ := hh
        have hz : ∀ k : Int, aroundI n.op n.b k = 0 := around_plain (by omega) (by omega) (by omega) (by omega)
        have e := (ex_top h1).2
        simp only at e
        rw [exF_cons, exF_cons, hz, hz, Bool.or_eq_false_iff, Bool.or_eq_false_iff, Int.add_zero] at e
        exact ⟨⟨e.1, ⟨h2, h3⟩, h7, h8⟩, e.2.1, ⟨h4, h5⟩, h9, h10⟩) _ x (Nat.le_refl _) ⟨hx, hn, hb⟩
      obtain ⟨⟨q1, q2, q3⟩, q4⟩ := hq
      rw [fineW_eq, Bool.and_eq_true]
      constructor
      · rw [List.all_eq_true]
        intro y hy
        obtain ⟨e1, e2, e3⟩ := q4 y hy
        exact (fine_free s y (by have := z2 y hy; omega) e2 e3 zs e1).1
      · generalize (hdW x).2 = args at *
        generalize (hdW x).1 = h at *
        obtain ⟨n, ats, k⟩ := h
        obtain ⟨t1, t2⟩ := ex_top q1
        simp only at t1 t2
        have hkid : ∀ (i : Nat) (y : TT), (kidL k)[i]? = some y → ∀ ms : List Int, (∀ m ∈ ms, m < 100) → (ms.length : Int) = aroundI n.op n.b (i : Int) → fineW places ca (zs ++ ms) y = true ∧ ∀ m, branchT (fineW places ca) m (zs ++ ms) y = true := by
          intro i y hy ms hms hl
          have hmem : y ∈ kidL k := List.mem_of_getElem? hy
          have e1 := ex_kid t2 i y hy
          rw [Nat.zero_add, ← hl] at e1
          have e2 := exT_shift (q := pf (zs ++ ms)) (fun v z h => pf_more hms h) e1
          exact fine_free s y (by have := sz_kid hmem; rw [szT_eq n ats k] at z1; omega) (alln_kid q2.2 hmem) (bok_kid q3.2 hmem) _ e2
        have h0 : ∀ (i : Nat) (y : TT), (kidL k)[i]? = some y → aroundI n.op n.b (i : Int) = 0 → fineW places ca zs y = true ∧ ∀ m, branchT (fineW places ca) m zs y = true := fun i y hy h => by
          have := hkid i y hy [] (fun m hm => by cases hm) (by rw [h]; rfl)
          rwa [List.append_nil] at this
        unfold headW
        simp only
        split
        · rename_i h1
          have h3 := t1 h1
          have h4 := q2.1 h1
          simp only at h4
          unfold pf at h3
          rw [decide_eq_false_iff_not, Int.sub_zero] at h3
          rw [if_pos (by omega)]
        · split
          · rename_i h11
            have hz : ∀ k : Int, aroundI n.op n.b k = 0 := around_plain (by omega) (by omega) (by omega) (by omega)
            have hk : ∀ y ∈ kidL k, fineW places ca zs y = true ∧ ∀ m, branchT (fineW places ca) m zs y = true := fun y hy => by
              obtain ⟨i, hi⟩ := List.getElem?_of_mem hy
              exact h0 i y hi (hz _)
            generalize kidL k = L at hk
            match L, hk with
            | [], _ => rfl
            | [_], _ => rfl
            | mo :: sc :: br, hk =>
              simp only
              rw [(hk mo (by simp)).1, (hk sc (by simp)).1]
              simp only [Bool.and_self, Bool.true_and]
              have : ∀ (L : List TT) (c : Nat → Nat) (i : Nat), (∀ y ∈ L, ∀ m, branchT (fineW places ca) m zs y = true) → branchesT (fineW places ca) c zs i L = true := by
                intro L c
                induction L with
                | nil => intro i _; rfl
                | cons y L ih =>
                  intro i h
                  simp only [branchesT]
                  rw [h y (by simp), ih (i + 1) (fun z hz => h z (by simp [hz]))]; rfl
              exact this br _ 0 (fun y hy => (hk y (by simp [hy])).2)
          · split
            · rename_i h45
              have e0 : aroundI n.op n.b ((0 : Nat) : Int) = 0 := by unfold aroundI; rw [if_neg (by omega), if_neg (by omega)]
              have e1 : aroundI n.op n.b ((1 : Nat) : Int) = 1 := by unfold aroundI; rw [if_pos (by omega)]
              have k1 := hkid 1
              have k0 := h0 0
              generalize kidL k = L at k0 k1
              match L, k0, k1 with
              | [], _, _ => rfl
              | [_], _, _ => rfl
              | x :: y :: _, k0, k1 =>
                simp only
                rw [(k0 x rfl e0).1, (k1 y rfl [0] (by simp) (by rw [e1]; rfl)).1]; rfl
            · split
              · rename_i h7
                have e0 : aroundI n.op n.b ((0 : Nat) : Int) = 0 := by unfold aroundI; rw [if_neg (by omega), if_neg (by omega)]
                have e1 : aroundI n.op n.b ((1 : Nat) : Int) = 0 := by unfold aroundI; rw [if_neg (by omega), if_neg (by omega)]
                have e2 : aroundI n.op n.b ((2 : Nat) : Int) = 1 := by unfold aroundI; rw [if_pos (by omega)]
                have k2 := hkid 2
                have k0 := h0 0
                have k1 := h0 1
                generalize kidL k = L at k0 k1 k2
                match L, k0, k1, k2 with
                | [], _, _, _ => rfl
                | [_], _, _, _ => rfl
                | [_, _], _, _, _ => rfl
                | x :: y :: z :: _, k0, k1, k2 =>
                  simp only
                  rw [(k0 x rfl e0).1, (k1 y rfl e1).1, (k2 z rfl [0] (by simp) (by rw [e2]; rfl)).1]; rfl
              · split
                · rename_i h12
                  have hb0 := q3.1 h12
                  simp only at hb0
                  refine pairs_all _ (fun i y hy => ⟨fun e => ?_, fun e => ?_⟩)
                  · exact (h0 i y hy (by unfold aroundI; rw [if_neg (by omega), if_neg (by omega)])).1
                  · refine (hkid i y hy (List.replicate n.b.toNat 0) (fun m hm => ?_) ?_).1
                    · rw [(List.mem_replicate.1 hm).2]; decide
                    · rw [List.length_replicate]
                      unfold aroundI
                      rw [if_neg (by omega), if_pos (by omega)]
                      omega
                · rfl
    refine ⟨hfine, fun m => ?_⟩
    cases m with
    | zero => exact hfine
    | succ m =>
      obtain ⟨n, ats, k⟩ := x
      by_cases h5 : n.op = 5
      case neg => rw [branchT_not5 (y := (n, ats, k)) h5]; exact hfine
      by_cases hk : (kidL k).length < 2
      · rw [branchT_few (y := (n, ats, k)) hk]; exact hfine
      · match k, hk, hs, hn, hb, hx with
        | .nil, hk, _, _, _, _ => simp [kidL] at hk
        | .cons p n1 a1 k1 .nil, hk, _, _, _, _ => simp [kidL] at hk
        | .cons p n1 a1 k1 (.cons q n2 a2 k2 r), _, hs, ⟨_, c1, c2, c3, c4, _⟩, ⟨_, b1, b2, b3, b4, _⟩, hx =>
          have h0 : szT (n, ats, .cons p n1 a1 k1 (.cons q n2 a2 k2 r)) = 1 + ats.length + (p.length + szT (n1, a1, k1) + (q.length + szT (n2, a2, k2) + (row r).length)) := by rw [szT_eq, sz_cons, sz_cons]
          have e0 : aroundI n.op n.b ((0 : Nat) : Int) = 0 := by rw [h5]; simp [aroundI]
          have e1 : aroundI n.op n.b ((0 + 1 : Nat) : Int) = 1 := by rw [h5]; simp [aroundI]
          have e := (ex_top hx).2
          simp only at e
          rw [exF_cons, exF_cons, e0, e1, Bool.or_eq_false_iff, Bool.or_eq_false_iff, Int.add_zero] at e
          have f1 := fine_free (places := places) (ca := ca) s (n1, a1, k1) (by omega) ⟨c1, c2⟩ ⟨b1, b2⟩ zs e.1
          have f2 := fine_free (places := places) (ca := ca) s (n2, a2, k2) (by omega) ⟨c3, c4⟩ ⟨b3, b4⟩ (zs ++ [2]) (exT_shift (q := pf (zs ++ [2])) (c := ([2] : List Int).length) (fun v z h => pf_more (by simp) h) e.2.1)
          simp only [branchT]
          rw [if_pos h5, f1.1, f2.2 m]; rfl

/-! A term, raised. -/
def far (a v z : Int) : Bool := decide (z ≤ v ∧ v - z < a)
theorem pf_far {zs : List Int} {a v z : Int} (h : (zs.length : Int) ≤ a) (hp : pf zs v z = true) : far a v z = true := by
  unfold pf at hp
  unfold far
  rw [decide_eq_true_eq] at hp ⊢
  refine ⟨hp.1, ?_⟩
  rcases Int.lt_or_le (v - z) a with h1 | h1
  · exact h1
  · rw [ofI_far h h1] at hp
    omega
theorem far_ra {a : Int} (h0 : 0 ≤ a) (pop pb : Int) : ∀ (j : Nat) (z : Int) (F : Fo), exF (far a) pop pb j z (raF a 0 pop pb j z F) = false
  | _, _, .nil => rfl
  | j, z, .cons p n ats k x => by
    have hs := raN_same a 0 n (z + aroundI pop pb j)
    simp only [raF, exF, hs.1, hs.2, Bool.or_eq_false_iff]
    refine ⟨⟨?_, far_ra h0 n.op n.b 0 _ k⟩, far_ra h0 pop pb (j + 1) z x⟩
    by_cases h1 : n.op = 1
    · rw [decide_eq_true h1, Bool.true_and]
      unfold far raN
      rw [decide_eq_false_iff_not]
      split
      · simp only; omega
      · omega
    · rw [decide_eq_false h1, Bool.false_and]
theorem alln_ra {a : Int} (h0 : 0 ≤ a) (pop pb : Int) : ∀ (j : Nat) (z : Int) (F : Fo), AllN (fun n => n.op = 1 → 0 ≤ n.a) F → AllN (fun n => n.op = 1 → 0 ≤ n.a) (raF a 0 pop pb j z F)
  | _, _, .nil, _ => trivial
  | j, z, .cons p n ats k x, h => by
    obtain ⟨h1, h2, h3⟩ := h
    refine ⟨?_, alln_ra h0 n.op n.b 0 _ k h2, alln_ra h0 pop pb (j + 1) z x h3⟩
    unfold raN
    split
    · intro h; have := h1 h; simp only; omega
    · exact h1
theorem bok_ra {a : Int} (pop pb : Int) : ∀ (j : Nat) (z : Int) (F : Fo), BOk F → BOk (raF a 0 pop pb j z F)
  | _, _, .nil, _ => trivial
  | j, z, .cons p n ats k x, h => by
    obtain ⟨h1, h2, h3⟩ := h
    have hs := raN_same a 0 n (z + aroundI pop pb j)
    refine ⟨?_, bok_ra n.op n.b 0 _ k h2, bok_ra pop pb (j + 1) z x h3⟩
    rw [hs.1, hs.2]
    exact h1
theorem alln_wf : ∀ (F : Fo) (dl : List Bool), Wf dl F → AllN (fun n => n.op = 1 → 0 ≤ n.a) F
  | .nil, _, _ => trivial
  | .cons _ _ _ _ _, [], h => h.elim
  | .cons p n a k x, d :: dr, h => by
    obtain ⟨_, hok, _, hk, hx⟩ := h
    refine ⟨fun _ => ?_, alln_wf k _ hk, alln_wf x _ hx⟩
    simp only [okN, Bool.and_eq_true] at hok
    exact (plainB_a hok.1.1).1
/-- A tree, raised by so much. -/
def upT (u : TT) (a : Int) : TT := (raN a 0 u.1 0, u.2.1, raF a 0 u.1.op u.1.b 0 0 u.2.2)
/-- A tree as a row has it. -/
structure OkT (u : TT) : Prop where
  ok : okN u.1 = true
  at_ : AtOk u.1 u.2.1
  wf : Wf (ds u.1) u.2.2
theorem OkT.one {u : TT} (h : OkT u) : Wf [false] (.cons [] u.1 u.2.1 u.2.2 .nil) := ⟨rfl, h.ok, h.at_, h.wf, trivial⟩
theorem up_harm {places : List Int} {ca : Int → Nat → Nat} {u : TT} (hu : OkT u) {a : Int} (h0 : 0 ≤ a) : Harm places ca a (upT u a) := by
  have h1 := far_ra h0 0 0 0 0 (.cons [] u.1 u.2.1 u.2.2 .nil)
  have h2 := alln_ra h0 0 0 0 0 _ (alln_wf _ _ hu.one)
  have h3 := bok_ra (a := a) 0 0 0 0 _ (bok_wf _ _ hu.one)
  rw [raF_one] at h1 h2 h3
  have e1 : exT (far a) 0 (upT u a).1 (upT u a).2.2 = false := by
    rw [exF_cons, Bool.or_eq_false_iff] at h1
    exact h1.1
  have e2 : AllNT (fun n => n.op = 1 → 0 ≤ n.a) (upT u a) := ⟨h2.1, h2.2.1⟩
  have e3 : BOkT (upT u a) := ⟨h3.1, h3.2.1⟩
  have key : ∀ zs : List Int, (zs.length : Int) ≤ a → exT (pf zs) 0 (upT u a).1 (upT u a).2.2 = false := fun zs hz => by
    refine exT_shift (p := far a) (q := pf zs) (c := 0) (fun v z h => ?_) e1
    rw [Int.add_zero]
    exact pf_far hz h
  refine ⟨fun zs hz => (fine_free _ _ (Nat.le_refl _) e2 e3 zs (key zs hz)).1, fun zs m hz => (fine_free _ _ (Nat.le_refl _) e2 e3 zs (key zs hz)).2 m, fun hv => ?_⟩
  have hq := (hd_all (Q := fun y => exT (far a) 0 y.1 y.2.2 = false ∧ AllNT (fun n => n.op = 1 → 0 ≤ n.a) y) (fun n a' p n1 a1 k1 q n2 a2 k2 r h6 hh => by
    obtain ⟨h1, ⟨_, h2, h3, h4, h5, _⟩⟩ := hh
    have hz : ∀ k : Int, aroundI n.op n.b k = 0 := around_plain (by omega) (by omega) (by omega) (by omega)
    have e := (ex_top h1).2
    simp only at e
    rw [exF_cons, exF_cons, hz, hz, Bool.or_eq_false_iff, Bool.or_eq_false_iff, Int.add_zero] at e
    exact ⟨⟨e.1, h2, h3⟩, e.2.1, h4, h5⟩) _ (upT u a) (Nat.le_refl _) ⟨e1, e2⟩).1
  have t := (ex_top hq.1).1 hv
  have t2 := hq.2.1 hv
  unfold far at t
  rw [decide_eq_false_iff_not] at t
  omega

/-! A term in variable 0's place. -/
def suS (u : TT) (a : Int) (n : Nd) : TT := if n.a = a then upT u a else if a < n.a then (⟨n.op, n.a - 1, n.b⟩, [], .nil) else (n, [], .nil)
theorem suS_sig {u : TT} (hu : OkT u) (ca : Int → Nat → Nat) (places : List Int) : Sig places ca (suS u) := by
  refine ⟨fun a n h1 h => ?_, fun a n h0 h1 h => ?_⟩
  · unfold suS
    rw [if_neg (by omega), if_neg (by omega)]
  · unfold suS
    split
    · exact up_harm hu h0
    · rw [if_pos (by omega)]
      refine ⟨fun zs hz => fine_varT h1 ?_, fun zs m hz => ?_, fun _ => ?_⟩
      · rw [ofI_far hz (by simp only; omega)]; decide
      · rw [branchT_not5 (by simp only; omega)]
        exact fine_varT h1 (by rw [ofI_far hz (by simp only; omega)]; decide)
      · rw [hdW_stop (by simp only; omega)]
        simp only
        omega
theorem suS_fix {u : TT} (hu : OkT u) {ca : Int → Nat → Nat} (hf : fixT ca u = true) (a : Int) (n : Nd) (h0 : 0 ≤ a) (h1 : n.op = 1) : fixT ca (suS u a n) = true := by
  unfold suS
  split
  · have := lift_fix h0 ca hu.ok hu.at_ hu.wf
    exact this.trans hf
  · split
    · unfold fixT
      rw [if_neg (by simp only; omega)]; rfl
    · unfold fixT
      rw [if_neg (by simp only; omega)]; rfl
theorem puV_row (u : TT) (pop pb : Int) : ∀ (j : Nat) (a : Int) (F : Fo), VkF F → (puV ⟨u.1, u.2.1, u.2.2⟩ 0).E pop pb j a () F = row (trF (suS u) pop pb j a F)
  | _, _, .nil, _ => rfl
  | j, a, .cons p n ats k x, h => by
    obtain ⟨h1, h2, h3⟩ := h
    have e : ∀ s : Unit, s = () := fun _ => rfl
    rw [trF_cons, Vis.E_cons, Vis.E1, e ((puV ⟨u.1, u.2.1, u.2.2⟩ 0).nx () n _), e ((puV ⟨u.1, u.2.1, u.2.2⟩ 0).S1 _ () n k), puV_row u n.op n.b 0 _ k h2, puV_row u pop pb (j + 1) a x h3]
    have key : (puV ⟨u.1, u.2.1, u.2.2⟩ 0).em () n (a + aroundI pop pb j) ++ (ats ++ row (trF (suS u) n.op n.b 0 (a + aroundI pop pb j) k)) = rowT (trT (suS u) (a + aroundI pop pb j) (n, ats, k)) := by
      by_cases hv : n.op = 1
      · obtain ⟨rfl, rfl⟩ := h1 hv
        rw [trT_var (x := (n, [], .nil)) hv]
        simp only [puV, suS, trF, row, List.append_nil, Int.zero_add]
        by_cases h2 : n.a = a + aroundI pop pb j
        · rw [if_pos ⟨hv, h2⟩, if_pos h2, raV_row1]
          rfl
        · rw [if_neg (fun h => h2 h.2), if_neg h2]
          by_cases h3 : a + aroundI pop pb j < n.a
          · rw [if_pos ⟨hv, h3⟩, if_pos h3]; rfl
          · rw [if_neg (fun h => h3 h.2), if_neg h3]; rfl
      · rw [trT_other (x := (n, ats, k)) hv]
        simp only [puV]
        rw [if_neg (fun h => hv h.1), if_neg (fun h => hv h.1)]
        rfl
    rw [key]
    simp [row, rowT]
theorem up_len (u : TT) (a : Int) : szT (upT u a) = szT u := by
  have h := raV_len a 0 u.1.op u.1.b 0 0 u.2.2
  rw [raV_row] at h
  unfold upT szT rowT
  simp only [List.length_cons, List.length_append, h]
theorem su_len (u : TT) (pop pb : Int) : ∀ (j : Nat) (a : Int) (F : Fo), VkF F → ((row (trF (suS u) pop pb j a F)).length : Int) = (row F).length + cnF 0 pop pb j a F * ((szT u : Int) - 1)
  | _, _, .nil, _ => by simp [trF, row, cnF]
  | j, a, .cons p n ats k x, h => by
    obtain ⟨h1, h2, h3⟩ := h
    have ix := su_len u pop pb (j + 1) a x h3
    have ik := su_len u n.op n.b 0 (a + aroundI pop pb j) k h2
    rw [trF_cons, sz_cons, sz_cons]
    simp only [cnF]
    rw [Int.add_mul, Int.add_mul]
    by_cases hv : n.op = 1
    · obtain ⟨rfl, rfl⟩ := h1 hv
      rw [trT_var (x := (n, [], .nil)) hv]
      simp only
      have e1 : szT (n, [], Fo.nil) = 1 := rfl
      have e2 : cnF 0 n.op n.b 0 (a + aroundI pop pb j) .nil = 0 := rfl
      have e3 : suS u (a + aroundI pop pb j) n = if n.a = a + aroundI pop pb j then upT u (a + aroundI pop pb j) else if a + aroundI pop pb j < n.a then (⟨n.op, n.a - 1, n.b⟩, [], .nil) else (n, [], .nil) := rfl
      rw [e1, e2, e3]
      have e4 : (row Fo.nil).length = 0 := rfl
      rw [e4] at ik
      clear e1 e2 e3 e4
      by_cases h2 : n.a = a + aroundI pop pb j
      · rw [if_pos h2, if_pos ⟨hv, by omega⟩]
        have := up_len u (a + aroundI pop pb j)
        rw [show ((upT u (a + aroundI pop pb j)).1, (upT u (a + aroundI pop pb j)).2.1, (upT u (a + aroundI pop pb j)).2.2) = upT u (a + aroundI pop pb j) from rfl, this]
        push_cast
        omega
      · have hne : ¬ (n.op = 1 ∧ n.a - (a + aroundI pop pb (j : Int)) = 0) := by omega
        rw [if_neg h2, if_neg hne]
        split
        · have e1 : szT (⟨n.op, n.a - 1, n.b⟩, [], Fo.nil) = 1 := rfl
          simp only
          rw [e1]
          push_cast
          omega
        · have e1 : szT (n, [], Fo.nil) = 1 := rfl
          simp only
          rw [e1]
          push_cast
          omega
    · rw [trT_other (x := (n, ats, k)) hv, if_neg (fun h => hv h.1)]
      simp only
      rw [szT_eq, szT_eq]
      push_cast
      omega

/-! Nothing is raised too far. -/
theorem raV_far {B up : Int} (h0 : 0 ≤ up) (pop pb : Int) (hp : ∀ j : Int, 0 ≤ aroundI pop pb j ∧ aroundI pop pb j ≤ 4) : ∀ (j : Nat) (z : Int) (F : Fo) (dl : List Bool), Wf dl F → exF (fun v z => decide (B ≤ v - z)) pop pb j z F = false → B + z + 4 * ((row F).length : Int) + up ≤ 1048577 → (raV up 0).G pop pb j z () F = true
  | _, _, .nil, _, _, _, _ => rfl
  | j, z, .cons p n ats k x, [], h, _, _ => h.elim
  | j, z, .cons p n ats k x, d :: dr, h, he, hb => by
    obtain ⟨_, hok, _, hk, hx⟩ := h
    rw [exF_cons, Bool.or_eq_false_iff] at he
    obtain ⟨he1, he2⟩ := he
    obtain ⟨t1, t2⟩ := ex_top he1
    have hl : ((row (.cons p n ats k x)).length : Int) = p.length + (1 + ats.length + (row k).length) + (row x).length := by rw [sz_cons, szT_eq]; push_cast; omega
    have ha := hp (j : Int)
    rw [Vis.G_cons, Vis.G1, Bool.and_eq_true, Bool.and_eq_true]
    refine ⟨⟨?_, raV_far h0 n.op n.b (aroundI_bd hok) 0 _ k _ hk t2 (by omega)⟩, raV_far h0 pop pb hp (j + 1) z x _ hx he2 (by omega)⟩
    simp only [raV]
    split
    · rename_i hh
      have := t1 hh.1
      rw [decide_eq_false_iff_not] at this
      rw [decide_eq_true_eq]
      omega
    · rfl
/-- u may be raised by up to so much. -/
def UpOk (u : TT) (M : Int) : Prop := ∀ a : Int, 0 ≤ a → a ≤ M → (raV a 0).G1 0 () u.1 u.2.2 = true
theorem puV_D {u : TT} {M : Int} (hu : UpOk u M) (pop pb : Int) (hp : ∀ j : Int, 0 ≤ aroundI pop pb j ∧ aroundI pop pb j ≤ 4) : ∀ (j : Nat) (a : Int) (F : Fo) (dl : List Bool), Wf dl F → 0 ≤ a → a + 4 * ((row F).length : Int) ≤ M → (puV ⟨u.1, u.2.1, u.2.2⟩ 0).D pop pb j a () F
  | _, _, .nil, _, _, _, _ => trivial
  | j, a, .cons p n ats k x, [], h, _, _ => h.elim
  | j, a, .cons p n ats k x, d :: dr, h, h0, hb => by
    obtain ⟨_, hok, _, hk, hx⟩ := h
    have hl : ((row (.cons p n ats k x)).length : Int) = p.length + (1 + ats.length + (row k).length) + (row x).length := by rw [sz_cons, szT_eq]; push_cast; omega
    have ha := hp (j : Int)
    rw [Vis.D_cons, Vis.D1]
    refine ⟨⟨fun hh => ?_, puV_D hu n.op n.b (aroundI_bd hok) 0 _ k _ hk (by omega) (by omega)⟩, puV_D hu pop pb hp (j + 1) a x _ hx h0 (by omega)⟩
    rw [Int.zero_add]
    exact hu _ (by omega) (by omega)
theorem up_okT {u : TT} (hu : OkT u) {a : Int} (h0 : 0 ≤ a) (hg : (raV a 0).G1 0 () u.1 u.2.2 = true) : OkT (upT u a) := by
  rw [Vis.G1, Bool.and_eq_true] at hg
  have hs := raN_same a 0 u.1 0
  have hds : ds (raN a 0 u.1 0) = ds u.1 := by simp only [ds, hs.1, hs.2]
  refine ⟨raN_ok hu.ok h0 hg.1, ?_, ?_⟩
  · have := hu.at_
    show AtOk (raN a 0 u.1 0) u.2.1
    unfold AtOk at this ⊢
    rw [hs.1, hs.2]; exact this
  · show Wf (ds (raN a 0 u.1 0)) (raF a 0 u.1.op u.1.b 0 0 u.2.2)
    rw [hds]; exact raF_wf h0 u.1.op u.1.b u.2.2 (ds u.1) 0 0 hu.wf hg.2
theorem su_wf {u : TT} (hu : OkT u) {M : Int} (hM : UpOk u M) (pop pb : Int) (hp : ∀ j : Int, 0 ≤ aroundI pop pb j ∧ aroundI pop pb j ≤ 4) : ∀ (j : Nat) (a : Int) (F : Fo) (dl : List Bool), Wf dl F → 0 ≤ a → a + 4 * ((row F).length : Int) ≤ M → Wf dl (trF (suS u) pop pb j a F)
  | _, _, .nil, _, h, _, _ => h
  | j, a, .cons p n ats k x, [], h, _, _ => h.elim
  | j, a, .cons p n ats k x, d :: dr, h, h0, hb => by
    obtain ⟨hpr, hok, hat, hk, hx⟩ := h
    have hl : ((row (.cons p n ats k x)).length : Int) = p.length + (1 + ats.length + (row k).length) + (row x).length := by rw [sz_cons, szT_eq]; push_cast; omega
    have ha := hp (j : Int)
    have ix := su_wf hu hM pop pb hp (j + 1) a x dr hx h0 (by omega)
    rw [trF_cons]
    have key : OkT (trT (suS u) (a + aroundI pop pb j) (n, ats, k)) := by
      by_cases hv : n.op = 1
      · rw [trT_var (x := (n, ats, k)) hv]
        unfold suS
        split
        · exact up_okT hu (by omega) (hM _ (by omega) (by omega))
        · obtain ⟨rfl, rfl⟩ := (show ats = [] ∧ k = .nil from (vkF_wf (.cons [] n ats k .nil) [false] ⟨rfl, hok, hat, hk, trivial⟩).1 hv)
          have hds : ∀ m : Nd, m.op = 1 → ds m = [] := fun m h => ds_one' h
          split
          · rename_i h1 h2
            simp only at h1 h2
            refine ⟨?_, ?_, ?_⟩
            · simp only
              simp only [okN, Bool.and_eq_true] at hok
              have h3 := plainB_iff.1 hok.1.1
              have h4 : n.b = 0 ∧ n.a ≤ 1048576 := by omega
              rw [hv, h4.1]
              exact okVar (by omega) (by omega)
            · show AtOk ⟨n.op, n.a - 1, n.b⟩ []
              unfold AtOk
              rw [if_neg (by simp only; omega)]
            · show Wf (ds ⟨n.op, n.a - 1, n.b⟩) .nil
              rw [hds ⟨n.op, n.a - 1, n.b⟩ hv]; trivial
          · exact ⟨hok, hat, hk⟩
      · rw [trT_other (x := (n, ats, k)) hv]
        exact ⟨hok, hat, su_wf hu hM n.op n.b (aroundI_bd hok) 0 _ k (ds n) hk (by omega) (by omega)⟩
    exact ⟨hpr, key.ok, key.at_, key.wf, ix⟩
theorem exF_up {B c : Int} (hB : 0 ≤ B) (pop pb : Int) : ∀ (j : Nat) (z : Int) (F : Fo), 0 ≤ c → exF (fun v z => decide (B ≤ v - z)) pop pb j (z + c) (raF c 0 pop pb j z F) = true → exF (fun v z => decide (B ≤ v - z)) pop pb j z F = true
  | _, _, .nil, _, h => by simp [raF, exF] at h
  | j, z, .cons p n ats k x, h0, h => by
    have hs := raN_same c 0 n (z + aroundI pop pb j)
    simp only [raF, exF, hs.1, hs.2, Bool.or_eq_true, Bool.and_eq_true, decide_eq_true_eq] at h ⊢
    have e : z + c + aroundI pop pb (j : Int) = z + aroundI pop pb (j : Int) + c := by omega
    rw [e] at h
    rcases h with (⟨h1, h2⟩ | h) | h
    · refine .inl (.inl ⟨h1, ?_⟩)
      unfold raN at h2
      split at h2
      · simp only at h2; omega
      · omega
    · exact .inl (.inr (exF_up hB n.op n.b 0 _ k h0 h))
    · exact .inr (exF_up hB pop pb (j + 1) z x h0 h)
theorem su_ex {u : TT} {B : Int} (hB : 0 ≤ B) (hu : exT (fun v z => decide (B ≤ v - z)) 0 u.1 u.2.2 = false) (pop pb : Int) (hp : ∀ j : Int, 0 ≤ aroundI pop pb j) : ∀ (j : Nat) (a : Int) (F : Fo), VkF F → BOk F → 0 ≤ a → exF (fun v z => decide (B + 1 ≤ v - z)) pop pb j a F = false → exF (fun v z => decide (B ≤ v - z)) pop pb j a (trF (suS u) pop pb j a F) = false
  | _, _, .nil, _, _, _, _ => rfl
  | j, a, .cons p n ats k x, hk, hb, h0, he => by
    obtain ⟨k1, k2, k3⟩ := hk
    obtain ⟨b1, b2, b3⟩ := hb
    have ha := hp (j : Int)
    rw [exF_cons, Bool.or_eq_false_iff] at he
    obtain ⟨t1, t2⟩ := ex_top he.1
    rw [trF_cons, exF_cons, su_ex hB hu pop pb hp (j + 1) a x k3 b3 h0 he.2, Bool.or_false]
    by_cases hv : n.op = 1
    · rw [trT_var (x := (n, ats, k)) hv]
      have t3 := t1 hv
      rw [decide_eq_false_iff_not] at t3
      unfold suS
      split
      · cases hh : exT (fun v z => decide (B ≤ v - z)) (a + aroundI pop pb j) (upT u (a + aroundI pop pb j)).1 (upT u (a + aroundI pop pb j)).2.2 with
        | false => rfl
        | true =>
          have e1 : exF (fun v z => decide (B ≤ v - z)) 0 0 0 (0 + (a + aroundI pop pb j)) (raF (a + aroundI pop pb j) 0 0 0 0 0 (.cons [] u.1 u.2.1 u.2.2 .nil)) = true := by
            rw [raF_one, exF_cons, Int.zero_add]
            have hz : aroundI 0 0 ((0 : Nat) : Int) = 0 := by decide
            rw [hz, Int.add_zero, Bool.or_eq_true]
            exact .inl hh
          have e2 := exF_up hB 0 0 0 0 _ (by omega) e1
          have hz : aroundI 0 0 ((0 : Nat) : Int) = 0 := by decide
          rw [exF_cons, hz, Int.add_zero, hu] at e2
          simp [exF] at e2
      · split
        · simp only [exT, exF, Bool.or_false]
          rw [decide_eq_true hv, Bool.true_and]
          exact decide_eq_false (by simp only at *; omega)
        · simp only [exT, exF, Bool.or_false]
          rw [decide_eq_true hv, Bool.true_and]
          exact decide_eq_false (by simp only at *; omega)
    · rw [trT_other (x := (n, ats, k)) hv]
      simp only [exT]
      rw [decide_eq_false hv, Bool.false_and, Bool.false_or]
      exact su_ex hB hu n.op n.b (around_ge b1) 0 _ k k2 b2 (by omega) t2
theorem su_nodes {u : TT} (P : Nd → Prop) (hv : ∀ m : Nd, m.op = 1 → P m) (hu : ∀ m ∈ rowT u, P m) (pop pb : Int) : ∀ (j : Nat) (a : Int) (F : Fo), (∀ m ∈ row F, P m) → ∀ m ∈ row (trF (suS u) pop pb j a F), P m
  | _, _, .nil, _, m, hm => by simp [trF, row] at hm
  | j, a, .cons p n ats k x, h, m, hm => by
    have hrow : row (.cons p n ats k x) = p ++ (rowT (n, ats, k) ++ row x) := by simp [row, rowT]
    rw [hrow] at h
    have hrow2 : ∀ (y : TT) (F : Fo), row (.cons p y.1 y.2.1 y.2.2 F) = p ++ (rowT y ++ row F) := fun y F => by simp [row, rowT]
    rw [trF_cons, hrow2, List.mem_append, List.mem_append] at hm
    rcases hm with hm | hm | hm
    · exact h m (by simp [hm])
    · by_cases h1 : n.op = 1
      · rw [trT_var (x := (n, ats, k)) h1] at hm
        unfold suS at hm
        split at hm
        · have h2 := row_ra (up := a + aroundI pop pb j) (fr := 0) 0 0 0 0 (.cons [] u.1 u.2.1 u.2.2 .nil) m (by
            rw [raF_one]
            simpa [row, rowT, upT] using hm)
          rcases h2 with h2 | h2
          · exact hu m (by simpa [row, rowT] using h2)
          · exact hv m h2
        · split at hm
          · simp only [rowT, row, List.append_nil, List.mem_singleton] at hm
            subst hm
            exact hv _ h1
          · simp only [rowT, row, List.append_nil, List.mem_singleton] at hm
            subst hm
            exact hv _ h1
      · rw [trT_other (x := (n, ats, k)) h1] at hm
        simp only [rowT, List.mem_cons, List.mem_append] at hm
        rcases hm with rfl | hm | hm
        · exact h _ (by simp [rowT])
        · exact h m (by simp [rowT, hm])
        · exact su_nodes P hv hu n.op n.b 0 _ k (fun m hm => h m (by simp [rowT, hm])) m hm
    · exact su_nodes P hv hu pop pb (j + 1) a x (fun m hm => h m (by simp [hm])) m hm

/-- Put in variable 0's place, a guarded term keeps a guarded term guarded. -/
theorem put_guard {b : Bk} {t u : List Nd} {free : Int} (h0 : 0 ≤ free) (h1 : free ≤ 255) (ht : chkGE b (free + 1) t = 0) (hu : chkGE b free u = 0) : substD t u (min 0 1048577) ∧ ((substR t u 0).2 = 0 → chkGE b free (substR t u 0).1 = 0 ∧ (substR t u 0).1.length ≤ 4096) := by
  have ft := chk_fits (.inl ht)
  have fu := chk_fits (.inl hu)
  obtain ⟨hr, _, hrt⟩ := fits_row ft
  obtain ⟨_, _, hru⟩ := fits_row fu
  obtain ⟨hs, hbl, hnd⟩ := row_nodes hrt
  obtain ⟨hsu, hblu, hndu⟩ := row_nodes hru
  obtain ⟨n, a, k, hT⟩ := rt_of hs
  obtain ⟨un, ua, uk, hU⟩ := rt_of hsu
  obtain ⟨hok, hat, hk⟩ := hT.wf
  obtain ⟨uok, uat, ukw⟩ := hU.wf
  have hw : Wf [false] (.cons [] n a k .nil) := ⟨rfl, hok, hat, hk, trivial⟩
  have hOU : OkT (un, ua, uk) := ⟨uok, uat, ukw⟩
  have hrow : t = row (.cons [] n a k .nil) := by rw [hT.eq]; simp [row]
  have hrowu : u = rowT (un, ua, uk) := hU.eq
  have hlen := hT.few
  have hlenu := hU.few
  have hm : min (0 : Int) 1048577 = 0 := by decide
  have hz : aroundI 0 0 ((0 : Nat) : Int) = 0 := by decide
  have hp0 : ∀ j : Int, 0 ≤ aroundI 0 0 j ∧ aroundI 0 0 j ≤ 4 := fun j => by
    rw [around_plain (by decide) (by decide) (by decide) (by decide)]; omega
  rw [below_rt hT, Bool.not_eq_true', show max (free + 1) 0 = free + 1 from by omega] at hbl
  rw [below_rt hU, Bool.not_eq_true', show max free 0 = free from by omega] at hblu
  have hup : UpOk (un, ua, uk) 17000 := fun c hc0 hc1 => by
    have hW := hOU.one
    have hl : ((row (.cons [] un ua uk .nil)).length : Int) ≤ 4096 := by
      have : row (.cons [] un ua uk .nil) = u := by rw [hrowu]; simp [row, rowT]
      rw [this]; omega
    have h2 := raV_far (B := free) (up := c) hc0 0 0 hp0 0 0 _ _ hW (by
      rw [exF_cons, hz, Int.add_zero]
      simp only
      rw [hblu]; rfl) (by simp only; omega)
    rw [Vis.G_cons, hz, Int.add_zero, Bool.and_eq_true] at h2
    exact h2.1
  have hlen2 : 4 * ((row (.cons [] n a k .nil)).length : Int) ≤ 17000 := by rw [← hrow]; omega
  have hD : (puV ⟨un, ua, uk⟩ 0).D 0 0 0 0 () (.cons [] n a k .nil) := puV_D hup 0 0 hp0 0 0 _ _ hw (by omega) (by omega)
  have hE := puV_row (un, ua, uk) 0 0 0 0 _ (vkF_wf _ _ hw)
  have e : ∀ s : Unit, s = () := fun _ => rfl
  refine ⟨?_, fun hok2 => ?_⟩
  · rw [hm]
    unfold substD
    rw [hT.pp, hU.pp]
    simp only
    rw [Vis.D_cons, hz, Int.add_zero] at hD
    exact hD.1
  have hsr : substR t u 0 = substT t u 0 := by
    unfold substR
    rw [if_pos hs, if_pos hsu, if_neg (by omega), hm]
  rw [hsr] at hok2 ⊢
  unfold substT at hok2 ⊢
  rw [hT.pp, hU.pp] at hok2 ⊢
  simp only at hok2 ⊢
  split at hok2
  · cases hok2
  rename_i c1
  rw [if_neg c1] at ⊢
  split at hok2
  · cases hok2
  rename_i c2
  rw [if_neg c2]
  simp only
  have hF : (puV ⟨un, ua, uk⟩ 0).E1 0 () n a k = row (trF (suS (un, ua, uk)) 0 0 0 0 (.cons [] n a k .nil)) := by
    rw [← hE, Vis.E_cons, hz, Int.add_zero]
    simp [Vis.E]
  have hwx := su_wf hOU hup 0 0 hp0 0 0 _ _ hw (by omega) (by omega)
  have hlx := su_len (un, ua, uk) 0 0 0 0 _ (vkF_wf _ _ hw)
  have hcn : cnF 0 0 0 0 0 (.cons [] n a k .nil) = cnT 0 n k := by
    simp only [cnF, cnT, hz, Int.add_zero, Int.sub_zero]
  rw [hcn, ← hrow] at hlx
  have hszu : (szT (un, ua, uk) : Int) = u.length := by rw [hrowu]
  rw [hszu] at hlx
  have hfew : (row (trF (suS (un, ua, uk)) 0 0 0 0 (.cons [] n a k .nil))).length ≤ 4096 := by omega
  have hex := su_ex (u := (un, ua, uk)) h0 hblu 0 0 (fun j => (hp0 j).1) 0 0 _ (vkF_wf _ _ hw) (bok_wf _ _ hw) (by omega) (by
    rw [exF_cons, hz, Int.add_zero, hbl]; rfl)
  have hnx := su_nodes (u := (un, ua, uk)) (fun m => nodeB b b.entries.length (-1) m = true) (fun m h => nodeB_var h) (fun m hm => hndu m (by rw [hrowu]; exact hm)) 0 0 0 0 (.cons [] n a k .nil) (fun m hm => hnd m (by rw [hrow]; exact hm))
  have hft : fixT (argsB b) (n, a, k) = true := by
    have := chk_fit ft
    rw [ht, allG_rt hT] at this
    split at this
    · assumption
    · cases this
  have hfu : fixT (argsB b) (un, ua, uk) = true := by
    have := chk_fit fu
    rw [hu, allG_rt hU] at this
    split at this
    · assumption
    · cases this
  have hfx := (fix_tr (suS_sig hOU (argsB b)) (fun a n h0 h1 _ => suS_fix hOU hfu a n h0 h1) 0 0 (by decide) 0 0 _ (Int.le_refl _) (vkF_wf _ _ hw) (bok_wf _ _ hw)).1 (by rw [fixF_cons, hft]; rfl)
  rw [hF]
  rw [trF_cons] at hwx hfew hex hnx hfx ⊢
  rw [hz, Int.add_zero] at hwx hfew hex hnx hfx ⊢
  generalize trT (suS (un, ua, uk)) 0 (n, a, k) = x at *
  have e0 : trF (suS (un, ua, uk)) 0 0 (0 + 1) 0 .nil = .nil := rfl
  rw [e0] at hwx hfew hex hnx hfx ⊢
  have hX : Rt (row (.cons [] x.1 x.2.1 x.2.2 .nil)) x.1 x.2.1 x.2.2 := by
    refine ⟨?_, hfew⟩
    have := pp_of_wf _ _ [] hwx
    rwa [List.append_nil] at this
  refine ⟨?_, hfew⟩
  have hfitx : fitsE b free (row (.cons [] x.1 x.2.1 x.2.2 .nil)) = 0 := by
    refine fits_ok hr h0 (rowE_ok hX.shape ?_ hnx)
    rw [below_rt hX, Bool.not_eq_true', show max free 0 = free from by omega]
    rw [exF_cons, hz, Int.add_zero, Bool.or_eq_false_iff] at hex
    exact hex.1
  rw [chk_fit hfitx, allG_rt hX]
  rw [fixF_cons, Bool.and_eq_true] at hfx
  rw [if_pos hfx.1]

end Go.Proofs.Ytpkldboeohhmpaa
