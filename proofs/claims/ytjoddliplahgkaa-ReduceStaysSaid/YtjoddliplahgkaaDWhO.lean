/- Norms: gas, more or less fuel, a norm is its own norm, the norm of the next step (plain). -/
import Derived.Test.YtjoddliplahgkaaDWhN
namespace Go.Proofs.Ytjoddliplahgkaa
open Go.RowKit
theorem nms_bad {nm : List (List Nd) → Nat → TT → NmR} {cvs : Nat → List (List Nd)} {e : Int} : ∀ (L : List TT) (i n : Nat), (∀ (j : Nat) (y : TT) (k : Nat), L[j]? = some y → k ≤ n → nm (cvs (i + j)) k y ≠ .bad e ∧ ∀ z m, nm (cvs (i + j)) k y = .done z m → m ≤ k) → nmsL nm cvs i L n ≠ .bad e
 | [], _, _, _, h => by cases h
 | x :: r, i, n, H, h => by
  simp only [nmsL] at h
  obtain ⟨h1, h2⟩ := H 0 x n rfl (Nat.le_refl _)
  simp only [Nat.add_zero] at h1 h2
  cases hx : nm (cvs i) n x with
  | bad e' =>
   rw [hx] at h h1
   injection h with h
   exact h1 (by rw [h])
  | done y k =>
   rw [hx] at h
   simp only at h
   have hk := h2 y k hx
   have ih := nms_bad (e := e) r (i + 1) k (fun j z k' hz hk' => by
    have := H (j + 1) z k' (by simpa using hz) (by omega)
    rwa [show i + (j + 1) = i + 1 + j from by omega] at this)
   cases hr : nmsL nm cvs (i + 1) r k with
   | bad e' =>
    rw [hr] at h ih
    injection h with h
    exact ih (by rw [h])
   | done ys l => rw [hr] at h; cases h
set_option maxRecDepth 20000 in
theorem nm_gas {b : Bk} (hr : rightE b = 0) : ∀ (g : Nat) (cv : List (List Nd)) (n : Nat) (x : TT), NmQ b cv n x → n * 4097 + szT x < g → nmF b g cv n x ≠ .bad 99 ∧ ∀ k, nmF b (g + k) cv n x = nmF b g cv n x
 | 0, cv, n, x, _, h => absurd h (by omega)
 | g + 1, cv, n, x, hQ, hg => by
  obtain ⟨hc, hx, hB⟩ := hQ
  have hsz := foc_sz hx
  have hfew : szT x ≤ 4096 := hx.few
  have h99 := (wh_gas hr hc (n * 4097 + fsz (hdW x) + 1) n (hdW x) 4096 (foc hx) (by omega) (Int.le_refl _) (by omega)).1
  have hall : ∀ k, nmF b (g + k + 1) cv n x = match whN b cv n (hdW x) 4096 with
   | .bad e => .bad e
   | .done f n1 => nmE (nmF b (g + k)) cv f n1 := fun k => rfl
  cases hw : whN b cv n (hdW x) 4096 with
  | bad e =>
   have h0 := hall 0
   rw [hw] at h0
   refine ⟨fun h => ?_, fun k => ?_⟩
   · rw [show g + 1 = g + 0 + 1 from rfl, h0] at h
     injection h with h
     subst h
     exact h99 hw
   · have hk := hall k
     rw [hw] at hk
     rw [show g + 1 + k = g + k + 1 from by omega, hk, show g + 1 = g + 0 + 1 from rfl, h0]
  | done f n1 =>
   obtain ⟨q1, q2, q3, q4, q5, q6⟩ := wh_bud hr hc hx hB hw
   have hK : ∀ (j : Nat) (y : TT) (k : Nat), (kidL f.1.2.2)[j]? = some y → k ≤ n1 → NmQ b (kidCv cv f.1.1 (0 + j)) k y ∧ k * 4097 + szT y < g := fun j y k hy hk => by
    rw [Nat.zero_add]
    obtain ⟨a1, a2⟩ := kid_q hc q1 q4 q5 hy
    have : k * 4097 ≤ n1 * 4097 := Nat.mul_le_mul_right _ hk
    exact ⟨a1.mono hk, by omega⟩
   have hA : ∀ (j : Nat) (y : TT) (k : Nat), f.2[j]? = some y → k ≤ n1 → NmQ b cv k y ∧ k * 4097 + szT y < g := fun j y k hy hk => by
    obtain ⟨a1, a2⟩ := arg_q hc q1 q5 hy
    have : k * 4097 ≤ n1 * 4097 := Nat.mul_le_mul_right _ hk
    exact ⟨a1.mono hk, by omega⟩
   have hsame : ∀ k, nmE (nmF b (g + k)) cv f n1 = nmE (nmF b g) cv f n1 := by
    intro k
    unfold nmE
    have e1 : nmsL (nmF b (g + k)) (kidCv cv f.1.1) 0 (kidL f.1.2.2) n1 = nmsL (nmF b g) (kidCv cv f.1.1) 0 (kidL f.1.2.2) n1 := nms_congr _ _ _ fun j y k' hy hk' => by
     obtain ⟨c1, c2⟩ := hK j y k' hy hk'
     exact ⟨(nm_gas hr g _ k' y c1 c2).2 k, fun z m hh => (nm_fit hr _ _ _ _ c1 z m hh).2⟩
    rw [e1]
    cases hks : nmsL (nmF b g) (kidCv cv f.1.1) 0 (kidL f.1.2.2) n1 with
    | bad e => rfl
    | done ks n2 =>
     simp only
     have k2 := (nms_all (b := b) (kidL f.1.2.2) 0 n1 (fun j z k' hz hk' z' m' hh => nm_fit hr g _ _ _ (hK j z k' hz hk').1 z' m' hh) ks n2 hks).2.1
     have e2 : nmsL (nmF b (g + k)) (fun _ => cv) 0 f.2 n2 = nmsL (nmF b g) (fun _ => cv) 0 f.2 n2 := nms_congr _ _ _ fun j y k' hy hk' => by
      obtain ⟨c1, c2⟩ := hA j y k' hy (by omega)
      exact ⟨(nm_gas hr g _ k' y c1 c2).2 k, fun z m hh => (nm_fit hr _ _ _ _ c1 z m hh).2⟩
     rw [e2]
   have hne : nmE (nmF b g) cv f n1 ≠ .bad 99 := by
    unfold nmE
    have n1' : nmsL (nmF b g) (kidCv cv f.1.1) 0 (kidL f.1.2.2) n1 ≠ .bad 99 := nms_bad _ _ _ fun j y k' hy hk' => by
     obtain ⟨c1, c2⟩ := hK j y k' hy hk'
     exact ⟨(nm_gas hr g _ k' y c1 c2).1, fun z m hh => (nm_fit hr _ _ _ _ c1 z m hh).2⟩
    cases hks : nmsL (nmF b g) (kidCv cv f.1.1) 0 (kidL f.1.2.2) n1 with
    | bad e =>
     rw [hks] at n1'
     exact fun h => n1' (by injection h with h; rw [h])
    | done ks n2 =>
     simp only
     have k2 := (nms_all (b := b) (kidL f.1.2.2) 0 n1 (fun j z k' hz hk' z' m' hh => nm_fit hr g _ _ _ (hK j z k' hz hk').1 z' m' hh) ks n2 hks).2.1
     have n2' : nmsL (nmF b g) (fun _ => cv) 0 f.2 n2 ≠ .bad 99 := nms_bad _ _ _ fun j y k' hy hk' => by
      obtain ⟨c1, c2⟩ := hA j y k' hy (by omega)
      exact ⟨(nm_gas hr g _ k' y c1 c2).1, fun z m hh => (nm_fit hr _ _ _ _ c1 z m hh).2⟩
     cases has : nmsL (nmF b g) (fun _ => cv) 0 f.2 n2 with
     | bad e =>
      rw [has] at n2'
      exact fun h => n2' (by injection h with h; rw [h])
     | done rs n3 =>
      simp only
      split
      · exact fun h => (by injection h with h; cases h)
      · split
        · exact fun h => (by injection h with h; cases h)
        exact fun h => (by cases h)
   have h0 := hall 0
   rw [hw] at h0
   simp only [Nat.add_zero] at h0
   refine ⟨by rw [h0]; exact hne, fun k => ?_⟩
   have hk := hall k
   rw [hw] at hk
   simp only at hk
   rw [show g + 1 + k = g + k + 1 from by omega, hk, h0]
   exact hsame k
def nmN (b : Bk) (cv : List (List Nd)) (n : Nat) (x : TT) : NmR := nmF b (n * 4097 + szT x + 1) cv n x
theorem nmN_of {b : Bk} (hr : rightE b = 0) {g : Nat} {cv : List (List Nd)} {n : Nat} {x : TT} (hQ : NmQ b cv n x) (hg : n * 4097 + szT x < g) : nmF b g cv n x = nmN b cv n x := by
 unfold nmN
 rw [show g = n * 4097 + szT x + 1 + (g - (n * 4097 + szT x + 1)) from by omega]
 exact (nm_gas hr _ cv n x hQ (Nat.lt_succ_self _)).2 _
theorem nmN_fit {b : Bk} (hr : rightE b = 0) {cv : List (List Nd)} {n m : Nat} {x y : TT} (hQ : NmQ b cv n x) (h : nmN b cv n x = .done y m) : FitT b (cv.length : Int) y ∧ m ≤ n := nm_fit hr _ cv n x hQ y m h
set_option maxRecDepth 20000 in
theorem nmN_eq {b : Bk} (hr : rightE b = 0) {cv : List (List Nd)} {n : Nat} {x : TT} (hQ : NmQ b cv n x) : nmN b cv n x = match whN b cv n (hdW x) 4096 with
 | .bad e => .bad e
 | .done f n1 => nmE (nmN b) cv f n1 := by
 obtain ⟨hc, hx, hB⟩ := hQ
 conv => lhs; unfold nmN nmF
 cases hw : whN b cv n (hdW x) 4096 with
 | bad e => rfl
 | done f n1 =>
  simp only
  obtain ⟨q1, q2, q3, q4, q5, q6⟩ := wh_bud hr hc hx hB hw
  unfold nmE
  have e1 : nmsL (nmF b (n * 4097 + szT x)) (kidCv cv f.1.1) 0 (kidL f.1.2.2) n1 = nmsL (nmN b) (kidCv cv f.1.1) 0 (kidL f.1.2.2) n1 := nms_congr _ _ _ fun j y k' hy hk' => by
   rw [Nat.zero_add]
   obtain ⟨a1, a2⟩ := kid_q hc q1 q4 q5 hy
   have : k' * 4097 ≤ n1 * 4097 := Nat.mul_le_mul_right _ hk'
   exact ⟨nmN_of hr (a1.mono hk') (by omega), fun z m hh => (nm_fit hr _ _ _ _ (a1.mono hk') z m hh).2⟩
  rw [e1]
  cases hks : nmsL (nmN b) (kidCv cv f.1.1) 0 (kidL f.1.2.2) n1 with
  | bad e => rfl
  | done ks n2 =>
   simp only
   have k2 := (nms_all (b := b) (kidL f.1.2.2) 0 n1 (fun j z k' hz hk' z' m' hh => by
    rw [Nat.zero_add] at hh ⊢
    exact nmN_fit hr ((kid_q hc q1 q4 q5 hz).1.mono hk') hh) ks n2 hks).2.1
   have e2 : nmsL (nmF b (n * 4097 + szT x)) (fun _ => cv) 0 f.2 n2 = nmsL (nmN b) (fun _ => cv) 0 f.2 n2 := nms_congr _ _ _ fun j y k' hy hk' => by
    obtain ⟨a1, a2⟩ := arg_q hc q1 q5 hy
    have : k' * 4097 ≤ n1 * 4097 := Nat.mul_le_mul_right _ (by omega)
    exact ⟨nmN_of hr (a1.mono (by omega)) (by omega), fun z m hh => (nm_fit hr _ _ _ _ (a1.mono (by omega)) z m hh).2⟩
   rw [e2]
theorem nms_at {b : Bk} {nm : List (List Nd) → Nat → TT → NmR} {cvs : Nat → List (List Nd)} : ∀ (L : List TT) (i n : Nat) (ys : List TT) (m : Nat), nmsL nm cvs i L n = .done ys m → (∀ (q : Nat) (y : TT) (k : Nat), L[q]? = some y → k ≤ n → ∀ z l, nm (cvs (i + q)) k y = .done z l → l ≤ k ∧ ∀ j, NmQ b (cvs (i + q)) j y → (k ≤ j + l → nm (cvs (i + q)) j y = .done z (j + l - k)) ∧ (j + l < k → nm (cvs (i + q)) j y = .bad 10)) →
 m ≤ n ∧ ∀ j, (∀ (q : Nat) (y : TT), L[q]? = some y → NmQ b (cvs (i + q)) j y) → (n ≤ j + m → nmsL nm cvs i L j = .done ys (j + m - n)) ∧ (j + m < n → nmsL nm cvs i L j = .bad 10)
 | [], i, n, ys, m, h, _ => by
  injection h with e1 e2
  subst e1 e2
  exact ⟨Nat.le_refl _, fun j _ => ⟨fun _ => by simp only [nmsL]; congr 1; omega, fun h => absurd h (by omega)⟩⟩
 | x :: r, i, n, ys, m, h, H => by
  simp only [nmsL] at h
  cases h1 : nm (cvs i) n x with
  | bad e => rw [h1] at h; cases h
  | done y k =>
   rw [h1] at h
   simp only at h
   cases h2 : nmsL nm cvs (i + 1) r k with
   | bad e => rw [h2] at h; cases h
   | done zs l =>
    rw [h2] at h
    injection h with e1 e2
    subst e1 e2
    obtain ⟨a1, a2⟩ := H 0 x n rfl (Nat.le_refl _) y k h1
    simp only [Nat.add_zero] at a2
    obtain ⟨b1, b2⟩ := nms_at (b := b) r (i + 1) k zs l h2 (fun q z k' hz hk' z' l' hh => by
     have := H (q + 1) z k' (by simpa using hz) (by omega) z' l' (by rwa [show i + (q + 1) = i + 1 + q from by omega])
     rwa [show i + (q + 1) = i + 1 + q from by omega] at this)
    refine ⟨by omega, fun j hj => ?_⟩
    obtain ⟨c1, c2⟩ := a2 j (by simpa using hj 0 x rfl)
    have hj2 : ∀ (q : Nat) (y : TT), r[q]? = some y → NmQ b (cvs (i + 1 + q)) j y := fun q z hz => by
     have := hj (q + 1) z (by simpa using hz)
     rwa [show i + (q + 1) = i + 1 + q from by omega] at this
    simp only [nmsL]
    by_cases hjk : n ≤ j + k
    · rw [c1 hjk]
      simp only
      obtain ⟨d1, d2⟩ := b2 (j + k - n) (fun q z hz => (hj2 q z hz).mono (by omega))
      refine ⟨fun h => ?_, fun h => ?_⟩
      · rw [d1 (by omega)]
        simp only
        congr 1
        omega
      rw [d2 (by omega)]
    · rw [c2 (by omega)]
      exact ⟨fun h => absurd h (by omega), fun _ => rfl⟩
theorem nmE_at {b : Bk} (hr : rightE b = 0) {cv : List (List Nd)} (hc : CtxG b cv) {f : Fc} (hf : FocG b (cv.length : Int) f) (hrd : readyF b cv f = false) {n m : Nat} {y : TT} (hB : Bud cv n (fsz f)) (IH : ∀ (cv' : List (List Nd)) (k : Nat) (z : TT), NmQ b cv' k z → k ≤ n → szT z < fsz f → ∀ z' l, nmN b cv' k z = .done z' l → ∀ j, NmQ b cv' j z → (k ≤ j + l → nmN b cv' j z = .done z' (j + l - k)) ∧ (j + l < k → nmN b cv' j z = .bad 10)) (h : nmE (nmN b) cv f n = .done y m) :
 m ≤ n ∧ ∀ j, Bud cv j (fsz f) → (n ≤ j + m → nmE (nmN b) cv f j = .done y (j + m - n)) ∧ (j + m < n → nmE (nmN b) cv f j = .bad 10) := by
 unfold nmE at h ⊢
 cases hk : nmsL (nmN b) (kidCv cv f.1.1) 0 (kidL f.1.2.2) n with
 | bad e => rw [hk] at h; cases h
 | done ks n2 =>
  rw [hk] at h
  simp only at h
  obtain ⟨k1, k2⟩ := nms_at (b := b) _ _ _ _ _ hk (fun q z k hz hkn z' l hh => by
   rw [Nat.zero_add] at hh ⊢
   obtain ⟨a1, a2⟩ := kid_q hc hf hrd hB hz
   exact ⟨(nmN_fit hr (a1.mono hkn) hh).2, IH _ _ _ (a1.mono hkn) hkn a2 _ _ hh⟩)
  cases ha : nmsL (nmN b) (fun _ => cv) 0 f.2 n2 with
  | bad e => rw [ha] at h; cases h
  | done rs n3 =>
   rw [ha] at h
   simp only at h
   obtain ⟨a1, a2⟩ := nms_at (b := b) (cvs := fun _ => cv) _ _ _ _ _ ha (fun q z k hz hkn z' l hh => by
    obtain ⟨c1, c2⟩ := arg_q hc hf hB hz
    exact ⟨(nmN_fit hr (c1.mono (by omega)) hh).2, IH _ _ _ (c1.mono (by omega)) (by omega) c2 _ _ hh⟩)
   split at h
   · cases h
   · rename_i s1
     split at h
     · cases h
     rename_i s2
     injection h with e1 e2
     subst e1 e2
     refine ⟨by omega, fun j hj => ?_⟩
     obtain ⟨c1, c2⟩ := k2 j (fun q z hz => by
      rw [Nat.zero_add]
      exact (kid_q hc hf hrd hj hz).1)
     by_cases hjk : n ≤ j + n2
     · rw [c1 hjk]
       simp only
       obtain ⟨d1, d2⟩ := a2 (j + n2 - n) (fun q z hz => (arg_q hc hf hj hz).1.mono (by omega))
       by_cases hja : n2 ≤ j + n2 - n + n3
       · rw [d1 hja]
         simp only
         rw [if_neg s1, if_neg s2]
         exact ⟨fun _ => by congr 1; omega, fun h => absurd h (by omega)⟩
       rw [d2 (by omega)]
       exact ⟨fun h => absurd h (by omega), fun _ => rfl⟩
     rw [c2 (by omega)]
     exact ⟨fun h => absurd h (by omega), fun _ => rfl⟩
set_option maxRecDepth 20000 in
theorem nm_at {b : Bk} (hr : rightE b = 0) : ∀ (G : Nat) (cv : List (List Nd)) (n : Nat) (x : TT), NmQ b cv n x → n * 4097 + szT x < G → ∀ y m, nmN b cv n x = .done y m → ∀ j, NmQ b cv j x → (n ≤ j + m → nmN b cv j x = .done y (j + m - n)) ∧ (j + m < n → nmN b cv j x = .bad 10)
 | 0, _, _, _, _, h, _, _, _, _, _ => absurd h (by omega)
 | G + 1, cv, n, x, hQ, hG, y, m, h, j, hj => by
  have hQ' := hQ
  obtain ⟨hc, hx, hB⟩ := hQ'
  have hsz := foc_sz hx
  have hfew : szT x ≤ 4096 := hx.few
  rw [nmN_eq hr hQ] at h
  rw [nmN_eq hr hj]
  cases hw : whN b cv n (hdW x) 4096 with
  | bad e => rw [hw] at h; cases h
  | done f n1 =>
   rw [hw] at h
   simp only at h
   obtain ⟨q1, q2, q3, q4, q5, q6⟩ := wh_bud hr hc hx hB hw
   obtain ⟨w1, w2⟩ := wh_at hr hc _ n (hdW x) 4096 (foc hx) (by omega) (Int.le_refl _) (Nat.lt_succ_self _) f n1 hw j
   simp only at w1 w2
   obtain ⟨e1, e2⟩ := nmE_at hr hc q1 q4 q5 (fun cv' k z hz hk hs z' l hh j' hj' => by
    have : k * 4097 ≤ n1 * 4097 := Nat.mul_le_mul_right _ hk
    exact nm_at hr G cv' k z hz (by omega) z' l hh j' hj') h
   by_cases hjn : n ≤ j + n1
   · have hwj := w1 hjn
     rw [hwj]
     simp only
     obtain ⟨_, _, _, _, p5, _⟩ := wh_bud hr hc hx hj.2.2 hwj
     obtain ⟨d1, d2⟩ := e2 (j + n1 - n) p5
     refine ⟨fun h => ?_, fun h => d2 (by omega)⟩
     rw [d1 (by omega)]
     congr 1
     omega
   · rw [w2 (by omega)]
     exact ⟨fun h => absurd h (by omega), fun _ => rfl⟩
end Go.Proofs.Ytjoddliplahgkaa
