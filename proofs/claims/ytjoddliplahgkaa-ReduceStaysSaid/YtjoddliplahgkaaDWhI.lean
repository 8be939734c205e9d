/- A norm is its own norm; the norm of the next step (plain). -/
import Derived.Test.YtjoddliplahgkaaDWhO
namespace Go.Proofs.Ytjoddliplahgkaa
open Go.RowKit
theorem wh_idem {b : Bk} {cv : List (List Nd)} (hr : rightE b = 0) (hc : CtxG b cv) : ∀ (g n : Nat) (f : Fc) (room : Int) (y : Fc) (m : Nat), FocG b (cv.length : Int) f → (fsz f : Int) ≤ room → room ≤ 4096 → whF b cv g n f room = .done y m → ∀ room2 : Int, (fsz y : Int) ≤ room2 → room2 ≤ 4096 → whN b cv 0 y room2 = .done y 0
 | 0, n, f, room, y, m, _, _, _, h => by cases h
 | g + 1, n, f, room, y, m, hf, h1, h2, h => by
  intro room2 r1 r2
  have key : ∀ (f' : Fc) (n' : Nat), FocG b (cv.length : Int) f' → (fsz f' : Int) ≤ room → whT b cv g n' f' room = .done y m → (∀ p, partF f' = some p → ∀ room3 : Int, (szT p : Int) ≤ room3 → room3 ≤ 4096 → whN b cv 0 (hdW p) room3 = .done (hdW p) 0) → whN b cv 0 y room2 = .done y 0 := by
   intro f' n' hf' hs' hh hp'
   unfold whT at hh
   split at hh
   · rename_i hrd
     split at hh
     · cases hh
     split at hh
     · cases hh
     rename_i z hz
     split at hh
     · cases hh
     exact wh_idem hr hc g (n' - 1) z room y m (own_fit hr hc hf' hrd hz).1 (by omega) h2 hh room2 r1 r2
   rename_i hrd
   injection hh with e1 e2
   subst e1
   have hend : whE b cv 0 f' room2 = .done f' 0 := by unfold whE; rw [if_neg hrd]
   cases hp : partF f' with
   | none => rw [whN_none hr hc hf' r2 hp]; exact hend
   | some p =>
    obtain ⟨p1, p2⟩ := part_fit hf' hp
    rw [whN_part hr hc hf' r1 r2 hp, hp' p hp _ (by omega) (by omega)]
    simp only
    rw [foc_row p1, with_same hf' hp]
    exact hend
  cases hp : partF f with
  | none => rw [wh_none hp] at h; exact key f n hf h1 h (fun p hh => by rw [hp] at hh; cases hh)
  | some p =>
   obtain ⟨p1, p2⟩ := part_fit hf hp
   have hsz := foc_sz p1
   rw [wh_part hp] at h
   cases hw : whF b cv g n (hdW p) (room - fsz f + szT p) with
   | bad e => rw [hw] at h; cases h
   | done z k =>
    rw [hw] at h
    simp only at h
    obtain ⟨q1, q2, q3⟩ := wh_fit hr hc g n (hdW p) (room - fsz f + szT p) (foc p1) (by omega) (by omega) z k hw
    have hz := q1.fit (by omega)
    have hzl := rowF_len z
    obtain ⟨s1, s2⟩ := with_fit hf hp hz (by omega)
    refine key _ k s1 (by omega) h (fun p' hh room3 t1 t2 => ?_)
    rw [part_with hf hp] at hh
    injection hh with hh
    subst hh
    rw [hdW_rowF q1.ne]
    exact wh_idem hr hc g n (hdW p) _ z k (foc p1) (by omega) (by omega) hw room3 (by omega) t2
theorem whN_idem {b : Bk} {cv : List (List Nd)} (hr : rightE b = 0) (hc : CtxG b cv) {n m : Nat} {f y : Fc} {room room2 : Int} (hf : FocG b (cv.length : Int) f) (h1 : (fsz f : Int) ≤ room) (h2 : room ≤ 4096) (h : whN b cv n f room = .done y m) (r1 : (fsz y : Int) ≤ room2) (r2 : room2 ≤ 4096) : whN b cv 0 y room2 = .done y 0 := wh_idem hr hc _ n f room y m hf h1 h2 h room2 r1 r2
theorem part_still {b : Bk} {cv : List (List Nd)} (hr : rightE b = 0) (hc : CtxG b cv) {f : Fc} (hf : FocG b (cv.length : Int) f) (hs : fsz f ≤ 4096) (h : whN b cv 0 f 4096 = .done f 0) {p : TT} (hp : partF f = some p) {room : Int} (r1 : (szT p : Int) ≤ room) (r2 : room ≤ 4096) : whN b cv 0 (hdW p) room = .done (hdW p) 0 := by
 obtain ⟨p1, p2⟩ := part_fit hf hp
 have hsz := foc_sz p1
 rw [whN_part hr hc hf (by omega) (Int.le_refl _) hp] at h
 cases hw : whN b cv 0 (hdW p) (4096 - fsz f + szT p) with
 | bad e => rw [hw] at h; cases h
 | done z k =>
  obtain ⟨rfl, rfl⟩ := wh_zero hr hc _ (hdW p) _ (foc p1) (by omega) (by omega) (Nat.lt_succ_self _) z k hw
  exact whN_idem hr hc (foc p1) (by omega) (by omega) hw (by omega) r2
theorem whN_still {b : Bk} {cv : List (List Nd)} (hr : rightE b = 0) (hc : CtxG b cv) {f : Fc} {room : Int} (hf : FocG b (cv.length : Int) f) (h1 : (fsz f : Int) ≤ room) (h2 : room ≤ 4096) (h : whN b cv 0 f room = .done f 0) (k : Nat) : whN b cv k f room = .done f k := by
 have := (wh_at hr hc _ 0 f room hf h1 h2 (Nat.lt_succ_self _) f 0 h k).1 (by omega)
 simpa using this
theorem press_set : ∀ (F : Fo) (ys : List TT), press (setKs F ys) = press F
 | .nil, _ => by simp only [setKs]
 | .cons p n a k x, [] => by simp only [setKs]
 | .cons p n a k x, y :: ys => by simp only [setKs, press, press_set x ys]
theorem place_set (x : TT) (ys : List TT) : placeT (withKs x ys) = placeT x := by
 unfold placeT placesT withKs
 simp only
 rw [press_set]
theorem nmE_form {nm : List (List Nd) → Nat → TT → NmR} {cv : List (List Nd)} {f : Fc} {n m : Nat} {y : TT} (h : nmE nm cv f n = .done y m) : ∃ ks rs n2, nmsL nm (kidCv cv f.1.1) 0 (kidL f.1.2.2) n = .done ks n2 ∧ nmsL nm (fun _ => cv) 0 f.2 n2 = .done rs m ∧ szT (withKs f.1 ks) + argsN rs ≤ 4096 ∧ y = apps (withKs f.1 ks) rs := by
 unfold nmE at h
 cases hk : nmsL nm (kidCv cv f.1.1) 0 (kidL f.1.2.2) n with
 | bad e => rw [hk] at h; cases h
 | done ks n2 =>
  rw [hk] at h
  simp only at h
  cases ha : nmsL nm (fun _ => cv) 0 f.2 n2 with
  | bad e => rw [ha] at h; cases h
  | done rs n3 =>
   rw [ha] at h
   simp only at h
   split at h
   · cases h
   · split at h
     · cases h
     injection h with e1 e2
     subst e1 e2
     exact ⟨ks, rs, n2, rfl, ha, by omega, rfl⟩
theorem nms_elem {nm : List (List Nd) → Nat → TT → NmR} {cvs : Nat → List (List Nd)} : ∀ (L : List TT) (i n : Nat) (ys : List TT) (m : Nat), nmsL nm cvs i L n = .done ys m → (∀ (q : Nat) (y : TT) (k : Nat), L[q]? = some y → k ≤ n → ∀ z l, nm (cvs (i + q)) k y = .done z l → l ≤ k) → ys.length = L.length ∧ m ≤ n ∧ ∀ (q : Nat) (z : TT), ys[q]? = some z → ∃ y k l, L[q]? = some y ∧ k ≤ n ∧ nm (cvs (i + q)) k y = .done z l
 | [], i, n, ys, m, h, _ => by
  injection h with e1 e2
  subst e1 e2
  exact ⟨rfl, Nat.le_refl _, fun q z hz => by simp at hz⟩
 | x :: r, i, n, ys, m, h, H => by
  simp only [nmsL] at h
  cases h1 : nm (cvs i) n x with
  | bad e => rw [h1] at h; cases h
  | done y k =>
   rw [h1] at h
   simp only at h
   cases h2 : nmsL nm cvs (i + 1) r k with
   | bad e => rw [h2] at h; cases h
   | done zs l =>
    rw [h2] at h
    injection h with e1 e2
    subst e1 e2
    have hk := H 0 x n rfl (Nat.le_refl _) y k h1
    obtain ⟨b1, b2, b3⟩ := nms_elem r (i + 1) k zs l h2 (fun q z k' hz hk' z' l' hh => H (q + 1) z k' (by simpa using hz) (by omega) z' l' (by rwa [show i + (q + 1) = i + 1 + q from by omega]))
    refine ⟨by simp [b1], by omega, fun q z hz => ?_⟩
    cases q with
    | zero =>
     simp only [List.getElem?_cons_zero, Option.some.injEq] at hz
     subst hz
     exact ⟨x, n, k, rfl, Nat.le_refl _, h1⟩
    | succ q =>
     obtain ⟨y', k', l', c1, c2, c3⟩ := b3 q z (by simpa using hz)
     exact ⟨y', k', l', by simpa using c1, by omega, by rwa [show i + 1 + q = i + (q + 1) from by omega] at c3⟩
theorem nms_zero {nm : List (List Nd) → Nat → TT → NmR} {cvs : Nat → List (List Nd)} : ∀ (ys : List TT) (i : Nat), (∀ (q : Nat) (z : TT), ys[q]? = some z → nm (cvs (i + q)) 0 z = .done z 0) → nmsL nm cvs i ys 0 = .done ys 0
 | [], _, _ => rfl
 | y :: ys, i, H => by
  simp only [nmsL]
  have h0 := H 0 y rfl
  simp only [Nat.add_zero] at h0
  rw [h0]
  simp only
  rw [nms_zero ys (i + 1) (fun q z hz => by
   have := H (q + 1) z (by simpa using hz)
   rwa [show i + (q + 1) = i + 1 + q from by omega] at this)]
theorem kidN_set {x : TT} {ys : List TT} (h : ys.length = (kidL x.2.2).length) (i : Nat) : kidN (withKs x ys) i = ys.getD i (default, [], .nil) := by
 unfold kidN withKs
 simp only
 rw [setKs_kids _ _ h]
set_option maxRecDepth 20000 in
theorem nm_idem {b : Bk} (hr : rightE b = 0) : ∀ (G : Nat) (cv : List (List Nd)) (n : Nat) (x : TT), NmQ b cv (n + 1) x → n * 4097 + szT x < G → ∀ y m, nmN b cv n x = .done y m → NmQ b cv 0 y ∧ nmN b cv 0 y = .done y 0
 | 0, _, _, _, _, h, _, _, _ => absurd h (by omega)
 | G + 1, cv, n, x, hQ, hG, y, m, h => by
  have hQn : NmQ b cv n x := hQ.mono (by omega)
  have hQ' := hQ
  obtain ⟨hc, hx, hB⟩ := hQ'
  have hsz := foc_sz hx
  have hfew : szT x ≤ 4096 := hx.few
  have hyfit := (nmN_fit hr hQn h).1
  have hyQ : NmQ b cv 0 y := ⟨hc, hyfit, by have := hyfit.few; have h9 : (rowT y).length = szT y := rfl; unfold Bud at hB ⊢; omega⟩
  refine ⟨hyQ, ?_⟩
  rw [nmN_eq hr hQn] at h
  cases hw : whN b cv n (hdW x) 4096 with
  | bad e => rw [hw] at h; cases h
  | done f n1 =>
   rw [hw] at h
   simp only at h
   obtain ⟨q1, q2, q3, q4, q5, q6⟩ := wh_bud hr hc hx hQn.2.2 hw
   have hw1 := (wh_at hr hc _ n (hdW x) 4096 (foc hx) (by omega) (Int.le_refl _) (Nat.lt_succ_self _) f n1 hw (n + 1)).1 (by omega)
   rw [show n + 1 + n1 - n = n1 + 1 from by omega] at hw1
   obtain ⟨_, _, _, _, p5, _⟩ := wh_bud hr hc hx hB hw1
   have hstill := whN_idem hr hc (foc hx) (by omega) (Int.le_refl _) hw (room2 := 4096) (by omega) (Int.le_refl _)
   obtain ⟨ks, rs, n2, e1, e2, e3, rfl⟩ := nmE_form h
   obtain ⟨k1, k2, k3⟩ := nms_elem _ _ _ _ _ e1 (fun q z k hz hk z' l hh => by
    rw [Nat.zero_add] at hh
    exact (nmN_fit hr ((kid_q hc q1 q4 q5 hz).1.mono hk) hh).2)
   obtain ⟨a1, a2, a3⟩ := nms_elem (cvs := fun _ => cv) _ _ _ _ _ e2 (fun q z k hz hk z' l hh => (nmN_fit hr ((arg_q hc q1 q5 hz).1.mono (by omega)) hh).2)
   have hne : (withKs f.1 ks).1.op ≠ 6 := q1.ne
   have hhd : hdW (apps (withKs f.1 ks) rs) = (withKs f.1 ks, rs) := hdW_rowF (f := (withKs f.1 ks, rs)) hne
   have hfoc : FocG b (cv.length : Int) (withKs f.1 ks, rs) := by rw [← hhd]; exact foc hyfit
   have hfsz : fsz (withKs f.1 ks, rs) ≤ 4096 := e3
   -- each kid and each argument is its own norm
   have hK : ∀ (q : Nat) (z : TT), ks[q]? = some z → nmN b (kidCv cv f.1.1 q) 0 z = .done z 0 := by
    intro q z hz
    obtain ⟨y', k', l', c1, c2, c3⟩ := k3 q z hz
    rw [Nat.zero_add] at c3
    obtain ⟨d1, d2⟩ := kid_q hc q1 q4 p5 c1
    have : k' * 4097 ≤ n1 * 4097 := Nat.mul_le_mul_right _ c2
    exact (nm_idem hr G _ k' y' (d1.mono (by omega)) (by omega) z l' c3).2
   have hA : ∀ (q : Nat) (z : TT), rs[q]? = some z → nmN b cv 0 z = .done z 0 := by
    intro q z hz
    obtain ⟨y', k', l', c1, c2, c3⟩ := a3 q z hz
    obtain ⟨d1, d2⟩ := arg_q hc q1 p5 c1
    have : k' * 4097 ≤ n1 * 4097 := Nat.mul_le_mul_right _ (by omega)
    exact (nm_idem hr G _ k' y' (d1.mono (by omega)) (by omega) z l' c3).2
   -- the part: before and behind
   have hpart : ∀ p', partF (withKs f.1 ks, rs) = some p' → ∃ p k l, partF f = some p ∧ k ≤ n1 ∧ nmN b cv k p = .done p' l ∧ nmN b cv 0 p' = .done p' 0 ∧ NmQ b cv k p := by
    intro p' hp'
    unfold partF at hp' ⊢
    have hop : (withKs f.1 ks).1.op = f.1.1.op := rfl
    simp only at hp'
    rw [hop] at hp'
    split at hp'
    · rename_i c11
      rw [if_pos c11]
      obtain ⟨u, q', br, hk, _⟩ := kids_match q1.head.okt c11
      have hl1 : 1 < ks.length := by rw [k1, hk]; simp
      injection hp' with hp'
      rw [kidN_set k1, List.getD_eq_getElem?_getD, List.getElem?_eq_getElem hl1] at hp'
      simp only [Option.getD_some] at hp'
      subst hp'
      obtain ⟨y', k', l', c1, c2, c3⟩ := k3 1 _ (List.getElem?_eq_getElem hl1)
      have har : aroundI f.1.1.op f.1.1.b ((1 : Nat) : Int) = 0 := around_nil (.inr (.inr c11))
      have hcv : kidCv cv f.1.1 1 = cv := by unfold kidCv; rw [har]; simp
      rw [Nat.zero_add, hcv] at c3
      have h0 := hK 1 _ (List.getElem?_eq_getElem hl1)
      rw [hcv] at h0
      have hq := (kid_q hc q1 q4 q5 c1).1
      rw [hcv] at hq
      exact ⟨y', k', l', by rw [kidN_at c1], c2, c3, h0, hq.mono c2⟩
    rename_i c11
    rw [if_neg c11]
    split at hp'
    rotate_left
    · cases hp'
    rename_i c12
    rw [if_pos c12]
    rw [place_set] at hp'
    split at hp'
    · rename_i hl
      injection hp' with hp'
      rw [List.getD_eq_getElem?_getD, List.getElem?_eq_getElem hl] at hp'
      simp only [Option.getD_some] at hp'
      subst hp'
      obtain ⟨y', k', l', c1, c2, c3⟩ := a3 _ _ (List.getElem?_eq_getElem hl)
      rw [a1] at hl
      rw [if_pos hl]
      have hq := (arg_q hc q1 q5 c1).1
      refine ⟨y', k', l', ?_, by omega, c3, hA _ _ (List.getElem?_eq_getElem (by omega)), hq.mono (by omega)⟩
      rw [List.getD_eq_getElem?_getD, c1]
      rfl
    cases hp'
   -- what the part's head was, it is
   have hhead : ∀ p', partF (withKs f.1 ks, rs) = some p' → ∃ p, partF f = some p ∧ (hdW p').1.1 = (hdW p).1.1 ∧ (hdW p').2.length = (hdW p).2.length ∧ whN b cv 0 (hdW p') 4096 = .done (hdW p') 0 ∧ FitT b (cv.length : Int) p' := by
    intro p' hp'
    obtain ⟨p, k, l, c1, c2, c3, c4, c5⟩ := hpart p' hp'
    obtain ⟨p1, p2⟩ := part_fit q1 c1
    have hpz := foc_sz p1
    have hpfew : szT p ≤ 4096 := p1.few
    have hst := whN_still hr hc (foc p1) (by omega) (Int.le_refl _) (part_still hr hc q1 q2 hstill c1 (room := 4096) (by omega) (Int.le_refl _)) k
    have hp'fit := (nmN_fit hr c5 c3).1
    rw [nmN_eq hr c5, hst] at c3
    simp only at c3
    obtain ⟨ks2, rs2, n3, f1, f2, f3, rfl⟩ := nmE_form c3
    obtain ⟨_, _, _, s4, s5, _⟩ := wh_bud hr hc p1 c5.2.2 hst
    have g2 := nms_elem (cvs := fun _ => cv) _ _ _ _ _ f2 (fun q z k' hz hk z' l' hh => (nmN_fit hr ((arg_q hc (foc p1) s5 hz).1.mono (by
     have := (nms_elem _ _ _ _ _ f1 (fun q z k' hz hk z' l' hh => by
      rw [Nat.zero_add] at hh
      exact (nmN_fit hr ((kid_q hc (foc p1) s4 s5 hz).1.mono hk) hh).2)).2.1
     omega)) hh).2)
    have hne2 : (withKs (hdW p).1 ks2).1.op ≠ 6 := (foc p1).ne
    have hhd2 : hdW (apps (withKs (hdW p).1 ks2) rs2) = (withKs (hdW p).1 ks2, rs2) := hdW_rowF (f := (withKs (hdW p).1 ks2, rs2)) hne2
    refine ⟨p, c1, by rw [hhd2]; rfl, by rw [hhd2]; exact g2.1, ?_, hp'fit⟩
    have hq0 : NmQ b cv 0 (apps (withKs (hdW p).1 ks2) rs2) := ⟨hc, hp'fit, by have := hp'fit.few; have h9 : (rowT (apps (withKs (hdW p).1 ks2) rs2)).length = szT (apps (withKs (hdW p).1 ks2) rs2) := rfl; unfold Bud at hB ⊢; omega⟩
    rw [nmN_eq hr hq0] at c4
    cases hw4 : whN b cv 0 (hdW (apps (withKs (hdW p).1 ks2) rs2)) 4096 with
    | bad e => rw [hw4] at c4; cases c4
    | done z l2 =>
     have hz4 := foc_sz hp'fit
     have hpf4 := hp'fit.few
     have h94 : (rowT (apps (withKs (hdW p).1 ks2) rs2)).length = szT (apps (withKs (hdW p).1 ks2) rs2) := rfl
     obtain ⟨z1, z2⟩ := wh_zero hr hc _ _ _ (foc hp'fit) (by omega) (Int.le_refl _) (Nat.lt_succ_self _) z l2 hw4
     rw [z1, z2]
   have hnot : readyF b cv (withKs f.1 ks, rs) = false := by
    have hpl := place_set f.1 ks
    unfold readyF at q4 ⊢
    have hop : (withKs f.1 ks).1 = f.1.1 := rfl
    simp only
    rw [hop]
    by_cases c5 : f.1.1.op = 5
    · rw [if_pos c5] at q4 ⊢
      rw [a1]; exact q4
    rw [if_neg c5] at q4 ⊢
    by_cases c7 : f.1.1.op = 7 ∨ f.1.1.op = 8
    · rw [if_pos c7] at q4; cases q4
    rw [if_neg c7] at q4 ⊢
    by_cases c1 : f.1.1.op = 1
    · rw [if_pos c1] at q4 ⊢; exact q4
    rw [if_neg c1] at q4 ⊢
    by_cases c11 : f.1.1.op = 11
    · rw [if_pos c11] at q4 ⊢
      obtain ⟨p, d1, d2, d3, _⟩ := hhead (kidN (withKs f.1 ks) 1) (by unfold partF; rw [if_pos (by show f.1.1.op = 11; exact c11)])
      have hpk : p = kidN f.1 1 := by
       unfold partF at d1
       rw [if_pos c11] at d1
       injection d1 with d1
       exact d1.symm
      subst hpk
      unfold fitsM at q4 ⊢
      rw [d2, d3]
      exact q4
    rw [if_neg c11] at q4 ⊢
    by_cases c12 : f.1.1.op = 12
    rotate_left
    · rw [if_neg c12]
    rw [if_pos c12] at q4 ⊢
    rw [hpl, a1]
    by_cases hl : (placeT f.1).toNat < f.2.length
    · rw [decide_eq_true hl, Bool.true_and] at q4 ⊢
      obtain ⟨p, d1, d2, d3, _⟩ := hhead (rs.getD (placeT f.1).toNat (default, [], .nil)) (by
       unfold partF
       simp only
       rw [hop, if_neg c11, if_pos c12, hpl, if_pos (by omega)])
      have hpk : p = f.2.getD (placeT f.1).toNat (default, [], .nil) := by
       unfold partF at d1
       rw [if_neg c11, if_pos c12, if_pos hl] at d1
       injection d1 with d1
       exact d1.symm
      subst hpk
      rw [d2]
      exact q4
    rw [decide_eq_false hl, Bool.false_and]
   have hwy : whN b cv 0 (withKs f.1 ks, rs) 4096 = .done (withKs f.1 ks, rs) 0 := by
    have hend : whE b cv 0 (withKs f.1 ks, rs) 4096 = .done (withKs f.1 ks, rs) 0 := by unfold whE; rw [if_neg (by rw [hnot]; simp)]
    cases hp : partF (withKs f.1 ks, rs) with
    | none => rw [whN_none hr hc hfoc (Int.le_refl _) hp]; exact hend
    | some p' =>
     obtain ⟨p, d1, d2, d3, d4, d5⟩ := hhead p' hp
     obtain ⟨p1, p2⟩ := part_fit hfoc hp
     have hpz := foc_sz p1
     have hpfew : szT p' ≤ 4096 := p1.few
     rw [whN_part hr hc hfoc (by omega) (Int.le_refl _) hp, whN_idem hr hc (foc p1) (by omega) (Int.le_refl _) d4 (by omega) (by omega)]
     simp only
     rw [foc_row p1, with_same hfoc hp]
     exact hend
   rw [nmN_eq hr hyQ, hhd, hwy]
   simp only
   unfold nmE
   have hkk : kidL (withKs f.1 ks).2.2 = ks := setKs_kids _ _ k1
   have hww : withKs (withKs f.1 ks) ks = withKs f.1 ks := by
    unfold withKs
    simp only
    rw [setKs_twice _ _ _ k1 k1]
   simp only
   rw [hkk, nms_zero ks 0 (fun q z hz => by rw [Nat.zero_add]; exact hK q z hz)]
   simp only
   rw [nms_zero (cvs := fun _ => cv) rs 0 (fun q z hz => hA q z hz)]
   simp only
   rw [hww, if_neg (by omega), if_neg (by omega)]
theorem nm_step {b : Bk} (hr : rightE b = 0) {cv : List (List Nd)} {g n m : Nat} {x y : TT} {z : Fc} (hQ : NmQ b cv n x) (hg : szT x < g) (hs : stF b cv g (hdW x) 4096 = .yes z) (hQ2 : NmQ b cv n (rowF z)) (h : nmN b cv n x = .done y m) : nmN b cv n (rowF z) = .done y (m + 1) := by
 have hQ' := hQ
 obtain ⟨hc, hx, hB⟩ := hQ'
 have hsz := foc_sz hx
 have hfew : szT x ≤ 4096 := hx.few
 have hst := step_wh hr hc g (hdW x) 4096 (foc hx) (by omega) (Int.le_refl _) (by omega)
 rw [hs] at hst
 obtain ⟨s1, s2, s3, s4⟩ := hst
 rw [nmN_eq hr hQ] at h
 cases n with
 | zero => rw [s3] at h; cases h
 | succ n =>
  rw [s4 n] at h
  cases hw : whN b cv n z 4096 with
  | bad e => rw [hw] at h; cases h
  | done f n1 =>
   rw [hw] at h
   simp only at h
   have hzz : hdW (rowF z) = z := hdW_rowF s1.ne
   have hw1 := (wh_at hr hc _ n z 4096 s1 s2 (Int.le_refl _) (Nat.lt_succ_self _) f n1 hw (n + 1)).1 (by omega)
   rw [show n + 1 + n1 - n = n1 + 1 from by omega] at hw1
   have hw2 := hw1
   rw [← hzz] at hw2
   obtain ⟨q1, q2, q3, q4, q5, q6⟩ := wh_bud hr hc hQ2.2.1 hQ2.2.2 hw2
   obtain ⟨e1, e2⟩ := nmE_at hr hc q1 q4 (q5.mono (Nat.le_succ _)) (fun cv' k z' hz hk hs' z'' l hh j' hj' => nm_at hr _ cv' k z' hz (Nat.lt_succ_self _) z'' l hh j' hj') h
   have h3 := (e2 (n1 + 1) q5).1 (by omega)
   rw [nmN_eq hr hQ2, hzz]
   rw [show whN b cv (n + 1) z 4096 = .done f (n1 + 1) from hw1]
   simp only
   rw [h3]
   congr 1
   omega
end Go.Proofs.Ytjoddliplahgkaa
