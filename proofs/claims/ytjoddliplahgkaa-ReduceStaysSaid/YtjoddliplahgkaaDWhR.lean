/- Terms that are reckoned on: gas, steps and how far a term goes (plain). -/
import Derived.Test.YtjoddliplahgkaaDWhQ
namespace Go.Proofs.Ytjoddliplahgkaa
set_option linter.unusedVariables false
open Go.RowKit
theorem setK1_same {x : TT} {p q : TT} {br : List TT} (h : kidL x.2.2 = p :: q :: br) : setK1 x.2.2 q = x.2.2 := by
 obtain ⟨n, a, k⟩ := x
 match k, h with
 | .cons pr n1 a1 k1 (.cons qr n2 a2 k2 r), h =>
  simp only [kidL, List.cons.injEq] at h
  obtain ⟨_, rfl, _⟩ := h
  rfl
theorem setK1_kids {k : Fo} {p q : TT} {br : List TT} (h : kidL k = p :: q :: br) (t : TT) : kidL (setK1 k t) = p :: t :: br := by
 match k, h with
 | .cons pr n1 a1 k1 (.cons qr n2 a2 k2 r), h =>
  simp only [kidL, List.cons.injEq] at h
  obtain ⟨rfl, _, rfl⟩ := h
  rfl
theorem setK1_twice {k : Fo} {p q : TT} {br : List TT} (h : kidL k = p :: q :: br) (t u : TT) : setK1 (setK1 k t) u = setK1 k u := by
 match k, h with
 | .cons pr n1 a1 k1 (.cons qr n2 a2 k2 r), h => rfl
theorem with_same {b : Bk} {free : Int} {f : Fc} (hf : FocG b free f) {p : TT} (h : partF f = some p) : withF f p = f := by
 unfold partF at h
 unfold withF
 split at h
 · rename_i c11
   rw [if_pos c11]
   injection h with h
   obtain ⟨u, q, br, hk, _⟩ := kids_match hf.head.okt c11
   have hq : kidN f.1 1 = q := kidN_at (i := 1) (by rw [hk]; rfl)
   rw [← h, hq, setK1_same hk]
 split at h
 · rename_i c11 c12
   rw [if_neg c11]
   split at h
   · rename_i hl
     injection h with h
     have e : f.2.set (placeT f.1).toNat p = f.2 := by
      rw [← h, List.getD_eq_getElem?_getD, List.getElem?_eq_getElem hl]
      exact List.set_getElem_self hl
     rw [e]
   cases h
 cases h
theorem with_with {b : Bk} {free : Int} {f : Fc} (hf : FocG b free f) {p : TT} (h : partF f = some p) (q t : TT) : withF (withF f q) t = withF f t := by
 unfold partF at h
 unfold withF
 split at h
 · rename_i c11
   obtain ⟨u, q', br, hk, _⟩ := kids_match hf.head.okt c11
   rw [if_pos c11]
   simp only
   rw [if_pos c11, if_pos c11, setK1_twice hk]
 rename_i c11
 rw [if_neg c11]
 simp only
 rw [if_neg c11, if_neg c11, List.set_set]
theorem part_with {b : Bk} {free : Int} {f : Fc} (hf : FocG b free f) {p : TT} (h : partF f = some p) (q : TT) : partF (withF f q) = some q := by
 unfold partF at h ⊢
 unfold withF
 split at h
 · rename_i c11
   obtain ⟨u, q', br, hk, _⟩ := kids_match hf.head.okt c11
   rw [if_pos c11]
   simp only
   rw [if_pos c11]
   have : kidN (f.1.1, f.1.2.1, setK1 f.1.2.2 q) 1 = q := kidN_at (i := 1) (by simp only; rw [setK1_kids hk]; rfl)
   rw [this]
 rename_i c11
 rw [if_neg c11]
 split at h
 · rename_i c12
   simp only
   rw [if_neg c11, if_pos c12]
   split at h
   · rename_i hl
     rw [List.length_set, if_pos hl, List.getD_eq_getElem?_getD, List.getElem?_set_self hl]
     rfl
   cases h
 cases h
theorem ready_part {b : Bk} {cv : List (List Nd)} {f : Fc} {p : TT} (hr : readyF b cv f = true) (h : partF f = some p) : (hdW p).1.1.op = 10 := by
 unfold partF at h
 unfold readyF at hr
 split at h
 · rename_i c11
   injection h with h
   rw [if_neg (by omega), if_neg (by omega), if_neg (by omega), if_pos c11, h] at hr
   unfold fitsM at hr
   rw [Bool.and_eq_true, beq_iff_eq] at hr
   exact hr.1
 split at h
 · rename_i c11 c12
   split at h
   · injection h with h
     rw [if_neg (by omega), if_neg (by omega), if_neg (by omega), if_neg c11, if_pos c12, Bool.and_eq_true, beq_iff_eq, h] at hr
     exact hr.2
   cases h
 cases h
theorem ctor_still {b : Bk} {cv : List (List Nd)} {f : Fc} (h : f.1.1.op = 10) : readyF b cv f = false ∧ partF f = none := by
 unfold readyF partF
 exact ⟨by rw [if_neg (by omega), if_neg (by omega), if_neg (by omega), if_neg (by omega), if_neg (by omega)], by rw [if_neg (by omega), if_neg (by omega)]⟩
theorem wh_still {b : Bk} {cv : List (List Nd)} {f : Fc} (h1 : readyF b cv f = false) (h2 : partF f = none) (g n : Nat) (room : Int) : whF b cv (g + 1) n f room = .done f n := by
 unfold whF
 rw [h2]
 simp only
 rw [if_neg (by rw [h1]; simp)]
def whT (b : Bk) (cv : List (List Nd)) (g n : Nat) (f : Fc) (room : Int) : WhR :=
 if readyF b cv f = true then
  if n = 0 then .bad 10
  else match ownF b cv f with
   | none => .bad 9
   | some y => if room < (fsz y : Int) then .bad 9 else whF b cv g (n - 1) y room
 else .done f n
theorem wh_part {b : Bk} {cv : List (List Nd)} {f : Fc} {p : TT} (h : partF f = some p) (g n : Nat) (room : Int) : whF b cv (g + 1) n f room = match whF b cv g n (hdW p) (room - fsz f + szT p) with
 | .bad e => .bad e
 | .done y m => whT b cv g m (withF f (rowF y)) room := by
 conv => lhs; unfold whF
 rw [h]
 simp only
 cases whF b cv g n (hdW p) (room - fsz f + szT p) <;> rfl
theorem wh_none {b : Bk} {cv : List (List Nd)} {f : Fc} (h : partF f = none) (g n : Nat) (room : Int) : whF b cv (g + 1) n f room = whT b cv g n f room := by
 conv => lhs; unfold whF
 rw [h]
 rfl
theorem wh_fit {b : Bk} {cv : List (List Nd)} (hr : rightE b = 0) (hc : CtxG b cv) : ∀ (g n : Nat) (f : Fc) (room : Int), FocG b (cv.length : Int) f → (fsz f : Int) ≤ room → room ≤ 4096 → ∀ y m, whF b cv g n f room = .done y m → FocG b (cv.length : Int) y ∧ (fsz y : Int) ≤ room ∧ m ≤ n
 | 0, n, f, room, _, _, _, y, m, h => by cases h
 | g + 1, n, f, room, hf, h1, h2, y, m, h => by
  have key : ∀ (f' : Fc) (n' : Nat), FocG b (cv.length : Int) f' → (fsz f' : Int) ≤ room → n' ≤ n → whT b cv g n' f' room = .done y m → FocG b (cv.length : Int) y ∧ (fsz y : Int) ≤ room ∧ m ≤ n := by
   intro f' n' hf' hs' hn' hh
   unfold whT at hh
   split at hh
   · rename_i hrd
     split at hh
     · cases hh
     split at hh
     · cases hh
     rename_i z hz
     split at hh
     · cases hh
     obtain ⟨q1, q2, q3⟩ := wh_fit hr hc g (n' - 1) z room (own_fit hr hc hf' hrd hz).1 (by omega) h2 y m hh
     exact ⟨q1, q2, by omega⟩
   injection hh with e1 e2
   subst e1 e2
   exact ⟨hf', hs', hn'⟩
  cases hp : partF f with
  | none =>
   rw [wh_none hp] at h
   exact key f n hf h1 (Nat.le_refl _) h
  | some p =>
   rw [wh_part hp] at h
   obtain ⟨p1, p2⟩ := part_fit hf hp
   cases hw : whF b cv g n (hdW p) (room - fsz f + szT p) with
   | bad e => rw [hw] at h; cases h
   | done z k =>
    rw [hw] at h
    simp only at h
    obtain ⟨q1, q2, q3⟩ := wh_fit hr hc g n (hdW p) (room - fsz f + szT p) (foc p1) (by rw [foc_sz p1]; omega) (by omega) z k hw
    have hz := q1.fit (by omega)
    have hzl := rowF_len z
    obtain ⟨r1, r2⟩ := with_fit hf hp hz (by omega)
    exact key _ k r1 (by omega) q3 h
set_option maxRecDepth 20000 in
theorem wh_gas {b : Bk} {cv : List (List Nd)} (hr : rightE b = 0) (hc : CtxG b cv) : ∀ (g n : Nat) (f : Fc) (room : Int), FocG b (cv.length : Int) f → (fsz f : Int) ≤ room → room ≤ 4096 → n * 4097 + fsz f < g → whF b cv g n f room ≠ .bad 99 ∧ ∀ k, whF b cv (g + k) n f room = whF b cv g n f room
 | 0, n, f, room, _, _, _, h => absurd h (by omega)
 | g + 1, n, f, room, hf, h1, h2, hg => by
  have key : ∀ (f' : Fc) (n' : Nat), FocG b (cv.length : Int) f' → n' ≤ n → whT b cv g n' f' room ≠ .bad 99 ∧ ∀ k, whT b cv (g + k) n' f' room = whT b cv g n' f' room := by
   intro f' n' hf' hn'
   unfold whT
   split
   rotate_left
   · exact ⟨fun h => (by cases h), fun _ => rfl⟩
   rename_i hrd
   split
   · exact ⟨fun h => (by injection h with h; cases h), fun _ => rfl⟩
   cases hz : ownF b cv f' with
   | none => exact ⟨fun h => (by injection h with h; cases h), fun _ => rfl⟩
   | some z =>
    simp only
    split
    · exact ⟨fun h => (by injection h with h; cases h), fun _ => rfl⟩
    · have hz2 := own_fit hr hc hf' hrd hz
      refine wh_gas hr hc g (n' - 1) z room hz2.1 (by omega) h2 ?_
      have : (n' - 1) * 4097 + 4097 ≤ n * 4097 := by
       have : (n' - 1 + 1) * 4097 ≤ n * 4097 := Nat.mul_le_mul_right _ (by omega)
       omega
      omega
  cases hp : partF f with
  | none =>
   refine ⟨by rw [wh_none hp]; exact (key f n hf (Nat.le_refl _)).1, fun k => ?_⟩
   rw [show g + 1 + k = (g + k) + 1 from by omega, wh_none hp, wh_none hp]
   exact (key f n hf (Nat.le_refl _)).2 k
  | some p =>
   obtain ⟨p1, p2⟩ := part_fit hf hp
   have hsz := foc_sz p1
   obtain ⟨i1, i2⟩ := wh_gas hr hc g n (hdW p) (room - fsz f + szT p) (foc p1) (by omega) (by omega) (by omega)
   have hall : ∀ k, whF b cv (g + k + 1) n f room = (match whF b cv g n (hdW p) (room - fsz f + szT p) with
    | .bad e => .bad e
    | .done y m => whT b cv (g + k) m (withF f (rowF y)) room) := fun k => by rw [wh_part hp, i2 k]
   cases hw : whF b cv g n (hdW p) (room - fsz f + szT p) with
   | bad e =>
    rw [hw] at i1
    refine ⟨by have := hall 0; rw [hw] at this; simp only [Nat.add_zero] at this; rw [this]; exact i1, fun k => ?_⟩
    have h3 := hall k
    have h4 := hall 0
    rw [hw] at h3 h4
    simp only [Nat.add_zero] at h3 h4
    rw [show g + 1 + k = g + k + 1 from by omega, h3, h4]
   | done z m =>
    obtain ⟨q1, q2, q3⟩ := wh_fit hr hc g n (hdW p) (room - fsz f + szT p) (foc p1) (by omega) (by omega) z m hw
    have hz := q1.fit (by omega)
    have hzl := rowF_len z
    obtain ⟨r1, r2⟩ := with_fit hf hp hz (by omega)
    obtain ⟨k1, k2⟩ := key _ m r1 q3
    have h4 := hall 0
    rw [hw] at h4
    simp only [Nat.add_zero] at h4
    refine ⟨by rw [h4]; exact k1, fun k => ?_⟩
    have h3 := hall k
    rw [hw] at h3
    simp only at h3
    rw [show g + 1 + k = g + k + 1 from by omega, h3, h4]
    exact k2 k
theorem wh_two {b : Bk} {cv : List (List Nd)} (hr : rightE b = 0) (hc : CtxG b cv) {g g' n : Nat} {f : Fc} {room : Int} (hf : FocG b (cv.length : Int) f) (h1 : (fsz f : Int) ≤ room) (h2 : room ≤ 4096) (hg : n * 4097 + fsz f < g) (hg' : n * 4097 + fsz f < g') : whF b cv g n f room = whF b cv g' n f room := by
 rcases Nat.le_total g g' with h | h
 · rw [← (wh_gas hr hc g n f room hf h1 h2 hg).2 (g' - g), show g + (g' - g) = g' from by omega]
 rw [← (wh_gas hr hc g' n f room hf h1 h2 hg').2 (g - g'), show g' + (g - g') = g from by omega]
def whN (b : Bk) (cv : List (List Nd)) (n : Nat) (f : Fc) (room : Int) : WhR := whF b cv (n * 4097 + fsz f + 1) n f room
theorem whN_of {b : Bk} {cv : List (List Nd)} (hr : rightE b = 0) (hc : CtxG b cv) {g n : Nat} {f : Fc} {room : Int} (hf : FocG b (cv.length : Int) f) (h1 : (fsz f : Int) ≤ room) (h2 : room ≤ 4096) (hg : n * 4097 + fsz f < g) : whF b cv g n f room = whN b cv n f room := wh_two hr hc hf h1 h2 hg (by omega)
def whE (b : Bk) (cv : List (List Nd)) (n : Nat) (f : Fc) (room : Int) : WhR :=
 if readyF b cv f = true then
  if n = 0 then .bad 10
  else match ownF b cv f with
   | none => .bad 9
   | some y => if room < (fsz y : Int) then .bad 9 else whN b cv (n - 1) y room
 else .done f n
set_option maxRecDepth 20000 in
theorem whT_E {b : Bk} {cv : List (List Nd)} (hr : rightE b = 0) (hc : CtxG b cv) {g n : Nat} {f : Fc} {room : Int} (hf : FocG b (cv.length : Int) f) (h2 : room ≤ 4096) (hg : n * 4097 ≤ g) : whT b cv g n f room = whE b cv n f room := by
 unfold whT whE
 split
 · rename_i hrd
   split
   · rfl
   cases hz : ownF b cv f with
   | none => rfl
   | some z =>
    simp only
    split
    · rfl
    · have hz2 := own_fit hr hc hf hrd hz
      refine whN_of hr hc hz2.1 (by omega) h2 ?_
      have : (n - 1 + 1) * 4097 ≤ n * 4097 := Nat.mul_le_mul_right _ (by omega)
      omega
 rfl
theorem whN_none {b : Bk} {cv : List (List Nd)} (hr : rightE b = 0) (hc : CtxG b cv) {n : Nat} {f : Fc} {room : Int} (hf : FocG b (cv.length : Int) f) (h2 : room ≤ 4096) (h : partF f = none) : whN b cv n f room = whE b cv n f room := by
 unfold whN
 rw [wh_none h]
 exact whT_E hr hc hf h2 (by omega)
set_option maxRecDepth 20000 in
theorem whN_part {b : Bk} {cv : List (List Nd)} (hr : rightE b = 0) (hc : CtxG b cv) {n : Nat} {f : Fc} {room : Int} (hf : FocG b (cv.length : Int) f) (h1 : (fsz f : Int) ≤ room) (h2 : room ≤ 4096) {p : TT} (h : partF f = some p) : whN b cv n f room = match whN b cv n (hdW p) (room - fsz f + szT p) with
 | .bad e => .bad e
 | .done y m => whE b cv m (withF f (rowF y)) room := by
 obtain ⟨p1, p2⟩ := part_fit hf h
 have hsz := foc_sz p1
 have e : whF b cv (n * 4097 + fsz f) n (hdW p) (room - fsz f + szT p) = whN b cv n (hdW p) (room - fsz f + szT p) := whN_of hr hc (foc p1) (by omega) (by omega) (by omega)
 conv => lhs; unfold whN
 rw [wh_part h, e]
 cases hw : whN b cv n (hdW p) (room - fsz f + szT p) with
 | bad e => rfl
 | done z m =>
  simp only
  obtain ⟨q1, q2, q3⟩ := wh_fit hr hc _ n (hdW p) (room - fsz f + szT p) (foc p1) (by omega) (by omega) z m hw
  have hz := q1.fit (by omega)
  have hzl := rowF_len z
  obtain ⟨r1, r2⟩ := with_fit hf h hz (by omega)
  refine whT_E hr hc r1 h2 ?_
  have : m * 4097 ≤ n * 4097 := Nat.mul_le_mul_right _ q3
  omega
theorem whN_fit {b : Bk} {cv : List (List Nd)} (hr : rightE b = 0) (hc : CtxG b cv) {n m : Nat} {f y : Fc} {room : Int} (hf : FocG b (cv.length : Int) f) (h1 : (fsz f : Int) ≤ room) (h2 : room ≤ 4096) (h : whN b cv n f room = .done y m) : FocG b (cv.length : Int) y ∧ (fsz y : Int) ≤ room ∧ m ≤ n := wh_fit hr hc _ n f room hf h1 h2 y m h
def StepW (b : Bk) (cv : List (List Nd)) (f : Fc) (room : Int) : StR → Prop
 | .no => ∀ n, whN b cv n f room = .done f n
 | .big => whN b cv 0 f room = .bad 10 ∧ ∀ n, whN b cv (n + 1) f room = .bad 9
 | .yes y => FocG b (cv.length : Int) y ∧ (fsz y : Int) ≤ room ∧ whN b cv 0 f room = .bad 10 ∧ ∀ n, whN b cv (n + 1) f room = whN b cv n y room
set_option maxRecDepth 20000 in
theorem step_wh {b : Bk} {cv : List (List Nd)} (hr : rightE b = 0) (hc : CtxG b cv) : ∀ (g : Nat) (f : Fc) (room : Int), FocG b (cv.length : Int) f → (fsz f : Int) ≤ room → room ≤ 4096 → fsz f < g → StepW b cv f room (stF b cv g f room)
 | 0, f, room, _, _, _, h => absurd h (by omega)
 | g + 1, f, room, hf, h1, h2, hg => by
  by_cases hrd : readyF b cv f = true
  · have hall : ∀ n, whN b cv n f room = whE b cv n f room := by
     intro n
     cases hp : partF f with
     | none => exact whN_none hr hc hf h2 hp
     | some p =>
      obtain ⟨p1, p2⟩ := part_fit hf hp
      obtain ⟨s1, s2⟩ := ctor_still (b := b) (cv := cv) (ready_part hrd hp)
      have e : whN b cv n (hdW p) (room - fsz f + szT p) = .done (hdW p) n := by unfold whN; exact wh_still s1 s2 _ _ _
      rw [whN_part hr hc hf h1 h2 hp, e]
      simp only
      rw [foc_row p1, with_same hf hp]
    unfold stF
    rw [if_pos hrd]
    cases hz : ownF b cv f with
    | none =>
     refine ⟨?_, fun n => ?_⟩
     · rw [hall]; unfold whE; rw [if_pos hrd, if_pos rfl]
     · rw [hall]; unfold whE; rw [if_pos hrd, if_neg (by omega), hz]
    | some z =>
     simp only
     by_cases hbig : room < (fsz z : Int)
     · rw [if_pos hbig]
       refine ⟨?_, fun n => ?_⟩
       · rw [hall]; unfold whE; rw [if_pos hrd, if_pos rfl]
       rw [hall]; unfold whE; rw [if_pos hrd, if_neg (by omega), hz]; simp only; rw [if_pos hbig]
     · rw [if_neg hbig]
       refine ⟨(own_fit hr hc hf hrd hz).1, by omega, ?_, fun n => ?_⟩
       · rw [hall]; unfold whE; rw [if_pos hrd, if_pos rfl]
       rw [hall]; unfold whE; rw [if_pos hrd, if_neg (by omega), hz]; simp only; rw [if_neg hbig]; rfl
  · unfold stF
    rw [if_neg hrd]
    cases hp : partF f with
    | none =>
     intro n
     rw [whN_none hr hc hf h2 hp]
     unfold whE
     rw [if_neg hrd]
    | some p =>
     simp only
     obtain ⟨p1, p2⟩ := part_fit hf hp
     have hsz := foc_sz p1
     have ih := step_wh hr hc g (hdW p) (room - fsz f + szT p) (foc p1) (by omega) (by omega) (by omega)
     cases hs : stF b cv g (hdW p) (room - fsz f + szT p) with
     | no =>
      rw [hs] at ih
      intro n
      rw [whN_part hr hc hf h1 h2 hp, ih n]
      simp only
      rw [foc_row p1, with_same hf hp]
      unfold whE
      rw [if_neg hrd]
     | big =>
      rw [hs] at ih
      obtain ⟨i1, i2⟩ := ih
      exact ⟨by rw [whN_part hr hc hf h1 h2 hp, i1], fun n => by rw [whN_part hr hc hf h1 h2 hp, i2 n]⟩
     | yes z =>
      rw [hs] at ih
      obtain ⟨i1, i2, i3, i4⟩ := ih
      have hz := i1.fit (by omega)
      have hzl := rowF_len z
      obtain ⟨r1, r2⟩ := with_fit hf hp hz (by omega)
      refine ⟨r1, by omega, by rw [whN_part hr hc hf h1 h2 hp, i3], fun n => ?_⟩
      have hp2 := part_with hf hp (rowF z)
      rw [whN_part hr hc hf h1 h2 hp, i4 n, whN_part hr hc r1 (by omega) h2 hp2, hdW_rowF i1.ne]
      have hroom : room - (fsz (withF f (rowF z)) : Int) + szT (rowF z) = room - fsz f + szT p := by omega
      rw [hroom]
      cases whN b cv n z (room - fsz f + szT p) with
      | bad e => rfl
      | done y m => simp only; rw [with_with hf hp]
end Go.Proofs.Ytjoddliplahgkaa
