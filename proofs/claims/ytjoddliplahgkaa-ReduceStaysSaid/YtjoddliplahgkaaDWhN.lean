/- Norms: plain functions, gas, and what comes of them fits. -/
import Derived.Test.YtjoddliplahgkaaDSenseD
namespace Go.Proofs.Ytjoddliplahgkaa
open Go.RowKit
inductive NmR
 | bad (e : Int)
 | done (y : TT) (n : Nat)
inductive NsR
 | bad (e : Int)
 | done (ys : List TT) (n : Nat)
def nmsL (nm : List (List Nd) → Nat → TT → NmR) (cvs : Nat → List (List Nd)) : Nat → List TT → Nat → NsR
 | _, [], n => .done [] n
 | i, x :: r, n => match nm (cvs i) n x with
  | .bad e => .bad e
  | .done y m => match nmsL nm cvs (i + 1) r m with
   | .bad e => .bad e
   | .done ys k => .done (y :: ys) k
def setKs : Fo → List TT → Fo
 | .cons p _ _ _ x, y :: ys => .cons p y.1 y.2.1 y.2.2 (setKs x ys)
 | F, _ => F
def withKs (x : TT) (ys : List TT) : TT := (x.1, x.2.1, setKs x.2.2 ys)
def kidCv (cv : List (List Nd)) (n : Nd) (i : Nat) : List (List Nd) := cv ++ List.replicate (aroundI n.op n.b (i : Int)).toNat []
def nmE (nm : List (List Nd) → Nat → TT → NmR) (cv : List (List Nd)) (f : Fc) (n1 : Nat) : NmR :=
 match nmsL nm (kidCv cv f.1.1) 0 (kidL f.1.2.2) n1 with
 | .bad e => .bad e
 | .done ks n2 => match nmsL nm (fun _ => cv) 0 f.2 n2 with
  | .bad e => .bad e
  | .done rs n3 => if 4096 < szT (withKs f.1 ks) then .bad 9 else if 4096 < szT (withKs f.1 ks) + argsN rs then .bad 9 else .done (apps (withKs f.1 ks) rs) n3
def nmF (b : Bk) : Nat → List (List Nd) → Nat → TT → NmR
 | 0, _, _, _ => .bad 99
 | g + 1, cv, n, x => match whN b cv n (hdW x) 4096 with
  | .bad e => .bad e
  | .done f n1 => nmE (nmF b g) cv f n1
def Bud (cv : List (List Nd)) (n s : Nat) : Prop := 2 * cv.length + s + 4096 * n ≤ 1980000
theorem around_sz {b : Bk} {free : Int} {x : TT} (hx : FitT b free x) (h7 : x.1.op ≠ 7) : ∀ (i : Nat) (y : TT), (kidL x.2.2)[i]? = some y → 2 * (aroundI x.1.op x.1.b (i : Int)).toNat + szT y ≤ szT x := by
 intro i y hy
 have hm : y ∈ kidL x.2.2 := List.mem_of_getElem? hy
 have e : szT x = 1 + x.2.1.length + (row x.2.2).length := szT_eq x.1 x.2.1 x.2.2
 have hk := sz_kid hm
 by_cases h45 : (x.1.op = 4 ∨ x.1.op = 5) ∧ i = 1
 · obtain ⟨h45, rfl⟩ := h45
   have ha : aroundI x.1.op x.1.b ((1 : Nat) : Int) = 1 := by unfold aroundI; rw [if_pos (.inl ⟨h45, rfl⟩)]
   rw [ha]
   obtain ⟨p, q, hkk⟩ := kids_two hx.okt (h45.elim (fun h => .inr (.inr h)) (fun h => .inr (.inl h)))
   rw [hkk] at hy
   simp only [List.getElem?_cons_succ, List.getElem?_cons_zero, Option.some.injEq] at hy
   subst hy
   obtain ⟨n, a, k⟩ := x
   match k, hkk with
   | .cons pr n1 a1 k1 (.cons qr n2 a2 k2 r), hkk =>
    simp only [kidL, List.cons.injEq] at hkk
    obtain ⟨rfl, rfl, _⟩ := hkk
    rw [sz_cons, sz_cons] at e
    have h1 : 1 ≤ szT (n1, a1, k1) := by rw [szT_eq]; omega
    simp only at e ⊢
    omega
 by_cases h12 : x.1.op = 12 ∧ (i : Int) % 2 = 1
 · obtain ⟨c12, hodd⟩ := h12
   have ha : aroundI x.1.op x.1.b (i : Int) = x.1.b := by unfold aroundI; rw [if_neg (by omega), if_pos ⟨c12, hodd⟩]
   rw [ha]
   have hlen : ∀ (F : Fo) (dl : List Bool), Wf dl F → ∀ (j : Nat) (z : TT), (kidL F)[j]? = some z → (kidL F).length - 1 + (dl.filter (· = true)).length + szT z ≤ (row F).length := by
    intro F
    induction F with
    | nil => intro dl _ j z h; simp [kidL] at h
    | cons p n a k x _ ihx =>
     intro dl hw j z h
     cases dl with
     | nil => exact hw.elim
     | cons d dl =>
      obtain ⟨hp, _, _, _, hx'⟩ := hw
      rw [sz_cons]
      have hpl : (if d = true then 1 else 0) ≤ p.length := by
       cases d with
       | false => simp
       | true => obtain ⟨f, rfl, _⟩ := hp; simp
      have hflt : ((d :: dl).filter (· = true)).length = (if d = true then 1 else 0) + (dl.filter (· = true)).length := by cases d <;> simp; omega
      have hlx : ∀ (G : Fo) (dl : List Bool), Wf dl G → (kidL G).length + (dl.filter (· = true)).length ≤ (row G).length := by
       intro G
       induction G with
       | nil => intro dl hw; cases dl with
        | nil => simp [kidL]
        | cons _ _ => exact hw.elim
       | cons p n a k x _ ihx =>
        intro dl hw
        cases dl with
        | nil => exact hw.elim
        | cons d dl =>
         obtain ⟨hp, _, _, _, hx'⟩ := hw
         have := ihx dl hx'
         rw [sz_cons, kidL_cons, List.length_cons]
         have hpl : (if d = true then 1 else 0) ≤ p.length := by
          cases d with
          | false => simp
          | true => obtain ⟨f, rfl, _⟩ := hp; simp
         have hflt : ((d :: dl).filter (· = true)).length = (if d = true then 1 else 0) + (dl.filter (· = true)).length := by cases d <;> simp; omega
         have h1 : 1 ≤ szT (n, a, k) := by rw [szT_eq]; omega
         omega
      have h2 := hlx x dl hx'
      rw [kidL_cons] at h ⊢
      rw [List.length_cons, hflt]
      have h1 : 1 ≤ szT (n, a, k) := by rw [szT_eq]; omega
      cases j with
      | zero =>
       simp only [List.getElem?_cons_zero, Option.some.injEq] at h
       subst h
       omega
      | succ j =>
       simp only [List.getElem?_cons_succ] at h
       have := ihx dl hx' j z h
       have hj : j < (kidL x).length := by
        rw [List.getElem?_eq_some_iff] at h
        exact h.1
       omega
   have h3 := hlen x.2.2 (ds x.1) hx.okt.wf i y hy
   obtain ⟨f1, f2, _, _, f5⟩ := fix_parts hx.okt c12
   have hfl : ((ds x.1).filter (· = true)).length = x.1.b.toNat := by
    unfold ds
    rw [if_pos c12]
    generalize x.1.b.toNat = m
    induction m with
    | zero => rfl
    | succ m ih => rw [List.replicate_succ, List.flatten_cons, List.filter_append, List.length_append, ih]; simp; omega
   rw [f5, hfl] at h3
   omega
 have ha : aroundI x.1.op x.1.b (i : Int) = 0 := by
  unfold aroundI
  rw [if_neg (by omega), if_neg h12]
 rw [ha]
 simp only [Int.toNat_zero, Nat.mul_zero, Nat.zero_add]
 omega
theorem ctx_more {b : Bk} {cv : List (List Nd)} (hc : CtxG b cv) {a : Nat} (hl : cv.length + a ≤ 990000) : CtxG b (cv ++ List.replicate a []) := by
 refine ⟨by simpa using hl, fun k hk => ?_⟩
 by_cases h : k < cv.length
 · have e : (cv ++ List.replicate a []).getD k [] = cv.getD k [] := by simp [List.getD_eq_getElem?_getD, List.getElem?_append_left h]
   rw [e]
   exact hc.vals k h
 left
 rw [List.getD_eq_getElem?_getD, List.getElem?_append_right (by omega), List.getElem?_replicate]
 split <;> rfl
theorem kidCv_len (cv : List (List Nd)) (n : Nd) (i : Nat) : (kidCv cv n i).length = cv.length + (aroundI n.op n.b (i : Int)).toNat := by simp [kidCv]
theorem setKs_kids : ∀ (F : Fo) (ys : List TT), ys.length = (kidL F).length → kidL (setKs F ys) = ys
 | .nil, [], _ => rfl
 | .nil, _ :: _, h => by simp [kidL] at h
 | .cons p n a k x, [], h => by simp [kidL] at h
 | .cons p n a k x, y :: ys, h => by
  rw [kidL_cons] at h
  simp only [setKs, kidL_cons]
  rw [setKs_kids x ys (by simpa using h)]
theorem setKs_twice : ∀ (F : Fo) (ys zs : List TT), ys.length = (kidL F).length → zs.length = (kidL F).length → setKs (setKs F ys) zs = setKs F zs
 | .nil, _, _, _, _ => by simp [setKs]
 | .cons p n a k x, [], zs, h, _ => by simp [kidL] at h
 | .cons p n a k x, y :: ys, [], _, h => by simp [kidL] at h
 | .cons p n a k x, y :: ys, z :: zs, h, h2 => by
  rw [kidL_cons] at h h2
  simp only [setKs]
  rw [setKs_twice x ys zs (by simpa using h) (by simpa using h2)]
theorem setKs_wf : ∀ (F : Fo) (dl : List Bool) (ys : List TT), Wf dl F → ys.length = (kidL F).length → (∀ y ∈ ys, OkT y) → Wf dl (setKs F ys)
 | .nil, dl, _, h, _, _ => by simp only [setKs]; exact h
 | .cons p n a k x, [], _, h, _, _ => h.elim
 | .cons p n a k x, d :: dl, [], _, h, _ => by simp [kidL] at h
 | .cons p n a k x, d :: dl, y :: ys, h, hl, hy => by
  rw [kidL_cons] at hl
  have h1 := hy y (by simp)
  exact ⟨h.1, h1.ok, h1.at_, h1.wf, setKs_wf x dl ys h.2.2.2.2 (by simpa using hl) (fun z hz => hy z (by simp [hz]))⟩
theorem setKs_ex {p : Int → Int → Bool} {pop pb a : Int} : ∀ (F : Fo) (ys : List TT) (j : Nat), ys.length = (kidL F).length → (∀ i y, ys[i]? = some y → exT p (a + aroundI pop pb ((j + i : Nat) : Int)) y.1 y.2.2 = false) → exF p pop pb j a (setKs F ys) = false
 | .nil, _, _, _, _ => by simp only [setKs]; rfl
 | .cons pr n at_ k x, [], j, h, _ => by simp [kidL] at h
 | .cons pr n at_ k x, y :: ys, j, h, hy => by
  rw [kidL_cons] at h
  simp only [setKs]
  rw [exF_cons, Bool.or_eq_false_iff]
  refine ⟨by simpa using hy 0 y rfl, setKs_ex x ys (j + 1) (by simpa using h) fun i z hz => ?_⟩
  have := hy (i + 1) z (by simpa using hz)
  rwa [show j + (i + 1) = j + 1 + i from by omega] at this
theorem setKs_nodes : ∀ (F : Fo) (ys : List TT), ∀ m ∈ row (setKs F ys), m ∈ row F ∨ ∃ y ∈ ys, m ∈ rowT y
 | .nil, _, m, h => by simp only [setKs] at h; exact .inl h
 | .cons p n a k x, [], m, h => by simp only [setKs] at h; exact .inl h
 | .cons p n a k x, y :: ys, m, h => by
  simp only [setKs, row, List.mem_append, List.mem_cons] at h
  rcases h with h | h | h | h | h
  · exact .inl (by simp [row, h])
  · exact .inr ⟨y, by simp, by simp [rowT, h]⟩
  · exact .inr ⟨y, by simp, by simp [rowT, h]⟩
  · exact .inr ⟨y, by simp, by simp [rowT, h]⟩
  · rcases setKs_nodes x ys m h with h | ⟨z, hz, h⟩
    · exact .inl (by simp [row, h])
    exact .inr ⟨z, by simp [hz], h⟩
theorem ks_fit {b : Bk} {free : Int} {x : TT} (hx : FitT b free x) {ys : List TT} (hl : ys.length = (kidL x.2.2).length) (hy : ∀ (i : Nat) (y : TT), ys[i]? = some y → FitT b (free + aroundI x.1.op x.1.b (i : Int)) y) (hs : szT (withKs x ys) ≤ 4096) : FitT b free (withKs x ys) := by
 have hok : ∀ y ∈ ys, OkT y := fun y h => by
  obtain ⟨i, hi, rfl⟩ := List.getElem_of_mem h
  exact (hy i _ (List.getElem?_eq_getElem hi)).okt
 refine ⟨⟨hx.okt.ok, hx.okt.at_, setKs_wf _ _ _ hx.okt.wf hl hok⟩, hs, ?_, fun m hm => ?_⟩
 · have h1 := hx.low
   unfold exT at h1
   rw [Bool.or_eq_false_iff] at h1
   show exT _ 0 x.1 (setKs x.2.2 ys) = false
   unfold exT
   rw [Bool.or_eq_false_iff]
   refine ⟨h1.1, setKs_ex _ _ 0 hl fun i y h => ?_⟩
   have h2 := (hy i y h).low
   rw [Int.zero_add, Nat.zero_add]
   exact exT_shift (p := fun v z => decide (free + aroundI x.1.op x.1.b (i : Int) ≤ v - z)) (q := fun v z => decide (free ≤ v - z)) (c := -aroundI x.1.op x.1.b (i : Int)) (fun v z hh => by
    simp only [decide_eq_true_eq] at hh ⊢
    omega) (a := aroundI x.1.op x.1.b (i : Int)) (by rw [show aroundI x.1.op x.1.b (i : Int) + -aroundI x.1.op x.1.b (i : Int) = 0 from by omega]; exact h2)
 have hm' : m = x.1 ∨ m ∈ x.2.1 ∨ m ∈ row (setKs x.2.2 ys) := by simpa [withKs, rowT] using hm
 rcases hm' with h | h | h
 · exact hx.nod m (by simp [rowT, h])
 · exact hx.nod m (by simp [rowT, h])
 rcases setKs_nodes _ _ m h with h | ⟨y, hy2, h⟩
 · exact hx.nod m (by simp [rowT, h])
 obtain ⟨i, hi, rfl⟩ := List.getElem_of_mem hy2
 exact (hy i _ (List.getElem?_eq_getElem hi)).nod m h
theorem wh_end {b : Bk} {cv : List (List Nd)} (hr : rightE b = 0) (hc : CtxG b cv) : ∀ (g n : Nat) (f : Fc) (room : Int) (y : Fc) (m : Nat), whF b cv g n f room = .done y m → readyF b cv y = false
 | 0, n, f, room, y, m, h => by cases h
 | g + 1, n, f, room, y, m, h => by
  have key : ∀ (f' : Fc) (n' : Nat), whT b cv g n' f' room = .done y m → readyF b cv y = false := by
   intro f' n' hh
   unfold whT at hh
   split at hh
   · split at hh
     · cases hh
     split at hh
     · cases hh
     split at hh
     · cases hh
     exact wh_end hr hc g _ _ _ y m hh
   rename_i hn
   injection hh with e1 e2
   subst e1
   simpa using hn
  cases hp : partF f with
  | none => rw [wh_none hp] at h; exact key f n h
  | some p =>
   rw [wh_part hp] at h
   cases hw : whF b cv g n (hdW p) (room - fsz f + szT p) with
   | bad e => rw [hw] at h; cases h
   | done z k => rw [hw] at h; exact key _ k h
set_option maxRecDepth 20000 in
theorem wh_zero {b : Bk} {cv : List (List Nd)} (hr : rightE b = 0) (hc : CtxG b cv) : ∀ (s : Nat) (f : Fc) (room : Int), FocG b (cv.length : Int) f → (fsz f : Int) ≤ room → room ≤ 4096 → fsz f < s → ∀ y m, whN b cv 0 f room = .done y m → y = f ∧ m = 0
 | 0, f, room, _, _, _, h, _, _, _ => absurd h (by omega)
 | s + 1, f, room, hf, h1, h2, hs, y, m, h => by
  have key : whE b cv 0 f room = .done y m → y = f ∧ m = 0 := fun hh => by
   unfold whE at hh
   split at hh
   · rw [if_pos rfl] at hh; cases hh
   injection hh with e1 e2
   exact ⟨e1.symm, e2.symm⟩
  cases hp : partF f with
  | none => rw [whN_none hr hc hf h2 hp] at h; exact key h
  | some p =>
   obtain ⟨p1, p2⟩ := part_fit hf hp
   have hsz := foc_sz p1
   rw [whN_part hr hc hf h1 h2 hp] at h
   cases hw : whN b cv 0 (hdW p) (room - fsz f + szT p) with
   | bad e => rw [hw] at h; cases h
   | done z k =>
    rw [hw] at h
    simp only at h
    obtain ⟨rfl, rfl⟩ := wh_zero hr hc s (hdW p) (room - fsz f + szT p) (foc p1) (by omega) (by omega) (by omega) z k hw
    rw [foc_row p1, with_same hf hp] at h
    exact key h
theorem wh_same {b : Bk} {cv : List (List Nd)} (hr : rightE b = 0) (hc : CtxG b cv) {n : Nat} {f y : Fc} {room : Int} (hf : FocG b (cv.length : Int) f) (h1 : (fsz f : Int) ≤ room) (h2 : room ≤ 4096) (h : whN b cv n f room = .done y n) : y = f := by
 have h3 := (wh_at hr hc _ n f room hf h1 h2 (Nat.lt_succ_self _) y n h 0).1 (by omega)
 exact (wh_zero hr hc _ f room hf h1 h2 (Nat.lt_succ_self _) y _ h3).1
theorem Bud.mono {cv : List (List Nd)} {n m s : Nat} (h : Bud cv n s) (hm : m ≤ n) : Bud cv m s := by
 unfold Bud at h ⊢
 have : 4096 * m ≤ 4096 * n := Nat.mul_le_mul_left _ hm
 omega
theorem wh_bud {b : Bk} {cv : List (List Nd)} (hr : rightE b = 0) (hc : CtxG b cv) {n m : Nat} {x : TT} {f : Fc} (hx : FitT b (cv.length : Int) x) (hB : Bud cv n (szT x)) (h : whN b cv n (hdW x) 4096 = .done f m) : FocG b (cv.length : Int) f ∧ fsz f ≤ 4096 ∧ m ≤ n ∧ readyF b cv f = false ∧ Bud cv m (fsz f) ∧ m * 4097 + fsz f ≤ n * 4097 + szT x := by
 have hsz := foc_sz hx
 have hfew : szT x ≤ 4096 := hx.few
 obtain ⟨q1, q2, q3⟩ := whN_fit hr hc (foc hx) (by omega) (Int.le_refl _) h
 refine ⟨q1, by omega, q3, wh_end hr hc _ _ _ _ _ _ h, ?_, ?_⟩
 · by_cases he : m = n
   · subst he
     rw [wh_same hr hc (foc hx) (by omega) (Int.le_refl _) h, hsz]
     exact hB
   unfold Bud at hB ⊢
   have : 4096 * (m + 1) ≤ 4096 * n := Nat.mul_le_mul_left _ (by omega)
   omega
 by_cases he : m = n
 · subst he
   rw [wh_same hr hc (foc hx) (by omega) (Int.le_refl _) h, hsz]
   exact Nat.le_refl _
 have : (m + 1) * 4097 ≤ n * 4097 := Nat.mul_le_mul_right _ (by omega)
 omega
def NmQ (b : Bk) (cv : List (List Nd)) (n : Nat) (x : TT) : Prop := CtxG b cv ∧ FitT b (cv.length : Int) x ∧ Bud cv n (szT x)
theorem NmQ.mono {b : Bk} {cv : List (List Nd)} {n m : Nat} {x : TT} (h : NmQ b cv n x) (hm : m ≤ n) : NmQ b cv m x := ⟨h.1, h.2.1, h.2.2.mono hm⟩
theorem kid_q {b : Bk} {cv : List (List Nd)} (hc : CtxG b cv) {f : Fc} {n : Nat} (hf : FocG b (cv.length : Int) f) (hrd : readyF b cv f = false) (hB : Bud cv n (fsz f)) {i : Nat} {y : TT} (hy : (kidL f.1.2.2)[i]? = some y) : NmQ b (kidCv cv f.1.1 i) n y ∧ szT y < fsz f := by
 have h7 : f.1.1.op ≠ 7 := fun h => by
  unfold readyF at hrd
  rw [if_neg (by omega), if_pos (.inl h)] at hrd
  cases hrd
 have ha := around_sz hf.head h7 i y hy
 have ha2 : szT y < szT f.1 := by
  have e : szT f.1 = 1 + f.1.2.1.length + (row f.1.2.2).length := szT_eq f.1.1 f.1.2.1 f.1.2.2
  have := sz_kid (List.mem_of_getElem? hy)
  omega
 have h0 := (hf.head.okt.around (i : Int)).1
 have hz : fsz f = szT f.1 + argsN f.2 := rfl
 have hl := kidCv_len cv f.1.1 i
 unfold Bud at hB
 refine ⟨⟨ctx_more hc (by omega), ?_, ?_⟩, by omega⟩
 · have e : ((kidCv cv f.1.1 i).length : Int) = (cv.length : Int) + aroundI f.1.1.op f.1.1.b (i : Int) := by rw [hl]; omega
   rw [e]
   exact hf.head.kid hy
 unfold Bud
 rw [hl]
 omega
theorem arg_q {b : Bk} {cv : List (List Nd)} (hc : CtxG b cv) {f : Fc} {n : Nat} (hf : FocG b (cv.length : Int) f) (hB : Bud cv n (fsz f)) {i : Nat} {y : TT} (hy : f.2[i]? = some y) : NmQ b cv n y ∧ szT y < fsz f := by
 have hm := List.mem_of_getElem? hy
 have := argsN_mem hm
 have hz : fsz f = szT f.1 + argsN f.2 := rfl
 unfold Bud at hB
 exact ⟨⟨hc, hf.args y hm, by unfold Bud; omega⟩, by omega⟩
theorem nms_all {b : Bk} {nm : List (List Nd) → Nat → TT → NmR} {cvs : Nat → List (List Nd)} : ∀ (L : List TT) (i n : Nat), (∀ (j : Nat) (y : TT) (k : Nat), L[j]? = some y → k ≤ n → ∀ z m, nm (cvs (i + j)) k y = .done z m → FitT b ((cvs (i + j)).length : Int) z ∧ m ≤ k) → ∀ ys m, nmsL nm cvs i L n = .done ys m → ys.length = L.length ∧ m ≤ n ∧ ∀ (j : Nat) (z : TT), ys[j]? = some z → FitT b ((cvs (i + j)).length : Int) z
 | [], i, n, _, ys, m, h => by
  injection h with e1 e2
  subst e1 e2
  exact ⟨rfl, Nat.le_refl _, fun j z hz => by simp at hz⟩
 | x :: r, i, n, H, ys, m, h => by
  simp only [nmsL] at h
  cases h1 : nm (cvs i) n x with
  | bad e => rw [h1] at h; cases h
  | done y k =>
   rw [h1] at h
   simp only at h
   cases h2 : nmsL nm cvs (i + 1) r k with
   | bad e => rw [h2] at h; cases h
   | done zs l =>
    rw [h2] at h
    injection h with e1 e2
    subst e1 e2
    obtain ⟨a1, a2⟩ := H 0 x n rfl (Nat.le_refl _) y k h1
    obtain ⟨b1, b2, b3⟩ := nms_all r (i + 1) k (fun j z k' hz hk' z' m' hh => by
     have := H (j + 1) z k' (by simpa using hz) (by omega) z' m' (by rwa [show i + (j + 1) = i + 1 + j from by omega])
     rwa [show i + (j + 1) = i + 1 + j from by omega] at this) zs l h2
    refine ⟨by simp [b1], by omega, fun j z hz => ?_⟩
    cases j with
    | zero =>
     simp only [List.getElem?_cons_zero, Option.some.injEq] at hz
     subst hz
     exact a1
    | succ j =>
     have := b3 j z (by simpa using hz)
     rwa [show i + 1 + j = i + (j + 1) from by omega] at this
theorem nms_congr {nm nm' : List (List Nd) → Nat → TT → NmR} {cvs : Nat → List (List Nd)} : ∀ (L : List TT) (i n : Nat), (∀ (j : Nat) (y : TT) (k : Nat), L[j]? = some y → k ≤ n → nm (cvs (i + j)) k y = nm' (cvs (i + j)) k y ∧ ∀ z m, nm (cvs (i + j)) k y = .done z m → m ≤ k) → nmsL nm cvs i L n = nmsL nm' cvs i L n
 | [], _, _, _ => rfl
 | x :: r, i, n, H => by
  simp only [nmsL]
  obtain ⟨h1, h2⟩ := H 0 x n rfl (Nat.le_refl _)
  simp only [Nat.add_zero] at h1 h2
  rw [← h1]
  cases hx : nm (cvs i) n x with
  | bad e => rfl
  | done y k =>
   simp only
   have hk := h2 y k hx
   rw [nms_congr r (i + 1) k (fun j z k' hz hk' => by
    have := H (j + 1) z k' (by simpa using hz) (by omega)
    rwa [show i + (j + 1) = i + 1 + j from by omega] at this)]
theorem nm_fit {b : Bk} (hr : rightE b = 0) : ∀ (g : Nat) (cv : List (List Nd)) (n : Nat) (x : TT), NmQ b cv n x → ∀ y m, nmF b g cv n x = .done y m → FitT b (cv.length : Int) y ∧ m ≤ n
 | 0, cv, n, x, _, y, m, h => by cases h
 | g + 1, cv, n, x, ⟨hc, hx, hB⟩, y, m, h => by
  simp only [nmF] at h
  cases hw : whN b cv n (hdW x) 4096 with
  | bad e => rw [hw] at h; cases h
  | done f n1 =>
   rw [hw] at h
   simp only at h
   obtain ⟨q1, q2, q3, q4, q5, _⟩ := wh_bud hr hc hx hB hw
   unfold nmE at h
   cases hk : nmsL (nmF b g) (kidCv cv f.1.1) 0 (kidL f.1.2.2) n1 with
   | bad e => rw [hk] at h; cases h
   | done ks n2 =>
    rw [hk] at h
    simp only at h
    obtain ⟨k1, k2, k3⟩ := nms_all (b := b) (kidL f.1.2.2) 0 n1 (fun j z k' hz hk' z' m' hh => by
     rw [Nat.zero_add] at hh ⊢
     exact nm_fit hr g _ _ _ ((kid_q hc q1 q4 q5 hz).1.mono hk') z' m' hh) ks n2 hk
    cases ha : nmsL (nmF b g) (fun _ => cv) 0 f.2 n2 with
    | bad e => rw [ha] at h; cases h
    | done rs n3 =>
     rw [ha] at h
     simp only at h
     obtain ⟨a1, a2, a3⟩ := nms_all (b := b) (cvs := fun _ => cv) f.2 0 n2 (fun j z k' hz hk' z' m' hh => nm_fit hr g _ _ _ ((arg_q hc q1 q5 hz).1.mono (by omega)) z' m' hh) rs n3 ha
     split at h
     · cases h
     · split at h
       · cases h
       injection h with e1 e2
       subst e1 e2
       have hh := ks_fit q1.head (ys := ks) k1 (fun i z hz => by
        have := k3 i z hz
        rw [Nat.zero_add, kidCv_len] at this
        have h0 := (q1.head.okt.around (i : Int)).1
        rwa [show ((cv.length + (aroundI f.1.1.op f.1.1.b (i : Int)).toNat : Nat) : Int) = (cv.length : Int) + aroundI f.1.1.op f.1.1.b (i : Int) from by omega] at this) (by omega)
       refine ⟨apps_fits _ _ hh (fun a ha => ?_) (by omega), by omega⟩
       obtain ⟨i, hi, rfl⟩ := List.getElem_of_mem ha
       exact a3 i _ (List.getElem?_eq_getElem hi)
end Go.Proofs.Ytjoddliplahgkaa
