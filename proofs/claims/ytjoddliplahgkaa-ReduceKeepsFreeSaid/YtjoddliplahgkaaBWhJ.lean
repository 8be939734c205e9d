/- Free variables of a step (plain). -/
import Derived.Test.YtjoddliplahgkaaBWhR
namespace Go.Proofs.Ytjoddliplahgkaa
open Go.RowKit
def frT (v : Int) (x : TT) : Bool := exT (fun y z => decide (y - z = v)) 0 x.1 x.2.2
def frN (v : Int) (f : Fc) : Prop := frT v f.1 = false ∧ ∀ a ∈ f.2, frT v a = false
theorem exE_up {B c : Int} (hB : 0 ≤ B) (pop pb : Int) : ∀ (j : Nat) (z : Int) (F : Fo), 0 ≤ c → exF (fun v z => decide (v - z = B)) pop pb j (z + c) (raF c 0 pop pb j z F) = true → exF (fun v z => decide (v - z = B)) pop pb j z F = true
 | _, _, .nil, _, h => by simp [raF, exF] at h
 | j, z, .cons p n ats k x, h0, h => by
  have hs := raN_same c 0 n (z + aroundI pop pb j)
  simp only [raF, exF, hs.1, hs.2, Bool.or_eq_true, Bool.and_eq_true, decide_eq_true_eq] at h ⊢
  have e : z + c + aroundI pop pb (j : Int) = z + aroundI pop pb (j : Int) + c := by omega
  rw [e] at h
  rcases h with (⟨h1, h2⟩ | h) | h
  · refine .inl (.inl ⟨h1, ?_⟩)
    unfold raN at h2
    split at h2
    · simp only at h2; omega
    omega
  · exact .inl (.inr (exE_up hB n.op n.b 0 _ k h0 h))
  · exact .inr (exE_up hB pop pb (j + 1) z x h0 h)
theorem suE_ex {u : TT} {B : Int} (hB : 0 ≤ B) (hu : exT (fun v z => decide (v - z = B)) 0 u.1 u.2.2 = false) (pop pb : Int) (hp : ∀ j : Int, 0 ≤ aroundI pop pb j) : ∀ (j : Nat) (a : Int) (F : Fo), VkF F → BOk F → 0 ≤ a → exF (fun v z => decide (v - z = B + 1)) pop pb j a F = false → exF (fun v z => decide (v - z = B)) pop pb j a (trF (suS u) pop pb j a F) = false
 | _, _, .nil, _, _, _, _ => rfl
 | j, a, .cons p n ats k x, hk, hb, h0, he => by
  obtain ⟨k1, k2, k3⟩ := hk
  obtain ⟨b1, b2, b3⟩ := hb
  have ha := hp (j : Int)
  rw [exF_cons, Bool.or_eq_false_iff] at he
  obtain ⟨t1, t2⟩ := ex_top he.1
  rw [trF_cons, exF_cons, suE_ex hB hu pop pb hp (j + 1) a x k3 b3 h0 he.2, Bool.or_false]
  by_cases hv : n.op = 1
  · rw [trT_var (x := (n, ats, k)) hv]
    have t3 := t1 hv
    rw [decide_eq_false_iff_not] at t3
    unfold suS
    split
    · cases hh : exT (fun v z => decide (v - z = B)) (a + aroundI pop pb j) (upT u (a + aroundI pop pb j)).1 (upT u (a + aroundI pop pb j)).2.2 with
      | false => rfl
      | true =>
       have e1 : exF (fun v z => decide (v - z = B)) 0 0 0 (0 + (a + aroundI pop pb j)) (raF (a + aroundI pop pb j) 0 0 0 0 0 (.cons [] u.1 u.2.1 u.2.2 .nil)) = true := by
        rw [raF_one, exF_cons, Int.zero_add]
        have hz : aroundI 0 0 ((0 : Nat) : Int) = 0 := by decide
        rw [hz, Int.add_zero, Bool.or_eq_true]
        exact .inl hh
       have e2 := exE_up hB 0 0 0 0 _ (by omega) e1
       have hz : aroundI 0 0 ((0 : Nat) : Int) = 0 := by decide
       rw [exF_cons, hz, Int.add_zero, hu] at e2
       simp [exF] at e2
    split
    · simp only [exT, exF, Bool.or_false]
      rw [decide_eq_true hv, Bool.true_and]
      exact decide_eq_false (by simp only at *; omega)
    simp only [exT, exF, Bool.or_false]
    rw [decide_eq_true hv, Bool.true_and]
    exact decide_eq_false (by simp only at *; omega)
  · rw [trT_other (x := (n, ats, k)) hv]
    simp only [exT]
    rw [decide_eq_false hv, Bool.false_and, Bool.false_or]
    exact suE_ex hB hu n.op n.b (around_ge b1) 0 _ k k2 b2 (by omega) t2
theorem frT_app {v : Int} {f a : TT} : frT v (appTT f a) = (frT v f || frT v a) := by
 have h0 : aroundI 6 0 ((0 : Nat) : Int) = 0 := by decide
 have h1 : aroundI 6 0 ((0 + 1 : Nat) : Int) = 0 := by decide
 show exT _ 0 (⟨6, 0, 0⟩ : Nd) (.cons [] f.1 f.2.1 f.2.2 (.cons [] a.1 a.2.1 a.2.2 .nil)) = _
 unfold exT
 rw [exF_cons, exF_cons]
 simp only
 rw [h0, h1]
 simp [frT, exT, exF]
theorem frT_apps {v : Int} : ∀ (L : List TT) (x : TT), frT v (apps x L) = false ↔ frT v x = false ∧ ∀ a ∈ L, frT v a = false
 | [], x => by simp [apps]
 | a :: r, x => by
  show frT v (apps (appTT x a) r) = false ↔ _
  rw [frT_apps r, frT_app, Bool.or_eq_false_iff]
  simp only [List.mem_cons]
  constructor
  · rintro ⟨⟨h1, h2⟩, h3⟩
    refine ⟨h1, fun y hy => ?_⟩
    rcases hy with rfl | hy
    · exact h2
    exact h3 y hy
  · rintro ⟨h1, h2⟩
    exact ⟨⟨h1, h2 a (.inl rfl)⟩, fun y hy => h2 y (.inr hy)⟩
theorem frN_row {v : Int} {f : Fc} : frT v (rowF f) = false ↔ frN v f := frT_apps f.2 f.1
theorem frN_hd {b : Bk} {free v : Int} {x : TT} (hx : FitT b free x) (h : frT v x = false) : frN v (hdW x) := frN_row.1 (by rw [foc_row hx]; exact h)
theorem frT_kid {v : Int} {x y : TT} (h : frT v x = false) {i : Nat} (hy : (kidL x.2.2)[i]? = some y) : frT (v + aroundI x.1.op x.1.b (i : Int)) y = false := by
 have h1 := ex_kid (ex_top h).2 i y hy
 rw [show (0 + i : Nat) = i from by omega] at h1
 refine exT_shift (p := fun y z => decide (y - z = v)) (c := aroundI x.1.op x.1.b (i : Int)) (fun a z hh => ?_) h1
 rw [decide_eq_true_eq] at hh ⊢
 omega
theorem frT_kid0 {v : Int} {x y : TT} (h : frT v x = false) {i : Nat} (hy : (kidL x.2.2)[i]? = some y) (h0 : aroundI x.1.op x.1.b (i : Int) = 0) : frT v y = false := by
 have := frT_kid h hy
 rwa [h0, Int.add_zero] at this
theorem frT_sub {b : Bk} {free v : Int} {x u : TT} (hv : 0 ≤ v) (hx : FitT b (free + 1) x) (h1 : frT (v + 1) x = false) (h2 : frT v u = false) (he : (subTT x u).2 = 0) : frT v (subTT x u).1 = false := by
 have hw := hx.okt.one
 have hz : aroundI 0 0 ((0 : Nat) : Int) = 0 := by decide
 have hp0 : ∀ j : Int, 0 ≤ aroundI 0 0 j := fun j => by
  rw [around_plain (by decide) (by decide) (by decide) (by decide)]; omega
 have hex := suE_ex (u := u) hv h2 0 0 hp0 0 0 _ (vkF_wf _ _ hw) (bok_wf _ _ hw) (by omega) (by
  rw [exF_cons, hz, Int.add_zero]
  show (frT (v + 1) x || _) = false
  rw [h1]; rfl)
 rw [trF_cons, exF_cons, hz, Int.add_zero, Bool.or_eq_false_iff] at hex
 have e : (subTT x u).1 = trT (suS u) 0 x := by
  unfold subTT at he ⊢
  split at he
  · cases he
  rename_i h9
  rw [if_neg h9]
 rw [e]
 exact hex.1
theorem frT_up {v c : Int} (hv : 0 ≤ v) (hc : 0 ≤ c) {u : TT} (h : frT v u = false) : frT (v + c) (upT u c) = false := by
 have hz : aroundI 0 0 ((0 : Nat) : Int) = 0 := by decide
 cases hh : frT (v + c) (upT u c) with
 | false => rfl
 | true =>
  have e1 : exF (fun y z => decide (y - z = v + c)) 0 0 0 0 (raF c 0 0 0 0 0 (.cons [] u.1 u.2.1 u.2.2 .nil)) = true := by
   rw [raF_one, exF_cons, hz, Int.add_zero, Bool.or_eq_true]
   exact .inl hh
  have e2 := exF_shift (p := fun y z => decide (y - z = v)) (c := c) (fun a z h => by rw [decide_eq_true_eq] at h ⊢; omega) 0 0 0 0 _ e1
  have e3 := exE_up hv 0 0 0 0 _ hc e2
  rw [exF_cons, hz, Int.add_zero] at e3
  have e4 : exT (fun y z => decide (y - z = v)) 0 u.1 u.2.2 = false := h
  rw [e4] at e3
  simp [exF] at e3
theorem frT_fixAt {v : Int} {h : TT} (h12 : h.1.op = 12) (i : Nat) : frT v (fixAt h i) = frT v h := by
 unfold frT fixAt exT
 simp [h12]
theorem unfG_free {b : Bk} {free v : Int} {h : TT} (hh : FitT b free h) (h12 : h.1.op = 12) (h0 : 0 ≤ free) (h1 : free ≤ 990000) (hv : 0 ≤ v) (hf : frT v h = false) : ∀ (i : Nat) (x y : TT), (i : Int) ≤ h.1.b → FitT b (free + i) x → frT (v + i) x = false → unfG h i x = some y → frT v y = false
 | 0, x, y, _, hx, hn, he => by
  injection he with he
  subst he
  simpa using hn
 | i + 1, x, y, hi, hx, hn, he => by
  have hb4 : h.1.b ≤ 4 := by
   have hok := hh.okt.ok
   simp only [okN, Bool.and_eq_true] at hok
   have hpl := plainB_iff.1 hok.1.1
   omega
  have hu := up_fit (fixAt_fit hh h12 (i := i) (by omega)) (up := (i : Int)) (by omega) (by omega)
  have hx1 : FitT b (free + i + 1) x := by
   have e : free + ((i + 1 : Nat) : Int) = free + i + 1 := by omega
   rw [← e]; exact hx
  have hs := sub_rowG (b := b) (free := free + i) (x := x) (u := upT (fixAt h i) (i : Int)) (by omega) (by omega) hx1 hu.1
  simp only [unfG] at he
  split at he
  · rename_i h9
    refine unfG_free hh h12 h0 h1 hv hf i _ y (by omega) (hs.2.2 h9) ?_ he
    refine frT_sub (by omega) hx1 ?_ (frT_up hv (by omega) (by rw [frT_fixAt h12]; exact hf)) h9
    have e : v + ((i + 1 : Nat) : Int) = v + i + 1 := by omega
    rw [← e]; exact hn
  · cases he
theorem unfR_free {b : Bk} {free v : Int} {h y : TT} (hh : FitT b free h) (h12 : h.1.op = 12) (h0 : 0 ≤ free) (h1 : free ≤ 990000) (hv : 0 ≤ v) (hf : frT v h = false) (he : unfR h = some y) : frT v y = false := by
 obtain ⟨p1, p2, p3, p4, p5⟩ := fix_parts hh.okt h12
 have hs := kid_some (x := h) (i := 2 * h.1.a.toNat + 1) (by omega)
 have hk := hh.kid hs
 have hn := frT_kid hf hs
 rw [around_fix h12] at hk hn
 unfold unfR at he
 have e : ((h.1.b.toNat : Nat) : Int) = h.1.b := by omega
 exact unfG_free hh h12 h0 h1 hv hf _ _ y (by omega) (by rw [e]; exact hk) (by rw [e]; exact hn) he
theorem onto_free {b : Bk} {free v : Int} {t : TT} {L : List TT} {f : Fc} (ht : FitT b free t) (h1 : frT v t = false) (h2 : ∀ a ∈ L, frT v a = false) (h : ontoF t L = some f) : frN v f := by
 unfold ontoF at h
 split at h
 · cases h
 injection h with h
 subst h
 have g := frN_hd ht h1
 refine ⟨g.1, fun y hy => ?_⟩
 rcases List.mem_append.1 hy with hy | hy
 · exact g.2 y hy
 exact h2 y hy
theorem closed_free {b : Bk} {v : Int} {x : TT} (hv : 0 ≤ v) (hx : FitT b 0 x) : frT v x = false := by
 refine exT_shift (p := fun y z => decide (0 ≤ y - z)) (c := 0) (fun a z hh => ?_) (a := 0) hx.low
 rw [decide_eq_true_eq] at hh ⊢
 omega
theorem own_free {b : Bk} {cv : List (List Nd)} {v : Int} (hv : 0 ≤ v) (hr : rightE b = 0) (hc : CtxG b cv) (hno : ∀ k, cv.getD k [] = []) {f y : Fc} (hf : FocG b (cv.length : Int) f) (hrd : readyF b cv f = true) (hn : frN v f) (h : ownF b cv f = some y) : frN v y := by
 have hfew := hc.few
 obtain ⟨n1, n2⟩ := hn
 unfold readyF at hrd
 unfold ownF at h
 by_cases c5 : f.1.1.op = 5
 · rw [if_pos c5] at hrd h
   rw [decide_eq_true_eq] at hrd
   obtain ⟨p, q, hk⟩ := kids_two hf.head.okt (.inr (.inl c5))
   have hq := hf.head.kid (i := 1) (by rw [hk]; rfl)
   have fq := frT_kid n1 (i := 1) (by rw [hk]; rfl)
   rw [kidN_at (i := 1) (by rw [hk]; rfl)] at h
   have har : aroundI f.1.1.op f.1.1.b ((1 : Nat) : Int) = 1 := around_one (.inl ⟨c5, rfl⟩)
   rw [har] at hq fq
   have hm := getD_mem hrd (default, [], .nil)
   have ha := hf.args _ hm
   split at h
   · rename_i h9
     exact onto_free (sub_fit (by omega) (by omega) hq ha h9) (frT_sub hv hq fq (n2 _ hm) h9) (fun a ha => n2 a (List.mem_of_mem_drop ha)) h
   cases h
 rw [if_neg c5] at hrd h
 by_cases c7 : f.1.1.op = 7
 · rw [if_pos c7] at h
   obtain ⟨p, q, r, hk⟩ := kids_three hf.head.okt c7
   have hz1 := around_nil (n := f.1.1) (i := ((1 : Nat) : Int)) (.inr (.inl ⟨c7, by decide⟩))
   have hq := hf.head.kid0 (i := 1) (by rw [hk]; rfl) hz1
   have fq := frT_kid0 n1 (i := 1) (by rw [hk]; rfl) hz1
   have hs := hf.head.kid (i := 2) (by rw [hk]; rfl)
   have fs := frT_kid n1 (i := 2) (by rw [hk]; rfl)
   have har : aroundI f.1.1.op f.1.1.b ((2 : Nat) : Int) = 1 := around_one (.inr ⟨c7, rfl⟩)
   rw [har] at hs fs
   rw [kidN_at (i := 1) (by rw [hk]; rfl), kidN_at (i := 2) (by rw [hk]; rfl)] at h
   split at h
   · rename_i h9
     exact onto_free (sub_fit (by omega) (by omega) hs hq h9) (frT_sub hv hs fs fq h9) n2 h
   cases h
 rw [if_neg c7] at h
 by_cases c8 : f.1.1.op = 8
 · rw [if_neg (by omega), if_pos c8] at h
   have hn := hf.head.nod f.1.1 (by simp [rowT])
   unfold nodeB at hn
   rw [if_neg (by omega), if_pos c8, Bool.and_eq_true, decide_eq_true_eq, beq_iff_eq] at hn
   have h3 := hf.head.okt.ok
   simp only [okN, Bool.and_eq_true] at h3
   have h4 := plainB_a h3.1.1
   obtain ⟨_, hfit⟩ := fit_of (body_def hr h4.1 hn.1 hn.2)
   exact onto_free hfit (closed_free hv hfit) n2 h
 rw [if_neg (by omega)] at hrd
 by_cases c1 : f.1.1.op = 1
 · rw [if_pos c1] at hrd
   rw [decide_eq_true_eq] at hrd
   unfold valAt at hrd
   rw [hno] at hrd
   cases hrd
 rw [if_neg c1, if_neg c8] at h
 rw [if_neg c1] at hrd
 by_cases c11 : f.1.1.op = 11
 · rw [if_pos c11] at hrd h
   obtain ⟨p, q, br, hk, hbr⟩ := kids_match hf.head.okt c11
   have hz1 := around_nil (n := f.1.1) (i := ((1 : Nat) : Int)) (.inr (.inr c11))
   have hq := hf.head.kid0 (i := 1) (by rw [hk]; rfl) hz1
   have fq := frN_hd hq (frT_kid0 n1 (i := 1) (by rw [hk]; rfl) hz1)
   rw [kidN_at (i := 1) (by rw [hk]; rfl)] at hrd h
   unfold fitsM at hrd
   simp only [Bool.and_eq_true, beq_iff_eq, decide_eq_true_eq] at hrd
   obtain ⟨m1, _, m3, _⟩ := hrd
   have hs := foc hq
   have hcb := ctor_bd hs.head.okt m1
   have hkb := kid_some (x := f.1) (i := 2 + (hdW q).1.1.b.toNat) (by rw [hk]; simp only [List.length_cons]; omega)
   have hz2 := around_nil (n := f.1.1) (i := ((2 + (hdW q).1.1.b.toNat : Nat) : Int)) (.inr (.inr c11))
   refine onto_free (hf.head.kid0 hkb hz2) (frT_kid0 n1 hkb hz2) (fun a ha => ?_) h
   rcases List.mem_append.1 ha with ha | ha
   · exact fq.2 a (List.mem_of_mem_drop ha)
   exact n2 a ha
 rw [if_neg c11] at hrd h
 by_cases c12 : f.1.1.op = 12
 · cases hu : unfR f.1 with
   | none => rw [hu] at h; cases h
   | some z =>
    rw [hu] at h
    exact onto_free (unfR_fit hf.head c12 (by omega) (by omega) hu) (unfR_free hf.head c12 (by omega) (by omega) hv n1 hu) n2 h
 rw [if_neg c12] at hrd; cases hrd
theorem part_free {b : Bk} {free v : Int} {f : Fc} (hf : FocG b free f) {p : TT} (hn : frN v f) (h : partF f = some p) : frT v p = false := by
 unfold partF at h
 split at h
 · rename_i c11
   injection h with h
   subst h
   obtain ⟨p, q, br, hk, hbr⟩ := kids_match hf.head.okt c11
   have hq := frT_kid0 hn.1 (i := 1) (by rw [hk]; rfl) (around_nil (.inr (.inr c11)))
   rw [kidN_at (i := 1) (by rw [hk]; rfl)]
   exact hq
 split at h
 · split at h
   · rename_i hl
     injection h with h
     subst h
     exact hn.2 _ (getD_mem hl (default, [], .nil))
   cases h
 cases h
theorem with_free {b : Bk} {free v : Int} {f : Fc} (hf : FocG b free f) {p p' : TT} (hn : frN v f) (h : partF f = some p) (hp : frT v p' = false) : frN v (withF f p') := by
 unfold partF at h
 unfold withF
 split at h
 · rename_i c11
   rw [if_pos c11]
   obtain ⟨⟨n, a, k⟩, args⟩ := f
   obtain ⟨u, q, br, hk, hbr⟩ := kids_match hf.head.okt c11
   simp only at c11
   match k, hk with
   | .cons pr n1 a1 k1 (.cons qr n2 a2 k2 r), hk =>
    refine ⟨?_, hn.2⟩
    have hl := (ex_top hn.1).2
    show exT (fun y z => decide (y - z = v)) 0 n (setK1 (.cons pr n1 a1 k1 (.cons qr n2 a2 k2 r)) p') = false
    rw [setK1_row]
    simp only at hl ⊢
    unfold exT
    rw [show decide (n.op = 1) = false from decide_eq_false (by omega), Bool.false_and, Bool.false_or]
    rw [exF_cons, exF_cons, Bool.or_eq_false_iff, Bool.or_eq_false_iff] at hl ⊢
    refine ⟨hl.1, ?_, hl.2.2⟩
    have hz : aroundI n.op n.b ((0 + 1 : Nat) : Int) = 0 := around_nil (.inr (.inr c11))
    rw [hz, Int.add_zero]
    exact hp
 split at h
 · rename_i c11 c12
   rw [if_neg c11]
   refine ⟨hn.1, fun y hy => ?_⟩
   rcases List.mem_or_eq_of_mem_set hy with hy | rfl
   · exact hn.2 y hy
   exact hp
 cases h
theorem st_free {b : Bk} {cv : List (List Nd)} {v : Int} (hv : 0 ≤ v) (hr : rightE b = 0) (hc : CtxG b cv) (hno : ∀ k, cv.getD k [] = []) : ∀ (g : Nat) (f : Fc) (room : Int) (y : Fc), FocG b (cv.length : Int) f → frN v f → stF b cv g f room = .yes y → frN v y
 | 0, f, room, y, _, _, h => by cases h
 | g + 1, f, room, y, hf, hn, h => by
  unfold stF at h
  by_cases hrd : readyF b cv f = true
  · rw [if_pos hrd] at h
    cases hz : ownF b cv f with
    | none => rw [hz] at h; cases h
    | some z =>
     rw [hz] at h
     simp only at h
     split at h
     · cases h
     · injection h with h
       subst h
       exact own_free hv hr hc hno hf hrd hn hz
  · rw [if_neg hrd] at h
    cases hp : partF f with
    | none => rw [hp] at h; cases h
    | some p =>
     rw [hp] at h
     simp only at h
     obtain ⟨p1, p2⟩ := part_fit hf hp
     have hpn := part_free hf hn hp
     cases hs : stF b cv g (hdW p) (room - fsz f + szT p) with
     | no => rw [hs] at h; cases h
     | big => rw [hs] at h; cases h
     | yes z =>
      rw [hs] at h
      injection h with h
      subst h
      exact with_free hf hn hp (frN_row.2 (st_free hv hr hc hno g _ _ z (foc p1) (frN_hd p1 hpn) hs))
theorem free_rt {x : TT} (h : RtX x) {v : Int} (hv : 0 ≤ v) : freeB (rowT x) v = frT v x := by
 unfold freeB exR frT
 rw [h.shape, h.pp, decide_eq_true hv]
 simp
theorem step_free {b : Bk} {cv : List (List Nd)} {v : Int} (hv : 0 ≤ v) (hr : rightE b = 0) (hc : CtxG b cv) (hno : ∀ k, cv.getD k [] = []) {g : Nat} {x : TT} {y : Fc} (hx : FitT b (cv.length : Int) x) (hy : RtX (rowF y)) (h : stF b cv g (hdW x) 4096 = .yes y) : freeB (rowT (rowF y)) v = true → freeB (rowT x) v = true := by
 rw [free_rt hy hv, free_rt hx.rt hv]
 intro h1
 cases h2 : frT v x with
 | true => rfl
 | false =>
  have := frN_row.2 (st_free hv hr hc hno g _ _ y (foc hx) (frN_hd hx h2) h)
  rw [this] at h1
  cases h1
end Go.Proofs.Ytjoddliplahgkaa
