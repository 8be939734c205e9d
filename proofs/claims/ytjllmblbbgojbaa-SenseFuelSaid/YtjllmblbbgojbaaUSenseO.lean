/- sense: no error is 0; what Eval says, in plain words. -/
import Derived.Test.YtjllmblbbgojbaaUSenseJ
namespace Go.Proofs.Ytjllmblbbgojbaa
open Go.RowKit
theorem RV.bind_er {r : RV} {k : TT → Nat → RV} {z : Int} (h : r.bind k = .er z) : r = .er z ∨ ∃ u f1, r = .ok u f1 ∧ k u f1 = .er z := by
 cases r with
 | ok u f1 => exact .inr ⟨u, f1, rfl, h⟩
 | er e => exact .inl h
theorem givens_er {b : Bk} {gv : Nat → TT → TT → RV} (H : ∀ f g a v f', Okv b g → Okv b a → gv f g a = .ok v f' → Okv b v) (HE : ∀ f g a z, Okv b g → Okv b a → gv f g a = .er z → z ≠ 0) : ∀ (l : List TT) (g : TT) (f : Nat) (z : Int), (∀ y ∈ l, Okv b y) → Okv b g → givens gv l g f = .er z → z ≠ 0
 | [], g, f, z, _, _, h => by cases h
 | a :: r, g, f, z, hl, hg, h => by
  simp only [givens] at h
  rcases RV.bind_er h with h1 | ⟨u, f1, h1, h2⟩
  · exact HE f g a z hg (hl a List.mem_cons_self) h1
  · exact givens_er H HE r u f1 z (fun y hy => hl y (List.mem_cons_of_mem _ hy)) (H f g a u f1 hg (hl a List.mem_cons_self) h1) h2
theorem ev_err {b : Bk} (hr : rightE b = 0) : ∀ d, (∀ f x z, FitT b 0 x → evD b d f x = .er z → z ≠ 0) ∧ (∀ f g a z, Okv b g → Okv b a → gvD b d f g a = .er z → z ≠ 0)
 | 0 => ⟨fun f x z _ h => (by injection h with h; omega), fun f g a z _ _ h => (by injection h with h; omega)⟩
 | d + 1 => by
  obtain ⟨i1, i2⟩ := ev_err hr d
  obtain ⟨j1, j2⟩ := ev_fit (b := b) hr d
  have e1 : ∀ f x z, FitT b 0 x → evD b (d + 1) f x = .er z → z ≠ 0 := by
   intro f x z hx h
   rw [evD_succ] at h
   cases f with
   | zero => injection h with h; omega
   | succ f =>
   simp only [evStep] at h
   split at h
   · cases h
   rename_i hv
   split at h
   · rename_i h8
     have hn := hx.nod x.1 (by simp [rowT])
     have ha : 0 ≤ x.1.a := by have hok := hx.okt.ok; simp only [okN, Bool.and_eq_true] at hok; exact (plainB_a hok.1.1).1
     unfold nodeB at hn
     rw [if_neg (by omega), if_pos h8, Bool.and_eq_true, decide_eq_true_eq, beq_iff_eq] at hn
     exact i1 _ _ _ (fit_of (body_def hr ha hn.1 hn.2)).2 h
   split at h
   · rename_i h7
     obtain ⟨p, q, r, hk⟩ := kids_three hx.okt h7
     rw [hk] at h
     simp only at h
     have hq : FitT b 0 q := hx.kid0 (i := 1) (by rw [hk]; rfl) (by rw [h7]; simp [aroundI])
     have hrr : FitT b (0 + 1) r := by
      have := hx.kid (i := 2) (y := r) (by rw [hk]; rfl)
      rwa [show aroundI x.1.op x.1.b ((2 : Nat) : Int) = 1 from by rw [h7]; simp [aroundI]] at this
     rcases RV.bind_er h with h1 | ⟨u, f1, h1, h2⟩
     · exact i1 _ _ _ hq h1
     obtain ⟨a1, a2⟩ := j1 _ _ _ _ hq h1
     have hs := (sub_row (by omega) (by omega) hrr a1.1).2.2
     split at h2
     · rename_i h0
       exact i1 _ _ _ (hs h0) h2
     rename_i h0
     injection h2 with h2
     rw [← h2]
     exact h0
   split at h
   · rename_i h11
     obtain ⟨p, q, br, hk, hbr⟩ := kids_match hx.okt h11
     have hz : ∀ k : Int, aroundI x.1.op x.1.b k = 0 := around_plain (by omega) (by omega) (by omega) (by omega)
     rw [hk] at h
     simp only at h
     have hq : FitT b 0 q := hx.kid0 (i := 1) (by rw [hk]; rfl) (hz _)
     rcases RV.bind_er h with h1 | ⟨u, f1, h1, h2⟩
     · exact i1 _ _ _ hq h1
     obtain ⟨a1, a2⟩ := j1 _ _ _ _ hq h1
     split at h2
     · rename_i hc
       have hh := a1.1.hd
       have hc0 := ctor_bd hh.1.okt hc.1
       have hlt : (hdW u).1.1.b.toNat < br.length := by omega
       have hbk : FitT b 0 (br.getD (hdW u).1.1.b.toNat (⟨0, 0, 0⟩, [], .nil)) := by
        rw [List.getD_eq_getElem?_getD, List.getElem?_eq_getElem hlt]
        exact hx.kid0 (i := (hdW u).1.1.b.toNat + 2) (by rw [hk]; simp [List.getElem?_eq_getElem hlt]) (hz _)
       rcases RV.bind_er h2 with h3 | ⟨g, f2, h3, h4⟩
       · exact i1 _ _ _ hbk h3
       obtain ⟨b1, b2⟩ := j1 _ _ _ _ hbk h3
       have hva := val_args a1.2 (.inr (.inl hc.1))
       exact givens_er (fun f g a v f' hg ha hh => (j2 f g a v f' hg ha hh).1) i2 _ g f2 z (fun y hy => ⟨hh.2 y (List.mem_of_mem_drop hy), hva y (List.mem_of_mem_drop hy)⟩) b1 h4
     injection h2 with h2; omega
   rename_i h8 h7 h11
   have h6 := app_of hx (Bool.not_eq_true _ ▸ hv) h7 h8 h11
   obtain ⟨p, q, hk⟩ := kids_two hx.okt (.inl h6)
   have hz : ∀ k : Int, aroundI x.1.op x.1.b k = 0 := around_plain (by omega) (by omega) (by omega) (by omega)
   rw [hk] at h
   simp only at h
   have hp := hx.kid0 (i := 0) (y := p) (by rw [hk]; rfl) (hz _)
   have hq := hx.kid0 (i := 1) (y := q) (by rw [hk]; rfl) (hz _)
   rcases RV.bind_er h with h1 | ⟨g, f1, h1, h2⟩
   · exact i1 _ _ _ hp h1
   obtain ⟨a1, a2⟩ := j1 _ _ _ _ hp h1
   rcases RV.bind_er h2 with h3 | ⟨u, f2, h3, h4⟩
   · exact i1 _ _ _ hq h3
   obtain ⟨b1, b2⟩ := j1 _ _ _ _ hq h3
   exact i2 _ _ _ _ a1 b1 h4
  refine ⟨e1, fun f g a z hg ha h => ?_⟩
  obtain ⟨l1, l2⟩ := ev_fit (b := b) hr (d + 1)
  rw [gvD_succ] at h
  simp only [gvStep] at h
  have hh := hg.1.hd
  split at h
  · rename_i h5
    obtain ⟨hl1, hl2⟩ := val_lam hg.2 h5
    rw [hl2] at h5
    obtain ⟨p, q, hk⟩ := kids_two hg.1.okt (.inr (.inl h5))
    rw [hk] at h
    simp only at h
    have hq : FitT b (0 + 1) q := by
     have := hg.1.kid (i := 1) (y := q) (by rw [hk]; rfl)
     rwa [show aroundI g.1.op g.1.b ((1 : Nat) : Int) = 1 from by rw [h5]; simp [aroundI]] at this
    split at h
    · rename_i h0
      exact e1 _ _ _ ((sub_row (by omega) (by omega) hq ha.1).2.2 h0) h
    rename_i h0
    injection h with h
    rw [← h]
    exact h0
  split at h
  · split at h
    · injection h with h; omega
    cases h
  split at h
  · rename_i h12
    split at h
    · split at h
      · injection h with h; omega
      cases h
    split at h
    · split at h
      · rename_i h0
        rcases RV.bind_er h with h1 | ⟨g', f1, h1, h2⟩
        · exact e1 _ _ _ (unfT_fit hh.1 h12 h0) h1
        obtain ⟨b1, b2⟩ := l1 _ _ _ _ (unfT_fit hh.1 h12 h0) h1
        have hva := val_args hg.2 (.inr (.inr h12))
        exact givens_er (fun f g a v f' hg ha hh => (j2 f g a v f' hg ha hh).1) i2 _ g' f1 z (fun y hy => by
         rcases List.mem_append.1 hy with hy | hy
         · exact ⟨hh.2 y hy, hva y hy⟩
         rw [List.mem_singleton] at hy; subst hy; exact ha) b1 h2
      rename_i h0
      injection h with h
      rw [← h]
      exact h0
    injection h with h; omega
  · injection h with h; omega
theorem evalQ_cases (b : Bk) (l : List Nd) (fuel : Int) : (∃ z, z ≠ 0 ∧ evalQ b l fuel = ([], 0, z)) ∨ (rightE b = 0 ∧ FitT b 0 (treeAt l) ∧ fitsE b 0 l = 0 ∧ ∃ y f, Okv b y ∧ evD b ((min (max fuel 0) 100000).toNat + 1) (min (max fuel 0) 100000).toNat (treeAt l) = .ok y f ∧ f < (min (max fuel 0) 100000).toNat ∧ evalQ b l fuel = (rowT y, (f : Int), 0)) := by
 unfold evalQ
 by_cases h : fitsE b 0 l = 0
 · rw [if_neg (by simp [h])]
   obtain ⟨hr, _⟩ := fits_row h
   have hf := (fit_of h).2
   cases hE : evD b ((min (max fuel 0) 100000).toNat + 1) (min (max fuel 0) 100000).toNat (treeAt l) with
   | ok y f =>
    obtain ⟨h1, h2⟩ := (ev_fit hr _).1 _ _ _ _ hf hE
    exact .inr ⟨hr, hf, h, y, f, h1, rfl, h2, rfl⟩
   | er z => exact .inl ⟨z, (ev_err hr _).1 _ _ _ hf hE, rfl⟩
 rw [if_pos h]
 exact .inl ⟨_, h, rfl⟩
theorem evalQ_fuel {b : Bk} {l : List Nd} {fuel : Int} (h0 : 0 ≤ fuel) (h4 : fuel ≤ 400) {y : TT} {f : Nat} (hq : fitsE b 0 l = 0) (hE : evD b ((min (max fuel 0) 100000).toNat + 1) (min (max fuel 0) 100000).toNat (treeAt l) = .ok y f) (more : Int) (hm0 : 0 ≤ more) (hm1 : more ≤ 255) :
 evalQ b l (fuel + more) = (rowT y, (f : Int) + more, 0) ∧ evalQ b l (fuel - f - 1) = ([], 0, 10) := by
 obtain ⟨F, hF⟩ : ∃ F : Nat, fuel = (F : Int) := ⟨fuel.toNat, by omega⟩
 obtain ⟨M, hM⟩ : ∃ M : Nat, more = (M : Int) := ⟨more.toNat, by omega⟩
 subst hF hM
 rw [show (min (max (F : Int) 0) 100000).toNat = F from by omega] at hE
 obtain ⟨hfu, hlt⟩ := (ev_fuel (b := b) (F + 1)).1 F _ y f (by omega) hE
 have qa := hfu.all (F + M + 1) (F + M) (by omega)
 have qb := hfu.all (F - f - 1 + 1) (F - f - 1) (by omega)
 constructor
 · unfold evalQ
   rw [if_neg (by simp [hq]), show (min (max ((F : Int) + (M : Int)) 0) 100000).toNat = F + M from by omega, qa, if_pos (by omega)]
   simp only [Prod.mk.injEq, true_and, and_true]
   omega
 unfold evalQ
 rw [if_neg (by simp [hq]), show (min (max ((F : Int) - (f : Int) - 1) 0) 100000).toNat = F - f - 1 from by omega, qb, if_neg (by omega)]
end Go.Proofs.Ytjllmblbbgojbaa
