/- What closed terms mean: more fuel, and less. Plain laws. -/
import Derived.Test.YtjllmblbbgojbaaUSenseM
namespace Go.Proofs.Ytjllmblbbgojbaa
open Go.RowKit
structure Fu (C : Nat → Nat → RV) (n : Nat) (v : TT) (f' : Nat) : Prop where
 le : f' ≤ n
 all : ∀ d0 f0, f0 < d0 → C d0 f0 = if n - f' ≤ f0 then .ok v (f0 - (n - f')) else .er 10
theorem Fu.congr {C C' : Nat → Nat → RV} {n : Nat} {v : TT} {f' : Nat} (h : Fu C n v f') (e : ∀ d0 f0, f0 < d0 → C' d0 f0 = C d0 f0) : Fu C' n v f' := ⟨h.le, fun d0 f0 hd => (e d0 f0 hd).trans (h.all d0 f0 hd)⟩
theorem Fu.pure (v : TT) (n : Nat) : Fu (fun _ f0 => .ok v f0) n v n := ⟨Nat.le_refl _, fun d0 f0 _ => by simp⟩
theorem Fu.bind {C : Nat → Nat → RV} {K : TT → Nat → Nat → RV} {n f1 f' : Nat} {u v : TT} (h : Fu C n u f1) (hk : Fu (K u) f1 v f') : Fu (fun d0 f0 => (C d0 f0).bind fun u f => K u d0 f) n v f' := by
 have h1 := h.le
 have h2 := hk.le
 refine ⟨by omega, fun d0 f0 hd => ?_⟩
 rw [h.all d0 f0 hd]
 by_cases hc : n - f1 ≤ f0
 · rw [if_pos hc]
   show K u d0 (f0 - (n - f1)) = _
   rw [hk.all d0 _ (by omega)]
   by_cases hc2 : n - f' ≤ f0
   · rw [if_pos (by omega), if_pos hc2]
     congr 1
     omega
   rw [if_neg (by omega), if_neg hc2]
 rw [if_neg hc, if_neg (by omega)]
 rfl
theorem Fu.bind' {C : Nat → Nat → RV} {K : TT → Nat → Nat → RV} {n f1 f' : Nat} {u v : TT} (h : Fu C n u f1) (hs : f1 < n) (hk : Fu (K u) f1 v f') : Fu (fun d0 f0 => (C d0 f0).bind fun u f => K u (d0 - 1) f) n v f' := by
 have h1 := h.le
 have h2 := hk.le
 refine ⟨by omega, fun d0 f0 hd => ?_⟩
 rw [h.all d0 f0 hd]
 by_cases hc : n - f1 ≤ f0
 · rw [if_pos hc]
   show K u (d0 - 1) (f0 - (n - f1)) = _
   rw [hk.all (d0 - 1) _ (by omega)]
   by_cases hc2 : n - f' ≤ f0
   · rw [if_pos (by omega), if_pos hc2]
     congr 1
     omega
   rw [if_neg (by omega), if_neg hc2]
 rw [if_neg hc, if_neg (by omega)]
 rfl
theorem Fu.givens {b : Bk} {d : Nat} (H : ∀ f g a v f', f < d → gvD b d f g a = .ok v f' → Fu (fun d0 f0 => gvD b d0 f0 g a) f v f') : ∀ (l : List TT) (g : TT) (f : Nat) (v : TT) (f' : Nat), f < d → givens (gvD b d) l g f = .ok v f' → Fu (fun d0 f0 => Go.Proofs.Ytjllmblbbgojbaa.givens (gvD b d0) l g f0) f v f'
 | [], g, f, v, f', _, h => by
  simp only [Go.Proofs.Ytjllmblbbgojbaa.givens, RV.ok.injEq] at h
  obtain ⟨rfl, rfl⟩ := h
  exact Fu.pure _ _
 | a :: r, g, f, v, f', hf, h => by
  simp only [Go.Proofs.Ytjllmblbbgojbaa.givens] at h
  obtain ⟨u, f1, h1, h2⟩ := RV.bind_ok h
  have a1 := H f g a u f1 hf h1
  have a2 := Fu.givens H r u f1 v f' (by have := a1.le; omega) h2
  exact Fu.bind (K := fun u d0 f0 => Go.Proofs.Ytjllmblbbgojbaa.givens (gvD b d0) r u f0) a1 a2
theorem Fu.step {b : Bk} {x : TT} {C : Nat → Nat → RV} {n : Nat} {v : TT} {f' : Nat} (h : Fu C n v f') (e : ∀ d m, m < d → evD b (d + 1) (m + 1) x = C d m) : Fu (fun d0 f0 => evD b d0 f0 x) (n + 1) v f' ∧ f' < n + 1 := by
 have h1 := h.le
 refine ⟨⟨by omega, fun d0 f0 hd => ?_⟩, by omega⟩
 cases d0 with
 | zero => omega
 | succ d0 =>
  cases f0 with
  | zero =>
   rw [if_neg (by omega)]
   rfl
  | succ f0 =>
   rw [e d0 f0 (by omega), h.all d0 f0 (by omega)]
   by_cases hc : n - f' ≤ f0
   · rw [if_pos hc, if_pos (by omega)]
     congr 1
     omega
   · rw [if_neg hc, if_neg (by omega)]
theorem ev_fuel {b : Bk} : ∀ d, (∀ f x v f', f < d → evD b d f x = .ok v f' → Fu (fun d0 f0 => evD b d0 f0 x) f v f' ∧ f' < f) ∧ (∀ f g a v f', f < d → gvD b d f g a = .ok v f' → Fu (fun d0 f0 => gvD b d0 f0 g a) f v f')
 | 0 => ⟨fun f x v f' hf _ => absurd hf (by omega), fun f g a v f' hf _ => absurd hf (by omega)⟩
 | d + 1 => by
  obtain ⟨i1, i2⟩ := ev_fuel (b := b) d
  have e1 : ∀ f x v f', f < d + 1 → evD b (d + 1) f x = .ok v f' → Fu (fun d0 f0 => evD b d0 f0 x) f v f' ∧ f' < f := by
   intro f x v f' hf h
   cases f with
   | zero => cases h
   | succ n =>
   rw [evD_succ] at h
   by_cases hv : valW x = true
   · simp only [evStep] at h
     rw [if_pos hv] at h
     simp only [RV.ok.injEq] at h
     obtain ⟨rfl, rfl⟩ := h
     refine Fu.step (C := fun _ f0 => .ok x f0) (Fu.pure _ _) (fun e m _ => ?_)
     rw [evD_succ]
     simp only [evStep]
     rw [if_pos hv]
   by_cases h8 : x.1.op = 8
   · simp only [evStep] at h
     rw [if_neg hv, if_pos h8] at h
     refine Fu.step (C := fun d0 f0 => evD b d0 f0 (treeAt (entB b x.1.a).body)) (i1 _ _ _ _ (by omega) h).1 (fun e m _ => ?_)
     rw [evD_succ]
     simp only [evStep]
     rw [if_neg hv, if_pos h8]
   by_cases h7 : x.1.op = 7
   · simp only [evStep] at h
     rw [if_neg hv, if_neg h8, if_pos h7] at h
     split at h
     · rename_i L0 p q r rest hk
       obtain ⟨u, f1, h1, h2⟩ := RV.bind_ok h
       have a1 := i1 _ _ _ _ (by omega) h1
       split at h2
       · rename_i h0
         have a2 := i1 _ _ _ _ (by have := a1.1.le; omega) h2
         have a3 := Fu.bind (K := fun u d0 f0 => if (subTT r u).2 = 0 then evD b d0 f0 (subTT r u).1 else .er (subTT r u).2) a1.1 (a2.1.congr (fun d0 f0 _ => by rw [if_pos h0]))
         refine Fu.step a3 (fun e m _ => ?_)
         rw [evD_succ]
         simp only [evStep]
         rw [if_neg hv, if_neg h8, if_pos h7, hk]
       cases h2
     cases h
   by_cases h11 : x.1.op = 11
   · simp only [evStep] at h
     rw [if_neg hv, if_neg h8, if_neg h7, if_pos h11] at h
     split at h
     rotate_left
     · cases h
     rename_i L0 p q br hk
     obtain ⟨u, f1, h1, h2⟩ := RV.bind_ok h
     have a1 := i1 _ _ _ _ (by omega) h1
     split at h2
     · rename_i hc
       obtain ⟨g, f2, h3, h4⟩ := RV.bind_ok h2
       have a2 := i1 _ _ _ _ (by have := a1.1.le; omega) h3
       have a3 := Fu.givens i2 _ g f2 v f' (by have := a1.1.le; have := a2.1.le; omega) h4
       have a4 := Fu.bind (K := fun g d0 f0 => givens (gvD b d0) ((hdW u).2.drop (entB b x.1.a).params.length) g f0) a2.1 a3
       have a5 := Fu.bind (K := fun v d0 f' => if (hdW v).1.1.op = 10 ∧ (hdW v).1.1.a = x.1.a ∧ (hdW v).1.1.b < x.1.b ∧ (hdW v).2.length = (entB b x.1.a).params.length + ((entB b x.1.a).ctors.getD (hdW v).1.1.b.toNat default).args.length then
        (evD b d0 f' (br.getD (hdW v).1.1.b.toNat (⟨0, 0, 0⟩, [], .nil))).bind fun g f2 => givens (gvD b d0) ((hdW v).2.drop (entB b x.1.a).params.length) g f2
        else .er 24) a1.1 (a4.congr (fun d0 f0 _ => by rw [if_pos hc]))
       refine Fu.step a5 (fun e m _ => ?_)
       rw [evD_succ]
       simp only [evStep]
       rw [if_neg hv, if_neg h8, if_neg h7, if_pos h11, hk]
     cases h2
   simp only [evStep] at h
   rw [if_neg hv, if_neg h8, if_neg h7, if_neg h11] at h
   split at h
   · rename_i L0 p q rest hk
     obtain ⟨g, f1, h1, h2⟩ := RV.bind_ok h
     obtain ⟨u, f2, h3, h4⟩ := RV.bind_ok h2
     have a1 := i1 _ _ _ _ (by omega) h1
     have a2 := i1 _ _ _ _ (by have := a1.1.le; omega) h3
     have a3 := i2 _ _ _ _ _ (by have := a1.1.le; have := a2.1.le; omega) h4
     have a4 := Fu.bind (K := fun a d0 f0 => gvD b d0 f0 g a) a2.1 a3
     have a5 := Fu.bind (K := fun g d0 f0 => (evD b d0 f0 q).bind fun a f2 => gvD b d0 f2 g a) a1.1 a4
     refine Fu.step a5 (fun e m _ => ?_)
     rw [evD_succ]
     simp only [evStep]
     rw [if_neg hv, if_neg h8, if_neg h7, if_neg h11, hk]
   cases h
  refine ⟨e1, fun f g a v f' hf h => ?_⟩
  rw [gvD_succ] at h
  have up : ∀ {C : Nat → Nat → RV}, (∀ e f0, f0 < e + 1 → gvD b (e + 1) f0 g a = C (e + 1) f0) → Fu C f v f' → Fu (fun d0 f0 => gvD b d0 f0 g a) f v f' := fun hc hC => hC.congr (fun d0 f0 hd => by
   cases d0 with
   | zero => omega
   | succ d0 => exact hc d0 f0 hd)
  by_cases h5 : (hdW g).1.1.op = 5
  · simp only [gvStep] at h
    rw [if_pos h5] at h
    split at h
    · rename_i L0 p q rest hk
      split at h
      · rename_i h0
        refine up (C := fun d0 f0 => evD b d0 f0 (subTT q a).1) (fun e f0 _ => ?_) (e1 _ _ _ _ hf h).1
        rw [gvD_succ]
        simp only [gvStep]
        rw [if_pos h5, hk]
        simp only
        rw [if_pos h0]
      cases h
    cases h
  by_cases h9 : (hdW g).1.1.op = 9 ∨ (hdW g).1.1.op = 10
  · simp only [gvStep] at h
    rw [if_neg h5, if_pos h9] at h
    split at h
    · cases h
    rename_i hs
    simp only [RV.ok.injEq] at h
    obtain ⟨rfl, rfl⟩ := h
    refine up (C := fun _ f0 => .ok (appTT g a) f0) (fun e f0 _ => ?_) (Fu.pure _ _)
    rw [gvD_succ]
    simp only [gvStep]
    rw [if_neg h5, if_pos h9, if_neg hs]
  by_cases h12 : (hdW g).1.1.op = 12
  · simp only [gvStep] at h
    rw [if_neg h5, if_neg h9, if_pos h12] at h
    by_cases hle : (((hdW g).2 ++ [a]).length : Int) ≤ placeT (hdW g).1
    · rw [if_pos hle] at h
      split at h
      · cases h
      rename_i hs
      simp only [RV.ok.injEq] at h
      obtain ⟨rfl, rfl⟩ := h
      refine up (C := fun _ f0 => .ok (appTT g a) f0) (fun e f0 _ => ?_) (Fu.pure _ _)
      rw [gvD_succ]
      simp only [gvStep]
      rw [if_neg h5, if_neg h9, if_pos h12, if_pos hle, if_neg hs]
    rw [if_neg hle] at h
    split at h
    · rename_i hc
      split at h
      · rename_i h0
        obtain ⟨g', f1, h1, h2⟩ := RV.bind_ok h
        obtain ⟨a1, a2⟩ := e1 _ _ _ _ hf h1
        have a3 := Fu.givens i2 _ g' f1 v f' (by omega) h2
        refine up (C := fun d0 f0 => (evD b d0 f0 (unfT (hdW g).1).1).bind fun g' f1 => givens (gvD b (d0 - 1)) ((hdW g).2 ++ [a]) g' f1) (fun e f0 _ => ?_) (Fu.bind' (K := fun g' d0 f0 => givens (gvD b d0) ((hdW g).2 ++ [a]) g' f0) a1 a2 a3)
        rw [gvD_succ]
        simp only [gvStep]
        rw [if_neg h5, if_neg h9, if_pos h12, if_neg hle, if_pos hc, if_pos h0]
        rfl
      cases h
    cases h
  · simp only [gvStep] at h
    rw [if_neg h5, if_neg h9, if_neg h12] at h
    cases h
end Go.Proofs.Ytjllmblbbgojbaa
