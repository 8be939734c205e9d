/- Merged: Tr, FixF, RefFine. -/
import Derived.Test.YtjllmblbbgojbaaKFineW
import Derived.Test.YtjllmblbbgojbaaKFines
import Derived.Test.YtjllmblbbgojbaaKRefFineK
import Derived.Test.YtjllmblbbgojbaaKRefFineV
import Derived.Test.YtjllmblbbgojbaaKRefFineM
namespace Go.Proofs.Ytjllmblbbgojbaa
section
open Go.RowKit
section
variable {σ : Int → Nd → TT}
variable {places : List Int} {ca : Int → Nat → Nat}
end
end
section
open Go.RowKit
def guardN (ca : Int → Nat → Nat) (x : TT) : Bool := guardT ca (szT x) x
theorem bodyT_congr {r1 r2 : List Int → TT → Bool} : ∀ (n : Nat) (zs : List Int) (y : TT), (∀ zs' y', szT y' ≤ szT y → r1 zs' y' = r2 zs' y') → bodyT r1 n zs y = bodyT r2 n zs y
 | 0, zs, y, h => h zs y (Nat.le_refl _)
 | n + 1, zs, (nd, a, .nil), h => rfl
 | n + 1, zs, (nd, a, .cons p n1 a1 k1 .nil), h => rfl
 | n + 1, zs, (nd, a, .cons p n1 a1 k1 (.cons q n2 a2 k2 r)), h => by
  have h0 : szT (nd, a, .cons p n1 a1 k1 (.cons q n2 a2 k2 r)) = 1 + a.length + (p.length + szT (n1, a1, k1) + (q.length + szT (n2, a2, k2) + (row r).length)) := by rw [szT_eq, sz_cons, sz_cons]
  simp only [bodyT]
  rw [h zs (n1, a1, k1) (by omega), bodyT_congr n _ (n2, a2, k2) (fun zs' y' hy => h zs' y' (by omega))]
theorem guardL_congr {r1 r2 : List Int → TT → Bool} {zs : List Int} : ∀ (pl : List Int) (ts bs : List TT), (∀ y ∈ bs, ∀ zs' y', szT y' ≤ szT y → r1 zs' y' = r2 zs' y') → guardL r1 zs pl ts bs = guardL r2 zs pl ts bs
 | [], _, _, _ => by simp [guardL]
 | _ :: _, [], _, _ => by simp [guardL]
 | _ :: _, _ :: _, [], _ => by simp [guardL]
 | p :: pl, t :: ts, b :: bs, h => by
  simp only [guardL]
  rw [bodyT_congr _ _ b (h b (by simp)), guardL_congr pl ts bs (fun y hy => h y (by simp [hy]))]
theorem bds_in : ∀ {L : List TT} {y : TT}, y ∈ bdsT L → y ∈ L
 | [], _, h => by simp [bdsT] at h
 | [_], _, h => by simp [bdsT] at h
 | t :: b :: r, y, h => by
  simp only [bdsT, List.mem_cons] at h ⊢
  rcases h with rfl | h
  · exact .inr (.inl rfl)
  · exact .inr (.inr (bds_in h))
theorem guardT_eq {ca : Int → Nat → Nat} {m : Nat} {x : TT} (hm : szT x ≤ m) : guardT ca m x = guardL (fineW (placesT x.2.2) ca) (marks0 x.1.b.toNat) (placesT x.2.2) (tysT (kidL x.2.2)) (bdsT (kidL x.2.2)) := by
 obtain ⟨n, a, k⟩ := x
 rw [szT_eq] at hm
 unfold guardT
 exact guardL_congr _ _ _ (fun y hy zs' y' hy' => fineW_fuel (by have h1 := sz_kid (bds_in hy); simp only at h1; omega))
theorem guardN_eq {ca : Int → Nat → Nat} {x : TT} : guardN ca x = guardL (fineW (placesT x.2.2) ca) (marks0 x.1.b.toNat) (placesT x.2.2) (tysT (kidL x.2.2)) (bdsT (kidL x.2.2)) := guardT_eq (Nat.le_refl _)
section
variable {σ : Int → Nd → TT} {places : List Int} {ca : Int → Nat → Nat}
def fixF (ca : Int → Nat → Nat) : Fo → Bool
 | .nil => true
 | .cons _ n a k x => ((if n.op = 12 then guardN ca (n, a, k) else true) && fixF ca k) && fixF ca x
def fixT (ca : Int → Nat → Nat) (x : TT) : Bool := (if x.1.op = 12 then guardN ca x else true) && fixF ca x.2.2
theorem fixF_cons (p : List Nd) (n : Nd) (a : List Nd) (k x : Fo) : fixF ca (.cons p n a k x) = (fixT ca (n, a, k) && fixF ca x) := rfl
end
end
section
open Go.RowKit
theorem refFine_all (b : Bk) (v : BkVal) (places : List Int) (hpl : ∀ p ∈ places, 0 ≤ p ∧ p ≤ 100) : ∀ (m : Nat), FineRH b v places (fineR places (argsB b) m) m
 | 0 => by
  intro w t x A n c ms P np cp hb ht hx hJ hm
  obtain ⟨nd, a, k⟩ := x
  rw [szT_eq] at hm
  omega
 | m + 1 => by
  intro w t x A n c ms P np cp hb ht hx hJ hm hms hnul hn hmr hP
  have H := refFine_all b v places hpl m
  by_cases hnv : (hdW x).1.1.op = 1 ∧ 0 ≤ ofR ms (hdW x).1.1.a
  · exact refFine_var H hpl hb ht hx hJ hm hms hnul hn hmr hP hnv
  · by_cases h11 : x.1.op = 11
    · exact refFine_mat H hpl hb ht hx hJ hm hms hnul hn hmr hP hnv h11
    exact refFine_kid H hpl hb ht hx hJ hm hms hnul hn hmr hP hnv h11
def bodyRR (rec_ : List Int → TT → Bool) : Nat → List Int → TT → Bool
 | 0, ms, y => rec_ ms y
 | r + 1, ms, (n, _, .cons _ n1 a1 k1 (.cons _ n2 a2 k2 _)) => if n.op = 5 then rec_ ms (n1, a1, k1) && bodyRR rec_ r ((if r = 0 then -2 else -1) :: ms) (n2, a2, k2) else false
 | _ + 1, _, _ => false
theorem bodyRR_stop {rec_ : List Int → TT → Bool} {r : Nat} {ms : List Int} {y : TT} (h : y.1.op ≠ 5) : bodyRR rec_ (r + 1) ms y = false := by
 obtain ⟨n, a, k⟩ := y
 have h2 : n.op ≠ 5 := h
 match k with
 | .nil => rfl
 | .cons _ _ _ _ .nil => rfl
 | .cons _ n1 a1 k1 (.cons _ n2 a2 k2 x) => simp only [bodyRR]; rw [if_neg h2]
theorem bodyRR_lam {rec_ : List Int → TT → Bool} {r : Nat} {ms : List Int} {n n1 n2 : Nd} {a a1 a2 : List Nd} {k1 k2 : Fo} (h : n.op = 5) : bodyRR rec_ (r + 1) ms (n, a, .cons [] n1 a1 k1 (.cons [] n2 a2 k2 .nil)) = (rec_ ms (n1, a1, k1) && bodyRR rec_ r ((if r = 0 then -2 else -1) :: ms) (n2, a2, k2)) := by
 simp only [bodyRR]; rw [if_pos h]
def guardRR (rec_ : List Int → TT → Bool) (ms : List Int) : List Int → List TT → Bool
 | p :: pl, t :: y :: L => (takenT p.toNat t && bodyRR rec_ (p.toNat + 1) ms y) && guardRR rec_ ms pl L
 | _, _ => true
theorem guardRR_step {rec_ : List Int → TT → Bool} {ms : List Int} {p : Int} {pl : List Int} {t y : TT} {L : List TT} : guardRR rec_ ms (p :: pl) (t :: y :: L) = ((takenT p.toNat t && bodyRR rec_ (p.toNat + 1) ms y) && guardRR rec_ ms pl L) := rfl
def msOf (n : Nat) : List Int := mkR (marks0 n)
theorem msOf_succ (n : Nat) : msOf (n + 1) = (n : Int) :: msOf n := by
 have h : marks0 (n + 1) = marks0 n ++ [100 + (n : Int)] := by
  unfold marks0
  rw [List.range_succ, List.map_append]
  rfl
 unfold msOf
 rw [h, mkR_add]
 congr 1
 unfold mkC
 rw [if_neg (by omega), if_neg (by omega), if_neg (by omega)]
 omega
theorem msOf_len (n : Nat) : (msOf n).length = n := by
 unfold msOf
 rw [mkR_len]
 simp [marks0]
theorem msOf_bd : ∀ (n : Nat), ∀ z ∈ msOf n, -3 ≤ z ∧ z < (n : Int)
 | 0, z, h => by simp [msOf, mkR, marks0] at h
 | n + 1, z, h => by
  rw [msOf_succ] at h
  rcases List.mem_cons.1 h with rfl | h
  · omega
  · have := msOf_bd n z h
    omega
theorem body_mk {nq : Nat} {r1 r2 : List Int → TT → Bool} : ∀ (r : Nat) (zs : List Int) (y : TT), GM nq zs → RtX y → (∀ zs' y', GM nq zs' → RtX y' → szT y' ≤ szT y → r1 (mkR zs') y' = r2 zs' y') → bodyRR r1 r (mkR zs) y = bodyT r2 r zs y
 | 0, zs, y, hz, hy, h => h zs y hz hy (Nat.le_refl _)
 | r + 1, zs, (nd, a, .nil), hz, hy, h => rfl
 | r + 1, zs, (nd, a, .cons p n1 a1 k1 .nil), hz, hy, h => rfl
 | r + 1, zs, (nd, a, .cons p n1 a1 k1 (.cons q n2 a2 k2 x)), hz, hy, h => by
  have h0 : szT (nd, a, .cons p n1 a1 k1 (.cons q n2 a2 k2 x)) = 1 + a.length + (p.length + szT (n1, a1, k1) + (q.length + szT (n2, a2, k2) + (row x).length)) := by rw [szT_eq, sz_cons, sz_cons]
  have k1' : RtX (n1, a1, k1) := hy.kid (by simp [kidL])
  have k2' : RtX (n2, a2, k2) := hy.kid (by simp [kidL])
  have hm : ((if r = 0 then -2 else -1 : Int) :: mkR zs) = mkR (zs ++ [if r = 0 then 1 else 0]) := by
   rw [mkR_add]
   congr 1
   split <;> rfl
  simp only [bodyT, bodyRR]
  rw [h zs (n1, a1, k1) hz k1' (by omega), hm, body_mk r (zs ++ [if r = 0 then 1 else 0]) (n2, a2, k2) (hz.add (by split <;> omega) (by split <;> omega)) k2' (fun zs' y' g1 g2 hy => h zs' y' g1 g2 (by omega))]
theorem guard_mk {nq : Nat} {r1 r2 : List Int → TT → Bool} {zs : List Int} (hz : GM nq zs) : ∀ (pl : List Int) (L : List TT), (∀ y ∈ L, RtX y) → (∀ y ∈ L, ∀ zs' y', GM nq zs' → RtX y' → szT y' ≤ szT y → r1 (mkR zs') y' = r2 zs' y') → guardRR r1 (mkR zs) pl L = guardL r2 zs pl (tysT L) (bdsT L)
 | [], L, _, _ => by cases L <;> rfl
 | _ :: _, [], _, _ => rfl
 | _ :: _, [_], _, _ => rfl
 | p :: pl, t :: y :: L, hr, h => by
  simp only [guardRR, guardL, tysT, bdsT]
  rw [body_mk _ zs y hz (hr y (by simp)) (h y (by simp)), guard_mk hz pl L (fun z hz => hr z (by simp [hz])) (fun z hz => h z (by simp [hz]))]
theorem guarded_ref {b : Bk} {x : TT} (hx : RtX x) {m : Nat} (hm : szT x ≤ m) (hl : (placesT x.2.2).length = x.1.b.toNat) : guardRR (fineR (placesT x.2.2) (argsB b) m) (msOf x.1.b.toNat) (placesT x.2.2) (kidL x.2.2) = guardN (argsB b) x := by
 obtain ⟨n, a, k⟩ := x
 rw [guardN_eq]
 have hz : GM (placesT k).length (marks0 n.b.toNat) := by
  rw [show (placesT k).length = n.b.toNat from hl]
  exact GM_marks0 _
 refine guard_mk hz _ _ (fun y hy => RtX.kid hx hy) (fun y hy zs' y' g1 g2 g3 => ?_)
 have h1 : szT y < szT (n, a, k) := sz_kidx (n := n) (a := a) hy
 have : ∀ s, szT y' ≤ s → fineR (placesT k) (argsB b) s (mkR zs') y' = fineW (placesT k) (argsB b) zs' y' := fun s hs => fine_ref s y' zs' hs g2 g1
 exact this m (by omega)
end
end Go.Proofs.Ytjllmblbbgojbaa
