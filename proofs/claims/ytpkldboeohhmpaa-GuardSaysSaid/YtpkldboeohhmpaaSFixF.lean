/- The fixes of a row, told of forests; free variables replaced. -/
import Derived.Test.YtpkldboeohhmpaaSFines
import Derived.Test.YtpkldboeohhmpaaSTr
namespace Go.Proofs.Ytpkldboeohhmpaa
open Go.RowKit
def guardN (ca : Int → Nat → Nat) (x : TT) : Bool := guardT ca (szT x) x
theorem bodyT_congr {r1 r2 : List Int → TT → Bool} : ∀ (n : Nat) (zs : List Int) (y : TT), (∀ zs' y', szT y' ≤ szT y → r1 zs' y' = r2 zs' y') → bodyT r1 n zs y = bodyT r2 n zs y
 | 0, zs, y, h => h zs y (Nat.le_refl _)
 | n + 1, zs, (nd, a, .nil), h => rfl
 | n + 1, zs, (nd, a, .cons p n1 a1 k1 .nil), h => rfl
 | n + 1, zs, (nd, a, .cons p n1 a1 k1 (.cons q n2 a2 k2 r)), h => by
  have h0 : szT (nd, a, .cons p n1 a1 k1 (.cons q n2 a2 k2 r)) = 1 + a.length + (p.length + szT (n1, a1, k1) + (q.length + szT (n2, a2, k2) + (row r).length)) := by rw [szT_eq, sz_cons, sz_cons]
  simp only [bodyT]
  rw [h zs (n1, a1, k1) (by omega), bodyT_congr n _ (n2, a2, k2) (fun zs' y' hy => h zs' y' (by omega))]
theorem guardL_congr {r1 r2 : List Int → TT → Bool} {zs : List Int} : ∀ (pl : List Int) (ts bs : List TT), (∀ y ∈ bs, ∀ zs' y', szT y' ≤ szT y → r1 zs' y' = r2 zs' y') → guardL r1 zs pl ts bs = guardL r2 zs pl ts bs
 | [], _, _, _ => by simp [guardL]
 | _ :: _, [], _, _ => by simp [guardL]
 | _ :: _, _ :: _, [], _ => by simp [guardL]
 | p :: pl, t :: ts, b :: bs, h => by
  simp only [guardL]
  rw [bodyT_congr _ _ b (h b (by simp)), guardL_congr pl ts bs (fun y hy => h y (by simp [hy]))]
theorem bds_in : ∀ {L : List TT} {y : TT}, y ∈ bdsT L → y ∈ L
 | [], _, h => by simp [bdsT] at h
 | [_], _, h => by simp [bdsT] at h
 | t :: b :: r, y, h => by
  simp only [bdsT, List.mem_cons] at h ⊢
  rcases h with rfl | h
  · exact .inr (.inl rfl)
  · exact .inr (.inr (bds_in h))
theorem guardT_eq {ca : Int → Nat → Nat} {m : Nat} {x : TT} (hm : szT x ≤ m) : guardT ca m x = guardL (fineW (placesT x.2.2) ca) (marks0 x.1.b.toNat) (placesT x.2.2) (tysT (kidL x.2.2)) (bdsT (kidL x.2.2)) := by
 obtain ⟨n, a, k⟩ := x
 rw [szT_eq] at hm
 unfold guardT
 exact guardL_congr _ _ _ (fun y hy zs' y' hy' => fineW_fuel (by have h1 := sz_kid (bds_in hy); simp only at h1; omega))
theorem guardN_eq {ca : Int → Nat → Nat} {x : TT} : guardN ca x = guardL (fineW (placesT x.2.2) ca) (marks0 x.1.b.toNat) (placesT x.2.2) (tysT (kidL x.2.2)) (bdsT (kidL x.2.2)) := guardT_eq (Nat.le_refl _)
section
variable {σ : Int → Nd → TT} {places : List Int} {ca : Int → Nat → Nat}
def fixF (ca : Int → Nat → Nat) : Fo → Bool
 | .nil => true
 | .cons _ n a k x => ((if n.op = 12 then guardN ca (n, a, k) else true) && fixF ca k) && fixF ca x
def fixT (ca : Int → Nat → Nat) (x : TT) : Bool := (if x.1.op = 12 then guardN ca x else true) && fixF ca x.2.2
theorem fixF_cons (p : List Nd) (n : Nd) (a : List Nd) (k x : Fo) : fixF ca (.cons p n a k x) = (fixT ca (n, a, k) && fixF ca x) := rfl
end
end Go.Proofs.Ytpkldboeohhmpaa
