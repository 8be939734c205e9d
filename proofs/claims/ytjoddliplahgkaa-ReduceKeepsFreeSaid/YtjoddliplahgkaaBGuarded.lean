/- Merged: Match, FineS, FineL, FineT, FineX, Fines, FineW, Tr, FixF, TermL, Short3, Guarded. -/
import Derived.Test.YtjoddliplahgkaaBHeads
import Derived.Test.YtjoddliplahgkaaBLeafs
import Derived.Test.YtjoddliplahgkaaBShort2
import Derived.Test.YtjoddliplahgkaaBEnds
import Derived.Test.YtjoddliplahgkaaBBase
namespace Go.Proofs.Ytjoddliplahgkaa
section
open Go.RowKit
end
section
open Go.RowKit
end
section
open Go.RowKit
end
section
open Go.RowKit
end
section
open Go.RowKit
def dsF : Nat → List Bool
 | 0 => []
 | r + 1 => true :: false :: dsF r
theorem dsF_flat : ∀ r : Nat, (List.replicate r [true, false]).flatten = dsF r
 | 0 => rfl
 | r + 1 => by rw [List.replicate_succ, List.flatten_cons, dsF_flat r]; rfl
theorem ds_fix {n : Nd} {nb : Nat} (h : n.op = 12) (hb : n.b = (nb : Int)) : ds n = dsF nb := by
 unfold ds
 rw [if_pos h, hb, Int.toNat_natCast, dsF_flat]
theorem AtF_len : ∀ (r : Nat) {t : List Nd} {p : Nat} {F : Fo}, At t p (dsF r) F → p + 3 * r ≤ t.length
 | 0, t, p, F, h => by have := h.le; omega
 | r + 1, t, p, F, h => by
  obtain ⟨pre1, n1, a1, k1, nx1, rfl, s1⟩ := h.step
  obtain ⟨pre2, n2, a2, k2, nx2, rfl, s2⟩ := s1.next.step
  have h1 := AtF_len r s2.next
  have e1 : pre1.length = 1 := s1.plen
  have e2 : pre2.length = 0 := s2.plen
  have l1 : 0 < (rowT (n1, a1, k1)).length := by simp [rowT]
  have l2 : 0 < (rowT (n2, a2, k2)).length := by simp [rowT]
  omega
end
section
section
open Go.RowKit
end
section
open Go.RowKit
def tysT : List TT → List TT
 | a :: _ :: r => a :: tysT r
 | _ => []
def bdsT : List TT → List TT
 | _ :: b :: r => b :: bdsT r
 | _ => []
def guardL (rec_ : List Int → TT → Bool) (zs : List Int) : List Int → List TT → List TT → Bool
 | p :: pl, t :: ts, b :: bs => (takenT p.toNat t && bodyT rec_ (p.toNat + 1) zs b) && guardL rec_ zs pl ts bs
 | _, _, _ => true
def placesT (k : Fo) : List Int := (press k).map (·.a)
def marks0 (n : Nat) : List Int := (List.range n).map fun j : Nat => (100 : Int) + (j : Int)
def guardT (ca : Int → Nat → Nat) (m : Nat) (x : TT) : Bool :=
 guardL (fineT (placesT x.2.2) ca m) (marks0 x.1.b.toNat) (placesT x.2.2) (tysT (kidL x.2.2)) (bdsT (kidL x.2.2))
def ErrP (e : Int) (w : World) (en : Ending) (w' : World) : Prop := en = .returned (.int .i64 e) ∧ Below w.heap.size w w'
theorem row_kid : ∀ {k : Fo} {y : TT}, y ∈ kidL k → ∀ m ∈ rowT y, m ∈ row k
 | .nil, y, h, _, _ => by cases h
 | .cons p n a k x, y, h, m, hm => by
  rw [show kidL (.cons p n a k x) = (n, a, k) :: kidL x from rfl] at h
  simp only [row]
  rcases List.mem_cons.1 h with rfl | h
  · simp only [rowT, List.mem_cons, List.mem_append] at hm ⊢
    rcases hm with rfl | hm | hm
    · exact .inr (.inl rfl)
    · exact .inr (.inr (.inl hm))
    exact .inr (.inr (.inr (.inl hm)))
  · have := row_kid h m hm
    simp only [List.mem_cons, List.mem_append]
    exact .inr (.inr (.inr (.inr this)))
theorem infoI : (Try.prog.info? 3).map (fun i => (i.zero, i.size, i.bytes)) = some (some (.int .i64 0), 1, 8) := by kernel_rfl
end
end
section
open Go.RowKit
abbrev szT (x : TT) : Nat := (rowT x).length
theorem szT_eq (n : Nd) (a : List Nd) (k : Fo) : szT (n, a, k) = 1 + a.length + (row k).length := by
 simp only [szT, rowT, List.length_cons, List.length_append]; omega
theorem sz_cons (p : List Nd) (n : Nd) (a : List Nd) (k x : Fo) : (row (.cons p n a k x)).length = p.length + szT (n, a, k) + (row x).length := by
 simp only [row, List.length_append, List.length_cons, szT, rowT]; omega
theorem sz_kid : ∀ {k : Fo} {y : TT}, y ∈ kidL k → szT y ≤ (row k).length
 | .nil, y, h => by cases h
 | .cons p n a k x, y, h => by
  rw [sz_cons]
  rw [show kidL (.cons p n a k x) = (n, a, k) :: kidL x from rfl] at h
  rcases List.mem_cons.1 h with rfl | h
  · omega
  · have := sz_kid h
    omega
def hdW (x : TT) : TT × List TT := hd (szT x) x
theorem hd_fuel : ∀ (m m' : Nat) (x : TT), szT x ≤ m → szT x ≤ m' → hd m x = hd m' x
 | 0, _, (n, a, k), h, _ => by rw [szT_eq] at h; omega
 | _ + 1, 0, (n, a, k), _, h => by rw [szT_eq] at h; omega
 | m + 1, m' + 1, (n, a, .nil), _, _ => rfl
 | m + 1, m' + 1, (n, a, .cons p n1 a1 k1 .nil), _, _ => rfl
 | m + 1, m' + 1, (n, a, .cons p n1 a1 k1 (.cons q n2 a2 k2 r)), h, h' => by
  simp only [hd]
  rw [szT_eq, sz_cons] at h h'
  split
  · rw [hd_fuel m m' (n1, a1, k1) (by omega) (by omega)]
  · rfl
theorem hdW_fuel {m : Nat} {x : TT} (h : szT x ≤ m) : hd m x = hdW x := hd_fuel _ _ _ h (Nat.le_refl _)
theorem hdW_stop {x : TT} (h : x.1.op ≠ 6) : hdW x = (x, []) := hd_stop h
theorem hdW_app {n n1 n2 : Nd} {a a1 a2 p q : List Nd} {k1 k2 r : Fo} (h : n.op = 6) : hdW (n, a, .cons p n1 a1 k1 (.cons q n2 a2 k2 r)) = ((hdW (n1, a1, k1)).1, (hdW (n1, a1, k1)).2 ++ [(n2, a2, k2)]) := by
 have h0 : szT (n, a, .cons p n1 a1 k1 (.cons q n2 a2 k2 r)) = 1 + a.length + (p.length + szT (n1, a1, k1) + (row (.cons q n2 a2 k2 r)).length) := by rw [szT_eq, sz_cons]
 rw [← hdW_fuel (m := szT (n, a, .cons p n1 a1 k1 (.cons q n2 a2 k2 r)) - 1 + 1) (x := (n, a, .cons p n1 a1 k1 (.cons q n2 a2 k2 r))) (by omega)]
 simp only [hd]
 rw [if_pos h, hdW_fuel (by omega)]
end
section
open Go.RowKit
def trF (σ : Int → Nd → TT) (pop pb : Int) : Nat → Int → Fo → Fo
 | _, _, .nil => .nil
 | j, a, .cons p n ats k x =>
  if n.op = 1 then .cons p (σ (a + aroundI pop pb j) n).1 (σ (a + aroundI pop pb j) n).2.1 (σ (a + aroundI pop pb j) n).2.2 (trF σ pop pb (j + 1) a x)
  else .cons p n ats (trF σ n.op n.b 0 (a + aroundI pop pb j) k) (trF σ pop pb (j + 1) a x)
def trT (σ : Int → Nd → TT) (a : Int) (x : TT) : TT := if x.1.op = 1 then σ a x.1 else (x.1, x.2.1, trF σ x.1.op x.1.b 0 a x.2.2)
section
variable {σ : Int → Nd → TT}
theorem trT_var {a : Int} {x : TT} (h : x.1.op = 1) : trT σ a x = σ a x.1 := by unfold trT; rw [if_pos h]
theorem trT_other {a : Int} {x : TT} (h : x.1.op ≠ 1) : trT σ a x = (x.1, x.2.1, trF σ x.1.op x.1.b 0 a x.2.2) := by unfold trT; rw [if_neg h]
theorem trF_cons (pop pb : Int) (j : Nat) (a : Int) (p : List Nd) (n : Nd) (ats : List Nd) (k x : Fo) : trF σ pop pb j a (.cons p n ats k x) = .cons p (trT σ (a + aroundI pop pb j) (n, ats, k)).1 (trT σ (a + aroundI pop pb j) (n, ats, k)).2.1 (trT σ (a + aroundI pop pb j) (n, ats, k)).2.2 (trF σ pop pb (j + 1) a x) := by
 simp only [trF, trT]
 split <;> rfl
theorem kidL_cons (p : List Nd) (n : Nd) (a : List Nd) (k x : Fo) : kidL (.cons p n a k x) = (n, a, k) :: kidL x := rfl
theorem around_plain {op b : Int} (h4 : op ≠ 4) (h5 : op ≠ 5) (h7 : op ≠ 7) (h12 : op ≠ 12) (k : Int) : aroundI op b k = 0 := by
 unfold aroundI
 rw [if_neg (by omega), if_neg (by omega)]
def BOk : Fo → Prop
 | .nil => True
 | .cons _ n _ k x => (n.op = 12 → 0 ≤ n.b) ∧ BOk k ∧ BOk x
variable {places : List Int} {ca : Int → Nat → Nat}
end
end
section
open Go.RowKit
def guardN (ca : Int → Nat → Nat) (x : TT) : Bool := guardT ca (szT x) x
section
variable {σ : Int → Nd → TT} {places : List Int} {ca : Int → Nat → Nat}
def fixF (ca : Int → Nat → Nat) : Fo → Bool
 | .nil => true
 | .cons _ n a k x => ((if n.op = 12 then guardN ca (n, a, k) else true) && fixF ca k) && fixF ca x
def VkF : Fo → Prop
 | .nil => True
 | .cons _ n ats k x => (n.op = 1 → ats = [] ∧ k = .nil) ∧ VkF k ∧ VkF x
theorem around_ge {op b : Int} (h : op = 12 → 0 ≤ b) (k : Int) : 0 ≤ aroundI op b k := by
 unfold aroundI
 split
 · omega
 split
 · rename_i h2; exact h h2.1
 omega
end
end
section
open Go.RowKit
def raN (up fr : Int) (n : Nd) (a : Int) : Nd := if n.op = 1 ∧ fr + a ≤ n.a then ⟨n.op, n.a + up, n.b⟩ else n
def raF (up fr : Int) (pop pb : Int) : Nat → Int → Fo → Fo
 | _, _, .nil => .nil
 | j, a, .cons p n ats k x => .cons p (raN up fr n (a + aroundI pop pb j)) ats (raF up fr n.op n.b 0 (a + aroundI pop pb j) k) (raF up fr pop pb (j + 1) a x)
theorem raN_same (up fr : Int) (n : Nd) (a : Int) : (raN up fr n a).op = n.op ∧ (raN up fr n a).b = n.b := by unfold raN; split <;> exact ⟨rfl, rfl⟩
theorem raV_em (up fr : Int) (n : Nd) (a : Int) : (raV up fr).em () n a = [raN up fr n a] := by
 simp only [raV, raN]; split <;> rfl
theorem raV_row (up fr : Int) (pop pb : Int) : ∀ (j : Nat) (a : Int) (F : Fo), (raV up fr).E pop pb j a () F = row (raF up fr pop pb j a F)
 | _, _, .nil => rfl
 | j, a, .cons p n ats k x => by
  have e : ∀ s : Unit, s = () := fun _ => rfl
  rw [Vis.E_cons, Vis.E1, raV_em, e ((raV up fr).nx () n (a + aroundI pop pb j)), e ((raV up fr).S1 (a + aroundI pop pb j) () n k), raV_row up fr _ _ _ _ k, raV_row up fr pop pb (j + 1) a x]
  simp [raF, row]
theorem raV_row1 (up fr : Int) (a : Int) (n : Nd) (ats : List Nd) (k : Fo) : (raV up fr).E1 a () n ats k = raN up fr n a :: (ats ++ row (raF up fr n.op n.b 0 a k)) := by
 have e : ∀ s : Unit, s = () := fun _ => rfl
 rw [Vis.E1, raV_em, e ((raV up fr).nx () n a), raV_row]; rfl
theorem raN_ok {up fr : Int} {n : Nd} {a : Int} (hok : okN n = true) (h0 : 0 ≤ up) (hg : (raV up fr).ok () n a = true) : okN (raN up fr n a) = true := by
 unfold raN
 split
 · rename_i h
   simp only [raV, if_pos h, decide_eq_true_eq] at hg
   simp only [okN, Bool.and_eq_true, decide_eq_true_eq] at hok ⊢
   obtain ⟨⟨h1, h2⟩, h3⟩ := hok
   refine ⟨⟨?_, h2⟩, h3⟩
   rw [h.1] at h1 ⊢
   simp only [plainB, if_true, decide_eq_true_eq] at h1 ⊢
   omega
 exact hok
theorem raF_wf {up fr : Int} (h0 : 0 ≤ up) (pop pb : Int) : ∀ (F : Fo) (dl : List Bool) (j : Nat) (a : Int), Wf dl F → (raV up fr).G pop pb j a () F = true → Wf dl (raF up fr pop pb j a F)
 | .nil, [], _, _, _, _ => trivial
 | .nil, _ :: _, _, _, h, _ => h.elim
 | .cons _ _ _ _ _, [], _, _, h, _ => h.elim
 | .cons p n ats k x, d :: dr, j, a, h, hg => by
  obtain ⟨hp, hok, hat, hk, hx⟩ := h
  rw [Vis.G_cons, Vis.G1, Bool.and_eq_true, Bool.and_eq_true] at hg
  obtain ⟨⟨hg1, hg2⟩, hg3⟩ := hg
  have hs := raN_same up fr n (a + aroundI pop pb j)
  have hds : ds (raN up fr n (a + aroundI pop pb j)) = ds n := by simp only [ds, hs.1, hs.2]
  refine ⟨hp, raN_ok hok h0 hg1, ?_, ?_, raF_wf h0 pop pb x dr (j + 1) a hx hg3⟩
  · unfold AtOk at hat ⊢
    rw [hs.1, hs.2]; exact hat
  · rw [hds]; exact raF_wf h0 n.op n.b k (ds n) 0 (a + aroundI pop pb j) hk hg2
end
section
open Go.RowKit
section
variable {P : Program} {ops : Array Oper} {Q : Exit → Act → World → Prop} {md : Region.Mode} {S : World → Prop} {l : Nat}
end
end
section
open Go.RowKit
theorem press_cons (p : List Nd) (n : Nd) (a : List Nd) (k x : Fo) : press (.cons p n a k x) = p ++ press x := rfl
end
end Go.Proofs.Ytjoddliplahgkaa
