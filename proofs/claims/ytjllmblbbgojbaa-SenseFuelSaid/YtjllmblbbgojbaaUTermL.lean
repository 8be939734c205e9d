/- Lifted forests: plain laws (the second part of TermP). -/
import Derived.Test.YtjllmblbbgojbaaUEnds
namespace Go.Proofs.Ytjllmblbbgojbaa
open Go.RowKit
def raN (up fr : Int) (n : Nd) (a : Int) : Nd := if n.op = 1 ∧ fr + a ≤ n.a then ⟨n.op, n.a + up, n.b⟩ else n
def raF (up fr : Int) (pop pb : Int) : Nat → Int → Fo → Fo
 | _, _, .nil => .nil
 | j, a, .cons p n ats k x => .cons p (raN up fr n (a + aroundI pop pb j)) ats (raF up fr n.op n.b 0 (a + aroundI pop pb j) k) (raF up fr pop pb (j + 1) a x)
theorem raN_same (up fr : Int) (n : Nd) (a : Int) : (raN up fr n a).op = n.op ∧ (raN up fr n a).b = n.b := by unfold raN; split <;> exact ⟨rfl, rfl⟩
theorem raV_em (up fr : Int) (n : Nd) (a : Int) : (raV up fr).em () n a = [raN up fr n a] := by
 simp only [raV, raN]; split <;> rfl
theorem raV_row (up fr : Int) (pop pb : Int) : ∀ (j : Nat) (a : Int) (F : Fo), (raV up fr).E pop pb j a () F = row (raF up fr pop pb j a F)
 | _, _, .nil => rfl
 | j, a, .cons p n ats k x => by
  have e : ∀ s : Unit, s = () := fun _ => rfl
  rw [Vis.E_cons, Vis.E1, raV_em, e ((raV up fr).nx () n (a + aroundI pop pb j)), e ((raV up fr).S1 (a + aroundI pop pb j) () n k), raV_row up fr _ _ _ _ k, raV_row up fr pop pb (j + 1) a x]
  simp [raF, row]
theorem raV_row1 (up fr : Int) (a : Int) (n : Nd) (ats : List Nd) (k : Fo) : (raV up fr).E1 a () n ats k = raN up fr n a :: (ats ++ row (raF up fr n.op n.b 0 a k)) := by
 have e : ∀ s : Unit, s = () := fun _ => rfl
 rw [Vis.E1, raV_em, e ((raV up fr).nx () n a), raV_row]; rfl
theorem raN_ok {up fr : Int} {n : Nd} {a : Int} (hok : okN n = true) (h0 : 0 ≤ up) (hg : (raV up fr).ok () n a = true) : okN (raN up fr n a) = true := by
 unfold raN
 split
 · rename_i h
   simp only [raV, if_pos h, decide_eq_true_eq] at hg
   simp only [okN, Bool.and_eq_true, decide_eq_true_eq] at hok ⊢
   obtain ⟨⟨h1, h2⟩, h3⟩ := hok
   refine ⟨⟨?_, h2⟩, h3⟩
   rw [h.1] at h1 ⊢
   simp only [plainB, if_true, decide_eq_true_eq] at h1 ⊢
   omega
 exact hok
theorem raF_wf {up fr : Int} (h0 : 0 ≤ up) (pop pb : Int) : ∀ (F : Fo) (dl : List Bool) (j : Nat) (a : Int), Wf dl F → (raV up fr).G pop pb j a () F = true → Wf dl (raF up fr pop pb j a F)
 | .nil, [], _, _, _, _ => trivial
 | .nil, _ :: _, _, _, h, _ => h.elim
 | .cons _ _ _ _ _, [], _, _, h, _ => h.elim
 | .cons p n ats k x, d :: dr, j, a, h, hg => by
  obtain ⟨hp, hok, hat, hk, hx⟩ := h
  rw [Vis.G_cons, Vis.G1, Bool.and_eq_true, Bool.and_eq_true] at hg
  obtain ⟨⟨hg1, hg2⟩, hg3⟩ := hg
  have hs := raN_same up fr n (a + aroundI pop pb j)
  have hds : ds (raN up fr n (a + aroundI pop pb j)) = ds n := by simp only [ds, hs.1, hs.2]
  refine ⟨hp, raN_ok hok h0 hg1, ?_, ?_, raF_wf h0 pop pb x dr (j + 1) a hx hg3⟩
  · unfold AtOk at hat ⊢
    rw [hs.1, hs.2]; exact hat
  · rw [hds]; exact raF_wf h0 n.op n.b k (ds n) 0 (a + aroundI pop pb j) hk hg2
theorem lift_right {t : List Nd} {n : Nd} {ats : List Nd} {k : Fo} {up fr : Int} (hpp : pp [false] t = some (.cons [] n ats k .nil, [])) (hl : t.length ≤ 4096) (h0 : 0 ≤ up) (hg : (raV up fr).G1 0 () n k = true) :
 pp [false] ((raV up fr).E1 0 () n ats k) = some (.cons [] (raN up fr n 0) ats (raF up fr n.op n.b 0 0 k) .nil, []) ∧ shapeI ((raV up fr).E1 0 () n ats k) = 0 ∧ ((raV up fr).E1 0 () n ats k).length = t.length := by
 have hw := wf_of_pp hpp
 obtain ⟨_, hok, hat, hk, _⟩ := hw
 rw [Vis.G1, Bool.and_eq_true] at hg
 have hs := raN_same up fr n 0
 have hds : ds (raN up fr n 0) = ds n := by simp only [ds, hs.1, hs.2]
 have hw2 : Wf [false] (.cons [] (raN up fr n 0) ats (raF up fr n.op n.b 0 0 k) .nil) := by
  refine ⟨rfl, raN_ok hok h0 hg.1, ?_, ?_, trivial⟩
  · unfold AtOk at hat ⊢
    rw [hs.1, hs.2]; exact hat
  rw [hds]; exact raF_wf h0 n.op n.b k (ds n) 0 0 hk hg.2
 have h1 := pp_of_wf _ _ [] hw2
 have h2 : (raV up fr).E1 0 () n ats k = row (.cons [] (raN up fr n 0) ats (raF up fr n.op n.b 0 0 k) .nil) ++ [] := by rw [raV_row1]; simp [row]
 have hrow := pp_row hpp
 have hlen : ((raV up fr).E1 0 () n ats k).length = t.length := by
  rw [raV_len1, hrow]; simp [row]
 rw [← h2] at h1
 exact ⟨h1, shape_of_pp h1 (by omega), hlen⟩
end Go.Proofs.Ytjllmblbbgojbaa
