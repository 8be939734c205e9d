/- Lifted terms are guarded as before: plain laws. -/
import Derived.Test.YtjllmblbbgojbaaKRefFine
import Derived.Test.YtjllmblbbgojbaaKTermL
import Derived.Test.YtjllmblbbgojbaaKSub
namespace Go.Proofs.Ytjllmblbbgojbaa
open Go.RowKit
theorem allG_skip {b : Bk} {l : List Nd} : ∀ (s : List Nd) (i r : Nat) (rest : List Nd), l.drop i = s ++ rest → (∀ m ∈ s, m.op ≠ 12) → allG b l (s.length + r) i = allG b l r (i + s.length)
 | [], i, r, _, _, _ => by simp
 | m :: s, i, r, rest, hd, h => by
  have h0 : nth l i = m := by
   have h0 : nth (l.drop i) 0 = m := by rw [hd]; rfl
   rwa [nth_drop, Nat.add_zero] at h0
  have hd2 : l.drop (i + 1) = s ++ rest := by
   have := congrArg (List.drop 1) hd
   simpa [List.drop_drop] using this
  rw [List.length_cons, show s.length + 1 + r = (s.length + r) + 1 from by omega]
  simp only [allG]
  rw [h0, if_neg (h m (by simp)), Bool.true_and, allG_skip s (i + 1) r rest hd2 (fun m hm => h m (by simp [hm]))]
  congr 1
  omega
theorem drop_step {l s rest : List Nd} {i : Nat} (h : l.drop i = s ++ rest) : l.drop (i + s.length) = rest := by
 rw [← List.drop_drop, h, List.drop_left]
theorem allG_fo {b : Bk} {l : List Nd} : ∀ (F : Fo) (dl : List Bool), Wf dl F → ∀ (i r : Nat) (rest : List Nd), l.drop i = row F ++ rest → allG b l ((row F).length + r) i = (fixF (argsB b) F && allG b l r (i + (row F).length))
 | .nil, _, _, i, r, _, _ => by simp [row, fixF]
 | .cons _ _ _ _ _, [], h, _, _, _, _ => h.elim
 | .cons p n a k x, d :: dr, h, i, r, rest, hd => by
  obtain ⟨hp, hok, hat, hk, hx⟩ := h
  have hp12 : ∀ m ∈ p, m.op ≠ 12 := by
   intro m hm
   cases d with
   | false => simp only at hp; subst hp; cases hm
   | true =>
    obtain ⟨f, rfl, hf⟩ := hp
    rw [List.mem_singleton] at hm
    subst hm
    simp only [okF, Bool.and_eq_true, decide_eq_true_eq] at hf
    omega
  have ha12 : ∀ m ∈ a, m.op ≠ 12 := by
   intro m hm
   unfold AtOk at hat
   split at hat
   · have := atoms_op _ _ _ _ hat m hm
     omega
   subst hat; cases hm
  have e1 : l.drop i = p ++ (n :: (a ++ (row k ++ (row x ++ rest)))) := by rw [hd]; simp [row]
  have e2 := drop_step e1
  have e3 : l.drop (i + p.length + 1) = a ++ (row k ++ (row x ++ rest)) := by
   have := congrArg (List.drop 1) e2
   simpa [List.drop_drop] using this
  have e4 := drop_step e3
  have e5 := drop_step e4
  have hlen : (row (.cons p n a k x)).length = p.length + (1 + (a.length + ((row k).length + (row x).length))) := by simp [row]; omega
  rw [hlen, show p.length + (1 + (a.length + ((row k).length + (row x).length))) + r = p.length + ((a.length + ((row k).length + ((row x).length + r))) + 1) from by omega]
  rw [allG_skip p i _ _ e1 hp12]
  have h0 : nth l (i + p.length) = n := by
   have h0 : nth (l.drop (i + p.length)) 0 = n := by rw [e2]; rfl
   rwa [nth_drop, Nat.add_zero] at h0
  have htr : treeAt (l.drop (i + p.length)) = (n, a, k) := by
   have := treeAt_row (rest := row x ++ rest) hok hat hk
   rw [← this, e2]
   simp [rowT]
  rw [show allG b l ((a.length + ((row k).length + ((row x).length + r))) + 1) (i + p.length) = ((if (nth l (i + p.length)).op = 12 then guardT (argsB b) (rowT (treeAt (l.drop (i + p.length)))).length (treeAt (l.drop (i + p.length))) else true) && allG b l (a.length + ((row k).length + ((row x).length + r))) (i + p.length + 1)) from rfl]
  rw [h0, htr, allG_skip a (i + p.length + 1) _ _ e3 ha12, allG_fo k _ hk _ _ _ e4, allG_fo x _ hx _ _ _ e5, fixF_cons]
  unfold fixT
  rw [show i + p.length + 1 + a.length + (row k).length + (row x).length = i + (p.length + (1 + (a.length + ((row k).length + (row x).length)))) from by omega]
  simp only [Bool.and_assoc]
  rfl
theorem allG_rt {b : Bk} {t : List Nd} {n : Nd} {a : List Nd} {k : Fo} (h : Rt t n a k) : allG b t t.length 0 = fixT (argsB b) (n, a, k) := by
 have hw := wf_of_pp h.pp
 have he := h.eq
 have hr : t = row (.cons [] n a k .nil) := by rw [he]; simp [row]
 have := allG_fo (b := b) (l := t) (.cons [] n a k .nil) [false] hw 0 0 [] (by rw [← hr]; simp)
 rw [← hr, Nat.add_zero] at this
 rw [this, fixF_cons]
 simp [fixF, allG]
theorem chk_fit {b : Bk} {free : Int} {l : List Nd} (h : fitsE b free l = 0) : chkGE b free l = if allG b l l.length 0 then 0 else 18 := by
 unfold chkGE
 rw [h]
 rfl
end Go.Proofs.Ytjllmblbbgojbaa
