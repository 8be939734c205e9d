/- The types of families and constructors, put together at once or in steps: the same (plain law). -/
import Derived.Test.YtplecfbdchmogaaETyq
namespace Go.Proofs.Ytplecfbdchmogaa
open Go.RowKit
theorem shape_two {op : Int} (ho : op = 4 ∨ op = 6) {d t : List Nd} (hd : shapeI d = 0) (ht : shapeI t = 0) (hl : d.length + t.length + 1 ≤ 4096) : shapeI ((⟨op, 0, 0⟩ : Nd) :: (d ++ t)) = 0 := by
 obtain ⟨n1, a1, k1, h1⟩ := rt_of hd
 obtain ⟨n2, a2, k2, h2⟩ := rt_of ht
 have e1 := h1.eq
 have e2 := h2.eq
 obtain ⟨o1, t1, w1⟩ := h1.wf
 obtain ⟨o2, t2, w2⟩ := h2.wf
 have hds : ds ⟨op, 0, 0⟩ = [false, false] := by rcases ho with rfl | rfl <;> rfl
 have hr : ((⟨op, 0, 0⟩ : Nd) :: (d ++ t)) = ⟨op, 0, 0⟩ :: ([] ++ row (.cons [] n1 a1 k1 (.cons [] n2 a2 k2 .nil))) := by
  rw [e1, e2]
  simp [row]
 have hk := rt_make (n := ⟨op, 0, 0⟩) (a := []) (k := .cons [] n1 a1 k1 (.cons [] n2 a2 k2 .nil)) (by rcases ho with rfl | rfl <;> decide) (by unfold AtOk; rw [if_neg (by rcases ho with rfl | rfl <;> decide)])
  (by rw [hds]; exact ⟨rfl, o1, t1, w1, rfl, o2, t2, w2, trivial⟩) (by rw [← hr]; simp only [List.length_cons, List.length_append]; omega)
 rw [hr]
 exact hk.shape
theorem bindL_cons (op : Int) (d : List Nd) (ls : List (List Nd)) : bindL op (d :: ls) = ⟨op, 0, 0⟩ :: (d ++ bindL op ls) := by simp [bindL]
theorem bindL_app (op : Int) (p q : List (List Nd)) : bindL op (p ++ q) = bindL op p ++ bindL op q := by simp [bindL]
theorem firstBad_cons {a : List Nd} {r : List (List Nd)} (h : firstBad (a :: r) = 0) : shapeI a = 0 ∧ firstBad r = 0 := by
 simp only [firstBad] at h
 by_cases ha : shapeI a = 0
 · rw [if_pos ha] at h; exact ⟨ha, h⟩
 rw [if_neg ha] at h; exact absurd h ha
theorem shape_bind : ∀ (ls : List (List Nd)) {t : List Nd}, firstBad ls = 0 → shapeI t = 0 → (bindL 4 ls).length + t.length ≤ 4096 → shapeI (bindL 4 ls ++ t) = 0
 | [], t, _, ht, _ => by simpa [bindL] using ht
 | d :: ls, t, hb, ht, hl => by
  obtain ⟨hd, hb⟩ := firstBad_cons hb
  rw [bindL_cons] at hl ⊢
  simp only [List.cons_append, List.append_assoc, List.length_cons, List.length_append] at hl ⊢
  exact shape_two (.inl rfl) hd (shape_bind ls hb ht (by omega)) (by simp only [List.length_append]; omega)
theorem shape_app : ∀ (args : List (List Nd)) {f : List Nd}, shapeI f = 0 → firstBad args = 0 → f.length + (args.flatten.length + args.length) ≤ 4096 → shapeI (List.replicate args.length (⟨6, 0, 0⟩ : Nd) ++ (f ++ args.flatten)) = 0
 | [], f, hf, _, _ => by simpa using hf
 | a :: r, f, hf, hb, hl => by
  obtain ⟨ha, hb⟩ := firstBad_cons hb
  simp only [List.flatten_cons, List.length_append, List.length_cons] at hl
  have h := shape_app r (f := ⟨6, 0, 0⟩ :: (f ++ a)) (shape_two (.inr rfl) hf ha (by omega)) hb (by simp only [List.length_cons, List.length_append]; omega)
  have e : List.replicate (a :: r).length (⟨6, 0, 0⟩ : Nd) ++ (f ++ (a :: r).flatten) = List.replicate r.length ⟨6, 0, 0⟩ ++ ((⟨6, 0, 0⟩ :: (f ++ a)) ++ r.flatten) := by
   rw [List.length_cons, List.replicate_succ']
   simp
  rw [e]
  exact h
theorem bindR_ok {ls : List (List Nd)} {t : List Nd} (hb : firstBad ls = 0) (ht : shapeI t = 0) : bindR 4 ls t = if 4096 < (bindL 4 ls).length + t.length then ([], 9) else (bindL 4 ls ++ t, 0) := by
 unfold bindR
 rw [if_neg (by simp), if_neg (by simp [hb]), if_neg (by simp [ht])]
theorem applyR_ok {f : List Nd} {args : List (List Nd)} (hf : shapeI f = 0) (hb : firstBad args = 0) : applyR f args = if 4096 < f.length + (args.flatten.length + args.length) then ([], 9) else (List.replicate args.length ⟨6, 0, 0⟩ ++ (f ++ args.flatten), 0) := by
 unfold applyR
 rw [if_neg (by simp [hf]), if_neg (by simp [hb])]
theorem thenQ_ok {l : List Nd} {f : List Nd → List Nd × Int} : thenQ (l, 0) f = f l := if_neg (fun h => h rfl)
theorem bind_two {p q : List (List Nd)} {t : List Nd} (hp : firstBad p = 0) (hq : firstBad q = 0) (ht : shapeI t = 0) : bindR 4 (p ++ q) t = thenQ (bindR 4 q t) fun t => bindR 4 p t := by
 have hpq : firstBad (p ++ q) = 0 := by rw [firstBad_app, if_pos hp, hq]
 rw [bindR_ok hpq ht, bindR_ok hq ht, bindL_app]
 by_cases h1 : 4096 < (bindL 4 q).length + t.length
 · rw [if_pos h1, if_pos (by simp only [List.length_append]; omega)]
   rfl
 rw [if_neg h1]
 have h2 := shape_bind q hq ht (by omega)
 rw [thenQ_ok, bindR_ok hp h2]
 simp only [List.length_append, List.append_assoc, Nat.add_assoc]
theorem rowE_shape {b : Bk} {known self below : Int} {l : List Nd} (h : rowE b known self l below = 0) : shapeI l = 0 := by
 unfold rowE at h
 by_cases h1 : shapeI l ≠ 0
 · rw [if_pos h1] at h; exact absurd h h1
 exact Decidable.not_not.1 h1
theorem rowsE_shape {b : Bk} {known self step : Int} : ∀ (ls : List (List Nd)) (below : Int), rowsE b known self step ls below = 0 → firstBad ls = 0
 | [], _, _ => rfl
 | l :: r, below, h => by
  simp only [rowsE] at h
  by_cases h1 : rowE b known self l below ≠ 0
  · rw [if_pos h1] at h; exact absurd h h1
  rw [if_neg h1] at h
  simp only [firstBad]
  rw [if_pos (rowE_shape (Decidable.not_not.1 h1))]
  exact rowsE_shape r _ h
theorem ctorsE_shape {b : Bk} {known : Int} {x : En} : ∀ cs : List Ct, ctorsE b known x cs = 0 → ∀ c ∈ cs, firstBad c.args = 0 ∧ firstBad c.outs = 0
 | [], _, c, h => by cases h
 | c :: r, h, y, hy => by
  simp only [ctorsE] at h
  by_cases h1 : 16 < c.args.length
  · rw [if_pos h1] at h; cases h
  rw [if_neg h1] at h
  by_cases h2 : c.outs.length ≠ x.indices.length
  · rw [if_pos h2] at h; cases h
  rw [if_neg h2] at h
  by_cases h3 : rowsE b known known 1 c.args x.params.length ≠ 0
  · rw [if_pos h3] at h; exact absurd h h3
  rw [if_neg h3] at h
  by_cases h4 : rowsE b known known 0 c.outs ((x.params.length : Int) + c.args.length) ≠ 0
  · rw [if_pos h4] at h; exact absurd h h4
  rw [if_neg h4] at h
  rcases List.mem_cons.1 hy with rfl | hy
  · exact ⟨rowsE_shape _ _ (Decidable.not_not.1 h3), rowsE_shape _ _ (Decidable.not_not.1 h4)⟩
  · exact ctorsE_shape r h y hy
structure EnT (x : En) : Prop where
 sort : shapeI x.sort = 0
 params : firstBad x.params = 0
 indices : firstBad x.indices = 0
 ctors : ∀ c ∈ x.ctors, firstBad c.args = 0 ∧ firstBad c.outs = 0
theorem entry_T {b : Bk} {known : Int} {x : En} (h : entryE b known x = 0) (k1 : x.kind = 1) : EnT x := by
 unfold entryE at h
 rw [if_pos k1] at h
 by_cases h1 : 0 < x.type.length + x.body.length
 · rw [if_pos h1] at h; cases h
 rw [if_neg h1] at h
 by_cases h2 : 16 < x.params.length ∨ 16 < x.indices.length ∨ 16 < x.ctors.length
 · rw [if_pos h2] at h; cases h
 rw [if_neg h2] at h
 exact ⟨rowE_shape (firstE_zero _ h (rowE b known (-1) x.sort 0) (by simp)), rowsE_shape _ _ (firstE_zero _ h (rowsE b known (-1) 1 x.params 0) (by simp)), rowsE_shape _ _ (firstE_zero _ h (rowsE b known (-1) 1 x.indices x.params.length) (by simp)), ctorsE_shape _ (firstE_zero _ h (ctorsE b known x x.ctors) (by simp))⟩
theorem entries_T {b : Bk} : ∀ (es : List En) (i : Nat), entriesE b i es = 0 → ∀ x ∈ es, x.kind = 1 → EnT x
 | [], _, _, x, h, _ => by cases h
 | y :: r, i, h, x, hx, hk => by
  simp only [entriesE] at h
  by_cases h1 : entryE b i y ≠ 0
  · rw [if_pos h1] at h; exact absurd h h1
  rw [if_neg h1] at h
  rcases List.mem_cons.1 hx with rfl | hx
  · exact entry_T (Decidable.not_not.1 h1) hk
  · exact entries_T r (i + 1) h x hx hk
theorem fam_T {b : Bk} {e : Int} (h : famE b e = 0) : EnT (entB b e) := by
 obtain ⟨hr, h0, h1, hk, _⟩ := fam_zero h
 have hi : e.toNat < b.entries.length := by omega
 refine entries_T _ _ (right_entE hr) _ ?_ hk
 unfold entB
 rw [List.getD_eq_getElem?_getD, List.getElem?_eq_getElem hi]
 exact List.getElem_mem hi
def rinT (b : Bk) (e : Int) : List Nd × Int := if famE b e ≠ 0 then ([], famE b e) else bindR 4 ((entB b e).params ++ (entB b e).indices) (entB b e).sort
def rctT (b : Bk) (e k : Int) : List Nd × Int :=
 if famE b e ≠ 0 then ([], famE b e) else if k < 0 ∨ ((entB b e).ctors.length : Int) ≤ k then ([], 1) else
 thenQ (applyR [⟨9, e, 0⟩] (varsL (entB b e).params.length ((entB b e).ctors.getD k.toNat default).args.length ++ ((entB b e).ctors.getD k.toNat default).outs)) fun t => bindR 4 ((entB b e).params ++ ((entB b e).ctors.getD k.toNat default).args) t
theorem ind_same (b : Bk) (e : Int) : rinT b e = binT b e := by
 unfold rinT binT
 by_cases h : famE b e ≠ 0
 · rw [if_pos h, if_pos h]
 rw [if_neg h, if_neg h]
 have h0 : famE b e = 0 := Decidable.not_not.1 h
 have ht := fam_T h0
 obtain ⟨_, g0, _⟩ := fam_zero h0
 unfold inT
 rw [show ((e.toNat : Nat) : Int) = e from by omega]
 exact bind_two ht.params ht.indices ht.sort
theorem right_64 {b : Bk} (hr : rightE b = 0) : b.entries.length ≤ 64 := by
 unfold rightE at hr
 by_cases c1 : (clR b.vars b.orders).1 ≠ 0
 · rw [if_pos c1] at hr; exact absurd hr c1
 rw [if_neg c1] at hr
 by_cases c2 : 64 < b.entries.length
 · rw [if_pos c2] at hr; cases hr
 omega
theorem firstBad_vars (n fr : Nat) (h : fr + n ≤ 1000000) : firstBad (varsL n fr) = 0 := by
 have : ∀ ls : List (List Nd), (∀ l ∈ ls, shapeI l = 0) → firstBad ls = 0 := by
  intro ls
  induction ls with
  | nil => intro _; rfl
  | cons a r ih =>
   intro h
   simp only [firstBad]
   rw [if_pos (h a (by simp))]
   exact ih fun l hl => h l (by simp [hl])
 refine this _ fun l hl => ?_
 obtain ⟨j, hj, rfl⟩ := List.mem_map.1 hl
 have hj := List.mem_range.1 hj
 have hk := rt_make (n := ⟨1, ((fr + (n - 1 - j) : Nat) : Int), 0⟩) (a := []) (k := .nil) (by unfold okN; rw [plainB_iff.2 (.inl ⟨rfl, by simp only; omega, by simp only; omega, rfl⟩)]; rfl) (by unfold AtOk; rw [if_neg (by simp)]) (by trivial) (by simp [row])
 simpa [row] using hk.shape
theorem ctor_same (b : Bk) (e k : Int) : rctT b e k = bctT b e k := by
 unfold rctT bctT
 by_cases h : famE b e ≠ 0
 · rw [if_pos h, if_pos h]
 rw [if_neg h, if_neg h]
 have h0 : famE b e = 0 := Decidable.not_not.1 h
 have ht := fam_T h0
 obtain ⟨hr, g0, g1, _, hfew⟩ := fam_zero h0
 by_cases hk : k < 0 ∨ ((entB b e).ctors.length : Int) ≤ k
 · rw [if_pos hk, if_pos hk]
 rw [if_neg hk, if_neg hk]
 unfold ctT
 rw [show ((e.toNat : Nat) : Int) = e from by omega]
 have hkl : k.toNat < (entB b e).ctors.length := by omega
 have hm : (entB b e).ctors.getD k.toNat default ∈ (entB b e).ctors := by
  rw [List.getD_eq_getElem?_getD, List.getElem?_eq_getElem hkl]
  exact List.getElem_mem hkl
 obtain ⟨c1, c2⟩ := ht.ctors _ hm
 obtain ⟨f1, f2⟩ := hfew.ctors _ hm
 have f3 := hfew.params
 have hv : firstBad (varsL (entB b e).params.length ((entB b e).ctors.getD k.toNat default).args.length ++ ((entB b e).ctors.getD k.toNat default).outs) = 0 := by
  rw [firstBad_app, if_pos (firstBad_vars _ _ (by omega)), c2]
 have hel : b.entries.length ≤ 64 := right_64 hr
 have hs : shapeI [(⟨9, e, 0⟩ : Nd)] = 0 := by
  have hk := rt_make (n := ⟨9, e, 0⟩) (a := []) (k := .nil) (by unfold okN; rw [plainB_iff.2 (.inr (.inr (.inr (.inr (.inl ⟨.inr rfl, g0, by show e < 64; omega, rfl⟩)))))]; rfl) (by unfold AtOk; rw [if_neg (by simp)]) (by trivial) (by simp [row])
  simpa [row] using hk.shape
 rw [applyR_ok hs hv]
 by_cases hbig : 4096 < [(⟨9, e, 0⟩ : Nd)].length + ((varsL (entB b e).params.length ((entB b e).ctors.getD k.toNat default).args.length ++ ((entB b e).ctors.getD k.toNat default).outs).flatten.length + (varsL (entB b e).params.length ((entB b e).ctors.getD k.toNat default).args.length ++ ((entB b e).ctors.getD k.toNat default).outs).length)
 · rw [if_pos hbig]; rfl
 rw [if_neg hbig]
 have hsa := shape_app _ hs hv (by omega)
 rw [thenQ_ok, thenQ_ok]
 exact bind_two ht.params c1 hsa
end Go.Proofs.Ytplecfbdchmogaa
