/- What a right program's numbers are: they have forms. Plain. -/
import Derived.Test.YtplecfbdchmogaaEProgP
import Derived.Test.YtplecfbdchmogaaESub
namespace Go.Proofs.Ytplecfbdchmogaa
open Go.RowKit
theorem shape_w {t : List Nd} (h : shapeI t = 0) : rowW t := by
 refine ⟨?_, fun n hn => ?_⟩
 · unfold shapeI at h
   by_cases h1 : 4096 < t.length
   · rw [if_pos h1] at h; cases h
   omega
 have hp := shape_plain h n hn
 have h1 := plainB_op hp
 have h2 := plainB_a hp
 have h3 := plainB_b hp
 exact ⟨by omega, h2, by omega⟩
theorem rowE_w {b : Bk} {known self below : Int} {l : List Nd} (h : rowE b known self l below = 0) : rowW l := shape_w (row_nodes h).1
theorem rowsE_w {b : Bk} {known self step : Int} : ∀ (ls : List (List Nd)) (below : Int), rowsE b known self step ls below = 0 → ∀ t ∈ ls, rowW t
 | [], _, _, t, h => by cases h
 | l :: r, below, h, t, ht => by
  simp only [rowsE] at h
  by_cases h1 : rowE b known self l below ≠ 0
  · rw [if_pos h1] at h; exact absurd h h1
  rw [if_neg h1] at h
  rcases List.mem_cons.1 ht with rfl | ht
  · exact rowE_w (Decidable.not_not.1 h1)
  · exact rowsE_w r _ h t ht
theorem ctorsE_w {b : Bk} {known : Int} {x : En} (hi : x.indices.length ≤ 16) : ∀ cs : List Ct, ctorsE b known x cs = 0 → ∀ c ∈ cs, ctorW c
 | [], _, c, h => by cases h
 | c :: r, h, y, hy => by
  simp only [ctorsE] at h
  by_cases h1 : 16 < c.args.length
  · rw [if_pos h1] at h; cases h
  rw [if_neg h1] at h
  by_cases h2 : c.outs.length ≠ x.indices.length
  · rw [if_pos h2] at h; cases h
  rw [if_neg h2] at h
  by_cases h3 : rowsE b known known 1 c.args x.params.length ≠ 0
  · rw [if_pos h3] at h; exact absurd h h3
  rw [if_neg h3] at h
  by_cases h4 : rowsE b known known 0 c.outs ((x.params.length : Int) + c.args.length) ≠ 0
  · rw [if_pos h4] at h; exact absurd h h4
  rw [if_neg h4] at h
  rcases List.mem_cons.1 hy with rfl | hy
  · exact ⟨⟨by omega, rowsE_w _ _ (Decidable.not_not.1 h3)⟩, ⟨by omega, rowsE_w _ _ (Decidable.not_not.1 h4)⟩⟩
  · exact ctorsE_w hi r h y hy
theorem firstE_zero : ∀ (l : List Int), firstE l = 0 → ∀ e ∈ l, e = 0
 | [], _, e, h => by cases h
 | x :: r, h, e, he => by
  simp only [firstE] at h
  by_cases h1 : x ≠ 0
  · rw [if_pos h1] at h; exact absurd h h1
  rw [if_neg h1] at h
  rcases List.mem_cons.1 he with rfl | he
  · exact Decidable.not_not.1 h1
  · exact firstE_zero r h e he
theorem nil_of_len {α : Type} {l : List α} (h : l.length = 0) : l = [] := List.eq_nil_of_length_eq_zero h
theorem entryE_w {b : Bk} {known : Int} {x : En} (h : entryE b known x = 0) : entryW x := by
 unfold entryE at h
 by_cases k1 : x.kind = 1
 · rw [if_pos k1] at h
   by_cases h1 : 0 < x.type.length + x.body.length
   · rw [if_pos h1] at h; cases h
   rw [if_neg h1] at h
   by_cases h2 : 16 < x.params.length ∨ 16 < x.indices.length ∨ 16 < x.ctors.length
   · rw [if_pos h2] at h; cases h
   rw [if_neg h2] at h
   have hz := firstE_zero _ h
   have e1 := hz _ (List.mem_cons_self)
   have e3 := hz (rowsE b known (-1) 1 x.params 0) (by simp)
   have e4 := hz (rowsE b known (-1) 1 x.indices x.params.length) (by simp)
   have e5 := hz (ctorsE b known x x.ctors) (by simp)
   exact .inl ⟨k1, ⟨rowE_w e1, ⟨by omega, rowsE_w _ _ e3⟩, ⟨by omega, rowsE_w _ _ e4⟩, ⟨by omega, ctorsE_w (by omega) _ e5⟩⟩, nil_of_len (by omega), nil_of_len (by omega)⟩
 rw [if_neg k1] at h
 by_cases k2 : x.kind = 2
 · rw [if_pos k2] at h
   by_cases h1 : 0 < x.sort.length + x.params.length + x.indices.length + x.ctors.length
   · rw [if_pos h1] at h; cases h
   rw [if_neg h1] at h
   have hr := rowsE_w _ _ h
   exact .inr ⟨k2, ⟨hr _ (by simp), hr _ (by simp)⟩, nil_of_len (by omega), nil_of_len (by omega), nil_of_len (by omega), nil_of_len (by omega)⟩
 rw [if_neg k2] at h; cases h
theorem entriesE_w {b : Bk} : ∀ (es : List En) (i : Nat), entriesE b i es = 0 → ∀ x ∈ es, entryW x
 | [], _, _, x, h => by cases h
 | y :: r, i, h, x, hx => by
  simp only [entriesE] at h
  by_cases h1 : entryE b i y ≠ 0
  · rw [if_pos h1] at h; exact absurd h h1
  rw [if_neg h1] at h
  rcases List.mem_cons.1 hx with rfl | hx
  · exact entryE_w (Decidable.not_not.1 h1)
  · exact entriesE_w r (i + 1) h x hx
theorem ordG_w {vars : Int} : ∀ (os : List Nd) (g g' : GF), ordG vars os g = some g' → ∀ o ∈ os, badO vars o = false
 | [], _, _, _, o, h => by cases h
 | x :: r, g, g', h, o, ho => by
  simp only [ordG] at h
  by_cases h1 : badO vars x = true
  · rw [if_pos h1] at h; cases h
  rw [if_neg h1] at h
  rcases List.mem_cons.1 ho with rfl | ho
  · simpa using h1
  · exact ordG_w r _ _ h o ho
theorem clR_w {vars : Int} {os : List Nd} (h : (clR vars os).1 = 0) : (0 ≤ vars ∧ vars ≤ 16) ∧ os.length ≤ 64 ∧ ∀ o ∈ os, badO vars o = false := by
 unfold clR at h
 by_cases h1 : vars < 0 ∨ 16 < vars
 · rw [if_pos h1] at h; cases h
 rw [if_neg h1] at h
 by_cases h2 : 64 < os.length
 · rw [if_pos h2] at h; cases h
 rw [if_neg h2] at h
 refine ⟨by omega, by omega, ?_⟩
 cases hg : ordG vars os (iniG (vars.toNat + 1)) with
 | none => rw [hg] at h; cases h
 | some g => exact ordG_w os _ _ hg
def seenI (g : GF) (i : Int) : Nat := if 0 < (g (-1) i).getD 0 then 0 else 1
theorem primsB_w {b : Bk} : ∀ (ps : List (Int × Int)) (g : GF), (∀ x y, 0 ≤ (g x y).getD 0) → primsB b ps g = true → ps.length ≤ seenI g 1 + seenI g 2 + seenI g 3 ∧ ∀ p ∈ ps, (0 ≤ p.1 ∧ p.1 < b.entries.length) ∧ 1 ≤ p.2 ∧ p.2 ≤ 3
 | [], _, _, _ => ⟨Nat.zero_le _, fun p h => by cases h⟩
 | p :: r, g, hg, h => by
  simp only [primsB] at h
  by_cases h1 : p.1 < 0
  · rw [if_pos h1] at h; cases h
  rw [if_neg h1] at h
  by_cases h2 : (b.entries.length : Int) ≤ p.1
  · rw [if_pos h2] at h; cases h
  rw [if_neg h2] at h
  by_cases h3 : (entB b p.1).kind ≠ 2
  · rw [if_pos h3] at h; cases h
  rw [if_neg h3] at h
  by_cases h4 : p.2 < 1
  · rw [if_pos h4] at h; cases h
  rw [if_neg h4] at h
  by_cases h5 : 3 < p.2
  · rw [if_pos h5] at h; cases h
  rw [if_neg h5] at h
  by_cases h6 : 0 < (g p.1 (-1)).getD 0 + (g (-1) p.2).getD 0
  · rw [if_pos h6] at h; cases h
  rw [if_neg h6] at h
  have hg2 : ∀ x y, 0 ≤ (updG (updG g p.1 (-1) 1) (-1) p.2 1 x y).getD 0 := fun x y => by
   unfold updG
   split
   · decide
   split
   · decide
   exact hg x y
  obtain ⟨i1, i2⟩ := primsB_w r _ hg2 h
  have a1 := hg p.1 (-1)
  have a2 : (g (-1) p.2).getD 0 ≤ 0 := by omega
  have hs : ∀ i, seenI (updG (updG g p.1 (-1) 1) (-1) p.2 1) i = if i = p.2 then 0 else seenI g i := fun i => by
   have hv : updG (updG g p.1 (-1) 1) (-1) p.2 1 (-1) i = if i = p.2 then some 1 else g (-1) i := by
    unfold updG
    by_cases e : i = p.2
    · rw [if_pos ⟨rfl, e⟩, if_pos e]
    rw [if_neg (fun hh => e hh.2), if_neg (fun hh => h1 (by omega)), if_neg e]
   unfold seenI
   rw [hv]
   by_cases e : i = p.2
   · rw [if_pos e, if_pos e]; rfl
   rw [if_neg e, if_neg e]
  have hp : seenI g p.2 = 1 := by unfold seenI; rw [if_neg (by omega)]
  rw [hs, hs, hs] at i1
  refine ⟨?_, fun q hq => ?_⟩
  · have hc : p.2 = 1 ∨ p.2 = 2 ∨ p.2 = 3 := by omega
    simp only [List.length_cons]
    rcases hc with e | e | e
    · rw [e] at i1 hp; simp at i1; omega
    · rw [e] at i1 hp; simp at i1; omega
    rw [e] at i1 hp; simp at i1; omega
  · rcases List.mem_cons.1 hq with rfl | hq
    · exact ⟨by omega, by omega⟩
    exact i2 q hq
theorem progW_of {p : Pg} (h : progE p = 0) : progW p := by
 unfold progE at h
 by_cases h1 : rightE p.book ≠ 0
 · rw [if_pos h1] at h; exact absurd h h1
 rw [if_neg h1] at h
 by_cases h2 : fitsE p.book 0 p.main ≠ 0
 · rw [if_pos h2] at h; exact absurd h h2
 rw [if_neg h2] at h
 have hr := Decidable.not_not.1 h1
 have hm := Decidable.not_not.1 h2
 have fw : ∀ l, fitsE p.book 0 l = 0 → rowW l := fun l hl => by
  unfold fitsE at hl
  rw [if_neg h1, if_neg (by decide)] at hl
  exact rowE_w hl
 unfold rightE at hr
 by_cases c1 : (clR p.book.vars p.book.orders).1 ≠ 0
 · rw [if_pos c1] at hr; exact absurd hr c1
 rw [if_neg c1] at hr
 by_cases c2 : 64 < p.book.entries.length
 · rw [if_pos c2] at hr; cases hr
 rw [if_neg c2] at hr
 by_cases c3 : entriesE p.book 0 p.book.entries ≠ 0
 · rw [if_pos c3] at hr; exact absurd hr c3
 rw [if_neg c3] at hr
 by_cases c4 : regB p.book = true
 rotate_left
 · rw [if_neg c4] at hr; cases hr
 obtain ⟨v1, v2, v3⟩ := clR_w (Decidable.not_not.1 c1)
 have hord : ordersW p.book.orders := ⟨by omega, fun o ho => by
  have := v3 o ho
  simp only [badO, Bool.or_eq_false_iff, decide_eq_false_iff_not] at this
  exact ⟨by omega, by omega, by omega⟩⟩
 have hent : entriesW p.book.entries := ⟨by omega, entriesE_w _ _ (Decidable.not_not.1 c3)⟩
 unfold regB at c4
 by_cases n1 : p.book.nat ≠ -1
 rotate_left
 · rw [if_neg n1] at c4
   by_cases n3 : 0 < p.book.prims.length
   · rw [if_pos n3] at c4; cases c4
   have : p.book.prims = [] := nil_of_len (by omega)
   exact ⟨⟨by omega, hord, hent⟩, by omega, ⟨by rw [this]; exact Nat.zero_le _, fun q hq => by rw [this] at hq; cases hq⟩, fw _ hm, fw _ h⟩
 rw [if_pos n1] at c4
 by_cases n2 : numB p.book p.book.nat = true
 rotate_left
 · rw [if_neg n2] at c4; cases c4
 rw [if_pos n2] at c4
 obtain ⟨q1, q2⟩ := primsB_w _ _ (fun _ _ => by simp) c4
 have s1 : seenI (fun _ _ => none) 1 + seenI (fun _ _ => none) 2 + seenI (fun _ _ => none) 3 = 3 := rfl
 have hn : 0 ≤ p.book.nat ∧ p.book.nat < p.book.entries.length := by
  unfold numB at n2
  by_cases m1 : p.book.nat < 0
  · rw [if_pos m1] at n2; cases n2
  rw [if_neg m1] at n2
  by_cases m2 : (p.book.entries.length : Int) ≤ p.book.nat
  · rw [if_pos m2] at n2; cases n2
  omega
 exact ⟨⟨by omega, hord, hent⟩, by omega, ⟨by omega, fun q hq => by
  have := q2 q hq
  exact ⟨by omega, by omega⟩⟩, fw _ hm, fw _ h⟩
end Go.Proofs.Ytplecfbdchmogaa
