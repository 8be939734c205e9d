/- BookScopes: plain law. What is right fits when it is put together; a right book is right ahead of its last entry. -/
import Derived.Test.YtplecfbdchmogaaETyP
import Derived.Test.YtplecfbdchmogaaESenseM
import Derived.Test.YtplecfbdchmogaaESpi
namespace Go.Proofs.Ytplecfbdchmogaa
open Go.RowKit
theorem row_fit {b : Bk} {known self below : Int} {l : List Nd} (h : rowE b known self l below = 0) (h0 : 0 ≤ below) (hn : ∀ m, nodeB b known self m = true → nodeB b b.entries.length (-1) m = true) : ∃ x, l = rowT x ∧ FitT b below x := by
 obtain ⟨hs, hbl, hnd⟩ := row_nodes h
 obtain ⟨n, a, k, hrt⟩ := rt_of hs
 obtain ⟨hok, hat, hk⟩ := hrt.wf
 have e : l = rowT (n, a, k) := hrt.eq
 refine ⟨(n, a, k), e, ⟨⟨hok, hat, hk⟩, by have := hrt.few; rw [e] at this; exact this, ?_, fun m hm => hn m (hnd m (by rw [e]; exact hm))⟩⟩
 rw [below_rt hrt, Bool.not_eq_true', show max below 0 = below from by omega] at hbl
 exact hbl
def piTT (d t : TT) : TT := (⟨4, 0, 0⟩, [], .cons [] d.1 d.2.1 d.2.2 (.cons [] t.1 t.2.1 t.2.2 .nil))
theorem pi_row (d t : TT) : rowT (piTT d t) = ⟨4, 0, 0⟩ :: (rowT d ++ rowT t) := by simp [piTT, rowT, row]
theorem pi_fit {b : Bk} {free : Int} {d t : TT} (hd : FitT b free d) (ht : FitT b (free + 1) t) (hs : 1 + szT d + szT t ≤ 4096) : FitT b free (piTT d t) := by
 have hrow := pi_row d t
 have hz : aroundI 4 0 ((0 : Nat) : Int) = 0 := by decide
 have h1 : aroundI 4 0 ((0 + 1 : Nat) : Int) = 1 := by decide
 refine ⟨⟨(by show okN ⟨4, 0, 0⟩ = true; decide), rfl, ?_⟩, ?_, ?_, ?_⟩
 · show Wf (ds ⟨4, 0, 0⟩) _
   have hds : ds ⟨4, 0, 0⟩ = [false, false] := rfl
   rw [hds]
   exact ⟨rfl, hd.okt.ok, hd.okt.at_, hd.okt.wf, rfl, ht.okt.ok, ht.okt.at_, ht.okt.wf, trivial⟩
 · show (rowT (piTT d t)).length ≤ 4096
   rw [hrow]
   simp only [List.length_cons, List.length_append]
   simp only [szT] at hs
   omega
 · unfold piTT exT
   simp only
   rw [exF_cons, exF_cons, hz, h1, Int.add_zero, hd.low]
   have := exT_shift (p := fun v z => decide (free + 1 ≤ v - z)) (q := fun v z => decide (free ≤ v - z)) (c := -1) (fun v z hh => by
    simp only [decide_eq_true_eq] at hh ⊢
    omega) (a := 0 + 1) (n := t.1) (k := t.2.2) (by simpa using ht.low)
   rw [this]
   rfl
 rw [hrow]
 intro m hm
 rcases List.mem_cons.1 hm with rfl | hm
 · rfl
 rcases List.mem_append.1 hm with hm | hm
 · exact hd.nod m hm
 exact ht.nod m hm
theorem tele_fit {b : Bk} {known self : Int} (hn : ∀ m, nodeB b known self m = true → nodeB b b.entries.length (-1) m = true) : ∀ (ls : List (List Nd)) (below : Int) (t : TT), 0 ≤ below → rowsE b known self 1 ls below = 0 → FitT b (below + ls.length) t → (bindL 4 ls).length + szT t ≤ 4096 → ∃ x, FitT b below x ∧ rowT x = bindL 4 ls ++ rowT t
 | [], below, t, _, _, ht, _ => ⟨t, by simpa using ht, by simp [bindL]⟩
 | l :: r, below, t, h0, h, ht, hl => by
  simp only [rowsE] at h
  by_cases h1 : rowE b known self l below ≠ 0
  · rw [if_pos h1] at h; exact absurd h h1
  rw [if_neg h1] at h
  obtain ⟨d, rfl, hd⟩ := row_fit (Decidable.not_not.1 h1) h0 hn
  rw [bindL_cons] at hl
  simp only [List.length_cons, List.length_append] at hl
  have hdl : szT d = (rowT d).length := rfl
  obtain ⟨x, hx, ex⟩ := tele_fit hn r (below + 1) t (by omega) h (by
   have e : below + ((rowT d :: r).length : Int) = below + 1 + (r.length : Int) := by
    simp only [List.length_cons]; omega
   rw [← e]; exact ht) (by omega)
  have hxl : szT x = (bindL 4 r).length + szT t := by unfold szT; rw [ex, List.length_append]
  refine ⟨piTT d x, pi_fit hd hx (by omega), ?_⟩
  rw [pi_row, bindL_cons, ex]
  simp
theorem rowsE_app {b : Bk} {known self : Int} : ∀ (p q : List (List Nd)) (below : Int), rowsE b known self 1 p below = 0 → rowsE b known self 1 q (below + p.length) = 0 → rowsE b known self 1 (p ++ q) below = 0
 | [], q, below, _, h => by simpa using h
 | l :: r, q, below, h, h2 => by
  simp only [rowsE, List.cons_append] at h ⊢
  by_cases h1 : rowE b known self l below ≠ 0
  · rw [if_pos h1] at h; exact absurd h h1
  rw [if_neg h1] at h ⊢
  refine rowsE_app r q (below + 1) h ?_
  have e : below + ((l :: r).length : Int) = below + 1 + (r.length : Int) := by
   simp only [List.length_cons]; omega
  rw [← e]; exact h2
theorem rowsE_zero {b : Bk} {known self : Int} : ∀ (ls : List (List Nd)) (below : Int), rowsE b known self 0 ls below = 0 → ∀ l ∈ ls, rowE b known self l below = 0
 | [], _, _, l, h => by cases h
 | a :: r, below, h, l, hl => by
  simp only [rowsE] at h
  by_cases h1 : rowE b known self a below ≠ 0
  · rw [if_pos h1] at h; exact absurd h h1
  rw [if_neg h1, Int.add_zero] at h
  rcases List.mem_cons.1 hl with rfl | hl
  · exact Decidable.not_not.1 h1
  · exact rowsE_zero r below h l hl
theorem apps_fit {b : Bk} {free : Int} {f : TT} (hf : FitT b free f) (h6 : f.1.op ≠ 6) : ∀ (n : Nat) (args : List (List Nd)), args.length = n → (∀ a ∈ args, ∃ y, a = rowT y ∧ FitT b free y) → szT f + (args.flatten.length + args.length) ≤ 4096 →
 ∃ x, FitT b free x ∧ rowT x = List.replicate args.length ⟨6, 0, 0⟩ ++ (rowT f ++ args.flatten) ∧ ∀ m, szT x ≤ m → spT m (rowT x) x.1 x.2.2 = (rowT f, args)
 | 0, args, hl, _, _ => by
  obtain rfl := List.eq_nil_of_length_eq_zero hl
  exact ⟨f, hf, by simp, fun m _ => spT_stop h6⟩
 | n + 1, args, hl, ha, hs => by
  rcases List.eq_nil_or_concat args with rfl | ⟨L, a, hla⟩
  · cases hl
  rw [List.concat_eq_append] at hla
  subst hla
  obtain ⟨y, rfl, hy⟩ := ha a (by simp)
  have hl1 : (L ++ [rowT y]).length = L.length + 1 := by simp
  have hf1 : (L ++ [rowT y]).flatten.length = L.flatten.length + (rowT y).length := by simp
  rw [hl1] at hl
  rw [hl1, hf1] at hs
  obtain ⟨x, hx, ex, hsp⟩ := apps_fit hf h6 n L (by omega) (fun z hz => ha z (by simp [hz])) (by omega)
  have hxl : szT x = L.length + (szT f + L.flatten.length) := by unfold szT; rw [ex]; simp
  have hyl : szT y = (rowT y).length := rfl
  have er : rowT (appTT x y) = ⟨6, 0, 0⟩ :: (rowT x ++ rowT y) := by simp [appTT, rowT, row]
  refine ⟨appTT x y, app_fit hx hy (by omega), ?_, ?_⟩
  · rw [er, ex, List.length_append, List.length_singleton, List.replicate_succ]
    simp
  · intro m hm
    have hal := app_len x y
    cases m with
    | zero => omega
    | succ m =>
     have h := spT_app (m := m) (t := rowT (appTT x y)) (n := ⟨6, 0, 0⟩) (n1 := x.1) (a1 := x.2.1) (k1 := x.2.2) (n2 := y.1) (a2 := y.2.1) (k2 := y.2.2) rfl
     have h2 := hsp m (by omega)
     show spT (m + 1) (rowT (appTT x y)) ⟨6, 0, 0⟩ (.cons [] x.1 x.2.1 x.2.2 (.cons [] y.1 y.2.1 y.2.2 .nil)) = _
     rw [h]
     show ((spT m (rowT x) x.1 x.2.2).1, (spT m (rowT x) x.1 x.2.2).2 ++ [rowT y]) = _
     rw [h2]
theorem leaf_fit {b : Bk} {free : Int} {n : Nd} (h1 : okN n = true) (h2 : n.op ≠ 2) (h3 : ds n = []) (h4 : n.op = 1 → n.a < free) (h5 : nodeB b b.entries.length (-1) n = true) : FitT b free (n, [], .nil) := by
 refine ⟨⟨h1, ?_, ?_⟩, ?_, ?_, ?_⟩
 · unfold AtOk; rw [if_neg h2]
 · show Wf (ds n) .nil
   rw [h3]; trivial
 · show (rowT (n, [], .nil)).length ≤ 4096
   simp [rowT, row]
 · unfold exT
   simp only [exF, Bool.or_false]
   by_cases h : n.op = 1
   · have := h4 h
     rw [decide_eq_true h, Bool.true_and]
     exact decide_eq_false (by omega)
   rw [decide_eq_false h]; rfl
 intro m hm
 simp [rowT, row] at hm
 rw [hm]; exact h5
theorem node_up {b : Bk} {i self : Int} (_h0 : 0 ≤ i) (hi : i < b.entries.length) (hs : self = -1 ∨ self = i ∧ (entB b i).kind = 1) {m : Nd} (h : nodeB b i self m = true) : nodeB b b.entries.length (-1) m = true := by
 have hf : ∀ e : Int, famB b i e = true → famB b b.entries.length e = true := fun e he => by
  simp only [famB, Bool.and_eq_true, decide_eq_true_eq, beq_iff_eq] at he ⊢
  exact ⟨by omega, he.2⟩
 unfold nodeB at h ⊢
 by_cases c1 : m.op = 3
 · rw [if_pos c1] at h ⊢; exact h
 rw [if_neg c1] at h ⊢
 by_cases c2 : m.op = 8
 · rw [if_pos c2] at h ⊢
   simp only [Bool.and_eq_true, decide_eq_true_eq, beq_iff_eq] at h ⊢
   exact ⟨by omega, h.2⟩
 rw [if_neg c2] at h ⊢
 by_cases c3 : m.op = 9
 · rw [if_pos c3] at h ⊢
   simp only [Bool.or_eq_true, beq_iff_eq] at h ⊢
   rcases h with h | h
   · rcases hs with hs | ⟨hs, hk⟩
     · exact .inl (by omega)
     refine .inr ?_
     rw [h, hs]
     simp only [famB, Bool.and_eq_true, decide_eq_true_eq, beq_iff_eq]
     exact ⟨hi, hk⟩
   exact .inr (hf _ h)
 rw [if_neg c3] at h ⊢
 by_cases c4 : m.op = 11
 · rw [if_pos c4] at h ⊢; exact hf _ h
 rw [if_neg c4] at h ⊢
 by_cases c5 : m.op = 10
 · rw [if_pos c5] at h ⊢
   rw [Bool.and_eq_true] at h ⊢
   exact ⟨hf _ h.1, h.2⟩
 rw [if_neg c5]
structure FamS (b : Bk) (e : Int) : Prop where
 right : rightE b = 0
 lo : 0 ≤ e
 hi : e < b.entries.length
 few : (entB b e).params.length ≤ 16
 kind : (entB b e).kind = 1
 sort : rowE b e (-1) (entB b e).sort 0 = 0
 params : rowsE b e (-1) 1 (entB b e).params 0 = 0
 indices : rowsE b e (-1) 1 (entB b e).indices (entB b e).params.length = 0
 ctors : ∀ c ∈ (entB b e).ctors, c.args.length ≤ 16 ∧ c.outs.length = (entB b e).indices.length ∧ rowsE b e e 1 c.args (entB b e).params.length = 0 ∧ rowsE b e e 0 c.outs ((entB b e).params.length + c.args.length) = 0
theorem ctors_all {b : Bk} {known : Int} {x : En} : ∀ cs : List Ct, ctorsE b known x cs = 0 → ∀ c ∈ cs, c.args.length ≤ 16 ∧ c.outs.length = x.indices.length ∧ rowsE b known known 1 c.args x.params.length = 0 ∧ rowsE b known known 0 c.outs ((x.params.length : Int) + c.args.length) = 0
 | [], _, c, h => by cases h
 | c :: r, h, y, hy => by
  simp only [ctorsE] at h
  by_cases h1 : 16 < c.args.length
  · rw [if_pos h1] at h; cases h
  rw [if_neg h1] at h
  by_cases h2 : c.outs.length ≠ x.indices.length
  · rw [if_pos h2] at h; cases h
  rw [if_neg h2] at h
  by_cases h3 : rowsE b known known 1 c.args x.params.length ≠ 0
  · rw [if_pos h3] at h; exact absurd h h3
  rw [if_neg h3] at h
  by_cases h4 : rowsE b known known 0 c.outs ((x.params.length : Int) + c.args.length) ≠ 0
  · rw [if_pos h4] at h; exact absurd h h4
  rw [if_neg h4] at h
  rcases List.mem_cons.1 hy with rfl | hy
  · exact ⟨by omega, Decidable.not_not.1 h2, Decidable.not_not.1 h3, Decidable.not_not.1 h4⟩
  · exact ctors_all r h y hy
theorem fam_S {b : Bk} {e : Int} (h : famE b e = 0) : FamS b e := by
 obtain ⟨hr, h0, h1, hk, _⟩ := fam_zero h
 have hi : e.toNat < b.entries.length := by omega
 have hx : b.entries[e.toNat]? = some (entB b e) := by
  unfold entB
  rw [List.getD_eq_getElem?_getD, List.getElem?_eq_getElem hi]; rfl
 have hE := entries_at b.entries 0 (right_entE hr) e.toNat _ hx
 rw [show (((0 + e.toNat : Nat) : Int)) = e from by omega] at hE
 unfold entryE at hE
 rw [if_pos hk] at hE
 by_cases c1 : 0 < (entB b e).type.length + (entB b e).body.length
 · rw [if_pos c1] at hE; cases hE
 rw [if_neg c1] at hE
 by_cases c2 : 16 < (entB b e).params.length ∨ 16 < (entB b e).indices.length ∨ 16 < (entB b e).ctors.length
 · rw [if_pos c2] at hE; cases hE
 rw [if_neg c2] at hE
 exact ⟨hr, h0, h1, by omega, hk, firstE_zero _ hE _ (by simp), firstE_zero _ hE _ (by simp), firstE_zero _ hE _ (by simp), ctors_all _ (firstE_zero _ hE (ctorsE b e (entB b e) (entB b e).ctors) (by simp))⟩
theorem scope_ind {b : Bk} {e : Int} (h : famE b e = 0) : (binT b e).2 = 9 ∨ ((binT b e).2 = 0 ∧ fitsE b 0 (binT b e).1 = 0) := by
 have hS := fam_S h
 have hT := fam_T h
 have hup : ∀ m, nodeB b e (-1) m = true → nodeB b b.entries.length (-1) m = true := fun m hm => node_up hS.lo hS.hi (.inl rfl) hm
 rw [← ind_same]
 unfold rinT
 rw [if_neg (by rw [h]; simp)]
 have hb : firstBad ((entB b e).params ++ (entB b e).indices) = 0 := by rw [firstBad_app, if_pos hT.params, hT.indices]
 rw [bindR_ok hb hT.sort]
 by_cases hbig : 4096 < (bindL 4 ((entB b e).params ++ (entB b e).indices)).length + (entB b e).sort.length
 · rw [if_pos hbig]; exact .inl rfl
 rw [if_neg hbig]
 refine .inr ⟨rfl, ?_⟩
 obtain ⟨t, et, ht⟩ := row_fit hS.sort (Int.le_refl 0) hup
 have htl : szT t = (entB b e).sort.length := by unfold szT; rw [← et]
 obtain ⟨x, hx, ex⟩ := tele_fit hup ((entB b e).params ++ (entB b e).indices) 0 t (Int.le_refl 0) (rowsE_app _ _ _ hS.params (by rw [Int.zero_add]; exact hS.indices)) (ht.mono (by omega)) (by omega)
 show fitsE b 0 (bindL 4 ((entB b e).params ++ (entB b e).indices) ++ (entB b e).sort) = 0
 rw [et, ← ex]
 exact hx.fits hS.right (Int.le_refl 0)
structure CtorS (b : Bk) (e : Int) (c : Ct) (u : List Nd) : Prop where
 fits : fitsE b 0 u = 0
 row : ∃ s, u = bindL 4 ((entB b e).params ++ c.args) ++ s ∧ firstBad ((entB b e).params ++ c.args) = 0 ∧ shapeI s = 0 ∧ u.length ≤ 4096 ∧ ∃ L, spineR s = ([⟨9, e, 0⟩], L) ∧ L.length = (entB b e).params.length + (entB b e).indices.length
theorem scope_ctor {b : Bk} {e k : Int} (h : famE b e = 0) (h0 : 0 ≤ k) (h1 : k < (entB b e).ctors.length) : (bctT b e k).2 = 9 ∨ ((bctT b e k).2 = 0 ∧ CtorS b e ((entB b e).ctors.getD k.toNat default) (bctT b e k).1) := by
 have hS := fam_S h
 have hT := fam_T h
 have hkl : k.toNat < (entB b e).ctors.length := by omega
 have hm : (entB b e).ctors.getD k.toNat default ∈ (entB b e).ctors := by
  rw [List.getD_eq_getElem?_getD, List.getElem?_eq_getElem hkl]
  exact List.getElem_mem hkl
 obtain ⟨c1, c2⟩ := hT.ctors _ hm
 obtain ⟨d1, d2, d3, d4⟩ := hS.ctors _ hm
 have hup : ∀ m, nodeB b e (-1) m = true → nodeB b b.entries.length (-1) m = true := fun m hm => node_up hS.lo hS.hi (.inl rfl) hm
 have hup2 : ∀ m, nodeB b e e m = true → nodeB b b.entries.length (-1) m = true := fun m hm => node_up hS.lo hS.hi (.inr ⟨rfl, hS.kind⟩) hm
 have h64 := right_64 hS.right
 have h16 := hS.few
 have hi := hS.hi
 have hlo := hS.lo
 rw [← ctor_same]
 unfold rctT
 rw [if_neg (by rw [h]; simp), if_neg (by omega)]
 generalize (entB b e).ctors.getD k.toNat default = c at *
 have hv : firstBad (varsL (entB b e).params.length c.args.length ++ c.outs) = 0 := by
  rw [firstBad_app, if_pos (firstBad_vars _ _ (by omega)), c2]
 have hok9 : okN ⟨9, e, 0⟩ = true := by unfold okN; rw [plainB_iff.2 (.inr (.inr (.inr (.inr (.inl ⟨.inr rfl, hlo, by show e < 64; omega, rfl⟩)))))]; rfl
 have hfI : FitT b ((entB b e).params.length + c.args.length) (⟨9, e, 0⟩, [], .nil) := leaf_fit hok9 (by show (9 : Int) ≠ 2; decide) rfl (fun h => by cases h) (by
  unfold nodeB famB
  rw [if_neg (by simp), if_neg (by simp), if_pos rfl, decide_eq_true hi]
  simp only [hS.kind]
  simp)
 have hs9 : shapeI [(⟨9, e, 0⟩ : Nd)] = 0 := hfI.rt.shape
 rw [applyR_ok hs9 hv]
 by_cases hbig : 4096 < [(⟨9, e, 0⟩ : Nd)].length + ((varsL (entB b e).params.length c.args.length ++ c.outs).flatten.length + (varsL (entB b e).params.length c.args.length ++ c.outs).length)
 · rw [if_pos hbig]; exact .inl rfl
 rw [if_neg hbig, thenQ_ok]
 have hargs : ∀ a ∈ varsL (entB b e).params.length c.args.length ++ c.outs, ∃ y, a = rowT y ∧ FitT b ((entB b e).params.length + c.args.length) y := by
  intro a ha
  rcases List.mem_append.1 ha with ha | ha
  · obtain ⟨j, hj, rfl⟩ := List.mem_map.1 ha
    have hj := List.mem_range.1 hj
    refine ⟨(⟨1, ((c.args.length + ((entB b e).params.length - 1 - j) : Nat) : Int), 0⟩, [], .nil), by simp [rowT, row], leaf_fit ?_ (by simp) rfl (fun _ => by simp only; omega) (nodeB_var rfl)⟩
    unfold okN
    rw [plainB_iff.2 (.inl ⟨rfl, by simp only; omega, by simp only; omega, rfl⟩)]; rfl
  obtain ⟨y, ey, hy⟩ := row_fit (rowsE_zero _ _ d4 a ha) (by omega) hup2
  exact ⟨y, ey, hy⟩
 have hsz9 : szT (⟨9, e, 0⟩, [], .nil) = 1 := by simp [szT, rowT, row]
 obtain ⟨x, hx, ex, hsp⟩ := apps_fit hfI (by simp) _ _ rfl hargs (by rw [hsz9]; simp only [List.length_singleton] at hbig; omega)
 have hr9 : rowT (⟨9, e, 0⟩, [], .nil) = [(⟨9, e, 0⟩ : Nd)] := by simp [rowT, row]
 rw [hr9] at ex hsp
 rw [← ex]
 have hpb : firstBad ((entB b e).params ++ c.args) = 0 := by rw [firstBad_app, if_pos hT.params, c1]
 rw [bindR_ok hpb hx.rt.shape]
 by_cases hbig2 : 4096 < (bindL 4 ((entB b e).params ++ c.args)).length + (rowT x).length
 · rw [if_pos hbig2]; exact .inl rfl
 rw [if_neg hbig2]
 have hxl : szT x = (rowT x).length := rfl
 rw [bindL_app, List.length_append] at hbig2
 obtain ⟨x1, hx1, ex1⟩ := tele_fit hup2 c.args ((entB b e).params.length : Int) x (by omega) d3 hx (by omega)
 have hx1l : szT x1 = (bindL 4 c.args).length + szT x := by unfold szT; rw [ex1, List.length_append]
 obtain ⟨x2, hx2, ex2⟩ := tele_fit hup (entB b e).params 0 x1 (Int.le_refl 0) hS.params (by rw [Int.zero_add]; exact hx1) (by omega)
 have e2 : bindL 4 ((entB b e).params ++ c.args) ++ rowT x = rowT x2 := by rw [ex2, ex1, bindL_app, List.append_assoc]
 refine .inr ⟨rfl, ?_, rowT x, rfl, hpb, hx.rt.shape, ?_, varsL (entB b e).params.length c.args.length ++ c.outs, ?_, ?_⟩
 · show fitsE b 0 (bindL 4 ((entB b e).params ++ c.args) ++ rowT x) = 0
   rw [e2]
   exact hx2.fits hS.right (Int.le_refl 0)
 · show (bindL 4 ((entB b e).params ++ c.args) ++ rowT x).length ≤ 4096
   rw [e2]; exact hx2.few
 · unfold spineR
   rw [if_pos hx.rt.shape, rt_top hx.rt]
   exact hsp _ (Nat.le_refl _)
 rw [List.length_append]
 simp [varsL, d2]
theorem kids_tele {d : List Nd} {r : List (List Nd)} {s : List Nd} (hb : firstBad (d :: r) = 0) (hs : shapeI s = 0) (hl : (bindL 4 (d :: r) ++ s).length ≤ 4096) : rowsL (topOf (bindL 4 (d :: r) ++ s)).2 = [d, bindL 4 r ++ s] := by
 obtain ⟨h1, h2⟩ := firstBad_cons hb
 rw [bindL_cons] at hl
 simp only [List.cons_append, List.append_assoc, List.length_cons, List.length_append] at hl
 have h3 := shape_bind r h2 hs (by omega)
 obtain ⟨n1, a1, k1, hr1⟩ := rt_of h1
 obtain ⟨n2, a2, k2, hr2⟩ := rt_of h3
 have e1 : d = rowT (n1, a1, k1) := hr1.eq
 have e2 : bindL 4 r ++ s = rowT (n2, a2, k2) := hr2.eq
 obtain ⟨o1, t1, w1⟩ := hr1.wf
 obtain ⟨o2, t2, w2⟩ := hr2.wf
 have hk := rt_make (n := ⟨4, 0, 0⟩) (a := []) (k := .cons [] n1 a1 k1 (.cons [] n2 a2 k2 .nil)) (by decide) (by unfold AtOk; rw [if_neg (by decide)])
  (show Wf (ds ⟨4, 0, 0⟩) _ from ⟨rfl, o1, t1, w1, rfl, o2, t2, w2, trivial⟩) (by
   have h5 : (rowT (n1, a1, k1)).length = d.length := by rw [← e1]
   have h6 : (rowT (n2, a2, k2)).length = (bindL 4 r ++ s).length := by rw [← e2]
   rw [List.length_append] at h6
   have h7 : (⟨4, 0, 0⟩ :: ([] ++ row (.cons [] n1 a1 k1 (.cons [] n2 a2 k2 .nil)))).length = 1 + ((rowT (n1, a1, k1)).length + (rowT (n2, a2, k2)).length) := by
    simp only [row, rowT, List.nil_append, List.length_cons, List.length_append, List.append_nil]
    omega
   rw [h7]; omega)
 have er : bindL 4 (d :: r) ++ s = (⟨4, 0, 0⟩ : Nd) :: ([] ++ row (.cons [] n1 a1 k1 (.cons [] n2 a2 k2 .nil))) := by
  rw [bindL_cons, List.cons_append, List.append_assoc, e2, e1]
  simp [row, rowT]
 rw [er, rt_top hk, e2, e1]
 simp [rowsL, row, rowT]
def preB (b : Bk) (m : Nat) : Bk := ⟨b.vars, b.orders, b.entries.take m, -1, []⟩
theorem pre_ent {b : Bk} {m : Nat} {e : Int} (h0 : 0 ≤ e) (h1 : e < m) : entB (preB b m) e = entB b e := by
 unfold entB preB
 simp only [List.getD_eq_getElem?_getD, List.getElem?_take]
 rw [if_pos (by omega)]
theorem node_pre {b : Bk} {m : Nat} {known self : Int} (hk : known ≤ m) {x : Nd} (hp : plainB x.op x.a x.b = true) (h : nodeB b known self x = true) : nodeB (preB b m) known self x = true := by
 have ha := (plainB_a hp).1
 have hf : famB b known x.a = true → famB (preB b m) known x.a = true := fun he => by
  simp only [famB, Bool.and_eq_true, decide_eq_true_eq, beq_iff_eq] at he ⊢
  rw [pre_ent ha (by omega)]; exact he
 unfold nodeB at h ⊢
 by_cases c1 : x.op = 3
 · rw [if_pos c1] at h ⊢; exact h
 rw [if_neg c1] at h ⊢
 by_cases c2 : x.op = 8
 · rw [if_pos c2] at h ⊢
   simp only [Bool.and_eq_true, decide_eq_true_eq, beq_iff_eq] at h ⊢
   rw [pre_ent ha (by omega)]; exact h
 rw [if_neg c2] at h ⊢
 by_cases c3 : x.op = 9
 · rw [if_pos c3] at h ⊢
   simp only [Bool.or_eq_true] at h ⊢
   rcases h with h | h
   · exact .inl h
   exact .inr (hf h)
 rw [if_neg c3] at h ⊢
 by_cases c4 : x.op = 11
 · rw [if_pos c4] at h ⊢; exact hf h
 rw [if_neg c4] at h ⊢
 by_cases c5 : x.op = 10
 · rw [if_pos c5] at h ⊢
   rw [Bool.and_eq_true] at h ⊢
   have hlt : x.a < known := by
    have := h.1
    simp only [famB, Bool.and_eq_true, decide_eq_true_eq] at this
    exact this.1
   rw [pre_ent ha (by omega)]
   exact ⟨hf h.1, h.2⟩
 rw [if_neg c5]
theorem rowE_pre {b : Bk} {m : Nat} {known self below : Int} {l : List Nd} (hk : known ≤ m) (h : rowE b known self l below = 0) : rowE (preB b m) known self l below = 0 := by
 obtain ⟨h1, h2, h3⟩ := row_nodes h
 exact rowE_ok h1 h2 fun x hx => node_pre hk (shape_plain h1 x hx) (h3 x hx)
theorem rowsE_pre {b : Bk} {m : Nat} {known self step : Int} (hk : known ≤ m) : ∀ (ls : List (List Nd)) (below : Int), rowsE b known self step ls below = 0 → rowsE (preB b m) known self step ls below = 0
 | [], _, _ => rfl
 | l :: r, below, h => by
  simp only [rowsE] at h ⊢
  by_cases h1 : rowE b known self l below ≠ 0
  · rw [if_pos h1] at h; exact absurd h h1
  rw [if_neg h1] at h
  rw [if_neg (by rw [rowE_pre hk (Decidable.not_not.1 h1)]; simp)]
  exact rowsE_pre hk r _ h
theorem ctorsE_pre {b : Bk} {m : Nat} {known : Int} {x : En} (hk : known ≤ m) : ∀ cs : List Ct, ctorsE b known x cs = 0 → ctorsE (preB b m) known x cs = 0
 | [], _ => rfl
 | c :: r, h => by
  simp only [ctorsE] at h ⊢
  by_cases h1 : 16 < c.args.length
  · rw [if_pos h1] at h; cases h
  rw [if_neg h1] at h ⊢
  by_cases h2 : c.outs.length ≠ x.indices.length
  · rw [if_pos h2] at h; cases h
  rw [if_neg h2] at h ⊢
  by_cases h3 : rowsE b known known 1 c.args x.params.length ≠ 0
  · rw [if_pos h3] at h; exact absurd h h3
  rw [if_neg h3] at h
  rw [if_neg (by rw [rowsE_pre hk _ _ (Decidable.not_not.1 h3)]; simp)]
  by_cases h4 : rowsE b known known 0 c.outs ((x.params.length : Int) + c.args.length) ≠ 0
  · rw [if_pos h4] at h; exact absurd h h4
  rw [if_neg h4] at h
  rw [if_neg (by rw [rowsE_pre hk _ _ (Decidable.not_not.1 h4)]; simp)]
  exact ctorsE_pre hk r h
theorem entryE_pre {b : Bk} {m : Nat} {known : Int} {x : En} (hk : known ≤ m) (h : entryE b known x = 0) : entryE (preB b m) known x = 0 := by
 unfold entryE at h ⊢
 by_cases k1 : x.kind = 1
 · rw [if_pos k1] at h ⊢
   by_cases h1 : 0 < x.type.length + x.body.length
   · rw [if_pos h1] at h; cases h
   rw [if_neg h1] at h ⊢
   by_cases h2 : 16 < x.params.length ∨ 16 < x.indices.length ∨ 16 < x.ctors.length
   · rw [if_pos h2] at h; cases h
   rw [if_neg h2] at h ⊢
   have e1 := firstE_zero _ h (rowE b known (-1) x.sort 0) (by simp)
   have e2 := firstE_zero _ h (sortE x.sort) (by simp)
   have e3 := firstE_zero _ h (rowsE b known (-1) 1 x.params 0) (by simp)
   have e4 := firstE_zero _ h (rowsE b known (-1) 1 x.indices x.params.length) (by simp)
   have e5 := firstE_zero _ h (ctorsE b known x x.ctors) (by simp)
   rw [rowE_pre hk e1, e2, rowsE_pre hk _ _ e3, rowsE_pre hk _ _ e4, ctorsE_pre hk _ e5]
   rfl
 rw [if_neg k1] at h ⊢
 by_cases k2 : x.kind = 2
 · rw [if_pos k2] at h ⊢
   by_cases h1 : 0 < x.sort.length + x.params.length + x.indices.length + x.ctors.length
   · rw [if_pos h1] at h; cases h
   rw [if_neg h1] at h ⊢
   exact rowsE_pre hk _ _ h
 rw [if_neg k2] at h; cases h
theorem entriesE_pre {b : Bk} {m : Nat} : ∀ (es : List En) (i k : Nat), i + k ≤ m + 1 → entriesE b i es = 0 → entriesE (preB b m) i (es.take k) = 0
 | [], i, k, _, _ => by simp [entriesE]
 | x :: r, i, 0, _, _ => rfl
 | x :: r, i, k + 1, hk, h => by
  simp only [entriesE, List.take_succ_cons] at h ⊢
  by_cases h1 : entryE b i x ≠ 0
  · rw [if_pos h1] at h; exact absurd h h1
  rw [if_neg h1] at h
  rw [if_neg (by rw [entryE_pre (by omega) (Decidable.not_not.1 h1)]; simp)]
  exact entriesE_pre r (i + 1) k (by omega) h
theorem scope_pre {b : Bk} (h : rightE b = 0) (m : Nat) : rightE (preB b m) = 0 := by
 have h2 := right_entE h
 have h3 := right_64 h
 have h1 : (clR b.vars b.orders).1 = 0 := by
  unfold rightE at h
  by_cases c1 : (clR b.vars b.orders).1 ≠ 0
  · rw [if_pos c1] at h; exact absurd h c1
  exact Decidable.not_not.1 c1
 have h4 : entriesE (preB b m) 0 (b.entries.take m) = 0 := entriesE_pre b.entries 0 m (by omega) h2
 unfold rightE
 have e1 : (preB b m).vars = b.vars := rfl
 have e2 : (preB b m).orders = b.orders := rfl
 have e3 : (preB b m).entries = b.entries.take m := rfl
 rw [e1, e2, e3, h1, if_neg (by simp), if_neg (by rw [List.length_take]; omega), h4, if_neg (by simp)]
 rfl
end Go.Proofs.Ytplecfbdchmogaa
