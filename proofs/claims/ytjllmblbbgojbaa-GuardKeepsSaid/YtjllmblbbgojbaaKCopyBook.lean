/- CopyBook of the reference. -/
import Derived.Test.YtjllmblbbgojbaaKShort2
import Derived.Test.YtjllmblbbgojbaaKCopyC
import Derived.Deep.DeepCutAuto
namespace Go.Proofs.Ytjllmblbbgojbaa
open Go.Lib (hid)
open Go.RowKit
structure SmallB (b : Bk) : Prop where
 entries : b.entries.length ≤ 1000000
 rows : ∀ x ∈ b.entries, x.params.length ≤ 1000000 ∧ x.indices.length ≤ 1000000 ∧ x.ctors.length ≤ 1000000 ∧ ∀ c ∈ x.ctors, c.args.length ≤ 1000000 ∧ c.outs.length ≤ 1000000
theorem cells_flat {w : World} {A : Option Addr} {n c : Nat} {l : List Nd} (h : TermV w A n c l) : ∀ ad, A = some ad → ∀ j u, (flat l)[j]? = some u → w.cell? (ad.add j) = some u := fun ad hA => TermR.flat_cells h ad hA
def prV : List (Int × Int) → List Value
 | [] => []
 | p :: r => .int .i64 p.1 :: .int .i64 p.2 :: prV r
theorem prV_len : ∀ ps : List (Int × Int), (prV ps).length = ps.length * 2
 | [] => rfl
 | p :: r => by simp only [prV, List.length_cons, prV_len r]; omega
theorem prV_at : ∀ (ps : List (Int × Int)) (k : Nat), k < ps.length → (prV ps)[k * 2]? = some (.int .i64 (ps.getD k (0, 0)).1) ∧ (prV ps)[k * 2 + 1]? = some (.int .i64 (ps.getD k (0, 0)).2)
 | [], k, h => absurd h (by simp)
 | p :: r, 0, _ => ⟨by simp [prV], by simp [prV]⟩
 | p :: r, k + 1, h => by
  obtain ⟨h1, h2⟩ := prV_at r k (by simpa using h)
  rw [show (k + 1) * 2 = k * 2 + 1 + 1 from by omega]
  exact ⟨by simpa [prV] using h1, by simpa [prV] using h2⟩
theorem prV_one : ∀ ps : List (Int × Int), ∀ u ∈ prV ps, u.oneCell' = true
 | [], u, h => by cases h
 | p :: r, u, h => by
  simp only [prV, List.mem_cons] at h
  rcases h with rfl | rfl | h
  · rfl
  · rfl
  · exact prV_one r u h
theorem prV_in : ∀ (ps : List (Int × Int)) (j : Nat) (u : Value), (prV ps)[j]? = some u → ∃ k, k < ps.length ∧ ((j = k * 2 ∧ u = .int .i64 (ps.getD k (0, 0)).1) ∨ (j = k * 2 + 1 ∧ u = .int .i64 (ps.getD k (0, 0)).2))
 | [], j, u, h => by simp [prV] at h
 | p :: r, 0, u, h => by
  simp only [prV, List.getElem?_cons_zero, Option.some.injEq] at h
  exact ⟨0, by simp, .inl ⟨rfl, h.symm⟩⟩
 | p :: r, 1, u, h => by
  simp only [prV, List.getElem?_cons_succ, List.getElem?_cons_zero, Option.some.injEq] at h
  exact ⟨0, by simp, .inr ⟨rfl, h.symm⟩⟩
 | p :: r, j + 2, u, h => by
  simp only [prV, List.getElem?_cons_succ] at h
  obtain ⟨k, hk, hh⟩ := prV_in r j u h
  refine ⟨k + 1, by simpa using hk, ?_⟩
  rcases hh with ⟨e, hu⟩ | ⟨e, hu⟩
  · exact .inl ⟨by omega, by simpa using hu⟩
  · exact .inr ⟨by omega, by simpa using hu⟩
theorem cells_prV {w : World} {A : Option Addr} {n c : Nat} {ps : List (Int × Int)} (h : PrsV w A n c ps) : ∀ ad, A = some ad → ∀ j u, (prV ps)[j]? = some u → w.cell? (ad.add j) = some u := by
 intro ad hA j u hu
 obtain ⟨k, hk, hh⟩ := prV_in ps j u hu
 obtain ⟨b, off, e, _, hm⟩ := h.mem (by rw [← h.len]; omega)
 rw [hA] at e
 injection e with e
 subst e
 obtain ⟨m1, m2⟩ := hm k (by rw [← h.len]; exact hk)
 have ea : ∀ j, (⟨b, off, none⟩ : Addr).add j = ⟨b, off + j, none⟩ := fun j => by unfold Addr.add; split <;> simp_all
 rw [ea]
 rcases hh with ⟨rfl, rfl⟩ | ⟨rfl, rfl⟩
 · exact m1
 exact m2
set_option linter.unusedSimpArgs false in
set_option linter.unusedVariables false in
set_option maxRecDepth 100000 in
set_option maxHeartbeats 8000000 in
theorem copyBook_any {w : World} {v : BkVal} {b : Bk} (hb : BookV w v b) (hs : SmallB b) (hcp : v.Ap = none → v.cp = 0) :
 Calls Try.prog 9 #[.agg #[.int .i64 b.vars, .slice v.Ao v.no v.co, .slice v.Ae v.ne v.ce, .int .i64 b.nat, .slice v.Ap v.np v.cp]] w (fun e w' => Below w.heap.size w w' ∧ ∃ u : BkVal, e = .returned (.agg #[.int .i64 b.vars, .slice u.Ao u.no u.co, .slice u.Ae u.ne u.ce, .int .i64 b.nat, .slice u.Ap u.np u.cp]) ∧ BookV w' u b) := by
 obtain ⟨i1, h1a, h1b, h1c, h1d⟩ := info_parts infoO
 obtain ⟨i2, h2a, h2b, h2c, h2d⟩ := info_parts infoP
 obtain ⟨i3, h3a, h3b, h3c, h3d⟩ := info_parts infoE5
 obtain ⟨i4, h4a, h4b, h4c, h4d⟩ := info_parts infoC5
 have HI3a := hid h3a
 have HI3b := hid h3b
 have HI3c := hid h3c
 have HI3d := hid h3d
 have HI4a := hid h4a
 have HI4b := hid h4b
 have HI4c := hid h4c
 have HI4d := hid h4d
 have HB0 := hid hb
 have HEL := hid hb.entries.len
 have hne6 : v.ne ≤ 1000000 := by have h1 := hs.entries; have h2 := hb.entries.len; omega
 have HI1a := hid h1a
 have HI1b := hid h1b
 have HI1c := hid h1c
 have HI1d := hid h1d
 have HI2a := hid h2a
 have HI2b := hid h2b
 have HI2c := hid h2c
 have HI2d := hid h2d
 have HBV := hid (fun (w' : World) (h : Below w.heap.size w w') => hb.below h)
 have HTO := hid (fun (w' : World) (h : Below w.heap.size w w') => (hb.orders.below h))
 have HOL := hid hb.orders.len
 have hof := hb.orders.few
 have hpf := hb.prims.few
 have HON : Hid (v.Ao = none → v.no = 0 ∧ v.co = 0) := hid fun e => by have := hb.orders.nul e; have := hb.orders.cap; omega
 have HPN : Hid (v.Ap = none → v.np = 0 ∧ v.cp = 0) := hid fun e => by
  refine ⟨?_, hcp e⟩
  rcases Nat.eq_zero_or_pos v.np with h | h
  · exact h
  obtain ⟨_, _, e2, _⟩ := hb.prims.mem h
  rw [e] at e2
  cases e2
 have HPL : Hid ((prV b.prims).length = v.np * 2) := hid (by rw [prV_len, hb.prims.len])
 have HPO := hid (prV_one b.prims)
 have HPC := hid (fun (w' : World) (h : Below w.heap.size w w') => cells_prV (hb.prims.below h))
 have HSM := hid hs
 obtain ⟨os, hos⟩ : ∃ o, o = b.orders := ⟨_, rfl⟩
 obtain ⟨pv, hpv⟩ : ∃ o, o = prV b.prims := ⟨_, rfl⟩
 rw [← hos] at HTO HOL
 rw [← hpv] at HPL HPO HPC
 obtain ⟨es, hes⟩ : ∃ o, o = b.entries := ⟨_, rfl⟩
 have HES := hid hes
 rw [← hes] at HEL
 have HPV := hid hpv
 have HOS := hid hos
 obtain ⟨bv, hbv⟩ : ∃ o, o = b.vars := ⟨_, rfl⟩
 obtain ⟨bn, hbn⟩ : ∃ o, o = b.nat := ⟨_, rfl⟩
 have HBVR := hid hbv
 have HBN := hid hbn
 rw [← hbv, ← hbn]
 obtain ⟨Ao, no, co, Ae, ne, ce, Ap, np, cp⟩ := v
 simp only at HBV HB0 HTO HOL HEL hof hpf hne6 HON HPN HPL HPC ⊢
 clear h1a h1b h1c h1d h2a h2b h2c h2d h3a h3b h3c h3d h4a h4b h4c h4d hb hs hos hpv hbv hbn hes
 have HI0 : Hid (CB1 w #[.int .i64 bv, .slice Ao no co, .slice Ae ne ce, .int .i64 bn, .slice Ap np cp] os np pv 0 0 0 undef undef 0 ((w.alloc (.cells #[.int .i64 bv, .slice Ao no co, .slice Ae ne ce, .int .i64 bn, .slice Ap np cp] 26)).alloc (.cells ZBK 26))) := hid (by
  refine ⟨(below_alloc w _).alloc (by simp) _, (Blk.new w _ _).alloc _, Blk.new' (by simp), fun e => (by cases e), fun e => (by cases e), fun e => (by cases e), fun e => (by cases e), by omega, by omega, fun e => (by cases e), fun h => absurd h (by omega), fun h => absurd h (by omega), fun h => absurd h (by omega)⟩)
 go_in
 go_upto_region 1 with fail
 generalize hg : ((w.alloc (.cells #[.int .i64 bv, .slice Ao no co, .slice Ae ne ce, .int .i64 bn, .slice Ap np cp] 26)).alloc (.cells ZBK 26)) = W0 at *
 clear hg
 go_cut [3] (fun tv wx => ∃ gA A1 c1 A2 c2, tv = .pointer (some ⟨gA, 0, none⟩) ∧ Hid (CB2 w #[.int .i64 bv, .slice Ao no co, .slice Ae ne ce, .int .i64 bn, .slice Ap np cp] os np pv (.int .i64 bv) (.int .i64 bn) A1 A2 c1 c2 gA wx))
 case first =>
  refine wp_region_held_drew (S := (fun w' => ∀ i, w'.cell? ⟨w.heap.size, i, none⟩ = (#[.int .i64 bv, .slice Ao no co, .slice Ae ne ce, .int .i64 bn, .slice Ap np cp] : Array Value)[i]?)) (by kernel_rfl) ?_ (fun hHeld => ?_)
  · (try dsimp only); exact HI0.out.box.cell
  have HI1 : Hid (CB1 w #[.int .i64 bv, .slice Ao no co, .slice Ae ne ce, .int .i64 bn, .slice Ap np cp] os np pv 0 0 0 undef undef 0 W0.drew) := hid (CB1.drew HI0.out)
  clear HI0
  generalize W0.drew = W1 at *
  refine tq 0 hHeld ?_
  try simp only [p7]
  refine tq 1 hHeld ?_
  try simp only [p7]
  refine tq 2 hHeld ?_
  try simp only [p7]
  refine tq 3 hHeld ?_
  try simp only [p7]
  refine tq 5 hHeld ?_
  try simp only [p7]
  refine tq 6 hHeld ?_
  try simp only [p7]
  refine tq 9 hHeld ?_
  try simp only [p7]
  refine tq 10 hHeld ?_
  try simp only [p7]
  refine wpAnyH_ready (rs := [4, 8, 13]) (by kernel_rfl) (by simp) ?_
  refine AllReadyH.cons rfl (fun K hK => ?_) (AllReadyH.cons rfl (fun K hK => ?_) (AllReadyH.cons rfl (fun K hK => ?_) AllReadyH.nil))
  · go_simp
    refine hK.out _ _ (by exact (HI1.out.b1).box.cell) fun hHeld => ?_
    clear hK K
    have HI2 := hid (HI1.out.b1)
    clear HI1
    generalize hg : (W1.alloc (.cells #[] 67)) = W2 at *
    clear hg
    try simp only [p7]
    refine wpAnyH_ready (rs := [7, 8, 13]) (by kernel_rfl) (by simp) ?_
    refine AllReadyH.cons rfl (fun K hK => ?_) (AllReadyH.cons rfl (fun K hK => ?_) (AllReadyH.cons rfl (fun K hK => ?_) AllReadyH.nil))
    · refine step_oper rfl (oper_append_mine (.tmp 12) (.tmp 14) 22 rfl (w.heap.size + 2) 67 i1 _ 3 24 Try.underlying22 HI1a.out HI1b.out HI1c.out HI1d.out rfl (by decide) (.slice (some ⟨W1.heap.size, 0, none⟩) 0 0) 0 [] (by rfl) (HI2.out.o1 rfl) Ao no co (flat os) (by rfl) (by rw [flat_len, HOL.out]) HON.out ?_ (flat_one os) (by unfold maxLen; omega) (by omega) HI2.out.big ?_)
      · exact cells_flat (HTO.out _ HI2.out.bel)
      intro A3 c3 W3 ha
      have HI3 := hid (CB1.q1 HI2.out (by simpa [HOL.out] using ha))
      clear ha HI2
      refine hK.out _ _ (by exact HI3.out.box.cell) fun hHeld => ?_
      clear hK K
      try simp only [p7]
      refine r2 8 13 (fun K hK => ?_) fun K hK => ?_
      rotate_left
      · go_simp
        refine hK.out _ _ (by exact (HI3.out.a).box.cell) fun hHeld => ?_
        clear hK K
        have HI9 := hid (HI3.out.a)
        clear HI3
        generalize hg : (W3.alloc (.cells ZBK 26)) = W9 at *
        clear hg
        try simp only [p7]
        refine r1 8 fun K hK => ?_
        go_simp
        refine hK.out _ _ (by exact (HI9.out.b2).box.cell) fun hHeld => ?_
        clear hK K
        have HI10 := hid (HI9.out.b2)
        clear HI9
        generalize hg : (W9.alloc (.cells #[] 54)) = W10 at *
        clear hg
        try simp only [p7]
        refine r1 11 fun K hK => ?_
        refine step_oper rfl (oper_append_mine (.tmp 16) (.tmp 18) 24 rfl (w.heap.size + 2) 54 i2 _ 2 16 Try.underlying24 HI2a.out HI2b.out HI2c.out HI2d.out rfl (by decide) (.slice (some ⟨W9.heap.size, 0, none⟩) 0 0) 0 [] (by rfl) (HI10.out.p1 rfl) Ap np cp pv (by rfl) HPL.out HPN.out ?_ HPO.out (by unfold maxLen; omega) (by omega) HI10.out.big ?_)
        · exact HPC.out _ HI10.out.bel
        intro A11 c11 W11 ha
        have HI11 := hid (CB1.q2 HI10.out (by simpa using ha))
        clear ha HI10
        refine hK.out _ _ (by exact HI11.out.box.cell) fun hHeld => ?_
        clear hK K
        try simp only [p7]
        refine tq 12 hHeld ?_
        try simp only [p7]
        refine r1 14 fun K hK => ?_
        have zA := Blk.cell (HI11.out.al rfl).1
        have zF := Blk.frozen (HI11.out.al rfl).1
        go_simp
        have hF := CB1.fin HI11.out (.int .i64 bv) (.int .i64 bn)
        rw [HOL.out] at hF
        have HF := hid hF
        clear hF
        refine hK.out _ _ (by exact HF.out.box.cell) fun hHeld => ?_
        clear hK K
        try simp only [p7]
        refine wpAnyH_done (by kernel_rfl) ?_ _
        go_wp2_with fail
        go_meet
        exact ⟨_, _, _, _, _, rfl, HF⟩
      go_simp
      refine hK.out _ _ (by exact (HI3.out.b2).box.cell) fun hHeld => ?_
      clear hK K
      have HI4 := hid (HI3.out.b2)
      clear HI3
      generalize hg : (W3.alloc (.cells #[] 54)) = W4 at *
      clear hg
      try simp only [p7]
      refine r2 11 13 (fun K hK => ?_) fun K hK => ?_
      · refine step_oper rfl (oper_append_mine (.tmp 16) (.tmp 18) 24 rfl (w.heap.size + 2) 54 i2 _ 2 16 Try.underlying24 HI2a.out HI2b.out HI2c.out HI2d.out rfl (by decide) (.slice (some ⟨W3.heap.size, 0, none⟩) 0 0) 0 [] (by rfl) (HI4.out.p1 rfl) Ap np cp pv (by rfl) HPL.out HPN.out ?_ HPO.out (by unfold maxLen; omega) (by omega) HI4.out.big ?_)
        · exact HPC.out _ HI4.out.bel
        intro A5 c5 W5 ha
        have HI5 := hid (CB1.q2 HI4.out (by simpa using ha))
        clear ha HI4
        refine hK.out _ _ (by exact HI5.out.box.cell) fun hHeld => ?_
        clear hK K
        try simp only [p7]
        refine tq 12 hHeld ?_
        try simp only [p7]
        refine r1 13 fun K hK => ?_
        go_simp
        refine hK.out _ _ (by exact (HI5.out.a).box.cell) fun hHeld => ?_
        clear hK K
        have HI6 := hid (HI5.out.a)
        clear HI5
        generalize hg : (W5.alloc (.cells ZBK 26)) = W6 at *
        clear hg
        try simp only [p7]
        refine r1 14 fun K hK => ?_
        have zA := Blk.cell (HI6.out.al rfl).1
        have zF := Blk.frozen (HI6.out.al rfl).1
        go_simp
        have hF := CB1.fin HI6.out (.int .i64 bv) (.int .i64 bn)
        rw [HOL.out] at hF
        have HF := hid hF
        clear hF
        refine hK.out _ _ (by exact HF.out.box.cell) fun hHeld => ?_
        clear hK K
        try simp only [p7]
        refine wpAnyH_done (by kernel_rfl) ?_ _
        go_wp2_with fail
        go_meet
        exact ⟨_, _, _, _, _, rfl, HF⟩
      go_simp
      refine hK.out _ _ (by exact (HI4.out.a).box.cell) fun hHeld => ?_
      clear hK K
      have HI7 := hid (HI4.out.a)
      clear HI4
      generalize hg : (W4.alloc (.cells ZBK 26)) = W7 at *
      clear hg
      try simp only [p7]
      refine r1 11 fun K hK => ?_
      refine step_oper rfl (oper_append_mine (.tmp 16) (.tmp 18) 24 rfl (w.heap.size + 2) 54 i2 _ 2 16 Try.underlying24 HI2a.out HI2b.out HI2c.out HI2d.out rfl (by decide) (.slice (some ⟨W3.heap.size, 0, none⟩) 0 0) 0 [] (by rfl) (HI7.out.p1 rfl) Ap np cp pv (by rfl) HPL.out HPN.out ?_ HPO.out (by unfold maxLen; omega) (by omega) HI7.out.big ?_)
      · exact HPC.out _ HI7.out.bel
      intro A8 c8 W8 ha
      have HI8 := hid (CB1.q2 HI7.out (by simpa using ha))
      clear ha HI7
      refine hK.out _ _ (by exact HI8.out.box.cell) fun hHeld => ?_
      clear hK K
      try simp only [p7]
      refine tq 12 hHeld ?_
      try simp only [p7]
      refine r1 14 fun K hK => ?_
      have zA := Blk.cell (HI8.out.al rfl).1
      have zF := Blk.frozen (HI8.out.al rfl).1
      go_simp
      have hF := CB1.fin HI8.out (.int .i64 bv) (.int .i64 bn)
      rw [HOL.out] at hF
      have HF := hid hF
      clear hF
      refine hK.out _ _ (by exact HF.out.box.cell) fun hHeld => ?_
      clear hK K
      try simp only [p7]
      refine wpAnyH_done (by kernel_rfl) ?_ _
      go_wp2_with fail
      go_meet
      exact ⟨_, _, _, _, _, rfl, HF⟩
    · go_simp
      refine hK.out _ _ (by exact (HI2.out.b2).box.cell) fun hHeld => ?_
      clear hK K
      have HI12 := hid (HI2.out.b2)
      clear HI2
      generalize hg : (W2.alloc (.cells #[] 54)) = W12 at *
      clear hg
      try simp only [p7]
      refine r2 7 13 (fun K hK => ?_) fun K hK => ?_
      rotate_left
      · go_simp
        refine hK.out _ _ (by exact (HI12.out.a).box.cell) fun hHeld => ?_
        clear hK K
        have HI18 := hid (HI12.out.a)
        clear HI12
        generalize hg : (W12.alloc (.cells ZBK 26)) = W18 at *
        clear hg
        try simp only [p7]
        refine r1 7 fun K hK => ?_
        refine step_oper rfl (oper_append_mine (.tmp 12) (.tmp 14) 22 rfl (w.heap.size + 2) 67 i1 _ 3 24 Try.underlying22 HI1a.out HI1b.out HI1c.out HI1d.out rfl (by decide) (.slice (some ⟨W1.heap.size, 0, none⟩) 0 0) 0 [] (by rfl) (HI18.out.o1 rfl) Ao no co (flat os) (by rfl) (by rw [flat_len, HOL.out]) HON.out ?_ (flat_one os) (by unfold maxLen; omega) (by omega) HI18.out.big ?_)
        · exact cells_flat (HTO.out _ HI18.out.bel)
        intro A19 c19 W19 ha
        have HI19 := hid (CB1.q1 HI18.out (by simpa [HOL.out] using ha))
        clear ha HI18
        refine hK.out _ _ (by exact HI19.out.box.cell) fun hHeld => ?_
        clear hK K
        try simp only [p7]
        refine r1 11 fun K hK => ?_
        refine step_oper rfl (oper_append_mine (.tmp 16) (.tmp 18) 24 rfl (w.heap.size + 2) 54 i2 _ 2 16 Try.underlying24 HI2a.out HI2b.out HI2c.out HI2d.out rfl (by decide) (.slice (some ⟨W2.heap.size, 0, none⟩) 0 0) 0 [] (by rfl) (HI19.out.p1 rfl) Ap np cp pv (by rfl) HPL.out HPN.out ?_ HPO.out (by unfold maxLen; omega) (by omega) HI19.out.big ?_)
        · exact HPC.out _ HI19.out.bel
        intro A20 c20 W20 ha
        have HI20 := hid (CB1.q2 HI19.out (by simpa using ha))
        clear ha HI19
        refine hK.out _ _ (by exact HI20.out.box.cell) fun hHeld => ?_
        clear hK K
        try simp only [p7]
        refine tq 12 hHeld ?_
        try simp only [p7]
        refine r1 14 fun K hK => ?_
        have zA := Blk.cell (HI20.out.al rfl).1
        have zF := Blk.frozen (HI20.out.al rfl).1
        go_simp
        have hF := CB1.fin HI20.out (.int .i64 bv) (.int .i64 bn)
        rw [HOL.out] at hF
        have HF := hid hF
        clear hF
        refine hK.out _ _ (by exact HF.out.box.cell) fun hHeld => ?_
        clear hK K
        try simp only [p7]
        refine wpAnyH_done (by kernel_rfl) ?_ _
        go_wp2_with fail
        go_meet
        exact ⟨_, _, _, _, _, rfl, HF⟩
      refine step_oper rfl (oper_append_mine (.tmp 12) (.tmp 14) 22 rfl (w.heap.size + 2) 67 i1 _ 3 24 Try.underlying22 HI1a.out HI1b.out HI1c.out HI1d.out rfl (by decide) (.slice (some ⟨W1.heap.size, 0, none⟩) 0 0) 0 [] (by rfl) (HI12.out.o1 rfl) Ao no co (flat os) (by rfl) (by rw [flat_len, HOL.out]) HON.out ?_ (flat_one os) (by unfold maxLen; omega) (by omega) HI12.out.big ?_)
      · exact cells_flat (HTO.out _ HI12.out.bel)
      intro A13 c13 W13 ha
      have HI13 := hid (CB1.q1 HI12.out (by simpa [HOL.out] using ha))
      clear ha HI12
      refine hK.out _ _ (by exact HI13.out.box.cell) fun hHeld => ?_
      clear hK K
      try simp only [p7]
      refine r2 11 13 (fun K hK => ?_) fun K hK => ?_
      · refine step_oper rfl (oper_append_mine (.tmp 16) (.tmp 18) 24 rfl (w.heap.size + 2) 54 i2 _ 2 16 Try.underlying24 HI2a.out HI2b.out HI2c.out HI2d.out rfl (by decide) (.slice (some ⟨W2.heap.size, 0, none⟩) 0 0) 0 [] (by rfl) (HI13.out.p1 rfl) Ap np cp pv (by rfl) HPL.out HPN.out ?_ HPO.out (by unfold maxLen; omega) (by omega) HI13.out.big ?_)
        · exact HPC.out _ HI13.out.bel
        intro A14 c14 W14 ha
        have HI14 := hid (CB1.q2 HI13.out (by simpa using ha))
        clear ha HI13
        refine hK.out _ _ (by exact HI14.out.box.cell) fun hHeld => ?_
        clear hK K
        try simp only [p7]
        refine tq 12 hHeld ?_
        try simp only [p7]
        refine r1 13 fun K hK => ?_
        go_simp
        refine hK.out _ _ (by exact (HI14.out.a).box.cell) fun hHeld => ?_
        clear hK K
        have HI15 := hid (HI14.out.a)
        clear HI14
        generalize hg : (W14.alloc (.cells ZBK 26)) = W15 at *
        clear hg
        try simp only [p7]
        refine r1 14 fun K hK => ?_
        have zA := Blk.cell (HI15.out.al rfl).1
        have zF := Blk.frozen (HI15.out.al rfl).1
        go_simp
        have hF := CB1.fin HI15.out (.int .i64 bv) (.int .i64 bn)
        rw [HOL.out] at hF
        have HF := hid hF
        clear hF
        refine hK.out _ _ (by exact HF.out.box.cell) fun hHeld => ?_
        clear hK K
        try simp only [p7]
        refine wpAnyH_done (by kernel_rfl) ?_ _
        go_wp2_with fail
        go_meet
        exact ⟨_, _, _, _, _, rfl, HF⟩
      go_simp
      refine hK.out _ _ (by exact (HI13.out.a).box.cell) fun hHeld => ?_
      clear hK K
      have HI16 := hid (HI13.out.a)
      clear HI13
      generalize hg : (W13.alloc (.cells ZBK 26)) = W16 at *
      clear hg
      try simp only [p7]
      refine r1 11 fun K hK => ?_
      refine step_oper rfl (oper_append_mine (.tmp 16) (.tmp 18) 24 rfl (w.heap.size + 2) 54 i2 _ 2 16 Try.underlying24 HI2a.out HI2b.out HI2c.out HI2d.out rfl (by decide) (.slice (some ⟨W2.heap.size, 0, none⟩) 0 0) 0 [] (by rfl) (HI16.out.p1 rfl) Ap np cp pv (by rfl) HPL.out HPN.out ?_ HPO.out (by unfold maxLen; omega) (by omega) HI16.out.big ?_)
      · exact HPC.out _ HI16.out.bel
      intro A17 c17 W17 ha
      have HI17 := hid (CB1.q2 HI16.out (by simpa using ha))
      clear ha HI16
      refine hK.out _ _ (by exact HI17.out.box.cell) fun hHeld => ?_
      clear hK K
      try simp only [p7]
      refine tq 12 hHeld ?_
      try simp only [p7]
      refine r1 14 fun K hK => ?_
      have zA := Blk.cell (HI17.out.al rfl).1
      have zF := Blk.frozen (HI17.out.al rfl).1
      go_simp
      have hF := CB1.fin HI17.out (.int .i64 bv) (.int .i64 bn)
      rw [HOL.out] at hF
      have HF := hid hF
      clear hF
      refine hK.out _ _ (by exact HF.out.box.cell) fun hHeld => ?_
      clear hK K
      try simp only [p7]
      refine wpAnyH_done (by kernel_rfl) ?_ _
      go_wp2_with fail
      go_meet
      exact ⟨_, _, _, _, _, rfl, HF⟩
    go_simp
    refine hK.out _ _ (by exact (HI2.out.a).box.cell) fun hHeld => ?_
    clear hK K
    have HI21 := hid (HI2.out.a)
    clear HI2
    generalize hg : (W2.alloc (.cells ZBK 26)) = W21 at *
    clear hg
    try simp only [p7]
    refine r2 7 8 (fun K hK => ?_) fun K hK => ?_
    · refine step_oper rfl (oper_append_mine (.tmp 12) (.tmp 14) 22 rfl (w.heap.size + 2) 67 i1 _ 3 24 Try.underlying22 HI1a.out HI1b.out HI1c.out HI1d.out rfl (by decide) (.slice (some ⟨W1.heap.size, 0, none⟩) 0 0) 0 [] (by rfl) (HI21.out.o1 rfl) Ao no co (flat os) (by rfl) (by rw [flat_len, HOL.out]) HON.out ?_ (flat_one os) (by unfold maxLen; omega) (by omega) HI21.out.big ?_)
      · exact cells_flat (HTO.out _ HI21.out.bel)
      intro A22 c22 W22 ha
      have HI22 := hid (CB1.q1 HI21.out (by simpa [HOL.out] using ha))
      clear ha HI21
      refine hK.out _ _ (by exact HI22.out.box.cell) fun hHeld => ?_
      clear hK K
      try simp only [p7]
      refine r1 8 fun K hK => ?_
      go_simp
      refine hK.out _ _ (by exact (HI22.out.b2).box.cell) fun hHeld => ?_
      clear hK K
      have HI23 := hid (HI22.out.b2)
      clear HI22
      generalize hg : (W22.alloc (.cells #[] 54)) = W23 at *
      clear hg
      try simp only [p7]
      refine r1 11 fun K hK => ?_
      refine step_oper rfl (oper_append_mine (.tmp 16) (.tmp 18) 24 rfl (w.heap.size + 2) 54 i2 _ 2 16 Try.underlying24 HI2a.out HI2b.out HI2c.out HI2d.out rfl (by decide) (.slice (some ⟨W22.heap.size, 0, none⟩) 0 0) 0 [] (by rfl) (HI23.out.p1 rfl) Ap np cp pv (by rfl) HPL.out HPN.out ?_ HPO.out (by unfold maxLen; omega) (by omega) HI23.out.big ?_)
      · exact HPC.out _ HI23.out.bel
      intro A24 c24 W24 ha
      have HI24 := hid (CB1.q2 HI23.out (by simpa using ha))
      clear ha HI23
      refine hK.out _ _ (by exact HI24.out.box.cell) fun hHeld => ?_
      clear hK K
      try simp only [p7]
      refine tq 12 hHeld ?_
      try simp only [p7]
      refine r1 14 fun K hK => ?_
      have zA := Blk.cell (HI24.out.al rfl).1
      have zF := Blk.frozen (HI24.out.al rfl).1
      go_simp
      have hF := CB1.fin HI24.out (.int .i64 bv) (.int .i64 bn)
      rw [HOL.out] at hF
      have HF := hid hF
      clear hF
      refine hK.out _ _ (by exact HF.out.box.cell) fun hHeld => ?_
      clear hK K
      try simp only [p7]
      refine wpAnyH_done (by kernel_rfl) ?_ _
      go_wp2_with fail
      go_meet
      exact ⟨_, _, _, _, _, rfl, HF⟩
    go_simp
    refine hK.out _ _ (by exact (HI21.out.b2).box.cell) fun hHeld => ?_
    clear hK K
    have HI25 := hid (HI21.out.b2)
    clear HI21
    generalize hg : (W21.alloc (.cells #[] 54)) = W25 at *
    clear hg
    try simp only [p7]
    refine r1 7 fun K hK => ?_
    refine step_oper rfl (oper_append_mine (.tmp 12) (.tmp 14) 22 rfl (w.heap.size + 2) 67 i1 _ 3 24 Try.underlying22 HI1a.out HI1b.out HI1c.out HI1d.out rfl (by decide) (.slice (some ⟨W1.heap.size, 0, none⟩) 0 0) 0 [] (by rfl) (HI25.out.o1 rfl) Ao no co (flat os) (by rfl) (by rw [flat_len, HOL.out]) HON.out ?_ (flat_one os) (by unfold maxLen; omega) (by omega) HI25.out.big ?_)
    · exact cells_flat (HTO.out _ HI25.out.bel)
    intro A26 c26 W26 ha
    have HI26 := hid (CB1.q1 HI25.out (by simpa [HOL.out] using ha))
    clear ha HI25
    refine hK.out _ _ (by exact HI26.out.box.cell) fun hHeld => ?_
    clear hK K
    try simp only [p7]
    refine r1 11 fun K hK => ?_
    refine step_oper rfl (oper_append_mine (.tmp 16) (.tmp 18) 24 rfl (w.heap.size + 2) 54 i2 _ 2 16 Try.underlying24 HI2a.out HI2b.out HI2c.out HI2d.out rfl (by decide) (.slice (some ⟨W21.heap.size, 0, none⟩) 0 0) 0 [] (by rfl) (HI26.out.p1 rfl) Ap np cp pv (by rfl) HPL.out HPN.out ?_ HPO.out (by unfold maxLen; omega) (by omega) HI26.out.big ?_)
    · exact HPC.out _ HI26.out.bel
    intro A27 c27 W27 ha
    have HI27 := hid (CB1.q2 HI26.out (by simpa using ha))
    clear ha HI26
    refine hK.out _ _ (by exact HI27.out.box.cell) fun hHeld => ?_
    clear hK K
    try simp only [p7]
    refine tq 12 hHeld ?_
    try simp only [p7]
    refine r1 14 fun K hK => ?_
    have zA := Blk.cell (HI27.out.al rfl).1
    have zF := Blk.frozen (HI27.out.al rfl).1
    go_simp
    have hF := CB1.fin HI27.out (.int .i64 bv) (.int .i64 bn)
    rw [HOL.out] at hF
    have HF := hid hF
    clear hF
    refine hK.out _ _ (by exact HF.out.box.cell) fun hHeld => ?_
    clear hK K
    try simp only [p7]
    refine wpAnyH_done (by kernel_rfl) ?_ _
    go_wp2_with fail
    go_meet
    exact ⟨_, _, _, _, _, rfl, HF⟩
  · go_simp
    refine hK.out _ _ (by exact (HI1.out.b2).box.cell) fun hHeld => ?_
    clear hK K
    have HI28 := hid (HI1.out.b2)
    clear HI1
    generalize hg : (W1.alloc (.cells #[] 54)) = W28 at *
    clear hg
    try simp only [p7]
    refine r2 4 13 (fun K hK => ?_) fun K hK => ?_
    rotate_left
    · go_simp
      refine hK.out _ _ (by exact (HI28.out.a).box.cell) fun hHeld => ?_
      clear hK K
      have HI38 := hid (HI28.out.a)
      clear HI28
      generalize hg : (W28.alloc (.cells ZBK 26)) = W38 at *
      clear hg
      try simp only [p7]
      refine r1 4 fun K hK => ?_
      go_simp
      refine hK.out _ _ (by exact (HI38.out.b1).box.cell) fun hHeld => ?_
      clear hK K
      have HI39 := hid (HI38.out.b1)
      clear HI38
      generalize hg : (W38.alloc (.cells #[] 67)) = W39 at *
      clear hg
      try simp only [p7]
      refine r1 7 fun K hK => ?_
      refine step_oper rfl (oper_append_mine (.tmp 12) (.tmp 14) 22 rfl (w.heap.size + 2) 67 i1 _ 3 24 Try.underlying22 HI1a.out HI1b.out HI1c.out HI1d.out rfl (by decide) (.slice (some ⟨W38.heap.size, 0, none⟩) 0 0) 0 [] (by rfl) (HI39.out.o1 rfl) Ao no co (flat os) (by rfl) (by rw [flat_len, HOL.out]) HON.out ?_ (flat_one os) (by unfold maxLen; omega) (by omega) HI39.out.big ?_)
      · exact cells_flat (HTO.out _ HI39.out.bel)
      intro A40 c40 W40 ha
      have HI40 := hid (CB1.q1 HI39.out (by simpa [HOL.out] using ha))
      clear ha HI39
      refine hK.out _ _ (by exact HI40.out.box.cell) fun hHeld => ?_
      clear hK K
      try simp only [p7]
      refine r1 11 fun K hK => ?_
      refine step_oper rfl (oper_append_mine (.tmp 16) (.tmp 18) 24 rfl (w.heap.size + 2) 54 i2 _ 2 16 Try.underlying24 HI2a.out HI2b.out HI2c.out HI2d.out rfl (by decide) (.slice (some ⟨W1.heap.size, 0, none⟩) 0 0) 0 [] (by rfl) (HI40.out.p1 rfl) Ap np cp pv (by rfl) HPL.out HPN.out ?_ HPO.out (by unfold maxLen; omega) (by omega) HI40.out.big ?_)
      · exact HPC.out _ HI40.out.bel
      intro A41 c41 W41 ha
      have HI41 := hid (CB1.q2 HI40.out (by simpa using ha))
      clear ha HI40
      refine hK.out _ _ (by exact HI41.out.box.cell) fun hHeld => ?_
      clear hK K
      try simp only [p7]
      refine tq 12 hHeld ?_
      try simp only [p7]
      refine r1 14 fun K hK => ?_
      have zA := Blk.cell (HI41.out.al rfl).1
      have zF := Blk.frozen (HI41.out.al rfl).1
      go_simp
      have hF := CB1.fin HI41.out (.int .i64 bv) (.int .i64 bn)
      rw [HOL.out] at hF
      have HF := hid hF
      clear hF
      refine hK.out _ _ (by exact HF.out.box.cell) fun hHeld => ?_
      clear hK K
      try simp only [p7]
      refine wpAnyH_done (by kernel_rfl) ?_ _
      go_wp2_with fail
      go_meet
      exact ⟨_, _, _, _, _, rfl, HF⟩
    go_simp
    refine hK.out _ _ (by exact (HI28.out.b1).box.cell) fun hHeld => ?_
    clear hK K
    have HI29 := hid (HI28.out.b1)
    clear HI28
    generalize hg : (W28.alloc (.cells #[] 67)) = W29 at *
    clear hg
    try simp only [p7]
    refine r2 7 13 (fun K hK => ?_) fun K hK => ?_
    rotate_left
    · go_simp
      refine hK.out _ _ (by exact (HI29.out.a).box.cell) fun hHeld => ?_
      clear hK K
      have HI35 := hid (HI29.out.a)
      clear HI29
      generalize hg : (W29.alloc (.cells ZBK 26)) = W35 at *
      clear hg
      try simp only [p7]
      refine r1 7 fun K hK => ?_
      refine step_oper rfl (oper_append_mine (.tmp 12) (.tmp 14) 22 rfl (w.heap.size + 2) 67 i1 _ 3 24 Try.underlying22 HI1a.out HI1b.out HI1c.out HI1d.out rfl (by decide) (.slice (some ⟨W28.heap.size, 0, none⟩) 0 0) 0 [] (by rfl) (HI35.out.o1 rfl) Ao no co (flat os) (by rfl) (by rw [flat_len, HOL.out]) HON.out ?_ (flat_one os) (by unfold maxLen; omega) (by omega) HI35.out.big ?_)
      · exact cells_flat (HTO.out _ HI35.out.bel)
      intro A36 c36 W36 ha
      have HI36 := hid (CB1.q1 HI35.out (by simpa [HOL.out] using ha))
      clear ha HI35
      refine hK.out _ _ (by exact HI36.out.box.cell) fun hHeld => ?_
      clear hK K
      try simp only [p7]
      refine r1 11 fun K hK => ?_
      refine step_oper rfl (oper_append_mine (.tmp 16) (.tmp 18) 24 rfl (w.heap.size + 2) 54 i2 _ 2 16 Try.underlying24 HI2a.out HI2b.out HI2c.out HI2d.out rfl (by decide) (.slice (some ⟨W1.heap.size, 0, none⟩) 0 0) 0 [] (by rfl) (HI36.out.p1 rfl) Ap np cp pv (by rfl) HPL.out HPN.out ?_ HPO.out (by unfold maxLen; omega) (by omega) HI36.out.big ?_)
      · exact HPC.out _ HI36.out.bel
      intro A37 c37 W37 ha
      have HI37 := hid (CB1.q2 HI36.out (by simpa using ha))
      clear ha HI36
      refine hK.out _ _ (by exact HI37.out.box.cell) fun hHeld => ?_
      clear hK K
      try simp only [p7]
      refine tq 12 hHeld ?_
      try simp only [p7]
      refine r1 14 fun K hK => ?_
      have zA := Blk.cell (HI37.out.al rfl).1
      have zF := Blk.frozen (HI37.out.al rfl).1
      go_simp
      have hF := CB1.fin HI37.out (.int .i64 bv) (.int .i64 bn)
      rw [HOL.out] at hF
      have HF := hid hF
      clear hF
      refine hK.out _ _ (by exact HF.out.box.cell) fun hHeld => ?_
      clear hK K
      try simp only [p7]
      refine wpAnyH_done (by kernel_rfl) ?_ _
      go_wp2_with fail
      go_meet
      exact ⟨_, _, _, _, _, rfl, HF⟩
    refine step_oper rfl (oper_append_mine (.tmp 12) (.tmp 14) 22 rfl (w.heap.size + 2) 67 i1 _ 3 24 Try.underlying22 HI1a.out HI1b.out HI1c.out HI1d.out rfl (by decide) (.slice (some ⟨W28.heap.size, 0, none⟩) 0 0) 0 [] (by rfl) (HI29.out.o1 rfl) Ao no co (flat os) (by rfl) (by rw [flat_len, HOL.out]) HON.out ?_ (flat_one os) (by unfold maxLen; omega) (by omega) HI29.out.big ?_)
    · exact cells_flat (HTO.out _ HI29.out.bel)
    intro A30 c30 W30 ha
    have HI30 := hid (CB1.q1 HI29.out (by simpa [HOL.out] using ha))
    clear ha HI29
    refine hK.out _ _ (by exact HI30.out.box.cell) fun hHeld => ?_
    clear hK K
    try simp only [p7]
    refine r2 11 13 (fun K hK => ?_) fun K hK => ?_
    · refine step_oper rfl (oper_append_mine (.tmp 16) (.tmp 18) 24 rfl (w.heap.size + 2) 54 i2 _ 2 16 Try.underlying24 HI2a.out HI2b.out HI2c.out HI2d.out rfl (by decide) (.slice (some ⟨W1.heap.size, 0, none⟩) 0 0) 0 [] (by rfl) (HI30.out.p1 rfl) Ap np cp pv (by rfl) HPL.out HPN.out ?_ HPO.out (by unfold maxLen; omega) (by omega) HI30.out.big ?_)
      · exact HPC.out _ HI30.out.bel
      intro A31 c31 W31 ha
      have HI31 := hid (CB1.q2 HI30.out (by simpa using ha))
      clear ha HI30
      refine hK.out _ _ (by exact HI31.out.box.cell) fun hHeld => ?_
      clear hK K
      try simp only [p7]
      refine tq 12 hHeld ?_
      try simp only [p7]
      refine r1 13 fun K hK => ?_
      go_simp
      refine hK.out _ _ (by exact (HI31.out.a).box.cell) fun hHeld => ?_
      clear hK K
      have HI32 := hid (HI31.out.a)
      clear HI31
      generalize hg : (W31.alloc (.cells ZBK 26)) = W32 at *
      clear hg
      try simp only [p7]
      refine r1 14 fun K hK => ?_
      have zA := Blk.cell (HI32.out.al rfl).1
      have zF := Blk.frozen (HI32.out.al rfl).1
      go_simp
      have hF := CB1.fin HI32.out (.int .i64 bv) (.int .i64 bn)
      rw [HOL.out] at hF
      have HF := hid hF
      clear hF
      refine hK.out _ _ (by exact HF.out.box.cell) fun hHeld => ?_
      clear hK K
      try simp only [p7]
      refine wpAnyH_done (by kernel_rfl) ?_ _
      go_wp2_with fail
      go_meet
      exact ⟨_, _, _, _, _, rfl, HF⟩
    go_simp
    refine hK.out _ _ (by exact (HI30.out.a).box.cell) fun hHeld => ?_
    clear hK K
    have HI33 := hid (HI30.out.a)
    clear HI30
    generalize hg : (W30.alloc (.cells ZBK 26)) = W33 at *
    clear hg
    try simp only [p7]
    refine r1 11 fun K hK => ?_
    refine step_oper rfl (oper_append_mine (.tmp 16) (.tmp 18) 24 rfl (w.heap.size + 2) 54 i2 _ 2 16 Try.underlying24 HI2a.out HI2b.out HI2c.out HI2d.out rfl (by decide) (.slice (some ⟨W1.heap.size, 0, none⟩) 0 0) 0 [] (by rfl) (HI33.out.p1 rfl) Ap np cp pv (by rfl) HPL.out HPN.out ?_ HPO.out (by unfold maxLen; omega) (by omega) HI33.out.big ?_)
    · exact HPC.out _ HI33.out.bel
    intro A34 c34 W34 ha
    have HI34 := hid (CB1.q2 HI33.out (by simpa using ha))
    clear ha HI33
    refine hK.out _ _ (by exact HI34.out.box.cell) fun hHeld => ?_
    clear hK K
    try simp only [p7]
    refine tq 12 hHeld ?_
    try simp only [p7]
    refine r1 14 fun K hK => ?_
    have zA := Blk.cell (HI34.out.al rfl).1
    have zF := Blk.frozen (HI34.out.al rfl).1
    go_simp
    have hF := CB1.fin HI34.out (.int .i64 bv) (.int .i64 bn)
    rw [HOL.out] at hF
    have HF := hid hF
    clear hF
    refine hK.out _ _ (by exact HF.out.box.cell) fun hHeld => ?_
    clear hK K
    try simp only [p7]
    refine wpAnyH_done (by kernel_rfl) ?_ _
    go_wp2_with fail
    go_meet
    exact ⟨_, _, _, _, _, rfl, HF⟩
  go_simp
  refine hK.out _ _ (by exact (HI1.out.a).box.cell) fun hHeld => ?_
  clear hK K
  have HI42 := hid (HI1.out.a)
  clear HI1
  generalize hg : (W1.alloc (.cells ZBK 26)) = W42 at *
  clear hg
  try simp only [p7]
  refine r2 4 8 (fun K hK => ?_) fun K hK => ?_
  rotate_left
  · go_simp
    refine hK.out _ _ (by exact (HI42.out.b2).box.cell) fun hHeld => ?_
    clear hK K
    have HI50 := hid (HI42.out.b2)
    clear HI42
    generalize hg : (W42.alloc (.cells #[] 54)) = W50 at *
    clear hg
    try simp only [p7]
    refine r1 4 fun K hK => ?_
    go_simp
    refine hK.out _ _ (by exact (HI50.out.b1).box.cell) fun hHeld => ?_
    clear hK K
    have HI51 := hid (HI50.out.b1)
    clear HI50
    generalize hg : (W50.alloc (.cells #[] 67)) = W51 at *
    clear hg
    try simp only [p7]
    refine r1 7 fun K hK => ?_
    refine step_oper rfl (oper_append_mine (.tmp 12) (.tmp 14) 22 rfl (w.heap.size + 2) 67 i1 _ 3 24 Try.underlying22 HI1a.out HI1b.out HI1c.out HI1d.out rfl (by decide) (.slice (some ⟨W50.heap.size, 0, none⟩) 0 0) 0 [] (by rfl) (HI51.out.o1 rfl) Ao no co (flat os) (by rfl) (by rw [flat_len, HOL.out]) HON.out ?_ (flat_one os) (by unfold maxLen; omega) (by omega) HI51.out.big ?_)
    · exact cells_flat (HTO.out _ HI51.out.bel)
    intro A52 c52 W52 ha
    have HI52 := hid (CB1.q1 HI51.out (by simpa [HOL.out] using ha))
    clear ha HI51
    refine hK.out _ _ (by exact HI52.out.box.cell) fun hHeld => ?_
    clear hK K
    try simp only [p7]
    refine r1 11 fun K hK => ?_
    refine step_oper rfl (oper_append_mine (.tmp 16) (.tmp 18) 24 rfl (w.heap.size + 2) 54 i2 _ 2 16 Try.underlying24 HI2a.out HI2b.out HI2c.out HI2d.out rfl (by decide) (.slice (some ⟨W42.heap.size, 0, none⟩) 0 0) 0 [] (by rfl) (HI52.out.p1 rfl) Ap np cp pv (by rfl) HPL.out HPN.out ?_ HPO.out (by unfold maxLen; omega) (by omega) HI52.out.big ?_)
    · exact HPC.out _ HI52.out.bel
    intro A53 c53 W53 ha
    have HI53 := hid (CB1.q2 HI52.out (by simpa using ha))
    clear ha HI52
    refine hK.out _ _ (by exact HI53.out.box.cell) fun hHeld => ?_
    clear hK K
    try simp only [p7]
    refine tq 12 hHeld ?_
    try simp only [p7]
    refine r1 14 fun K hK => ?_
    have zA := Blk.cell (HI53.out.al rfl).1
    have zF := Blk.frozen (HI53.out.al rfl).1
    go_simp
    have hF := CB1.fin HI53.out (.int .i64 bv) (.int .i64 bn)
    rw [HOL.out] at hF
    have HF := hid hF
    clear hF
    refine hK.out _ _ (by exact HF.out.box.cell) fun hHeld => ?_
    clear hK K
    try simp only [p7]
    refine wpAnyH_done (by kernel_rfl) ?_ _
    go_wp2_with fail
    go_meet
    exact ⟨_, _, _, _, _, rfl, HF⟩
  go_simp
  refine hK.out _ _ (by exact (HI42.out.b1).box.cell) fun hHeld => ?_
  clear hK K
  have HI43 := hid (HI42.out.b1)
  clear HI42
  generalize hg : (W42.alloc (.cells #[] 67)) = W43 at *
  clear hg
  try simp only [p7]
  refine r2 7 8 (fun K hK => ?_) fun K hK => ?_
  · refine step_oper rfl (oper_append_mine (.tmp 12) (.tmp 14) 22 rfl (w.heap.size + 2) 67 i1 _ 3 24 Try.underlying22 HI1a.out HI1b.out HI1c.out HI1d.out rfl (by decide) (.slice (some ⟨W42.heap.size, 0, none⟩) 0 0) 0 [] (by rfl) (HI43.out.o1 rfl) Ao no co (flat os) (by rfl) (by rw [flat_len, HOL.out]) HON.out ?_ (flat_one os) (by unfold maxLen; omega) (by omega) HI43.out.big ?_)
    · exact cells_flat (HTO.out _ HI43.out.bel)
    intro A44 c44 W44 ha
    have HI44 := hid (CB1.q1 HI43.out (by simpa [HOL.out] using ha))
    clear ha HI43
    refine hK.out _ _ (by exact HI44.out.box.cell) fun hHeld => ?_
    clear hK K
    try simp only [p7]
    refine r1 8 fun K hK => ?_
    go_simp
    refine hK.out _ _ (by exact (HI44.out.b2).box.cell) fun hHeld => ?_
    clear hK K
    have HI45 := hid (HI44.out.b2)
    clear HI44
    generalize hg : (W44.alloc (.cells #[] 54)) = W45 at *
    clear hg
    try simp only [p7]
    refine r1 11 fun K hK => ?_
    refine step_oper rfl (oper_append_mine (.tmp 16) (.tmp 18) 24 rfl (w.heap.size + 2) 54 i2 _ 2 16 Try.underlying24 HI2a.out HI2b.out HI2c.out HI2d.out rfl (by decide) (.slice (some ⟨W44.heap.size, 0, none⟩) 0 0) 0 [] (by rfl) (HI45.out.p1 rfl) Ap np cp pv (by rfl) HPL.out HPN.out ?_ HPO.out (by unfold maxLen; omega) (by omega) HI45.out.big ?_)
    · exact HPC.out _ HI45.out.bel
    intro A46 c46 W46 ha
    have HI46 := hid (CB1.q2 HI45.out (by simpa using ha))
    clear ha HI45
    refine hK.out _ _ (by exact HI46.out.box.cell) fun hHeld => ?_
    clear hK K
    try simp only [p7]
    refine tq 12 hHeld ?_
    try simp only [p7]
    refine r1 14 fun K hK => ?_
    have zA := Blk.cell (HI46.out.al rfl).1
    have zF := Blk.frozen (HI46.out.al rfl).1
    go_simp
    have hF := CB1.fin HI46.out (.int .i64 bv) (.int .i64 bn)
    rw [HOL.out] at hF
    have HF := hid hF
    clear hF
    refine hK.out _ _ (by exact HF.out.box.cell) fun hHeld => ?_
    clear hK K
    try simp only [p7]
    refine wpAnyH_done (by kernel_rfl) ?_ _
    go_wp2_with fail
    go_meet
    exact ⟨_, _, _, _, _, rfl, HF⟩
  go_simp
  refine hK.out _ _ (by exact (HI43.out.b2).box.cell) fun hHeld => ?_
  clear hK K
  have HI47 := hid (HI43.out.b2)
  clear HI43
  generalize hg : (W43.alloc (.cells #[] 54)) = W47 at *
  clear hg
  try simp only [p7]
  refine r1 7 fun K hK => ?_
  refine step_oper rfl (oper_append_mine (.tmp 12) (.tmp 14) 22 rfl (w.heap.size + 2) 67 i1 _ 3 24 Try.underlying22 HI1a.out HI1b.out HI1c.out HI1d.out rfl (by decide) (.slice (some ⟨W42.heap.size, 0, none⟩) 0 0) 0 [] (by rfl) (HI47.out.o1 rfl) Ao no co (flat os) (by rfl) (by rw [flat_len, HOL.out]) HON.out ?_ (flat_one os) (by unfold maxLen; omega) (by omega) HI47.out.big ?_)
  · exact cells_flat (HTO.out _ HI47.out.bel)
  intro A48 c48 W48 ha
  have HI48 := hid (CB1.q1 HI47.out (by simpa [HOL.out] using ha))
  clear ha HI47
  refine hK.out _ _ (by exact HI48.out.box.cell) fun hHeld => ?_
  clear hK K
  try simp only [p7]
  refine r1 11 fun K hK => ?_
  refine step_oper rfl (oper_append_mine (.tmp 16) (.tmp 18) 24 rfl (w.heap.size + 2) 54 i2 _ 2 16 Try.underlying24 HI2a.out HI2b.out HI2c.out HI2d.out rfl (by decide) (.slice (some ⟨W43.heap.size, 0, none⟩) 0 0) 0 [] (by rfl) (HI48.out.p1 rfl) Ap np cp pv (by rfl) HPL.out HPN.out ?_ HPO.out (by unfold maxLen; omega) (by omega) HI48.out.big ?_)
  · exact HPC.out _ HI48.out.bel
  intro A49 c49 W49 ha
  have HI49 := hid (CB1.q2 HI48.out (by simpa using ha))
  clear ha HI48
  refine hK.out _ _ (by exact HI49.out.box.cell) fun hHeld => ?_
  clear hK K
  try simp only [p7]
  refine tq 12 hHeld ?_
  try simp only [p7]
  refine r1 14 fun K hK => ?_
  have zA := Blk.cell (HI49.out.al rfl).1
  have zF := Blk.frozen (HI49.out.al rfl).1
  go_simp
  have hF := CB1.fin HI49.out (.int .i64 bv) (.int .i64 bn)
  rw [HOL.out] at hF
  have HF := hid hF
  clear hF
  refine hK.out _ _ (by exact HF.out.box.cell) fun hHeld => ?_
  clear hK K
  try simp only [p7]
  refine wpAnyH_done (by kernel_rfl) ?_ _
  go_wp2_with fail
  go_meet
  exact ⟨_, _, _, _, _, rfl, HF⟩
 case rest =>
 obtain ⟨gA, A1, c1, A2, c2, rfl, hcb2⟩ := hcut
 obtain ⟨wq, rfl⟩ : ∃ x : World, x = wc := ⟨_, rfl⟩
 go_wp2_with fail
 go_loopw [4] (fun iv wr => ∃ (i cw : Nat) (Aw : Option Addr) (vs : List Value), iv = .int .i64 (i : Int) ∧ i ≤ ne ∧ Hid (CB3 w #[.int .i64 bv, .slice Ao no co, .slice Ae ne ce, .int .i64 bn, .slice Ap np cp] es os np pv (.int .i64 bv) (.int .i64 bn) A1 A2 c1 c2 gA i Aw cw vs wr)) (fun iv _ => ne - (intOf iv).toNat)
 case atStart => exact ⟨0, 0, none, [], rfl, by omega, hid (hcb2.out.cb3)⟩
 case round =>
  obtain ⟨i, cw, Aw, vs, rfl, hi, hc3⟩ := hrel
  obtain ⟨wo, rfl⟩ : ∃ x : World, x = wr := ⟨_, rfl⟩
  have zb := Blk.cell hc3.out.box
  have hbz := hc3.out.bel.size
  by_cases hlt : i < ne
  rotate_left
  · have y1 : decide ((i : Int) < (ne : Int)) = false := decide_eq_false (by omega)
    have y2 : decide (i < ne) = false := decide_eq_false hlt
    have hin : i = es.length := by rw [HEL.out]; omega
    have h3 := hc3.out
    rw [hin, HES.out, HOS.out] at h3
    obtain ⟨hf1, hf2, hf3⟩ := CB3.fin h3 HB0.out (by have := HB0.out.prims.len; simpa using this) (fun j hj => by rw [HPV.out]; exact prV_at _ _ (by have := HB0.out.prims.len; simp only at this; omega)) (.int .i64 bv) (.slice A1 b.orders.length c1) (.slice Aw b.entries.length cw) (.int .i64 bn) (.slice A2 np c2)
    have HF1 := hid hf1
    have HF2 := hid hf2
    have zr := Blk.cell hf3
    have zA := Blk.cell hc3.out.out
    have zR := Blk.cell hc3.out.res
    have zF := Blk.frozen hc3.out.res
    have HIN := hid hin
    have hgl := hc3.out.out.lt
    have hrl := hc3.out.res.lt
    have hol : os.length = b.orders.length := by rw [HOS.out]
    have hil : i = b.entries.length := by rw [hin, HES.out]
    rw [← hol, ← hil] at HF1 HF2 zr
    clear hf1 hf2 hf3 h3 hin hol hil HIN
    go_wp2_with fail
    refine bodyPost_ret (v := .agg #[.int .i64 bv, .slice A1 os.length c1, .slice Aw i cw, .int .i64 bn, .slice A2 np c2]) (by simp [results, Try.results9, go_sem, zr]) rfl ⟨HF2.out, _, rfl, HF1.out⟩
  have y1 : decide ((i : Int) < (ne : Int)) = true := decide_eq_true (by omega)
  have y2 : decide (i < ne) = true := decide_eq_true hlt
  obtain ⟨be, oe, hAe, hbe, ev, h0, h1, h2, h3, h4, h5, h6, hec⟩ := (HBV.out wo hc3.out.bel).entries.at_ hlt
  subst hAe
  have hil : i < es.length := by rw [HEL.out]; exact hlt
  have hxm : es.getD i default ∈ es := by
   rw [List.getD_eq_getElem?_getD, List.getElem?_eq_getElem hil]
   exact List.getElem_mem hil
  have htk : es.take (i + 1) = es.take i ++ [es.getD i default] := by
   rw [List.take_succ_eq_append_getElem hil, List.getD_eq_getElem?_getD, List.getElem?_eq_getElem hil]
   rfl
  have hsm := HSM.out.rows (es.getD i default) (by rw [← HES.out]; exact hxm)
  rw [← HES.out] at h0 hec
  generalize es.getD i default = x at *
  obtain ⟨As, ns, cs, Ap1, np1, cp1, Ai, ni, ci, Ac, nc, cc, At, nt, ct, Ab, nb, cb⟩ := ev
  simp only at h1 h2 h3 h4 h5 h6 hec
  have HTK3 := hid htk
  have hp6 : np1 ≤ 1000000 := by have h1 := hec.params.len; have h2 := hsm.1; simp only at h1; omega
  have hi6 : ni ≤ 1000000 := by have h1 := hec.indices.len; have h2 := hsm.2.1; simp only at h1; omega
  have hc6 : nc ≤ 1000000 := by have h1 := hec.ctors.len; have h2 := hsm.2.2.1; simp only at h1; omega
  have HCS := hid hsm.2.2.2
  have Hsort : Hid (x.sort.length ≤ 5864062014805) := hid (by have h1 := hec.sort.len; have h2 := hec.sort.few; omega)
  have Htype : Hid (x.type.length ≤ 5864062014805) := hid (by have h1 := hec.type.len; have h2 := hec.type.few; omega)
  have Hbody : Hid (x.body.length ≤ 5864062014805) := hid (by have h1 := hec.body.len; have h2 := hec.body.few; omega)
  have HK5 := hid (Blk.new wo 52 #[.int .i64 x.kind, .slice As ns cs, .slice Ap1 np1 cp1, .slice Ai ni ci, .slice Ac nc cc, .slice At nt ct, .slice Ab nb cb])
  have hb5 := below_alloc wo (.cells #[.int .i64 x.kind, .slice As ns cs, .slice Ap1 np1 cp1, .slice Ai ni ci, .slice Ac nc cc, .slice At nt ct, .slice Ab nb cb] 52)
  have HB5 := hid hb5
  have hs5 : wo.heap.size + 1 = (wo.alloc (.cells #[.int .i64 x.kind, .slice As ns cs, .slice Ap1 np1 cp1, .slice Ai ni ci, .slice Ac nc cc, .slice At nt ct, .slice Ab nb cb] 52)).heap.size := by simp
  have HEC : Hid (∀ W', Below (wo.alloc (.cells #[.int .i64 x.kind, .slice As ns cs, .slice Ap1 np1 cp1, .slice Ai ni ci, .slice Ac nc cc, .slice At nt ct, .slice Ab nb cb] 52)).heap.size (wo.alloc (.cells #[.int .i64 x.kind, .slice As ns cs, .slice Ap1 np1 cp1, .slice Ai ni ci, .slice Ac nc cc, .slice At nt ct, .slice Ab nb cb] 52)) W' → EnC W' ⟨As, ns, cs, Ap1, np1, cp1, Ai, ni, ci, Ac, nc, cc, At, nt, ct, Ab, nb, cb⟩ x) := hid (fun W' h => hec.below (hb5.trans (h.mono hb5.size)))
  clear hsm hxm htk hil hec hb5
  go_upto_region 6 with fail
  generalize hg : (wo.alloc (.cells #[.int .i64 x.kind, .slice As ns cs, .slice Ap1 np1 cp1, .slice Ai ni ci, .slice Ac nc cc, .slice At nt ct, .slice Ab nb cb] 52)) = W5 at *
  clear hg zb h0 h1 h2 h3 h4 h5 h6
  go_cut [6] (fun yv wx => ∃ (g6 : Nat) (u : EnVal), yv = .pointer (some ⟨g6, 0, none⟩) ∧ Hid (CE2 W5 g6 u x wx))
  case first =>
   refine wp_region_held_drew (S := (fun w' => ∀ i, w'.cell? ⟨wo.heap.size, i, none⟩ = (#[.int .i64 x.kind, .slice As ns cs, .slice Ap1 np1 cp1, .slice Ai ni ci, .slice Ac nc cc, .slice At nt ct, .slice Ab nb cb] : Array Value)[i]?)) (by kernel_rfl) ?_ (fun hHeld => ?_)
   · (try dsimp only); exact HK5.out.cell
   have E1 : Hid (CE1 W5 0 0 0 ⟨none, 0, 0, none, 0, 0, none, 0, 0, none, 0, 0, none, 0, 0, none, 0, 0⟩ x W5.drew) := hid (CE1.start' _ _ _)
   generalize W5.drew = W1 at *
   refine tq 0 hHeld ?_
   try simp only [p7]
   refine tq 1 hHeld ?_
   try simp only [p7]
   refine tq 2 hHeld ?_
   try simp only [p7]
   refine tq 3 hHeld ?_
   try simp only [p7]
   refine tq 5 hHeld ?_
   try simp only [p7]
   refine tq 6 hHeld ?_
   try simp only [p7]
   refine tq 8 hHeld ?_
   try simp only [p7]
   refine tq 9 hHeld ?_
   try simp only [p7]
   refine tq 11 hHeld ?_
   try simp only [p7]
   refine tq 12 hHeld ?_
   try simp only [p7]
   refine tq 14 hHeld ?_
   try simp only [p7]
   refine tq 15 hHeld ?_
   try simp only [p7]
   refine r2 4 18 (fun K hK => ?_) fun K hK => ?_
   rotate_left
   · go_simp
     refine hK.out _ _ (by exact (Blk.below HK5.out (E1.out.a).bel HK5.out.lt).cell) fun hHeld => ?_
     clear hK K
     have E22 := hid (E1.out.a)
     clear E1
     generalize hg : (W1.alloc (.cells ZEN 52)) = W22 at *
     clear hg
     try simp only [p7]
     refine r1 4 fun K hK => ?_
     go_simp
     go_at_call 10
     refine (copy_any (HEC.out W22 E22.out.bel).sort).mono ?_
     rintro e W23 ⟨hd, AW23, cW23, rfl, ho⟩
     have E23 := hid (E22.out.n1 hd (own_termF ho Hsort.out))
     clear E22 hd ho
     go_wp2_with fail
     refine hK.out _ _ (by exact (Blk.below HK5.out E23.out.bel HK5.out.lt).cell) fun hHeld => ?_
     clear hK K
     try simp only [p7]
     refine r1 7 fun K hK => ?_
     go_simp
     go_at_call 28
     refine (copyRows_any (HEC.out W23 E23.out.bel).params hp6).mono ?_
     rintro e W24 ⟨hd, AW24, nW24, cW24, rfl, ho⟩
     have E24 := hid (E23.out.n2 hd ho)
     clear E23 hd ho
     go_wp2_with fail
     refine hK.out _ _ (by exact (Blk.below HK5.out E24.out.bel HK5.out.lt).cell) fun hHeld => ?_
     clear hK K
     try simp only [p7]
     refine r1 10 fun K hK => ?_
     go_simp
     go_at_call 28
     refine (copyRows_any (HEC.out W24 E24.out.bel).indices hi6).mono ?_
     rintro e W25 ⟨hd, AW25, nW25, cW25, rfl, ho⟩
     have E25 := hid (E24.out.n3 hd ho)
     clear E24 hd ho
     go_wp2_with fail
     refine hK.out _ _ (by exact (Blk.below HK5.out E25.out.bel HK5.out.lt).cell) fun hHeld => ?_
     clear hK K
     try simp only [p7]
     refine r1 13 fun K hK => ?_
     go_simp
     go_at_call 10
     refine (copy_any (HEC.out W25 E25.out.bel).type).mono ?_
     rintro e W26 ⟨hd, AW26, cW26, rfl, ho⟩
     have E26 := hid (E25.out.n4 hd (own_termF ho Htype.out))
     clear E25 hd ho
     go_wp2_with fail
     refine hK.out _ _ (by exact (Blk.below HK5.out E26.out.bel HK5.out.lt).cell) fun hHeld => ?_
     clear hK K
     try simp only [p7]
     refine r1 16 fun K hK => ?_
     go_simp
     go_at_call 10
     refine (copy_any (HEC.out W26 E26.out.bel).body).mono ?_
     rintro e W27 ⟨hd, AW27, cW27, rfl, ho⟩
     have E27 := hid (E26.out.n5 hd (own_termF ho Hbody.out))
     clear E26 hd ho
     go_wp2_with fail
     refine hK.out _ _ (by exact (Blk.below HK5.out E27.out.bel HK5.out.lt).cell) fun hHeld => ?_
     clear hK K
     try simp only [p7]
     refine tq 17 hHeld ?_
     try simp only [p7]
     refine r1 19 fun K hK => ?_
     have zA := Blk.cell (E27.out.al rfl).1
     have zF := Blk.frozen (E27.out.al rfl).1
     go_simp
     have hF := CE1.fin E27.out
     have HF := hid hF
     clear hF
     (try simp only at HF)
     refine hK.out _ _ (by exact (Blk.below HK5.out HF.out.bel HK5.out.lt).cell) fun hHeld => ?_
     clear hK K
     try simp only [p7]
     refine wpAnyH_done (by kernel_rfl) ?_ _
     go_wp2_with fail
     go_meet
     exact ⟨_, _, rfl, HF⟩
   go_simp
   go_at_call 10
   refine (copy_any (HEC.out W1 E1.out.bel).sort).mono ?_
   rintro e W2 ⟨hd, AW2, cW2, rfl, ho⟩
   have E2 := hid (E1.out.n1 hd (own_termF ho Hsort.out))
   clear E1 hd ho
   go_wp2_with fail
   refine hK.out _ _ (by exact (Blk.below HK5.out E2.out.bel HK5.out.lt).cell) fun hHeld => ?_
   clear hK K
   try simp only [p7]
   refine r2 7 18 (fun K hK => ?_) fun K hK => ?_
   rotate_left
   · go_simp
     refine hK.out _ _ (by exact (Blk.below HK5.out (E2.out.a).bel HK5.out.lt).cell) fun hHeld => ?_
     clear hK K
     have E17 := hid (E2.out.a)
     clear E2
     generalize hg : (W2.alloc (.cells ZEN 52)) = W17 at *
     clear hg
     try simp only [p7]
     refine r1 7 fun K hK => ?_
     go_simp
     go_at_call 28
     refine (copyRows_any (HEC.out W17 E17.out.bel).params hp6).mono ?_
     rintro e W18 ⟨hd, AW18, nW18, cW18, rfl, ho⟩
     have E18 := hid (E17.out.n2 hd ho)
     clear E17 hd ho
     go_wp2_with fail
     refine hK.out _ _ (by exact (Blk.below HK5.out E18.out.bel HK5.out.lt).cell) fun hHeld => ?_
     clear hK K
     try simp only [p7]
     refine r1 10 fun K hK => ?_
     go_simp
     go_at_call 28
     refine (copyRows_any (HEC.out W18 E18.out.bel).indices hi6).mono ?_
     rintro e W19 ⟨hd, AW19, nW19, cW19, rfl, ho⟩
     have E19 := hid (E18.out.n3 hd ho)
     clear E18 hd ho
     go_wp2_with fail
     refine hK.out _ _ (by exact (Blk.below HK5.out E19.out.bel HK5.out.lt).cell) fun hHeld => ?_
     clear hK K
     try simp only [p7]
     refine r1 13 fun K hK => ?_
     go_simp
     go_at_call 10
     refine (copy_any (HEC.out W19 E19.out.bel).type).mono ?_
     rintro e W20 ⟨hd, AW20, cW20, rfl, ho⟩
     have E20 := hid (E19.out.n4 hd (own_termF ho Htype.out))
     clear E19 hd ho
     go_wp2_with fail
     refine hK.out _ _ (by exact (Blk.below HK5.out E20.out.bel HK5.out.lt).cell) fun hHeld => ?_
     clear hK K
     try simp only [p7]
     refine r1 16 fun K hK => ?_
     go_simp
     go_at_call 10
     refine (copy_any (HEC.out W20 E20.out.bel).body).mono ?_
     rintro e W21 ⟨hd, AW21, cW21, rfl, ho⟩
     have E21 := hid (E20.out.n5 hd (own_termF ho Hbody.out))
     clear E20 hd ho
     go_wp2_with fail
     refine hK.out _ _ (by exact (Blk.below HK5.out E21.out.bel HK5.out.lt).cell) fun hHeld => ?_
     clear hK K
     try simp only [p7]
     refine tq 17 hHeld ?_
     try simp only [p7]
     refine r1 19 fun K hK => ?_
     have zA := Blk.cell (E21.out.al rfl).1
     have zF := Blk.frozen (E21.out.al rfl).1
     go_simp
     have hF := CE1.fin E21.out
     have HF := hid hF
     clear hF
     (try simp only at HF)
     refine hK.out _ _ (by exact (Blk.below HK5.out HF.out.bel HK5.out.lt).cell) fun hHeld => ?_
     clear hK K
     try simp only [p7]
     refine wpAnyH_done (by kernel_rfl) ?_ _
     go_wp2_with fail
     go_meet
     exact ⟨_, _, rfl, HF⟩
   go_simp
   go_at_call 28
   refine (copyRows_any (HEC.out W2 E2.out.bel).params hp6).mono ?_
   rintro e W3 ⟨hd, AW3, nW3, cW3, rfl, ho⟩
   have E3 := hid (E2.out.n2 hd ho)
   clear E2 hd ho
   go_wp2_with fail
   refine hK.out _ _ (by exact (Blk.below HK5.out E3.out.bel HK5.out.lt).cell) fun hHeld => ?_
   clear hK K
   try simp only [p7]
   refine r2 10 18 (fun K hK => ?_) fun K hK => ?_
   rotate_left
   · go_simp
     refine hK.out _ _ (by exact (Blk.below HK5.out (E3.out.a).bel HK5.out.lt).cell) fun hHeld => ?_
     clear hK K
     have E13 := hid (E3.out.a)
     clear E3
     generalize hg : (W3.alloc (.cells ZEN 52)) = W13 at *
     clear hg
     try simp only [p7]
     refine r1 10 fun K hK => ?_
     go_simp
     go_at_call 28
     refine (copyRows_any (HEC.out W13 E13.out.bel).indices hi6).mono ?_
     rintro e W14 ⟨hd, AW14, nW14, cW14, rfl, ho⟩
     have E14 := hid (E13.out.n3 hd ho)
     clear E13 hd ho
     go_wp2_with fail
     refine hK.out _ _ (by exact (Blk.below HK5.out E14.out.bel HK5.out.lt).cell) fun hHeld => ?_
     clear hK K
     try simp only [p7]
     refine r1 13 fun K hK => ?_
     go_simp
     go_at_call 10
     refine (copy_any (HEC.out W14 E14.out.bel).type).mono ?_
     rintro e W15 ⟨hd, AW15, cW15, rfl, ho⟩
     have E15 := hid (E14.out.n4 hd (own_termF ho Htype.out))
     clear E14 hd ho
     go_wp2_with fail
     refine hK.out _ _ (by exact (Blk.below HK5.out E15.out.bel HK5.out.lt).cell) fun hHeld => ?_
     clear hK K
     try simp only [p7]
     refine r1 16 fun K hK => ?_
     go_simp
     go_at_call 10
     refine (copy_any (HEC.out W15 E15.out.bel).body).mono ?_
     rintro e W16 ⟨hd, AW16, cW16, rfl, ho⟩
     have E16 := hid (E15.out.n5 hd (own_termF ho Hbody.out))
     clear E15 hd ho
     go_wp2_with fail
     refine hK.out _ _ (by exact (Blk.below HK5.out E16.out.bel HK5.out.lt).cell) fun hHeld => ?_
     clear hK K
     try simp only [p7]
     refine tq 17 hHeld ?_
     try simp only [p7]
     refine r1 19 fun K hK => ?_
     have zA := Blk.cell (E16.out.al rfl).1
     have zF := Blk.frozen (E16.out.al rfl).1
     go_simp
     have hF := CE1.fin E16.out
     have HF := hid hF
     clear hF
     (try simp only at HF)
     refine hK.out _ _ (by exact (Blk.below HK5.out HF.out.bel HK5.out.lt).cell) fun hHeld => ?_
     clear hK K
     try simp only [p7]
     refine wpAnyH_done (by kernel_rfl) ?_ _
     go_wp2_with fail
     go_meet
     exact ⟨_, _, rfl, HF⟩
   go_simp
   go_at_call 28
   refine (copyRows_any (HEC.out W3 E3.out.bel).indices hi6).mono ?_
   rintro e W4 ⟨hd, AW4, nW4, cW4, rfl, ho⟩
   have E4 := hid (E3.out.n3 hd ho)
   clear E3 hd ho
   go_wp2_with fail
   refine hK.out _ _ (by exact (Blk.below HK5.out E4.out.bel HK5.out.lt).cell) fun hHeld => ?_
   clear hK K
   try simp only [p7]
   refine r2 13 18 (fun K hK => ?_) fun K hK => ?_
   rotate_left
   · go_simp
     refine hK.out _ _ (by exact (Blk.below HK5.out (E4.out.a).bel HK5.out.lt).cell) fun hHeld => ?_
     clear hK K
     have E10 := hid (E4.out.a)
     clear E4
     generalize hg : (W4.alloc (.cells ZEN 52)) = W10 at *
     clear hg
     try simp only [p7]
     refine r1 13 fun K hK => ?_
     go_simp
     go_at_call 10
     refine (copy_any (HEC.out W10 E10.out.bel).type).mono ?_
     rintro e W11 ⟨hd, AW11, cW11, rfl, ho⟩
     have E11 := hid (E10.out.n4 hd (own_termF ho Htype.out))
     clear E10 hd ho
     go_wp2_with fail
     refine hK.out _ _ (by exact (Blk.below HK5.out E11.out.bel HK5.out.lt).cell) fun hHeld => ?_
     clear hK K
     try simp only [p7]
     refine r1 16 fun K hK => ?_
     go_simp
     go_at_call 10
     refine (copy_any (HEC.out W11 E11.out.bel).body).mono ?_
     rintro e W12 ⟨hd, AW12, cW12, rfl, ho⟩
     have E12 := hid (E11.out.n5 hd (own_termF ho Hbody.out))
     clear E11 hd ho
     go_wp2_with fail
     refine hK.out _ _ (by exact (Blk.below HK5.out E12.out.bel HK5.out.lt).cell) fun hHeld => ?_
     clear hK K
     try simp only [p7]
     refine tq 17 hHeld ?_
     try simp only [p7]
     refine r1 19 fun K hK => ?_
     have zA := Blk.cell (E12.out.al rfl).1
     have zF := Blk.frozen (E12.out.al rfl).1
     go_simp
     have hF := CE1.fin E12.out
     have HF := hid hF
     clear hF
     (try simp only at HF)
     refine hK.out _ _ (by exact (Blk.below HK5.out HF.out.bel HK5.out.lt).cell) fun hHeld => ?_
     clear hK K
     try simp only [p7]
     refine wpAnyH_done (by kernel_rfl) ?_ _
     go_wp2_with fail
     go_meet
     exact ⟨_, _, rfl, HF⟩
   go_simp
   go_at_call 10
   refine (copy_any (HEC.out W4 E4.out.bel).type).mono ?_
   rintro e W5 ⟨hd, AW5, cW5, rfl, ho⟩
   have E5 := hid (E4.out.n4 hd (own_termF ho Htype.out))
   clear E4 hd ho
   go_wp2_with fail
   refine hK.out _ _ (by exact (Blk.below HK5.out E5.out.bel HK5.out.lt).cell) fun hHeld => ?_
   clear hK K
   try simp only [p7]
   refine r2 16 18 (fun K hK => ?_) fun K hK => ?_
   · go_simp
     go_at_call 10
     refine (copy_any (HEC.out W5 E5.out.bel).body).mono ?_
     rintro e W6 ⟨hd, AW6, cW6, rfl, ho⟩
     have E6 := hid (E5.out.n5 hd (own_termF ho Hbody.out))
     clear E5 hd ho
     go_wp2_with fail
     refine hK.out _ _ (by exact (Blk.below HK5.out E6.out.bel HK5.out.lt).cell) fun hHeld => ?_
     clear hK K
     try simp only [p7]
     refine tq 17 hHeld ?_
     try simp only [p7]
     refine r1 18 fun K hK => ?_
     go_simp
     refine hK.out _ _ (by exact (Blk.below HK5.out (E6.out.a).bel HK5.out.lt).cell) fun hHeld => ?_
     clear hK K
     have E7 := hid (E6.out.a)
     clear E6
     generalize hg : (W6.alloc (.cells ZEN 52)) = W7 at *
     clear hg
     try simp only [p7]
     refine r1 19 fun K hK => ?_
     have zA := Blk.cell (E7.out.al rfl).1
     have zF := Blk.frozen (E7.out.al rfl).1
     go_simp
     have hF := CE1.fin E7.out
     have HF := hid hF
     clear hF
     (try simp only at HF)
     refine hK.out _ _ (by exact (Blk.below HK5.out HF.out.bel HK5.out.lt).cell) fun hHeld => ?_
     clear hK K
     try simp only [p7]
     refine wpAnyH_done (by kernel_rfl) ?_ _
     go_wp2_with fail
     go_meet
     exact ⟨_, _, rfl, HF⟩
   go_simp
   refine hK.out _ _ (by exact (Blk.below HK5.out (E5.out.a).bel HK5.out.lt).cell) fun hHeld => ?_
   clear hK K
   have E8 := hid (E5.out.a)
   clear E5
   generalize hg : (W5.alloc (.cells ZEN 52)) = W8 at *
   clear hg
   try simp only [p7]
   refine r1 16 fun K hK => ?_
   go_simp
   go_at_call 10
   refine (copy_any (HEC.out W8 E8.out.bel).body).mono ?_
   rintro e W9 ⟨hd, AW9, cW9, rfl, ho⟩
   have E9 := hid (E8.out.n5 hd (own_termF ho Hbody.out))
   clear E8 hd ho
   go_wp2_with fail
   refine hK.out _ _ (by exact (Blk.below HK5.out E9.out.bel HK5.out.lt).cell) fun hHeld => ?_
   clear hK K
   try simp only [p7]
   refine tq 17 hHeld ?_
   try simp only [p7]
   refine r1 19 fun K hK => ?_
   have zA := Blk.cell (E9.out.al rfl).1
   have zF := Blk.frozen (E9.out.al rfl).1
   go_simp
   have hF := CE1.fin E9.out
   have HF := hid hF
   clear hF
   (try simp only at HF)
   refine hK.out _ _ (by exact (Blk.below HK5.out HF.out.bel HK5.out.lt).cell) fun hHeld => ?_
   clear hK K
   try simp only [p7]
   refine wpAnyH_done (by kernel_rfl) ?_ _
   go_wp2_with fail
   go_meet
   exact ⟨_, _, rfl, HF⟩
  case rest =>
  obtain ⟨g6, u, rfl, hce2⟩ := hcut
  obtain ⟨wm, rfl⟩ : ∃ x : World, x = wc := ⟨_, rfl⟩
  have HK6 := hid (Blk.below HK5.out hce2.out.bel HK5.out.lt)
  have zx := Blk.cell HK6.out
  go_wp2_with fail
  clear zx
  go_loopw [7] (fun kv wr => ∃ (k d : Nat) (B : Option Addr) (us : List Value), kv = .int .i64 (k : Int) ∧ k ≤ nc ∧ Hid (CB4 wm g6 u x k B d us wr)) (fun kv _ => nc - (intOf kv).toNat)
  case atStart => exact ⟨0, 0, none, [], rfl, by omega, hid hce2.out.cb4⟩
  case round =>
   obtain ⟨k, d, B, us, rfl, hk, hc4⟩ := hrel
   have hmv := hc4.out.mv.size
   have hgm : g6 < wm.heap.size := hce2.out.y.lt
   have hge6 := hce2.out.ge
   have hb5r := CB4.bel hce2.out hc4.out
   have HKx := bko HK5 hb5r
   have zx := Blk.cell HKx.out
   have zy := Blk.cell hc4.out.y
   by_cases hlt2 : k < nc
   rotate_left
   · have y3 : decide ((k : Int) < (nc : Int)) = false := decide_eq_false (by omega)
     have y4 : decide (k < nc) = false := decide_eq_false hlt2
     have hkn : k = nc := by omega
     subst hkn
     obtain ⟨hq, hb6⟩ := CB4.fin hce2.out hc4.out (by have := (HEC.out W5 (Below.refl _ _)).ctors.len; simpa using this) (by omega)
     have hbo := (HB5.out.trans (hb6.mono HB5.out.size))
     have hal := below_alloc wr (.cells #[.int .i64 x.kind, .slice u.As u.ns u.cs, .slice u.Ap u.np u.cp, .slice u.Ai u.ni u.ci, .slice B k d, .slice u.At u.nt u.ct, .slice u.Ab u.nb u.cb] 52)
     have hbs := hbo.size
     have hb7 := hbo.trans (hal.mono hbs)
     have H3 := hid (hc3.out.below hb7)
     have hel := fun {g : Nat} => CB3.eLt hc3.out (g := g)
     have hgo := hc3.out.out.lt
     have HQ : Hid (EnQ (fun q => w.heap.size + 2 ≤ q ∧ q < (wr.alloc (.cells #[.int .i64 x.kind, .slice u.As u.ns u.cs, .slice u.Ap u.np u.cp, .slice u.Ai u.ni u.ci, .slice B k d, .slice u.At u.nt u.ct, .slice u.Ab u.nb u.cb] 52)).heap.size ∧ (Value.slice Aw i cw).ownBlock ≠ some q ∧ q ≠ gA) (wr.alloc (.cells #[.int .i64 x.kind, .slice u.As u.ns u.cs, .slice u.Ap u.np u.cp, .slice u.Ai u.ni u.ci, .slice B k d, .slice u.At u.nt u.ct, .slice u.Ab u.nb u.cb] 52)) { u with Ac := B, nc := k, cc := d } x) := hid (hq.keep fun q hq => ⟨⟨by have := hc3.out.res.lt; have := hq.1; omega, by have := hq.2; simp; omega, fun e => by have := (hel e).2; have := hq.1; omega, by have := hq.1; omega⟩, fun o => hal.cell (p := ⟨q, o, none⟩) hq.2⟩)
     have zA := Blk.cell (hc3.out.out.below hbo hgo)
     have HBA := hid H3.out.out
     have HOE := hid H3.out.e
     have HEA := hid H3.out.eA
     have HBK3 := hid (Blk.new wr 52 #[.int .i64 x.kind, .slice u.As u.ns u.cs, .slice u.Ap u.np u.cp, .slice u.Ai u.ni u.ci, .slice B k d, .slice u.At u.nt u.ct, .slice u.Ab u.nb u.cb])
     have HNEW := hid (blk_news HBK3.out)
     have hgal : gA < wr.heap.size := by omega
     clear hq hb6 hbo hal hb7 hel
     go_wp2_with (at_builtin; go_loud (refine wpList_oper rfl (oper_append_mine (.tmp 79) (.tmp 81) 23 rfl (w.heap.size + 2) 52 i3 _ 7 152 Try.underlying23 HI3a.out HI3b.out HI3c.out HI3d.out rfl (by decide) (.slice Aw i cw) i vs rfl HOE.out (some ⟨wr.heap.size, 0, none⟩) 1 1 [.int .i64 x.kind, .slice u.As u.ns u.cs, .slice u.Ap u.np u.cp, .slice u.Ai u.ni u.ci, .slice B k d, .slice u.At u.nt u.ct, .slice u.Ab u.nb u.cb] rfl rfl (fun e => by cases e) HNEW.out (by simp [Value.oneCell']) (by unfold maxLen; omega) (by omega) (by simp; omega) ?_)); intro A5 c5 w5 hap; have hB5 := HBA.out.grown hap.grown (fun e => HEA.out e.symm); have hcg := Blk.cell hB5; have hfg := Blk.frozen hB5; have hsz5 := hap.grown.size; have HPU := hid (CB3.push H3.out HTK3.out HQ.out hap); clear hap hB5)
     go_roundw
     case rel => exact ⟨i + 1, c5, A5, _, by go_num, by omega, HPU⟩
     case measure => simp [intOf]; omega
   have y3 : decide ((k : Int) < (nc : Int)) = true := decide_eq_true (by omega)
   have y4 : decide (k < nc) = true := decide_eq_true hlt2
   have hcv := (HEC.out wr.drew (below_drewN hb5r 1)).ctors
   have hcl := hcv.len
   obtain ⟨bc, oc, hAc, hbc, hcm⟩ := hcv.mem (by simp only; omega)
   obtain ⟨B1, m1, e1, B2, m2, e2, ha0, hc0, hr1, hr2⟩ := hcm k hlt2
   simp only at hAc hcl
   subst hAc
   have hkl : k < x.ctors.length := by omega
   have htk : x.ctors.take (k + 1) = x.ctors.take k ++ [x.ctors.getD k default] := by
    rw [List.take_succ_eq_append_getElem hkl, List.getD_eq_getElem?_getD, List.getElem?_eq_getElem hkl]
    rfl
   have hcs := HCS.out (x.ctors.getD k default) (by
    rw [List.getD_eq_getElem?_getD, List.getElem?_eq_getElem hkl]
    exact List.getElem_mem hkl)
   have hbc0 := (HEC.out W5 (Below.refl _ _)).ctors
   have hbcm : bc < wm.heap.size := by
    obtain ⟨b2, o2, e3, h3, _⟩ := hbc0.mem (by simp only; omega)
    simp only [Option.some.injEq, Addr.mk.injEq] at e3
    have := hce2.out.bel.size
    omega
   generalize x.ctors.getD k default = cx at *
   have hm1 : m1 ≤ 1000000 := by have h1 := hr1.len; have h2 := hcs.1; omega
   have hm2 : m2 ≤ 1000000 := by have h1 := hr2.len; have h2 := hcs.2; omega
   have HR1 := hid hr1
   have HR2 := hid hr2
   have HTK := hid htk
   have HBL : Hid (bc < wr.drew.heap.size) := hid hbc
   have HGL : Hid (g6 < wr.drew.heap.size) := hid hc4.out.y.lt
   have HXL : Hid (wo.heap.size < wr.drew.heap.size) := hid HKx.out.lt
   have HBM := hid hbcm
   have HGM := hid hgm
   have HXM : Hid (wo.heap.size < wm.heap.size) := hid (by have := hce2.out.bel.size; omega)
   have H4 : Hid (CB4 wm g6 u x k B d us wr.drew) := hid hc4.out.drew
   have hy0 : wr.drew.cell? ⟨g6, 4, none⟩ = some (.slice B k d) := zy 4
   have hx0 : wr.drew.cell? ⟨wo.heap.size, 4, none⟩ = some (.slice (some ⟨bc, oc, none⟩) nc cc) := zx 4
   have hvm : wm.heap.size ≤ wr.drew.heap.size := hmv
   clear hbc0 hcs htk hkl hcm hcv hr1 hr2 hbcm hcl zy hb5r hbc
   go_wp2_with fail
   clear zx
   refine wp_region_E 20 (fun w' => w'.cell? ⟨g6, 4, none⟩ = some (.slice B k d) ∧ w'.cell? ⟨wo.heap.size, 4, none⟩ = some (.slice (some ⟨bc, oc, none⟩) nc cc) ∧ w'.cell? ⟨bc, oc + k * 2, none⟩ = some (.slice B1 m1 e1) ∧ w'.cell? ⟨bc, oc + k * 2 + 1, none⟩ = some (.slice B2 m2 e2)) (by kernel_rfl) ?_ (fun hHeld => ?_)
   · (try dsimp only); exact ⟨hy0, hx0, ha0, hc0⟩
   generalize wr.drew = V0 at *
   refine wpAnyE_take' (i := 0) (v := ?_) rfl (by kernel_rfl) (by kernel_rfl) (by kernel_rfl) (by kernel_rfl) (by kernel_rfl) (fun _ _ _ h => h) (Or.inl ⟨by rfl, fun w hSw => ?_⟩) hHeld ?_
   rotate_left
   · ((try dsimp only at hSw); go_simp; try with_reducible rfl)
   try simp only [p7]
   refine wpAnyE_take' (i := 1) (v := ?_) rfl (by kernel_rfl) (by kernel_rfl) (by kernel_rfl) (by kernel_rfl) (by kernel_rfl) (fun _ _ _ h => h) (Or.inl ⟨by rfl, fun w hSw => ?_⟩) hHeld ?_
   rotate_left
   · ((try dsimp only at hSw); go_simp; try with_reducible rfl)
   try simp only [p7]
   refine wpAnyE_take' (i := 2) (v := ?_) rfl (by kernel_rfl) (by kernel_rfl) (by kernel_rfl) (by kernel_rfl) (by kernel_rfl) (fun _ _ _ h => h) (Or.inl ⟨by rfl, fun w hSw => ?_⟩) hHeld ?_
   rotate_left
   · ((try dsimp only at hSw); go_simp; try with_reducible rfl)
   try simp only [p7]
   refine wpAnyE_take' (i := 3) (v := ?_) rfl (by kernel_rfl) (by kernel_rfl) (by kernel_rfl) (by kernel_rfl) (by kernel_rfl) (fun _ _ _ h => h) (Or.inl ⟨by rfl, fun w hSw => ?_⟩) hHeld ?_
   rotate_left
   · ((try dsimp only at hSw); go_simp; try with_reducible rfl)
   try simp only [p7]
   refine wpAnyE_take' (i := 4) (v := ?_) rfl (by kernel_rfl) (by kernel_rfl) (by kernel_rfl) (by kernel_rfl) (by kernel_rfl) (fun _ _ _ h => h) (Or.inl ⟨by rfl, fun w hSw => ?_⟩) hHeld ?_
   rotate_left
   · ((try dsimp only at hSw); go_simp; try with_reducible rfl)
   try simp only [p7]
   refine wpAnyE_take' (i := 5) (v := ?_) rfl (by kernel_rfl) (by kernel_rfl) (by kernel_rfl) (by kernel_rfl) (by kernel_rfl) (fun _ _ _ h => h) (Or.inl ⟨by rfl, fun w hSw => ?_⟩) hHeld ?_
   rotate_left
   · ((try dsimp only at hSw); go_simp; try with_reducible rfl)
   try simp only [p7]
   refine wpAnyE_take' (i := 6) (v := ?_) rfl (by kernel_rfl) (by kernel_rfl) (by kernel_rfl) (by kernel_rfl) (by kernel_rfl) (fun _ _ _ h => h) (Or.inl ⟨by rfl, fun w hSw => ?_⟩) hHeld ?_
   rotate_left
   · ((try dsimp only at hSw); go_simp; try with_reducible rfl)
   try simp only [p7]
   refine wpAnyE_take' (i := 7) (v := ?_) rfl (by kernel_rfl) (by kernel_rfl) (by kernel_rfl) (by kernel_rfl) (by kernel_rfl) (fun _ _ _ h => h) (Or.inl ⟨by rfl, fun w hSw => ?_⟩) hHeld ?_
   rotate_left
   · ((try dsimp only at hSw); go_simp; try with_reducible rfl)
   try simp only [p7]
   refine wpAnyE_take' (i := 9) (v := ?_) rfl (by kernel_rfl) (by kernel_rfl) (by kernel_rfl) (by kernel_rfl) (by kernel_rfl) (fun _ _ _ h => h) (Or.inl ⟨by rfl, fun w hSw => ?_⟩) hHeld ?_
   rotate_left
   · ((try dsimp only at hSw); go_simp; try with_reducible rfl)
   try simp only [p7]
   refine wpAnyE_take' (i := 10) (v := ?_) rfl (by kernel_rfl) (by kernel_rfl) (by kernel_rfl) (by kernel_rfl) (by kernel_rfl) (fun _ _ _ h => h) (Or.inl ⟨by rfl, fun w hSw => ?_⟩) hHeld ?_
   rotate_left
   · ((try dsimp only at hSw); go_simp; try with_reducible rfl)
   try simp only [p7]
   refine wpAnyE_take' (i := 11) (v := ?_) rfl (by kernel_rfl) (by kernel_rfl) (by kernel_rfl) (by kernel_rfl) (by kernel_rfl) (fun _ _ _ h => h) (Or.inl ⟨by rfl, fun w hSw => ?_⟩) hHeld ?_
   rotate_left
   · ((try dsimp only at hSw); go_simp; try with_reducible rfl)
   try simp only [p7]
   refine wpAnyE_take' (i := 12) (v := ?_) rfl (by kernel_rfl) (by kernel_rfl) (by kernel_rfl) (by kernel_rfl) (by kernel_rfl) (fun _ _ _ h => h) (Or.inl ⟨by rfl, fun w hSw => ?_⟩) hHeld ?_
   rotate_left
   · ((try dsimp only at hSw); go_simp; try with_reducible rfl)
   try simp only [p7]
   refine wpAnyE_take' (i := 13) (v := ?_) rfl (by kernel_rfl) (by kernel_rfl) (by kernel_rfl) (by kernel_rfl) (by kernel_rfl) (fun _ _ _ h => h) (Or.inl ⟨by rfl, fun w hSw => ?_⟩) hHeld ?_
   rotate_left
   · ((try dsimp only at hSw); go_simp; try with_reducible rfl)
   try simp only [p7]
   refine wpAnyE_take' (i := 14) (v := ?_) rfl (by kernel_rfl) (by kernel_rfl) (by kernel_rfl) (by kernel_rfl) (by kernel_rfl) (fun _ _ _ h => h) (Or.inl ⟨by rfl, fun w hSw => ?_⟩) hHeld ?_
   rotate_left
   · ((try dsimp only at hSw); go_simp; try with_reducible rfl)
   try simp only [p7]
   refine wpAnyE_step (i := 8) (by kernel_rfl) rfl rfl (fun K hK => ?_)
   go_simp
   go_at_call 28
   refine (copyRows_any HR1.out hm1).mono ?_
   rintro e V1 ⟨hd1, D1, q1, f1, rfl, ho1⟩
   have hv1 := hd1.size
   have hy1 := (Below.cell hd1 (p := ⟨g6, 4, none⟩) (Nat.lt_of_lt_of_le HGL.out (Nat.le_refl _))).trans hy0
   have hx1 := (Below.cell hd1 (p := ⟨wo.heap.size, 4, none⟩) (Nat.lt_of_lt_of_le HXL.out (Nat.le_refl _))).trans hx0
   have ha1 := (Below.cell hd1 (p := ⟨bc, oc + k * 2, none⟩) (Nat.lt_of_lt_of_le HBL.out (Nat.le_refl _))).trans ha0
   have hc1 := (Below.cell hd1 (p := ⟨bc, oc + k * 2 + 1, none⟩) (Nat.lt_of_lt_of_le HBL.out (Nat.le_refl _))).trans hc0
   have HD1 := hid hd1
   have HP1 := hid ho1
   clear hd1 ho1
   go_wp2_with fail
   refine hK.out _ _ (fun _ => ?_) ?_
   · (try dsimp only); exact ⟨hy1, hx1, ha1, hc1⟩
   clear hK K
   try simp only [p7]
   replace hHeld := (And.intro hy1 (And.intro hx1 (And.intro ha1 hc1)))
   refine wpAnyE_step (i := 15) (by kernel_rfl) rfl rfl (fun K hK => ?_)
   go_simp
   go_at_call 28
   refine (copyRows_any (HR2.out.below HD1.out) hm2).mono ?_
   rintro e V2 ⟨hd2, D2, q2, f2, rfl, ho2⟩
   have hv2 := hd2.size
   have hy2 := (Below.cell hd2 (p := ⟨g6, 4, none⟩) (Nat.lt_of_lt_of_le HGL.out hv1)).trans hy1
   have hx2 := (Below.cell hd2 (p := ⟨wo.heap.size, 4, none⟩) (Nat.lt_of_lt_of_le HXL.out hv1)).trans hx1
   have ha2 := (Below.cell hd2 (p := ⟨bc, oc + k * 2, none⟩) (Nat.lt_of_lt_of_le HBL.out hv1)).trans ha1
   have hc2 := (Below.cell hd2 (p := ⟨bc, oc + k * 2 + 1, none⟩) (Nat.lt_of_lt_of_le HBL.out hv1)).trans hc1
   have HD2 := hid hd2
   have HP2 := hid ho2
   clear hd2 ho2
   go_wp2_with fail
   refine hK.out _ _ (fun _ => ?_) ?_
   · (try dsimp only); exact ⟨hy2, hx2, ha2, hc2⟩
   clear hK K
   try simp only [p7]
   replace hHeld := (And.intro hy2 (And.intro hx2 (And.intro ha2 hc2)))
   refine wpAnyE_take' (i := 16) (v := ?_) rfl (by kernel_rfl) (by kernel_rfl) (by kernel_rfl) (by kernel_rfl) (by kernel_rfl) (fun _ _ _ h => h) (Or.inl ⟨by rfl, fun w hSw => ?_⟩) hHeld ?_
   rotate_left
   · ((try dsimp only at hSw); go_simp; try with_reducible rfl)
   try simp only [p7]
   have hv02 : V0.heap.size ≤ V2.heap.size := by omega
   have hal := below_alloc V2 (.cells #[.slice D1 q1 f1, .slice D2 q2 f2] 62)
   have hy3 := (Below.cell hal (p := ⟨g6, 4, none⟩) (Nat.lt_of_lt_of_le HGL.out hv02)).trans hy2
   have hx3 := (Below.cell hal (p := ⟨wo.heap.size, 4, none⟩) (Nat.lt_of_lt_of_le HXL.out hv02)).trans hx2
   have ha3 := (Below.cell hal (p := ⟨bc, oc + k * 2, none⟩) (Nat.lt_of_lt_of_le HBL.out hv02)).trans ha2
   have hc3 := (Below.cell hal (p := ⟨bc, oc + k * 2 + 1, none⟩) (Nat.lt_of_lt_of_le HBL.out hv02)).trans hc2
   refine wpAnyE_step (i := 17) (by kernel_rfl) rfl rfl (fun K hK => ?_)
   go_simp
   refine hK.out _ _ (fun _ => ?_) ?_
   · (try dsimp only); exact ⟨hy3, hx3, ha3, hc3⟩
   clear hK K
   try simp only [p7]
   replace hHeld := (And.intro hy3 (And.intro hx3 (And.intro ha3 hc3)))
   have HB3 : Hid (Below V0.heap.size V0 (V2.alloc (.cells #[.slice D1 q1 f1, .slice D2 q2 f2] 62))) := hid ((HD1.out.trans (HD2.out.mono hv1)).trans (hal.mono hv02))
   have HN1 : Hid (RowsR (New V0 (V2.alloc (.cells #[.slice D1 q1 f1, .slice D2 q2 f2] 62))) (V2.alloc (.cells #[.slice D1 q1 f1, .slice D2 q2 f2] 62)) D1 q1 f1 cx.args) := hid (HP1.out.keep fun q hq => ⟨⟨hq.1, by have := hq.2; simp; omega⟩, fun o => (hal.cell (p := ⟨q, o, none⟩) (by have := hq.2; simp; omega)).trans (HD2.out.cell (p := ⟨q, o, none⟩) hq.2)⟩)
   have HN2 : Hid (RowsR (New V0 (V2.alloc (.cells #[.slice D1 q1 f1, .slice D2 q2 f2] 62))) (V2.alloc (.cells #[.slice D1 q1 f1, .slice D2 q2 f2] 62)) D2 q2 f2 cx.outs) := hid (HP2.out.keep fun q hq => ⟨⟨by have := hq.1; omega, by have := hq.2; simp; omega⟩, fun o => hal.cell (p := ⟨q, o, none⟩) hq.2⟩)
   have HO3 := hid (own_below H4.out.own HB3.out)
   have HBK3 := hid (Blk.new V2 62 #[.slice D1 q1 f1, .slice D2 q2 f2])
   have hnews := blk_news HBK3.out
   have HNEW := hid hnews
   have hv3 : V2.heap.size + 1 = (V2.alloc (.cells #[.slice D1 q1 f1, .slice D2 q2 f2] 62)).heap.size := by simp
   have HY3 := hid (H4.out.y.below HB3.out H4.out.y.lt)
   clear hnews hal HD1 HD2 HP1 HP2 hv02
   generalize hgV : (V2.alloc (.cells #[.slice D1 q1 f1, .slice D2 q2 f2] 62)) = V3 at *
   clear hgV
   refine wpAnyE_step (i := 18) (by kernel_rfl) rfl rfl (fun K hK => ?_)
   refine oper_append_mine (.tmp 59) (.tmp 75) 50 rfl wm.heap.size 62 i4 _ 2 48 Try.underlying50 HI4a.out HI4b.out HI4c.out HI4d.out rfl (by decide) (.slice B k d) k us (by rfl) HO3.out (some ⟨V2.heap.size, 0, none⟩) 1 1 [.slice D1 q1 f1, .slice D2 q2 f2] (by rfl) rfl (fun e => by cases e) HNEW.out (by simp [Value.oneCell']) (by unfold maxLen; omega) (by omega) (by omega) ?_
   intro A4 c4 V4 hap
   have hv4 := hap.grown.size
   have hnb : ∀ g, (Value.slice B k d).ownBlock = some g → wm.heap.size ≤ g := fun g hg => (ownsRow_block HO3.out hg).1
   have hy4 := (cell_of_heap (hap.grown.block g6 (by have := HGL.out; omega) (fun e => by have := hnb _ e.symm; have := HGM.out; omega)) 4).trans hy3
   have hx4 := (cell_of_heap (hap.grown.block wo.heap.size (by have := HXL.out; omega) (fun e => by have := hnb _ e.symm; have := HXM.out; omega)) 4).trans hx3
   have ha4 := (cell_of_heap (hap.grown.block bc (by have := HBL.out; omega) (fun e => by have := hnb _ e.symm; have := HBM.out; omega)) (oc + k * 2)).trans ha3
   have hc4' := (cell_of_heap (hap.grown.block bc (by have := HBL.out; omega) (fun e => by have := hnb _ e.symm; have := HBM.out; omega)) (oc + k * 2 + 1)).trans hc3
   have hyf : V4.frozen? ⟨g6, 4, none⟩ = false := Blk.frozen (HY3.out.grown hap.grown (fun e => by have := hnb _ e.symm; have := HGM.out; omega)) 4
   have HPU := hid (CB4.push H4.out HGM.out HTK.out HB3.out HN1.out HN2.out hap)
   clear hap hnb
   refine hK.out _ _ (fun _ => ?_) ?_
   · (try dsimp only); exact ⟨hy4, hx4, ha4, hc4'⟩
   clear hK K
   try simp only [p7]
   replace hHeld := (And.intro hy4 (And.intro hx4 (And.intro ha4 hc4')))
   refine wpAnyE_take' (i := 19) (v := ?_) rfl (by kernel_rfl) (by kernel_rfl) (by kernel_rfl) (by kernel_rfl) (by kernel_rfl) (fun _ _ _ h => h) (Or.inl ⟨by rfl, fun w hSw => ?_⟩) hHeld ?_
   rotate_left
   · ((try dsimp only at hSw); go_simp; try with_reducible rfl)
   try simp only [p7]
   refine wpAnyE_step (i := 20) (by kernel_rfl) rfl rfl (fun K hK => ?_)
   go_simp
   refine hK.out _ _ (fun h => absurd rfl h) ?_
   clear hK K
   try simp only [p7]
   refine wpAnyE_end (by kernel_rfl) ?_ _
   go_wp2_with fail
   go_roundw
   case rel => exact ⟨k + 1, c4, A4, us ++ [.slice D1 q1 f1, .slice D2 q2 f2], by go_num, by omega, HPU⟩
   case measure => simp [intOf]; omega
end Go.Proofs.Ytjllmblbbgojbaa
