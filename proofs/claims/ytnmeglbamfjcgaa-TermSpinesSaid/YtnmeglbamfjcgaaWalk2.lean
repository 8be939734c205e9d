/- The walk over a row that is right: the closure that goes over one term. -/
import Derived.Test.YtnmeglbamfjcgaaProg
import Derived.Test.YtnmeglbamfjcgaaMem
import Derived.Test.YtnmeglbamfjcgaaTree
import Derived.Test.YtnmeglbamfjcgaaOwn
import Derived.Test.YtnmeglbamfjcgaaOwn2
import Derived.Test.YtnmeglbamfjcgaaOwn3
import Derived.Test.YtnmeglbamfjcgaaFold
import Derived.Test.YtnmeglbamfjcgaaWalkP
import Derived.Test.YtnmeglbamfjcgaaHeldE
import Derived.Test.YtnmeglbamfjcgaaHeldF
import Derived.Test.YtnmeglbamfjcgaaLeaf
import Derived.Test.YtnmeglbamfjcgaaLeaf2
import Derived.WalkKit
import Derived.WalkLawsBesides
import Derived.WalkSpells
import Derived.Lib.Hide
import Derived.Deep.RegionHeld3
namespace Go.Proofs.Ytnmeglbamfjcgaa
open Go.RowKit

theorem pp_head {l : List Nd} {n : Nd} {ats : List Nd} {k x : Fo} {rest : List Nd} (h : pp [false] l = some (.cons [] n ats k x, rest)) : 0 < l.length ∧ nth l 0 = n ∧ okN n = true := by
  cases l with
  | nil => simp [pp_cons, preOf] at h
  | cons y l =>
    rw [pp_cons] at h
    simp only [preOf, Option.bind_some] at h
    split at h
    · rename_i hok
      simp only [Option.bind_eq_some_iff, Option.some.injEq, Prod.mk.injEq, Fo.cons.injEq] at h
      obtain ⟨_, _, _, _, _, _, ⟨_, e, _⟩, _⟩ := h
      subst e
      exact ⟨by simp, rfl, hok⟩
    · cases h

theorem infoN : (Try.prog.info? 53).map (fun i => (i.zero, i.size, i.bytes)) = some (some (.agg #[.int .i64 0, .int .i64 0, .int .i64 0]), 3, 24) := by kernel_rfl

set_option linter.unusedSimpArgs false in
set_option maxRecDepth 100000 in
set_option maxHeartbeats 1000000 in
theorem walk2_sort {σ : Type} (C : WkC σ) (hG : C.Good) (m : Nat)
    (ih : ∀ (w : World) (v : Value) (q : Nat) (s : σ) (o : List Nd) (a : Int) (n : Nd) (ats : List Nd) (k : Fo) (rest : List Nd), C.St w v q s o → pp [false] (C.l.drop q) = some (.cons [] n ats k .nil, rest) → 0 ≤ a → a + 4 * fsize k ≤ 1000000000000 → C.V.D1 a s n k → o.length + (C.V.E1 a s n ats k).length ≤ C.M → fsize k < m →
      Calls Try.prog 68 #[.int .i64 a, .pointer (some ⟨C.H, 0, none⟩), .pointer (some ⟨C.H + 5, 0, none⟩), .pointer (some ⟨C.H + 2, 0, none⟩), .pointer (some ⟨C.H + 1, 0, none⟩), .pointer (some ⟨C.H + 6, 0, none⟩)] w (C.Post w v o (C.l.length - rest.length) (C.V.E1 a s n ats k) (C.V.S1 a s n k) (C.V.G1 a s n k)))
    (w : World) (v : Value) (q : Nat) (s : σ) (o : List Nd) (a : Int) (n : Nd) (ats : List Nd) (k : Fo) (rest : List Nd) (hst : C.St w v q s o) (hpp : pp [false] (C.l.drop q) = some (.cons [] n ats k .nil, rest)) (ha0 : 0 ≤ a) (ha1 : a + 4 * fsize k ≤ 1000000000000) (hD : C.V.D1 a s n k) (hM : o.length + (C.V.E1 a s n ats k).length ≤ C.M) (hsz : fsize k ≤ m) (h2 : n.op = 2) :
    Calls Try.prog 68 #[.int .i64 a, .pointer (some ⟨C.H, 0, none⟩), .pointer (some ⟨C.H + 5, 0, none⟩), .pointer (some ⟨C.H + 2, 0, none⟩), .pointer (some ⟨C.H + 1, 0, none⟩), .pointer (some ⟨C.H + 6, 0, none⟩)] w (C.Post w v o (C.l.length - rest.length) (C.V.E1 a s n ats k) (C.V.S1 a s n k) (C.V.G1 a s n k)) := by
  obtain ⟨Av, cv, rfl⟩ := hst.own.slice
  have HI := Lib.hid ih
  have HG := Lib.hid hG
  have HST := Lib.hid hst
  have HPP := Lib.hid hpp
  have HD := Lib.hid hD
  have HM := Lib.hid hM
  have HSZ := Lib.hid hsz
  have HA := Lib.hid ha1
  obtain ⟨hq0, hn, hok⟩ := pp_head hpp
  rw [List.length_drop] at hq0
  have hq : q < C.nn := by have := hst.tm.len; omega
  have hfew := hst.tm.few
  obtain ⟨tb, toff, hA, hRb, htm⟩ := hst.tm.mem (by omega)
  obtain ⟨g0, g1, g2⟩ := htm q (by have := hst.tm.len; omega)
  have hn' : nth C.l q = n := by rw [← hn, nth_drop]; rfl
  rw [hn'] at g0 g1 g2
  have hbl := (hG.hR tb hRb).1
  have hHs := hst.size
  have hs0 : C.H < w.heap.size := by omega
  have hs1 : C.H + 1 < w.heap.size := by omega
  have hs2 : C.H + 2 < w.heap.size := by omega
  have hs5 : C.H + 5 < w.heap.size := by omega
  have hs6 : C.H + 6 < w.heap.size := by omega
  have hst' : tb < w.heap.size := by omega
  have hen := hG.en
  have z0 := hst.bt.cell
  have z1 := hst.bo.cell
  have z2 := hst.bf.cell
  have z5 := hst.ba.cell
  have z6 := hst.br.cell
  have f5 := hst.ba.frozen
  rw [hA] at z0
  have HAe := Lib.hid hA
  have HN := Lib.hid hn'
  have HOK := Lib.hid hok
  have hq2 : (0 : Int) ≤ (q : Int) := by omega
  have hdm := hD.1
  have hlen1 : o.length + (C.V.em s n a).length ≤ C.M := by
    simp only [Vis.E1, List.length_append] at hM; omega
  have ha2 : a ≤ 1000000000000 := by omega
  have HDM := Lib.hid hdm
  have HL1 := Lib.hid hlen1
  clear hdm hlen1
  clear ih hG hst hpp hD hM hsz ha1 hn hok hA htm hn'
  · have h2b : (n.op == 2) = true := by simp [h2]
    have H2 := Lib.hid h2
    clear h2
    obtain ⟨hk0, _, hal, hdr, hb1'⟩ := pp_atoms HPP.out H2.out
    have hb1 : (q : Int) + 1 + n.b ≤ C.nn := by
      have h1 := congrArg List.length hdr
      rw [List.length_drop, List.length_append] at h1
      have := HST.out.tm.len
      omega
    have HK0 := Lib.hid hk0
    have HAL := Lib.hid hal
    have HDR := Lib.hid hdr
    clear hk0 hal hdr
    have hcap := HST.out.tm.cap
    go_enter Try.func68, Try.ntmps68
    go_wp2_with fail
    have hst1 := (HST.out.goOn HG.out ((q : Int) + 1) (q + 1) (by omega)).below HG.out (below_alloc _ (.cells #[.int .i64 n.op, .int .i64 n.a, .int .i64 n.b] 53))
    have hone := HG.out.one _ s _ o n a (by simp; omega) hst1.j hst1.own (fun k hk => (hst1.hv k hk).1) HOK.out HDM.out ha0 ha2 HL1.out
    refine hone.mono ?_
    rintro e w2 (⟨hok1, hm, hj, v', rfl, hown', hnew⟩ | ⟨hbad, rfl, hm⟩)
    · obtain ⟨Av', cv', rfl⟩ := hown'.slice
      have hb2 : Blk w2 w.heap.size 53 #[.int .i64 n.op, .int .i64 n.a, .int .i64 n.b] := Blk.moved (Blk.new' (by simp [World.setCell])) hm (WkC.S_lt HG.out (by omega)) (fun e => by have := HST.out.row _ e; omega)
      have hst3 := hst1.called HG.out hm hown' hnew hj
      have hB := fun k h1 h2 => hst1.keep HG.out hm (k := k) h1 h2
      have c0 := Blk.cell (hst1.bt.same (hB _ (by omega) (by omega)))
      have c1 := Blk.cell (hst1.bo.same (hB _ (by omega) (by omega)))
      have c1f := Blk.frozen (hst1.bo.same (hB _ (by omega) (by omega)))
      have c5 := Blk.cell (hst1.ba.same (hB _ (by omega) (by omega)))
      have cb := Blk.cell hb2
      have hs2' : w.heap.size + 1 ≤ w2.heap.size := by have := hm.size; simpa using this
      have hlb : w.heap.size < w2.heap.size := by omega
      have hl0 : C.H < w2.heap.size := by omega
      have hl1 : C.H + 1 < w2.heap.size := by omega
      have hl5 : C.H + 5 < w2.heap.size := by omega
      have hne1 : w.heap.size ≠ C.H + 1 := by omega
      have hne2 : C.H + 1 ≠ w.heap.size := by omega
      rw [HAe.out] at c0
      have HST3 := Lib.hid hst3
      have HST1 := Lib.hid hst1
      have HM2 := Lib.hid hm
      have HB2 := Lib.hid hb2
      have HOK1 := Lib.hid hok1
      have HNEW := Lib.hid hnew
      clear hst3 hst1 hm hb2 hok1 hB hone hown' hj hnew z0 z1 z2 z5 z6 f5 g0 g1 g2
      go_wp2_with fail
      have hb3 : Blk (w2.setCell ⟨C.H + 1, 0, none⟩ (.slice Av' (o ++ C.V.em s n a).length cv')) w.heap.size 53 #[.int .i64 n.op, .int .i64 n.a, .int .i64 n.b] := HB2.out.far (by simp; omega) _
      have hst3 := HST3.out
      have hm3 := ((((Moved.refl C.S' (Value.slice Av o.length cv).ownBlock w).setCell (p := ⟨C.H + 5, 0, none⟩) (.inr (.inr rfl)) (.int .i64 ((q : Int) + 1))).alloc (.cells #[.int .i64 n.op, .int .i64 n.a, .int .i64 n.b] 53)).trans (HM2.out.mono WkC.S_S') (fun g hg => .inl hg)).setCell (p := ⟨C.H + 1, 0, none⟩) (.inr (.inl rfl)) (.slice Av' (o ++ C.V.em s n a).length cv')
      have hnr3 : newRow (.slice Av o.length cv) (.slice Av' (o ++ C.V.em s n a).length cv') w := fun g hg => (HNEW.out g hg).imp id (fun h => by simp [World.setCell] at h; omega)
      rw [List.length_append] at hb3 hst3 hm3 hnr3
      clear HST3 HB2 c0 c1 c1f c5 cb
      generalize w2.setCell ⟨C.H + 1, 0, none⟩ (.slice Av' (o.length + (C.V.em s n a).length) cv') = w3 at hst3 hb3 hm3 ⊢
      have d0 := hst3.bt.cell
      have d1 := hst3.bo.cell
      have d1f := hst3.bo.frozen
      have d5' : w3.cell? ⟨C.H + 5, 0, none⟩ = some (.int .i64 ((q : Int) + 1)) := hst3.ba.cell 0
      have hnr : (Value.slice Av' (o.length + (C.V.em s n a).length) cv').ownBlock ≠ some w.heap.size := fun e => by
        rcases HNEW.out _ (by rw [List.length_append]; exact e) with h | h
        · have := HST.out.row _ h; omega
        · simp [World.setCell] at h
          omega
      have HNR := Lib.hid hnr
      clear hnr
      have db := hb3.cell
      rw [HAe.out] at d0
      have HST3 := Lib.hid hst3
      have HB3 := Lib.hid hb3
      have HM3 := Lib.hid hm3
      have HNR3 := Lib.hid hnr3
      clear hst3 hb3 hm3 hnr3 HM2
      obtain ⟨hb1a, hb1b⟩ := hb1'
      have e1 : (0 : Int) ≤ (q : Int) + 1 := by omega
      have e2 : (q : Int) + 1 ≤ (q : Int) + 1 + n.b := by omega
      have e3 : (q : Int) + 1 + n.b ≤ (C.c : Int) := by omega
      have e4 : ¬ C.c = q + 1 := by omega
      have e5 : max ((q : Int) + 1 + n.b) 0 = (q : Int) + 1 + n.b := by omega
      have hw1 : IntKind.i64.wrap ((q : Int) + 1 + n.b) = (q : Int) + 1 + n.b := IntWalk.i64_in _ (by omega)
      have hats : TermR C.R w3.drew (some ⟨tb, toff + (q + 1) * 3, none⟩) (((q : Int) + 1 + n.b).toNat - (q + 1)) (C.c - (q + 1)) ats := by
        have h1 := (HST3.out.drew HG.out).tm
        rw [HAe.out] at h1
        exact h1.mid HDR.out (by rw [HAL.out]; omega) (by omega) (by omega)
      have HATS := Lib.hid hats
      have hlb2 : C.base ≤ w3.drew.heap.size := by have := HG.out.hbase; have := HST3.out.size; simp; omega
      have hlen2 : o.length + (C.V.em s n a).length + (((q : Int) + 1 + n.b).toNat - (q + 1)) ≤ 1000000000000 := by
        have h1 := HM.out
        have h2 := HG.out.hM
        have h3 := HAL.out
        simp only [Vis.E1, List.length_append] at h1
        omega
      have HLB := Lib.hid hlb2
      have HLEN := Lib.hid hlen2
      obtain ⟨i0, hi, hy0, hy1, hy2⟩ := info_parts infoN
      have HI0 := Lib.hid hi
      have HY0 := Lib.hid hy0
      have HY1 := Lib.hid hy1
      have HY2 := Lib.hid hy2
      clear hats hlb2 hlen2 hi hy0 hy1 hy2
      have hown3 : OwnN w3.drew C.base (.slice Av' (o.length + (C.V.em s n a).length) cv') (o ++ C.V.em s n a) := (HST3.out.drew HG.out).own
      have HOWN3 := Lib.hid hown3
      clear hown3
      refine wp_region_noPanic ?_
      refine wp_region_E 9 (fun w' => w'.cell? ⟨C.H, 0, none⟩ = some (.slice (some ⟨tb, toff, none⟩) C.nn C.c) ∧ w'.cell? ⟨C.H + 1, 0, none⟩ = some (.slice Av' (o.length + (C.V.em s n a).length) cv') ∧ w'.cell? ⟨C.H + 5, 0, none⟩ = some (.int .i64 ((q : Int) + 1)) ∧ w'.cell? ⟨w.heap.size, 2, none⟩ = some (.int .i64 n.b)) (by rfl) ⟨d0 0, d1 0, d5', db 2⟩ (fun hS0 => ?_)
      refine wpAnyE_take' (i := 0) (v := ?_) rfl (by kernel_rfl) (by kernel_rfl) (by kernel_rfl) (by kernel_rfl) (by kernel_rfl) (fun _ _ _ h => h) (Or.inl ⟨by rfl, ?_⟩) (by assumption) ?_
      rotate_left
      · (intro w hSw; (try dsimp only at hSw); go_simp); all_goals with_reducible rfl
      try simp only [Act.put, List.getElem_toArray, List.getElem_cons_zero, List.getElem_cons_succ, List.setIfInBounds_toArray, List.set_cons_zero, List.set_cons_succ]
      refine wpAnyE_take' (i := 1) (v := ?_) rfl (by kernel_rfl) (by kernel_rfl) (by kernel_rfl) (by kernel_rfl) (by kernel_rfl) (fun _ _ _ h => h) (Or.inl ⟨by rfl, ?_⟩) (by assumption) ?_
      rotate_left
      · (intro w hSw; (try dsimp only at hSw); go_simp); all_goals with_reducible rfl
      try simp only [Act.put, List.getElem_toArray, List.getElem_cons_zero, List.getElem_cons_succ, List.setIfInBounds_toArray, List.set_cons_zero, List.set_cons_succ]
      refine wpAnyE_take' (i := 2) (v := ?_) rfl (by kernel_rfl) (by kernel_rfl) (by kernel_rfl) (by kernel_rfl) (by kernel_rfl) (fun _ _ _ h => h) (Or.inl ⟨by rfl, ?_⟩) (by assumption) ?_
      rotate_left
      · (intro w hSw; (try dsimp only at hSw); go_simp); all_goals with_reducible rfl
      try simp only [Act.put, List.getElem_toArray, List.getElem_cons_zero, List.getElem_cons_succ, List.setIfInBounds_toArray, List.set_cons_zero, List.set_cons_succ]
      refine wpAnyE_take' (i := 3) (v := ?_) rfl (by kernel_rfl) (by kernel_rfl) (by kernel_rfl) (by kernel_rfl) (by kernel_rfl) (fun _ _ _ h => h) (Or.inl ⟨by rfl, ?_⟩) (by assumption) ?_
      rotate_left
      · (intro w hSw; (try dsimp only at hSw); go_simp); all_goals with_reducible rfl
      try simp only [Act.put, List.getElem_toArray, List.getElem_cons_zero, List.getElem_cons_succ, List.setIfInBounds_toArray, List.set_cons_zero, List.set_cons_succ]
      refine wpAnyE_take' (i := 4) (v := ?_) rfl (by kernel_rfl) (by kernel_rfl) (by kernel_rfl) (by kernel_rfl) (by kernel_rfl) (fun _ _ _ h => h) (Or.inl ⟨by rfl, ?_⟩) (by assumption) ?_
      rotate_left
      · (intro w hSw; (try dsimp only at hSw); go_simp); all_goals with_reducible rfl
      try simp only [Act.put, List.getElem_toArray, List.getElem_cons_zero, List.getElem_cons_succ, List.setIfInBounds_toArray, List.set_cons_zero, List.set_cons_succ]
      refine wpAnyE_take' (i := 5) (v := ?_) rfl (by kernel_rfl) (by kernel_rfl) (by kernel_rfl) (by kernel_rfl) (by kernel_rfl) (fun _ _ _ h => h) (Or.inl ⟨by rfl, ?_⟩) (by assumption) ?_
      rotate_left
      · (intro w hSw; (try dsimp only at hSw); go_simp); all_goals with_reducible rfl
      try simp only [Act.put, List.getElem_toArray, List.getElem_cons_zero, List.getElem_cons_succ, List.setIfInBounds_toArray, List.set_cons_zero, List.set_cons_succ]
      refine wpAnyE_take' (i := 6) (v := ?_) rfl (by kernel_rfl) (by kernel_rfl) (by kernel_rfl) (by kernel_rfl) (by kernel_rfl) (fun _ _ _ h => h) (Or.inl ⟨by rfl, ?_⟩) (by assumption) ?_
      rotate_left
      · (intro w hSw; (try dsimp only at hSw); go_simp); all_goals with_reducible rfl
      try simp only [Act.put, List.getElem_toArray, List.getElem_cons_zero, List.getElem_cons_succ, List.setIfInBounds_toArray, List.set_cons_zero, List.set_cons_succ]
      refine wpAnyE_take' (i := 7) (v := ?_) rfl (by kernel_rfl) (by kernel_rfl) (by kernel_rfl) (by kernel_rfl) (by kernel_rfl) (fun _ _ _ h => h) (Or.inl ⟨by rfl, ?_⟩) (by assumption) ?_
      rotate_left
      · (intro w hSw; (try dsimp only at hSw); go_simp); all_goals with_reducible rfl
      try simp only [Act.put, List.getElem_toArray, List.getElem_cons_zero, List.getElem_cons_succ, List.setIfInBounds_toArray, List.set_cons_zero, List.set_cons_succ]
      refine wpAnyE_step (i := 8) (by kernel_rfl) rfl rfl (fun K8 hK8 => ?_)
      refine oper_append_row (.tmp 23) (.tmp 30) 23 23 rfl C.base i0 Try.underlying23 Try.underlying23 HI0.out HY0.out HY1.out HY2.out (.slice Av' (o.length + (C.V.em s n a).length) cv') (o ++ C.V.em s n a) ats (by rfl) HOWN3.out (by rfl) HATS.out (by have := HLEN.out; rw [List.length_append]; omega) HLB.out ?_
      intro A' c' w' hown' happ
      simp only [List.length_append] at hown' happ
      have hgk := fun k hk => (HST3.out.drew HG.out).rowKeep HG.out happ.grown (k := k) hk
      have zb := (HST3.out.drew HG.out).bo.same (hgk _ (.inl ⟨by omega, by omega⟩))
      have zc := zb.cell
      have zf := zb.frozen
      have hS4 : w'.cell? ⟨C.H, 0, none⟩ = some (.slice (some ⟨tb, toff, none⟩) C.nn C.c) ∧ w'.cell? ⟨C.H + 1, 0, none⟩ = some (.slice Av' (o.length + (C.V.em s n a).length) cv') ∧ w'.cell? ⟨C.H + 5, 0, none⟩ = some (.int .i64 ((q : Int) + 1)) ∧ w'.cell? ⟨w.heap.size, 2, none⟩ = some (.int .i64 n.b) := ⟨(cell_of_heap (hgk _ (.inl ⟨by omega, by omega⟩)) 0).trans (d0 0), zc 0, (cell_of_heap (hgk _ (.inl ⟨by omega, by omega⟩)) 0).trans d5', (cell_of_heap (hgk _ (.inr ⟨HNR.out, HB3.out.lt⟩)) 2).trans (db 2)⟩
      refine hK8.out _ _ (fun _ => hS4) ?_
      try simp only [Act.put, List.getElem_toArray, List.getElem_cons_zero, List.getElem_cons_succ, List.setIfInBounds_toArray, List.set_cons_zero, List.set_cons_succ]
      refine wpAnyE_step (i := 9) (by kernel_rfl) rfl rfl (fun K9 hK9 => ?_)
      go_simp
      refine hK9.out _ _ (fun h => absurd rfl h) ?_
      refine wpAnyE_end (by kernel_rfl) (NoPanic.normal ?_) _
      have hst5 := (HST3.out.drew HG.out).laid HG.out happ.grown hown' (fun g hg => happ.new g hg)
      have hb5 : Blk (w'.setCell ⟨C.H + 1, 0, none⟩ (.slice A' (o.length + (C.V.em s n a).length + (((q : Int) + 1 + n.b).toNat - (q + 1))) c')) w.heap.size 53 #[.int .i64 n.op, .int .i64 n.a, .int .i64 n.b] := Blk.far (Blk.same HB3.out (hgk _ (.inr ⟨HNR.out, HB3.out.lt⟩))) (by simp; omega) _
      have hm5 := (HM3.out.drew.trans (Moved.of_grown happ.grown) (fun g hg => HNR3.out g hg)).setCell (p := ⟨C.H + 1, 0, none⟩) (.inr (.inl rfl)) (.slice A' (o.length + (C.V.em s n a).length + (((q : Int) + 1 + n.b).toNat - (q + 1))) c')
      have hnr5 : newRow (.slice Av o.length cv) (.slice A' (o.length + (C.V.em s n a).length + (((q : Int) + 1 + n.b).toNat - (q + 1))) c') w := HNR3.out.trans (fun g hg => happ.new g hg) HM3.out.size
      clear zb zc zf hS4 hgk happ hown' HST3 HB3 HM3 HNR3 HNR hS0 d0 d1 d1f d5' db HATS
      generalize w'.setCell ⟨C.H + 1, 0, none⟩ (.slice A' (o.length + (C.V.em s n a).length + (((q : Int) + 1 + n.b).toNat - (q + 1))) c') = w5 at hst5 hb5 hm5 ⊢
      have d5 : w5.cell? ⟨C.H + 5, 0, none⟩ = some (.int .i64 ((q : Int) + 1)) := hst5.ba.cell 0
      have d5f := hst5.ba.frozen
      have db := hb5.cell
      have hl5' : C.H + 5 < w5.heap.size := hst5.ba.lt
      have hlb5 : w.heap.size < w5.heap.size := hb5.lt
      have hne3 : w.heap.size ≠ C.H + 5 := by omega
      have hne4 : C.H + 5 ≠ w.heap.size := by omega
      have hk0 : kidsI n.op n.b = 0 := by rw [H2.out]; rfl
      have HST5 := Lib.hid hst5
      have HB5 := Lib.hid hb5
      have HM5 := Lib.hid hm5
      have HNR5 := Lib.hid hnr5
      clear hst5 hb5 hm5 hnr5
      go_wp2_with (go_at_call 60; refine (kids_any _ _ _ _ ⟨by omega, by omega⟩).mono ?_; rintro e w6 ⟨rfl, rfl⟩)
      refine wp_loop_rounds 1 ?_
      rw [rounds_succ]
      go_wp2_with fail
      refine bodyPost_end (results_none rfl _ _ _) rfl (.inl ⟨?_, rfl, ?_, _, ?_, HNR5.out⟩)
      · rw [HK0.out]
        simp [Vis.G1, Vis.G, HOK1.out]
      · exact (HM5.out.setCell (p := ⟨C.H + 5, 0, none⟩) (.inr (.inr rfl)) _).alloc _
      · have h1 := (HST5.out.goOn HG.out ((q : Int) + 1 + n.b) (C.l.length - rest.length) (by
          have h1 := congrArg List.length HDR.out
          have h2 := HAL.out
          have h3 := HST.out.tm.len
          rw [List.length_drop, List.length_append] at h1
          omega)).below HG.out (below_alloc _ (.cells #[.int .i64 n.op, .int .i64 n.a, .int .i64 n.b] 53))
        rw [HK0.out]
        simpa only [Vis.E1, Vis.S1, Vis.E, Vis.S, List.append_nil, List.append_assoc] using h1
    · refine ⟨rfl, .inr ⟨by simp [Vis.G1, hbad], rfl, ?_⟩⟩
      exact (((Moved.refl _ _ w).setCell (p := ⟨C.H + 5, 0, none⟩) (.inr (.inr rfl)) _).alloc _).trans (hm.mono WkC.S_S') (fun g hg => .inl hg)

end Go.Proofs.Ytnmeglbamfjcgaa
