/- Merged: Walk2, Walk3, Walk4, Raised, Each. -/
import Derived.Test.YtjoddliplahgkaaProg
import Derived.Test.YtjoddliplahgkaaDBase
import Derived.Test.YtjoddliplahgkaaDLeafs
import Derived.WalkKit
import Derived.WalkLawsBesides
import Derived.WalkSpells
import Derived.Lib.Hide
import Derived.Deep.RegionHeld3
import Derived.Defers
import Derived.Recover
import Derived.Laws.EntriesVeiled
namespace Go.Proofs.Ytjoddliplahgkaa
open Go.Lib (hid)
set_option maxHeartbeats 1000000
set_option maxRecDepth 100000
set_option linter.unusedSimpArgs false
section
open Go.RowKit
theorem pp_head {l : List Nd} {n : Nd} {ats : List Nd} {k x : Fo} {rest : List Nd} (h : pp [false] l = some (.cons [] n ats k x, rest)) : 0 < l.length ∧ nth l 0 = n ∧ okN n = true := by
 cases l with
 | nil => simp [pp_cons, preOf] at h
 | cons y l =>
  rw [pp_cons] at h
  simp only [preOf, Option.bind_some] at h
  split at h
  · rename_i hok
    simp only [Option.bind_eq_some_iff, Option.some.injEq, Prod.mk.injEq, Fo.cons.injEq] at h
    obtain ⟨_, _, _, _, _, _, ⟨_, e, _⟩, _⟩ := h
    subst e
    exact ⟨by simp, rfl, hok⟩
  · cases h
theorem infoN : (Try.prog.info? 50).map (fun i => (i.zero, i.size, i.bytes)) = some (some (.agg #[.int .i64 0, .int .i64 0, .int .i64 0]), 3, 24) := by kernel_rfl
theorem walk2_sort {σ : Type} (C : WkC σ) (hG : C.Good) (m : Nat)
 (ih : ∀ (w : World) (v : Value) (q : Nat) (s : σ) (o : List Nd) (a : Int) (n : Nd) (ats : List Nd) (k : Fo) (rest : List Nd), C.St w v q s o → pp [false] (C.l.drop q) = some (.cons [] n ats k .nil, rest) → 0 ≤ a → a + 4 * fsize k ≤ 1000000000000 → C.V.D1 a s n k → o.length + (C.V.E1 a s n ats k).length ≤ C.M → fsize k < m →
  Calls Try.prog 72 #[.int .i64 a, .pointer (some ⟨C.H, 0, none⟩), .pointer (some ⟨C.H + 5, 0, none⟩), .pointer (some ⟨C.H + 2, 0, none⟩), .pointer (some ⟨C.H + 1, 0, none⟩), .pointer (some ⟨C.H + 6, 0, none⟩)] w (C.Post w v o (C.l.length - rest.length) (C.V.E1 a s n ats k) (C.V.S1 a s n k) (C.V.G1 a s n k)))
 (w : World) (v : Value) (q : Nat) (s : σ) (o : List Nd) (a : Int) (n : Nd) (ats : List Nd) (k : Fo) (rest : List Nd) (hst : C.St w v q s o) (hpp : pp [false] (C.l.drop q) = some (.cons [] n ats k .nil, rest)) (ha0 : 0 ≤ a) (ha1 : a + 4 * fsize k ≤ 1000000000000) (hD : C.V.D1 a s n k) (hM : o.length + (C.V.E1 a s n ats k).length ≤ C.M) (hsz : fsize k ≤ m) (h2 : n.op = 2) :
 Calls Try.prog 72 #[.int .i64 a, .pointer (some ⟨C.H, 0, none⟩), .pointer (some ⟨C.H + 5, 0, none⟩), .pointer (some ⟨C.H + 2, 0, none⟩), .pointer (some ⟨C.H + 1, 0, none⟩), .pointer (some ⟨C.H + 6, 0, none⟩)] w (C.Post w v o (C.l.length - rest.length) (C.V.E1 a s n ats k) (C.V.S1 a s n k) (C.V.G1 a s n k)) := by
 obtain ⟨Av, cv, rfl⟩ := hst.own.slice
 have HI := hid ih
 have HG := hid hG
 have HST := hid hst
 have HPP := hid hpp
 have HD := hid hD
 have HM := hid hM
 have HSZ := hid hsz
 have HA := hid ha1
 obtain ⟨hq0, hn, hok⟩ := pp_head hpp
 rw [List.length_drop] at hq0
 have hq : q < C.nn := by have := hst.tm.len; omega
 have hfew := hst.tm.few
 obtain ⟨tb, toff, hA, hRb, htm⟩ := hst.tm.mem (by omega)
 obtain ⟨g0, g1, g2⟩ := htm q (by have := hst.tm.len; omega)
 have hn' : nth C.l q = n := by rw [← hn, nth_drop]; rfl
 rw [hn'] at g0 g1 g2
 have hbl := (hG.hR tb hRb).1
 have hHs := hst.size
 have hs0 : C.H < w.heap.size := by omega
 have hs1 : C.H + 1 < w.heap.size := by omega
 have hs2 : C.H + 2 < w.heap.size := by omega
 have hs5 : C.H + 5 < w.heap.size := by omega
 have hs6 : C.H + 6 < w.heap.size := by omega
 have hst' : tb < w.heap.size := by omega
 have hen := hG.en
 have z0 := hst.bt.cell
 have z1 := hst.bo.cell
 have z2 := hst.bf.cell
 have z5 := hst.ba.cell
 have z6 := hst.br.cell
 have f5 := hst.ba.frozen
 rw [hA] at z0
 have HAe := hid hA
 have HN := hid hn'
 have HOK := hid hok
 have hq2 : (0 : Int) ≤ (q : Int) := by omega
 have hdm := hD.1
 have hlen1 : o.length + (C.V.em s n a).length ≤ C.M := by
  simp only [Vis.E1, List.length_append] at hM; omega
 have ha2 : a ≤ 1000000000000 := by omega
 have HDM := hid hdm
 have HL1 := hid hlen1
 clear hdm hlen1
 clear ih hG hst hpp hD hM hsz ha1 hn hok hA htm hn'
 have h2b : (n.op == 2) = true := by simp [h2]
 have H2 := hid h2
 clear h2
 obtain ⟨hk0, _, hal, hdr, hb1'⟩ := pp_atoms HPP.out H2.out
 have hb1 : (q : Int) + 1 + n.b ≤ C.nn := by
  have h1 := congrArg List.length hdr
  rw [List.length_drop, List.length_append] at h1
  have := HST.out.tm.len
  omega
 have HK0 := hid hk0
 have HAL := hid hal
 have HDR := hid hdr
 clear hk0 hal hdr
 have hcap := HST.out.tm.cap
 go_in
 go_wp2_with fail
 have hst1 := (HST.out.goOn HG.out ((q : Int) + 1) (q + 1) (by omega)).below HG.out (below_alloc _ (.cells #[.int .i64 n.op, .int .i64 n.a, .int .i64 n.b] 50))
 have hone := HG.out.one _ s _ o n a (by simp; omega) hst1.j hst1.own (fun k hk => (hst1.hv k hk).1) HOK.out HDM.out ha0 ha2 HL1.out
 refine hone.mono ?_
 rintro e w2 (⟨hok1, hm, hj, v', rfl, hown', hnew⟩ | ⟨hbad, rfl, hm⟩)
 rotate_left
 · refine ⟨rfl, .inr ⟨by simp [Vis.G1, hbad], rfl, ?_⟩⟩
   exact (((Moved.refl _ _ w).setCell (p := ⟨C.H + 5, 0, none⟩) (.inr (.inr rfl)) _).alloc _).trans (hm.mono WkC.S_S') (fun g hg => .inl hg)
 obtain ⟨Av', cv', rfl⟩ := hown'.slice
 have hb2 : Blk w2 w.heap.size 50 #[.int .i64 n.op, .int .i64 n.a, .int .i64 n.b] := Blk.moved (Blk.new' (by simp [World.setCell])) hm (WkC.S_lt HG.out (by omega)) (fun e => by have := HST.out.row _ e; omega)
 have hst3 := hst1.called HG.out hm hown' hnew hj
 have hB := fun k h1 h2 => hst1.keep HG.out hm (k := k) h1 h2
 have c0 := Blk.cell (hst1.bt.same (hB _ (by omega) (by omega)))
 have c1 := Blk.cell (hst1.bo.same (hB _ (by omega) (by omega)))
 have c1f := Blk.frozen (hst1.bo.same (hB _ (by omega) (by omega)))
 have c5 := Blk.cell (hst1.ba.same (hB _ (by omega) (by omega)))
 have cb := Blk.cell hb2
 have hs2' : w.heap.size + 1 ≤ w2.heap.size := by have := hm.size; simpa using this
 have hlb : w.heap.size < w2.heap.size := by omega
 have hl0 : C.H < w2.heap.size := by omega
 have hl1 : C.H + 1 < w2.heap.size := by omega
 have hl5 : C.H + 5 < w2.heap.size := by omega
 have hne1 : w.heap.size ≠ C.H + 1 := by omega
 have hne2 : C.H + 1 ≠ w.heap.size := by omega
 rw [HAe.out] at c0
 have HST3 := hid hst3
 have HST1 := hid hst1
 have HM2 := hid hm
 have HB2 := hid hb2
 have HOK1 := hid hok1
 have HNEW := hid hnew
 clear hst3 hst1 hm hb2 hok1 hB hone hown' hj hnew z0 z1 z2 z5 z6 f5 g0 g1 g2
 go_wp2_with fail
 have hb3 : Blk (w2.setCell ⟨C.H + 1, 0, none⟩ (.slice Av' (o ++ C.V.em s n a).length cv')) w.heap.size 50 #[.int .i64 n.op, .int .i64 n.a, .int .i64 n.b] := HB2.out.far (by simp; omega) _
 have hst3 := HST3.out
 have hm3 := ((((Moved.refl C.S' (Value.slice Av o.length cv).ownBlock w).setCell (p := ⟨C.H + 5, 0, none⟩) (.inr (.inr rfl)) (.int .i64 ((q : Int) + 1))).alloc (.cells #[.int .i64 n.op, .int .i64 n.a, .int .i64 n.b] 50)).trans (HM2.out.mono WkC.S_S') (fun g hg => .inl hg)).setCell (p := ⟨C.H + 1, 0, none⟩) (.inr (.inl rfl)) (.slice Av' (o ++ C.V.em s n a).length cv')
 have hnr3 : newRow (.slice Av o.length cv) (.slice Av' (o ++ C.V.em s n a).length cv') w := fun g hg => (HNEW.out g hg).imp id (fun h => by simp [World.setCell] at h; omega)
 rw [List.length_append] at hb3 hst3 hm3 hnr3
 clear HST3 HB2 c0 c1 c1f c5 cb
 generalize w2.setCell ⟨C.H + 1, 0, none⟩ (.slice Av' (o.length + (C.V.em s n a).length) cv') = w3 at hst3 hb3 hm3 ⊢
 have d0 := hst3.bt.cell
 have d1 := hst3.bo.cell
 have d1f := hst3.bo.frozen
 have d5' : w3.cell? ⟨C.H + 5, 0, none⟩ = some (.int .i64 ((q : Int) + 1)) := hst3.ba.cell 0
 have hnr : (Value.slice Av' (o.length + (C.V.em s n a).length) cv').ownBlock ≠ some w.heap.size := fun e => by
  rcases HNEW.out _ (by rw [List.length_append]; exact e) with h | h
  · have := HST.out.row _ h; omega
  simp [World.setCell] at h
  omega
 have HNR := hid hnr
 clear hnr
 have db := hb3.cell
 rw [HAe.out] at d0
 have HST3 := hid hst3
 have HB3 := hid hb3
 have HM3 := hid hm3
 have HNR3 := hid hnr3
 clear hst3 hb3 hm3 hnr3 HM2
 obtain ⟨hb1a, hb1b⟩ := hb1'
 have e1 : (0 : Int) ≤ (q : Int) + 1 := by omega
 have e2 : (q : Int) + 1 ≤ (q : Int) + 1 + n.b := by omega
 have e3 : (q : Int) + 1 + n.b ≤ (C.c : Int) := by omega
 have e4 : ¬ C.c = q + 1 := by omega
 have e5 : max ((q : Int) + 1 + n.b) 0 = (q : Int) + 1 + n.b := by omega
 have hw1 : IntKind.i64.wrap ((q : Int) + 1 + n.b) = (q : Int) + 1 + n.b := IntWalk.i64_in _ (by omega)
 have hats : TermR C.R w3.drew (some ⟨tb, toff + (q + 1) * 3, none⟩) (((q : Int) + 1 + n.b).toNat - (q + 1)) (C.c - (q + 1)) ats := by
  have h1 := (HST3.out.drew HG.out).tm
  rw [HAe.out] at h1
  exact h1.mid HDR.out (by rw [HAL.out]; omega) (by omega) (by omega)
 have HATS := hid hats
 have hlb2 : C.base ≤ w3.drew.heap.size := by have := HG.out.hbase; have := HST3.out.size; simp; omega
 have hlen2 : o.length + (C.V.em s n a).length + (((q : Int) + 1 + n.b).toNat - (q + 1)) ≤ 1000000000000 := by
  have h1 := HM.out
  have h2 := HG.out.hM
  have h3 := HAL.out
  simp only [Vis.E1, List.length_append] at h1
  omega
 have HLB := hid hlb2
 have HLEN := hid hlen2
 obtain ⟨i0, hi, hy0, hy1, hy2⟩ := info_parts infoN
 have HI0 := hid hi
 have HY0 := hid hy0
 have HY1 := hid hy1
 have HY2 := hid hy2
 clear hats hlb2 hlen2 hi hy0 hy1 hy2
 have hown3 : OwnN w3.drew C.base (.slice Av' (o.length + (C.V.em s n a).length) cv') (o ++ C.V.em s n a) := (HST3.out.drew HG.out).own
 have HOWN3 := hid hown3
 clear hown3
 refine wp_region_noPanic ?_
 refine wp_region_E 9 (fun w' => w'.cell? ⟨C.H, 0, none⟩ = some (.slice (some ⟨tb, toff, none⟩) C.nn C.c) ∧ w'.cell? ⟨C.H + 1, 0, none⟩ = some (.slice Av' (o.length + (C.V.em s n a).length) cv') ∧ w'.cell? ⟨C.H + 5, 0, none⟩ = some (.int .i64 ((q : Int) + 1)) ∧ w'.cell? ⟨w.heap.size, 2, none⟩ = some (.int .i64 n.b)) (by rfl) ⟨d0 0, d1 0, d5', db 2⟩ (fun hS0 => ?_)
 refine wpAnyE_take' (i := 0) (v := ?_) rfl (by kernel_rfl) (by kernel_rfl) (by kernel_rfl) (by kernel_rfl) (by kernel_rfl) (fun _ _ _ h => h) (Or.inl ⟨by rfl, ?_⟩) (by assumption) ?_
 rotate_left
 · (intro w hSw; (try dsimp only at hSw); go_simp); all_goals with_reducible rfl
 try simp only [Act.put, List.getElem_toArray, List.getElem_cons_zero, List.getElem_cons_succ, List.setIfInBounds_toArray, List.set_cons_zero, List.set_cons_succ]
 refine wpAnyE_take' (i := 1) (v := ?_) rfl (by kernel_rfl) (by kernel_rfl) (by kernel_rfl) (by kernel_rfl) (by kernel_rfl) (fun _ _ _ h => h) (Or.inl ⟨by rfl, ?_⟩) (by assumption) ?_
 rotate_left
 · (intro w hSw; (try dsimp only at hSw); go_simp); all_goals with_reducible rfl
 try simp only [Act.put, List.getElem_toArray, List.getElem_cons_zero, List.getElem_cons_succ, List.setIfInBounds_toArray, List.set_cons_zero, List.set_cons_succ]
 refine wpAnyE_take' (i := 2) (v := ?_) rfl (by kernel_rfl) (by kernel_rfl) (by kernel_rfl) (by kernel_rfl) (by kernel_rfl) (fun _ _ _ h => h) (Or.inl ⟨by rfl, ?_⟩) (by assumption) ?_
 rotate_left
 · (intro w hSw; (try dsimp only at hSw); go_simp); all_goals with_reducible rfl
 try simp only [Act.put, List.getElem_toArray, List.getElem_cons_zero, List.getElem_cons_succ, List.setIfInBounds_toArray, List.set_cons_zero, List.set_cons_succ]
 refine wpAnyE_take' (i := 3) (v := ?_) rfl (by kernel_rfl) (by kernel_rfl) (by kernel_rfl) (by kernel_rfl) (by kernel_rfl) (fun _ _ _ h => h) (Or.inl ⟨by rfl, ?_⟩) (by assumption) ?_
 rotate_left
 · (intro w hSw; (try dsimp only at hSw); go_simp); all_goals with_reducible rfl
 try simp only [Act.put, List.getElem_toArray, List.getElem_cons_zero, List.getElem_cons_succ, List.setIfInBounds_toArray, List.set_cons_zero, List.set_cons_succ]
 refine wpAnyE_take' (i := 4) (v := ?_) rfl (by kernel_rfl) (by kernel_rfl) (by kernel_rfl) (by kernel_rfl) (by kernel_rfl) (fun _ _ _ h => h) (Or.inl ⟨by rfl, ?_⟩) (by assumption) ?_
 rotate_left
 · (intro w hSw; (try dsimp only at hSw); go_simp); all_goals with_reducible rfl
 try simp only [Act.put, List.getElem_toArray, List.getElem_cons_zero, List.getElem_cons_succ, List.setIfInBounds_toArray, List.set_cons_zero, List.set_cons_succ]
 refine wpAnyE_take' (i := 5) (v := ?_) rfl (by kernel_rfl) (by kernel_rfl) (by kernel_rfl) (by kernel_rfl) (by kernel_rfl) (fun _ _ _ h => h) (Or.inl ⟨by rfl, ?_⟩) (by assumption) ?_
 rotate_left
 · (intro w hSw; (try dsimp only at hSw); go_simp); all_goals with_reducible rfl
 try simp only [Act.put, List.getElem_toArray, List.getElem_cons_zero, List.getElem_cons_succ, List.setIfInBounds_toArray, List.set_cons_zero, List.set_cons_succ]
 refine wpAnyE_take' (i := 6) (v := ?_) rfl (by kernel_rfl) (by kernel_rfl) (by kernel_rfl) (by kernel_rfl) (by kernel_rfl) (fun _ _ _ h => h) (Or.inl ⟨by rfl, ?_⟩) (by assumption) ?_
 rotate_left
 · (intro w hSw; (try dsimp only at hSw); go_simp); all_goals with_reducible rfl
 try simp only [Act.put, List.getElem_toArray, List.getElem_cons_zero, List.getElem_cons_succ, List.setIfInBounds_toArray, List.set_cons_zero, List.set_cons_succ]
 refine wpAnyE_take' (i := 7) (v := ?_) rfl (by kernel_rfl) (by kernel_rfl) (by kernel_rfl) (by kernel_rfl) (by kernel_rfl) (fun _ _ _ h => h) (Or.inl ⟨by rfl, ?_⟩) (by assumption) ?_
 rotate_left
 · (intro w hSw; (try dsimp only at hSw); go_simp); all_goals with_reducible rfl
 try simp only [Act.put, List.getElem_toArray, List.getElem_cons_zero, List.getElem_cons_succ, List.setIfInBounds_toArray, List.set_cons_zero, List.set_cons_succ]
 refine wpAnyE_step (i := 8) (by kernel_rfl) rfl rfl (fun K8 hK8 => ?_)
 refine oper_append_row (.tmp 23) (.tmp 30) 29 29 rfl C.base i0 Try.underlying29 Try.underlying29 HI0.out HY0.out HY1.out HY2.out (.slice Av' (o.length + (C.V.em s n a).length) cv') (o ++ C.V.em s n a) ats (by rfl) HOWN3.out (by rfl) HATS.out (by have := HLEN.out; rw [List.length_append]; omega) HLB.out ?_
 intro A' c' w' hown' happ
 simp only [List.length_append] at hown' happ
 have hgk := fun k hk => (HST3.out.drew HG.out).rowKeep HG.out happ.grown (k := k) hk
 have zb := (HST3.out.drew HG.out).bo.same (hgk _ (.inl ⟨by omega, by omega⟩))
 have zc := zb.cell
 have zf := zb.frozen
 have hS4 : w'.cell? ⟨C.H, 0, none⟩ = some (.slice (some ⟨tb, toff, none⟩) C.nn C.c) ∧ w'.cell? ⟨C.H + 1, 0, none⟩ = some (.slice Av' (o.length + (C.V.em s n a).length) cv') ∧ w'.cell? ⟨C.H + 5, 0, none⟩ = some (.int .i64 ((q : Int) + 1)) ∧ w'.cell? ⟨w.heap.size, 2, none⟩ = some (.int .i64 n.b) := ⟨(cell_of_heap (hgk _ (.inl ⟨by omega, by omega⟩)) 0).trans (d0 0), zc 0, (cell_of_heap (hgk _ (.inl ⟨by omega, by omega⟩)) 0).trans d5', (cell_of_heap (hgk _ (.inr ⟨HNR.out, HB3.out.lt⟩)) 2).trans (db 2)⟩
 refine hK8.out _ _ (fun _ => hS4) ?_
 try simp only [Act.put, List.getElem_toArray, List.getElem_cons_zero, List.getElem_cons_succ, List.setIfInBounds_toArray, List.set_cons_zero, List.set_cons_succ]
 refine wpAnyE_step (i := 9) (by kernel_rfl) rfl rfl (fun K9 hK9 => ?_)
 go_simp
 refine hK9.out _ _ (fun h => absurd rfl h) ?_
 refine wpAnyE_end (by kernel_rfl) (NoPanic.normal ?_) _
 have hst5 := (HST3.out.drew HG.out).laid HG.out happ.grown hown' (fun g hg => happ.new g hg)
 have hb5 : Blk (w'.setCell ⟨C.H + 1, 0, none⟩ (.slice A' (o.length + (C.V.em s n a).length + (((q : Int) + 1 + n.b).toNat - (q + 1))) c')) w.heap.size 50 #[.int .i64 n.op, .int .i64 n.a, .int .i64 n.b] := Blk.far (Blk.same HB3.out (hgk _ (.inr ⟨HNR.out, HB3.out.lt⟩))) (by simp; omega) _
 have hm5 := (HM3.out.drew.trans (Moved.of_grown happ.grown) (fun g hg => HNR3.out g hg)).setCell (p := ⟨C.H + 1, 0, none⟩) (.inr (.inl rfl)) (.slice A' (o.length + (C.V.em s n a).length + (((q : Int) + 1 + n.b).toNat - (q + 1))) c')
 have hnr5 : newRow (.slice Av o.length cv) (.slice A' (o.length + (C.V.em s n a).length + (((q : Int) + 1 + n.b).toNat - (q + 1))) c') w := HNR3.out.trans (fun g hg => happ.new g hg) HM3.out.size
 clear zb zc zf hS4 hgk happ hown' HST3 HB3 HM3 HNR3 HNR hS0 d0 d1 d1f d5' db HATS
 generalize w'.setCell ⟨C.H + 1, 0, none⟩ (.slice A' (o.length + (C.V.em s n a).length + (((q : Int) + 1 + n.b).toNat - (q + 1))) c') = w5 at hst5 hb5 hm5 ⊢
 have d5 : w5.cell? ⟨C.H + 5, 0, none⟩ = some (.int .i64 ((q : Int) + 1)) := hst5.ba.cell 0
 have d5f := hst5.ba.frozen
 have db := hb5.cell
 have hl5' : C.H + 5 < w5.heap.size := hst5.ba.lt
 have hlb5 : w.heap.size < w5.heap.size := hb5.lt
 have hne3 : w.heap.size ≠ C.H + 5 := by omega
 have hne4 : C.H + 5 ≠ w.heap.size := by omega
 have hk0 : kidsI n.op n.b = 0 := by rw [H2.out]; rfl
 have HST5 := hid hst5
 have HB5 := hid hb5
 have HM5 := hid hm5
 have HNR5 := hid hnr5
 clear hst5 hb5 hm5 hnr5
 go_wp2_with (go_at_call 42; refine (kids_any _ _ _ _ ⟨by omega, by omega⟩).mono ?_; rintro e w6 ⟨rfl, rfl⟩)
 refine wp_loop_rounds 1 ?_
 rw [rounds_succ]
 go_wp2_with fail
 refine bodyPost_end (results_none rfl _ _ _) rfl (.inl ⟨?_, rfl, ?_, _, ?_, HNR5.out⟩)
 · rw [HK0.out]
   simp [Vis.G1, Vis.G, HOK1.out]
 · exact (HM5.out.setCell (p := ⟨C.H + 5, 0, none⟩) (.inr (.inr rfl)) _).alloc _
 have h1 := (HST5.out.goOn HG.out ((q : Int) + 1 + n.b) (C.l.length - rest.length) (by
  have h1 := congrArg List.length HDR.out
  have h2 := HAL.out
  have h3 := HST.out.tm.len
  rw [List.length_drop, List.length_append] at h1
  omega)).below HG.out (below_alloc _ (.cells #[.int .i64 n.op, .int .i64 n.a, .int .i64 n.b] 50))
 rw [HK0.out]
 simpa only [Vis.E1, Vis.S1, Vis.E, Vis.S, List.append_nil, List.append_assoc] using h1
end
section
open Go.RowKit
theorem walk2_kids {σ : Type} (C : WkC σ) (hG : C.Good) (m : Nat)
 (ih : ∀ (w : World) (v : Value) (q : Nat) (s : σ) (o : List Nd) (a : Int) (n : Nd) (ats : List Nd) (k : Fo) (rest : List Nd), C.St w v q s o → pp [false] (C.l.drop q) = some (.cons [] n ats k .nil, rest) → 0 ≤ a → a + 4 * fsize k ≤ 1000000000000 → C.V.D1 a s n k → o.length + (C.V.E1 a s n ats k).length ≤ C.M → fsize k < m →
  Calls Try.prog 72 #[.int .i64 a, .pointer (some ⟨C.H, 0, none⟩), .pointer (some ⟨C.H + 5, 0, none⟩), .pointer (some ⟨C.H + 2, 0, none⟩), .pointer (some ⟨C.H + 1, 0, none⟩), .pointer (some ⟨C.H + 6, 0, none⟩)] w (C.Post w v o (C.l.length - rest.length) (C.V.E1 a s n ats k) (C.V.S1 a s n k) (C.V.G1 a s n k)))
 (w : World) (v : Value) (q : Nat) (s : σ) (o : List Nd) (a : Int) (n : Nd) (ats : List Nd) (k : Fo) (rest : List Nd) (hst : C.St w v q s o) (hpp : pp [false] (C.l.drop q) = some (.cons [] n ats k .nil, rest)) (ha0 : 0 ≤ a) (ha1 : a + 4 * fsize k ≤ 1000000000000) (hD : C.V.D1 a s n k) (hM : o.length + (C.V.E1 a s n ats k).length ≤ C.M) (hsz : fsize k ≤ m) (h2 : n.op ≠ 2) :
 Calls Try.prog 72 #[.int .i64 a, .pointer (some ⟨C.H, 0, none⟩), .pointer (some ⟨C.H + 5, 0, none⟩), .pointer (some ⟨C.H + 2, 0, none⟩), .pointer (some ⟨C.H + 1, 0, none⟩), .pointer (some ⟨C.H + 6, 0, none⟩)] w (C.Post w v o (C.l.length - rest.length) (C.V.E1 a s n ats k) (C.V.S1 a s n k) (C.V.G1 a s n k)) := by
 obtain ⟨Av, cv, rfl⟩ := hst.own.slice
 have HI := hid ih
 have HG := hid hG
 have HST := hid hst
 have HPP := hid hpp
 have HD := hid hD
 have HM := hid hM
 have HSZ := hid hsz
 have HA := hid ha1
 obtain ⟨hq0, hn, hok⟩ := pp_head hpp
 rw [List.length_drop] at hq0
 have hq : q < C.nn := by have := hst.tm.len; omega
 have hfew := hst.tm.few
 obtain ⟨tb, toff, hA, hRb, htm⟩ := hst.tm.mem (by omega)
 obtain ⟨g0, g1, g2⟩ := htm q (by have := hst.tm.len; omega)
 have hn' : nth C.l q = n := by rw [← hn, nth_drop]; rfl
 rw [hn'] at g0 g1 g2
 have hbl := (hG.hR tb hRb).1
 have hHs := hst.size
 have hs0 : C.H < w.heap.size := by omega
 have hs1 : C.H + 1 < w.heap.size := by omega
 have hs2 : C.H + 2 < w.heap.size := by omega
 have hs5 : C.H + 5 < w.heap.size := by omega
 have hs6 : C.H + 6 < w.heap.size := by omega
 have hst' : tb < w.heap.size := by omega
 have hen := hG.en
 have z0 := hst.bt.cell
 have z1 := hst.bo.cell
 have z2 := hst.bf.cell
 have z5 := hst.ba.cell
 have z6 := hst.br.cell
 have f5 := hst.ba.frozen
 rw [hA] at z0
 have HAe := hid hA
 have HN := hid hn'
 have HOK := hid hok
 have hq2 : (0 : Int) ≤ (q : Int) := by omega
 have hdm := hD.1
 have hlen1 : o.length + (C.V.em s n a).length ≤ C.M := by
  simp only [Vis.E1, List.length_append] at hM; omega
 have ha2 : a ≤ 1000000000000 := by omega
 have HDM := hid hdm
 have HL1 := hid hlen1
 clear hdm hlen1
 clear ih hG hst hpp hD hM hsz ha1 hn hok hA htm hn'
 have h2b : (n.op == 2) = false := by simp [h2]
 have H2 := hid h2
 clear h2
 obtain ⟨_, hats, hkp⟩ := pp_kids HPP.out H2.out
 have hpl : plainB n.op n.a n.b = true := by
  have := HOK.out
  simp only [okN, Bool.and_eq_true] at this; exact this.1.1
 obtain ⟨hb0, hb1000⟩ := plainB_b hpl
 obtain ⟨hkd0, hkd18⟩ := kidsI_bd hpl
 have HKP := hid hkp
 have HATS := hid hats
 have hD2 : C.V.D n.op n.b 0 a (C.V.nx s n a) k := HD.out.2
 have HD2 := hid hD2
 have hM2 : o.length + ((C.V.em s n a).length + (C.V.E n.op n.b 0 a (C.V.nx s n a) k).length) ≤ C.M := by
  have h1 := HM.out
  rw [hats] at h1
  simpa only [Vis.E1, List.nil_append, List.length_append] using h1
 have HM2' := hid hM2
 clear hats hkp hD2 hM2 hpl
 have hlq := HST.out.tm.len
 have HLQ := hid hlq
 clear hlq
 go_in
 go_wp2_with fail
 have hst1 := (HST.out.goOn HG.out ((q : Int) + 1) (q + 1) (by omega)).below HG.out (below_alloc _ (.cells #[.int .i64 n.op, .int .i64 n.a, .int .i64 n.b] 50))
 have hone := HG.out.one _ s _ o n a (by simp; omega) hst1.j hst1.own (fun k hk => (hst1.hv k hk).1) HOK.out HDM.out ha0 ha2 HL1.out
 refine hone.mono ?_
 rintro e w2 (⟨hok1, hm, hj, v', rfl, hown', hnew⟩ | ⟨hbad, rfl, hm⟩)
 rotate_left
 · refine ⟨rfl, .inr ⟨by simp [Vis.G1, hbad], rfl, ?_⟩⟩
   exact (((Moved.refl _ _ w).setCell (p := ⟨C.H + 5, 0, none⟩) (.inr (.inr rfl)) _).alloc _).trans (hm.mono WkC.S_S') (fun g hg => .inl hg)
 obtain ⟨Av', cv', rfl⟩ := hown'.slice
 have hb2 : Blk w2 w.heap.size 50 #[.int .i64 n.op, .int .i64 n.a, .int .i64 n.b] := Blk.moved (Blk.new' (by simp [World.setCell])) hm (WkC.S_lt HG.out (by omega)) (fun e => by have := HST.out.row _ e; omega)
 have hst3 := hst1.called HG.out hm hown' hnew hj
 have hB := fun k h1 h2 => hst1.keep HG.out hm (k := k) h1 h2
 have c1 := Blk.cell (hst1.bo.same (hB _ (by omega) (by omega)))
 have c1f := Blk.frozen (hst1.bo.same (hB _ (by omega) (by omega)))
 have cb := Blk.cell hb2
 have hs2' : w.heap.size + 1 ≤ w2.heap.size := by have := hm.size; simpa using this
 have hlb : w.heap.size < w2.heap.size := by omega
 have hl1 : C.H + 1 < w2.heap.size := by omega
 have hne1 : w.heap.size ≠ C.H + 1 := by omega
 have hne2 : C.H + 1 ≠ w.heap.size := by omega
 have hm3 := (((((Moved.refl C.S' (Value.slice Av o.length cv).ownBlock w).setCell (p := ⟨C.H + 5, 0, none⟩) (.inr (.inr rfl)) (.int .i64 ((q : Int) + 1))).alloc (.cells #[.int .i64 n.op, .int .i64 n.a, .int .i64 n.b] 50)).trans (hm.mono WkC.S_S') (fun g hg => .inl hg)).setCell (p := ⟨C.H + 1, 0, none⟩) (.inr (.inl rfl)) (.slice Av' (o ++ C.V.em s n a).length cv')).alloc (.cells #[.int .i64 n.op, .int .i64 n.a, .int .i64 n.b] 50)
 have hnr3 : newRow (.slice Av o.length cv) (.slice Av' (o ++ C.V.em s n a).length cv') w := fun g hg => (hnew g hg).imp id (fun h => by simp [World.setCell] at h; omega)
 have hns4 : (Value.slice Av' (o ++ C.V.em s n a).length cv').ownBlock ≠ some w.heap.size := fun e => by
  rcases hnew _ e with h | h
  · have := HST.out.row _ h; omega
  simp [World.setCell] at h
  omega
 have hst4 := hst3.below HG.out (below_alloc _ (.cells #[.int .i64 n.op, .int .i64 n.a, .int .i64 n.b] 50))
 have hb4 := (hb2.far (p := ⟨C.H + 1, 0, none⟩) (by simp; omega) (.slice Av' (o ++ C.V.em s n a).length cv')).alloc (.cells #[.int .i64 n.op, .int .i64 n.a, .int .i64 n.b] 50)
 rw [List.length_append] at hm3 hnr3 hst4 hb4 hns4
 have HST4 := hid hst4
 have HM4 := hid hm3
 have HNR4 := hid hnr3
 have HNS4 := hid hns4
 have HB4 := hid hb4
 have HOK1 := hid hok1
 clear hst3 hst1 hm hb2 hok1 hB hone hown' hj hnew z0 z1 z2 z5 z6 f5 g0 g1 g2 hm3 hnr3 hst4 hb4 hns4
 go_wp2_with (go_at_call 42; refine (kids_any _ _ _ _ ⟨by omega, by omega⟩).mono ?_; rintro e w6 ⟨rfl, rfl⟩)
 clear c1 c1f cb
 go_loopw [38] (fun i wr => ∃ (F1 F2 : Fo) (j q1 : Nat) (v1 : Value) (s1 : σ) (o1 : List Nd), Hid (k = F1.app F2) ∧ Hid (pp (remd n j) (C.l.drop q1) = some (F2, rest)) ∧ Hid (flen F1 = if n.op = 12 then 2 * j else j) ∧ (j : Int) ≤ kidsI n.op n.b ∧ i = .int .i64 (j : Int) ∧ q1 ≤ C.nn ∧ Hid (C.St wr v1 q1 s1 o1) ∧ Hid (s1 = C.V.S n.op n.b 0 a (C.V.nx s n a) F1) ∧ Hid (o1 = o ++ (C.V.em s n a ++ C.V.E n.op n.b 0 a (C.V.nx s n a) F1)) ∧
  Hid (Blk wr w.heap.size 50 #[.int .i64 n.op, .int .i64 n.a, .int .i64 n.b]) ∧ Hid (Moved C.S' (Value.slice Av o.length cv).ownBlock w wr) ∧ Hid (newRow (.slice Av o.length cv) v1 w) ∧ Hid (v1.ownBlock ≠ some w.heap.size) ∧ Hid (C.V.G n.op n.b 0 a (C.V.nx s n a) F1 = true)) (fun i _ => (kidsI n.op n.b).toNat - (intOf i).toNat)
 case atStart =>
  exact ⟨.nil, k, 0, q + 1, _, _, _, hid rfl, hid (by rw [remd_zero]; exact HKP.out), hid (by simp [flen]), hkd0, by go_num, hq, HST4, hid rfl, hid (by simp [Vis.E]), HB4, HM4, HNR4, HNS4, hid rfl⟩
 case round =>
  obtain ⟨F1, F2, j, q1, v1, s1, o1, HK, HPK, HFL, hj, rfl, hq1, HST5, HS1, HO1, HB5, HM5, HNR5, HNRB, HG1⟩ := hrel
  obtain ⟨Av1, cv1, rfl⟩ := HST5.out.own.slice
  have hsz5 := HST5.out.size
  have e1 := HST5.out.bo.cell
  have e1f := HST5.out.bo.frozen
  have e5 : wr.cell? ⟨C.H + 5, 0, none⟩ = some (.int .i64 (q1 : Int)) := HST5.out.ba.cell 0
  have e5f := HST5.out.ba.frozen
  have e6 : wr.cell? ⟨C.H + 6, 0, none⟩ = some (.func (.func 72) #[] #[.pointer (some ⟨C.H, 0, none⟩), .pointer (some ⟨C.H + 5, 0, none⟩), .pointer (some ⟨C.H + 2, 0, none⟩), .pointer (some ⟨C.H + 1, 0, none⟩), .pointer (some ⟨C.H + 6, 0, none⟩)]) := HST5.out.br.cell 0
  have eb := HB5.out.cell
  have hr0 : C.H < wr.heap.size := by omega
  have hr1 : C.H + 1 < wr.heap.size := by omega
  have hr5 : C.H + 5 < wr.heap.size := by omega
  have hr6 : C.H + 6 < wr.heap.size := by omega
  have hrb := HB5.out.lt
  have hrow := HST5.out.row
  have HROW := hid hrow
  clear hrow
  by_cases hlt : (j : Int) < kidsI n.op n.b
  rotate_left
  · have hpk := HPK.out
    rw [remd_end n (i := j) (by omega), pp_nil] at hpk
    simp only [Option.some.injEq, Prod.mk.injEq] at hpk
    obtain ⟨hF2, hr⟩ := hpk
    have hq1' : C.l.length - rest.length = q1 := by
     rw [← hr, List.length_drop]; have := HLQ.out; omega
    have hkF : k = F1 := by rw [HK.out, ← hF2, app_nil]
    have HQ1 := hid hq1'
    have HKF := hid hkF
    clear hF2 hr hq1' hkF
    go_wp2_with fail
    refine bodyPost_end (results_none rfl _ _ _) rfl (.inl ⟨?_, rfl, HM5.out, _, ?_, HNR5.out⟩)
    · simp only [Vis.G1, HOK1.out, HKF.out, HG1.out, Bool.and_self]
    rw [HQ1.out, HKF.out, HATS.out, show C.V.S1 a s n F1 = s1 from HS1.out.symm, show o ++ C.V.E1 a s n [] F1 = o1 by rw [HO1.out]; simp only [Vis.E1, List.nil_append]]
    exact HST5.out
  by_cases h12 : n.op = 12
  · have h12b : (n.op == 12) = true := by simp [h12]
    have hjb : (j : Int) < n.b := by simpa [kidsI, h12] using hlt
    have hpk := HPK.out
    rw [remd_fix h12 hjb] at hpk
    obtain ⟨hql, hof, F', hpk', hF2⟩ := pp_ofix hpk
    obtain ⟨n1, a1, k1, F'', q2, hF', hq12, hq2l, hp1, hpk2⟩ := pp_first hpk' (by omega)
    obtain ⟨n2, a2, k2, F3, q3, hF'', hq23, hq3l, hp2, hp3⟩ := pp_first hpk2 hq2l
    have hfj : flen F1 = 2 * j := by have := HFL.out; rw [if_pos h12] at this; exact this
    have hkF : k = F1.app (.cons [nth C.l q1] n1 a1 k1 (.cons [] n2 a2 k2 F3)) := by rw [HK.out, hF2, hF', hF'']; rfl
    have hab1 : a + aroundI n.op n.b ((2 * j : Nat) : Int) = a := by
     simp only [aroundI]
     rw [if_neg (by omega), if_neg (by omega)]; omega
    have hab2 : a + aroundI n.op n.b ((2 * j + 1 : Nat) : Int) = a + n.b := by
     simp only [aroundI]
     rw [if_neg (by omega), if_pos (by omega)]
    have hb4 : n.b ≤ 4 := by
     have := HOK.out
     simp only [okN, Bool.and_eq_true] at this
     have h1 := this.1.1
     rw [plainB_iff] at h1
     omega
    have hdd : C.V.D1 a s1 n1 k1 ∧ C.V.D1 (a + n.b) (C.V.S1 a s1 n1 k1) n2 k2 := by
     have h1 := HD2.out
     rw [hkF, Vis.D_app, Vis.D_cons, Vis.D_cons, hfj, Nat.zero_add, hab1, hab2, ← HS1.out] at h1
     exact ⟨h1.2.1, h1.2.2.1⟩
    obtain ⟨hd1, hd2⟩ := hdd
    have hmm : o1.length + (1 + ((C.V.E1 a s1 n1 a1 k1).length + (C.V.E1 (a + n.b) (C.V.S1 a s1 n1 k1) n2 a2 k2).length)) ≤ C.M := by
     have h1 := HM2'.out
     rw [hkF, Vis.E_app, Vis.E_cons, Vis.E_cons, hfj, Nat.zero_add, hab1, hab2, ← HS1.out] at h1
     rw [HO1.out]
     simp only [List.length_append, List.length_nil, List.length_cons] at h1 ⊢
     omega
    have hfs : fsize k1 < m ∧ fsize k2 < m := by
     have h1 := HSZ.out
     rw [hkF, fsize_app] at h1
     simp only [fsize] at h1
     omega
    have hax : a + 4 * fsize k1 ≤ 1000000000000 ∧ a + n.b + 4 * fsize k2 ≤ 1000000000000 := by
     have h1 := HA.out
     rw [hkF, fsize_app] at h1
     simp only [fsize] at h1
     omega
    obtain ⟨hfs1, hfs2⟩ := hfs
    obtain ⟨hax1, hax2⟩ := hax
    have hnn : 0 ≤ a + n.b := by omega
    have htmr := HST5.out.tm
    rw [HAe.out] at htmr
    obtain ⟨tb', toff', hAA, _, hmem⟩ := htmr.mem (by omega)
    injection hAA with hAA
    injection hAA with hA1 hA2
    subst hA1 hA2
    obtain ⟨t0, t1, t2⟩ := hmem q1 hql
    have htl : tb < wr.heap.size := by omega
    have e0 := HST5.out.bt.cell
    rw [HAe.out] at e0
    have hqi0 : (0 : Int) ≤ (q1 : Int) := by omega
    have hqi1 : (q1 : Int) < (C.nn : Int) := by have := HLQ.out; omega
    have hqn : q1 < C.nn := by omega
    have hbase : C.base ≤ wr.drew.heap.size := by have := HG.out.hbase; simp; omega
    have hlen1 : o1.length + 1 ≤ 5864062014805 := by have := HG.out.hM; omega
    have hw1 : IntKind.i64.wrap (a + n.b) = a + n.b := IntWalk.i64_in _ (by omega)
    obtain ⟨i0, hi, hy0, hy1, hy2⟩ := info_parts infoN
    have HI0 := hid hi
    have HY0 := hid hy0
    have HY1 := hid hy1
    have HY2 := hid hy2
    have H12 := hid h12
    have HKF := hid hkF
    have HFJ := hid hfj
    have HAB1 := hid hab1
    have HAB2 := hid hab2
    have HD1 := hid hd1
    have HD2' := hid hd2
    have HMM := hid hmm
    have HFS1 := hid hfs1
    have HFS2 := hid hfs2
    have HAX1 := hid hax1
    have HAX2 := hid hax2
    have HNN := hid hnn
    have HP1 := hid hp1
    have HP2 := hid hp2
    have HP3 := hid hp3
    have HLEN1 := hid hlen1
    have HBASE := hid hbase
    have HOWN := hid (HST5.out.drew HG.out).own
    clear hi hy0 hy1 hy2 h12 hkF hfj hab1 hab2 hd1 hd2 hmm hfs1 hfs2 hax1 hax2 hnn hp1 hp2 hp3 hlen1 hbase hpk hpk' hpk2 hF2 hF' hF'' htmr hmem
    have k0 := eb 0
    have k1' := eb 1
    have k2' := eb 2
    go_wp2_with fail
    refine wp_region_noPanic ?_
    refine wp_region_E 7 (fun w' => w'.cell? ⟨C.H, 0, none⟩ = some (.slice (some ⟨tb, toff, none⟩) C.nn C.c) ∧ w'.cell? ⟨C.H + 1, 0, none⟩ = some (.slice Av1 o1.length cv1) ∧ w'.cell? ⟨C.H + 5, 0, none⟩ = some (.int .i64 (q1 : Int)) ∧ w'.cell? ⟨tb, toff + q1 * 3, none⟩ = some (.int .i64 (nth C.l q1).op) ∧ w'.cell? ⟨tb, toff + q1 * 3 + 1, none⟩ = some (.int .i64 (nth C.l q1).a) ∧ w'.cell? ⟨tb, toff + q1 * 3 + 2, none⟩ = some (.int .i64 (nth C.l q1).b)) (by rfl) ⟨e0 0, e1 0, e5, t0, t1, t2⟩ (fun hS0 => ?_)
    refine wpAnyE_take' (i := 0) (v := ?_) rfl (by kernel_rfl) (by kernel_rfl) (by kernel_rfl) (by kernel_rfl) (by kernel_rfl) (fun _ _ _ h => h) (Or.inl ⟨by rfl, ?_⟩) (by assumption) ?_
    rotate_left
    · (intro w hSw; (try dsimp only at hSw); go_simp); all_goals with_reducible rfl
    try simp only [Act.put, List.getElem_toArray, List.getElem_cons_zero, List.getElem_cons_succ, List.setIfInBounds_toArray, List.set_cons_zero, List.set_cons_succ]
    refine wpAnyE_take' (i := 1) (v := ?_) rfl (by kernel_rfl) (by kernel_rfl) (by kernel_rfl) (by kernel_rfl) (by kernel_rfl) (fun _ _ _ h => h) (Or.inl ⟨by rfl, ?_⟩) (by assumption) ?_
    rotate_left
    · (intro w hSw; (try dsimp only at hSw); go_simp); all_goals with_reducible rfl
    try simp only [Act.put, List.getElem_toArray, List.getElem_cons_zero, List.getElem_cons_succ, List.setIfInBounds_toArray, List.set_cons_zero, List.set_cons_succ]
    refine wpAnyE_take' (i := 2) (v := ?_) rfl (by kernel_rfl) (by kernel_rfl) (by kernel_rfl) (by kernel_rfl) (by kernel_rfl) (fun _ _ _ h => h) (Or.inl ⟨by rfl, ?_⟩) (by assumption) ?_
    rotate_left
    · (intro w hSw; (try dsimp only at hSw); go_simp); all_goals with_reducible rfl
    try simp only [Act.put, List.getElem_toArray, List.getElem_cons_zero, List.getElem_cons_succ, List.setIfInBounds_toArray, List.set_cons_zero, List.set_cons_succ]
    refine wpAnyE_take' (i := 3) (v := ?_) rfl (by kernel_rfl) (by kernel_rfl) (by kernel_rfl) (by kernel_rfl) (by kernel_rfl) (fun _ _ _ h => h) (Or.inl ⟨by rfl, ?_⟩) (by assumption) ?_
    rotate_left
    · (intro w hSw; (try dsimp only at hSw); go_simp); all_goals with_reducible rfl
    try simp only [Act.put, List.getElem_toArray, List.getElem_cons_zero, List.getElem_cons_succ, List.setIfInBounds_toArray, List.set_cons_zero, List.set_cons_succ]
    refine wpAnyE_take' (i := 4) (v := ?_) rfl (by kernel_rfl) (by kernel_rfl) (by kernel_rfl) (by kernel_rfl) (by kernel_rfl) (fun _ _ _ h => h) (Or.inl ⟨by rfl, ?_⟩) (by assumption) ?_
    rotate_left
    · (intro w hSw; (try dsimp only at hSw); go_simp); all_goals with_reducible rfl
    try simp only [Act.put, List.getElem_toArray, List.getElem_cons_zero, List.getElem_cons_succ, List.setIfInBounds_toArray, List.set_cons_zero, List.set_cons_succ]
    refine wpAnyE_step (i := 5) (by kernel_rfl) rfl rfl (fun K5 hK5 => ?_)
    go_simp
    have hS5 : (wr.drew.alloc (.cells #[.int .i64 (nth C.l q1).op, .int .i64 (nth C.l q1).a, .int .i64 (nth C.l q1).b] 50)).cell? ⟨C.H, 0, none⟩ = some (.slice (some ⟨tb, toff, none⟩) C.nn C.c) ∧ (wr.drew.alloc (.cells #[.int .i64 (nth C.l q1).op, .int .i64 (nth C.l q1).a, .int .i64 (nth C.l q1).b] 50)).cell? ⟨C.H + 1, 0, none⟩ = some (.slice Av1 o1.length cv1) ∧ (wr.drew.alloc (.cells #[.int .i64 (nth C.l q1).op, .int .i64 (nth C.l q1).a, .int .i64 (nth C.l q1).b] 50)).cell? ⟨C.H + 5, 0, none⟩ = some (.int .i64 (q1 : Int)) ∧ (wr.drew.alloc (.cells #[.int .i64 (nth C.l q1).op, .int .i64 (nth C.l q1).a, .int .i64 (nth C.l q1).b] 50)).cell? ⟨tb, toff + q1 * 3, none⟩ = some (.int .i64 (nth C.l q1).op) ∧ (wr.drew.alloc (.cells #[.int .i64 (nth C.l q1).op, .int .i64 (nth C.l q1).a, .int .i64 (nth C.l q1).b] 50)).cell? ⟨tb, toff + q1 * 3 + 1, none⟩ = some (.int .i64 (nth C.l q1).a) ∧ (wr.drew.alloc (.cells #[.int .i64 (nth C.l q1).op, .int .i64 (nth C.l q1).a, .int .i64 (nth C.l q1).b] 50)).cell? ⟨tb, toff + q1 * 3 + 2, none⟩ = some (.int .i64 (nth C.l q1).b) := by
     have hc : ∀ b o, b < wr.heap.size → (wr.drew.alloc (.cells #[.int .i64 (nth C.l q1).op, .int .i64 (nth C.l q1).a, .int .i64 (nth C.l q1).b] 50)).cell? ⟨b, o, none⟩ = wr.cell? ⟨b, o, none⟩ := fun b o hb => (World.cell?_alloc_lt _ _ _ hb)
     rw [hc _ _ hr0, hc _ _ hr1, hc _ _ hr5, hc _ _ htl, hc _ _ htl, hc _ _ htl]
     exact ⟨e0 0, e1 0, e5, t0, t1, t2⟩
    refine hK5.out _ _ (fun _ => hS5) ?_
    try simp only [Act.put, List.getElem_toArray, List.getElem_cons_zero, List.getElem_cons_succ, List.setIfInBounds_toArray, List.set_cons_zero, List.set_cons_succ]
    refine wpAnyE_step (i := 6) (by kernel_rfl) rfl rfl (fun K6 hK6 => ?_)
    refine oper_append_node (.tmp 44) (.tmp 49) 29 rfl C.base i0 Try.underlying29 HI0.out HY0.out HY1.out HY2.out (.slice Av1 o1.length cv1) o1 (nth C.l q1) wr.drew (by rfl) (by rfl) HOWN.out _ (by rfl) (by simp) HLEN1.out HBASE.out ?_
    intro A' c' w' hown' happ
    have hgk := fun k hk => (HST5.out.drew HG.out).rowKeep HG.out happ.grown (k := k) hk
    have zb := (HST5.out.drew HG.out).bo.same (hgk _ (.inl ⟨by omega, by omega⟩))
    have zf := zb.frozen
    have htb : (Value.slice Av1 o1.length cv1).ownBlock ≠ some tb := fun e => (HST5.out.hv _ e).2.1 hRb
    have hS6 : w'.cell? ⟨C.H, 0, none⟩ = some (.slice (some ⟨tb, toff, none⟩) C.nn C.c) ∧ w'.cell? ⟨C.H + 1, 0, none⟩ = some (.slice Av1 o1.length cv1) ∧ w'.cell? ⟨C.H + 5, 0, none⟩ = some (.int .i64 (q1 : Int)) ∧ w'.cell? ⟨tb, toff + q1 * 3, none⟩ = some (.int .i64 (nth C.l q1).op) ∧ w'.cell? ⟨tb, toff + q1 * 3 + 1, none⟩ = some (.int .i64 (nth C.l q1).a) ∧ w'.cell? ⟨tb, toff + q1 * 3 + 2, none⟩ = some (.int .i64 (nth C.l q1).b) := by
     have hc := cell_of_heap (hgk tb (.inr ⟨htb, htl⟩))
     rw [hc, hc, hc, cell_of_heap (hgk C.H (.inl ⟨by omega, by omega⟩)), cell_of_heap (hgk (C.H + 1) (.inl ⟨by omega, by omega⟩)), cell_of_heap (hgk (C.H + 5) (.inl ⟨by omega, by omega⟩))]
     exact ⟨e0 0, e1 0, e5, t0, t1, t2⟩
    have zc := hS6.2.1
    refine hK6.out _ _ (fun _ => hS6) ?_
    try simp only [Act.put, List.getElem_toArray, List.getElem_cons_zero, List.getElem_cons_succ, List.setIfInBounds_toArray, List.set_cons_zero, List.set_cons_succ]
    refine wpAnyE_step (i := 7) (by kernel_rfl) rfl rfl (fun K7 hK7 => ?_)
    go_simp
    refine hK7.out _ _ (fun h => absurd rfl h) ?_
    refine wpAnyE_end (by kernel_rfl) (NoPanic.normal ?_) _
    have hst6 := (HST5.out.drew HG.out).laid HG.out happ.grown hown' (fun g hg => happ.new g hg)
    have hb6 : Blk (w'.setCell ⟨C.H + 1, 0, none⟩ (.slice A' (o1.length + 1) c')) w.heap.size 50 #[.int .i64 n.op, .int .i64 n.a, .int .i64 n.b] := Blk.far (Blk.same (show Blk wr.drew _ _ _ from HB5.out) (hgk _ (.inr ⟨HNRB.out, hrb⟩))) (by simp; omega) _
    have hm6 := (HM5.out.drew.trans (Moved.of_grown happ.grown) (fun g hg => HNR5.out g hg)).setCell (p := ⟨C.H + 1, 0, none⟩) (.inr (.inl rfl)) (.slice A' (o1.length + 1) c')
    have hnr6 : newRow (.slice Av o.length cv) (.slice A' (o1.length + 1) c') w := HNR5.out.trans (fun g hg => happ.new g hg) HM5.out.size
    have hns6 : (Value.slice A' (o1.length + 1) c').ownBlock ≠ some w.heap.size := fun e => by
     rcases happ.new _ e with h | h
     · exact HNRB.out h
     simp at h; omega
    have hst7 := hst6.goOn HG.out ((q1 : Int) + 1) (q1 + 1) (by omega)
    have hb7 := hb6.far (p := ⟨C.H + 5, 0, none⟩) (by simp; omega) (.int .i64 ((q1 : Int) + 1))
    have hm7 := hm6.setCell (p := ⟨C.H + 5, 0, none⟩) (.inr (.inr rfl)) (.int .i64 ((q1 : Int) + 1))
    clear zb zc zf hS5 hS6 hgk happ hown' hS0 hm6
    generalize w'.setCell ⟨C.H + 1, 0, none⟩ (.slice A' (o1.length + 1) c') = w6 at hst6 hb6 hst7 hb7 hm7 ⊢
    have d5 : w6.cell? ⟨C.H + 5, 0, none⟩ = some (.int .i64 (q1 : Int)) := hst6.ba.cell 0
    have d5f := hst6.ba.frozen
    have d6 : (w6.setCell ⟨C.H + 5, 0, none⟩ (.int .i64 ((q1 : Int) + 1))).cell? ⟨C.H + 6, 0, none⟩ = some (.func (.func 72) #[] #[.pointer (some ⟨C.H, 0, none⟩), .pointer (some ⟨C.H + 5, 0, none⟩), .pointer (some ⟨C.H + 2, 0, none⟩), .pointer (some ⟨C.H + 1, 0, none⟩), .pointer (some ⟨C.H + 6, 0, none⟩)]) := hst7.br.cell 0
    have HST7 := hid hst7
    have HB7 := hid hb7
    have HM7 := hid hm7
    have HNR7 := hid hnr6
    have HNS7 := hid hns6
    clear hst6 hb6 hst7 hb7 hm7 hnr6 hns6 e0 e1 e1f e5 e5f e6 eb t0 t1 t2 k0 k1' k2'
    go_wp2_with fail
    refine (HI.out _ _ (q1 + 1) s1 _ _ n1 a1 k1 (C.l.drop q2) HST7.out HP1.out ha0 HAX1.out HD1.out (by have := HMM.out; rw [List.length_append, List.length_singleton]; omega) HFS1.out).mono ?_
    rintro e w8 (⟨hg8, rfl, hm8, v8, hst8, hnr8⟩ | ⟨hg8, rfl, hm8⟩)
    rotate_left
    · refine ⟨rfl, .inr ⟨?_, rfl, HM7.out.trans hm8 HNR7.out⟩⟩
      rw [Vis.G1, HKF.out, Vis.G_app, Vis.G_cons, HFJ.out, Nat.zero_add, HAB1.out, ← HS1.out, hg8]
      simp
    rw [List.length_drop, show C.l.length - (C.l.length - q2) = q2 by omega] at hst8
    have hb8 : Blk w8 w.heap.size 50 #[.int .i64 n.op, .int .i64 n.a, .int .i64 n.b] := Blk.moved HB7.out hm8 (WkC.S'_new HG.out (by omega)) HNS7.out
    have hns8 : v8.ownBlock ≠ some w.heap.size := fun e => by
     rcases hnr8 _ e with h | h
     · exact HNS7.out h
     have := HB7.out.lt; omega
    have hnr8' := HNR7.out.trans hnr8 HM7.out.size
    have hm8' := HM7.out.trans hm8 HNR7.out
    have p6 : w8.cell? ⟨C.H + 6, 0, none⟩ = some (.func (.func 72) #[] #[.pointer (some ⟨C.H, 0, none⟩), .pointer (some ⟨C.H + 5, 0, none⟩), .pointer (some ⟨C.H + 2, 0, none⟩), .pointer (some ⟨C.H + 1, 0, none⟩), .pointer (some ⟨C.H + 6, 0, none⟩)]) := hst8.br.cell 0
    have pb := hb8.cell
    have HST8 := hid hst8
    have HB8 := hid hb8
    have HM8 := hid hm8'
    have HNR8 := hid hnr8'
    have HNS8 := hid hns8
    clear hst8 hb8 hm8 hm8' hnr8 hnr8' hns8 d5 d5f d6
    go_wp2_with fail
    refine (HI.out _ _ q2 _ _ _ n2 a2 k2 (C.l.drop q3) HST8.out HP2.out HNN.out HAX2.out HD2'.out (by have := HMM.out; rw [List.length_append, List.length_append, List.length_singleton]; omega) HFS2.out).mono ?_
    rintro e w9 (⟨hg9, rfl, hm9, v9, hst9, hnr9⟩ | ⟨hg9, rfl, hm9⟩)
    rotate_left
    · refine ⟨rfl, .inr ⟨?_, rfl, HM8.out.trans hm9 HNR8.out⟩⟩
      rw [Vis.G1, HKF.out, Vis.G_app, Vis.G_cons, Vis.G_cons, HFJ.out, Nat.zero_add, HAB1.out, HAB2.out, ← HS1.out, hg9]
      simp
    rw [List.length_drop, show C.l.length - (C.l.length - q3) = q3 by omega] at hst9
    have hb9 : Blk w9 w.heap.size 50 #[.int .i64 n.op, .int .i64 n.a, .int .i64 n.b] := Blk.moved HB8.out hm9 (WkC.S'_new HG.out (by omega)) HNS8.out
    have hns9 : v9.ownBlock ≠ some w.heap.size := fun e => by
     rcases hnr9 _ e with h | h
     · exact HNS8.out h
     have := HB8.out.lt; omega
    have hnr9' := HNR8.out.trans hnr9 HM8.out.size
    have hm9' := HM8.out.trans hm9 HNR8.out
    have HST9 := hid hst9
    have HB9 := hid hb9
    have HM9 := hid hm9'
    have HNR9 := hid hnr9'
    have HNS9 := hid hns9
    clear hst9 hb9 hm9 hm9' hnr9 hnr9' hns9 p6 pb
    go_wp2_with fail
    go_roundw
    case rel =>
     refine ⟨F1.app (.cons [nth C.l q1] n1 a1 k1 (.cons [] n2 a2 k2 .nil)), F3, j + 1, q3, v9, _, _, hid (by rw [HKF.out, app_assoc]; rfl), HP3, hid (by rw [flen_app, HFJ.out, if_pos H12.out]; simp only [flen]; omega), by omega, by go_num, by have := HLQ.out; omega, HST9, hid ?_, hid ?_, HB9, HM9, HNR9, HNS9, hid ?_⟩
     · rw [Vis.S_app, Vis.S_cons, Vis.S_cons, HFJ.out, Nat.zero_add, HAB1.out, HAB2.out, ← HS1.out]; rfl
     · rw [Vis.E_app, Vis.E_cons, Vis.E_cons, HFJ.out, Nat.zero_add, HAB1.out, HAB2.out, ← HS1.out, HO1.out]
       simp only [Vis.E, List.append_nil, List.nil_append, List.append_assoc]
     rw [Vis.G_app, Vis.G_cons, Vis.G_cons, HFJ.out, Nat.zero_add, HAB1.out, HAB2.out, ← HS1.out, HG1.out, hg8, hg9]; rfl
    case measure => simp [intOf]; omega
  have h12b : (n.op == 12) = false := by simp [h12]
  have hre := remd_one h12 hlt
  have hpk := HPK.out
  rw [hre] at hpk
  obtain ⟨n1, a1, k1, F3, q2, hF2, hq12, hq2l, hp1, hp3⟩ := pp_first hpk (by have := HLQ.out; omega)
  have hfj : flen F1 = j := by have := HFL.out; rw [if_neg h12] at this; exact this
  have hkF : k = F1.app (.cons [] n1 a1 k1 F3) := by rw [HK.out, hF2]
  have hab : aroundI n.op n.b (j : Int) = bindersI n.op (j : Int) := by simp only [aroundI, bindersI, h12, false_and, if_false]
  have hd1 : C.V.D1 (a + bindersI n.op (j : Int)) s1 n1 k1 := by
   have h1 := HD2.out
   rw [hkF, Vis.D_app, Vis.D_cons, hfj, Nat.zero_add, hab, ← HS1.out] at h1
   exact h1.2.1
  have hm1 : o1.length + (C.V.E1 (a + bindersI n.op (j : Int)) s1 n1 a1 k1).length ≤ C.M := by
   have h1 := HM2'.out
   rw [hkF, Vis.E_app, Vis.E_cons, hfj, Nat.zero_add, hab, ← HS1.out] at h1
   rw [HO1.out]
   simp only [List.length_append, List.length_nil] at h1 ⊢
   omega
  have hfs : fsize k1 < m := by
   have h1 := HSZ.out
   rw [hkF, fsize_app] at h1
   simp only [fsize] at h1
   omega
  have hbd := aroundI_bd HOK.out (j : Int)
  rw [hab] at hbd
  obtain ⟨hbd0, hbd4⟩ := hbd
  have hax : 0 ≤ a + bindersI n.op (j : Int) := by omega
  have hay : a + bindersI n.op (j : Int) + 4 * fsize k1 ≤ 1000000000000 := by
   have h1 := HA.out
   rw [hkF, fsize_app] at h1
   simp only [fsize] at h1
   omega
  have H12 := hid h12
  have HKF := hid hkF
  have HFJ := hid hfj
  have HAB := hid hab
  have HD1 := hid hd1
  have HM1 := hid hm1
  have HFS := hid hfs
  have HAX := hid hax
  have HAY := hid hay
  have HP1 := hid hp1
  have HP3 := hid hp3
  have hw1 : IntKind.i64.wrap (a + bindersI n.op (j : Int)) = a + bindersI n.op (j : Int) := IntWalk.i64_in _ (by omega)
  clear hkF hfj hab hd1 hm1 hfs hax hay hp1 hp3 hre hpk h12 hbd0 hbd4 hF2
  have k0 := eb 0
  have k1' := eb 1
  have k2 := eb 2
  go_wp2_with fail
  refine wp_region_E 6 (fun w' => w'.cell? ⟨C.H + 6, 0, none⟩ = some (.func (.func 72) #[] #[.pointer (some ⟨C.H, 0, none⟩), .pointer (some ⟨C.H + 5, 0, none⟩), .pointer (some ⟨C.H + 2, 0, none⟩), .pointer (some ⟨C.H + 1, 0, none⟩), .pointer (some ⟨C.H + 6, 0, none⟩)]) ∧ w'.cell? ⟨w.heap.size, 0, none⟩ = some (.int .i64 n.op) ∧ w'.cell? ⟨w.heap.size, 1, none⟩ = some (.int .i64 n.a) ∧ w'.cell? ⟨w.heap.size, 2, none⟩ = some (.int .i64 n.b)) (by rfl) ⟨e6, k0, k1', k2⟩ (fun hS0 => ?_)
  refine wpAnyE_take' (i := 0) (v := ?_) rfl (by kernel_rfl) (by kernel_rfl) (by kernel_rfl) (by kernel_rfl) (by kernel_rfl) (fun _ _ _ h => h) (Or.inl ⟨by rfl, ?_⟩) (by assumption) ?_
  rotate_left
  · (intro w hSw; (try dsimp only at hSw); go_simp); all_goals with_reducible rfl
  try simp only [Act.put, List.getElem_toArray, List.getElem_cons_zero, List.getElem_cons_succ, List.setIfInBounds_toArray, List.set_cons_zero, List.set_cons_succ]
  refine wpAnyE_take' (i := 1) (v := ?_) rfl (by kernel_rfl) (by kernel_rfl) (by kernel_rfl) (by kernel_rfl) (by kernel_rfl) (fun _ _ _ h => h) (Or.inl ⟨by rfl, ?_⟩) (by assumption) ?_
  rotate_left
  · (intro w hSw; (try dsimp only at hSw); go_simp); all_goals with_reducible rfl
  try simp only [Act.put, List.getElem_toArray, List.getElem_cons_zero, List.getElem_cons_succ, List.setIfInBounds_toArray, List.set_cons_zero, List.set_cons_succ]
  refine wpAnyE_take' (i := 2) (v := ?_) rfl (by kernel_rfl) (by kernel_rfl) (by kernel_rfl) (by kernel_rfl) (by kernel_rfl) (fun _ _ _ h => h) (Or.inl ⟨by rfl, ?_⟩) (by assumption) ?_
  rotate_left
  · (intro w hSw; (try dsimp only at hSw); go_simp); all_goals with_reducible rfl
  try simp only [Act.put, List.getElem_toArray, List.getElem_cons_zero, List.getElem_cons_succ, List.setIfInBounds_toArray, List.set_cons_zero, List.set_cons_succ]
  refine wpAnyE_take' (i := 3) (v := ?_) rfl (by kernel_rfl) (by kernel_rfl) (by kernel_rfl) (by kernel_rfl) (by kernel_rfl) (fun _ _ _ h => h) (Or.inl ⟨by rfl, ?_⟩) (by assumption) ?_
  rotate_left
  · (intro w hSw; (try dsimp only at hSw); go_simp); all_goals with_reducible rfl
  try simp only [Act.put, List.getElem_toArray, List.getElem_cons_zero, List.getElem_cons_succ, List.setIfInBounds_toArray, List.set_cons_zero, List.set_cons_succ]
  refine wpAnyE_step (i := 4) (by kernel_rfl) rfl rfl (fun K4 hK4 => ?_)
  go_simp
  go_at_call 73
  refine (binders_any _ _ _ _ _).mono ?_
  rintro e w7 ⟨rfl, rfl⟩
  go_wp2_with fail
  have hS4 : (wr.alloc (.cells #[.int .i64 n.op, .int .i64 n.a, .int .i64 n.b] 50)).drew.cell? ⟨C.H + 6, 0, none⟩ = some (.func (.func 72) #[] #[.pointer (some ⟨C.H, 0, none⟩), .pointer (some ⟨C.H + 5, 0, none⟩), .pointer (some ⟨C.H + 2, 0, none⟩), .pointer (some ⟨C.H + 1, 0, none⟩), .pointer (some ⟨C.H + 6, 0, none⟩)]) ∧ (wr.alloc (.cells #[.int .i64 n.op, .int .i64 n.a, .int .i64 n.b] 50)).drew.cell? ⟨w.heap.size, 0, none⟩ = some (.int .i64 n.op) ∧ (wr.alloc (.cells #[.int .i64 n.op, .int .i64 n.a, .int .i64 n.b] 50)).drew.cell? ⟨w.heap.size, 1, none⟩ = some (.int .i64 n.a) ∧ (wr.alloc (.cells #[.int .i64 n.op, .int .i64 n.a, .int .i64 n.b] 50)).drew.cell? ⟨w.heap.size, 2, none⟩ = some (.int .i64 n.b) := ⟨(Blk.alloc HST5.out.br _).cell 0, (Blk.alloc HB5.out _).cell 0, (Blk.alloc HB5.out _).cell 1, (Blk.alloc HB5.out _).cell 2⟩
  refine hK4.out _ _ (fun _ => hS4) ?_
  try simp only [Act.put, List.getElem_toArray, List.getElem_cons_zero, List.getElem_cons_succ, List.setIfInBounds_toArray, List.set_cons_zero, List.set_cons_succ]
  refine wpAnyE_take' (i := 5) (v := ?_) rfl (by kernel_rfl) (by kernel_rfl) (by kernel_rfl) (by kernel_rfl) (by kernel_rfl) (fun _ _ _ h => h) (Or.inl ⟨by rfl, ?_⟩) (by assumption) ?_
  rotate_left
  · (intro w hSw; (try dsimp only at hSw); go_simp); all_goals with_reducible rfl
  try simp only [Act.put, List.getElem_toArray, List.getElem_cons_zero, List.getElem_cons_succ, List.setIfInBounds_toArray, List.set_cons_zero, List.set_cons_succ]
  refine wpAnyE_step (i := 6) (by kernel_rfl) rfl rfl (fun K6 hK6 => ?_)
  go_simp
  have hst6 := (HST5.out.below HG.out (below_alloc _ (.cells #[.int .i64 n.op, .int .i64 n.a, .int .i64 n.b] 50))).drew HG.out
  refine (HI.out _ _ q1 s1 o1 _ n1 a1 k1 (C.l.drop q2) hst6 HP1.out HAX.out HAY.out HD1.out HM1.out HFS.out).mono ?_
  rintro e w8 (⟨hg8, rfl, hm8, v8, hst8, hnr8⟩ | ⟨hg8, rfl, hm8⟩)
  rotate_left
  · refine ⟨rfl, .inr ⟨?_, rfl, (HM5.out.alloc _).drew.trans hm8 HNR5.out⟩⟩
    rw [Vis.G1, HKF.out, Vis.G_app, Vis.G_cons, HFJ.out, Nat.zero_add, HAB.out, ← HS1.out, hg8]
    simp
  refine hK6.out _ _ (fun h => absurd rfl h) ?_
  refine wpAnyE_end (by kernel_rfl) ?_ _
  have hb8 : Blk w8 w.heap.size 50 #[.int .i64 n.op, .int .i64 n.a, .int .i64 n.b] := Blk.moved (show Blk (wr.alloc (.cells #[.int .i64 n.op, .int .i64 n.a, .int .i64 n.b] 50)).drew _ _ _ from Blk.alloc HB5.out _) hm8 (WkC.S'_new HG.out (by omega)) HNRB.out
  have hm9 := (HM5.out.alloc _).drew.trans hm8 HNR5.out
  have hsz8 : w.heap.size + 1 ≤ (wr.alloc (.cells #[.int .i64 n.op, .int .i64 n.a, .int .i64 n.b] 50)).drew.heap.size := by simp; omega
  have hnr9 := HNR5.out.trans hnr8 (by omega)
  have hns9 : v8.ownBlock ≠ some w.heap.size := fun e => by
   rcases hnr8 _ e with h | h
   · exact HNRB.out h
   omega
  have HB8 := hid hb8
  have HM8 := hid hm9
  have HNR8 := hid hnr9
  have HNS8 := hid hns9
  rw [List.length_drop, show C.l.length - (C.l.length - q2) = q2 by omega] at hst8
  clear hb8 hm9 hnr9 hns9 hm8 hnr8 hst6 hS4
  go_wp2_with fail
  go_roundw
  case rel =>
   refine ⟨F1.app (.cons [] n1 a1 k1 .nil), F3, j + 1, q2, v8, _, _, hid (by rw [HKF.out, app_assoc]; rfl), HP3, hid (by rw [flen_app, HFJ.out, if_neg H12.out]; rfl), by omega, by go_num, by have := HLQ.out; omega, hid hst8, hid ?_, hid ?_, HB8, HM8, HNR8, HNS8, hid ?_⟩
   · rw [Vis.S_app, Vis.S_cons, HFJ.out, Nat.zero_add, HAB.out, ← HS1.out]; rfl
   · rw [Vis.E_app, Vis.E_cons, HFJ.out, Nat.zero_add, HAB.out, ← HS1.out, HO1.out]
     simp only [Vis.E, List.append_nil, List.nil_append, List.append_assoc]
   rw [Vis.G_app, Vis.G_cons, HFJ.out, Nat.zero_add, HAB.out, ← HS1.out, HG1.out, hg8]; rfl
  case measure => simp [intOf]; omega
end
section
open Go.RowKit
theorem walk2_all {σ : Type} (C : WkC σ) (hG : C.Good) : ∀ (m : Nat) (w : World) (v : Value) (q : Nat) (s : σ) (o : List Nd) (a : Int) (n : Nd) (ats : List Nd) (k : Fo) (rest : List Nd), C.St w v q s o → pp [false] (C.l.drop q) = some (.cons [] n ats k .nil, rest) → 0 ≤ a → a + 4 * fsize k ≤ 1000000000000 → C.V.D1 a s n k → o.length + (C.V.E1 a s n ats k).length ≤ C.M → fsize k < m →
      Calls Try.prog 72 #[.int .i64 a, .pointer (some ⟨C.H, 0, none⟩), .pointer (some ⟨C.H + 5, 0, none⟩), .pointer (some ⟨C.H + 2, 0, none⟩), .pointer (some ⟨C.H + 1, 0, none⟩), .pointer (some ⟨C.H + 6, 0, none⟩)] w (C.Post w v o (C.l.length - rest.length) (C.V.E1 a s n ats k) (C.V.S1 a s n k) (C.V.G1 a s n k))
 | 0, _, _, _, _, _, _, _, _, _, _, _, _, _, _, _, _, h => absurd h (by omega)
 | m + 1, w, v, q, s, o, a, n, ats, k, rest, hst, hpp, ha0, ha1, hD, hM, hsz => by
  by_cases h2 : n.op = 2
  · exact walk2_sort C hG m (walk2_all C hG m) w v q s o a n ats k rest hst hpp ha0 ha1 hD hM (by omega) h2
  · exact walk2_kids C hG m (walk2_all C hG m) w v q s o a n ats k rest hst hpp ha0 ha1 hD hM (by omega) h2
theorem assert_fail (er : Int) (w : World) : (Instr.typeAssert (.iface 117 (.agg #[.int .i64 er])) 20 117 true).run Try.prog w = .ok (.tuple #[.agg #[.int .i64 er], .bool true]) w := by kernel_rfl
theorem assert_nil (w : World) : (Instr.typeAssert .nilIface 20 117 true).run Try.prog w = .ok (.tuple #[.agg #[.int .i64 0], .bool false]) w := by kernel_rfl
def CatchPost (p1 p2 : Nat) (er : Int) (w w' : World) : Prop := Moved (fun k => k = p1 ∨ k = p2) none w w' ∧ Blk w' p1 29 #[.slice none 0 0] ∧ Blk w' p2 34 #[.int .i64 er]
theorem catch_post {p1 p2 : Nat} {x y : Value} {er : Int} {w : World} (hp : p1 ≠ p2) (h1 : Blk w p1 29 #[x]) (h2 : Blk w p2 34 #[y]) (o : Obj) :
 CatchPost p1 p2 er w (((w.setCell ⟨p1, 0, none⟩ (.slice none 0 0)).setCell ⟨p2, 0, none⟩ (.int .i64 er)).alloc o).drew := by
 refine ⟨((((Moved.refl _ _ w).setCell (p := ⟨p1, 0, none⟩) (.inl rfl) _).setCell (p := ⟨p2, 0, none⟩) (.inr rfl) _).alloc _).drew, ?_, ?_⟩
 · have := ((h1.set_ 0 (.slice none 0 0)).far (p := ⟨p2, 0, none⟩) hp (.int .i64 er)).alloc o
   exact (by simpa using this : Blk (((w.setCell ⟨p1, 0, none⟩ (.slice none 0 0)).setCell ⟨p2, 0, none⟩ (.int .i64 er)).alloc o) p1 29 #[.slice none 0 0])
 have := ((h2.far (p := ⟨p1, 0, none⟩) (Ne.symm hp) (.slice none 0 0)).set_ 0 (.int .i64 er)).alloc o
 exact (by simpa using this : Blk (((w.setCell ⟨p1, 0, none⟩ (.slice none 0 0)).setCell ⟨p2, 0, none⟩ (.int .i64 er)).alloc o) p2 34 #[.int .i64 er])
theorem catch_fail (p1 p2 : Nat) (hp : p1 ≠ p2) (x y : Value) (er : Int) (older : List PanicEntry) (w : World) (h1 : Blk w p1 29 #[x]) (h2 : Blk w p2 34 #[y]) :
 CallsD Try.prog 71 #[.pointer (some ⟨p1, 0, none⟩), .pointer (some ⟨p2, 0, none⟩)] (.panicking ({ v := .iface 117 (.agg #[.int .i64 er]), recovered := false } :: older)) w fun e u' w' =>
  e = .returned (.tuple #[]) ∧ u' = .panicking ({ v := .iface 117 (.agg #[.int .i64 er]), recovered := true } :: older) ∧ CatchPost p1 p2 er w w' := by
 have c1 := h1.cell
 have c2 := h2.cell
 have f1 := h1.frozen
 have f2 := h2.frozen
 refine callsD_of_wpS Try.func71 rfl fun c₀ cs hu => ?_
 apply wpS_seq
 apply wpS_region
 simp [wpOpsS, go_sem, recoverD, hu, Try.ntmps71, Exit.thenS, assert_fail]
 apply wpS_seq
 apply wpS_region
 simp [wpOpsS, go_sem, Exit.thenS]
 refine wpS_cond (t := true) (by simp [Act.eval, Array.replicate]) ?_
 simp only [if_true]
 refine wpS_of_wp ?_
 simp only [Array.replicate]
 have hl1 := h1.lt
 have hl2 := h2.lt
 have hp' : p2 ≠ p1 := Ne.symm hp
 have hn1 : w.heap.size ≠ p1 := by omega
 have hn2 : w.heap.size ≠ p2 := by omega
 go_region
 all_goals
  simp [bodyPostS, results, Try.results71, go_sem]
  exact catch_post hp h1 h2 _
theorem catch_idle (p1 p2 : Nat) (w : World) :
 CallsD Try.prog 71 #[.pointer (some ⟨p1, 0, none⟩), .pointer (some ⟨p2, 0, none⟩)] .returning w fun e u' w' =>
  e = .returned (.tuple #[]) ∧ u' = .returning ∧ w' = w.alloc (.cells #[.int .i64 0] 117) := by
 refine callsD_of_wpS Try.func71 rfl fun c₀ cs hu => ?_
 apply wpS_seq
 apply wpS_region
 simp [wpOpsS, go_sem, recoverD, hu, Try.ntmps71, Exit.thenS, assert_nil]
 apply wpS_seq
 apply wpS_region
 simp [wpOpsS, go_sem, Exit.thenS]
 refine wpS_cond (t := false) (by simp [Act.eval, Array.replicate]) ?_
 simp only [Bool.false_eq_true, if_false]
 refine wpS_of_wp (wp_skip ?_)
 cases c₀
 simp_all [bodyPostS, results, Try.results71]
structure WalkIn {σ : Type} (V : Vis σ) (fn : FuncId) (caps : Array Value) (J : World → σ → Prop) (KK S : Nat → Prop) (base : Nat) (er : Int) (M : Nat) (R : Nat → Prop) (w : World) (A : Option Addr) (nn c : Nat) (l : List Nd) (v : Value) (s : σ) (o : List Nd) : Prop where
 hbase : base ≤ w.heap.size
 hR : ∀ b, R b → b < w.heap.size ∧ ¬ S b
 hK : ∀ b, KK b → b < w.heap.size
 hS : ∀ b, S b → KK b
 hJ : ∀ w w' s, J w s → (∀ k, KK k → w'.heap[k]? = w.heap[k]?) → J w' s
 hM : M ≤ 1000000000000
 en : ∀ args w, (callFunc fn args).run Try.prog w = .ok (.enter fn args) w
 one : OneOk Try.prog fn caps V J KK S base w.heap.size [{ v := .iface 117 (.agg #[.int .i64 er]), recovered := false }] M
 tm : TermR R w A nn c l
 own : OwnN w base v o
 j : J w s
 hv : ∀ g, v.ownBlock = some g → ¬ KK g ∧ ¬ R g
def WalkPost {σ : Type} (V : Vis σ) (J : World → σ → Prop) (S : Nat → Prop) (base : Nat) (er : Int) (w : World) (v : Value) (s : σ) (o : List Nd) (n : Nd) (ats : List Nd) (k : Fo) (e : Ending) (w' : World) : Prop :=
 Moved S v.ownBlock w w' ∧ ((V.G1 0 s n k = true ∧ J w' (V.S1 0 s n k) ∧ ∃ v', e = .returned (.tuple #[v', .int .i64 0]) ∧ OwnN w' base v' (o ++ V.E1 0 s n ats k) ∧ newRow v v' w) ∨
  (V.G1 0 s n k = false ∧ e = .returned (.tuple #[.slice none 0 0, .int .i64 er])))
section
variable {σ : Type} {V : Vis σ} {fn : FuncId} {caps : Array Value} {J : World → σ → Prop} {KK S : Nat → Prop} {base : Nat} {er : Int} {M : Nat} {R : Nat → Prop} {w : World} {A : Option Addr} {nn c : Nat} {l : List Nd} {v : Value} {s : σ} {o : List Nd}
def wkOf (V : Vis σ) (fn : FuncId) (caps : Array Value) (J : World → σ → Prop) (KK S : Nat → Prop) (base : Nat) (er : Int) (M : Nat) (R : Nat → Prop) (H : Nat) (A : Option Addr) (nn c : Nat) (l : List Nd) : WkC σ :=
 { H := H, base := base, A := A, nn := nn, c := c, l := l, R := R, KK := KK, S := S, fn := fn, caps := caps, J := J, V := V, pan := [{ v := .iface 117 (.agg #[.int .i64 er]), recovered := false }], M := M }
theorem WalkIn.good (h : WalkIn V fn caps J KK S base er M R w A nn c l v s o) : (wkOf V fn caps J KK S base er M R w.heap.size A nn c l).Good :=
 ⟨h.hbase, h.hR, h.hK, h.hS, h.hJ, h.hM, h.en, h.one⟩
def walkStart (w : World) (A : Option Addr) (nn c : Nat) (v : Value) (fn : FuncId) (caps : Array Value) : World :=
 (((((((w.alloc (.cells #[.slice A nn c] 29)).alloc (.cells #[v] 29)).alloc (.cells #[.func (.func fn) #[] caps] 93)).alloc (.cells #[.slice none 0 0] 29)).alloc (.cells #[.int .i64 0] 34)).alloc (.cells #[.int .i64 0] 3)).alloc
  (.cells #[.func (.func 72) #[] #[.pointer (some ⟨w.heap.size, 0, none⟩), .pointer (some ⟨w.heap.size + 5, 0, none⟩), .pointer (some ⟨w.heap.size + 2, 0, none⟩), .pointer (some ⟨w.heap.size + 1, 0, none⟩), .pointer (some ⟨w.heap.size + 6, 0, none⟩)]] 119))
theorem walkStart_below (w : World) (A : Option Addr) (nn c : Nat) (v : Value) (fn : FuncId) (caps : Array Value) : Below w.heap.size w (walkStart w A nn c v fn caps) :=
 (((((((Below.refl _ _).alloc (by simp) _).alloc (by simp) _).alloc (by simp; omega) _).alloc (by simp; omega) _).alloc (by simp; omega) _).alloc (by simp; omega) _).alloc (by simp; omega) _
theorem WalkIn.start (h : WalkIn V fn caps J KK S base er M R w A nn c l v s o) : (wkOf V fn caps J KK S base er M R w.heap.size A nn c l).St (walkStart w A nn c v fn caps) v 0 s o ∧ Blk (walkStart w A nn c v fn caps) (w.heap.size + 3) 29 #[.slice none 0 0] ∧ Blk (walkStart w A nn c v fn caps) (w.heap.size + 4) 34 #[.int .i64 0] := by
 have hb := walkStart_below w A nn c v fn caps
 refine ⟨⟨?_, ?_, ?_, ?_, ?_, ?_, ?_, ?_, ?_⟩, ?_, ?_⟩
 · exact (((((((Blk.new' rfl).alloc _).alloc _).alloc _).alloc _).alloc _).alloc _)
 · exact ((((((Blk.new' (by simp [wkOf])).alloc _).alloc _).alloc _).alloc _).alloc _)
 · exact (((((Blk.new' (by simp [wkOf])).alloc _).alloc _).alloc _).alloc _)
 · exact ((Blk.new' (by simp [wkOf])).alloc _)
 · exact (Blk.new' (by simp [wkOf] <;> rfl))
 · exact h.tm.keep fun b hR => ⟨hR, fun o => cell_of_heap (hb.block b (h.hR b hR).1) o⟩
 · exact h.own.below hb
 · exact h.hJ _ _ _ h.j fun k hk => hb.block k (h.hK k hk)
 · intro g hg
   exact ⟨(h.hv g hg).1, (h.hv g hg).2, .inl (ownsRow_block h.own hg).2.1⟩
 · exact ((((Blk.new' (by simp)).alloc _).alloc _).alloc _)
 exact (((Blk.new' (by simp)).alloc _).alloc _)
end
theorem walk_any {σ : Type} {V : Vis σ} {fn : FuncId} {caps : Array Value} {J : World → σ → Prop} {KK S : Nat → Prop} {base : Nat} {er : Int} {M : Nat} {R : Nat → Prop} {w : World} {A : Option Addr} {nn c : Nat} {l : List Nd} {v : Value} {s : σ} {o : List Nd}
 (hin : WalkIn V fn caps J KK S base er M R w A nn c l v s o) {n : Nd} {ats : List Nd} {k : Fo} (hpp : pp [false] l = some (.cons [] n ats k .nil, [])) (hsz : 4 * fsize k ≤ 1000000000000) (hD : V.D1 0 s n k) (hlen : o.length + (V.E1 0 s n ats k).length ≤ M) :
 Calls Try.prog 43 #[.slice A nn c, v, .func (.func fn) #[] caps] w (WalkPost V J S base er w v s o n ats k) := by
 obtain ⟨Av, cv, rfl⟩ := hin.own.slice
 have hmf : ∀ (fn : Fn) (first cap : Array Value) (w : World), (Instr.makeFunc fn first cap).run Try.prog w = .ok (.func fn first cap) w := fun _ _ _ _ => rfl
 have HIN := hid hin
 have HPP := hid hpp
 have HSZ := hid hsz
 have HD := hid hD
 have HLEN := hid hlen
 clear hin hpp hsz hD hlen
 go_enter_defers Try.func43, Try.ntmps43
 go_wp2_with fail
 obtain ⟨hst, hk3, hk4⟩ := HIN.out.start
 refine (walk2_all _ HIN.out.good (fsize k + 1) (walkStart w A nn c (.slice Av o.length cv) fn caps) _ 0 s o 0 n ats k [] hst HPP.out (by omega) (by have := HSZ.out; omega) HD.out HLEN.out (by omega)).mono ?_
 rintro e w8 (⟨hg, rfl, hm, v8, hst8, hnr⟩ | ⟨hg, rfl, hm⟩)
 rotate_left
 · have hS : ∀ j, j = 3 ∨ j = 4 → ¬ (wkOf V fn caps J KK S base er M R w.heap.size A nn c l).S' (w.heap.size + j) := fun j hj hs => by
    rcases hs with h | h | h
    · have := HIN.out.hK _ (HIN.out.hS _ h); omega
    · simp only [wkOf] at h; omega
    simp only [wkOf] at h; omega
   have hO : ∀ j, (Value.slice Av o.length cv).ownBlock ≠ some (w.heap.size + j) := fun j e => by have := (ownsRow_block HIN.out.own e).2.1; omega
   have b3 : Blk w8 (w.heap.size + 1 + 1 + 1) 29 #[.slice none 0 0] := hk3.moved hm (hS 3 (.inl rfl)) (hO 3)
   have b4 : Blk w8 (w.heap.size + 1 + 1 + 1 + 1) 34 #[.int .i64 0] := hk4.moved hm (hS 4 (.inr rfl)) (hO 4)
   refine leaves_cons (f := 71) (args := #[.pointer (some ⟨w.heap.size + 1 + 1 + 1, 0, none⟩), .pointer (some ⟨w.heap.size + 1 + 1 + 1 + 1, 0, none⟩)]) (by simp) (by simp [go_sem]) ?_
   refine (catch_fail (w.heap.size + 1 + 1 + 1) (w.heap.size + 1 + 1 + 1 + 1) (by omega) _ _ er [] w8 b3 b4).mono ?_
   rintro e u' wf ⟨rfl, rfl, hc1, hc3, hc4⟩
   have q3 : wf.cell? ⟨w.heap.size + 1 + 1 + 1, 0, none⟩ = some (.slice none 0 0) := hc3.cell 0
   have q4 : wf.cell? ⟨w.heap.size + 1 + 1 + 1 + 1, 0, none⟩ = some (.int .i64 er) := hc4.cell 0
   have HP : Hid (WalkPost V J S base er w (.slice Av o.length cv) s o n ats k (.returned (.tuple #[.slice none 0 0, .int .i64 er])) wf) := by
    refine ⟨?_, .inr ⟨hg, rfl⟩⟩
    have h1 := Moved.over (S := S) (walkStart_below w A nn c (.slice Av o.length cv) fn caps) hm (fun k hk hs => by
     rcases hs with h | h | h
     · exact h
     · simp only [wkOf] at h; omega
     simp only [wkOf] at h; omega)
    refine ⟨hc1.os.trans h1.os, hc1.tape.trans h1.tape, hc1.output.trans h1.output, Nat.le_trans h1.size hc1.size, fun g hg1 hg2 hg3 => ?_⟩
    exact (hc1.block g (Nat.lt_of_lt_of_le hg1 h1.size) (by omega) (by simp)).trans (h1.block g hg1 hg2 hg3)
   simp [Leaves, settle, results, Try.results43, go_sem, q3, q4]
   exact HP.out
 obtain ⟨A8, c8, rfl⟩ := hst8.own.slice
 have hS : ∀ j, j = 3 ∨ j = 4 → ¬ (wkOf V fn caps J KK S base er M R w.heap.size A nn c l).S' (w.heap.size + j) := fun j hj hs => by
  rcases hs with h | h | h
  · have := HIN.out.hK _ (HIN.out.hS _ h); omega
  · simp only [wkOf] at h; omega
  simp only [wkOf] at h; omega
 have hO : ∀ j, (Value.slice Av o.length cv).ownBlock ≠ some (w.heap.size + j) := fun j e => by have := (ownsRow_block HIN.out.own e).2.1; omega
 have b3 : Blk w8 (w.heap.size + 1 + 1 + 1) 29 #[.slice none 0 0] := hk3.moved hm (hS 3 (.inl rfl)) (hO 3)
 have b4 : Blk w8 (w.heap.size + 1 + 1 + 1 + 1) 34 #[.int .i64 0] := hk4.moved hm (hS 4 (.inr rfl)) (hO 4)
 have e1 : w8.cell? ⟨w.heap.size + 1, 0, none⟩ = some (.slice A8 (o ++ (wkOf V fn caps J KK S base er M R w.heap.size A nn c l).V.E1 0 s n ats k).length c8) := hst8.bo.cell 0
 have c3 := b3.cell
 have c4 := b4.cell
 have f3 := b3.frozen
 have f4 := b4.frozen
 have B3 := hid b3
 have B4 := hid b4
 have HM := hid hm
 have HS8 := hid hst8
 have HNR := hid hnr
 have HGG := hid hg
 clear b3 b4 hm hst8 hnr hg hst hk3 hk4 hS hO
 go_wp2_with fail
 refine leaves_cons (f := 71) (args := #[.pointer (some ⟨w.heap.size + 1 + 1 + 1, 0, none⟩), .pointer (some ⟨w.heap.size + 1 + 1 + 1 + 1, 0, none⟩)]) (by simp) (by simp [go_sem]) ?_
 refine (catch_idle _ _ _).mono ?_
 rintro e u' w'' ⟨rfl, rfl, rfl⟩
 have r3 := ((B3.out.set_ 0 (.slice A8 (o.length + ((wkOf V fn caps J KK S base er M R w.heap.size A nn c l).V.E1 0 s n ats k).length) c8)).far (p := ⟨w.heap.size + 1 + 1 + 1 + 1, 0, none⟩) (by simp) (.int .i64 0)).alloc (.cells #[.int .i64 0] 117)
 have r4 := ((B4.out.far (p := ⟨w.heap.size + 1 + 1 + 1, 0, none⟩) (by simp) (.slice A8 (o.length + ((wkOf V fn caps J KK S base er M R w.heap.size A nn c l).V.E1 0 s n ats k).length) c8)).set_ 0 (.int .i64 0)).alloc (.cells #[.int .i64 0] 117)
 have hno : ∀ g, (Value.slice A8 (o.length + (V.E1 0 s n ats k).length) c8).ownBlock = some g → g < w.heap.size ∨ w.heap.size + 7 ≤ g := fun g hg => (HS8.out.hv g (by rw [List.length_append]; exact hg)).2.2
 have hown : OwnN (((w8.setCell ⟨w.heap.size + 1 + 1 + 1, 0, none⟩ (.slice A8 (o.length + ((wkOf V fn caps J KK S base er M R w.heap.size A nn c l).V.E1 0 s n ats k).length) c8)).setCell ⟨w.heap.size + 1 + 1 + 1 + 1, 0, none⟩ (.int .i64 0)).alloc (.cells #[.int .i64 0] 117)) base (.slice A8 (o.length + ((wkOf V fn caps J KK S base er M R w.heap.size A nn c l).V.E1 0 s n ats k).length) c8) (o ++ V.E1 0 s n ats k) := by
  have h1 := HS8.out.own
  rw [List.length_append] at h1
  refine OwnN.alloc ?_ _
  refine ownsRow_setCell_other (ownsRow_setCell_other h1 ?_ _) ?_ _
  · intro e; have := hno _ e; simp at this; omega
  intro e; have := hno _ e; simp at this; omega
 have hfm := ((((Moved.over (S := S) (walkStart_below w A nn c (.slice Av o.length cv) fn caps) HM.out (fun k hk hs => by
  rcases hs with h | h | h
  · exact h
  · simp only [wkOf] at h; omega
  simp only [wkOf] at h; omega)).setNew (p := ⟨w.heap.size + 1 + 1 + 1, 0, none⟩) (by simp; omega) (.slice A8 (o.length + ((wkOf V fn caps J KK S base er M R w.heap.size A nn c l).V.E1 0 s n ats k).length) c8)).setNew (p := ⟨w.heap.size + 1 + 1 + 1 + 1, 0, none⟩) (by simp; omega) (.int .i64 0)).alloc (.cells #[.int .i64 0] 117))
 have hj : J (((w8.setCell ⟨w.heap.size + 1 + 1 + 1, 0, none⟩ (.slice A8 (o.length + ((wkOf V fn caps J KK S base er M R w.heap.size A nn c l).V.E1 0 s n ats k).length) c8)).setCell ⟨w.heap.size + 1 + 1 + 1 + 1, 0, none⟩ (.int .i64 0)).alloc (.cells #[.int .i64 0] 117)) (V.S1 0 s n k) := HIN.out.hJ _ _ _ HS8.out.j (fun g hg => by
  have h1 := HIN.out.hK g hg
  have h2 := HS8.out.size
  simp only [wkOf] at h2
  rw [Below.heap_alloc _ _ _ (by simp [World.setCell]; omega), Below.heap_setCell _ _ _ _ (by simp; omega), Below.heap_setCell _ _ _ _ (by simp; omega)])
 have hnr : newRow (.slice Av o.length cv) (.slice A8 (o.length + ((wkOf V fn caps J KK S base er M R w.heap.size A nn c l).V.E1 0 s n ats k).length) c8) w := fun g hg => (HNR.out g (by rw [List.length_append]; exact hg)).imp id (fun h => Nat.le_trans (walkStart_below w A nn c (.slice Av o.length cv) fn caps).size h)
 have HP : Hid (WalkPost V J S base er w (.slice Av o.length cv) s o n ats k (.returned (.tuple #[.slice A8 (o.length + ((wkOf V fn caps J KK S base er M R w.heap.size A nn c l).V.E1 0 s n ats k).length) c8, .int .i64 0])) (((w8.setCell ⟨w.heap.size + 1 + 1 + 1, 0, none⟩ (.slice A8 (o.length + ((wkOf V fn caps J KK S base er M R w.heap.size A nn c l).V.E1 0 s n ats k).length) c8)).setCell ⟨w.heap.size + 1 + 1 + 1 + 1, 0, none⟩ (.int .i64 0)).alloc (.cells #[.int .i64 0] 117))) :=
  ⟨hfm, .inl ⟨HGG.out, hj, _, rfl, hown, hnr⟩⟩
 clear hfm hown hj hnr hno c3 c4 f3 f4 e1
 generalize (((w8.setCell ⟨w.heap.size + 1 + 1 + 1, 0, none⟩ (.slice A8 (o.length + ((wkOf V fn caps J KK S base er M R w.heap.size A nn c l).V.E1 0 s n ats k).length) c8)).setCell ⟨w.heap.size + 1 + 1 + 1 + 1, 0, none⟩ (.int .i64 0)).alloc (.cells #[.int .i64 0] 117)) = wf at r3 r4 HP ⊢
 have q3 : wf.cell? ⟨w.heap.size + 1 + 1 + 1, 0, none⟩ = some (.slice A8 (o.length + ((wkOf V fn caps J KK S base er M R w.heap.size A nn c l).V.E1 0 s n ats k).length) c8) := r3.cell 0
 have q4 : wf.cell? ⟨w.heap.size + 1 + 1 + 1 + 1, 0, none⟩ = some (.int .i64 0) := r4.cell 0
 simp [Leaves, settle, results, Try.results43, go_sem, q3, q4]
 exact HP.out
end
section
open Go.RowKit
def raV (up fr : Int) : Vis Unit where
 em := fun _ n a => if n.op = 1 ∧ fr + a ≤ n.a then [⟨n.op, n.a + up, n.b⟩] else [n]
 nx := fun _ _ _ => ()
 ok := fun _ n a => if n.op = 1 ∧ fr + a ≤ n.a then decide (up ≤ 1048576 - n.a) else true
 dm := fun _ _ _ => True
def raJ (pf pb : Nat) (up fr : Int) (w : World) (_ : Unit) : Prop := Blk w pf 3 #[.int .i64 fr] ∧ Blk w pb 3 #[.int .i64 up]
def raK (pf pb : Nat) (k : Nat) : Prop := k = pf ∨ k = pb
theorem ra_same {up fr : Int} {n : Nd} {a : Int} (h : ¬ (n.op = 1 ∧ fr + a ≤ n.a)) : (raV up fr).em () n a = [n] ∧ (raV up fr).ok () n a = true := ⟨if_neg h, if_neg h⟩
theorem ra_up {up fr : Int} {n : Nd} {a : Int} (h : n.op = 1 ∧ fr + a ≤ n.a) : (raV up fr).em () n a = [⟨n.op, n.a + up, n.b⟩] ∧ (raV up fr).ok () n a = decide (up ≤ 1048576 - n.a) := ⟨if_pos h, if_pos h⟩
theorem ra_close {pf pb : Nat} {up fr : Int} {base : Nat} {pan : List PanicEntry} {w W w' : World} {s : Unit} {v : Value} {A' : Option Addr} {m c' : Nat} {o : List Nd} {n x : Nd} {a : Int} {xs : List Value} (hf : Blk w pf 3 #[.int .i64 fr]) (hp : Blk w pb 3 #[.int .i64 up]) (hk : ∀ k, v.ownBlock = some k → ¬ raK pf pb k)
 (hb : Below w.heap.size w W) (hown : OwnN w' base (.slice A' m c') (o ++ [x])) (happ : Appended W w' base 50 3 v A' m c' xs) (he : (raV up fr).em () n a = [x]) (hok : (raV up fr).ok () n a = true) :
 OnePost (raV up fr) (raJ pf pb up fr) (fun _ => False) base pan w s v o n a (.returned (.slice A' m c')) w' := by
 refine .inl ⟨hok, (Moved.of_below hb).trans (Moved.of_grown happ.grown) (fun g hg => .inl hg), ⟨?_, ?_⟩, _, rfl, ?_, fun g hg => (happ.new g hg).imp id (fun h => Nat.le_trans hb.size h)⟩
 · exact (hf.below hb hf.lt).grown happ.grown (fun e => hk _ e.symm (.inl rfl))
 · exact (hp.below hb hp.lt).grown happ.grown (fun e => hk _ e.symm (.inr rfl))
 show OwnN w' base _ (o ++ (raV up fr).em () n a)
 rw [he]; exact hown
theorem raised1_ok {pf pb : Nat} {up fr : Int} {base H M : Nat} (hpf : pf < H) (hpb : pb < H) (hb : base ≤ H) (hM : M ≤ 1000000000000) (hup0 : 0 ≤ up) (hup1 : up ≤ 9223372036854775807) (hfr0 : 0 ≤ fr) (hfr1 : fr ≤ 1000000000000) :
 OneOk Try.prog 101 #[.pointer (some ⟨pf, 0, none⟩), .pointer (some ⟨pb, 0, none⟩)] (raV up fr) (raJ pf pb up fr) (raK pf pb) (fun _ => False) base H [{ v := .iface 117 (.agg #[.int .i64 6]), recovered := false }] M := by
 intro w s v o n a hH hj hown hkk hok _ ha0 ha1 hlen
 obtain ⟨Av, cv, rfl⟩ := hown.slice
 obtain ⟨hjf, hjb⟩ := hj
 have hpl : plainB n.op n.a n.b = true := by simp only [okN, Bool.and_eq_true] at hok; exact hok.1.1
 obtain ⟨hna0, hna1⟩ := plainB_a hpl
 have cf := hjf.cell
 have cb := hjb.cell
 have hlf : pf < w.heap.size := by omega
 have hlb : pb < w.heap.size := by omega
 have hbs : base ≤ w.heap.size := by omega
 obtain ⟨i0, hi, hy0, hy1, hy2⟩ := info_parts infoN
 have HI0 := hid hi
 have HY0 := hid hy0
 have HY1 := hid hy1
 have HY2 := hid hy2
 have HOWN := hid hown
 have HJF := hid hjf
 have HJB := hid hjb
 have HKK := hid hkk
 have HLEN := hid hlen
 clear hi hy0 hy1 hy2 hown hjf hjb hkk hok hpl hlen
 show Calls Try.prog 101 #[.slice Av o.length cv, .agg #[.int .i64 n.op, .int .i64 n.a, .int .i64 n.b], .int .i64 a, .pointer (some ⟨pf, 0, none⟩), .pointer (some ⟨pb, 0, none⟩)] w _
 by_cases h1 : n.op = 1 ∧ fr + a ≤ n.a
 · have ⟨h2, h3⟩ := h1
   have h2b : (n.op == 1) = true := by simp [h2]
   have hw1 : IntKind.i64.wrap (fr + a) = fr + a := IntWalk.i64_in _ (by omega)
   obtain ⟨he, hk⟩ := ra_up (up := up) h1
   have HE := hid he
   have HK := hid hk
   have H1 := hid h1
   clear he hk h1 h2
   by_cases h4 : up ≤ 1048576 - n.a
   · have hl : o.length + 1 ≤ 1000000000000 := by have := HLEN.out; rw [HE.out] at this; simp at this; omega
     have h4b : decide (1048576 - n.a < up) = false := by simp; omega
     go_in
     go_wp2_with (at_builtin; refine wpList_oper rfl (oper_append_node (.tmp 32) (.tmp 34) 29 rfl base i0 Try.underlying29 HI0.out HY0.out HY1.out HY2.out (.slice Av o.length cv) o ⟨n.op, n.a + up, n.b⟩ (w.alloc (.cells #[.int .i64 n.op, .int .i64 (n.a + up), .int .i64 n.b] 50)) (by rfl) (by rfl) (HOWN.out.alloc _) _ (by rfl) (by simp) (by omega) (by simp; omega) ?_); intro A' c' w' hown' happ)
     go_ret
     exact ra_close HJF.out HJB.out HKK.out (below_alloc _ _) hown' happ HE.out (by rw [HK.out]; simpa using h4)
   have h4b : 1048576 - n.a < up := by omega
   go_in
   go_wp2_with fail
   exact ⟨rfl, .inr ⟨by rw [HK.out]; simp; omega, rfl, Moved.of_below (below_alloc _ _)⟩⟩
 obtain ⟨he, hk⟩ := ra_same (up := up) h1
 have HE := hid he
 have HK := hid hk
 have hl : o.length + 1 ≤ 1000000000000 := by have := HLEN.out; rw [he] at this; simp at this; omega
 clear he hk
 by_cases h2 : n.op = 1
 · have h2b : (n.op == 1) = true := by simp [h2]
   have h3b : decide (fr + a ≤ n.a) = false := by simp; have := fun h => h1 ⟨h2, h⟩; omega
   clear h1 h2
   go_in
   go_wp2_with (at_builtin; refine wpList_oper rfl (oper_append_node (.tmp 32) (.tmp 34) 29 rfl base i0 Try.underlying29 HI0.out HY0.out HY1.out HY2.out (.slice Av o.length cv) o n (w.alloc (.cells #[.int .i64 n.op, .int .i64 n.a, .int .i64 n.b] 50)) (by rfl) (by rfl) (HOWN.out.alloc _) _ (by rfl) (by simp) (by omega) (by simp; omega) ?_); intro A' c' w' hown' happ)
   go_ret
   exact ra_close HJF.out HJB.out HKK.out (below_alloc _ _) hown' happ HE.out HK.out
 have h2b : (n.op == 1) = false := by simp [h2]
 clear h1 h2
 go_in
 go_wp2_with (at_builtin; refine wpList_oper rfl (oper_append_node (.tmp 32) (.tmp 34) 29 rfl base i0 Try.underlying29 HI0.out HY0.out HY1.out HY2.out (.slice Av o.length cv) o n (w.alloc (.cells #[.int .i64 n.op, .int .i64 n.a, .int .i64 n.b] 50)) (by rfl) (by rfl) (HOWN.out.alloc _) _ (by rfl) (by simp) (by omega) (by simp; omega) ?_); intro A' c' w' hown' happ)
 go_ret
 exact ra_close HJF.out HJB.out HKK.out (below_alloc _ _) hown' happ HE.out HK.out
def RaisedPost (up fr : Int) (base : Nat) (w : World) (v : Value) (o : List Nd) (n : Nd) (ats : List Nd) (k : Fo) (e : Ending) (w' : World) : Prop :=
 Moved (fun _ => False) v.ownBlock w w' ∧ (((raV up fr).G1 0 () n k = true ∧ ∃ v', e = .returned (.tuple #[v', .int .i64 0]) ∧ OwnN w' base v' (o ++ (raV up fr).E1 0 () n ats k) ∧ newRow v v' w) ∨ ((raV up fr).G1 0 () n k = false ∧ e = .returned (.tuple #[.slice none 0 0, .int .i64 6])))
theorem raV_D (up fr : Int) (pop pb : Int) : ∀ (j : Nat) (a : Int) (F : Fo), (raV up fr).D pop pb j a () F
 | _, _, .nil => trivial
 | j, a, .cons p n at' k x => by
  rw [Vis.D_cons]
  exact ⟨⟨trivial, raV_D up fr _ _ _ _ k⟩, raV_D up fr pop pb (j + 1) a x⟩
theorem raised_any {up fr : Int} {base : Nat} {R : Nat → Prop} {w : World} {A : Option Addr} {nn c : Nat} {l : List Nd} {v : Value} {o : List Nd} (hb : base ≤ w.heap.size) (hR : ∀ b, R b → b < w.heap.size) (htm : TermR R w A nn c l) (hown : OwnN w base v o) (hv : ∀ g, v.ownBlock = some g → ¬ R g)
 {n : Nd} {ats : List Nd} {k : Fo} (hpp : pp [false] l = some (.cons [] n ats k .nil, [])) (hsz : 4 * fsize k ≤ 1000000000000) (hlen : o.length + ((raV up fr).E1 0 () n ats k).length ≤ 1000000000000) (hup0 : 0 ≤ up) (hup1 : up ≤ 9223372036854775807) (hfr0 : 0 ≤ fr) (hfr1 : fr ≤ 1000000000000) :
 Calls Try.prog 98 #[v, .slice A nn c, .int .i64 up, .int .i64 fr] w (RaisedPost up fr base w v o n ats k) := by
 obtain ⟨Av, cv, rfl⟩ := hown.slice
 have hmf : ∀ (fn : Fn) (first cap : Array Value) (w : World), (Instr.makeFunc fn first cap).run Try.prog w = .ok (.func fn first cap) w := fun _ _ _ _ => rfl
 have hb2 := below_alloc2 w (.cells #[.int .i64 up] 3) (.cells #[.int .i64 fr] 3)
 have hin : WalkIn (raV up fr) 101 #[.pointer (some ⟨w.heap.size + 1, 0, none⟩), .pointer (some ⟨w.heap.size, 0, none⟩)] (raJ (w.heap.size + 1) w.heap.size up fr) (raK (w.heap.size + 1) w.heap.size) (fun _ => False) base 6 1000000000000 R ((w.alloc (.cells #[.int .i64 up] 3)).alloc (.cells #[.int .i64 fr] 3)) A nn c l (.slice Av o.length cv) () o := by
  refine ⟨by simp; omega, fun b h => ⟨by have := hR b h; simp; omega, fun h => h⟩, fun b h => by rcases h with h | h <;> subst h <;> simp <;> omega, fun b h => h.elim, ?_, Nat.le_refl _, fun _ _ => by kernel_rfl, raised1_ok (by simp) (by simp <;> omega) (by simp; omega) (Nat.le_refl _) hup0 hup1 hfr0 hfr1, ?_, hown.below hb2, ?_, fun g hg => ⟨fun h => ?_, hv g hg⟩⟩
  · intro w1 w2 s h hk
    exact ⟨h.1.same (hk _ (.inl rfl)), h.2.same (hk _ (.inr rfl))⟩
  · exact htm.keep fun b h => ⟨h, fun o => cell_of_heap (hb2.block b (hR b h)) o⟩
  · exact ⟨Blk.new' (by simp), (Blk.new _ _ _).alloc _⟩
  have := (ownsRow_block hown hg).2.1
  rcases h with h | h <;> omega
 have hwalk := walk_any hin hpp hsz ⟨trivial, raV_D up fr _ _ _ _ k⟩ hlen
 have HW := hid hwalk
 have HB2 := hid hb2
 clear hwalk hin hb2 htm hown hpp hsz hlen hv hR
 go_in
 go_wp2_with fail
 refine HW.out.mono ?_
 rintro e w' ⟨hm, (⟨hg, hj, v', rfl, hown', hnr⟩ | ⟨hg, rfl⟩)⟩
 · go_wp2_with fail
   go_ret2
   exact ⟨Moved.over HB2.out hm (fun _ _ h => h), .inl ⟨hg, _, rfl, hown', fun g hg => (hnr g hg).imp id (fun h => Nat.le_trans HB2.out.size h)⟩⟩
 go_wp2_with fail
 go_ret2
 exact ⟨Moved.over HB2.out hm (fun _ _ h => h), .inr ⟨hg, rfl⟩⟩
end
section
open Go.RowKit
structure Met (τ : Type) where
 an : τ → Int → Int → Bool
 nx : τ → Int → Int → τ
def MetOk (P : Program) (mk : FuncId) (mc : Array Value) {τ : Type} (T : Met τ) (J : World → τ → Prop) (S : Nat → Prop) (H : Nat) : Prop :=
 ∀ (w : World) (t : τ) (v a : Int), H ≤ w.heap.size → J w t → 0 ≤ v → v ≤ 1048576 → 0 ≤ a → a ≤ 1000000000000 →
  Calls P mk (#[.int .i64 v, .int .i64 a] ++ mc) w fun e w' => e = .returned (.bool (T.an t v a)) ∧ Moved S none w w' ∧ J w' (T.nx t v a)
def eaV {τ : Type} (T : Met τ) : Vis (Bool × τ) where
 em := fun _ _ _ => []
 nx := fun s n a => if s.1 = true then s else if n.op = 1 then (T.an s.2 n.a a, T.nx s.2 n.a a) else s
 ok := fun _ _ _ => true
 dm := fun _ _ _ => True
def eaJ {τ : Type} (pf pm : Nat) (mk : FuncId) (mc : Array Value) (J : World → τ → Prop) (w : World) (s : Bool × τ) : Prop := Blk w pf 4 #[.bool s.1] ∧ Blk w pm 58 #[.func (.func mk) #[] mc] ∧ J w s.2
def eaK (pf pm : Nat) (K : Nat → Prop) (k : Nat) : Prop := k = pf ∨ k = pm ∨ K k
def eaS (pf : Nat) (S : Nat → Prop) (k : Nat) : Prop := k = pf ∨ S k
theorem ea_close {τ : Type} {T : Met τ} {pf pm : Nat} {mk : FuncId} {mc : Array Value} {J : World → τ → Prop} {S : Nat → Prop} {base : Nat} {pan : List PanicEntry} {w w' : World} {s : Bool × τ} {v : Value} {o : List Nd} {n : Nd} {a : Int} {b : Bool} {t : τ} (hown : OwnN w base v o) (hv : ∀ k, v.ownBlock = some k → ¬ eaS pf S k) (hm : Moved (eaS pf S) none w w') (hf : Blk w' pf 4 #[.bool b]) (hp : Blk w' pm 58 #[.func (.func mk) #[] mc]) (hj : J w' t) (hn : (eaV T).nx s n a = (b, t)) :
 OnePost (eaV T) (eaJ pf pm mk mc J) (eaS pf S) base pan w s v o n a (.returned v) w' := by
 refine .inl ⟨rfl, ⟨hm.os, hm.tape, hm.output, hm.size, fun k hk hs _ => hm.block k hk hs (by simp)⟩, ?_, _, rfl, ?_, newRow.refl _ _⟩
 · rw [hn]; exact ⟨hf, hp, hj⟩
 show OwnN w' base v (o ++ [])
 rw [List.append_nil]
 exact hown.moved hm fun g hg => ⟨hv g hg, by simp⟩
theorem ea_quiet {τ : Type} {T : Met τ} {pf pm : Nat} {mk : FuncId} {mc : Array Value} {J : World → τ → Prop} {K S : Nat → Prop} {base H : Nat} {pan : List PanicEntry} {w : World} {s : Bool × τ} {v : Value} {o : List Nd} {n : Nd} {a : Int} {b : Bool} {t : τ} {x : Value} (hown : OwnN w base v o) (hv : ∀ k, v.ownBlock = some k → ¬ eaS pf S k) (hne : pf ≠ pm) (hH : H ≤ w.heap.size) (hK : ∀ k, K k → k < H ∧ k ≠ pf ∧ k ≠ pm)
 (hJ : ∀ w w' t, J w t → (∀ k, K k → w'.heap[k]? = w.heap[k]?) → J w' t) (hf : Blk w pf 4 #[x]) (hp : Blk w pm 58 #[.func (.func mk) #[] mc]) (hj : J w t) (hn : (eaV T).nx s n a = (b, t)) (ob : Obj) :
 OnePost (eaV T) (eaJ pf pm mk mc J) (eaS pf S) base pan w s v o n a (.returned v) ((w.setCell ⟨pf, 0, none⟩ (.bool b)).alloc ob) := by
 refine ea_close hown hv (((Moved.refl _ _ w).setCell (p := ⟨pf, 0, none⟩) (.inl rfl) _).alloc _) ?_ ((hp.far (p := ⟨pf, 0, none⟩) (Ne.symm hne) _).alloc _) ?_ hn
 · have := (hf.set_ 0 (.bool b)).alloc ob
   simpa using this
 refine hJ _ _ _ hj fun k hk => ?_
 have := hK k hk
 rw [Below.heap_alloc _ _ _ (by simp [World.setCell]; omega), Below.heap_setCell _ _ _ _ this.2.1]
theorem each1_ok {τ : Type} {T : Met τ} {pf pm : Nat} {mk : FuncId} {mc : Array Value} {J : World → τ → Prop} {K S : Nat → Prop} {base H M : Nat} {pan : List PanicEntry} (hne : pf ≠ pm) (hpf : pf < H) (hpm : pm < H) (hK : ∀ k, K k → k < H ∧ k ≠ pf ∧ k ≠ pm) (hS : ∀ k, S k → K k)
 (hJ : ∀ w w' t, J w t → (∀ k, K k → w'.heap[k]? = w.heap[k]?) → J w' t) (hen : ∀ args w, (callFunc mk args).run Try.prog w = .ok (.enter mk args) w) (hmet : MetOk Try.prog mk mc T J S H) :
 OneOk Try.prog 44 #[.pointer (some ⟨pf, 0, none⟩), .pointer (some ⟨pm, 0, none⟩)] (eaV T) (eaJ pf pm mk mc J) (eaK pf pm K) (eaS pf S) base H pan M := by
 rintro w ⟨f, t⟩ v o n a hH ⟨hjf, hjm, hjt⟩ hown hkk hok _ ha0 ha1 hlen
 have hpl : plainB n.op n.a n.b = true := by simp only [okN, Bool.and_eq_true] at hok; exact hok.1.1
 obtain ⟨hna0, hna1⟩ := plainB_a hpl
 have cf := hjf.cell
 have ff := hjf.frozen
 have cm := hjm.cell
 have hlf : pf < w.heap.size := by omega
 have hlm : pm < w.heap.size := by omega
 have HOWN := hid hown
 have HJF := hid hjf
 have HJM := hid hjm
 have HJT := hid hjt
 have HKK := hid hkk
 have HK := hid hK
 have HS := hid hS
 have HJ := hid hJ
 have HMET := hid hmet
 have hvs : ∀ k, v.ownBlock = some k → ¬ eaS pf S k := fun k hk hs => hkk k hk (hs.elim .inl fun h => .inr (.inr (hS k h)))
 have HVS := hid hvs
 have hba : Below w.heap.size w (w.alloc (.cells #[.int .i64 n.op, .int .i64 n.a, .int .i64 n.b] 50)) := below_alloc _ _
 have HJA := hid (hJ _ _ _ hjt (fun k hk => hba.block k (by have := (hK k hk).1; omega)))
 clear hown hjf hjm hjt hkk hok hpl hlen hK hS hJ hmet hvs hba
 show Calls Try.prog 44 #[v, .agg #[.int .i64 n.op, .int .i64 n.a, .int .i64 n.b], .int .i64 a, .pointer (some ⟨pf, 0, none⟩), .pointer (some ⟨pm, 0, none⟩)] w _
 simp only at cf HJF HJT HJA
 cases f with
 | true =>
  go_in
  go_wp2_with fail
  go_ret
  exact ea_quiet HOWN.out HVS.out hne hH HK.out HJ.out HJF.out HJM.out HJT.out rfl _
 | false =>
  by_cases h1 : n.op = 1
  · have h1b : (n.op == 1) = true := by simp [h1]
    have H1 := hid h1
    clear h1
    go_in
    go_wp2_with fail
    refine (HMET.out (w.alloc (.cells #[.int .i64 n.op, .int .i64 n.a, .int .i64 n.b] 50)) t n.a a (by simp; omega) HJA.out hna0 hna1 ha0 ha1).mono ?_
    rintro e w8 ⟨rfl, hm, hj8⟩
    have hnS : ∀ k, k = pf ∨ k = pm → ¬ S k := fun k hk hs => by have := HK.out k (HS.out k hs); omega
    have b8 : Blk w8 pf 4 #[.bool false] := (HJF.out.alloc _).moved hm (hnS pf (.inl rfl)) (by simp)
    have b9 : Blk w8 pm 58 #[.func (.func mk) #[] mc] := (HJM.out.alloc _).moved hm (hnS pm (.inr rfl)) (by simp)
    have c8 := b8.cell
    have f8 := b8.frozen
    have hl8 : pf < w8.heap.size := b8.lt
    have B8 := hid b8
    have B9 := hid b9
    have HM8 := hid hm
    have HJ8 := hid hj8
    clear b8 b9 hm hj8 hnS cf ff cm
    go_wp2_with fail
    go_ret
    refine ea_close HOWN.out HVS.out ((((Moved.refl _ _ w).alloc _).trans (HM8.out.mono (fun _ h => .inr h)) (fun g hg => by cases hg)).setCell (p := ⟨pf, 0, none⟩) (.inl rfl) _) ?_ (B9.out.far (p := ⟨pf, 0, none⟩) (Ne.symm hne) _) ?_ (b := T.an t n.a a) (t := T.nx t n.a a) ?_
    · have := B8.out.set_ 0 (.bool (T.an t n.a a))
      simpa using this
    · exact HJ.out _ _ _ HJ8.out fun k hk => Below.heap_setCell _ _ _ _ (HK.out k hk).2.1
    show (if false = true then (false, t) else if n.op = 1 then (T.an t n.a a, T.nx t n.a a) else (false, t)) = _
    rw [if_neg (by simp), if_pos H1.out]
  · have h1b : (n.op == 1) = false := by simp [h1]
    have H1 := hid h1
    clear h1
    go_in
    go_wp2_with fail
    go_ret
    refine ea_quiet HOWN.out HVS.out hne hH HK.out HJ.out HJF.out HJM.out HJT.out ?_ _
    show (if false = true then (false, t) else if n.op = 1 then (T.an t n.a a, T.nx t n.a a) else (false, t)) = _
    rw [if_neg (by simp), if_neg H1.out]
theorem eaV_D {τ : Type} (T : Met τ) (pop pb : Int) : ∀ (j : Nat) (a : Int) (s : Bool × τ) (F : Fo), (eaV T).D pop pb j a s F
 | _, _, _, .nil => trivial
 | j, a, s, .cons p n at' k x => by
  rw [Vis.D_cons]
  exact ⟨⟨trivial, eaV_D T _ _ _ _ _ k⟩, eaV_D T pop pb (j + 1) a _ x⟩
theorem eaV_G {τ : Type} (T : Met τ) (pop pb : Int) : ∀ (j : Nat) (a : Int) (s : Bool × τ) (F : Fo), (eaV T).G pop pb j a s F = true
 | _, _, _, .nil => rfl
 | j, a, s, .cons p n at' k x => by
  rw [Vis.G_cons, eaV_G T pop pb (j + 1) a _ x, Vis.G1, eaV_G T _ _ _ _ _ k]; rfl
def eachR {τ : Type} (T : Met τ) (t : τ) (n : Nd) (k : Fo) : Bool × τ := (eaV T).S1 0 (false, t) n k
theorem each_any {τ : Type} {T : Met τ} {mk : FuncId} {mc : Array Value} {J : World → τ → Prop} {K S : Nat → Prop} {R : Nat → Prop} {w : World} {A : Option Addr} {nn c : Nat} {l : List Nd} {t : τ} (hR : ∀ b, R b → b < w.heap.size ∧ ¬ S b) (htm : TermR R w A nn c l) (hK : ∀ k, K k → k < w.heap.size) (hS : ∀ k, S k → K k)
 (hJ : ∀ w w' t, J w t → (∀ k, K k → w'.heap[k]? = w.heap[k]?) → J w' t) (hen : ∀ args w, (callFunc mk args).run Try.prog w = .ok (.enter mk args) w) (hmet : MetOk Try.prog mk mc T J S w.heap.size) (hj : J w t)
 {n : Nd} {ats : List Nd} {k : Fo} (hpp : pp [false] l = some (.cons [] n ats k .nil, [])) (hsz : 4 * fsize k ≤ 1000000000000) (hlen : ((eaV T).E1 0 (false, t) n ats k).length ≤ 1000000000000) :
 Calls Try.prog 25 #[.slice A nn c, .func (.func mk) #[] mc] w fun e w' => e = .returned (.bool (eachR T t n k).1) ∧ Moved S none w w' ∧ J w' (eachR T t n k).2 := by
 have hmf : ∀ (fn : Fn) (first cap : Array Value) (w : World), (Instr.makeFunc fn first cap).run Try.prog w = .ok (.func fn first cap) w := fun _ _ _ _ => rfl
 have hb2 := below_alloc2 w (.cells #[.func (.func mk) #[] mc] 58) (.cells #[.bool false] 4)
 have hin : WalkIn (eaV T) 44 #[.pointer (some ⟨w.heap.size + 1, 0, none⟩), .pointer (some ⟨w.heap.size, 0, none⟩)] (eaJ (w.heap.size + 1) w.heap.size mk mc J) (eaK (w.heap.size + 1) w.heap.size K) (eaS (w.heap.size + 1) S) w.heap.size 6 1000000000000 R ((w.alloc (.cells #[.func (.func mk) #[] mc] 58)).alloc (.cells #[.bool false] 4)) A nn c l (.slice none 0 0) (false, t) [] := by
  refine ⟨by simp; omega, fun b h => ⟨by have := (hR b h).1; simp; omega, fun hs => ?_⟩, fun b h => ?_, fun b h => ?_, ?_, Nat.le_refl _, fun _ _ => by kernel_rfl, each1_ok (K := K) (by omega) (by simp) (by simp <;> omega) (fun k hk => by have := hK k hk; simp; omega) hS hJ hen ?_, ?_, OwnN.nil _ _, ?_, fun g hg => by simp [Value.ownBlock] at hg⟩
  · have := hR b h
    rcases hs with hs | hs
    · omega
    exact this.2 hs
  · rcases h with h | h | h
    · subst h; simp
    · subst h; simp <;> omega
    have := hK b h; simp; omega
  · rcases h with h | h
    · exact .inl h
    exact .inr (.inr (hS b h))
  · intro w1 w2 s h hk
    exact ⟨h.1.same (hk _ (.inl rfl)), h.2.1.same (hk _ (.inr (.inl rfl))), hJ _ _ _ h.2.2 fun k h => hk k (.inr (.inr h))⟩
  · intro w1 t1 v1 a1 h
    exact hmet w1 t1 v1 a1 (by simp at h; omega)
  · exact htm.keep fun b h => ⟨h, fun o => cell_of_heap (hb2.block b (hR b h).1) o⟩
  exact ⟨Blk.new' (by simp), (Blk.new _ _ _).alloc _, hJ _ _ _ hj fun k h => hb2.block k (hK k h)⟩
 have hwalk := walk_any hin hpp hsz ⟨trivial, eaV_D T _ _ _ _ _ k⟩ (by simpa using hlen)
 have hg : (eaV T).G1 0 (false, t) n k = true := by rw [Vis.G1, eaV_G]; rfl
 have HW := hid hwalk
 have HB2 := hid hb2
 have HG1 := hid hg
 have HJ := hid hJ
 have HS := hid hS
 clear hwalk hin hb2 htm hpp hsz hlen hR hg hJ hS hK hmet hj
 go_in
 go_wp2_with fail
 refine HW.out.mono ?_
 rintro e w' ⟨hm, (⟨_, ⟨hf, hp, hj⟩, v', rfl, hown', hnr⟩ | ⟨hg, _⟩)⟩
 · have cf := hf.cell
   have HF := hid hf
   have HM := hid hm
   have HJ' := hid hj
   clear hf hm hj hp hown' hnr
   go_wp2_with fail
   go_ret
   refine ⟨rfl, Moved.over HB2.out HM.out (fun k hk hs => ?_), HJ'.out⟩
   rcases hs with hs | hs
   · omega
   exact hs
 rw [HG1.out] at hg; cases hg
end
end Go.Proofs.Ytjoddliplahgkaa
