/- The walk over a row that is right: the closure that goes over one term. -/
import Derived.Test.YtnmeglbamfjcgaaProg
import Derived.Test.YtnmeglbamfjcgaaMem
import Derived.Test.YtnmeglbamfjcgaaTree
import Derived.Test.YtnmeglbamfjcgaaOwn
import Derived.Test.YtnmeglbamfjcgaaOwn2
import Derived.Test.YtnmeglbamfjcgaaOwn3
import Derived.Test.YtnmeglbamfjcgaaFold
import Derived.Test.YtnmeglbamfjcgaaWalkP
import Derived.Test.YtnmeglbamfjcgaaWalk2
import Derived.Test.YtnmeglbamfjcgaaHeldE
import Derived.Test.YtnmeglbamfjcgaaHeldF
import Derived.Test.YtnmeglbamfjcgaaLeaf
import Derived.Test.YtnmeglbamfjcgaaLeaf2
import Derived.WalkKit
import Derived.WalkLawsBesides
import Derived.WalkSpells
import Derived.Lib.Hide
import Derived.Deep.RegionHeld3
namespace Go.Proofs.Ytnmeglbamfjcgaa
open Go.RowKit

set_option linter.unusedSimpArgs false in
set_option maxRecDepth 100000 in
set_option maxHeartbeats 1000000 in
theorem walk2_kids {σ : Type} (C : WkC σ) (hG : C.Good) (m : Nat)
    (ih : ∀ (w : World) (v : Value) (q : Nat) (s : σ) (o : List Nd) (a : Int) (n : Nd) (ats : List Nd) (k : Fo) (rest : List Nd), C.St w v q s o → pp [false] (C.l.drop q) = some (.cons [] n ats k .nil, rest) → 0 ≤ a → a + 4 * fsize k ≤ 1000000000000 → C.V.D1 a s n k → o.length + (C.V.E1 a s n ats k).length ≤ C.M → fsize k < m →
      Calls Try.prog 68 #[.int .i64 a, .pointer (some ⟨C.H, 0, none⟩), .pointer (some ⟨C.H + 5, 0, none⟩), .pointer (some ⟨C.H + 2, 0, none⟩), .pointer (some ⟨C.H + 1, 0, none⟩), .pointer (some ⟨C.H + 6, 0, none⟩)] w (C.Post w v o (C.l.length - rest.length) (C.V.E1 a s n ats k) (C.V.S1 a s n k) (C.V.G1 a s n k)))
    (w : World) (v : Value) (q : Nat) (s : σ) (o : List Nd) (a : Int) (n : Nd) (ats : List Nd) (k : Fo) (rest : List Nd) (hst : C.St w v q s o) (hpp : pp [false] (C.l.drop q) = some (.cons [] n ats k .nil, rest)) (ha0 : 0 ≤ a) (ha1 : a + 4 * fsize k ≤ 1000000000000) (hD : C.V.D1 a s n k) (hM : o.length + (C.V.E1 a s n ats k).length ≤ C.M) (hsz : fsize k ≤ m) (h2 : n.op ≠ 2) :
    Calls Try.prog 68 #[.int .i64 a, .pointer (some ⟨C.H, 0, none⟩), .pointer (some ⟨C.H + 5, 0, none⟩), .pointer (some ⟨C.H + 2, 0, none⟩), .pointer (some ⟨C.H + 1, 0, none⟩), .pointer (some ⟨C.H + 6, 0, none⟩)] w (C.Post w v o (C.l.length - rest.length) (C.V.E1 a s n ats k) (C.V.S1 a s n k) (C.V.G1 a s n k)) := by
  obtain ⟨Av, cv, rfl⟩ := hst.own.slice
  have HI := Lib.hid ih
  have HG := Lib.hid hG
  have HST := Lib.hid hst
  have HPP := Lib.hid hpp
  have HD := Lib.hid hD
  have HM := Lib.hid hM
  have HSZ := Lib.hid hsz
  have HA := Lib.hid ha1
  obtain ⟨hq0, hn, hok⟩ := pp_head hpp
  rw [List.length_drop] at hq0
  have hq : q < C.nn := by have := hst.tm.len; omega
  have hfew := hst.tm.few
  obtain ⟨tb, toff, hA, hRb, htm⟩ := hst.tm.mem (by omega)
  obtain ⟨g0, g1, g2⟩ := htm q (by have := hst.tm.len; omega)
  have hn' : nth C.l q = n := by rw [← hn, nth_drop]; rfl
  rw [hn'] at g0 g1 g2
  have hbl := (hG.hR tb hRb).1
  have hHs := hst.size
  have hs0 : C.H < w.heap.size := by omega
  have hs1 : C.H + 1 < w.heap.size := by omega
  have hs2 : C.H + 2 < w.heap.size := by omega
  have hs5 : C.H + 5 < w.heap.size := by omega
  have hs6 : C.H + 6 < w.heap.size := by omega
  have hst' : tb < w.heap.size := by omega
  have hen := hG.en
  have z0 := hst.bt.cell
  have z1 := hst.bo.cell
  have z2 := hst.bf.cell
  have z5 := hst.ba.cell
  have z6 := hst.br.cell
  have f5 := hst.ba.frozen
  rw [hA] at z0
  have HAe := Lib.hid hA
  have HN := Lib.hid hn'
  have HOK := Lib.hid hok
  have hq2 : (0 : Int) ≤ (q : Int) := by omega
  have hdm := hD.1
  have hlen1 : o.length + (C.V.em s n a).length ≤ C.M := by
    simp only [Vis.E1, List.length_append] at hM; omega
  have ha2 : a ≤ 1000000000000 := by omega
  have HDM := Lib.hid hdm
  have HL1 := Lib.hid hlen1
  clear hdm hlen1
  clear ih hG hst hpp hD hM hsz ha1 hn hok hA htm hn'
  · have h2b : (n.op == 2) = false := by simp [h2]
    have H2 := Lib.hid h2
    clear h2
    obtain ⟨_, hats, hkp⟩ := pp_kids HPP.out H2.out
    have hpl : plainB n.op n.a n.b = true := by
      have := HOK.out
      simp only [okN, Bool.and_eq_true] at this; exact this.1.1
    obtain ⟨hb0, hb1000⟩ := plainB_b hpl
    obtain ⟨hkd0, hkd18⟩ := kidsI_bd hpl
    have HKP := Lib.hid hkp
    have HATS := Lib.hid hats
    have hD2 : C.V.D n.op n.b 0 a (C.V.nx s n a) k := HD.out.2
    have HD2 := Lib.hid hD2
    have hM2 : o.length + ((C.V.em s n a).length + (C.V.E n.op n.b 0 a (C.V.nx s n a) k).length) ≤ C.M := by
      have h1 := HM.out
      rw [hats] at h1
      simpa only [Vis.E1, List.nil_append, List.length_append] using h1
    have HM2' := Lib.hid hM2
    clear hats hkp hD2 hM2 hpl
    have hlq := HST.out.tm.len
    have HLQ := Lib.hid hlq
    clear hlq
    go_enter Try.func68, Try.ntmps68
    go_wp2_with fail
    have hst1 := (HST.out.goOn HG.out ((q : Int) + 1) (q + 1) (by omega)).below HG.out (below_alloc _ (.cells #[.int .i64 n.op, .int .i64 n.a, .int .i64 n.b] 53))
    have hone := HG.out.one _ s _ o n a (by simp; omega) hst1.j hst1.own (fun k hk => (hst1.hv k hk).1) HOK.out HDM.out ha0 ha2 HL1.out
    refine hone.mono ?_
    rintro e w2 (⟨hok1, hm, hj, v', rfl, hown', hnew⟩ | ⟨hbad, rfl, hm⟩)
    · obtain ⟨Av', cv', rfl⟩ := hown'.slice
      have hb2 : Blk w2 w.heap.size 53 #[.int .i64 n.op, .int .i64 n.a, .int .i64 n.b] := Blk.moved (Blk.new' (by simp [World.setCell])) hm (WkC.S_lt HG.out (by omega)) (fun e => by have := HST.out.row _ e; omega)
      have hst3 := hst1.called HG.out hm hown' hnew hj
      have hB := fun k h1 h2 => hst1.keep HG.out hm (k := k) h1 h2
      have c1 := Blk.cell (hst1.bo.same (hB _ (by omega) (by omega)))
      have c1f := Blk.frozen (hst1.bo.same (hB _ (by omega) (by omega)))
      have cb := Blk.cell hb2
      have hs2' : w.heap.size + 1 ≤ w2.heap.size := by have := hm.size; simpa using this
      have hlb : w.heap.size < w2.heap.size := by omega
      have hl1 : C.H + 1 < w2.heap.size := by omega
      have hne1 : w.heap.size ≠ C.H + 1 := by omega
      have hne2 : C.H + 1 ≠ w.heap.size := by omega
      have hm3 := (((((Moved.refl C.S' (Value.slice Av o.length cv).ownBlock w).setCell (p := ⟨C.H + 5, 0, none⟩) (.inr (.inr rfl)) (.int .i64 ((q : Int) + 1))).alloc (.cells #[.int .i64 n.op, .int .i64 n.a, .int .i64 n.b] 53)).trans (hm.mono WkC.S_S') (fun g hg => .inl hg)).setCell (p := ⟨C.H + 1, 0, none⟩) (.inr (.inl rfl)) (.slice Av' (o ++ C.V.em s n a).length cv')).alloc (.cells #[.int .i64 n.op, .int .i64 n.a, .int .i64 n.b] 53)
      have hnr3 : newRow (.slice Av o.length cv) (.slice Av' (o ++ C.V.em s n a).length cv') w := fun g hg => (hnew g hg).imp id (fun h => by simp [World.setCell] at h; omega)
      have hns4 : (Value.slice Av' (o ++ C.V.em s n a).length cv').ownBlock ≠ some w.heap.size := fun e => by
        rcases hnew _ e with h | h
        · have := HST.out.row _ h; omega
        · simp [World.setCell] at h
          omega
      have hst4 := hst3.below HG.out (below_alloc _ (.cells #[.int .i64 n.op, .int .i64 n.a, .int .i64 n.b] 53))
      have hb4 := (hb2.far (p := ⟨C.H + 1, 0, none⟩) (by simp; omega) (.slice Av' (o ++ C.V.em s n a).length cv')).alloc (.cells #[.int .i64 n.op, .int .i64 n.a, .int .i64 n.b] 53)
      rw [List.length_append] at hm3 hnr3 hst4 hb4 hns4
      have HST4 := Lib.hid hst4
      have HM4 := Lib.hid hm3
      have HNR4 := Lib.hid hnr3
      have HNS4 := Lib.hid hns4
      have HB4 := Lib.hid hb4
      have HOK1 := Lib.hid hok1
      clear hst3 hst1 hm hb2 hok1 hB hone hown' hj hnew z0 z1 z2 z5 z6 f5 g0 g1 g2 hm3 hnr3 hst4 hb4 hns4
      go_wp2_with (go_at_call 60; refine (kids_any _ _ _ _ ⟨by omega, by omega⟩).mono ?_; rintro e w6 ⟨rfl, rfl⟩)
      clear c1 c1f cb
      go_loopw [38] (fun i wr => ∃ (F1 F2 : Fo) (j q1 : Nat) (v1 : Value) (s1 : σ) (o1 : List Nd), RowKit.Hid (k = F1.app F2) ∧ RowKit.Hid (pp (remd n j) (C.l.drop q1) = some (F2, rest)) ∧ RowKit.Hid (flen F1 = if n.op = 12 then 2 * j else j) ∧ (j : Int) ≤ kidsI n.op n.b ∧ i = .int .i64 (j : Int) ∧ q1 ≤ C.nn ∧ RowKit.Hid (C.St wr v1 q1 s1 o1) ∧ RowKit.Hid (s1 = C.V.S n.op n.b 0 a (C.V.nx s n a) F1) ∧ RowKit.Hid (o1 = o ++ (C.V.em s n a ++ C.V.E n.op n.b 0 a (C.V.nx s n a) F1)) ∧
          RowKit.Hid (Blk wr w.heap.size 53 #[.int .i64 n.op, .int .i64 n.a, .int .i64 n.b]) ∧ RowKit.Hid (Moved C.S' (Value.slice Av o.length cv).ownBlock w wr) ∧ RowKit.Hid (newRow (.slice Av o.length cv) v1 w) ∧ RowKit.Hid (v1.ownBlock ≠ some w.heap.size) ∧ RowKit.Hid (C.V.G n.op n.b 0 a (C.V.nx s n a) F1 = true)) (fun i _ => (kidsI n.op n.b).toNat - (intOf i).toNat)
      case atStart =>
        exact ⟨.nil, k, 0, q + 1, _, _, _, Lib.hid rfl, Lib.hid (by rw [remd_zero]; exact HKP.out), Lib.hid (by simp [flen]), hkd0, by go_num, hq, HST4, Lib.hid rfl, Lib.hid (by simp [Vis.E]), HB4, HM4, HNR4, HNS4, Lib.hid rfl⟩
      case round =>
        obtain ⟨F1, F2, j, q1, v1, s1, o1, HK, HPK, HFL, hj, rfl, hq1, HST5, HS1, HO1, HB5, HM5, HNR5, HNRB, HG1⟩ := hrel
        obtain ⟨Av1, cv1, rfl⟩ := HST5.out.own.slice
        have hsz5 := HST5.out.size
        have e1 := HST5.out.bo.cell
        have e1f := HST5.out.bo.frozen
        have e5 : wr.cell? ⟨C.H + 5, 0, none⟩ = some (.int .i64 (q1 : Int)) := HST5.out.ba.cell 0
        have e5f := HST5.out.ba.frozen
        have e6 : wr.cell? ⟨C.H + 6, 0, none⟩ = some (.func (.func 68) #[] #[.pointer (some ⟨C.H, 0, none⟩), .pointer (some ⟨C.H + 5, 0, none⟩), .pointer (some ⟨C.H + 2, 0, none⟩), .pointer (some ⟨C.H + 1, 0, none⟩), .pointer (some ⟨C.H + 6, 0, none⟩)]) := HST5.out.br.cell 0
        have eb := HB5.out.cell
        have hr0 : C.H < wr.heap.size := by omega
        have hr1 : C.H + 1 < wr.heap.size := by omega
        have hr5 : C.H + 5 < wr.heap.size := by omega
        have hr6 : C.H + 6 < wr.heap.size := by omega
        have hrb := HB5.out.lt
        have hrow := HST5.out.row
        have HROW := Lib.hid hrow
        clear hrow
        by_cases hlt : (j : Int) < kidsI n.op n.b
        · by_cases h12 : n.op = 12
          · have h12b : (n.op == 12) = true := by simp [h12]
            have hjb : (j : Int) < n.b := by simpa [kidsI, h12] using hlt
            have hpk := HPK.out
            rw [remd_fix h12 hjb] at hpk
            obtain ⟨hql, hof, F', hpk', hF2⟩ := pp_ofix hpk
            obtain ⟨n1, a1, k1, F'', q2, hF', hq12, hq2l, hp1, hpk2⟩ := pp_first hpk' (by omega)
            obtain ⟨n2, a2, k2, F3, q3, hF'', hq23, hq3l, hp2, hp3⟩ := pp_first hpk2 hq2l
            have hfj : flen F1 = 2 * j := by have := HFL.out; rw [if_pos h12] at this; exact this
            have hkF : k = F1.app (.cons [nth C.l q1] n1 a1 k1 (.cons [] n2 a2 k2 F3)) := by rw [HK.out, hF2, hF', hF'']; rfl
            have hab1 : a + aroundI n.op n.b ((2 * j : Nat) : Int) = a := by
              simp only [aroundI]
              rw [if_neg (by omega), if_neg (by omega)]; omega
            have hab2 : a + aroundI n.op n.b ((2 * j + 1 : Nat) : Int) = a + n.b := by
              simp only [aroundI]
              rw [if_neg (by omega), if_pos (by omega)]
            have hb4 : n.b ≤ 4 := by
              have := HOK.out
              simp only [okN, Bool.and_eq_true] at this
              have h1 := this.1.1
              rw [plainB_iff] at h1
              omega
            have hdd : C.V.D1 a s1 n1 k1 ∧ C.V.D1 (a + n.b) (C.V.S1 a s1 n1 k1) n2 k2 := by
              have h1 := HD2.out
              rw [hkF, Vis.D_app, Vis.D_cons, Vis.D_cons, hfj, Nat.zero_add, hab1, hab2, ← HS1.out] at h1
              exact ⟨h1.2.1, h1.2.2.1⟩
            obtain ⟨hd1, hd2⟩ := hdd
            have hmm : o1.length + (1 + ((C.V.E1 a s1 n1 a1 k1).length + (C.V.E1 (a + n.b) (C.V.S1 a s1 n1 k1) n2 a2 k2).length)) ≤ C.M := by
              have h1 := HM2'.out
              rw [hkF, Vis.E_app, Vis.E_cons, Vis.E_cons, hfj, Nat.zero_add, hab1, hab2, ← HS1.out] at h1
              rw [HO1.out]
              simp only [List.length_append, List.length_nil, List.length_cons] at h1 ⊢
              omega
            have hfs : fsize k1 < m ∧ fsize k2 < m := by
              have h1 := HSZ.out
              rw [hkF, fsize_app] at h1
              simp only [fsize] at h1
              omega
            have hax : a + 4 * fsize k1 ≤ 1000000000000 ∧ a + n.b + 4 * fsize k2 ≤ 1000000000000 := by
              have h1 := HA.out
              rw [hkF, fsize_app] at h1
              simp only [fsize] at h1
              omega
            obtain ⟨hfs1, hfs2⟩ := hfs
            obtain ⟨hax1, hax2⟩ := hax
            have hnn : 0 ≤ a + n.b := by omega
            have htmr := HST5.out.tm
            rw [HAe.out] at htmr
            obtain ⟨tb', toff', hAA, _, hmem⟩ := htmr.mem (by omega)
            injection hAA with hAA
            injection hAA with hA1 hA2
            subst hA1 hA2
            obtain ⟨t0, t1, t2⟩ := hmem q1 hql
            have htl : tb < wr.heap.size := by omega
            have e0 := HST5.out.bt.cell
            rw [HAe.out] at e0
            have hqi0 : (0 : Int) ≤ (q1 : Int) := by omega
            have hqi1 : (q1 : Int) < (C.nn : Int) := by have := HLQ.out; omega
            have hqn : q1 < C.nn := by omega
            have hbase : C.base ≤ wr.drew.heap.size := by have := HG.out.hbase; simp; omega
            have hlen1 : o1.length + 1 ≤ 5864062014805 := by have := HG.out.hM; omega
            have hw1 : IntKind.i64.wrap (a + n.b) = a + n.b := IntWalk.i64_in _ (by omega)
            obtain ⟨i0, hi, hy0, hy1, hy2⟩ := info_parts infoN
            have HI0 := Lib.hid hi
            have HY0 := Lib.hid hy0
            have HY1 := Lib.hid hy1
            have HY2 := Lib.hid hy2
            have H12 := Lib.hid h12
            have HKF := Lib.hid hkF
            have HFJ := Lib.hid hfj
            have HAB1 := Lib.hid hab1
            have HAB2 := Lib.hid hab2
            have HD1 := Lib.hid hd1
            have HD2' := Lib.hid hd2
            have HMM := Lib.hid hmm
            have HFS1 := Lib.hid hfs1
            have HFS2 := Lib.hid hfs2
            have HAX1 := Lib.hid hax1
            have HAX2 := Lib.hid hax2
            have HNN := Lib.hid hnn
            have HP1 := Lib.hid hp1
            have HP2 := Lib.hid hp2
            have HP3 := Lib.hid hp3
            have HLEN1 := Lib.hid hlen1
            have HBASE := Lib.hid hbase
            have HOWN := Lib.hid (HST5.out.drew HG.out).own
            clear hi hy0 hy1 hy2 h12 hkF hfj hab1 hab2 hd1 hd2 hmm hfs1 hfs2 hax1 hax2 hnn hp1 hp2 hp3 hlen1 hbase hpk hpk' hpk2 hF2 hF' hF'' htmr hmem
            have k0 := eb 0
            have k1' := eb 1
            have k2' := eb 2
            go_wp2_with fail
            refine wp_region_noPanic ?_
            refine wp_region_E 7 (fun w' => w'.cell? ⟨C.H, 0, none⟩ = some (.slice (some ⟨tb, toff, none⟩) C.nn C.c) ∧ w'.cell? ⟨C.H + 1, 0, none⟩ = some (.slice Av1 o1.length cv1) ∧ w'.cell? ⟨C.H + 5, 0, none⟩ = some (.int .i64 (q1 : Int)) ∧ w'.cell? ⟨tb, toff + q1 * 3, none⟩ = some (.int .i64 (nth C.l q1).op) ∧ w'.cell? ⟨tb, toff + q1 * 3 + 1, none⟩ = some (.int .i64 (nth C.l q1).a) ∧ w'.cell? ⟨tb, toff + q1 * 3 + 2, none⟩ = some (.int .i64 (nth C.l q1).b)) (by rfl) ⟨e0 0, e1 0, e5, t0, t1, t2⟩ (fun hS0 => ?_)
            refine wpAnyE_take' (i := 0) (v := ?_) rfl (by kernel_rfl) (by kernel_rfl) (by kernel_rfl) (by kernel_rfl) (by kernel_rfl) (fun _ _ _ h => h) (Or.inl ⟨by rfl, ?_⟩) (by assumption) ?_
            rotate_left
            · (intro w hSw; (try dsimp only at hSw); go_simp); all_goals with_reducible rfl
            try simp only [Act.put, List.getElem_toArray, List.getElem_cons_zero, List.getElem_cons_succ, List.setIfInBounds_toArray, List.set_cons_zero, List.set_cons_succ]
            refine wpAnyE_take' (i := 1) (v := ?_) rfl (by kernel_rfl) (by kernel_rfl) (by kernel_rfl) (by kernel_rfl) (by kernel_rfl) (fun _ _ _ h => h) (Or.inl ⟨by rfl, ?_⟩) (by assumption) ?_
            rotate_left
            · (intro w hSw; (try dsimp only at hSw); go_simp); all_goals with_reducible rfl
            try simp only [Act.put, List.getElem_toArray, List.getElem_cons_zero, List.getElem_cons_succ, List.setIfInBounds_toArray, List.set_cons_zero, List.set_cons_succ]
            refine wpAnyE_take' (i := 2) (v := ?_) rfl (by kernel_rfl) (by kernel_rfl) (by kernel_rfl) (by kernel_rfl) (by kernel_rfl) (fun _ _ _ h => h) (Or.inl ⟨by rfl, ?_⟩) (by assumption) ?_
            rotate_left
            · (intro w hSw; (try dsimp only at hSw); go_simp); all_goals with_reducible rfl
            try simp only [Act.put, List.getElem_toArray, List.getElem_cons_zero, List.getElem_cons_succ, List.setIfInBounds_toArray, List.set_cons_zero, List.set_cons_succ]
            refine wpAnyE_take' (i := 3) (v := ?_) rfl (by kernel_rfl) (by kernel_rfl) (by kernel_rfl) (by kernel_rfl) (by kernel_rfl) (fun _ _ _ h => h) (Or.inl ⟨by rfl, ?_⟩) (by assumption) ?_
            rotate_left
            · (intro w hSw; (try dsimp only at hSw); go_simp); all_goals with_reducible rfl
            try simp only [Act.put, List.getElem_toArray, List.getElem_cons_zero, List.getElem_cons_succ, List.setIfInBounds_toArray, List.set_cons_zero, List.set_cons_succ]
            refine wpAnyE_take' (i := 4) (v := ?_) rfl (by kernel_rfl) (by kernel_rfl) (by kernel_rfl) (by kernel_rfl) (by kernel_rfl) (fun _ _ _ h => h) (Or.inl ⟨by rfl, ?_⟩) (by assumption) ?_
            rotate_left
            · (intro w hSw; (try dsimp only at hSw); go_simp); all_goals with_reducible rfl
            try simp only [Act.put, List.getElem_toArray, List.getElem_cons_zero, List.getElem_cons_succ, List.setIfInBounds_toArray, List.set_cons_zero, List.set_cons_succ]
            refine wpAnyE_step (i := 5) (by kernel_rfl) rfl rfl (fun K5 hK5 => ?_)
            go_simp
            have hS5 : (wr.drew.alloc (.cells #[.int .i64 (nth C.l q1).op, .int .i64 (nth C.l q1).a, .int .i64 (nth C.l q1).b] 53)).cell? ⟨C.H, 0, none⟩ = some (.slice (some ⟨tb, toff, none⟩) C.nn C.c) ∧ (wr.drew.alloc (.cells #[.int .i64 (nth C.l q1).op, .int .i64 (nth C.l q1).a, .int .i64 (nth C.l q1).b] 53)).cell? ⟨C.H + 1, 0, none⟩ = some (.slice Av1 o1.length cv1) ∧ (wr.drew.alloc (.cells #[.int .i64 (nth C.l q1).op, .int .i64 (nth C.l q1).a, .int .i64 (nth C.l q1).b] 53)).cell? ⟨C.H + 5, 0, none⟩ = some (.int .i64 (q1 : Int)) ∧ (wr.drew.alloc (.cells #[.int .i64 (nth C.l q1).op, .int .i64 (nth C.l q1).a, .int .i64 (nth C.l q1).b] 53)).cell? ⟨tb, toff + q1 * 3, none⟩ = some (.int .i64 (nth C.l q1).op) ∧ (wr.drew.alloc (.cells #[.int .i64 (nth C.l q1).op, .int .i64 (nth C.l q1).a, .int .i64 (nth C.l q1).b] 53)).cell? ⟨tb, toff + q1 * 3 + 1, none⟩ = some (.int .i64 (nth C.l q1).a) ∧ (wr.drew.alloc (.cells #[.int .i64 (nth C.l q1).op, .int .i64 (nth C.l q1).a, .int .i64 (nth C.l q1).b] 53)).cell? ⟨tb, toff + q1 * 3 + 2, none⟩ = some (.int .i64 (nth C.l q1).b) := by
              have hc : ∀ b o, b < wr.heap.size → (wr.drew.alloc (.cells #[.int .i64 (nth C.l q1).op, .int .i64 (nth C.l q1).a, .int .i64 (nth C.l q1).b] 53)).cell? ⟨b, o, none⟩ = wr.cell? ⟨b, o, none⟩ := fun b o hb => (World.cell?_alloc_lt _ _ _ hb)
              rw [hc _ _ hr0, hc _ _ hr1, hc _ _ hr5, hc _ _ htl, hc _ _ htl, hc _ _ htl]
              exact ⟨e0 0, e1 0, e5, t0, t1, t2⟩
            refine hK5.out _ _ (fun _ => hS5) ?_
            try simp only [Act.put, List.getElem_toArray, List.getElem_cons_zero, List.getElem_cons_succ, List.setIfInBounds_toArray, List.set_cons_zero, List.set_cons_succ]
            refine wpAnyE_step (i := 6) (by kernel_rfl) rfl rfl (fun K6 hK6 => ?_)
            refine oper_append_node (.tmp 44) (.tmp 49) 23 rfl C.base i0 Try.underlying23 HI0.out HY0.out HY1.out HY2.out (.slice Av1 o1.length cv1) o1 (nth C.l q1) wr.drew (by rfl) (by rfl) HOWN.out _ (by rfl) (by simp) HLEN1.out HBASE.out ?_
            intro A' c' w' hown' happ
            have hgk := fun k hk => (HST5.out.drew HG.out).rowKeep HG.out happ.grown (k := k) hk
            have zb := (HST5.out.drew HG.out).bo.same (hgk _ (.inl ⟨by omega, by omega⟩))
            have zf := zb.frozen
            have htb : (Value.slice Av1 o1.length cv1).ownBlock ≠ some tb := fun e => (HST5.out.hv _ e).2.1 hRb
            have hS6 : w'.cell? ⟨C.H, 0, none⟩ = some (.slice (some ⟨tb, toff, none⟩) C.nn C.c) ∧ w'.cell? ⟨C.H + 1, 0, none⟩ = some (.slice Av1 o1.length cv1) ∧ w'.cell? ⟨C.H + 5, 0, none⟩ = some (.int .i64 (q1 : Int)) ∧ w'.cell? ⟨tb, toff + q1 * 3, none⟩ = some (.int .i64 (nth C.l q1).op) ∧ w'.cell? ⟨tb, toff + q1 * 3 + 1, none⟩ = some (.int .i64 (nth C.l q1).a) ∧ w'.cell? ⟨tb, toff + q1 * 3 + 2, none⟩ = some (.int .i64 (nth C.l q1).b) := by
              have hc := cell_of_heap (hgk tb (.inr ⟨htb, htl⟩))
              rw [hc, hc, hc, cell_of_heap (hgk C.H (.inl ⟨by omega, by omega⟩)), cell_of_heap (hgk (C.H + 1) (.inl ⟨by omega, by omega⟩)), cell_of_heap (hgk (C.H + 5) (.inl ⟨by omega, by omega⟩))]
              exact ⟨e0 0, e1 0, e5, t0, t1, t2⟩
            have zc := hS6.2.1
            refine hK6.out _ _ (fun _ => hS6) ?_
            try simp only [Act.put, List.getElem_toArray, List.getElem_cons_zero, List.getElem_cons_succ, List.setIfInBounds_toArray, List.set_cons_zero, List.set_cons_succ]
            refine wpAnyE_step (i := 7) (by kernel_rfl) rfl rfl (fun K7 hK7 => ?_)
            go_simp
            refine hK7.out _ _ (fun h => absurd rfl h) ?_
            refine wpAnyE_end (by kernel_rfl) (NoPanic.normal ?_) _
            have hst6 := (HST5.out.drew HG.out).laid HG.out happ.grown hown' (fun g hg => happ.new g hg)
            have hb6 : Blk (w'.setCell ⟨C.H + 1, 0, none⟩ (.slice A' (o1.length + 1) c')) w.heap.size 53 #[.int .i64 n.op, .int .i64 n.a, .int .i64 n.b] := Blk.far (Blk.same (show Blk wr.drew _ _ _ from HB5.out) (hgk _ (.inr ⟨HNRB.out, hrb⟩))) (by simp; omega) _
            have hm6 := (HM5.out.drew.trans (Moved.of_grown happ.grown) (fun g hg => HNR5.out g hg)).setCell (p := ⟨C.H + 1, 0, none⟩) (.inr (.inl rfl)) (.slice A' (o1.length + 1) c')
            have hnr6 : newRow (.slice Av o.length cv) (.slice A' (o1.length + 1) c') w := HNR5.out.trans (fun g hg => happ.new g hg) HM5.out.size
            have hns6 : (Value.slice A' (o1.length + 1) c').ownBlock ≠ some w.heap.size := fun e => by
              rcases happ.new _ e with h | h
              · exact HNRB.out h
              · simp at h; omega
            have hst7 := hst6.goOn HG.out ((q1 : Int) + 1) (q1 + 1) (by omega)
            have hb7 := hb6.far (p := ⟨C.H + 5, 0, none⟩) (by simp; omega) (.int .i64 ((q1 : Int) + 1))
            have hm7 := hm6.setCell (p := ⟨C.H + 5, 0, none⟩) (.inr (.inr rfl)) (.int .i64 ((q1 : Int) + 1))
            clear zb zc zf hS5 hS6 hgk happ hown' hS0 hm6
            generalize w'.setCell ⟨C.H + 1, 0, none⟩ (.slice A' (o1.length + 1) c') = w6 at hst6 hb6 hst7 hb7 hm7 ⊢
            have d5 : w6.cell? ⟨C.H + 5, 0, none⟩ = some (.int .i64 (q1 : Int)) := hst6.ba.cell 0
            have d5f := hst6.ba.frozen
            have d6 : (w6.setCell ⟨C.H + 5, 0, none⟩ (.int .i64 ((q1 : Int) + 1))).cell? ⟨C.H + 6, 0, none⟩ = some (.func (.func 68) #[] #[.pointer (some ⟨C.H, 0, none⟩), .pointer (some ⟨C.H + 5, 0, none⟩), .pointer (some ⟨C.H + 2, 0, none⟩), .pointer (some ⟨C.H + 1, 0, none⟩), .pointer (some ⟨C.H + 6, 0, none⟩)]) := hst7.br.cell 0
            have HST7 := Lib.hid hst7
            have HB7 := Lib.hid hb7
            have HM7 := Lib.hid hm7
            have HNR7 := Lib.hid hnr6
            have HNS7 := Lib.hid hns6
            clear hst6 hb6 hst7 hb7 hm7 hnr6 hns6 e0 e1 e1f e5 e5f e6 eb t0 t1 t2 k0 k1' k2'
            go_wp2_with fail
            refine (HI.out _ _ (q1 + 1) s1 _ _ n1 a1 k1 (C.l.drop q2) HST7.out HP1.out ha0 HAX1.out HD1.out (by have := HMM.out; rw [List.length_append, List.length_singleton]; omega) HFS1.out).mono ?_
            rintro e w8 (⟨hg8, rfl, hm8, v8, hst8, hnr8⟩ | ⟨hg8, rfl, hm8⟩)
            rotate_left
            · refine ⟨rfl, .inr ⟨?_, rfl, HM7.out.trans hm8 HNR7.out⟩⟩
              rw [Vis.G1, HKF.out, Vis.G_app, Vis.G_cons, HFJ.out, Nat.zero_add, HAB1.out, ← HS1.out, hg8]
              simp
            rw [List.length_drop, show C.l.length - (C.l.length - q2) = q2 by omega] at hst8
            have hb8 : Blk w8 w.heap.size 53 #[.int .i64 n.op, .int .i64 n.a, .int .i64 n.b] := Blk.moved HB7.out hm8 (WkC.S'_new HG.out (by omega)) HNS7.out
            have hns8 : v8.ownBlock ≠ some w.heap.size := fun e => by
              rcases hnr8 _ e with h | h
              · exact HNS7.out h
              · have := HB7.out.lt; omega
            have hnr8' := HNR7.out.trans hnr8 HM7.out.size
            have hm8' := HM7.out.trans hm8 HNR7.out
            have p6 : w8.cell? ⟨C.H + 6, 0, none⟩ = some (.func (.func 68) #[] #[.pointer (some ⟨C.H, 0, none⟩), .pointer (some ⟨C.H + 5, 0, none⟩), .pointer (some ⟨C.H + 2, 0, none⟩), .pointer (some ⟨C.H + 1, 0, none⟩), .pointer (some ⟨C.H + 6, 0, none⟩)]) := hst8.br.cell 0
            have pb := hb8.cell
            have HST8 := Lib.hid hst8
            have HB8 := Lib.hid hb8
            have HM8 := Lib.hid hm8'
            have HNR8 := Lib.hid hnr8'
            have HNS8 := Lib.hid hns8
            clear hst8 hb8 hm8 hm8' hnr8 hnr8' hns8 d5 d5f d6
            go_wp2_with fail
            refine (HI.out _ _ q2 _ _ _ n2 a2 k2 (C.l.drop q3) HST8.out HP2.out HNN.out HAX2.out HD2'.out (by have := HMM.out; rw [List.length_append, List.length_append, List.length_singleton]; omega) HFS2.out).mono ?_
            rintro e w9 (⟨hg9, rfl, hm9, v9, hst9, hnr9⟩ | ⟨hg9, rfl, hm9⟩)
            rotate_left
            · refine ⟨rfl, .inr ⟨?_, rfl, HM8.out.trans hm9 HNR8.out⟩⟩
              rw [Vis.G1, HKF.out, Vis.G_app, Vis.G_cons, Vis.G_cons, HFJ.out, Nat.zero_add, HAB1.out, HAB2.out, ← HS1.out, hg9]
              simp
            rw [List.length_drop, show C.l.length - (C.l.length - q3) = q3 by omega] at hst9
            have hb9 : Blk w9 w.heap.size 53 #[.int .i64 n.op, .int .i64 n.a, .int .i64 n.b] := Blk.moved HB8.out hm9 (WkC.S'_new HG.out (by omega)) HNS8.out
            have hns9 : v9.ownBlock ≠ some w.heap.size := fun e => by
              rcases hnr9 _ e with h | h
              · exact HNS8.out h
              · have := HB8.out.lt; omega
            have hnr9' := HNR8.out.trans hnr9 HM8.out.size
            have hm9' := HM8.out.trans hm9 HNR8.out
            have HST9 := Lib.hid hst9
            have HB9 := Lib.hid hb9
            have HM9 := Lib.hid hm9'
            have HNR9 := Lib.hid hnr9'
            have HNS9 := Lib.hid hns9
            clear hst9 hb9 hm9 hm9' hnr9 hnr9' hns9 p6 pb
            go_wp2_with fail
            go_roundw
            case rel =>
              refine ⟨F1.app (.cons [nth C.l q1] n1 a1 k1 (.cons [] n2 a2 k2 .nil)), F3, j + 1, q3, v9, _, _, Lib.hid (by rw [HKF.out, app_assoc]; rfl), HP3, Lib.hid (by rw [flen_app, HFJ.out, if_pos H12.out]; simp only [flen]; omega), by omega, by go_num, by have := HLQ.out; omega, HST9, Lib.hid ?_, Lib.hid ?_, HB9, HM9, HNR9, HNS9, Lib.hid ?_⟩
              · rw [Vis.S_app, Vis.S_cons, Vis.S_cons, HFJ.out, Nat.zero_add, HAB1.out, HAB2.out, ← HS1.out]; rfl
              · rw [Vis.E_app, Vis.E_cons, Vis.E_cons, HFJ.out, Nat.zero_add, HAB1.out, HAB2.out, ← HS1.out, HO1.out]
                simp only [Vis.E, List.append_nil, List.nil_append, List.append_assoc]
              · rw [Vis.G_app, Vis.G_cons, Vis.G_cons, HFJ.out, Nat.zero_add, HAB1.out, HAB2.out, ← HS1.out, HG1.out, hg8, hg9]; rfl
            case measure => simp [intOf]; omega
          · have h12b : (n.op == 12) = false := by simp [h12]
            have hre := remd_one h12 hlt
            have hpk := HPK.out
            rw [hre] at hpk
            obtain ⟨n1, a1, k1, F3, q2, hF2, hq12, hq2l, hp1, hp3⟩ := pp_first hpk (by have := HLQ.out; omega)
            have hfj : flen F1 = j := by have := HFL.out; rw [if_neg h12] at this; exact this
            have hkF : k = F1.app (.cons [] n1 a1 k1 F3) := by rw [HK.out, hF2]
            have hab : aroundI n.op n.b (j : Int) = bindersI n.op (j : Int) := by simp only [aroundI, bindersI, h12, false_and, if_false]
            have hd1 : C.V.D1 (a + bindersI n.op (j : Int)) s1 n1 k1 := by
              have h1 := HD2.out
              rw [hkF, Vis.D_app, Vis.D_cons, hfj, Nat.zero_add, hab, ← HS1.out] at h1
              exact h1.2.1
            have hm1 : o1.length + (C.V.E1 (a + bindersI n.op (j : Int)) s1 n1 a1 k1).length ≤ C.M := by
              have h1 := HM2'.out
              rw [hkF, Vis.E_app, Vis.E_cons, hfj, Nat.zero_add, hab, ← HS1.out] at h1
              rw [HO1.out]
              simp only [List.length_append, List.length_nil] at h1 ⊢
              omega
            have hfs : fsize k1 < m := by
              have h1 := HSZ.out
              rw [hkF, fsize_app] at h1
              simp only [fsize] at h1
              omega
            have hbd := aroundI_bd HOK.out (j : Int)
            rw [hab] at hbd
            obtain ⟨hbd0, hbd4⟩ := hbd
            have hax : 0 ≤ a + bindersI n.op (j : Int) := by omega
            have hay : a + bindersI n.op (j : Int) + 4 * fsize k1 ≤ 1000000000000 := by
              have h1 := HA.out
              rw [hkF, fsize_app] at h1
              simp only [fsize] at h1
              omega
            have H12 := Lib.hid h12
            have HKF := Lib.hid hkF
            have HFJ := Lib.hid hfj
            have HAB := Lib.hid hab
            have HD1 := Lib.hid hd1
            have HM1 := Lib.hid hm1
            have HFS := Lib.hid hfs
            have HAX := Lib.hid hax
            have HAY := Lib.hid hay
            have HP1 := Lib.hid hp1
            have HP3 := Lib.hid hp3
            have hw1 : IntKind.i64.wrap (a + bindersI n.op (j : Int)) = a + bindersI n.op (j : Int) := IntWalk.i64_in _ (by omega)
            clear hkF hfj hab hd1 hm1 hfs hax hay hp1 hp3 hre hpk h12 hbd0 hbd4 hF2
            have k0 := eb 0
            have k1' := eb 1
            have k2 := eb 2
            go_wp2_with fail
            refine wp_region_E 6 (fun w' => w'.cell? ⟨C.H + 6, 0, none⟩ = some (.func (.func 68) #[] #[.pointer (some ⟨C.H, 0, none⟩), .pointer (some ⟨C.H + 5, 0, none⟩), .pointer (some ⟨C.H + 2, 0, none⟩), .pointer (some ⟨C.H + 1, 0, none⟩), .pointer (some ⟨C.H + 6, 0, none⟩)]) ∧ w'.cell? ⟨w.heap.size, 0, none⟩ = some (.int .i64 n.op) ∧ w'.cell? ⟨w.heap.size, 1, none⟩ = some (.int .i64 n.a) ∧ w'.cell? ⟨w.heap.size, 2, none⟩ = some (.int .i64 n.b)) (by rfl) ⟨e6, k0, k1', k2⟩ (fun hS0 => ?_)
            refine wpAnyE_take' (i := 0) (v := ?_) rfl (by kernel_rfl) (by kernel_rfl) (by kernel_rfl) (by kernel_rfl) (by kernel_rfl) (fun _ _ _ h => h) (Or.inl ⟨by rfl, ?_⟩) (by assumption) ?_
            rotate_left
            · (intro w hSw; (try dsimp only at hSw); go_simp); all_goals with_reducible rfl
            try simp only [Act.put, List.getElem_toArray, List.getElem_cons_zero, List.getElem_cons_succ, List.setIfInBounds_toArray, List.set_cons_zero, List.set_cons_succ]
            refine wpAnyE_take' (i := 1) (v := ?_) rfl (by kernel_rfl) (by kernel_rfl) (by kernel_rfl) (by kernel_rfl) (by kernel_rfl) (fun _ _ _ h => h) (Or.inl ⟨by rfl, ?_⟩) (by assumption) ?_
            rotate_left
            · (intro w hSw; (try dsimp only at hSw); go_simp); all_goals with_reducible rfl
            try simp only [Act.put, List.getElem_toArray, List.getElem_cons_zero, List.getElem_cons_succ, List.setIfInBounds_toArray, List.set_cons_zero, List.set_cons_succ]
            refine wpAnyE_take' (i := 2) (v := ?_) rfl (by kernel_rfl) (by kernel_rfl) (by kernel_rfl) (by kernel_rfl) (by kernel_rfl) (fun _ _ _ h => h) (Or.inl ⟨by rfl, ?_⟩) (by assumption) ?_
            rotate_left
            · (intro w hSw; (try dsimp only at hSw); go_simp); all_goals with_reducible rfl
            try simp only [Act.put, List.getElem_toArray, List.getElem_cons_zero, List.getElem_cons_succ, List.setIfInBounds_toArray, List.set_cons_zero, List.set_cons_succ]
            refine wpAnyE_take' (i := 3) (v := ?_) rfl (by kernel_rfl) (by kernel_rfl) (by kernel_rfl) (by kernel_rfl) (by kernel_rfl) (fun _ _ _ h => h) (Or.inl ⟨by rfl, ?_⟩) (by assumption) ?_
            rotate_left
            · (intro w hSw; (try dsimp only at hSw); go_simp); all_goals with_reducible rfl
            try simp only [Act.put, List.getElem_toArray, List.getElem_cons_zero, List.getElem_cons_succ, List.setIfInBounds_toArray, List.set_cons_zero, List.set_cons_succ]
            refine wpAnyE_step (i := 4) (by kernel_rfl) rfl rfl (fun K4 hK4 => ?_)
            go_simp
            go_at_call 69
            refine (binders_any _ _ _ _ _).mono ?_
            rintro e w7 ⟨rfl, rfl⟩
            go_wp2_with fail
            have hS4 : (wr.alloc (.cells #[.int .i64 n.op, .int .i64 n.a, .int .i64 n.b] 53)).drew.cell? ⟨C.H + 6, 0, none⟩ = some (.func (.func 68) #[] #[.pointer (some ⟨C.H, 0, none⟩), .pointer (some ⟨C.H + 5, 0, none⟩), .pointer (some ⟨C.H + 2, 0, none⟩), .pointer (some ⟨C.H + 1, 0, none⟩), .pointer (some ⟨C.H + 6, 0, none⟩)]) ∧ (wr.alloc (.cells #[.int .i64 n.op, .int .i64 n.a, .int .i64 n.b] 53)).drew.cell? ⟨w.heap.size, 0, none⟩ = some (.int .i64 n.op) ∧ (wr.alloc (.cells #[.int .i64 n.op, .int .i64 n.a, .int .i64 n.b] 53)).drew.cell? ⟨w.heap.size, 1, none⟩ = some (.int .i64 n.a) ∧ (wr.alloc (.cells #[.int .i64 n.op, .int .i64 n.a, .int .i64 n.b] 53)).drew.cell? ⟨w.heap.size, 2, none⟩ = some (.int .i64 n.b) := ⟨(Blk.alloc HST5.out.br _).cell 0, (Blk.alloc HB5.out _).cell 0, (Blk.alloc HB5.out _).cell 1, (Blk.alloc HB5.out _).cell 2⟩
            refine hK4.out _ _ (fun _ => hS4) ?_
            try simp only [Act.put, List.getElem_toArray, List.getElem_cons_zero, List.getElem_cons_succ, List.setIfInBounds_toArray, List.set_cons_zero, List.set_cons_succ]
            refine wpAnyE_take' (i := 5) (v := ?_) rfl (by kernel_rfl) (by kernel_rfl) (by kernel_rfl) (by kernel_rfl) (by kernel_rfl) (fun _ _ _ h => h) (Or.inl ⟨by rfl, ?_⟩) (by assumption) ?_
            rotate_left
            · (intro w hSw; (try dsimp only at hSw); go_simp); all_goals with_reducible rfl
            try simp only [Act.put, List.getElem_toArray, List.getElem_cons_zero, List.getElem_cons_succ, List.setIfInBounds_toArray, List.set_cons_zero, List.set_cons_succ]
            refine wpAnyE_step (i := 6) (by kernel_rfl) rfl rfl (fun K6 hK6 => ?_)
            go_simp
            have hst6 := (HST5.out.below HG.out (below_alloc _ (.cells #[.int .i64 n.op, .int .i64 n.a, .int .i64 n.b] 53))).drew HG.out
            refine (HI.out _ _ q1 s1 o1 _ n1 a1 k1 (C.l.drop q2) hst6 HP1.out HAX.out HAY.out HD1.out HM1.out HFS.out).mono ?_
            rintro e w8 (⟨hg8, rfl, hm8, v8, hst8, hnr8⟩ | ⟨hg8, rfl, hm8⟩)
            rotate_left
            · refine ⟨rfl, .inr ⟨?_, rfl, (HM5.out.alloc _).drew.trans hm8 HNR5.out⟩⟩
              rw [Vis.G1, HKF.out, Vis.G_app, Vis.G_cons, HFJ.out, Nat.zero_add, HAB.out, ← HS1.out, hg8]
              simp
            refine hK6.out _ _ (fun h => absurd rfl h) ?_
            refine wpAnyE_end (by kernel_rfl) ?_ _
            have hb8 : Blk w8 w.heap.size 53 #[.int .i64 n.op, .int .i64 n.a, .int .i64 n.b] := Blk.moved (show Blk (wr.alloc (.cells #[.int .i64 n.op, .int .i64 n.a, .int .i64 n.b] 53)).drew _ _ _ from Blk.alloc HB5.out _) hm8 (WkC.S'_new HG.out (by omega)) HNRB.out
            have hm9 := (HM5.out.alloc _).drew.trans hm8 HNR5.out
            have hsz8 : w.heap.size + 1 ≤ (wr.alloc (.cells #[.int .i64 n.op, .int .i64 n.a, .int .i64 n.b] 53)).drew.heap.size := by simp; omega
            have hnr9 := HNR5.out.trans hnr8 (by omega)
            have hns9 : v8.ownBlock ≠ some w.heap.size := fun e => by
              rcases hnr8 _ e with h | h
              · exact HNRB.out h
              · omega
            have HB8 := Lib.hid hb8
            have HM8 := Lib.hid hm9
            have HNR8 := Lib.hid hnr9
            have HNS8 := Lib.hid hns9
            rw [List.length_drop, show C.l.length - (C.l.length - q2) = q2 by omega] at hst8
            clear hb8 hm9 hnr9 hns9 hm8 hnr8 hst6 hS4
            go_wp2_with fail
            go_roundw
            case rel =>
              refine ⟨F1.app (.cons [] n1 a1 k1 .nil), F3, j + 1, q2, v8, _, _, Lib.hid (by rw [HKF.out, app_assoc]; rfl), HP3, Lib.hid (by rw [flen_app, HFJ.out, if_neg H12.out]; rfl), by omega, by go_num, by have := HLQ.out; omega, Lib.hid hst8, Lib.hid ?_, Lib.hid ?_, HB8, HM8, HNR8, HNS8, Lib.hid ?_⟩
              · rw [Vis.S_app, Vis.S_cons, HFJ.out, Nat.zero_add, HAB.out, ← HS1.out]; rfl
              · rw [Vis.E_app, Vis.E_cons, HFJ.out, Nat.zero_add, HAB.out, ← HS1.out, HO1.out]
                simp only [Vis.E, List.append_nil, List.nil_append, List.append_assoc]
              · rw [Vis.G_app, Vis.G_cons, HFJ.out, Nat.zero_add, HAB.out, ← HS1.out, HG1.out, hg8]; rfl
            case measure => simp [intOf]; omega
        · have hpk := HPK.out
          rw [remd_end n (i := j) (by omega), pp_nil] at hpk
          simp only [Option.some.injEq, Prod.mk.injEq] at hpk
          obtain ⟨hF2, hr⟩ := hpk
          have hq1' : C.l.length - rest.length = q1 := by
            rw [← hr, List.length_drop]; have := HLQ.out; omega
          have hkF : k = F1 := by rw [HK.out, ← hF2, app_nil]
          have HQ1 := Lib.hid hq1'
          have HKF := Lib.hid hkF
          clear hF2 hr hq1' hkF
          go_wp2_with fail
          refine bodyPost_end (results_none rfl _ _ _) rfl (.inl ⟨?_, rfl, HM5.out, _, ?_, HNR5.out⟩)
          · simp only [Vis.G1, HOK1.out, HKF.out, HG1.out, Bool.and_self]
          · rw [HQ1.out, HKF.out, HATS.out, show C.V.S1 a s n F1 = s1 from HS1.out.symm, show o ++ C.V.E1 a s n [] F1 = o1 by rw [HO1.out]; simp only [Vis.E1, List.nil_append]]
            exact HST5.out
    · refine ⟨rfl, .inr ⟨by simp [Vis.G1, hbad], rfl, ?_⟩⟩
      exact (((Moved.refl _ _ w).setCell (p := ⟨C.H + 5, 0, none⟩) (.inr (.inr rfl)) _).alloc _).trans (hm.mono WkC.S_S') (fun g hg => .inl hg)

end Go.Proofs.Ytnmeglbamfjcgaa
