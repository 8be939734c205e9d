/- parts: the kids of a right row, as pieces of it, and the binders around each. -/
import Derived.Test.YtnmeglbamfjcgaaParts0
import Derived.Test.YtnmeglbamfjcgaaParts1
import Derived.Test.YtnmeglbamfjcgaaLeaf2
import Derived.Test.YtnmeglbamfjcgaaCount
namespace Go.Proofs.Ytnmeglbamfjcgaa
open Go.RowKit

theorem ar_add (n : Nd) (F1 : Fo) (pre : List Nd) (nd : Nd) (a : List Nd) (ks : Fo) : arL n.op n.b 0 (F1.app (.cons pre nd a ks .nil)) = arL n.op n.b 0 F1 ++ [aroundI n.op n.b (flen F1)] := by
  rw [arL_app, Nat.zero_add]; rfl
theorem rowsL_add (F1 : Fo) (pre : List Nd) (nd : Nd) (a : List Nd) (ks : Fo) : rowsL (F1.app (.cons pre nd a ks .nil)) = rowsL F1 ++ [row (.cons [] nd a ks .nil)] := by
  rw [rowsL_app]; rfl
theorem around_binders {op b k : Int} (h : op ≠ 12) : aroundI op b k = bindersI op k := by
  simp [aroundI, bindersI, h]
theorem NxS.setAt {g : Nat} {A : Option Addr} {n c p j : Nat} {A1 : Option Addr} {k1 : Nat} {A2 : Option Addr} {k2 : Nat} {xs1 xs2 : List Value} {w : World} (h : NxS g A n c p j A1 k1 A2 k2 xs1 xs2 w) (p' : Nat) :
    NxS g A n c p' j A1 k1 A2 k2 xs1 xs2 (w.setCell ⟨g + 4, 0, none⟩ (.int .i64 (p' : Int))) :=
  ⟨h.bt.far (by simp) _, h.bo.far (by simp) _, h.br.far (by simp) _, h.ba.set_ 0 _, ownsRow_setCell_below (a := ⟨g + 4, 0, none⟩) h.own1 (by simp) _, ownsRow_setCell_below (a := ⟨g + 4, 0, none⟩) h.own2 (by simp) _, h.off⟩
theorem NxS.alloc {g : Nat} {A : Option Addr} {n c p j : Nat} {A1 : Option Addr} {k1 : Nat} {A2 : Option Addr} {k2 : Nat} {xs1 xs2 : List Value} {w : World} (h : NxS g A n c p j A1 k1 A2 k2 xs1 xs2 w) (o : Obj) :
    NxS g A n c p j A1 k1 A2 k2 xs1 xs2 (w.alloc o) :=
  ⟨h.bt.alloc _, h.bo.alloc _, h.br.alloc _, h.ba.alloc _, h.own1.alloc _, h.own2.alloc _, h.off⟩
/-- What parts leaves: two rows of its own, the kids as pieces of the row, and the binders around each. -/
def PartsPost (A : Nd) (k : Fo) (w : World) (e : Ending) (w' : World) : Prop := Below w.heap.size w w' ∧ ∃ A1 k1 A2 k2 xs1, e = .returned (.tuple #[.slice A1 (flen k) k1, .slice A2 (flen k) k2]) ∧
  w'.ownsRow (w.heap.size + 5) 23 1 (.slice A1 (flen k) k1) (flen k) xs1 ∧ w'.ownsRow (w.heap.size + 5) 3 1 (.slice A2 (flen k) k2) (flen k) ((arL A.op A.b 0 k).map (Value.int .i64)) ∧ RowsC (· < w.heap.size) w xs1 (rowsL k)

set_option linter.unusedSimpArgs false in
set_option maxRecDepth 100000 in
set_option maxHeartbeats 4000000 in
theorem parts_any {A : Option Addr} {nn c : Nat} {l : List Nd} {w : World} {n : Nd} {ats : List Nd} {k : Fo} (h : TermV w A nn c l) (hs : shapeI l = 0) (hpp : pp [false] l = some (.cons [] n ats k .nil, [])) :
    Calls Try.prog 61 #[.slice A nn c] w (PartsPost n k w) := by
  obtain ⟨hok, hv1, hvk, hall, hpre, hrow, hl4, hfs⟩ := right_row hs hpp
  have hmf : ∀ (fn : Fn) (first cap : Array Value) (w : World), (Instr.makeFunc fn first cap).run Try.prog w = .ok (.func fn first cap) w := fun _ _ _ _ => rfl
  have hlen := h.len
  have hpos : 0 < nn := by rw [← hlen, hrow]; simp
  have hn0 : nth l 0 = n := by rw [hrow]; rfl
  obtain ⟨tb, toff, rfl, htb, g0, g1, g2⟩ := h.at_ hpos
  simp only [Nat.zero_mul, Nat.add_zero] at g0 g1 g2
  rw [hn0] at g0 g1 g2
  have H := Lib.hid h
  clear h
  go_enter Try.func61, Try.ntmps61
  go_wp2_with fail
  have hbk : -1000 ≤ n.b ∧ n.b ≤ 1000 := by
    have h1 := (okN_iff n).1 hok
    have h2 := plainB_iff.1 h1.1
    omega
  refine (kids_any n.op n.a n.b _ hbk).mono ?_
  rintro e w6 ⟨rfl, hw6⟩
  have hb5 : Below w.heap.size w (((((w.alloc (.cells #[.slice (some ⟨tb, toff, none⟩) nn c] 23)).alloc (.cells #[.int .i64 n.op, .int .i64 n.a, .int .i64 n.b] 53)).alloc (.cells #[.slice none 0 0] 41)).alloc (.cells #[.slice none 0 0] 44)).alloc (.cells #[.int .i64 1] 3)) :=
    ((((below_alloc w _).alloc (by simp) _).alloc (by simp <;> omega) _).alloc (by simp <;> omega) _).alloc (by simp <;> omega) _
  have hb6 := hb5.alloc hb5.size (.cells #[.int .i64 n.op, .int .i64 n.a, .int .i64 n.b] 53)
  rw [hw6] at hb6
  have hst : NxS w.heap.size (some ⟨tb, toff, none⟩) nn c 1 0 none 0 none 0 [] [] w6 := by
    subst hw6
    refine ⟨?_, ?_, ?_, ?_, World.ownsRow_nil _ _ _ _, World.ownsRow_nil _ _ _ _, fun b h => by simp [Value.ownBlock] at h⟩
    · exact (((((Blk.new _ _ _).alloc _).alloc _).alloc _).alloc _).alloc _
    · exact (((Blk.new' (by simp)).alloc _).alloc _).alloc _
    · exact ((Blk.new' (by simp)).alloc _).alloc _
    · exact (Blk.new' (by simp)).alloc _
  have hnd : Blk w6 (w.heap.size + 1) 53 #[.int .i64 n.op, .int .i64 n.a, .int .i64 n.b] := by
    subst hw6
    exact ((((Blk.new' (by simp)).alloc _).alloc _).alloc _).alloc _
  clear hw6 hb5
  go_wp2_with fail
  have hkw : Wf (ds n) k := (wf_of_pp hpp).2.2.2.1
  have hats : n.op ≠ 2 → ats = [] := fun h2 => by
    have h3 := (wf_of_pp hpp).2.2.1
    unfold AtOk at h3
    rw [if_neg h2] at h3
    exact h3
  go_loopw [16] (fun i wr => ∃ (F1 F2 : Fo) (j p : Nat) (A1 : Option Addr) (k1 : Nat) (A2 : Option Addr) (k2 : Nat) (xs1 xs2 : List Value), RowKit.Hid (k = F1.app F2) ∧ RowKit.Hid (flen F1 = if n.op = 12 then 2 * j else j) ∧ (j : Int) ≤ kidsI n.op n.b ∧ i = .int .i64 (j : Int) ∧
      RowKit.Hid (F2 = .nil ∨ l.drop p = row F2) ∧ p ≤ l.length ∧ RowKit.Hid (Wf (remd n j) F2) ∧ RowKit.Hid (NxS w.heap.size (some ⟨tb, toff, none⟩) nn c p (flen F1) A1 k1 A2 k2 xs1 xs2 wr) ∧
      RowKit.Hid (Blk wr (w.heap.size + 1) 53 #[.int .i64 n.op, .int .i64 n.a, .int .i64 n.b]) ∧ RowKit.Hid (Below w.heap.size w wr) ∧ RowKit.Hid (RowsC (· < w.heap.size) w xs1 (rowsL F1)) ∧ RowKit.Hid (xs2 = (arL n.op n.b 0 F1).map (Value.int .i64))) (fun i _ => (kidsI n.op n.b).toNat - (intOf i).toNat)
  case atStart =>
    refine ⟨.nil, k, 0, 1, none, 0, none, 0, [], [], Lib.hid rfl, Lib.hid (by simp [flen]), ?_, by go_num, Lib.hid ?_, by omega, Lib.hid (by rw [remd_zero]; exact hkw), Lib.hid hst, Lib.hid hnd, Lib.hid hb6, Lib.hid trivial, Lib.hid rfl⟩
    · have h1 := (okN_iff n).1 hok
      have h2 := plainB_iff.1 h1.1
      simp only [kidsI]
      repeat' split
      all_goals omega
    · by_cases h2 : n.op = 2
      · left
        have h3 : ds n = [] := by simp [ds, kidsI, h2]
        rw [h3] at hkw
        cases k with
        | nil => rfl
        | cons _ _ _ _ _ => exact hkw.elim
      · right
        rw [hrow, hats h2]
        rfl
  case round =>
    obtain ⟨F1, F2, j, p, A1, k1, A2, k2, xs1, xs2, hk, hfl, hjk, rfl, hF2, hp, hwf, hst, hnd, hbw, hrows, hints⟩ := hrel
    have zn := (hnd.out).cell
    have z2 : wr.cell? ⟨w.heap.size + 1 + 1, 0, none⟩ = some (.slice A1 (flen F1) k1) := hst.out.bo.cell 0
    have z3 : wr.cell? ⟨w.heap.size + 1 + 1 + 1, 0, none⟩ = some (.slice A2 (flen F1) k2) := hst.out.br.cell 0
    have hjb : (j : Int) ≤ 1002 := by
      have h1 : kidsI n.op n.b ≤ 1002 := by
        simp only [kidsI]
        repeat' split
        all_goals omega
      omega
    by_cases hlt : (j : Int) < kidsI n.op n.b
    · by_cases h12 : n.op = 12
      · have c12 : (n.op == 12) = true := beq_iff_eq.2 h12
        have H12 := Lib.hid h12
        have z4 : wr.cell? ⟨w.heap.size + 1 + 1 + 1 + 1, 0, none⟩ = some (.int .i64 (p : Int)) := hst.out.ba.cell 0
        have zf4 : wr.frozen? ⟨w.heap.size + 1 + 1 + 1 + 1, 0, none⟩ = false := hst.out.ba.frozen 0
        have zl4 : w.heap.size + 1 + 1 + 1 + 1 < wr.heap.size := hst.out.ba.lt
        clear h12
        have hkb : kidsI n.op n.b = n.b := by simp [kidsI, H12.out]
        have hw2 := hwf.out
        rw [remd_fix H12.out (by omega)] at hw2
        match F2, hw2, hk, hF2 with
        | .cons pre nd a ks F3, hw3, hk, hF2 =>
        obtain ⟨f, rfl, _⟩ := hw3.1
        match F3, hw3, hk, hF2 with
        | .cons pre2 nd2 a2 ks2 F4, hw3, hk, hF2 =>
        have hw4 := hw3.2.2.2.2
        have hp2 : pre2 = [] := hw4.1
        subst hp2
        have hl2 := hF2.out.resolve_left (by simp)
        obtain ⟨q1, he1, hd1, hpq1, hq1, ht1⟩ := kid_ends hw3 hl2 hp
        obtain ⟨q2, he2, hd2, hpq2, hq2, ht2⟩ := kid_ends hw4 hd1 hq1
        simp only [List.length_cons, List.length_nil, Nat.zero_add, Nat.add_zero] at he1 hpq1 ht1 he2 hpq2 ht2
        have HE1 := Lib.hid he1
        have HT1 := Lib.hid ht1
        have HE2 := Lib.hid he2
        have HT2 := Lib.hid ht2
        have HD2 := Lib.hid hd2
        have HW5 := Lib.hid hw4.2.2.2.2
        have HKB := Lib.hid hkb
        have HTW : RowKit.Hid (∀ w1, Below w.heap.size w w1 → TermR (· < w.heap.size) w1 (some ⟨tb, toff, none⟩) nn c l) := Lib.hid fun w1 hb => H.out.keep fun b hb' => ⟨hb', fun o => cell_of_heap (hb.block b hb') o⟩
        have hst1 := hst.out.setAt (p + 1)
        have hb1 : Below w.heap.size w (wr.setCell ⟨w.heap.size + 4, 0, none⟩ (.int .i64 ((p + 1 : Nat) : Int))) := hbw.out.setCell (by simp) _
        have HFL : RowKit.Hid (flen F1 = 2 * j) := Lib.hid (by have := hfl.out; rwa [if_pos H12.out] at this)
        have hf1 : flen F1 ≤ 2004 := by have := HFL.out; omega
        have hnd1 : Blk (wr.setCell ⟨w.heap.size + 4, 0, none⟩ (.int .i64 ((p + 1 : Nat) : Int))) (w.heap.size + 1) 53 #[.int .i64 n.op, .int .i64 n.a, .int .i64 n.b] := hnd.out.far (by simp) _
        have hcall := next_any hst1 (HTW.out _ hb1) HE1.out hpq1 (by omega) (by omega) 0
        have HCALL := Lib.hid hcall
        have HB1 := Lib.hid hb1
        have HND1 := Lib.hid hnd1
        clear hkb hw2 hw3 hw4 hl2 he1 hd1 ht1 he2 hd2 ht2 hst1 hb1 hcall hwf hfl hnd1
        go_wp2_with fail
        have hcast : ((p : Int) + 1) = ((p + 1 : Nat) : Int) := by omega
        rw [hcast]
        refine (HCALL.out).mono ?_
        rintro e w3 ⟨rfl, hb3, hs3, hg3, A1', k1', A2', k2', A', hst3, hpc3⟩
        have hnd3 : Blk w3 (w.heap.size + 1) 53 #[.int .i64 n.op, .int .i64 n.a, .int .i64 n.b] := hg3.trans HND1.out
        have hb4 := HB1.out.trans hb3
        have hcall2 := next_any hst3 (HTW.out _ hb4) HE2.out hpq2 (by omega) (by omega) n.b
        have HCALL2 := Lib.hid hcall2
        have zn3 := hnd3.cell
        have HND3 := Lib.hid hnd3
        have HB4 := Lib.hid hb4
        have HST3 := Lib.hid hst3
        have HPC3 := Lib.hid hpc3
        clear hcall2 hst3 hg3 hb3 hb4 hnd3 z2 z3 z4 zf4 zl4 zn hs3 hcast hpc3
        go_wp2_with fail
        refine (HCALL2.out).mono ?_
        rintro e w5 ⟨rfl, hb5, hs5, hg5, A1'', k1'', A2'', k2'', A'', hst5, hpc5⟩
        have hnd5 := hg5.trans HND3.out
        have hb6' := HB4.out.trans hb5
        have HND5 := Lib.hid hnd5
        have HB6 := Lib.hid hb6'
        have HST5 := Lib.hid hst5
        have HPC5 := Lib.hid hpc5
        clear hnd5 hb6' hst5 hpc5 hg5 hb5 zn3
        go_wp2_with fail
        go_roundw
        case rel =>
          refine ⟨(F1.app (.cons [f] nd a ks .nil)).app (.cons [] nd2 a2 ks2 .nil), F4, j + 1, q2, A1'', k1'', A2'', k2'', (xs1 ++ [.slice A' (q1 - (p + 1)) (c - (p + 1))]) ++ [.slice A'' (q2 - q1) (c - q1)], (xs2 ++ [.int .i64 0]) ++ [.int .i64 n.b], Lib.hid ?_, Lib.hid ?_, by omega, by go_num, Lib.hid (.inr HD2.out), hq2, HW5, ?_, HND5, HB6, Lib.hid ?_, Lib.hid ?_⟩
          rotate_left 2
          · have e : flen ((F1.app (.cons [f] nd a ks .nil)).app (.cons [] nd2 a2 ks2 .nil)) = flen F1 + 1 + 1 := by simp [flen_app, flen]
            rw [e]
            exact HST5
          · rw [rowsL_add, rowsL_add]
            refine RowsC.add ?_ (RowsC.add ?_ hrows.out)
            · rw [← HT2.out]; exact HPC5.out _ _ H.out
            · rw [← HT1.out]; exact HPC3.out _ _ H.out
          · rw [ar_add, ar_add, hints.out]
            have e : flen (F1.app (.cons [f] nd a ks .nil)) = 2 * j + 1 := by have := HFL.out; simp [flen_app, flen, this]
            rw [e, HFL.out]
            simp [aroundI, H12.out]
          · rw [hk.out, app_assoc, app_assoc]; rfl
          · rw [if_pos H12.out]
            have := HFL.out
            simp [flen_app, flen]; omega
        case measure =>
          have := HKB.out
          simp [intOf]; omega
      · have c12 : (n.op == 12) = false := beq_eq_false_iff_ne.2 h12
        have H12 := Lib.hid h12
        clear h12
        have hw2 := hwf.out
        rw [remd_one H12.out hlt] at hw2
        match F2, hw2, hk, hF2 with
        | .cons pre nd a ks F3, hw3, hk, hF2 =>
        have hp2 : pre = [] := hw3.1
        subst hp2
        have hl2 := hF2.out.resolve_left (by simp)
        obtain ⟨q1, he1, hd1, hpq1, hq1, ht1⟩ := kid_ends hw3 hl2 hp
        simp only [List.length_nil, Nat.add_zero] at he1 hpq1 ht1
        have HE1 := Lib.hid he1
        have HT1 := Lib.hid ht1
        have HD1 := Lib.hid hd1
        have HW5 := Lib.hid hw3.2.2.2.2
        have HTW : RowKit.Hid (∀ w1, Below w.heap.size w w1 → TermR (· < w.heap.size) w1 (some ⟨tb, toff, none⟩) nn c l) := Lib.hid fun w1 hb => H.out.keep fun b hb' => ⟨hb', fun o => cell_of_heap (hb.block b hb') o⟩
        have hst1 := hst.out.alloc (.cells #[.int .i64 n.op, .int .i64 n.a, .int .i64 n.b] 53)
        have hb1 : Below w.heap.size w (wr.alloc (.cells #[.int .i64 n.op, .int .i64 n.a, .int .i64 n.b] 53)) := hbw.out.alloc hbw.out.size _
        have HFL : RowKit.Hid (flen F1 = j) := Lib.hid (by have := hfl.out; rwa [if_neg H12.out] at this)
        have hf1 : flen F1 ≤ 2004 := by have := HFL.out; omega
        have hnd1 : Blk (wr.alloc (.cells #[.int .i64 n.op, .int .i64 n.a, .int .i64 n.b] 53)) (w.heap.size + 1) 53 #[.int .i64 n.op, .int .i64 n.a, .int .i64 n.b] := hnd.out.alloc _
        have hcall := next_any hst1 (HTW.out _ hb1) HE1.out hpq1 (by omega) (by omega) (bindersI n.op (j : Int))
        have HCALL := Lib.hid hcall
        have HB1 := Lib.hid hb1
        have HND1 := Lib.hid hnd1
        clear hw2 hw3 hl2 he1 hd1 ht1 hst1 hb1 hcall hwf hfl hnd1
        go_wp2_with (go_at_call 69; refine (binders_any _ _ _ _ _).mono ?_; rintro e w3 ⟨rfl, rfl⟩)
        refine (HCALL.out).mono ?_
        rintro e w3 ⟨rfl, hb3, hs3, hg3, A1', k1', A2', k2', A', hst3, hpc3⟩
        have hnd3 : Blk w3 (w.heap.size + 1) 53 #[.int .i64 n.op, .int .i64 n.a, .int .i64 n.b] := hg3.trans HND1.out
        have hb4 := HB1.out.trans hb3
        have HND3 := Lib.hid hnd3
        have HB4 := Lib.hid hb4
        have HST3 := Lib.hid hst3
        have HPC3 := Lib.hid hpc3
        clear hst3 hg3 hb3 hb4 hnd3 z2 z3 zn hs3 hpc3
        go_wp2_with fail
        go_roundw
        case rel =>
          refine ⟨F1.app (.cons [] nd a ks .nil), F3, j + 1, q1, A1', k1', A2', k2', xs1 ++ [.slice A' (q1 - p) (c - p)], xs2 ++ [.int .i64 (bindersI n.op (j : Int))], Lib.hid ?_, Lib.hid ?_, by omega, by go_num, Lib.hid (.inr HD1.out), hq1, HW5, ?_, HND3, HB4, Lib.hid ?_, Lib.hid ?_⟩
          rotate_left 2
          · have e : flen (F1.app (.cons [] nd a ks .nil)) = flen F1 + 1 := by simp [flen_app, flen]
            rw [e]
            exact HST3
          · rw [rowsL_add]
            refine RowsC.add ?_ hrows.out
            rw [← HT1.out]; exact HPC3.out _ _ H.out
          · rw [ar_add, hints.out, HFL.out, around_binders H12.out]
            simp
          · rw [hk.out, app_assoc]; rfl
          · rw [if_neg H12.out]
            have := HFL.out
            simp [flen_app, flen]; omega
        case measure => simp [intOf]; omega
    · have hkf : RowKit.Hid (k = F1) := by
        have hw2 := hwf.out
        rw [remd_end n (by omega)] at hw2
        match F2, hw2, hk with
        | .nil, _, hk => exact Lib.hid (hk.out.trans (app_nil F1))
      go_wp2_with fail
      go_quiet (fail)
      go_wp2_with fail
      go_ret2
      refine ⟨below_drewN hbw.out _, A1, k1, A2, k2, xs1, by rw [hkf.out]; rfl, ?_, ?_, ?_⟩
      · rw [hkf.out]; exact hst.out.own1
      · rw [hkf.out, ← hints.out]; exact hst.out.own2
      · rw [hkf.out]; exact hrows.out

end Go.Proofs.Ytnmeglbamfjcgaa
