/- Check of the reference (orders of universes), walked: it answers as the program's. -/
import Derived.Test.YtplecfbdchmogaaGreatVBell
namespace Go.Proofs.YtplecfbdchmogaaGreat
open Go.Lib (hid)
open Go.RowKit
theorem bad_ways {vars : Int} {o : Nd} (h : badO vars o = true) : (o.op < 0) ∨ (¬ o.op < 0 ∧ o.op > vars) ∨ (¬ o.op < 0 ∧ ¬ o.op > vars ∧ o.b < 0) ∨ (¬ o.op < 0 ∧ ¬ o.op > vars ∧ ¬ o.b < 0 ∧ o.b > vars) ∨ (¬ o.op < 0 ∧ ¬ o.op > vars ∧ ¬ o.b < 0 ∧ ¬ o.b > vars ∧ o.a < -1000) ∨ (¬ o.op < 0 ∧ ¬ o.op > vars ∧ ¬ o.b < 0 ∧ ¬ o.b > vars ∧ ¬ o.a < -1000 ∧ o.a > 1000) := by
 simp only [badO, Bool.or_eq_true, decide_eq_true_eq] at h
 omega
set_option linter.unusedSimpArgs false in
set_option linter.unusedVariables false in
set_option maxRecDepth 100000 in
set_option maxHeartbeats 4000000 in
theorem refCheck_any {w : World} {A : Option Addr} {n c : Nat} {os : List Nd} (ht : TermV w A n c os) (vars : Int) (hw : (Lit.int .i64 vars).wf = true) :
 Calls Tryz.prog 30 #[.int .i64 vars, .slice A n c] w (ErrP (clR vars os).1 w) := by
 have HT := hid (fun (w' : World) (h : Below w.heap.size w w') => ht.below h)
 have HLN := hid ht.len
 obtain ⟨t1, t2, t3, t4⟩ := cl_told vars os
 by_cases h1 : vars < 0
 · have d1 : decide (vars < 0) = true := decide_eq_true h1
   have HR := hid (t1 (.inl h1))
   clear t1 t2 t3 t4 h1 ht
   go_in
   go_wp2_with fail
   go_ret
   rw [HR.out]
   exact ⟨rfl, Below.refl _ _⟩
 have d1 : decide (vars < 0) = false := decide_eq_false h1
 by_cases h2 : 16 < vars
 · have d2 : decide (vars > 16) = true := decide_eq_true h2
   have HR := hid (t1 (.inr h2))
   clear t1 t2 t3 t4 h1 h2 ht
   go_in
   go_wp2_with fail
   go_ret
   rw [HR.out]
   exact ⟨rfl, Below.refl _ _⟩
 have d2 : decide (vars > 16) = false := decide_eq_false h2
 have hvv : ¬ (vars < 0 ∨ 16 < vars) := by omega
 have hln := ht.len
 by_cases h3 : 64 < n
 · have d3 : decide ((n : Int) > 64) = true := decide_eq_true (by omega)
   have HR := hid (t2 hvv (by rw [hln]; exact h3))
   clear t1 t2 t3 t4 h1 h2 h3 ht hln
   go_in
   go_wp2_with fail
   go_ret
   rw [HR.out]
   exact ⟨rfl, Below.refl _ _⟩
 have d3 : decide ((n : Int) > 64) = false := decide_eq_false (by omega)
 have hn64 : n ≤ 64 := by omega
 have h64 : ¬ 64 < os.length := by omega
 have HBADR := hid (t3 hvv h64)
 have HGOODR := hid (t4 hvv h64)
 obtain ⟨vn, rfl⟩ : ∃ vn : Nat, vars = vn := ⟨vars.toNat, by omega⟩
 have hvn : vn ≤ 16 := by omega
 have HBELL := hid (fun (hb : ∀ o ∈ os, badO (vn : Int) o = false) => bell_pos (N := vn + 1) (os := os) (by omega) (by omega) (by omega) (by rw [show (((vn + 1 : Nat) : Int) - 1) = (vn : Int) from by omega]; exact hb))
 have HFROM := hid (fun (w' : World) (h : Below w.heap.size w w') (hb : ∀ o ∈ os, badO (vn : Int) o = false) (low : Nat) (hl : low ≤ vn) => from_any (ht.below h) vn low hvn hn64 hl hb)
 have HTN := hid (show ((vn : Int).toNat + 1) = vn + 1 from by omega)
 rw [HTN.out] at HGOODR
 generalize (clR (vn : Int) os).1 = res at *
 clear t1 t2 t3 t4 h1 h2 h3 hvv h64 hln ht hw
 have HB0 := hid (Below.refl w.heap.size w)
 go_in
 go_wp2_with fail
 go_loopw [5] (fun iv wr => ∃ i : Nat, iv = .int .i64 (i : Int) ∧ i ≤ n ∧ Hid (∀ o ∈ os.take i, badO (vn : Int) o = false) ∧ Hid (Below w.heap.size w wr)) (fun i _ => n - (intOf i).toNat)
 case atStart => exact ⟨0, rfl, by omega, hid (by simp), HB0⟩
 case round =>
  obtain ⟨i, rfl, hin, hgd, hbw⟩ := hrel
  by_cases hi2 : i < n
  · have hib4 : decide ((i : Int) < (n : Int)) = true := decide_eq_true (by omega)
    have hib5 : decide (i < n) = true := decide_eq_true hi2
    obtain ⟨ba, oa, rfl, hba, g0, g1, g2⟩ := (HT.out wr hbw.out).at_ hi2
    have hio : i < os.length := by rw [HLN.out]; exact hi2
    obtain ⟨o, ho⟩ : ∃ o, o = nth os i := ⟨_, rfl⟩
    have hmem : o ∈ os := by rw [ho, nth_eq hio]; exact List.getElem_mem _
    have htk : os.take (i + 1) = os.take i ++ [o] := by rw [ho, nth_eq hio, List.take_add_one, List.getElem?_eq_getElem hio]; rfl
    rw [← ho] at g0 g1 g2
    cases hbad : badO (vn : Int) o with
    | true =>
     have HR := hid (HBADR.out ⟨o, hmem, hbad⟩)
     have HBa := hid (hbw.out.alloc hbw.out.size (.cells #[.int .i64 o.op, .int .i64 o.a, .int .i64 o.b] 78))
     have hsp := bad_ways hbad
     generalize o.op = lo at *
     generalize o.a = ad at *
     generalize o.b = hi at *
     clear hmem htk hbad ho
     rcases hsp with h | ⟨e1, h⟩ | ⟨e1, e2, h⟩ | ⟨e1, e2, e3, h⟩ | ⟨e1, e2, e3, e4, h⟩ | ⟨e1, e2, e3, e4, e5, h⟩
     all_goals
      (try have k1 := decide_eq_false e1)
      (try have k2 := decide_eq_false e2)
      (try have k3 := decide_eq_false e3)
      (try have k4 := decide_eq_false e4)
      (try have k5 := decide_eq_false e5)
      have k6 := decide_eq_true h
      (try clear e1)
      (try clear e2)
      (try clear e3)
      (try clear e4)
      (try clear e5)
      clear h
      go_wp2_with fail
      go_ret
      rw [HR.out]
      exact ⟨rfl, HBa.out⟩
    | false =>
     have HG := hid (show ∀ o' ∈ os.take (i + 1), badO (vn : Int) o' = false from fun o' ho' => by
      rw [htk, List.mem_append, List.mem_singleton] at ho'
      rcases ho' with ho' | rfl
      · exact hgd.out o' ho'
      exact hbad)
     have HBa := hid (hbw.out.alloc hbw.out.size (.cells #[.int .i64 o.op, .int .i64 o.a, .int .i64 o.b] 78))
     obtain ⟨e1, e2, e3, e4, e5, e6⟩ := bad_not hbad
     generalize o.op = lo at *
     generalize o.a = ad at *
     generalize o.b = hi at *
     have k1 := decide_eq_false e1
     have k2 := decide_eq_false e2
     have k3 := decide_eq_false e3
     have k4 := decide_eq_false e4
     have k5 := decide_eq_false e5
     have k6 := decide_eq_false e6
     clear hmem htk hbad ho e1 e2 e3 e4 e5 e6
     go_wp2_with fail
     go_roundw
     case rel => exact ⟨i + 1, by go_num, by omega, HG, HBa⟩
     case measure => simp [intOf]; omega
  have hib4 : decide ((i : Int) < (n : Int)) = false := decide_eq_false (by omega)
  have hib5 : decide (i < n) = false := decide_eq_false hi2
  have hgood : ∀ o ∈ os, badO (vn : Int) o = false := by
   have := hgd.out
   rwa [List.take_of_length_le (by rw [HLN.out]; omega)] at this
  have HBL := hid (HBELL.out hgood)
  have HFR := hid (fun (w' : World) (h : Below w.heap.size w w') (low : Nat) (hl : low ≤ vn) => HFROM.out w' h hgood low hl)
  have HGR := hid (HGOODR.out hgood)
  clear hgood hgd
  go_wp2_with fail
  obtain ⟨wo, rfl⟩ : ∃ wo : World, wo = wr := ⟨_, rfl⟩
  go_loopw [7] (fun iv wr => ∃ v : Nat, iv = .int .i64 (v : Int) ∧ v ≤ vn + 1 ∧ Hid (∀ low, low < v → frmB (edgs (vn + 1) os) (vn + 1 + 1) (iniB (vn + 1) low) ≠ none) ∧ Hid (Below w.heap.size w wr)) (fun i _ => vn + 1 - (intOf i).toNat)
  case atStart => exact ⟨0, rfl, by omega, hid (fun low h => absurd h (by omega)), hbw⟩
  case round =>
   obtain ⟨v, rfl, hvv, hall, hbw2⟩ := hrel
   by_cases hv2 : v ≤ vn
   rotate_left
   · have hib6 : decide ((v : Int) ≤ (vn : Int)) = false := decide_eq_false (by omega)
     have hib7 : decide (v ≤ vn) = false := decide_eq_false hv2
     have HR : Hid (res = 0) := hid (HGR.out.2 (HBL.out.1 (fun low hl => hall.out low (by omega))))
     go_wp2_with fail
     go_ret
     rw [HR.out]
     exact ⟨rfl, hbw2.out⟩
   have hib6 : decide ((v : Int) ≤ (vn : Int)) = true := decide_eq_true (by omega)
   have hib7 : decide (v ≤ vn) = true := decide_eq_true hv2
   have HC := hid (HFR.out wr hbw2.out v hv2)
   go_wp2_with fail
   refine HC.out.mono ?_
   rintro e w2 ⟨hb2, hcase⟩
   have HB2 := bto hbw2 hb2
   clear hb2
   rcases hcase with ⟨hr, rfl⟩ | ⟨ds, A', n', c', hr, rfl, _⟩
   · have HR : Hid (res = 7) := hid (by
      by_cases hp : Pos (vn + 1) os
      · exact HGR.out.1 hp
      exact absurd hr (HBL.out.2 hp v (by omega)))
     clear hr
     go_wp2_with fail
     go_ret
     rw [HR.out]
     exact ⟨rfl, HB2.out⟩
   have HA : Hid (∀ low, low < v + 1 → frmB (edgs (vn + 1) os) (vn + 1 + 1) (iniB (vn + 1) low) ≠ none) := hid (fun low hl => by
    by_cases h : low < v
    · exact hall.out low h
    have : low = v := by omega
    subst this
    rw [hr]
    simp)
   clear hr
   go_wp2_with fail
   go_roundw
   case rel => exact ⟨v + 1, by go_num, by omega, HA, HB2⟩
   case measure => simp [intOf]; omega
end Go.Proofs.YtplecfbdchmogaaGreat
