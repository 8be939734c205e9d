/- GuardLifts: the law, walked. -/
import Derived.Test.YtpkldboeohhmpaaDeeps
import Derived.Test.YtpkldboeohhmpaaSized
import Derived.Test.YtpkldboeohhmpaaLiftG
import Derived.Test.YtpkldboeohhmpaaErr18
namespace Go.Proofs.Ytpkldboeohhmpaa
open Go.RowKit

set_option linter.unusedSimpArgs false in
set_option linter.unusedVariables false in
set_option maxRecDepth 100000 in
set_option maxHeartbeats 4000000 in
theorem lifts7_law {w : World} {v : BkVal} {b : Bk} (hb : BookV w v b) {A : Option Addr} {n c : Nat} {t : List Nd} (ht : TermV w A n c t) (free up : Int) (hf0 : 0 ≤ free) (hf1 : free ≤ 255) (hu0 : 0 ≤ up) (hu1 : up ≤ 255) :
    Calls Try.prog 6 #[.agg #[.int .i64 b.vars, .slice v.Ao v.no v.co, .slice v.Ae v.ne v.ce, .int .i64 b.nat, .slice v.Ap v.np v.cp], .slice A n c, .int .u8 free, .int .u8 up] w (BoolP true w) := by
  have HSZ := Lib.hid (fun (w' : World) (h : Below w.heap.size w w') => size_any (hb.below h) 4000 (by omega))
  have HCK := Lib.hid (fun (w' : World) (h : Below w.heap.size w w') => gcheck_any (hb.below h) free (ht.below h))
  have HCK2 := Lib.hid (fun (w' : World) (h : Below w.heap.size w w') (A' : Option Addr) (n' c' : Nat) (l : List Nd) (h2 : TermV w' A' n' c' l) => gcheck_any (hb.below h) (free + up) h2)
  have HLF := Lib.hid (fun (w' : World) (h : Below w.heap.size w w') => lift_any (ht.below h) up 0 (by omega))
  have HLG := Lib.hid (fun (h : chkGE b free t = 0 ∨ chkGE b free t = 18) (h2 : (liftR t up 0).2 = 0) => lift_guard (chk_fits h) hu0 (by omega) h2)
  have HB0 := Lib.hid (below_alloc w (.cells #[.int .i64 b.vars, .slice v.Ao v.no v.co, .slice v.Ae v.ne v.ce, .int .i64 b.nat, .slice v.Ap v.np v.cp] 30))
  have HK0 := Lib.hid (Blk.new w 30 #[.int .i64 b.vars, .slice v.Ao v.no v.co, .slice v.Ae v.ne v.ce, .int .i64 b.nat, .slice v.Ap v.np v.cp])
  have HTL := Lib.hid ht.len
  generalize sizeB 4000 b = sz at *
  generalize chkGE b free t = ce at *
  generalize (liftR t up 0) = lr at *
  obtain ⟨x, f⟩ := lr
  simp only at HLG
  obtain ⟨c2, hc2⟩ : ∃ c2, c2 = chkGE b (free + up) x := ⟨_, rfl⟩
  have HC2 := Lib.hid hc2
  rw [← hc2] at HLG
  clear hc2
  obtain ⟨Ao, no, co, Ae, ne, ce', Ap, np, cp⟩ := v
  simp only at HSZ HCK HCK2 HB0 HK0 ⊢
  clear hb ht
  generalize b.vars = bv at *
  generalize b.nat = bn at *
  go_enter Try.func6, Try.ntmps6
  go_wp2_with fail
  refine gawake_any.mono ?_
  rintro e w1 ⟨rfl, hw1⟩
  have HB1 := Lib.hid (HB0.out.trans (hw1.mono HB0.out.size))
  have HK1 := Lib.hid (Blk.below HK0.out hw1 (by simp))
  have zk1 := Blk.cell HK1.out
  clear hw1
  go_wp2_with fail
  refine (HSZ.out _ HB1.out).mono ?_
  rintro e w2 ⟨rfl, hw2⟩
  have HB2 := Lib.hid (HB1.out.trans (hw2.mono HB1.out.size))
  have HK2 := Lib.hid (Blk.below HK1.out hw2 HK1.out.lt)
  have zk2 := Blk.cell HK2.out
  clear hw2 zk1
  by_cases h1 : 4000 ≤ sz
  · have d1 : decide (sz ≥ 4000) = true := decide_eq_true h1
    clear h1
    go_wp2_with fail
    go_ret
    exact ⟨rfl, HB2.out⟩
  have d1 : decide (sz ≥ 4000) = false := decide_eq_false h1
  clear h1
  by_cases h2 : 4000 < n
  · have d2 : decide ((n : Int) > 4000) = true := decide_eq_true (by omega)
    clear h2
    go_wp2_with fail
    go_ret
    exact ⟨rfl, HB2.out⟩
  have hn4 : n ≤ 4096 := by omega
  have d2 : decide ((n : Int) > 4000) = false := decide_eq_false (by omega)
  clear h2
  go_wp2_with fail
  refine (HCK.out _ HB2.out).mono ?_
  rintro e w3 ⟨rfl, hw3⟩
  have HB3 := Lib.hid (HB2.out.trans (hw3.mono HB2.out.size))
  have HK3 := Lib.hid (Blk.below HK2.out hw3 HK2.out.lt)
  have zk3 := Blk.cell HK3.out
  clear hw3 zk2
  by_cases h3 : ce = 0 ∨ ce = 18
  case neg =>
    have d3 : (ce != 0) = true := by simp; omega
    have d4 : (ce != 18) = true := by simp; omega
    clear h3
    go_wp2_with fail
    go_ret
    exact ⟨rfl, HB3.out⟩
  have HLG' := Lib.hid (HLG.out h3)
  rcases h3 with rfl | rfl
  all_goals
    go_wp2_with fail
    refine (HLF.out _ HB3.out).mono ?_
    rintro e w4 ⟨hw4, A', n', c', rfl, hown⟩
    have HB4 := Lib.hid (HB3.out.trans (hw4.mono HB3.out.size))
    have HK4 := Lib.hid (Blk.below HK3.out hw4 HK3.out.lt)
    have zk4 := Blk.cell HK4.out
    have HO := Lib.hid hown
    clear hw4 zk3 hown
    by_cases h4 : f = 0
    case neg =>
      have d5 : (f != 0) = true := by simpa using h4
      clear h4
      go_wp2_with fail
      go_ret
      exact ⟨rfl, HB4.out⟩
    subst h4
    obtain ⟨hc, hl⟩ := HLG'.out rfl
    have HT4 := Lib.hid (OwnN.termV HO.out (by simp only; have := HTL.out; omega))
    have HC := Lib.hid (HCK2.out _ HB4.out _ _ _ _ HT4.out)
    simp only at HC
    rw [← HC2.out, hc] at HC
    clear hc hl
    go_wp2_with fail
    refine HC.out.mono ?_
    rintro e w5 ⟨rfl, hw5⟩
    have HB5 := Lib.hid (HB4.out.trans (hw5.mono HB4.out.size))
    clear hw5
    go_wp2_with fail
    go_ret
    exact ⟨rfl, HB5.out⟩

end Go.Proofs.Ytpkldboeohhmpaa
