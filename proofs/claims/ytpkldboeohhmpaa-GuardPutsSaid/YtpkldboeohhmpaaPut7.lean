/- GuardPuts: the law, walked. -/
import Derived.Test.YtpkldboeohhmpaaShort2
import Derived.Test.YtpkldboeohhmpaaDeeps
import Derived.Test.YtpkldboeohhmpaaSized
import Derived.Test.YtpkldboeohhmpaaPutG
namespace Go.Proofs.Ytpkldboeohhmpaa
open Go.RowKit

set_option linter.unusedSimpArgs false in
set_option linter.unusedVariables false in
set_option maxRecDepth 100000 in
set_option maxHeartbeats 4000000 in
theorem puts7_law {w : World} {v : BkVal} {b : Bk} (hb : BookV w v b) {A B : Option Addr} {n c m d : Nat} {t u : List Nd} (ht : TermV w A n c t) (hu : TermV w B m d u) (free : Int) (hf0 : 0 ≤ free) (hf1 : free ≤ 255) :
    Calls Try.prog 8 #[.agg #[.int .i64 b.vars, .slice v.Ao v.no v.co, .slice v.Ae v.ne v.ce, .int .i64 b.nat, .slice v.Ap v.np v.cp], .slice A n c, .slice B m d, .int .u8 free] w (BoolP true w) := by
  have HSZ := Lib.hid (fun (w' : World) (h : Below w.heap.size w w') => size_any (hb.below h) 4000 (by omega))
  have HCK := Lib.hid (fun (w' : World) (h : Below w.heap.size w w') => gcheck_any (hb.below h) (free + 1) (ht.below h))
  have HCK2 := Lib.hid (fun (w' : World) (h : Below w.heap.size w w') => gcheck_any (hb.below h) free (hu.below h))
  have HCK3 := Lib.hid (fun (w' : World) (h : Below w.heap.size w w') (A' : Option Addr) (n' c' : Nat) (l : List Nd) (h2 : TermV w' A' n' c' l) => gcheck_any (hb.below h) free h2)
  have HSB := Lib.hid (fun (w' : World) (h : Below w.heap.size w w') (hD : substD t u (min 0 1048577)) => subst_any (ht.below h) (hu.below h) 0 (fun _ _ _ => hD))
  have HPG := Lib.hid (fun (h : chkGE b (free + 1) t = 0) (h2 : chkGE b free u = 0) => put_guard hf0 hf1 h h2)
  have HB0 := Lib.hid (below_alloc w (.cells #[.int .i64 b.vars, .slice v.Ao v.no v.co, .slice v.Ae v.ne v.ce, .int .i64 b.nat, .slice v.Ap v.np v.cp] 30))
  have HK0 := Lib.hid (Blk.new w 30 #[.int .i64 b.vars, .slice v.Ao v.no v.co, .slice v.Ae v.ne v.ce, .int .i64 b.nat, .slice v.Ap v.np v.cp])
  generalize sizeB 4000 b = sz at *
  generalize chkGE b (free + 1) t = c1 at *
  generalize chkGE b free u = c2 at *
  generalize substD t u (min 0 1048577) = sd at *
  generalize substR t u 0 = sr at *
  obtain ⟨x, f⟩ := sr
  simp only at HPG
  obtain ⟨c3, hc3⟩ : ∃ c3, c3 = chkGE b free x := ⟨_, rfl⟩
  have HC3 := Lib.hid hc3
  rw [← hc3] at HPG
  clear hc3
  obtain ⟨Ao, no, co, Ae, ne, ce', Ap, np, cp⟩ := v
  simp only at HSZ HCK HCK2 HCK3 HB0 HK0 ⊢
  clear hb ht hu
  generalize b.vars = bv at *
  generalize b.nat = bn at *
  go_enter Try.func8, Try.ntmps8
  go_wp2_with fail
  refine gawake_any.mono ?_
  rintro e w1 ⟨rfl, hw1⟩
  have HB1 := Lib.hid (HB0.out.trans (hw1.mono HB0.out.size))
  have HK1 := Lib.hid (Blk.below HK0.out hw1 (by simp))
  have zk1 := Blk.cell HK1.out
  clear hw1
  go_wp2_with fail
  refine (HSZ.out _ HB1.out).mono ?_
  rintro e w2 ⟨rfl, hw2⟩
  have HB2 := Lib.hid (HB1.out.trans (hw2.mono HB1.out.size))
  have HK2 := Lib.hid (Blk.below HK1.out hw2 HK1.out.lt)
  have zk2 := Blk.cell HK2.out
  clear hw2 zk1
  by_cases h1 : 4000 ≤ sz
  · have d1 : decide (sz ≥ 4000) = true := decide_eq_true h1
    clear h1
    go_wp2_with fail
    go_ret
    exact ⟨rfl, HB2.out⟩
  have d1 : decide (sz ≥ 4000) = false := decide_eq_false h1
  clear h1
  by_cases h2 : 2000 < n
  · have d2 : decide ((n : Int) > 2000) = true := decide_eq_true (by omega)
    clear h2
    go_wp2_with fail
    go_ret
    exact ⟨rfl, HB2.out⟩
  have hn4 : n ≤ 4096 := by omega
  have d2 : decide ((n : Int) > 2000) = false := decide_eq_false (by omega)
  clear h2
  by_cases h2 : 2000 < m
  · have d3 : decide ((m : Int) > 2000) = true := decide_eq_true (by omega)
    clear h2
    go_wp2_with fail
    go_ret
    exact ⟨rfl, HB2.out⟩
  have hm4 : m ≤ 4096 := by omega
  have d3 : decide ((m : Int) > 2000) = false := decide_eq_false (by omega)
  clear h2
  go_wp2_with fail
  refine (HCK.out _ HB2.out).mono ?_
  rintro e w3 ⟨rfl, hw3⟩
  have HB3 := Lib.hid (HB2.out.trans (hw3.mono HB2.out.size))
  have HK3 := Lib.hid (Blk.below HK2.out hw3 HK2.out.lt)
  have zk3 := Blk.cell HK3.out
  clear hw3 zk2
  by_cases h3 : c1 = 0
  case neg =>
    have d4 : (c1 != 0) = true := by simpa using h3
    clear h3
    go_wp2_with fail
    go_ret
    exact ⟨rfl, HB3.out⟩
  have HP1 := Lib.hid (HPG.out h3)
  clear HPG
  subst h3
  go_wp2_with fail
  refine (HCK2.out _ HB3.out).mono ?_
  rintro e w4 ⟨rfl, hw4⟩
  have HB4 := Lib.hid (HB3.out.trans (hw4.mono HB3.out.size))
  have HK4 := Lib.hid (Blk.below HK3.out hw4 HK3.out.lt)
  have zk4 := Blk.cell HK4.out
  clear hw4 zk3
  by_cases h4 : c2 = 0
  case neg =>
    have d5 : (c2 != 0) = true := by simpa using h4
    clear h4
    go_wp2_with fail
    go_ret
    exact ⟨rfl, HB4.out⟩
  obtain ⟨hD, hR⟩ := HP1.out h4
  clear HP1
  subst h4
  have HD := Lib.hid (HSB.out _ HB4.out hD)
  have HR := Lib.hid hR
  clear hD hR
  go_wp2_with fail
  refine HD.out.mono ?_
  rintro e w5 ⟨hw5, A', n', c', rfl, hown⟩
  have HB5 := Lib.hid (HB4.out.trans (hw5.mono HB4.out.size))
  have HK5 := Lib.hid (Blk.below HK4.out hw5 HK4.out.lt)
  have zk5 := Blk.cell HK5.out
  have HO := Lib.hid hown
  clear hw5 zk4 hown
  by_cases h5 : f = 0
  case neg =>
    have d6 : (f != 0) = true := by simpa using h5
    clear h5
    go_wp2_with fail
    go_ret
    exact ⟨rfl, HB5.out⟩
  subst h5
  obtain ⟨hc, hl⟩ := HR.out rfl
  have HT5 := Lib.hid (OwnN.termV HO.out (by simp only; omega))
  have HC := Lib.hid (HCK3.out _ HB5.out _ _ _ _ HT5.out)
  simp only at HC
  rw [← HC3.out, hc] at HC
  clear hc hl
  go_wp2_with fail
  refine HC.out.mono ?_
  rintro e w6 ⟨rfl, hw6⟩
  have HB6 := Lib.hid (HB5.out.trans (hw6.mono HB5.out.size))
  clear hw6
  go_wp2_with fail
  go_ret
  exact ⟨rfl, HB6.out⟩

end Go.Proofs.Ytpkldboeohhmpaa
