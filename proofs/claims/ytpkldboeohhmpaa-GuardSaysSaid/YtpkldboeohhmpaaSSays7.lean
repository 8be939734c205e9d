/- GuardSays: the law, walked. -/
import Derived.Test.YtpkldboeohhmpaaSShort2
import Derived.Test.YtpkldboeohhmpaaSDeeps
import Derived.Test.YtpkldboeohhmpaaSSized
import Derived.Test.YtpkldboeohhmpaaSRefAll
namespace Go.Proofs.Ytpkldboeohhmpaa
open Go.RowKit
set_option linter.unusedSimpArgs false in
set_option linter.unusedVariables false in
set_option maxRecDepth 100000 in
set_option maxHeartbeats 8000000 in
theorem says7_law {w : World} {v : BkVal} {b : Bk} (hb : BookV w v b) (free : Int) {A : Option Addr} {n c : Nat} {t : List Nd} (ht : TermV w A n c t) :
 Calls Try.prog 4 #[.agg #[.int .i64 b.vars, .slice v.Ao v.no v.co, .slice v.Ae v.ne v.ce, .int .i64 b.nat, .slice v.Ap v.np v.cp], .int .i64 free, .slice A n c] w (BoolP true w) := by
 have HSZ := Lib.hid (fun (w' : World) (h : Below w.heap.size w w') => size_any (hb.below h) 8000 (by omega))
 have HFP := Lib.hid (fun (w' : World) (h : Below w.heap.size w w') => gfix_any (hb.below h) free (ht.below h))
 have HFR := Lib.hid (fun (w' : World) (h : Below w.heap.size w w') => refFix_any (hb.below h) free (ht.below h))
 have HCP := Lib.hid (fun (w' : World) (h : Below w.heap.size w w') => gcheck_any (hb.below h) free (ht.below h))
 have HCR := Lib.hid (fun (w' : World) (h : Below w.heap.size w w') => refCheckG_any (hb.below h) free (ht.below h))
 have HB0 := Lib.hid (below_alloc w (.cells #[.int .i64 b.vars, .slice v.Ao v.no v.co, .slice v.Ae v.ne v.ce, .int .i64 b.nat, .slice v.Ap v.np v.cp] 30))
 have HK0 := Lib.hid (Blk.new w 30 #[.int .i64 b.vars, .slice v.Ao v.no v.co, .slice v.Ae v.ne v.ce, .int .i64 b.nat, .slice v.Ap v.np v.cp])
 generalize sizeB 8000 b = sz at *
 generalize fixE b free t = fe at *
 generalize chkGE b free t = ce9 at *
 obtain ⟨Ao, no, co, Ae, ne, ce, Ap, np, cp⟩ := v
 simp only at HSZ HFP HFR HCP HCR HB0 HK0 ⊢
 clear hb ht
 generalize b.vars = bv at *
 generalize b.nat = bn at *
 go_enter Try.func4, Try.ntmps4
 go_wp2_with fail
 refine gawake_any.mono ?_
 rintro e w1 ⟨rfl, hw1⟩
 have HB1 := Lib.hid (HB0.out.trans (hw1.mono HB0.out.size))
 have HK1 := Lib.hid (Blk.below HK0.out hw1 (by simp))
 have zk1 := Blk.cell HK1.out
 clear hw1
 go_wp2_with fail
 refine (HSZ.out _ HB1.out).mono ?_
 rintro e w2 ⟨rfl, hw2⟩
 have HB2 := Lib.hid (HB1.out.trans (hw2.mono HB1.out.size))
 have HK2 := Lib.hid (Blk.below HK1.out hw2 HK1.out.lt)
 clear hw2 zk1
 by_cases h1 : 8000 ≤ sz
 · have d1 : decide (sz ≥ 8000) = true := decide_eq_true h1
   clear h1
   go_wp2_with fail
   go_ret
   exact ⟨rfl, HB2.out⟩
 have d1 : decide (sz ≥ 8000) = false := decide_eq_false h1
 clear h1
 by_cases h2 : 5000 < n
 · have d2 : decide ((n : Int) > 5000) = true := decide_eq_true (by omega)
   clear h2
   go_wp2_with fail
   go_ret
   exact ⟨rfl, HB2.out⟩
 have d2 : decide ((n : Int) > 5000) = false := decide_eq_false (by omega)
 clear h2
 have HBd := Lib.hid (below_drewN HB2.out 1)
 have HKd := Lib.hid (HK2.out.drewN 1)
 go_wp2_with fail
 refine wp_region_held_drew (S := (fun w' => w'.cell? ⟨w.heap.size, 0, none⟩ = some (.int .i64 bv) ∧ w'.cell? ⟨w.heap.size, 1, none⟩ = some (.slice Ao no co) ∧ w'.cell? ⟨w.heap.size, 2, none⟩ = some (.slice Ae ne ce) ∧ w'.cell? ⟨w.heap.size, 3, none⟩ = some (.int .i64 bn) ∧ w'.cell? ⟨w.heap.size, 4, none⟩ = some (.slice Ap np cp))) (by kernel_rfl) ?_ (fun hHeld => ?_)
 · (try dsimp only); exact ⟨HKd.out.cell 0, HKd.out.cell 1, HKd.out.cell 2, HKd.out.cell 3, HKd.out.cell 4⟩
 refine tq 0 hHeld ?_
 (try simp only [puts7])
 refine tq 1 hHeld ?_
 (try simp only [puts7])
 refine tq 2 hHeld ?_
 (try simp only [puts7])
 refine tq 4 hHeld ?_
 (try simp only [puts7])
 refine tq 5 hHeld ?_
 (try simp only [puts7])
 refine tq 6 hHeld ?_
 (try simp only [puts7])
 refine wpAnyH_ready (rs := [3]) (by kernel_rfl) (by simp) ?_
 refine AllReadyH.cons rfl (fun K hK => ?_) AllReadyH.nil
 go_simp
 go_at_call 10
 refine (HFP.out w2.drew HBd.out).mono ?_
 rintro e3 w3 ⟨rfl, hd3⟩
 have HB3 := Lib.hid (HBd.out.trans (hd3.mono HBd.out.size))
 have HK3 := Lib.hid (Blk.below HKd.out hd3 HKd.out.lt)
 clear hd3
 go_wp2_with fail
 refine hK.out _ _ ?_ (fun hHeld => ?_)
 · (try dsimp only); exact ⟨HK3.out.cell 0, HK3.out.cell 1, HK3.out.cell 2, HK3.out.cell 3, HK3.out.cell 4⟩
 clear hK K
 (try simp only [puts7])
 refine wpAnyH_ready (rs := [7]) (by kernel_rfl) (by simp) ?_
 refine AllReadyH.cons rfl (fun K hK => ?_) AllReadyH.nil
 go_simp
 go_at_call 14
 refine (HFR.out w3 HB3.out).mono ?_
 rintro e4 w4 ⟨rfl, hd4⟩
 have HB4 := Lib.hid (HB3.out.trans (hd4.mono HB3.out.size))
 have HK4 := Lib.hid (Blk.below HK3.out hd4 HK3.out.lt)
 clear hd4
 go_wp2_with fail
 refine hK.out _ _ ?_ (fun hHeld => ?_)
 · (try dsimp only); exact ⟨HK4.out.cell 0, HK4.out.cell 1, HK4.out.cell 2, HK4.out.cell 3, HK4.out.cell 4⟩
 clear hK K
 (try simp only [puts7])
 refine tq 8 hHeld ?_
 (try simp only [puts7])
 refine tq 9 hHeld ?_
 (try simp only [puts7])
 refine tq 10 hHeld ?_
 (try simp only [puts7])
 refine tq 11 hHeld ?_
 (try simp only [puts7])
 refine tq 12 hHeld ?_
 (try simp only [puts7])
 refine tq 14 hHeld ?_
 (try simp only [puts7])
 refine tq 15 hHeld ?_
 (try simp only [puts7])
 refine tq 16 hHeld ?_
 (try simp only [puts7])
 refine wpAnyH_ready (rs := [13]) (by kernel_rfl) (by simp) ?_
 refine AllReadyH.cons rfl (fun K hK => ?_) AllReadyH.nil
 go_simp
 go_at_call 15
 refine (HCP.out w4 HB4.out).mono ?_
 rintro e5 w5 ⟨rfl, hd5⟩
 have HB5 := Lib.hid (HB4.out.trans (hd5.mono HB4.out.size))
 have HK5 := Lib.hid (Blk.below HK4.out hd5 HK4.out.lt)
 clear hd5
 go_wp2_with fail
 refine hK.out _ _ ?_ (fun hHeld => ?_)
 · (try dsimp only); exact ⟨HK5.out.cell 0, HK5.out.cell 1, HK5.out.cell 2, HK5.out.cell 3, HK5.out.cell 4⟩
 clear hK K
 (try simp only [puts7])
 refine wpAnyH_ready (rs := [17]) (by kernel_rfl) (by simp) ?_
 refine AllReadyH.cons rfl (fun K hK => ?_) AllReadyH.nil
 go_simp
 go_at_call 16
 refine (HCR.out w5 HB5.out).mono ?_
 rintro e6 w6 ⟨rfl, hd6⟩
 have HB6 := Lib.hid (HB5.out.trans (hd6.mono HB5.out.size))
 have HK6 := Lib.hid (Blk.below HK5.out hd6 HK5.out.lt)
 clear hd6
 go_wp2_with fail
 refine hK.out _ _ ?_ (fun hHeld => ?_)
 · (try dsimp only); exact ⟨HK6.out.cell 0, HK6.out.cell 1, HK6.out.cell 2, HK6.out.cell 3, HK6.out.cell 4⟩
 clear hK K
 (try simp only [puts7])
 refine tq 18 hHeld ?_
 (try simp only [puts7])
 refine tq 19 hHeld ?_
 (try simp only [puts7])
 refine tq 20 hHeld ?_
 (try simp only [puts7])
 refine wpAnyH_done (by kernel_rfl) ?_ _
 go_wp2_with fail
 go_ret
 exact ⟨rfl, HB6.out⟩
end Go.Proofs.Ytpkldboeohhmpaa
