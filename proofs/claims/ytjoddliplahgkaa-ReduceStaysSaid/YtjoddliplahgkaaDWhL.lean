/- retortlaw08: awake. -/
import Derived.Test.YtjoddliplahgkaaDWhH
import Derived.Test.YtjoddliplahgkaaDSame
namespace Go.Proofs.Ytjoddliplahgkaa
open Go.Lib (hid)
set_option maxRecDepth 100000
open Go.RowKit
def idL : List Nd := [⟨5, 0, 0⟩, ⟨2, 1, 1⟩, ⟨3, 0, 0⟩, ⟨1, 0, 0⟩]
def bk8 : Bk := ⟨0, [], [], -1, []⟩
abbrev bv8 : BkVal := ⟨none, 0, 0, none, 0, 0, none, 0, 0⟩
def bsA : List (List Nd × List Nd) := [([⟨2, 1, 1⟩, ⟨3, 0, 0⟩], [])]
theorem aw81 : stepC bk8 bsA ([⟨6, 0, 0⟩] ++ idL ++ [⟨1, 0, 0⟩]) = ([⟨1, 0, 0⟩], true, 0) := by kernel_rfl
theorem aw82 : whnfC bk8 [] ([⟨6, 0, 0⟩] ++ idL ++ idL) 3 = (idL, 2, 0) := by kernel_rfl
theorem bk8V (w : World) : BookV w bv8 bk8 := by
 refine ⟨⟨rfl, Nat.le_refl _, by decide, fun _ => rfl, fun h => absurd h (by decide)⟩, ?_, ?_, by decide, by decide, (fun x hx => by cases hx), (fun p hp => by cases hp)⟩
 · exact ⟨rfl, by decide, fun h => absurd h (by decide)⟩
 exact ⟨rfl, by decide, fun h => absurd h (by decide)⟩
theorem ctx0 (w : World) : CtxB (· < w.heap.size) w none 0 0 [] := ⟨rfl, Nat.le_refl _, by decide, fun _ => rfl, fun h => absurd h (by decide)⟩
theorem ctxA {W : World} {g1 g2 : Nat} (h1 : Blk W g1 50 #[.int .i64 2, .int .i64 1, .int .i64 1, .int .i64 3, .int .i64 0, .int .i64 0]) (h2 : Blk W g2 43 #[.slice (some ⟨g1, 0, none⟩) 2 2, .slice none 0 0]) : CtxB (· < W.heap.size) W (some ⟨g2, 0, none⟩) 1 1 bsA := by
 refine ⟨rfl, Nat.le_refl _, by decide, (fun e => by cases e), fun _ => ⟨g2, 0, rfl, h2.lt, fun k hk => ?_⟩⟩
 obtain rfl : k = 0 := by omega
 exact ⟨_, _, _, _, _, _, h2.cell 0, h2.cell 1, lit_term h1 rfl (by decide) (by decide), ⟨rfl, Nat.le_refl _, by decide, fun _ => rfl, fun h => absurd h (by decide)⟩⟩
set_option linter.unusedSimpArgs false in
set_option linter.unusedVariables false in
set_option maxHeartbeats 4000000 in
theorem awake8_any {w : World} : Calls Try.prog 7 #[] w (BoolP true w) := by
 obtain ⟨i0, hi, hy0, hy1, hy2⟩ := info_parts infoN'
 have HI0 := hid hi
 have HY0 := hid hy0
 have HY1 := hid hy1
 have HY2 := hid hy2
 clear hi hy0 hy1 hy2
 obtain ⟨W1, hW1⟩ : ∃ W1 : World, W1 = w.alloc (.cells #[.int .i64 5, .int .i64 0, .int .i64 0, .int .i64 2, .int .i64 1, .int .i64 1, .int .i64 3, .int .i64 0, .int .i64 0, .int .i64 1, .int .i64 0, .int .i64 0] 50) := ⟨_, rfl⟩
 have hb1 : Below w.heap.size w W1 := by rw [hW1]; exact below_alloc _ _
 have hk1 : Blk W1 w.heap.size 50 (litC idL) := by rw [hW1]; exact Blk.new _ _ _
 have HW1 := hid hW1.symm
 have HB1 := hid hb1
 have hl1 : w.heap.size < W1.heap.size := hk1.lt
 have HT1 : Hid (∀ w', Below W1.heap.size W1 w' → TermV w' (some ⟨w.heap.size, 0, none⟩) 4 4 idL) := hid (fun w' h => (lit_term hk1 rfl (by decide) (by decide)).below h)
 -- region 2
 obtain ⟨W2, hW2⟩ : ∃ W2 : World, W2 = ((W1.alloc (.cells #[.int .i64 2, .int .i64 1, .int .i64 1, .int .i64 3, .int .i64 0, .int .i64 0] 50)).alloc (.cells #[.slice (some ⟨W1.heap.size, 0, none⟩) 2 2, .slice none 0 0] 43)).alloc (.cells #[.int .i64 6, .int .i64 0, .int .i64 0] 50) := ⟨_, rfl⟩
 have hb2 : Below W1.heap.size W1 W2 := by rw [hW2]; exact (below_alloc2 _ _ _).alloc (by simp; omega) _
 have ha2 : Blk W2 W1.heap.size 50 #[.int .i64 2, .int .i64 1, .int .i64 1, .int .i64 3, .int .i64 0, .int .i64 0] := by rw [hW2]; exact ((Blk.new _ _ _).alloc _).alloc _
 have hc2 : Blk W2 (W1.heap.size + 1) 43 #[.slice (some ⟨W1.heap.size, 0, none⟩) 2 2, .slice none 0 0] := by rw [hW2]; exact (Blk.new' (by simp)).alloc _
 have ho2 : OwnN W2 (W1.heap.size + 1 + 1) (.slice (some ⟨W1.heap.size + 1 + 1, 0, none⟩) 1 1) [⟨6, 0, 0⟩] := by rw [hW2]; exact own_new' (by simp) (by simp) ⟨6, 0, 0⟩
 have hs2 : W2.heap.size = W1.heap.size + 3 := by rw [hW2]; simp
 have HW2 := hid hW2.symm
 have HB2 := hid hb2
 have HA2 := hid ha2
 have HC2 := hid hc2
 have HO2 := hid ho2
 have HS2 := hid hs2
 have HT2 := hid (HT1.out W2 hb2)
 clear hW1 hb1 hk1 hW2 hb2 ha2 hc2 ho2 hs2
 go_in
 go_upto_region 2 with fail
 rw [HW1.out]
 go_wp2_with (first
  | (at_builtin; rw [HW2.out]; refine wpList_oper rfl (oper_append_row (.tmp 21) (.tmp 22) 29 29 rfl (W1.heap.size + 1 + 1) i0 Try.underlying29 Try.underlying29 HI0.out HY0.out HY1.out HY2.out (.slice (some ⟨W1.heap.size + 1 + 1, 0, none⟩) 1 1) [⟨6, 0, 0⟩] idL (by rfl) HO2.out (by rfl) HT2.out (by decide) (by have := HS2.out; omega) ?_); intro A4 c4 w4 hown4 happ4; go_loud (have HB4 : Hid (Below (W1.heap.size + 1 + 1) W2 w4) := hid ((Below.refl _ _).grown happ4.grown (by have := HS2.out; omega) (fun g hg => (ownsRow_block HO2.out hg).1))); go_loud (have HO4 := hid hown4); go_loud (have HO5 := hid (hown4.alloc (.cells #[.int .i64 1, .int .i64 0, .int .i64 0] 50))); go_loud (have HK5 : Hid (Blk (w4.alloc (.cells #[.int .i64 1, .int .i64 0, .int .i64 0] 50)) w4.heap.size 50 (litC [⟨1, 0, 0⟩])) := hid (Blk.new _ _ _)); clear hown4 happ4)
  | (at_builtin; refine wpList_oper rfl (oper_append_row (.tmp 23) (.tmp 25) 29 29 rfl (W1.heap.size + 1 + 1) i0 Try.underlying29 Try.underlying29 HI0.out HY0.out HY1.out HY2.out (.slice A4 5 c4) ([⟨6, 0, 0⟩] ++ idL) [⟨1, 0, 0⟩] (by rfl) HO5.out (by rfl) (lit_term HK5.out rfl (Nat.le_refl _) (by decide)) (by decide) (by have := HB4.out.size; have := HS2.out; simp; omega) ?_); intro A6 c6 w6 hown6 happ6; go_loud (have HB6 : Hid (Below (W1.heap.size + 1 + 1) W2 w6) := hid ((HB4.out.alloc (by have := HB4.out.size; have := HS2.out; omega) (.cells #[.int .i64 1, .int .i64 0, .int .i64 0] 50)).grown happ6.grown (by have := HB4.out.size; have := HS2.out; simp; omega) (fun g hg => (ownsRow_block HO5.out hg).1))); go_loud (have HT6 : Hid (TermV w6 A6 (idL.length + 1 + 1) c6 ([⟨6, 0, 0⟩] ++ idL ++ [⟨1, 0, 0⟩])) := hid (OwnN.termV hown6 (by decide))); clear hown6 happ6))
 have HX6 : Hid (CtxB (· < w6.heap.size) w6 (some ⟨W1.heap.size + 1, 0, none⟩) 1 1 bsA) := hid (ctxA (g1 := W1.heap.size) (HA2.out.below HB6.out (by omega)) (HC2.out.below HB6.out (by omega)))
 have hst := rstep_any (bk8V w6) HX6.out HT6.out
 rw [aw81] at hst
 have HST := hid hst
 have HBB6 : Hid (Below W1.heap.size W1 w6) := hid (HB2.out.trans (HB6.out.mono (by omega)))
 clear hst HB4 HO4 HO5 HK5
 refine (HST.out).mono ?_
 rintro e w7 ⟨hb7, A7, n7, c7, rfl, ho7⟩
 have ht7 := ownN_term ho7 (by decide)
 have hn7 : n7 = 1 := ht7.len.symm
 subst hn7
 obtain ⟨b7, o7, rfl, hb7l, hc7, _, _⟩ := TermV.at_ ht7 (p := 0) (by decide)
 simp only [Nat.zero_mul, Nat.add_zero] at hc7
 have hc7' : w7.cell? ⟨b7, o7, none⟩ = some (.int .i64 1) := hc7
 have HC7 := hid hc7'
 have HB7 : Hid (Below W1.heap.size W1 w7) := bto HBB6 hb7
 have HT7 := hid (HT1.out w7 HB7.out)
 have HO8 : Hid (OwnN (w7.alloc (.cells #[.int .i64 6, .int .i64 0, .int .i64 0] 50)) w7.heap.size (.slice (some ⟨w7.heap.size, 0, none⟩) 1 1) [⟨6, 0, 0⟩]) := hid (own_new' rfl (Nat.le_refl _) ⟨6, 0, 0⟩)
 have HB8 : Hid (Below w7.heap.size w7 (w7.alloc (.cells #[.int .i64 6, .int .i64 0, .int .i64 0] 50))) := hid (below_alloc _ _)
 clear hb7 ho7 ht7 hc7 hc7'
 go_upto_region 3 with fail
 go_wp2_with (first
  | (at_builtin; refine wpList_oper rfl (oper_append_row (.tmp 34) (.tmp 35) 29 29 rfl w7.heap.size i0 Try.underlying29 Try.underlying29 HI0.out HY0.out HY1.out HY2.out (.slice (some ⟨w7.heap.size, 0, none⟩) 1 1) [⟨6, 0, 0⟩] idL (by rfl) HO8.out (by rfl) (TermV.below HT7.out HB8.out) (by decide) HB8.out.size ?_); intro A9 c9 w9 hown9 happ9; go_loud (have HB9 : Hid (Below w7.heap.size w7 w9) := hid (HB8.out.grown happ9.grown HB8.out.size (fun g hg => (ownsRow_block HO8.out hg).1))); go_loud (have HO9 := hid hown9); clear hown9 happ9)
  | (at_builtin; refine wpList_oper rfl (oper_append_row (.tmp 36) (.tmp 37) 29 29 rfl w7.heap.size i0 Try.underlying29 Try.underlying29 HI0.out HY0.out HY1.out HY2.out (.slice A9 5 c9) ([⟨6, 0, 0⟩] ++ idL) idL (by rfl) HO9.out (by rfl) (TermV.below HT7.out HB9.out) (by decide) HB9.out.size ?_); intro A10 c10 w10 hown10 happ10; go_loud (have HB10 : Hid (Below w7.heap.size w7 w10) := hid (HB9.out.grown happ10.grown HB9.out.size (fun g hg => (ownsRow_block HO9.out hg).1))); go_loud (have HT10 : Hid (TermV w10 A10 (idL.length + 1 + idL.length) c10 ([⟨6, 0, 0⟩] ++ idL ++ idL)) := hid (OwnN.termV hown10 (by decide))); clear hown10 happ10))
 have hwh := rwhnf_any (bk8V w10) (ctx0 w10) HT10.out 3
 rw [aw82] at hwh
 have HWH := hid hwh
 have HBB10 : Hid (Below W1.heap.size W1 w10) := hid (HB7.out.trans (HB10.out.mono HB7.out.size))
 clear hwh HB9 HO9
 refine (HWH.out).mono ?_
 rintro e w11 ⟨hb11, A11, n11, c11, rfl, ho11⟩
 have ht11 := ownN_term ho11 (by decide)
 have hn11 : n11 = 4 := ht11.len.symm
 subst hn11
 have HT11 := hid ht11
 have HB11 : Hid (Below W1.heap.size W1 w11) := bto HBB10 hb11
 have hc11 : w11.cell? ⟨b7, o7, none⟩ = some (.int .i64 1) := ((HB10.out.trans (hb11.mono HB10.out.size)).cell (p := ⟨b7, o7, none⟩) hb7l).trans HC7.out
 have HSM := hid (same_any w11 HT11.out (HT1.out w11 HB11.out))
 have HBF : Hid (Below w.heap.size w w11) := hid (HB1.out.trans (HB11.out.mono HB1.out.size))
 clear hb11 ho11 ht11
 go_wp2_with fail
 refine (HSM.out).mono ?_
 rintro e w12 ⟨rfl, m, rfl⟩
 go_wp2_with fail
 go_ret
 exact ⟨by simp, below_drewN HBF.out _⟩
end Go.Proofs.Ytjoddliplahgkaa
