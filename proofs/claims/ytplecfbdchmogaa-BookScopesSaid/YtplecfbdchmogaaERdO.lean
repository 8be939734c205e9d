/- Programs that are read: entries (book). -/
import Derived.Test.YtplecfbdchmogaaERdN
namespace Go.Proofs.Ytplecfbdchmogaa
open Go.Lib (hid)
set_option maxHeartbeats 4000000
set_option maxRecDepth 100000
set_option linter.unusedVariables false
set_option linter.unusedSimpArgs false
open Go.RowKit
theorem rentry_any {w0 w : World} {κ : Rk} {s : Rd} (h : RqS w0 κ s w) : Calls Try.prog 35 #[.pointer (some ⟨κ.h, 0, none⟩)] w (RqEn w0 κ (rdEntry s) w) := by
 have hb0 := below_alloc w (.cells #[.int .i64 0, .slice none 0 0, .slice none 0 0, .slice none 0 0, .slice none 0 0, .slice none 0 0, .slice none 0 0] 49)
 have HS0 := hid (h.below hb0)
 have HE0 := hid ((RqE.refl h).below hb0)
 have HB2 := hid (Blk.new w 49 #[.int .i64 0, .slice none 0 0, .slice none 0 0, .slice none 0 0, .slice none 0 0, .slice none 0 0, .slice none 0 0])
 have HGL := hid h.g_lt
 have HHL := hid h.h_lt
 have HRL := hid h.R_lt
 have HW0 := hid h.size
 have hs0 : w.heap.size < (w.alloc (.cells #[.int .i64 0, .slice none 0 0, .slice none 0 0, .slice none 0 0, .slice none 0 0, .slice none 0 0, .slice none 0 0] 49)).heap.size := by simp
 have hmf : ∀ (fn : Fn) (first cap : Array Value) (w : World), (Instr.makeFunc fn first cap).run Try.prog w = .ok (.func fn first cap) w := fun _ _ _ _ => rfl
 have hn1 := knum_any HS0.out 2 (by decide)
 obtain ⟨q1, hq1⟩ : ∃ q, q = rdInt 2 s := ⟨_, rfl⟩
 obtain ⟨x1, s1⟩ := q1
 rw [← hq1] at hn1
 have HE : Hid (rdEntry s = rdBody x1 s1) := hid (by simp only [rdEntry, Rdg.seq, ← hq1])
 have HN1 := hid hn1
 have y0 := HS0.out.blk.cell 0
 rw [HE.out]
 obtain ⟨res, hres⟩ : ∃ r, r = rdBody x1 s1 := ⟨_, rfl⟩
 rw [← hres]
 have HRES := hid hres
 clear h hq1 hn1 hb0 hs0 hres
 go_in
 go_wp2_with fail
 refine (HN1.out).mono ?_
 rintro e w1 ⟨rfl, h1⟩
 simp only at h1 ⊢
 have HE1 := hid (HE0.out.call h1)
 have HB2_1 := hid (HB2.out.mvk h1.1 HGL.out HHL.out)
 have hs1 := h1.1.size
 have hbb := below_alloc w1 (.cells #[.int .i64 x1, .slice none 0 0, .slice none 0 0, .slice none 0 0, .slice none 0 0, .slice none 0 0, .slice none 0 0] 49)
 have HE1b := hid (HE1.out.below hbb)
 have HB3 := hid (Blk.new w1 49 #[.int .i64 x1, .slice none 0 0, .slice none 0 0, .slice none 0 0, .slice none 0 0, .slice none 0 0, .slice none 0 0])
 have HB2_1b := hid ((HB2_1).out.below hbb HB2_1.out.lt)
 have HG1 := hid (show κ.g < w1.heap.size from Nat.lt_of_lt_of_le (show κ.g < w.heap.size + 1 from by have := HGL.out; omega) (by simpa using hs1))
 have HH1 := hid (show κ.h < w1.heap.size from Nat.lt_of_lt_of_le (show κ.h < w.heap.size + 1 from by have := HHL.out; omega) (by simpa using hs1))
 have HLT := hid (show w.heap.size < w1.heap.size from Nat.lt_of_lt_of_le (Nat.lt_succ_self _) (by simpa using hs1))
 have HSZ1 : Hid (w1.heap.size < (w1.alloc (.cells #[.int .i64 x1, .slice none 0 0, .slice none 0 0, .slice none 0 0, .slice none 0 0, .slice none 0 0, .slice none 0 0] 49)).heap.size) := hid (by simp)
 clear y0 h1 hbb hs1
 by_cases k1 : x1 = 1
 · subst k1
   obtain ⟨q2, hq2⟩ : ∃ q, q = rdRow s1 := ⟨_, rfl⟩
   obtain ⟨x2, s2⟩ := q2
   obtain ⟨q3, hq3⟩ : ∃ q, q = rdRows s2 := ⟨_, rfl⟩
   obtain ⟨x3, s3⟩ := q3
   obtain ⟨q4, hq4⟩ : ∃ q, q = rdRows s3 := ⟨_, rfl⟩
   obtain ⟨x4, s4⟩ := q4
   obtain ⟨q5, hq5⟩ : ∃ q, q = rdList chkB 255 rdCtor s4 := ⟨_, rfl⟩
   obtain ⟨x5, s5⟩ := q5
   have HR : Hid (rdBody 1 s1 = (⟨1, x2, x3, x4, x5, [], []⟩, s5)) := hid (by simp only [rdBody, if_true, Rdg.seq, Rdg.pure, ← hq2, ← hq3, ← hq4, ← hq5])
   have HQ2 := hid hq2
   have HQ3 := hid hq3
   have HQ4 := hid hq4
   have HQ5 := hid hq5
   have HRS := hid (HRES.out.trans HR.out)
   clear hq2 hq3 hq4 hq5
   have HN2 := hid (krow_any HE1b.out.2)
   rw [← HQ2.out] at HN2
   have y0 := HE1b.out.2.blk.cell 0
   go_wp2_with fail
   refine (HN2.out).mono ?_
   rintro e w2 ⟨A2, n2, c2, rfl, ht2, h2⟩
   simp only at h2 ht2 ⊢
   have HE2 := hid ((HE1b.out.call h2).set (b := w1.heap.size) (Nat.le_of_lt HLT.out) HGL.out HHL.out HRL.out HW0.out 1 (.slice A2 n2 c2))
   have HB3r2 := hid (HB3.out.mvk h2.1 HG1.out HH1.out)
   have HB2_2 := hid ((HB2_1b.out.mvk h2.1 HGL.out HHL.out).far (p := ⟨w1.heap.size, 1, none⟩) (by have := HLT.out; simp only; omega) (.slice A2 n2 c2))
   have HB3_2 := hid (HB3r2.out.set_ 1 (.slice A2 n2 c2))
   have HD2_2 := hid (ht2.keep (nb_new (lo := w.heap.size + 1) (b := w1.heap.size) (by have := HLT.out; have := HE1b.out.1.size; have := HSZ1.out; omega) HSZ1.out 1 (.slice A2 n2 c2)))
   have HSZ2 : Hid (w1.heap.size < (w2.setCell ⟨w1.heap.size, 1, none⟩ (.slice A2 n2 c2)).heap.size) := hid (by have := HSZ1.out; have := h2.1.size; rw [size_set]; omega)
   have y2 := HB3r2.out.cell
   have yf2 := HB3r2.out.frozen
   clear h2 ht2 y0
   have HN3 := hid (rrows_any HE2.out.2)
   rw [← HQ3.out] at HN3
   go_wp2_with fail
   refine (HN3.out).mono ?_
   rintro e w3 ⟨A3, n3, c3, rfl, ht3, h3⟩
   simp only at h3 ht3 ⊢
   have HE3 := hid ((HE2.out.call h3).set (b := w1.heap.size) (Nat.le_of_lt HLT.out) HGL.out HHL.out HRL.out HW0.out 2 (.slice A3 n3 c3))
   have HB3r3 := hid (HB3_2.out.mvk h3.1 HG1.out HH1.out)
   have HB2_3 := hid ((HB2_2.out.mvk h3.1 HGL.out HHL.out).far (p := ⟨w1.heap.size, 2, none⟩) (by have := HLT.out; simp only; omega) (.slice A3 n3 c3))
   have HB3_3 := hid (HB3r3.out.set_ 2 (.slice A3 n3 c3))
   have HD2_3 := hid (HD2_2.out.keep (nb_step h3.1 (by have := HGL.out; omega) (by have := HHL.out; omega) 2 (.slice A3 n3 c3)))
   have HD3_3 := hid (ht3.keep (nb_new (lo := w.heap.size + 1) (b := w1.heap.size) (by have := HLT.out; have := HE2.out.1.size; have := HSZ2.out; omega) HSZ2.out 2 (.slice A3 n3 c3)))
   have HSZ3 : Hid (w1.heap.size < (w3.setCell ⟨w1.heap.size, 2, none⟩ (.slice A3 n3 c3)).heap.size) := hid (by have := HSZ2.out; have := h3.1.size; rw [size_set]; omega)
   have y3 := HB3r3.out.cell
   have yf3 := HB3r3.out.frozen
   clear h3 ht3
   clear y2 yf2
   have HN4 := hid (rrows_any HE3.out.2)
   rw [← HQ4.out] at HN4
   go_wp2_with fail
   refine (HN4.out).mono ?_
   rintro e w4 ⟨A4, n4, c4, rfl, ht4, h4⟩
   simp only at h4 ht4 ⊢
   have HE4 := hid ((HE3.out.call h4).set (b := w1.heap.size) (Nat.le_of_lt HLT.out) HGL.out HHL.out HRL.out HW0.out 3 (.slice A4 n4 c4))
   have HB3r4 := hid (HB3_3.out.mvk h4.1 HG1.out HH1.out)
   have HB2_4 := hid ((HB2_3.out.mvk h4.1 HGL.out HHL.out).far (p := ⟨w1.heap.size, 3, none⟩) (by have := HLT.out; simp only; omega) (.slice A4 n4 c4))
   have HB3_4 := hid (HB3r4.out.set_ 3 (.slice A4 n4 c4))
   have HD2_4 := hid (HD2_3.out.keep (nb_step h4.1 (by have := HGL.out; omega) (by have := HHL.out; omega) 3 (.slice A4 n4 c4)))
   have HD3_4 := hid (HD3_3.out.keep (nb_step h4.1 (by have := HGL.out; omega) (by have := HHL.out; omega) 3 (.slice A4 n4 c4)))
   have HD4_4 := hid (ht4.keep (nb_new (lo := w.heap.size + 1) (b := w1.heap.size) (by have := HLT.out; have := HE3.out.1.size; have := HSZ3.out; omega) HSZ3.out 3 (.slice A4 n4 c4)))
   have HSZ4 : Hid (w1.heap.size < (w4.setCell ⟨w1.heap.size, 3, none⟩ (.slice A4 n4 c4)).heap.size) := hid (by have := HSZ3.out; have := h4.1.size; rw [size_set]; omega)
   have y4 := HB3r4.out.cell
   have yf4 := HB3r4.out.frozen
   clear h4 ht4
   clear y3 yf3
   have HN5 := hid (manyC_any HE4.out.2)
   rw [← HQ5.out] at HN5
   go_wp2_with fail
   refine (HN5.out).mono ?_
   rintro e w5 ⟨A5, n5, c5, rfl, ht5, h5⟩
   simp only at h5 ht5 ⊢
   have HE5 := hid ((HE4.out.call h5).set (b := w1.heap.size) (Nat.le_of_lt HLT.out) HGL.out HHL.out HRL.out HW0.out 4 (.slice A5 n5 c5))
   have HB3r5 := hid (HB3_4.out.mvk h5.1 HG1.out HH1.out)
   have HB2_5 := hid ((HB2_4.out.mvk h5.1 HGL.out HHL.out).far (p := ⟨w1.heap.size, 4, none⟩) (by have := HLT.out; simp only; omega) (.slice A5 n5 c5))
   have HB3_5 := hid (HB3r5.out.set_ 4 (.slice A5 n5 c5))
   have HD2_5 := hid (HD2_4.out.keep (nb_step h5.1 (by have := HGL.out; omega) (by have := HHL.out; omega) 4 (.slice A5 n5 c5)))
   have HD3_5 := hid (HD3_4.out.keep (nb_step h5.1 (by have := HGL.out; omega) (by have := HHL.out; omega) 4 (.slice A5 n5 c5)))
   have HD4_5 := hid (HD4_4.out.keep (nb_step h5.1 (by have := HGL.out; omega) (by have := HHL.out; omega) 4 (.slice A5 n5 c5)))
   have HD5_5 := hid (ht5.keep (nb_new (lo := w.heap.size + 1) (b := w1.heap.size) (by have := HLT.out; have := HE4.out.1.size; have := HSZ4.out; omega) HSZ4.out 4 (.slice A5 n5 c5)))
   have HSZ5 : Hid (w1.heap.size < (w5.setCell ⟨w1.heap.size, 4, none⟩ (.slice A5 n5 c5)).heap.size) := hid (by have := HSZ4.out; have := h5.1.size; rw [size_set]; omega)
   have y5 := HB3r5.out.cell
   have yf5 := HB3r5.out.frozen
   clear h5 ht5
   clear y4 yf4
   have yl := HB3_5.out.cell
   have yb := HB2_5.out.cell
   have yc := HB2_5.out.frozen
   go_wp2_with fail
   have hF := set7_grown (w5.setCell ⟨w1.heap.size, 4, none⟩ (.slice A5 n5 c5)) w.heap.size (.int .i64 1) (.slice A2 n2 c2) (.slice A3 n3 c3) (.slice A4 n4 c4) (.slice A5 n5 c5) (.slice none 0 0) (.slice none 0 0)
   rw [HRS.out]
   refine bodyPost_ret (v := .agg #[.int .i64 1, .slice A2 n2 c2, .slice A3 n3 c3, .slice A4 n4 c4, .slice A5 n5 c5, .slice none 0 0, .slice none 0 0]) (results_en (g := w.heap.size) (by have := (((((((HB2_5.out.set_ 0 (.int .i64 1)).set_ 1 (.slice A2 n2 c2)).set_ 2 (.slice A3 n3 c3)).set_ 3 (.slice A4 n4 c4)).set_ 4 (.slice A5 n5 c5)).set_ 5 (.slice none 0 0)).set_ 6 (.slice none 0 0)); simpa using this) (by simp)) rfl ⟨⟨A2, n2, c2, A3, n3, c3, A4, n4, c4, A5, n5, c5, none, 0, 0, none, 0, 0⟩, rfl, ⟨HD2_5.out.keep (nb_end hF (Nat.lt_succ_self _) (Nat.le_succ _)), HD3_5.out.keep (nb_end hF (Nat.lt_succ_self _) (Nat.le_succ _)), HD4_5.out.keep (nb_end hF (Nat.lt_succ_self _) (Nat.le_succ _)), HD5_5.out.keep (nb_end hF (Nat.lt_succ_self _) (Nat.le_succ _)), TermR.nilR _ _, TermR.nilR _ _⟩, ?_⟩
   exact HE5.out.grow hF (Nat.le_refl _) HGL.out HHL.out HRL.out HW0.out
 by_cases k2 : x1 = 2
 · subst k2
   clear k1
   obtain ⟨q2, hq2⟩ : ∃ q, q = rdRow s1 := ⟨_, rfl⟩
   obtain ⟨x2, s2⟩ := q2
   obtain ⟨q3, hq3⟩ : ∃ q, q = rdRow s2 := ⟨_, rfl⟩
   obtain ⟨x3, s3⟩ := q3
   have HR : Hid (rdBody 2 s1 = (⟨2, [], [], [], [], x2, x3⟩, s3)) := hid (by
    unfold rdBody
    rw [if_neg (by decide), if_pos rfl]
    simp only [Rdg.seq, Rdg.pure, ← hq2, ← hq3])
   have HQ2 := hid hq2
   have HQ3 := hid hq3
   have HRS := hid (HRES.out.trans HR.out)
   clear hq2 hq3
   have HN2 := hid (krow_any HE1b.out.2)
   rw [← HQ2.out] at HN2
   have y0 := HE1b.out.2.blk.cell 0
   go_wp2_with fail
   refine (HN2.out).mono ?_
   rintro e w2 ⟨A2, n2, c2, rfl, ht2, h2⟩
   simp only at h2 ht2 ⊢
   have HE2 := hid ((HE1b.out.call h2).set (b := w1.heap.size) (Nat.le_of_lt HLT.out) HGL.out HHL.out HRL.out HW0.out 5 (.slice A2 n2 c2))
   have HB3r2 := hid (HB3.out.mvk h2.1 HG1.out HH1.out)
   have HB2_2 := hid ((HB2_1b.out.mvk h2.1 HGL.out HHL.out).far (p := ⟨w1.heap.size, 5, none⟩) (by have := HLT.out; simp only; omega) (.slice A2 n2 c2))
   have HB3_2 := hid (HB3r2.out.set_ 5 (.slice A2 n2 c2))
   have HD2_2 := hid (ht2.keep (nb_new (lo := w.heap.size + 1) (b := w1.heap.size) (by have := HLT.out; have := HE1b.out.1.size; have := HSZ1.out; omega) HSZ1.out 5 (.slice A2 n2 c2)))
   have HSZ2 : Hid (w1.heap.size < (w2.setCell ⟨w1.heap.size, 5, none⟩ (.slice A2 n2 c2)).heap.size) := hid (by have := HSZ1.out; have := h2.1.size; rw [size_set]; omega)
   have y2 := HB3r2.out.cell
   have yf2 := HB3r2.out.frozen
   clear h2 ht2 y0
   have HN3 := hid (krow_any HE2.out.2)
   rw [← HQ3.out] at HN3
   have y0 := HE2.out.2.blk.cell 0
   go_wp2_with fail
   refine (HN3.out).mono ?_
   rintro e w3 ⟨A3, n3, c3, rfl, ht3, h3⟩
   simp only at h3 ht3 ⊢
   have HE3 := hid ((HE2.out.call h3).set (b := w1.heap.size) (Nat.le_of_lt HLT.out) HGL.out HHL.out HRL.out HW0.out 6 (.slice A3 n3 c3))
   have HB3r3 := hid (HB3_2.out.mvk h3.1 HG1.out HH1.out)
   have HB2_3 := hid ((HB2_2.out.mvk h3.1 HGL.out HHL.out).far (p := ⟨w1.heap.size, 6, none⟩) (by have := HLT.out; simp only; omega) (.slice A3 n3 c3))
   have HB3_3 := hid (HB3r3.out.set_ 6 (.slice A3 n3 c3))
   have HD2_3 := hid (HD2_2.out.keep (nb_step h3.1 (by have := HGL.out; omega) (by have := HHL.out; omega) 6 (.slice A3 n3 c3)))
   have HD3_3 := hid (ht3.keep (nb_new (lo := w.heap.size + 1) (b := w1.heap.size) (by have := HLT.out; have := HE2.out.1.size; have := HSZ2.out; omega) HSZ2.out 6 (.slice A3 n3 c3)))
   have HSZ3 : Hid (w1.heap.size < (w3.setCell ⟨w1.heap.size, 6, none⟩ (.slice A3 n3 c3)).heap.size) := hid (by have := HSZ2.out; have := h3.1.size; rw [size_set]; omega)
   have y3 := HB3r3.out.cell
   have yf3 := HB3r3.out.frozen
   clear h3 ht3 y0
   clear y2 yf2
   have yl := HB3_3.out.cell
   have yb := HB2_3.out.cell
   have yc := HB2_3.out.frozen
   go_wp2_with fail
   have hF := set7_grown (w3.setCell ⟨w1.heap.size, 6, none⟩ (.slice A3 n3 c3)) w.heap.size (.int .i64 2) (.slice none 0 0) (.slice none 0 0) (.slice none 0 0) (.slice none 0 0) (.slice A2 n2 c2) (.slice A3 n3 c3)
   rw [HRS.out]
   refine bodyPost_ret (v := .agg #[.int .i64 2, .slice none 0 0, .slice none 0 0, .slice none 0 0, .slice none 0 0, .slice A2 n2 c2, .slice A3 n3 c3]) (results_en (g := w.heap.size) (by have := (((((((HB2_3.out.set_ 0 (.int .i64 2)).set_ 1 (.slice none 0 0)).set_ 2 (.slice none 0 0)).set_ 3 (.slice none 0 0)).set_ 4 (.slice none 0 0)).set_ 5 (.slice A2 n2 c2)).set_ 6 (.slice A3 n3 c3)); simpa using this) (by simp)) rfl ⟨⟨none, 0, 0, none, 0, 0, none, 0, 0, none, 0, 0, A2, n2, c2, A3, n3, c3⟩, rfl, ⟨TermR.nilR _ _, RowsR.nilR _ _, RowsR.nilR _ _, CtsQ.nilR _ _, HD2_3.out.keep (nb_end hF (Nat.lt_succ_self _) (Nat.le_succ _)), HD3_3.out.keep (nb_end hF (Nat.lt_succ_self _) (Nat.le_succ _))⟩, ?_⟩
   exact HE3.out.grow hF (Nat.le_refl _) HGL.out HHL.out HRL.out HW0.out
 have d1 : (x1 == 1) = false := by simpa using k1
 have d2 : (x1 == 2) = false := by simpa using k2
 have HR : Hid (rdBody x1 s1 = (⟨x1, [], [], [], [], [], []⟩, ⟨s1.rest, s1.err, s1.odd || s1.err == 0⟩)) := hid (by
  unfold rdBody
  rw [if_neg k1, if_neg k2])
 have HRS := hid (HRES.out.trans HR.out)
 have HER := hid (kerr_any HE1b.out.2)
 have y0 := HE1b.out.2.blk.cell
 have yf := HE1b.out.2.blk.frozen
 obtain ⟨o, ho⟩ : ∃ o, o = s1.odd := ⟨_, rfl⟩
 obtain ⟨z, hz⟩ : ∃ z, z = s1.err := ⟨_, rfl⟩
 rw [← hz] at HER
 rw [← ho] at y0
 clear k1 k2
 have HHB := hid (show w.heap.size ≠ κ.h from by have := HHL.out; omega)
 have HHC := hid (show w1.heap.size ≠ κ.h from by have := HH1.out; omega)
 have HOO : Hid ((s1.odd || s1.err == 0) = (o || z == 0)) := hid (by rw [ho, hz])
 clear ho hz
 rcases (show o = true ∨ (o = false ∧ z = 0) ∨ (o = false ∧ z ≠ 0) from by cases o <;> simp <;> exact Classical.em _) with h1 | ⟨h1, h2⟩ | ⟨h1, h2⟩
 case' inl =>
  subst h1
  obtain ⟨nb, hnb⟩ : ∃ nb, nb = true := ⟨_, rfl⟩
  have HNB : Hid ((s1.odd || s1.err == 0) = true) := hid (by rw [HOO.out]; rfl)
 case' inr.inl =>
  subst h1 h2
  obtain ⟨nb, hnb⟩ : ∃ nb, nb = true := ⟨_, rfl⟩
  have HNB : Hid ((s1.odd || s1.err == 0) = true) := hid (by rw [HOO.out]; rfl)
 case' inr.inr =>
  subst h1
  have dz : (z == 0) = false := by simpa using h2
  obtain ⟨nb, hnb⟩ : ∃ nb, nb = false := ⟨_, rfl⟩
  have HNB : Hid ((s1.odd || s1.err == 0) = false) := hid (by rw [HOO.out, Bool.false_or]; exact dz)
  clear h2
 all_goals
  have HRT := hid HRS.out
  rw [HNB.out] at HRT
  have HE2 := hid (HE1b.out.odd nb)
  have HB3_2 := hid (HB3.out.far (p := ⟨κ.h, 1, none⟩) HHC.out (.bool nb))
  have HB2_2 := hid (HB2_1b.out.far (p := ⟨κ.h, 1, none⟩) HHB.out (.bool nb))
  rw [hnb] at HE2 HB3_2 HB2_2
  clear hnb HOO HNB HRS
  have yl := HB3_2.out.cell
  have yb := HB2_2.out.cell
  have yc := HB2_2.out.frozen
  go_wp2_with fail
  try (refine (HER.out).mono ?_; rintro e w2 ⟨rfl, rfl⟩; go_wp2_with fail)
  have hF := fun W => set7_grown W w.heap.size (.int .i64 x1) (.slice none 0 0) (.slice none 0 0) (.slice none 0 0) (.slice none 0 0) (.slice none 0 0) (.slice none 0 0)
  rw [HRT.out]
  refine bodyPost_ret (v := .agg #[.int .i64 x1, .slice none 0 0, .slice none 0 0, .slice none 0 0, .slice none 0 0, .slice none 0 0, .slice none 0 0]) (results_en (g := w.heap.size) (by have := (((((((HB2_2.out.set_ 0 (.int .i64 x1)).set_ 1 (.slice none 0 0)).set_ 2 (.slice none 0 0)).set_ 3 (.slice none 0 0)).set_ 4 (.slice none 0 0)).set_ 5 (.slice none 0 0)).set_ 6 (.slice none 0 0)); simpa using this) (by simp)) rfl ⟨⟨none, 0, 0, none, 0, 0, none, 0, 0, none, 0, 0, none, 0, 0, none, 0, 0⟩, rfl, ⟨TermR.nilR _ _, RowsR.nilR _ _, RowsR.nilR _ _, CtsQ.nilR _ _, TermR.nilR _ _, TermR.nilR _ _⟩, ?_⟩
  exact HE2.out.grow (hF _) (Nat.le_refl _) HGL.out HHL.out HRL.out HW0.out
theorem manyE_any {w0 w : World} {κ : Rk} {s : Rd} (h : RqS w0 κ s w) :
 Calls Try.prog 34 #[.pointer (some ⟨κ.h, 0, none⟩), .func (.func 35) #[.pointer (some ⟨κ.h, 0, none⟩)] #[]] w (RqEns w0 κ (rdList chkB 255 rdEntry s) w) := by
 have hen : ∀ args w, (callFunc 35 args).run Try.prog w = .ok (.enter 35 args) w := fun _ _ => by kernel_rfl
 obtain ⟨i0, hi, hy0, hy1, hy2⟩ := info_parts infoEn
 have HI0 := hid hi
 have HY0 := hid hy0
 have HY1 := hid hy1
 have HY2 := hid hy2
 have hN := rnum_any h
 have hle := rdNext_le 255 s
 have HRR : Hid (rdList chkB 255 rdEntry s = rdTimes chkB rdEntry (rdNext 255 s).1 (rdNext 255 s).2) := hid rfl
 unfold rdInt at hN
 obtain ⟨q, hq⟩ : ∃ q, q = rdNext 255 s := ⟨_, rfl⟩
 rw [← hq] at hN hle HRR
 obtain ⟨v, s1⟩ := q
 simp only at hN hle HRR
 obtain ⟨res, hres⟩ : ∃ r, r = rdList chkB 255 rdEntry s := ⟨_, rfl⟩
 rw [← hres] at HRR ⊢
 have HN := hid hN
 have HGL := hid h.g_lt
 have HHL := hid h.h_lt
 have HRL := hid h.R_lt
 have HW0 := hid h.size
 clear h hq hres hN hi hy0 hy1 hy2
 go_in
 go_wp2_with fail
 refine (HN.out).mono ?_
 rintro e w1 ⟨rfl, hm1, hs1⟩
 have HM1 := hid hm1
 have HS1 := hid hs1
 clear hm1 hs1
 go_wp2_with fail
 go_loopw [5, 9] (fun ov iv wr => ∃ (i d : Nat) (B : Option Addr) (vs : List Value) (acc : List En) (s2 : Rd), ov = .slice B i d ∧ iv = .int .i64 (i : Int) ∧ i ≤ v ∧ Hid (acc.length = i) ∧ Hid (RqS w0 κ s2 wr) ∧ Hid (MvK κ w wr) ∧ Hid (wr.ownsRow w.heap.size 49 7 (.slice B i d) i (vs)) ∧ Hid (EnL (Aside w.heap.size wr (.slice B i d)) wr acc vs) ∧ Hid (res = rdAcc chkB rdEntry acc (v - i) s2) ∧ Hid (chkB s2 = true → acc = [])) (fun _ iv _ => v - (intOf iv).toNat)
 case atStart => exact ⟨0, 0, none, [], [], s1, rfl, rfl, Nat.zero_le _, hid rfl, HS1, HM1, hid (World.ownsRow_nil _ _ _ _), hid rfl, hid (by rw [HRR.out, Nat.sub_zero, rdAcc_start]), hid (fun _ => rfl)⟩
 case round =>
  obtain ⟨i, d, B, vs, acc, s4, rfl, rfl, hiv, HAL, HS4, HM4, HO4, HR4, HRES, HZ⟩ := hrel
  by_cases hlt : i < v
  rotate_left
  · have hiv2 : i = v := by omega
    have d1 : decide ((i : Int) < (v : Int)) = false := decide_eq_false (by omega)
    have d2 : decide (i < v) = false := decide_eq_false hlt
    have HRES2 : Hid (res = (acc, s4)) := hid (by
     rw [HRES.out, hiv2, Nat.sub_self]
     exact rdAcc_end HZ.out)
    have hi255 : i ≤ 255 := by omega
    clear hiv2
    go_wp2_with fail
    go_ret
    rw [HRES2.out]
    exact ⟨B, i, d, rfl, own_ensQ HO4.out HAL.out (by omega) HR4.out (fun q hq => ⟨hq.1, hq.2.1⟩) (fun g hg => ⟨(ownsRow_block HO4.out hg).1, (ownsRow_block HO4.out hg).2.1⟩), HM4.out, HS4.out⟩
  have d1 : decide ((i : Int) < (v : Int)) = true := decide_eq_true (by omega)
  have d2 : decide (i < v) = true := decide_eq_true hlt
  have hC := rentry_any HS4.out
  obtain ⟨q, hq⟩ : ∃ q, q = rdEntry s4 := ⟨_, rfl⟩
  rw [← hq] at hC
  obtain ⟨x, s5⟩ := q
  have HQ := hid hq.symm
  have HC := hid hC
  clear hq hC
  go_wp2_with fail
  first
   | refine (HC.out).mono ?_
   | (simp only [Array.empty_append, Array.append_empty]; refine (HC.out).mono ?_)
   | (show Calls _ _ #[.pointer (some ⟨κ.h, 0, none⟩)] _ _; refine (HC.out).mono ?_)
  rintro e w5 ⟨v5, rfl, ht5, hm5, hs5⟩
  have HM5x := hid hm5
  have HM5 := hid (HM4.out.trans_ hm5)
  have HS5 := hid hs5
  have HO5 := hid (rows_movedK HO4.out hm5 HGL.out HHL.out)
  have HFA := hid (fresh_aside (w5 := w5) HO4.out HM4.out.size)
  have HR5 := hid ((fun hR h => EnL.keep hR _ _ h) (aside_mv HM5x.out HGL.out HHL.out) HR4.out)
  have HB5b := hid (below_alloc w5 (.cells #[.int .i64 x.kind, .slice v5.As v5.ns v5.cs, .slice v5.Ap v5.np v5.cp, .slice v5.Ai v5.ni v5.ci, .slice v5.Ac v5.nc v5.cc, .slice v5.At v5.nt v5.ct, .slice v5.Ab v5.nb v5.cb] 49))
  have HS5b := hid (HS5.out.below HB5b.out)
  have HO5b := hid (World.ownsRow.alloc HO5.out (.cells #[.int .i64 x.kind, .slice v5.As v5.ns v5.cs, .slice v5.Ap v5.np v5.cp, .slice v5.Ai v5.ni v5.ci, .slice v5.Ac v5.nc v5.cc, .slice v5.At v5.nt v5.ct, .slice v5.Ab v5.nb v5.cb] 49))
  have HT5 := hid ht5
  clear ht5
  have HBD := hid (rbad_any HS5b.out)
  have HSZ := hid HM5.out.size
  have HSZb := hid HB5b.out.size
  clear hm5 hs5
  obtain ⟨bd, hbd⟩ : ∃ b, b = chkB s5 := ⟨_, rfl⟩
  rw [← hbd] at HBD
  cases bd with
  | true =>
   have HRES2 : Hid (res = ([], s5)) := hid (by
    rw [HRES.out, show v - i = (v - (i + 1)) + 1 from by omega, rdAcc_bad (by rw [HQ.out]; exact hbd.symm), HQ.out])
   clear hbd
   go_wp2_with fail
   refine (HBD.out).mono ?_
   rintro e w6 ⟨rfl, rfl⟩
   go_wp2_with fail
   go_ret
   rw [HRES2.out]
   exact ⟨none, 0, 0, rfl, ⟨rfl, by decide, fun h => absurd h (by decide)⟩, HM5.out.trans_ (MvK.below HB5b.out), HS5b.out⟩
  | false =>
   have HRES2 : Hid (res = rdAcc chkB rdEntry (acc ++ [x]) (v - (i + 1)) s5) := hid (by
    rw [HRES.out, show v - i = (v - (i + 1)) + 1 from by omega, rdAcc_step (by rw [HQ.out]; exact hbd.symm), HQ.out])
   have HBD2 := hid hbd
   clear hbd
   go_wp2_with fail
   refine (HBD.out).mono ?_
   rintro e w6 ⟨rfl, rfl⟩
   go_wp2_with (at_builtin; go_loud (refine wpList_oper rfl (oper_append_box (.tmp 15) (.tmp 17) 23 49 rfl w.heap.size i0 _ 7 152 Try.underlying23 HI0.out HY0.out HY1.out HY2.out rfl (by decide) (by decide) (.slice B i d) i (vs) [.int .i64 x.kind, .slice v5.As v5.ns v5.cs, .slice v5.Ap v5.np v5.cp, .slice v5.Ai v5.ni v5.ci, .slice v5.Ac v5.nc v5.cc, .slice v5.At v5.nt v5.ct, .slice v5.Ab v5.nb v5.cb] rfl (by intro u hu; simp at hu; (first | (rcases hu with rfl | rfl | rfl | rfl | rfl | rfl | rfl) | (subst hu)) <;> rfl) (w5.alloc (.cells #[.int .i64 x.kind, .slice v5.As v5.ns v5.cs, .slice v5.Ap v5.np v5.cp, .slice v5.Ai v5.ni v5.ci, .slice v5.Ac v5.nc v5.cc, .slice v5.At v5.nt v5.ct, .slice v5.Ab v5.nb v5.cb] 49)) rfl rfl HO5b.out _ rfl (by simp) (by omega) (Nat.le_trans HSZ.out HSZb.out) ?_)); intro A8 c8 w8 happ; have HAPP := hid happ; clear happ)
   go_roundw
   case rel =>
    have hg8 := HAPP.out.grown
    have hne8 : ∀ b, (Value.slice B i d).ownBlock = some b → w.heap.size ≤ b := fun b e => (ownsRow_block HO5b.out e).1
    have hown8 := HAPP.out.own
    exact ⟨i + 1, c8, A8, vs ++ [.int .i64 x.kind, .slice v5.As v5.ns v5.cs, .slice v5.Ap v5.np v5.cp, .slice v5.Ai v5.ni v5.ci, .slice v5.Ac v5.nc v5.cc, .slice v5.At v5.nt v5.ct, .slice v5.Ab v5.nb v5.cb], acc ++ [x], s5, rfl, by go_num, by omega, hid (by simp [HAL.out]), hid (HS5b.out.grown hg8 hne8 HRL.out HGL.out HHL.out HW0.out), hid (mvK_grown (HM5.out.trans_ (MvK.below HB5b.out)) hg8 hne8), hid (hown8), hid (EnL.add (HT5.out.keep fun q hq => (aside_next HB5b.out HAPP.out q (HFA.out q hq))) _ _ ((fun hR h => EnL.keep hR _ _ h) (aside_next HB5b.out HAPP.out) HR5.out)), HRES2, hid (fun h => by rw [← HBD2.out] at h; cases h)⟩
   case measure => simp [intOf]; omega
end Go.Proofs.Ytplecfbdchmogaa
