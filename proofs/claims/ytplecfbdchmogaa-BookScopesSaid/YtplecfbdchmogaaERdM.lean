/- Programs that are read: rows, orders, pairs (book). -/
import Derived.Test.YtplecfbdchmogaaERdC
namespace Go.Proofs.Ytplecfbdchmogaa
open Go.Lib (hid)
set_option maxHeartbeats 4000000
set_option maxRecDepth 100000
set_option linter.unusedVariables false
set_option linter.unusedSimpArgs false
open Go.RowKit
theorem infoOr : (Try.prog.info? 70).map (fun i => (i.zero, i.size, i.bytes)) = some (some (.agg #[.int .i64 0, .int .i64 0, .int .i64 0]), 3, 24) := by kernel_rfl
theorem infoPr : (Try.prog.info? 76).map (fun i => (i.zero, i.size, i.bytes)) = some (some (.agg #[.int .i64 0, .int .i64 0]), 2, 16) := by kernel_rfl
theorem manyT_any {w0 w : World} {κ : Rk} {s : Rd} (h : RqS w0 κ s w) :
 Calls Try.prog 97 #[.pointer (some ⟨κ.h, 0, none⟩), .func (.func 38) #[.pointer (some ⟨κ.g, 0, none⟩)] #[]] w (RqRows w0 κ (rdList chkB 255 rdRow s) w) := by
 have hen : ∀ args w, (callFunc 38 args).run Try.prog w = .ok (.enter 38 args) w := fun _ _ => by kernel_rfl
 obtain ⟨i0, hi, hy0, hy1, hy2⟩ := info_parts infoR
 have HI0 := hid hi
 have HY0 := hid hy0
 have HY1 := hid hy1
 have HY2 := hid hy2
 have hN := rnum_any h
 have hle := rdNext_le 255 s
 have HRR : Hid (rdList chkB 255 rdRow s = rdTimes chkB rdRow (rdNext 255 s).1 (rdNext 255 s).2) := hid rfl
 unfold rdInt at hN
 obtain ⟨q, hq⟩ : ∃ q, q = rdNext 255 s := ⟨_, rfl⟩
 rw [← hq] at hN hle HRR
 obtain ⟨v, s1⟩ := q
 simp only at hN hle HRR
 obtain ⟨res, hres⟩ : ∃ r, r = rdList chkB 255 rdRow s := ⟨_, rfl⟩
 rw [← hres] at HRR ⊢
 have HN := hid hN
 have HGL := hid h.g_lt
 have HHL := hid h.h_lt
 have HRL := hid h.R_lt
 have HW0 := hid h.size
 clear h hq hres hN hi hy0 hy1 hy2
 go_in
 go_wp2_with fail
 refine (HN.out).mono ?_
 rintro e w1 ⟨rfl, hm1, hs1⟩
 have HM1 := hid hm1
 have HS1 := hid hs1
 clear hm1 hs1
 go_wp2_with fail
 go_loopw [5, 9] (fun ov iv wr => ∃ (i d : Nat) (B : Option Addr) (vs : List Value) (acc : List (List Nd)) (s2 : Rd), ov = .slice B i d ∧ iv = .int .i64 (i : Int) ∧ i ≤ v ∧ Hid (acc.length = i) ∧ Hid (RqS w0 κ s2 wr) ∧ Hid (MvK κ w wr) ∧ Hid (wr.ownsRow w.heap.size 28 1 (.slice B i d) i (vs)) ∧ Hid (RowsC (Aside w.heap.size wr (.slice B i d)) wr vs acc) ∧ Hid (res = rdAcc chkB rdRow acc (v - i) s2) ∧ Hid (chkB s2 = true → acc = [])) (fun _ iv _ => v - (intOf iv).toNat)
 case atStart => exact ⟨0, 0, none, [], [], s1, rfl, rfl, Nat.zero_le _, hid rfl, HS1, HM1, hid (World.ownsRow_nil _ _ _ _), hid trivial, hid (by rw [HRR.out, Nat.sub_zero, rdAcc_start]), hid (fun _ => rfl)⟩
 case round =>
  obtain ⟨i, d, B, vs, acc, s4, rfl, rfl, hiv, HAL, HS4, HM4, HO4, HR4, HRES, HZ⟩ := hrel
  by_cases hlt : i < v
  rotate_left
  · have hiv2 : i = v := by omega
    have d1 : decide ((i : Int) < (v : Int)) = false := decide_eq_false (by omega)
    have d2 : decide (i < v) = false := decide_eq_false hlt
    have HRES2 : Hid (res = (acc, s4)) := hid (by
     rw [HRES.out, hiv2, Nat.sub_self]
     exact rdAcc_end HZ.out)
    have hi255 : i ≤ 255 := by omega
    clear hiv2
    go_wp2_with fail
    go_ret
    rw [HRES2.out]
    exact ⟨B, i, d, rfl, own_rowsQ HO4.out HAL.out.symm (by omega) HR4.out (fun q hq => ⟨hq.1, hq.2.1⟩) (fun g hg => ⟨(ownsRow_block HO4.out hg).1, (ownsRow_block HO4.out hg).2.1⟩), HM4.out, HS4.out⟩
  have d1 : decide ((i : Int) < (v : Int)) = true := decide_eq_true (by omega)
  have d2 : decide (i < v) = true := decide_eq_true hlt
  have hC := krow_any HS4.out
  obtain ⟨q, hq⟩ : ∃ q, q = rdRow s4 := ⟨_, rfl⟩
  rw [← hq] at hC
  obtain ⟨x, s5⟩ := q
  have HQ := hid hq.symm
  have HC := hid hC
  clear hq hC
  go_wp2_with fail
  first
   | refine (HC.out).mono ?_
   | (simp only [Array.empty_append, Array.append_empty]; refine (HC.out).mono ?_)
   | (show Calls _ _ #[.pointer (some ⟨κ.g, 0, none⟩)] _ _; refine (HC.out).mono ?_)
  rintro e w5 ⟨A5, n5, c5, rfl, ht5, hm5, hs5⟩
  have HM5x := hid hm5
  have HM5 := hid (HM4.out.trans_ hm5)
  have HS5 := hid hs5
  have HO5 := hid (rows_movedK HO4.out hm5 HGL.out HHL.out)
  have HFA := hid (fresh_aside (w5 := w5) HO4.out HM4.out.size)
  have HR5 := hid (RowsC.keep (aside_mv HM5x.out HGL.out HHL.out) HR4.out)
  have HB5b := hid (Below.refl w5.heap.size w5)
  have HS5b := HS5
  have HO5b := HO5
  have HT5 := hid ht5
  clear ht5
  have HBD := hid (rbad_any HS5b.out)
  have HSZ := hid HM5.out.size
  have HSZb := hid HB5b.out.size
  clear hm5 hs5
  obtain ⟨bd, hbd⟩ : ∃ b, b = chkB s5 := ⟨_, rfl⟩
  rw [← hbd] at HBD
  cases bd with
  | true =>
   have HRES2 : Hid (res = ([], s5)) := hid (by
    rw [HRES.out, show v - i = (v - (i + 1)) + 1 from by omega, rdAcc_bad (by rw [HQ.out]; exact hbd.symm), HQ.out])
   clear hbd
   go_wp2_with fail
   refine (HBD.out).mono ?_
   rintro e w6 ⟨rfl, rfl⟩
   go_wp2_with fail
   go_ret
   rw [HRES2.out]
   exact ⟨none, 0, 0, rfl, ⟨rfl, by decide, fun h => absurd h (by decide)⟩, HM5.out.trans_ (MvK.below HB5b.out), HS5b.out⟩
  | false =>
   have HRES2 : Hid (res = rdAcc chkB rdRow (acc ++ [x]) (v - (i + 1)) s5) := hid (by
    rw [HRES.out, show v - i = (v - (i + 1)) + 1 from by omega, rdAcc_step (by rw [HQ.out]; exact hbd.symm), HQ.out])
   have HBD2 := hid hbd
   clear hbd
   go_wp2_with fail
   refine (HBD.out).mono ?_
   rintro e w6 ⟨rfl, rfl⟩
   go_wp2_with (at_builtin; go_loud (refine wpList_oper rfl (oper_append_box (.tmp 15) (.tmp 17) 46 28 rfl w.heap.size i0 _ 1 24 Try.underlying46 HI0.out HY0.out HY1.out HY2.out rfl (by decide) (by decide) (.slice B i d) i (vs) [.slice A5 n5 c5] rfl (by intro u hu; simp at hu; (first | (rcases hu with rfl) | (subst hu)) <;> rfl) w5 rfl rfl HO5b.out _ rfl (by simp) (by omega) (Nat.le_trans HSZ.out HSZb.out) ?_)); intro A8 c8 w8 happ; have HAPP := hid happ; clear happ)
   go_roundw
   case rel =>
    have hg8 := HAPP.out.grown
    have hne8 : ∀ b, (Value.slice B i d).ownBlock = some b → w.heap.size ≤ b := fun b e => (ownsRow_block HO5b.out e).1
    have hown8 := HAPP.out.own
    exact ⟨i + 1, c8, A8, vs ++ [.slice A5 n5 c5], acc ++ [x], s5, rfl, by go_num, by omega, hid (by simp [HAL.out]), hid (HS5b.out.grown hg8 hne8 HRL.out HGL.out HHL.out HW0.out), hid (mvK_grown (HM5.out.trans_ (MvK.below HB5b.out)) hg8 hne8), hid (hown8), hid (RowsC.add (HT5.out.keep fun q hq => (aside_next HB5b.out HAPP.out q (HFA.out q hq))) (RowsC.keep (aside_next HB5b.out HAPP.out) HR5.out)), HRES2, hid (fun h => by rw [← HBD2.out] at h; cases h)⟩
   case measure => simp [intOf]; omega
theorem rrows_any {w0 w : World} {κ : Rk} {s : Rd} (h : RqS w0 κ s w) : Calls Try.prog 69 #[.pointer (some ⟨κ.h, 0, none⟩)] w (RqRows w0 κ (rdRows s) w) := by
 have hmf : ∀ (fn : Fn) (first cap : Array Value) (w : World), (Instr.makeFunc fn first cap).run Try.prog w = .ok (.func fn first cap) w := fun _ _ _ _ => rfl
 have HC := hid (manyT_any h)
 have z0 := h.blk.cell 0
 have HE : Hid (rdRows s = rdList chkB 255 rdRow s) := hid rfl
 rw [HE.out]
 obtain ⟨r, hr⟩ : ∃ r, r = rdList chkB 255 rdRow s := ⟨_, rfl⟩
 rw [← hr] at HC ⊢
 clear h hr HE
 go_in
 go_wp2_with fail
 refine (HC.out).mono ?_
 rintro e w1 ⟨A1, n1, c1, rfl, h1, h2⟩
 have H1 := hid h1
 have H2 := hid h2
 clear h1 h2
 go_wp2_with fail
 go_ret
 exact ⟨A1, n1, c1, rfl, H1.out, H2.out⟩
theorem results_ord {w : World} {g : Nat} {c0 c1 c2 : Value} {tmps : Array Value} (h : Blk w g 70 #[c0, c1, c2]) (ht : tmps.getD 2 undef = .pointer (some ⟨g, 0, none⟩)) :
 (results Try.f33 tmps).run Try.prog w = .ok (.agg #[c0, c1, c2]) w := by
 have hc := h.cell
 have ht' : tmps[2]?.getD undef = .pointer (some ⟨g, 0, none⟩) := by rw [← ht]; simp
 simp [results, Try.results33, go_sem, ht', hc]
theorem rorder_any {w0 w : World} {κ : Rk} {s : Rd} (h : RqS w0 κ s w) : Calls Try.prog 33 #[.pointer (some ⟨κ.h, 0, none⟩)] w (RqOrd w0 κ (rdOrder s) w) := by
 have hb0 := below_alloc w (.cells #[.int .i64 0, .int .i64 0, .int .i64 0] 70)
 have HS0 := hid (h.below hb0)
 have HE0 := hid ((RqE.refl h).below hb0)
 have HB2 := hid (Blk.new w 70 #[.int .i64 0, .int .i64 0, .int .i64 0])
 have HGL := hid h.g_lt
 have HHL := hid h.h_lt
 have HRL := hid h.R_lt
 have HW0 := hid h.size
 have hs0 : w.heap.size < (w.alloc (.cells #[.int .i64 0, .int .i64 0, .int .i64 0] 70)).heap.size := by simp
 have hn1 := rnum_any HS0.out
 obtain ⟨q1, hq1⟩ : ∃ q, q = rdInt 255 s := ⟨_, rfl⟩
 obtain ⟨x1, s1⟩ := q1
 rw [← hq1] at hn1
 obtain ⟨q2, hq2⟩ : ∃ q, q = rdSigned s1 := ⟨_, rfl⟩
 obtain ⟨x2, s2⟩ := q2
 obtain ⟨q3, hq3⟩ : ∃ q, q = rdInt 255 s2 := ⟨_, rfl⟩
 obtain ⟨x3, s3⟩ := q3
 have HE : Hid (rdOrder s = (⟨x1, x2, x3⟩, s3)) := hid (by simp only [rdOrder, Rdg.seq, Rdg.pure, ← hq1, ← hq2, ← hq3])
 have HQ2 := hid hq2
 have HQ3 := hid hq3
 have HN1 := hid hn1
 rw [HE.out]
 clear h hq1 hq2 hq3 hn1 hb0 hs0
 go_in
 go_wp2_with fail
 refine (HN1.out).mono ?_
 rintro e w1 ⟨rfl, h1⟩
 simp only at h1 ⊢
 have HE1 := hid (HE0.out.call h1)
 have HB2_1 := hid (HB2.out.mvk h1.1 HGL.out HHL.out)
 have hs1 := h1.1.size
 have hbb := below_alloc w1 (.cells #[.int .i64 x1, .int .i64 0, .int .i64 0] 70)
 have HE1b := hid (HE1.out.below hbb)
 have HB3 := hid (Blk.new w1 70 #[.int .i64 x1, .int .i64 0, .int .i64 0])
 have HB2_1b := hid ((HB2_1).out.below hbb HB2_1.out.lt)
 have HN2 := hid (ksigned_any HE1b.out.2)
 rw [← HQ2.out] at HN2
 have HG1 := hid (show κ.g < w1.heap.size from Nat.lt_of_lt_of_le (show κ.g < w.heap.size + 1 from by have := HGL.out; omega) (by simpa using hs1))
 have HH1 := hid (show κ.h < w1.heap.size from Nat.lt_of_lt_of_le (show κ.h < w.heap.size + 1 from by have := HHL.out; omega) (by simpa using hs1))
 have HLT := hid (show w.heap.size < w1.heap.size from Nat.lt_of_lt_of_le (Nat.lt_succ_self _) (by simpa using hs1))
 have y0 := HE1b.out.2.blk.cell 0
 clear h1 hbb hs1
 go_wp2_with fail
 refine (HN2.out).mono ?_
 rintro e w2 ⟨rfl, h2⟩
 simp only at h2 ⊢
 have HE2 := hid ((HE1b.out.call h2).set (b := w1.heap.size) (Nat.le_of_lt HLT.out) HGL.out HHL.out HRL.out HW0.out 1 (.int .i64 x2))
 have HB3_2 := hid (HB3.out.mvk h2.1 HG1.out HH1.out)
 have HB2_2 := hid ((HB2_1b.out.mvk h2.1 HGL.out HHL.out).far (p := ⟨w1.heap.size, 1, none⟩) (by have := HLT.out; simp only; omega) (.int .i64 x2))
 have HB3_2s := hid (HB3_2.out.set_ 1 (.int .i64 x2))
 have y1 := HB3_2.out.cell
 have y2 := HB3_2.out.frozen
 have HN3 := hid (rnum_any HE2.out.2)
 rw [← HQ3.out] at HN3
 clear h2 y0
 go_wp2_with fail
 refine (HN3.out).mono ?_
 rintro e w3 ⟨rfl, h3⟩
 simp only at h3 ⊢
 have HE3 := hid ((HE2.out.call h3).set (b := w1.heap.size) (Nat.le_of_lt HLT.out) HGL.out HHL.out HRL.out HW0.out 2 (.int .i64 x3))
 have HB3_3 := hid (HB3_2s.out.mvk h3.1 HG1.out HH1.out)
 have HB3_3s := hid (HB3_3.out.set_ 2 (.int .i64 x3))
 have HB2_3 := hid ((HB2_2.out.mvk h3.1 HGL.out HHL.out).far (p := ⟨w1.heap.size, 2, none⟩) (by have := HLT.out; simp only; omega) (.int .i64 x3))
 clear y1 y2
 have y1 := HB3_3.out.cell
 have y2 := HB3_3.out.frozen
 have y3 := HB3_3s.out.cell
 have y4 := HB2_3.out.cell
 have y5 := HB2_3.out.frozen
 clear h3
 go_wp2_with fail
 refine bodyPost_ret (v := .agg #[.int .i64 x1, .int .i64 x2, .int .i64 x3]) (results_ord (g := w.heap.size) (by have := ((HB2_3.out.set_ 0 (.int .i64 x1)).set_ 1 (.int .i64 x2)).set_ 2 (.int .i64 x3); simpa using this) (by simp)) rfl ⟨rfl, ?_⟩
 exact ((HE3.out.set (Nat.le_refl _) HGL.out HHL.out HRL.out HW0.out 0 (.int .i64 x1)).set (Nat.le_refl _) HGL.out HHL.out HRL.out HW0.out 1 (.int .i64 x2)).set (Nat.le_refl _) HGL.out HHL.out HRL.out HW0.out 2 (.int .i64 x3)
theorem manyO_any {w0 w : World} {κ : Rk} {s : Rd} (h : RqS w0 κ s w) :
 Calls Try.prog 32 #[.pointer (some ⟨κ.h, 0, none⟩), .func (.func 33) #[.pointer (some ⟨κ.h, 0, none⟩)] #[]] w (RqT w0 κ (rdList chkB 255 rdOrder s) w) := by
 have hen : ∀ args w, (callFunc 33 args).run Try.prog w = .ok (.enter 33 args) w := fun _ _ => by kernel_rfl
 obtain ⟨i0, hi, hy0, hy1, hy2⟩ := info_parts infoOr
 have HI0 := hid hi
 have HY0 := hid hy0
 have HY1 := hid hy1
 have HY2 := hid hy2
 have hN := rnum_any h
 have hle := rdNext_le 255 s
 have HRR : Hid (rdList chkB 255 rdOrder s = rdTimes chkB rdOrder (rdNext 255 s).1 (rdNext 255 s).2) := hid rfl
 unfold rdInt at hN
 obtain ⟨q, hq⟩ : ∃ q, q = rdNext 255 s := ⟨_, rfl⟩
 rw [← hq] at hN hle HRR
 obtain ⟨v, s1⟩ := q
 simp only at hN hle HRR
 obtain ⟨res, hres⟩ : ∃ r, r = rdList chkB 255 rdOrder s := ⟨_, rfl⟩
 rw [← hres] at HRR ⊢
 have HN := hid hN
 have HGL := hid h.g_lt
 have HHL := hid h.h_lt
 have HRL := hid h.R_lt
 have HW0 := hid h.size
 clear h hq hres hN hi hy0 hy1 hy2
 go_in
 go_wp2_with fail
 refine (HN.out).mono ?_
 rintro e w1 ⟨rfl, hm1, hs1⟩
 have HM1 := hid hm1
 have HS1 := hid hs1
 clear hm1 hs1
 go_wp2_with fail
 go_loopw [5, 9] (fun ov iv wr => ∃ (i d : Nat) (B : Option Addr) (acc : List Nd) (s2 : Rd), ov = .slice B i d ∧ iv = .int .i64 (i : Int) ∧ i ≤ v ∧ Hid (acc.length = i) ∧ Hid (RqS w0 κ s2 wr) ∧ Hid (MvK κ w wr) ∧ Hid (wr.ownsRow w.heap.size 70 3 (.slice B i d) i (flat acc)) ∧ Hid (res = rdAcc chkB rdOrder acc (v - i) s2) ∧ Hid (chkB s2 = true → acc = [])) (fun _ iv _ => v - (intOf iv).toNat)
 case atStart => exact ⟨0, 0, none, [], s1, rfl, rfl, Nat.zero_le _, hid rfl, HS1, HM1, hid (World.ownsRow_nil _ _ _ _), hid (by rw [HRR.out, Nat.sub_zero, rdAcc_start]), hid (fun _ => rfl)⟩
 case round =>
  obtain ⟨i, d, B, acc, s4, rfl, rfl, hiv, HAL, HS4, HM4, HO4, HRES, HZ⟩ := hrel
  by_cases hlt : i < v
  rotate_left
  · have hiv2 : i = v := by omega
    have d1 : decide ((i : Int) < (v : Int)) = false := decide_eq_false (by omega)
    have d2 : decide (i < v) = false := decide_eq_false hlt
    have HRES2 : Hid (res = (acc, s4)) := hid (by
     rw [HRES.out, hiv2, Nat.sub_self]
     exact rdAcc_end HZ.out)
    have hi255 : i ≤ 255 := by omega
    clear hiv2
    go_wp2_with fail
    go_ret
    rw [HRES2.out]
    exact ⟨B, i, d, rfl, own_ord HO4.out HAL.out (by omega) (fun g hg => ⟨(ownsRow_block HO4.out hg).1, (ownsRow_block HO4.out hg).2.1⟩), HM4.out, HS4.out⟩
  have d1 : decide ((i : Int) < (v : Int)) = true := decide_eq_true (by omega)
  have d2 : decide (i < v) = true := decide_eq_true hlt
  have hC := rorder_any HS4.out
  obtain ⟨q, hq⟩ : ∃ q, q = rdOrder s4 := ⟨_, rfl⟩
  rw [← hq] at hC
  obtain ⟨x, s5⟩ := q
  have HQ := hid hq.symm
  have HC := hid hC
  clear hq hC
  go_wp2_with fail
  first
   | refine (HC.out).mono ?_
   | (simp only [Array.empty_append, Array.append_empty]; refine (HC.out).mono ?_)
   | (show Calls _ _ #[.pointer (some ⟨κ.h, 0, none⟩)] _ _; refine (HC.out).mono ?_)
  rintro e w5 ⟨rfl, hm5, hs5⟩
  have HM5x := hid hm5
  have HM5 := hid (HM4.out.trans_ hm5)
  have HS5 := hid hs5
  have HO5 := hid (rows_movedK HO4.out hm5 HGL.out HHL.out)
  have HB5b := hid (below_alloc w5 (.cells #[.int .i64 x.op, .int .i64 x.a, .int .i64 x.b] 70))
  have HS5b := hid (HS5.out.below HB5b.out)
  have HO5b := hid (World.ownsRow.alloc HO5.out (.cells #[.int .i64 x.op, .int .i64 x.a, .int .i64 x.b] 70))
  have HBD := hid (rbad_any HS5b.out)
  have HSZ := hid HM5.out.size
  have HSZb := hid HB5b.out.size
  clear hm5 hs5
  obtain ⟨bd, hbd⟩ : ∃ b, b = chkB s5 := ⟨_, rfl⟩
  rw [← hbd] at HBD
  cases bd with
  | true =>
   have HRES2 : Hid (res = ([], s5)) := hid (by
    rw [HRES.out, show v - i = (v - (i + 1)) + 1 from by omega, rdAcc_bad (by rw [HQ.out]; exact hbd.symm), HQ.out])
   clear hbd
   go_wp2_with fail
   refine (HBD.out).mono ?_
   rintro e w6 ⟨rfl, rfl⟩
   go_wp2_with fail
   go_ret
   rw [HRES2.out]
   exact ⟨none, 0, 0, rfl, ⟨rfl, Nat.le_refl _, Nat.zero_le _, fun _ => rfl, fun h => absurd h (by decide)⟩, HM5.out.trans_ (MvK.below HB5b.out), HS5b.out⟩
  | false =>
   have HRES2 : Hid (res = rdAcc chkB rdOrder (acc ++ [x]) (v - (i + 1)) s5) := hid (by
    rw [HRES.out, show v - i = (v - (i + 1)) + 1 from by omega, rdAcc_step (by rw [HQ.out]; exact hbd.symm), HQ.out])
   have HBD2 := hid hbd
   clear hbd
   go_wp2_with fail
   refine (HBD.out).mono ?_
   rintro e w6 ⟨rfl, rfl⟩
   go_wp2_with (at_builtin; go_loud (refine wpList_oper rfl (oper_append_box (.tmp 15) (.tmp 17) 22 70 rfl w.heap.size i0 _ 3 24 Try.underlying22 HI0.out HY0.out HY1.out HY2.out rfl (by decide) (by decide) (.slice B i d) i (flat acc) [.int .i64 x.op, .int .i64 x.a, .int .i64 x.b] rfl (by intro u hu; simp at hu; (first | (rcases hu with rfl | rfl | rfl) | (subst hu)) <;> rfl) (w5.alloc (.cells #[.int .i64 x.op, .int .i64 x.a, .int .i64 x.b] 70)) rfl rfl HO5b.out _ rfl (by simp) (by omega) (Nat.le_trans HSZ.out HSZb.out) ?_)); intro A8 c8 w8 happ; have HAPP := hid happ; clear happ)
   go_roundw
   case rel =>
    have hg8 := HAPP.out.grown
    have hne8 : ∀ b, (Value.slice B i d).ownBlock = some b → w.heap.size ≤ b := fun b e => (ownsRow_block HO5b.out e).1
    have hown8 := HAPP.out.own
    exact ⟨i + 1, c8, A8, acc ++ [x], s5, rfl, by go_num, by omega, hid (by simp [HAL.out]), hid (HS5b.out.grown hg8 hne8 HRL.out HGL.out HHL.out HW0.out), hid (mvK_grown (HM5.out.trans_ (MvK.below HB5b.out)) hg8 hne8), hid (by have h := hown8; rw [flat_append]; simpa [flat, cellsN] using h), HRES2, hid (fun h => by rw [← HBD2.out] at h; cases h)⟩
   case measure => simp [intOf]; omega
theorem results_prm {w : World} {g : Nat} {c0 c1 : Value} {tmps : Array Value} (h : Blk w g 76 #[c0, c1]) (ht : tmps.getD 2 undef = .pointer (some ⟨g, 0, none⟩)) :
 (results Try.f37 tmps).run Try.prog w = .ok (.agg #[c0, c1]) w := by
 have hc := h.cell
 have ht' : tmps[2]?.getD undef = .pointer (some ⟨g, 0, none⟩) := by rw [← ht]; simp
 simp [results, Try.results37, go_sem, ht', hc]
theorem rprim_any {w0 w : World} {κ : Rk} {s : Rd} (h : RqS w0 κ s w) : Calls Try.prog 37 #[.pointer (some ⟨κ.h, 0, none⟩)] w (RqPrm w0 κ (rdPrim s) w) := by
 have hb0 := below_alloc w (.cells #[.int .i64 0, .int .i64 0] 76)
 have HS0 := hid (h.below hb0)
 have HE0 := hid ((RqE.refl h).below hb0)
 have HB2 := hid (Blk.new w 76 #[.int .i64 0, .int .i64 0])
 have HGL := hid h.g_lt
 have HHL := hid h.h_lt
 have HRL := hid h.R_lt
 have HW0 := hid h.size
 have hs0 : w.heap.size < (w.alloc (.cells #[.int .i64 0, .int .i64 0] 76)).heap.size := by simp
 have hn1 := rnum_any HS0.out
 obtain ⟨q1, hq1⟩ : ∃ q, q = rdInt 255 s := ⟨_, rfl⟩
 obtain ⟨x1, s1⟩ := q1
 rw [← hq1] at hn1
 obtain ⟨q2, hq2⟩ : ∃ q, q = rdInt 255 s1 := ⟨_, rfl⟩
 obtain ⟨x2, s2⟩ := q2
 have HE : Hid (rdPrim s = ((x1, x2), s2)) := hid (by simp only [rdPrim, Rdg.seq, Rdg.pure, ← hq1, ← hq2])
 have HQ2 := hid hq2
 have HN1 := hid hn1
 rw [HE.out]
 clear h hq1 hq2 hn1 hb0 hs0
 go_in
 go_wp2_with fail
 refine (HN1.out).mono ?_
 rintro e w1 ⟨rfl, h1⟩
 simp only at h1 ⊢
 have HE1 := hid (HE0.out.call h1)
 have HB2_1 := hid (HB2.out.mvk h1.1 HGL.out HHL.out)
 have hs1 := h1.1.size
 have hbb := below_alloc w1 (.cells #[.int .i64 x1, .int .i64 0] 76)
 have HE1b := hid (HE1.out.below hbb)
 have HB3 := hid (Blk.new w1 76 #[.int .i64 x1, .int .i64 0])
 have HB2_1b := hid ((HB2_1).out.below hbb HB2_1.out.lt)
 have HN2 := hid (rnum_any HE1b.out.2)
 rw [← HQ2.out] at HN2
 have HG1 := hid (show κ.g < w1.heap.size from Nat.lt_of_lt_of_le (show κ.g < w.heap.size + 1 from by have := HGL.out; omega) (by simpa using hs1))
 have HH1 := hid (show κ.h < w1.heap.size from Nat.lt_of_lt_of_le (show κ.h < w.heap.size + 1 from by have := HHL.out; omega) (by simpa using hs1))
 have HLT := hid (show w.heap.size < w1.heap.size from Nat.lt_of_lt_of_le (Nat.lt_succ_self _) (by simpa using hs1))
 clear h1 hbb hs1
 go_wp2_with fail
 refine (HN2.out).mono ?_
 rintro e w2 ⟨rfl, h2⟩
 simp only at h2 ⊢
 have HE2 := hid ((HE1b.out.call h2).set (b := w1.heap.size) (Nat.le_of_lt HLT.out) HGL.out HHL.out HRL.out HW0.out 1 (.int .i64 x2))
 have HB3_2 := hid (HB3.out.mvk h2.1 HG1.out HH1.out)
 have HB2_2 := hid ((HB2_1b.out.mvk h2.1 HGL.out HHL.out).far (p := ⟨w1.heap.size, 1, none⟩) (by have := HLT.out; simp only; omega) (.int .i64 x2))
 have HB3_2s := hid (HB3_2.out.set_ 1 (.int .i64 x2))
 have y1 := HB3_2.out.cell
 have y2 := HB3_2.out.frozen
 have y3 := HB3_2s.out.cell
 have y4 := HB2_2.out.cell
 have y5 := HB2_2.out.frozen
 clear h2
 go_wp2_with fail
 refine bodyPost_ret (v := .agg #[.int .i64 x1, .int .i64 x2]) (results_prm (g := w.heap.size) (by have := (HB2_2.out.set_ 0 (.int .i64 x1)).set_ 1 (.int .i64 x2); simpa using this) (by simp)) rfl ⟨rfl, ?_⟩
 exact (HE2.out.set (Nat.le_refl _) HGL.out HHL.out HRL.out HW0.out 0 (.int .i64 x1)).set (Nat.le_refl _) HGL.out HHL.out HRL.out HW0.out 1 (.int .i64 x2)
theorem manyP_any {w0 w : World} {κ : Rk} {s : Rd} (h : RqS w0 κ s w) :
 Calls Try.prog 36 #[.pointer (some ⟨κ.h, 0, none⟩), .func (.func 37) #[.pointer (some ⟨κ.h, 0, none⟩)] #[]] w (RqPrs w0 κ (rdList chkB 255 rdPrim s) w) := by
 have hen : ∀ args w, (callFunc 37 args).run Try.prog w = .ok (.enter 37 args) w := fun _ _ => by kernel_rfl
 obtain ⟨i0, hi, hy0, hy1, hy2⟩ := info_parts infoPr
 have HI0 := hid hi
 have HY0 := hid hy0
 have HY1 := hid hy1
 have HY2 := hid hy2
 have hN := rnum_any h
 have hle := rdNext_le 255 s
 have HRR : Hid (rdList chkB 255 rdPrim s = rdTimes chkB rdPrim (rdNext 255 s).1 (rdNext 255 s).2) := hid rfl
 unfold rdInt at hN
 obtain ⟨q, hq⟩ : ∃ q, q = rdNext 255 s := ⟨_, rfl⟩
 rw [← hq] at hN hle HRR
 obtain ⟨v, s1⟩ := q
 simp only at hN hle HRR
 obtain ⟨res, hres⟩ : ∃ r, r = rdList chkB 255 rdPrim s := ⟨_, rfl⟩
 rw [← hres] at HRR ⊢
 have HN := hid hN
 have HGL := hid h.g_lt
 have HHL := hid h.h_lt
 have HRL := hid h.R_lt
 have HW0 := hid h.size
 clear h hq hres hN hi hy0 hy1 hy2
 go_in
 go_wp2_with fail
 refine (HN.out).mono ?_
 rintro e w1 ⟨rfl, hm1, hs1⟩
 have HM1 := hid hm1
 have HS1 := hid hs1
 clear hm1 hs1
 go_wp2_with fail
 go_loopw [5, 9] (fun ov iv wr => ∃ (i d : Nat) (B : Option Addr) (acc : List (Int × Int)) (s2 : Rd), ov = .slice B i d ∧ iv = .int .i64 (i : Int) ∧ i ≤ v ∧ Hid (acc.length = i) ∧ Hid (RqS w0 κ s2 wr) ∧ Hid (MvK κ w wr) ∧ Hid (wr.ownsRow w.heap.size 76 2 (.slice B i d) i (flatP acc)) ∧ Hid (res = rdAcc chkB rdPrim acc (v - i) s2) ∧ Hid (chkB s2 = true → acc = [])) (fun _ iv _ => v - (intOf iv).toNat)
 case atStart => exact ⟨0, 0, none, [], s1, rfl, rfl, Nat.zero_le _, hid rfl, HS1, HM1, hid (World.ownsRow_nil _ _ _ _), hid (by rw [HRR.out, Nat.sub_zero, rdAcc_start]), hid (fun _ => rfl)⟩
 case round =>
  obtain ⟨i, d, B, acc, s4, rfl, rfl, hiv, HAL, HS4, HM4, HO4, HRES, HZ⟩ := hrel
  by_cases hlt : i < v
  rotate_left
  · have hiv2 : i = v := by omega
    have d1 : decide ((i : Int) < (v : Int)) = false := decide_eq_false (by omega)
    have d2 : decide (i < v) = false := decide_eq_false hlt
    have HRES2 : Hid (res = (acc, s4)) := hid (by
     rw [HRES.out, hiv2, Nat.sub_self]
     exact rdAcc_end HZ.out)
    have hi255 : i ≤ 255 := by omega
    clear hiv2
    go_wp2_with fail
    go_ret
    rw [HRES2.out]
    exact ⟨B, i, d, rfl, own_prsQ HO4.out HAL.out (by omega) (fun g hg => ⟨(ownsRow_block HO4.out hg).1, (ownsRow_block HO4.out hg).2.1⟩), own_nulQ HO4.out, HM4.out, HS4.out⟩
  have d1 : decide ((i : Int) < (v : Int)) = true := decide_eq_true (by omega)
  have d2 : decide (i < v) = true := decide_eq_true hlt
  have hC := rprim_any HS4.out
  obtain ⟨q, hq⟩ : ∃ q, q = rdPrim s4 := ⟨_, rfl⟩
  rw [← hq] at hC
  obtain ⟨x, s5⟩ := q
  have HQ := hid hq.symm
  have HC := hid hC
  clear hq hC
  go_wp2_with fail
  first
   | refine (HC.out).mono ?_
   | (simp only [Array.empty_append, Array.append_empty]; refine (HC.out).mono ?_)
   | (show Calls _ _ #[.pointer (some ⟨κ.h, 0, none⟩)] _ _; refine (HC.out).mono ?_)
  rintro e w5 ⟨rfl, hm5, hs5⟩
  have HM5x := hid hm5
  have HM5 := hid (HM4.out.trans_ hm5)
  have HS5 := hid hs5
  have HO5 := hid (rows_movedK HO4.out hm5 HGL.out HHL.out)
  have HB5b := hid (below_alloc w5 (.cells #[.int .i64 x.1, .int .i64 x.2] 76))
  have HS5b := hid (HS5.out.below HB5b.out)
  have HO5b := hid (World.ownsRow.alloc HO5.out (.cells #[.int .i64 x.1, .int .i64 x.2] 76))
  have HBD := hid (rbad_any HS5b.out)
  have HSZ := hid HM5.out.size
  have HSZb := hid HB5b.out.size
  clear hm5 hs5
  obtain ⟨bd, hbd⟩ : ∃ b, b = chkB s5 := ⟨_, rfl⟩
  rw [← hbd] at HBD
  cases bd with
  | true =>
   have HRES2 : Hid (res = ([], s5)) := hid (by
    rw [HRES.out, show v - i = (v - (i + 1)) + 1 from by omega, rdAcc_bad (by rw [HQ.out]; exact hbd.symm), HQ.out])
   clear hbd
   go_wp2_with fail
   refine (HBD.out).mono ?_
   rintro e w6 ⟨rfl, rfl⟩
   go_wp2_with fail
   go_ret
   rw [HRES2.out]
   exact ⟨none, 0, 0, rfl, ⟨rfl, by decide, fun h => absurd h (by decide)⟩, fun _ => rfl, HM5.out.trans_ (MvK.below HB5b.out), HS5b.out⟩
  | false =>
   have HRES2 : Hid (res = rdAcc chkB rdPrim (acc ++ [x]) (v - (i + 1)) s5) := hid (by
    rw [HRES.out, show v - i = (v - (i + 1)) + 1 from by omega, rdAcc_step (by rw [HQ.out]; exact hbd.symm), HQ.out])
   have HBD2 := hid hbd
   clear hbd
   go_wp2_with fail
   refine (HBD.out).mono ?_
   rintro e w6 ⟨rfl, rfl⟩
   go_wp2_with (at_builtin; go_loud (refine wpList_oper rfl (oper_append_box (.tmp 15) (.tmp 17) 24 76 rfl w.heap.size i0 _ 2 16 Try.underlying24 HI0.out HY0.out HY1.out HY2.out rfl (by decide) (by decide) (.slice B i d) i (flatP acc) [.int .i64 x.1, .int .i64 x.2] rfl (by intro u hu; simp at hu; (first | (rcases hu with rfl | rfl) | (subst hu)) <;> rfl) (w5.alloc (.cells #[.int .i64 x.1, .int .i64 x.2] 76)) rfl rfl HO5b.out _ rfl (by simp) (by omega) (Nat.le_trans HSZ.out HSZb.out) ?_)); intro A8 c8 w8 happ; have HAPP := hid happ; clear happ)
   go_roundw
   case rel =>
    have hg8 := HAPP.out.grown
    have hne8 : ∀ b, (Value.slice B i d).ownBlock = some b → w.heap.size ≤ b := fun b e => (ownsRow_block HO5b.out e).1
    have hown8 := HAPP.out.own
    exact ⟨i + 1, c8, A8, acc ++ [x], s5, rfl, by go_num, by omega, hid (by simp [HAL.out]), hid (HS5b.out.grown hg8 hne8 HRL.out HGL.out HHL.out HW0.out), hid (mvK_grown (HM5.out.trans_ (MvK.below HB5b.out)) hg8 hne8), hid (by have h := hown8; simpa [flatP] using h), HRES2, hid (fun h => by rw [← HBD2.out] at h; cases h)⟩
   case measure => simp [intOf]; omega
end Go.Proofs.Ytplecfbdchmogaa
