/- Programs that are read: constructors, entries (book). -/
import Derived.Test.YtplecfbdchmogaaERdM
namespace Go.Proofs.Ytplecfbdchmogaa
open Go.Lib (hid)
set_option maxHeartbeats 4000000
set_option maxRecDepth 100000
set_option linter.unusedVariables false
set_option linter.unusedSimpArgs false
open Go.RowKit
def Nb (lo b : Nat) (w : World) (q : Nat) : Prop := lo ≤ q ∧ q < w.heap.size ∧ q ≠ b
section
variable {q : Nat} {w w1 w' W F : World} {κ : Rk} {lo b b2 i : Nat} {u : Value}
theorem nb_set (h : Nb lo b w q) : Nb lo b (w.setCell ⟨b, i, none⟩ u) q ∧ ∀ o, (w.setCell ⟨b, i, none⟩ u).cell? ⟨q, o, none⟩ = w.cell? ⟨q, o, none⟩ :=
 ⟨⟨h.1, by simpa [World.setCell] using h.2.1, h.2.2⟩, fun o => cell_of_heap (Below.heap_setCell w ⟨b, i, none⟩ u q h.2.2) o⟩
theorem nb_step (hm : MvK κ w w1) (hg : κ.g < lo) (hh : κ.h < lo) (i : Nat) (u : Value) : ∀ q, Nb lo b w q → Nb lo b (w1.setCell ⟨b, i, none⟩ u) q ∧ ∀ o, (w1.setCell ⟨b, i, none⟩ u).cell? ⟨q, o, none⟩ = w.cell? ⟨q, o, none⟩ := fun q hq => by
 have h1 : Nb lo b w1 q := ⟨hq.1, Nat.lt_of_lt_of_le hq.2.1 hm.size, hq.2.2⟩
 obtain ⟨h2, h3⟩ := nb_set (i := i) (u := u) h1
 exact ⟨h2, fun o => (h3 o).trans (cell_of_heap (hm.block q hq.2.1 (by have := hq.1; rintro (e | e) <;> omega) (by simp)) o)⟩
theorem nb_new (hl : lo ≤ w.heap.size) (hb : b < w.heap.size) (i : Nat) (u : Value) : ∀ q, fresh w w1 q → Nb lo b (w1.setCell ⟨b, i, none⟩ u) q ∧ ∀ o, (w1.setCell ⟨b, i, none⟩ u).cell? ⟨q, o, none⟩ = w1.cell? ⟨q, o, none⟩ := fun q hq =>
 nb_set ⟨Nat.le_trans hl hq.1, hq.2, by have := hq.1; omega⟩
theorem nb_end (hF : W.grownBy F (some b2)) (hb : b2 < lo) (hw : w.heap.size ≤ lo) : ∀ q, Nb lo b W q → fresh w F q ∧ ∀ o, F.cell? ⟨q, o, none⟩ = W.cell? ⟨q, o, none⟩ := fun q hq =>
 ⟨⟨Nat.le_trans hw hq.1, Nat.lt_of_lt_of_le hq.2.1 hF.size⟩, fun o => cell_of_heap (hF.block q hq.2.1 (fun e => by injection e with e; have := hq.1; omega)) o⟩
theorem set2_grown (w : World) (b : Nat) (u0 u1 : Value) : w.grownBy ((w.setCell ⟨b, 0, none⟩ u0).setCell ⟨b, 1, none⟩ u1) (some b) := grown_trans (RqE.set.grown_setK w b 0 u0) (RqE.set.grown_setK _ b 1 u1)
theorem set7_grown (w : World) (b : Nat) (u0 u1 u2 u3 u4 u5 u6 : Value) : w.grownBy (((((((w.setCell ⟨b, 0, none⟩ u0).setCell ⟨b, 1, none⟩ u1).setCell ⟨b, 2, none⟩ u2).setCell ⟨b, 3, none⟩ u3).setCell ⟨b, 4, none⟩ u4).setCell ⟨b, 5, none⟩ u5).setCell ⟨b, 6, none⟩ u6) (some b) :=
 grown_trans (grown_trans (grown_trans (grown_trans (grown_trans (grown_trans (RqE.set.grown_setK w b 0 u0) (RqE.set.grown_setK _ b 1 u1)) (RqE.set.grown_setK _ b 2 u2)) (RqE.set.grown_setK _ b 3 u3)) (RqE.set.grown_setK _ b 4 u4)) (RqE.set.grown_setK _ b 5 u5)) (RqE.set.grown_setK _ b 6 u6)
theorem RqE.odd {w0 : World} {s : Rd} (h : RqE w0 κ s w W) (o : Bool) : RqE w0 κ ⟨s.rest, s.err, o⟩ w (W.setCell ⟨κ.h, 1, none⟩ (.bool o)) := by
 obtain ⟨hm, hs⟩ := h
 obtain ⟨k, hk, hr⟩ := hs.st
 refine ⟨Moved.setCell hm (p := ⟨κ.h, 1, none⟩) (Or.inr rfl) _, ⟨⟨k, ⟨hk.bel.setCell hs.ge _, hk.blk.far (p := ⟨κ.h, 1, none⟩) (fun e => hs.ne e.symm) _, hk.ge, hk.byt.keep fun q hq => ⟨hq, fun o' => cell_of_heap (Below.heap_setCell W ⟨κ.h, 1, none⟩ _ q (hs.off q hq)) o'⟩, fun q hq => ⟨by simpa [World.setCell] using (hk.off q hq).1, (hk.off q hq).2⟩, hk.le⟩, hr⟩, by simpa using hs.blk.set_ 1 (.bool o), hs.ne, hs.ge, hs.off⟩⟩
theorem TermR.nilR (R : Nat → Prop) (w : World) : TermR R w none 0 0 [] := ⟨rfl, Nat.le_refl _, Nat.zero_le _, fun _ => rfl, fun h => absurd h (by decide)⟩
theorem RowsR.nilR (R : Nat → Prop) (w : World) : RowsR R w none 0 0 [] := ⟨rfl, by decide, fun h => absurd h (by decide)⟩
theorem CtsQ.nilR (R : Nat → Prop) (w : World) : CtsQ R w none 0 0 [] := ⟨rfl, by decide, fun h => absurd h (by decide)⟩
theorem RqE.grow {w0 : World} {s : Rd} (h : RqE w0 κ s w W) (hF : W.grownBy F (some b)) (hb : w.heap.size ≤ b) (hg : κ.g < w.heap.size) (hh : κ.h < w.heap.size) (hR : ∀ q, κ.R q → q < w.heap.size) (h0 : w0.heap.size ≤ w.heap.size) : RqE w0 κ s w F :=
 ⟨mvK_grown h.1 hF (fun q e => by injection e with e; omega), h.2.grown hF (fun q e => by injection e with e; omega) hR hg hh h0⟩
end
theorem infoCt : (Try.prog.info? 54).map (fun i => (i.zero, i.size, i.bytes)) = some (some (.agg #[.slice none 0 0, .slice none 0 0]), 2, 48) := by kernel_rfl
theorem infoEn : (Try.prog.info? 49).map (fun i => (i.zero, i.size, i.bytes)) = some (some (.agg #[.int .i64 0, .slice none 0 0, .slice none 0 0, .slice none 0 0, .slice none 0 0, .slice none 0 0, .slice none 0 0]), 7, 152) := by kernel_rfl
theorem results_ct {w : World} {g : Nat} {c0 c1 : Value} {tmps : Array Value} (h : Blk w g 54 #[c0, c1]) (ht : tmps.getD 2 undef = .pointer (some ⟨g, 0, none⟩)) :
 (results Try.f71 tmps).run Try.prog w = .ok (.agg #[c0, c1]) w := by
 have hc := h.cell
 have ht' : tmps[2]?.getD undef = .pointer (some ⟨g, 0, none⟩) := by rw [← ht]; simp
 simp [results, Try.results71, go_sem, ht', hc]
theorem results_en {w : World} {g : Nat} {c0 c1 c2 c3 c4 c5 c6 : Value} {tmps : Array Value} (h : Blk w g 49 #[c0, c1, c2, c3, c4, c5, c6]) (ht : tmps.getD 2 undef = .pointer (some ⟨g, 0, none⟩)) :
 (results Try.f35 tmps).run Try.prog w = .ok (.agg #[c0, c1, c2, c3, c4, c5, c6]) w := by
 have hc := h.cell
 have ht' : tmps[2]?.getD undef = .pointer (some ⟨g, 0, none⟩) := by rw [← ht]; simp
 simp [results, Try.results35, go_sem, ht', hc]
theorem rctor_any {w0 w : World} {κ : Rk} {s : Rd} (h : RqS w0 κ s w) : Calls Try.prog 71 #[.pointer (some ⟨κ.h, 0, none⟩)] w (RqCt w0 κ (rdCtor s) w) := by
 have hb0 := below_alloc w (.cells #[.slice none 0 0, .slice none 0 0] 54)
 have HS0 := hid (h.below hb0)
 have HE0 := hid ((RqE.refl h).below hb0)
 have HB2 := hid (Blk.new w 54 #[.slice none 0 0, .slice none 0 0])
 have HGL := hid h.g_lt
 have HHL := hid h.h_lt
 have HRL := hid h.R_lt
 have HW0 := hid h.size
 have hs0 : w.heap.size < (w.alloc (.cells #[.slice none 0 0, .slice none 0 0] 54)).heap.size := by simp
 have hn1 := rrows_any HS0.out
 obtain ⟨q1, hq1⟩ : ∃ q, q = rdRows s := ⟨_, rfl⟩
 obtain ⟨x1, s1⟩ := q1
 rw [← hq1] at hn1
 obtain ⟨q2, hq2⟩ : ∃ q, q = rdRows s1 := ⟨_, rfl⟩
 obtain ⟨x2, s2⟩ := q2
 have HE : Hid (rdCtor s = (⟨x1, x2⟩, s2)) := hid (by simp only [rdCtor, Rdg.seq, Rdg.pure, ← hq1, ← hq2])
 have HQ2 := hid hq2
 have HN1 := hid hn1
 rw [HE.out]
 clear h hq1 hq2 hn1 hb0 hs0
 go_in
 go_wp2_with fail
 refine (HN1.out).mono ?_
 rintro e w1 ⟨A1, n1, c1, rfl, ht1, h1⟩
 simp only at h1 ht1 ⊢
 have HE1 := hid (HE0.out.call h1)
 have HB2_1 := hid (HB2.out.mvk h1.1 HGL.out HHL.out)
 have hs1 := h1.1.size
 have hbb := below_alloc w1 (.cells #[.slice A1 n1 c1, .slice none 0 0] 54)
 have HE1b := hid (HE1.out.below hbb)
 have HB3 := hid (Blk.new w1 54 #[.slice A1 n1 c1, .slice none 0 0])
 have HB2_1b := hid ((HB2_1).out.below hbb HB2_1.out.lt)
 have HG1 := hid (show κ.g < w1.heap.size from Nat.lt_of_lt_of_le (show κ.g < w.heap.size + 1 from by have := HGL.out; omega) (by simpa using hs1))
 have HH1 := hid (show κ.h < w1.heap.size from Nat.lt_of_lt_of_le (show κ.h < w.heap.size + 1 from by have := HHL.out; omega) (by simpa using hs1))
 have HLT := hid (show w.heap.size < w1.heap.size from Nat.lt_of_lt_of_le (Nat.lt_succ_self _) (by simpa using hs1))
 have HD1 : Hid (RowsR (Nb (w.heap.size + 1) w1.heap.size (w1.alloc (.cells #[.slice A1 n1 c1, .slice none 0 0] 54))) (w1.alloc (.cells #[.slice A1 n1 c1, .slice none 0 0] 54)) A1 n1 c1 x1) := hid (ht1.keep fun q hq => ⟨⟨by have := hq.1; simpa using this, by have := hq.2; simp; omega, by have := hq.2; omega⟩, fun o => hbb.cell (p := ⟨q, o, none⟩) hq.2⟩)
 have HN2 := hid (rrows_any HE1b.out.2)
 rw [← HQ2.out] at HN2
 clear h1 hbb hs1 ht1
 go_wp2_with fail
 refine (HN2.out).mono ?_
 rintro e w2 ⟨A2, n2, c2, rfl, ht2, h2⟩
 simp only at h2 ht2 ⊢
 have HE2 := hid ((HE1b.out.call h2).set (b := w1.heap.size) (Nat.le_of_lt HLT.out) HGL.out HHL.out HRL.out HW0.out 1 (.slice A2 n2 c2))
 have HB3_2 := hid (HB3.out.mvk h2.1 HG1.out HH1.out)
 have HB2_2 := hid ((HB2_1b.out.mvk h2.1 HGL.out HHL.out).far (p := ⟨w1.heap.size, 1, none⟩) (by have := HLT.out; simp only; omega) (.slice A2 n2 c2))
 have HB3_2s := hid (HB3_2.out.set_ 1 (.slice A2 n2 c2))
 have HD1b := hid (HD1.out.keep (nb_step h2.1 (by have := HGL.out; omega) (by have := HHL.out; omega) 1 (.slice A2 n2 c2)))
 have HD2b := hid (ht2.keep (nb_new (lo := w.heap.size + 1) (b := w1.heap.size) (by have := HLT.out; simp; omega) (by simp) 1 (.slice A2 n2 c2)))
 have y1 := HB3_2.out.cell
 have y2 := HB3_2.out.frozen
 have y3 := HB3_2s.out.cell
 have y4 := HB2_2.out.cell
 have y5 := HB2_2.out.frozen
 clear h2 ht2
 go_wp2_with fail
 have hF := set2_grown (w2.setCell ⟨w1.heap.size, 1, none⟩ (.slice A2 n2 c2)) w.heap.size (.slice A1 n1 c1) (.slice A2 n2 c2)
 refine bodyPost_ret (v := .agg #[.slice A1 n1 c1, .slice A2 n2 c2]) (results_ct (g := w.heap.size) (by have := (HB2_2.out.set_ 0 (.slice A1 n1 c1)).set_ 1 (.slice A2 n2 c2); simpa using this) (by simp)) rfl ⟨A1, n1, c1, A2, n2, c2, rfl, HD1b.out.keep (nb_end hF (Nat.lt_succ_self _) (Nat.le_succ _)), HD2b.out.keep (nb_end hF (Nat.lt_succ_self _) (Nat.le_succ _)), ?_⟩
 exact HE2.out.grow hF (Nat.le_refl _) HGL.out HHL.out HRL.out HW0.out
theorem manyC_any {w0 w : World} {κ : Rk} {s : Rd} (h : RqS w0 κ s w) :
 Calls Try.prog 70 #[.pointer (some ⟨κ.h, 0, none⟩), .func (.func 71) #[.pointer (some ⟨κ.h, 0, none⟩)] #[]] w (RqCts w0 κ (rdList chkB 255 rdCtor s) w) := by
 have hen : ∀ args w, (callFunc 71 args).run Try.prog w = .ok (.enter 71 args) w := fun _ _ => by kernel_rfl
 obtain ⟨i0, hi, hy0, hy1, hy2⟩ := info_parts infoCt
 have HI0 := hid hi
 have HY0 := hid hy0
 have HY1 := hid hy1
 have HY2 := hid hy2
 have hN := rnum_any h
 have hle := rdNext_le 255 s
 have HRR : Hid (rdList chkB 255 rdCtor s = rdTimes chkB rdCtor (rdNext 255 s).1 (rdNext 255 s).2) := hid rfl
 unfold rdInt at hN
 obtain ⟨q, hq⟩ : ∃ q, q = rdNext 255 s := ⟨_, rfl⟩
 rw [← hq] at hN hle HRR
 obtain ⟨v, s1⟩ := q
 simp only at hN hle HRR
 obtain ⟨res, hres⟩ : ∃ r, r = rdList chkB 255 rdCtor s := ⟨_, rfl⟩
 rw [← hres] at HRR ⊢
 have HN := hid hN
 have HGL := hid h.g_lt
 have HHL := hid h.h_lt
 have HRL := hid h.R_lt
 have HW0 := hid h.size
 clear h hq hres hN hi hy0 hy1 hy2
 go_in
 go_wp2_with fail
 refine (HN.out).mono ?_
 rintro e w1 ⟨rfl, hm1, hs1⟩
 have HM1 := hid hm1
 have HS1 := hid hs1
 clear hm1 hs1
 go_wp2_with fail
 go_loopw [5, 9] (fun ov iv wr => ∃ (i d : Nat) (B : Option Addr) (vs : List Value) (acc : List Ct) (s2 : Rd), ov = .slice B i d ∧ iv = .int .i64 (i : Int) ∧ i ≤ v ∧ Hid (acc.length = i) ∧ Hid (RqS w0 κ s2 wr) ∧ Hid (MvK κ w wr) ∧ Hid (wr.ownsRow w.heap.size 54 2 (.slice B i d) i (vs)) ∧ Hid (CtL (Aside w.heap.size wr (.slice B i d)) wr vs acc) ∧ Hid (res = rdAcc chkB rdCtor acc (v - i) s2) ∧ Hid (chkB s2 = true → acc = [])) (fun _ iv _ => v - (intOf iv).toNat)
 case atStart => exact ⟨0, 0, none, [], [], s1, rfl, rfl, Nat.zero_le _, hid rfl, HS1, HM1, hid (World.ownsRow_nil _ _ _ _), hid trivial, hid (by rw [HRR.out, Nat.sub_zero, rdAcc_start]), hid (fun _ => rfl)⟩
 case round =>
  obtain ⟨i, d, B, vs, acc, s4, rfl, rfl, hiv, HAL, HS4, HM4, HO4, HR4, HRES, HZ⟩ := hrel
  by_cases hlt : i < v
  rotate_left
  · have hiv2 : i = v := by omega
    have d1 : decide ((i : Int) < (v : Int)) = false := decide_eq_false (by omega)
    have d2 : decide (i < v) = false := decide_eq_false hlt
    have HRES2 : Hid (res = (acc, s4)) := hid (by
     rw [HRES.out, hiv2, Nat.sub_self]
     exact rdAcc_end HZ.out)
    have hi255 : i ≤ 255 := by omega
    clear hiv2
    go_wp2_with fail
    go_ret
    rw [HRES2.out]
    exact ⟨B, i, d, rfl, own_cts HO4.out HAL.out (by omega) HR4.out (fun q hq => ⟨hq.1, hq.2.1⟩) (fun g hg => ⟨(ownsRow_block HO4.out hg).1, (ownsRow_block HO4.out hg).2.1⟩), HM4.out, HS4.out⟩
  have d1 : decide ((i : Int) < (v : Int)) = true := decide_eq_true (by omega)
  have d2 : decide (i < v) = true := decide_eq_true hlt
  have hC := rctor_any HS4.out
  obtain ⟨q, hq⟩ : ∃ q, q = rdCtor s4 := ⟨_, rfl⟩
  rw [← hq] at hC
  obtain ⟨x, s5⟩ := q
  have HQ := hid hq.symm
  have HC := hid hC
  clear hq hC
  go_wp2_with fail
  first
   | refine (HC.out).mono ?_
   | (simp only [Array.empty_append, Array.append_empty]; refine (HC.out).mono ?_)
   | (show Calls _ _ #[.pointer (some ⟨κ.h, 0, none⟩)] _ _; refine (HC.out).mono ?_)
  rintro e w5 ⟨A5, n5, c5, A6, n6, c6, rfl, ht5, ht6, hm5, hs5⟩
  have HM5x := hid hm5
  have HM5 := hid (HM4.out.trans_ hm5)
  have HS5 := hid hs5
  have HO5 := hid (rows_movedK HO4.out hm5 HGL.out HHL.out)
  have HFA := hid (fresh_aside (w5 := w5) HO4.out HM4.out.size)
  have HR5 := hid (CtL.keep (aside_mv HM5x.out HGL.out HHL.out) HR4.out)
  have HB5b := hid (below_alloc w5 (.cells #[.slice A5 n5 c5, .slice A6 n6 c6] 54))
  have HS5b := hid (HS5.out.below HB5b.out)
  have HO5b := hid (World.ownsRow.alloc HO5.out (.cells #[.slice A5 n5 c5, .slice A6 n6 c6] 54))
  have HT5 := hid ht5
  have HT6 := hid ht6
  clear ht5 ht6
  have HBD := hid (rbad_any HS5b.out)
  have HSZ := hid HM5.out.size
  have HSZb := hid HB5b.out.size
  clear hm5 hs5
  obtain ⟨bd, hbd⟩ : ∃ b, b = chkB s5 := ⟨_, rfl⟩
  rw [← hbd] at HBD
  cases bd with
  | true =>
   have HRES2 : Hid (res = ([], s5)) := hid (by
    rw [HRES.out, show v - i = (v - (i + 1)) + 1 from by omega, rdAcc_bad (by rw [HQ.out]; exact hbd.symm), HQ.out])
   clear hbd
   go_wp2_with fail
   refine (HBD.out).mono ?_
   rintro e w6 ⟨rfl, rfl⟩
   go_wp2_with fail
   go_ret
   rw [HRES2.out]
   exact ⟨none, 0, 0, rfl, ⟨rfl, by decide, fun h => absurd h (by decide)⟩, HM5.out.trans_ (MvK.below HB5b.out), HS5b.out⟩
  | false =>
   have HRES2 : Hid (res = rdAcc chkB rdCtor (acc ++ [x]) (v - (i + 1)) s5) := hid (by
    rw [HRES.out, show v - i = (v - (i + 1)) + 1 from by omega, rdAcc_step (by rw [HQ.out]; exact hbd.symm), HQ.out])
   have HBD2 := hid hbd
   clear hbd
   go_wp2_with fail
   refine (HBD.out).mono ?_
   rintro e w6 ⟨rfl, rfl⟩
   go_wp2_with (at_builtin; go_loud (refine wpList_oper rfl (oper_append_box (.tmp 15) (.tmp 17) 47 54 rfl w.heap.size i0 _ 2 48 Try.underlying47 HI0.out HY0.out HY1.out HY2.out rfl (by decide) (by decide) (.slice B i d) i (vs) [.slice A5 n5 c5, .slice A6 n6 c6] rfl (by intro u hu; simp at hu; (first | (rcases hu with rfl | rfl) | (subst hu)) <;> rfl) (w5.alloc (.cells #[.slice A5 n5 c5, .slice A6 n6 c6] 54)) rfl rfl HO5b.out _ rfl (by simp) (by omega) (Nat.le_trans HSZ.out HSZb.out) ?_)); intro A8 c8 w8 happ; have HAPP := hid happ; clear happ)
   go_roundw
   case rel =>
    have hg8 := HAPP.out.grown
    have hne8 : ∀ b, (Value.slice B i d).ownBlock = some b → w.heap.size ≤ b := fun b e => (ownsRow_block HO5b.out e).1
    have hown8 := HAPP.out.own
    exact ⟨i + 1, c8, A8, vs ++ [.slice A5 n5 c5, .slice A6 n6 c6], acc ++ [x], s5, rfl, by go_num, by omega, hid (by simp [HAL.out]), hid (HS5b.out.grown hg8 hne8 HRL.out HGL.out HHL.out HW0.out), hid (mvK_grown (HM5.out.trans_ (MvK.below HB5b.out)) hg8 hne8), hid (hown8), hid (CtL.add (HT5.out.keep fun q hq => (aside_next HB5b.out HAPP.out q (HFA.out q hq))) (HT6.out.keep fun q hq => (aside_next HB5b.out HAPP.out q (HFA.out q hq))) (CtL.keep (aside_next HB5b.out HAPP.out) HR5.out)), HRES2, hid (fun h => by rw [← HBD2.out] at h; cases h)⟩
   case measure => simp [intOf]; omega
end Go.Proofs.Ytplecfbdchmogaa
