/- sense: unfolded: the body of a fix's function, with the functions in their variables' places. -/
import Derived.Test.YtjllmblbbgojbaaUSenseB
import Derived.Test.YtjllmblbbgojbaaUKidss
import Derived.Test.YtjllmblbbgojbaaUSubst
namespace Go.Proofs.Ytjllmblbbgojbaa
open Go.Lib (hid)
set_option maxHeartbeats 8000000
set_option maxRecDepth 100000
open Go.RowKit
abbrev NewB (w w' : World) (q : Nat) : Prop := w.heap.size ≤ q ∧ q < w'.heap.size
def CloneP (l : List Nd) (w : World) (e : Ending) (w' : World) : Prop := Below w.heap.size w w' ∧ ∃ g c, e = .returned (.slice (some ⟨g, 0, none⟩) l.length c) ∧ OwnN w' w.heap.size (.slice (some ⟨g, 0, none⟩) l.length c) l
theorem clone_own {A : Option Addr} {n c : Nat} {l : List Nd} {w : World} (h : TermV w A n c l) (h0 : 0 < n) :
 Calls Try.prog 38 #[.slice A n c] w (CloneP l w) := by
 have q22 : ∀ (w : World) (a : Option Addr) (n c n' c' : Nat), (binOp .eql 28 (.slice a n c) (.slice none n' c')).run Try.prog w = .ok (.bool a.isNone) w := fun w a n c n' c' => Lib.run_eql_slice_nil w _ _ a n c n' c' Try.underlying28
 cases A with
 | none =>
  have h1 := h.nul rfl
  have h2 := h.cap
  omega
 | some a =>
  obtain ⟨i0, hi, hy0, hy1, hy2⟩ := info_parts infoN'
  have HI0 := hid hi
  have HY0 := hid hy0
  have HY1 := hid hy1
  have HY2 := hid hy2
  clear hi hy0 hy1 hy2
  have hfew := h.few
  have hb0 := below_alloc w (.cells #[] 34)
  have hm : TermV (w.alloc (.cells #[] 34)) (some a) n c l := h.below hb0
  have hown : OwnN (w.alloc (.cells #[] 34)) w.heap.size (.slice (some ⟨w.heap.size, 0, none⟩) 0 0) [] := World.ownsRow_made w #[] 0 (Nat.le_refl _) (Nat.zero_le _) rfl
  have HM := hid hm
  have HOWN := hid hown
  have HB := hid hb0
  have HLN := hid h.len
  clear hm hown hb0 h
  go_in
  go_wp2_with (at_builtin; go_loud (refine wpList_oper rfl (oper_append_row (.tmp 5) (.tmp 6) 28 28 rfl w.heap.size i0 Try.underlying28 Try.underlying28 HI0.out HY0.out HY1.out HY2.out (.slice (some ⟨w.heap.size, 0, none⟩) 0 0) [] l rfl HOWN.out rfl HM.out (by simpa using hfew) (by simp) ?_)); intro A4 c4 w4 hown4 happ4)
  go_ret
  simp only [List.length_nil, Nat.zero_add, List.nil_append] at hown4
  have hown5 : OwnN w4 w.heap.size (.slice A4 l.length c4) l := by rw [HLN.out]; exact hown4
  rcases hown5.2 with ⟨_, h2⟩ | ⟨g, cap', cur, hv, _⟩
  · have := HLN.out; omega
  · injection hv with e1 e2 e3
    subst e1
    exact ⟨HB.out.grown happ4.grown HB.out.size (fun g hg => (ownsRow_block HOWN.out hg).1), g, c4, by rw [HLN.out]; simp, hown5⟩
theorem own_put {w : World} {base g c : Nat} {n0 : Nd} {r : List Nd} (h : OwnN w base (.slice (some ⟨g, 0, none⟩) (n0 :: r).length c) (n0 :: r)) (hf : (n0 :: r).length ≤ 5864062014805) (z : Int) : TermR (fun q => q = g) (w.setCell ⟨g, 1, none⟩ (.int .i64 z)) (some ⟨g, 0, none⟩) (n0 :: r).length c (⟨n0.op, z, n0.b⟩ :: r) := by
 have h0 := h
 rcases h.2 with ⟨hv, _⟩ | ⟨g', cap', cur, hv, hg, hh, hc, _⟩
 · cases hv
 injection hv with e1 e2 e3
 injection e1 with e1
 injection e1 with e1
 subst e1
 have hb : Blk w g 34 cur := hh
 have hs := hb.set_ 1 (.int .i64 z)
 refine ⟨rfl, by omega, hf, (fun e => by cases e), fun _ => ⟨g, 0, rfl, rfl, fun k hk => ?_⟩⟩
 obtain ⟨x1, x2, x3⟩ := flat_at (n0 :: r) k hk
 have c1 := own_cellH h0 x1
 have c2 := own_cellH h0 x2
 have c3 := own_cellH h0 x3
 rw [hb.cell] at c1 c2 c3
 rw [Nat.zero_add, hs.cell, hs.cell, hs.cell]
 have hne : ∀ j : Nat, j ≠ 1 → (cur.setIfInBounds 1 (.int .i64 z))[j]? = cur[j]? := fun j hj => by
  rw [Array.getElem?_setIfInBounds_ne (Ne.symm hj)]
 have h1lt : 1 < cur.size := by
  obtain ⟨y1, y2, _⟩ := flat_at (n0 :: r) 0 (by simp)
  have := own_cellH h0 y2
  rw [hb.cell] at this
  exact (Array.getElem?_eq_some_iff.1 this).1
 cases k with
 | zero =>
  refine ⟨by rw [hne _ (by omega)]; exact c1, ?_, by rw [hne _ (by omega)]; exact c3⟩
  rw [Nat.zero_mul, Nat.zero_add, Array.getElem?_setIfInBounds_self_of_lt h1lt]
  rfl
 | succ k =>
  refine ⟨by rw [hne _ (by omega)]; exact c1, by rw [hne _ (by omega)]; exact c2, by rw [hne _ (by omega)]; exact c3⟩
def UnfP (res : TT × Int) (w : World) (e : Ending) (w' : World) : Prop := Below w.heap.size w w' ∧ ((res.2 = 0 ∧ ∃ A' n' c', e = .returned (.slice A' n' c') ∧ TermR (NewB w w') w' A' n' c' (rowT res.1)) ∨ (res.2 ≠ 0 ∧ e = .panicked (FailP res.2)))
set_option linter.unusedSimpArgs false in
set_option linter.unusedVariables false in
theorem unfolded_any {b : Bk} {A : Option Addr} {n c : Nat} {h : TT} {w : World} (ht : TermV w A n c (rowT h)) (hf : FitT b 0 h) (h12 : h.1.op = 12) :
 Calls Try.prog 104 #[.slice A n c] w (UnfP (unfT h) w) := by
 obtain ⟨f1, f2, f3, f4, _⟩ := fix_parts hf.okt h12
 obtain ⟨nb, hnb⟩ : ∃ nb : Nat, h.1.b = (nb : Int) := ⟨h.1.b.toNat, by omega⟩
 obtain ⟨ia, hia⟩ : ∃ ia : Nat, h.1.a = (ia : Int) := ⟨h.1.a.toNat, by omega⟩
 obtain ⟨y0, hy1, hy2, hy3, hy4⟩ := body_fit hf h12 (⟨0, 0, 0⟩, [], .nil)
 rw [show h.1.a.toNat = ia from by omega] at hy1
 rw [hnb, Int.toNat_natCast] at hy4
 have hres : unfT h = unfL h nb y0 := by unfold unfT; rw [hy2, hnb, Int.toNat_natCast]
 rw [hres]
 have HFI := hid (fun (i : Nat) (hi : (i : Int) < h.1.b) => fixAt_fit hf h12 hi)
 rw [hnb] at HFI
 have hn0 : 0 < n := by rw [← ht.len]; simp [rowT]
 have hn4 : n ≤ 4096 := by rw [← ht.len]; exact hf.few
 have hcap := ht.cap
 have HPL := hid (splaces_any ht hf.rt h12 hnb)
 have HT := hid (fun (w' : World) (hb : Below w.heap.size w w') => ht.below hb)
 have HCL := hid (fun (w' : World) (hb : Below w.heap.size w w') => clone_own (ht.below hb) hn0)
 have HEN := hid (fun (w' : World) (hb : Below w.heap.size w w') (z : Int) => end_any (ht.below hb) z)
 obtain ⟨bf, off, rfl, hbf, _, hc1, hc2⟩ := ht.at_ hn0
 simp only [Nat.zero_mul, Nat.add_zero] at hc1 hc2
 rw [show nth (rowT h) 0 = h.1 from rfl] at hc1 hc2
 rw [hia] at hc1
 rw [hnb] at hc2
 have hin : ia < nb := by omega
 have hnb4 : nb ≤ 4 := by omega
 have HY1 := hid hy1
 have HFY := hid hy4
 have HLN := hid ht.len
 clear ht h12 f1 f2 f3 f4 hy1 hy2 hy3 hy4 hres hia hnb
 go_in
 go_wp2_with fail
 refine (HPL.out).mono ?_
 rintro e w2 ⟨hd, A1, c1, A2, c2, bq, rfl, ho1, ho2, hbp⟩
 obtain ⟨g1, g2, hz, he, hgg, hgn, hcut⟩ := BdP.at_ ia y0 hbp HY1.out
 obtain ⟨g, rfl, hg, _, hcg, _⟩ := ho2.at_ hz
 have hca := (hd.cell (p := ⟨bf, off + 1, none⟩) hbf).trans hc1
 have hcb := (hd.cell (p := ⟨bf, off + 2, none⟩) hbf).trans hc2
 have hi0 : (0 : Int) ≤ (ia : Int) := by omega
 have hi1 : (ia : Int) < (nb : Int) := by omega
 obtain ⟨A3, hcut3, hcutr3⟩ := cut_mid (some ⟨bf, off, none⟩) n c g1 g2 hgg hgn hcap
 have HP := hid (fun (w' : World) (hb : Below w.heap.size w w') => (by have := hcutr3 _ _ _ (HT.out w' hb); rwa [hcut] at this : TermV w' A3 (g2 - g1) (c - g1) (rowT y0)))
 have HEN1 := hid (HEN.out w2 hd (g1 : Int))
 rw [he] at HEN1
 have HD := hid hd
 clear hd ho1 ho2 hbp hz he hcut hcutr3 hc1
 go_wp2_with fail
 refine (HEN1.out).mono ?_
 rintro e w3 ⟨rfl, hd3⟩
 have HD3 := bto HD hd3
 have hcb3 := (HD3.out.cell (p := ⟨bf, off + 2, none⟩) hbf).trans hc2
 have hg12 : (g1 : Int) ≤ (g2 : Int) := by omega
 clear hd3 hca hcb hcg
 go_wp2_with fail
 obtain ⟨nm, hnm⟩ : ∃ nm, nm = nb - 1 := ⟨_, rfl⟩
 go_loopw [6, 7] (fun bv iv wr => ∃ (r : Nat) (x : TT) (A' : Option Addr) (n' c' : Nat), bv = .slice A' n' c' ∧ iv = .int .i64 ((r : Int) - 1) ∧ r ≤ nb ∧ Hid (FitT b (r : Int) x) ∧ Hid (unfL h r x = unfL h nb y0) ∧ Hid (TermV wr A' n' c' (rowT x)) ∧ Hid (r = nb ∨ TermR (NewB w wr) wr A' n' c' (rowT x)) ∧ Hid (Below w.heap.size w wr)) (fun _ iv _ => (intOf iv + 1).toNat)
 case atStart => exact ⟨nb, y0, A3, g2 - g1, c - g1, rfl, rfl, by omega, HFY, hid rfl, hid (HP.out _ HD3.out), hid (.inl rfl), HD3⟩
 case round =>
  obtain ⟨r, x, A', n', c', rfl, rfl, hr, hfx, hun, htx, hnew, hbw⟩ := hrel
  have hbs := hbw.out.size
  cases r with
  | zero =>
   rw [show ((0 : Nat) : Int) - 1 = -1 from by omega]
   have hun2 : unfL h nb y0 = (x, 0) := hun.out.symm
   have HU := hid hun2
   have HNW : Hid (TermR (NewB w wr) wr A' n' c' (rowT x)) := hid (hnew.out.elim (fun e => by omega) id)
   clear hun2 hr hnew hun
   go_wp2_with fail
   go_ret
   rw [HU.out]
   exact ⟨hbw.out, .inl ⟨rfl, A', n', c', rfl, HNW.out⟩⟩
  | succ i =>
   rw [show ((i + 1 : Nat) : Int) - 1 = (i : Int) from by omega]
   have hi9 : (0 : Int) ≤ (i : Int) := by omega
   have y1 : decide ((i : Int) ≥ 0) = true := decide_eq_true (by omega)
   have hib : i < nb := by omega
   have hff := HFI.out i (by omega)
   have hS := sub_row (b := b) (free := (i : Int)) (x := x) (u := fixAt h i) (by omega) (by omega) (by have := hfx.out; simpa using this) (hff.mono (by omega))
   have HS := hid hS
   have hstep : unfL h (i + 1) x = if (subTT x (fixAt h i)).2 = 0 then unfL h i (subTT x (fixAt h i)).1 else subTT x (fixAt h i) := rfl
   have HST := hid (hun.out.symm.trans hstep)
   have hlc := lift_closed hff (up := (i : Int)) (by omega) (by omega)
   have HLC := hid hlc
   have hri : rowT (fixAt h i) = ⟨h.1.op, (i : Int), h.1.b⟩ :: (h.2.1 ++ row h.2.2) := rfl
   have HRI := hid hri
   have HRL : Hid ((rowT (fixAt h i)).length = n) := hid HLN.out
   have HCW := hid (HCL.out wr hbw.out)
   generalize subTT x (fixAt h i) = sx at *
   generalize rowT (fixAt h i) = rf at *
   clear hff hS hstep hlc hri hun
   go_wp2_with fail
   refine (HCW.out).mono ?_
   rintro e w5 ⟨hd5, gc, cc, rfl, ho5⟩
   have hput := own_put (n0 := h.1) (r := h.2.1 ++ row h.2.2) ho5 (by have := HLN.out; show (rowT h).length ≤ _; omega) (i : Int)
   rw [show (h.1 :: (h.2.1 ++ row h.2.2)).length = n from HLN.out, ← HRI.out] at hput
   have hbl := ownsRow_block ho5 (g := gc) rfl
   obtain ⟨hgc0, hgc1, cur, hcur⟩ := hbl
   have hcb5 : Blk w5 gc 34 cur := hcur
   have hcell := own_cellH ho5 (flat_at (rowT h) 0 (by have := HLN.out; omega)).2.1
   have hcell2 : w5.cell? ⟨gc, 1, none⟩ = some (.int .i64 (nth (rowT h) 0).a) := hcell
   have hfro : w5.frozen? ⟨gc, 1, none⟩ = false := hcb5.frozen 1
   have hg6 := grown_setv w5 gc 1 (.int .i64 (i : Int))
   have hb5 := hbw.out.trans (hd5.mono hbs)
   have hB6 : Below wr.heap.size wr (w5.setCell ⟨gc, 1, none⟩ (.int .i64 (i : Int))) := hd5.grown hg6 (by have := hd5.size; omega) (fun q e => by injection e with e; omega)
   have HB6 := hid (hbw.out.trans (hB6.mono hbs))
   have HTX6 := hid (htx.out.below hB6)
   have htf6 : TermV (w5.setCell ⟨gc, 1, none⟩ (.int .i64 (i : Int))) (some ⟨gc, 0, none⟩) n cc rf := hput.keep fun q hq => ⟨by have := hg6.size; omega, fun _ => rfl⟩
   have HLF := hid (lift_any htf6 (i : Int) 0 (by omega))
   rw [HLC.out] at HLF
   have hnr : (rowT h).length = n := HLN.out
   rw [hnr]
   have hnn : 0 < (n : Int) := by omega
   clear hput hcur hcb5 hcell hd5 ho5 hg6 hb5 hB6 htf6 hnr
   go_wp2_with fail
   refine (HLF.out).mono ?_
   rintro e w7 ⟨hd7, A7, n7, c7, rfl, ho7⟩
   have HB7 := bto HB6 hd7
   have HTX7 := hid (HTX6.out.below hd7)
   have HO7 := hid ho7
   have hl7 : rf.length = n7 := by
    have h1 := ho7.slice
    obtain ⟨_, _, e⟩ := h1
    injection e with _ e2
    exact e2.symm
   have HL7 := hid hl7
   clear hd7 ho7 hfro hcell2 hl7
   go_wp2_with fail
   refine must_ok.mono ?_
   rintro e w8 ⟨rfl, rfl⟩
   have htf7 : TermV w8 A7 n7 c7 rf := by
    have h1 := HO7.out
    rw [← HL7.out] at h1 ⊢
    obtain ⟨Aq, nq, cq, e, hq⟩ := OwnN.termS h1 (by rw [HRL.out]; omega)
    injection e with e1 e2 e3
    subst e1 e2 e3
    exact hq.keep fun q hq => ⟨(ownsRow_block h1 hq).2.1, fun _ => rfl⟩
   have HSB := hid (subst_any HTX7.out htf7 0 (fun _ _ _ => HS.out.1))
   rw [HS.out.2.1] at HSB
   clear htf7
   by_cases h0 : sx.2 = 0
   · rw [if_pos h0, h0] at HSB
     have hst := HST.out
     rw [if_pos h0] at hst
     have HST2 := hid hst.symm
     have HFS := hid (HS.out.2.2 h0)
     clear hst h0
     go_wp2_with fail
     refine (HSB.out).mono ?_
     rintro e w9 ⟨hd9, A9, n9, c9, rfl, ho9⟩
     have HB9 := bto HB7 hd9
     have hl9 : (rowT sx.1).length = n9 := by
      obtain ⟨_, _, e⟩ := ho9.slice
      injection e with _ e2
      exact e2.symm
     have hnew9 : TermR (NewB w w9) w9 A9 n9 c9 (rowT sx.1) := by
      have h1 := ho9
      rw [← hl9] at h1 ⊢
      obtain ⟨Aq, nq, cq, e, hq⟩ := OwnN.termS h1 (by have := HFS.out.few; have h9 : (rowT sx.1).length = szT sx.1 := rfl; show (rowT sx.1).length ≤ _; omega)
      injection e with e1 e2 e3
      subst e1 e2 e3
      exact hq.keep fun q hq => ⟨⟨by have := (ownsRow_block h1 hq).1; have := HB7.out.size; omega, (ownsRow_block h1 hq).2.1⟩, fun _ => rfl⟩
     have HN9 := hid hnew9
     have HT9 : Hid (TermV w9 A9 n9 c9 (rowT sx.1)) := hid (hnew9.keep fun q hq => ⟨hq.2, fun _ => rfl⟩)
     clear hd9 ho9 hl9 hnew9
     go_wp2_with fail
     refine must_ok.mono ?_
     rintro e w10 ⟨rfl, rfl⟩
     go_wp2_with fail
     go_roundw
     case rel => exact ⟨i, sx.1, A9, n9, c9, rfl, rfl, by omega, HFS, HST2, HT9, hid (.inr HN9.out), HB9⟩
     case measure => simp [intOf]
   · rw [if_neg h0] at HSB
     have hst := HST.out
     rw [if_neg h0] at hst
     have HST2 := hid hst
     have HZ := hid h0
     clear hst h0
     go_wp2_with fail
     refine (HSB.out).mono ?_
     rintro e w9 ⟨hd9, A9, n9, c9, rfl, ho9⟩
     have HB9 := bto HB7 hd9
     clear hd9 ho9
     go_wp2_with fail
     refine (must_er HZ.out).mono ?_
     rintro e w10 ⟨rfl, rfl⟩
     go_wp2_with fail
     rw [HST2.out]
     exact ⟨rfl, HB9.out, .inr ⟨HZ.out, rfl⟩⟩
end Go.Proofs.Ytjllmblbbgojbaa
