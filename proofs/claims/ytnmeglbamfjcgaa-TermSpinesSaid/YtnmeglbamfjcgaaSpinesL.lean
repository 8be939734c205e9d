/- TermSpines: the law, walked. -/
import Derived.Test.YtnmeglbamfjcgaaRefBindT
import Derived.Test.YtnmeglbamfjcgaaAwake
import Derived.Test.YtnmeglbamfjcgaaLaw0
namespace Go.Proofs.Ytnmeglbamfjcgaa
open Go.RowKit

theorem RowsR.below {w w' : World} {A : Option Addr} {n c : Nat} {ls : List (List Nd)} (h : RowsR (· < w.heap.size) w A n c ls) (hb : Below w.heap.size w w') : RowsR (· < w'.heap.size) w' A n c ls :=
  h.keep fun b hb' => ⟨Nat.lt_of_lt_of_le hb' hb.size, fun o => hb.cell (p := ⟨b, o, none⟩) hb'⟩
theorem wpList_oper_g {P : Program} {ops : Array Oper} {rest : List Oper} {o : Oper} {a : Act} {w : World} {Q : Exit → Act → World → Prop} (hg : Region.wanted o (yielded ops a.tmps) = true) (h : Oper.wp P o a w (wpList P ops Q rest) Q) : wpList P ops Q (o :: rest) a w := by
  unfold wpList
  rw [if_pos hg]
  exact .inl h
theorem ret_true {w w' : World} (hb : Below w.heap.size w w') : BoolPost true w (.returned (.bool true)) w' := ⟨rfl, hb⟩
theorem len_getD : ∀ (ls : List (List Nd)) (i : Nat), (ls.map List.length).getD i 0 = (ls.getD i []).length
  | [], i => by simp
  | l :: ls, 0 => by simp
  | l :: ls, i + 1 => by simpa using len_getD ls i
/-- Is the list of rows too long? -/
theorem long_rows {w : World} {base n c : Nat} {A : Option Addr} {xs : List Value} {ls : List (List Nd)} {S : Nat → Prop} (hown : w.ownsRow base 23 1 (.slice A n c) n xs) (hr : RowsC S w xs ls) (h0 : 0 < n) (hn : n ≤ 1000) : ∃ bg : Bool, Calls Try.prog 14 #[.slice A n c] w fun e w' => e = .returned (.bool bg) ∧ w = w' := by
  have hxl : xs.length = n := by have := hown.1; omega
  have hll : ls.length = n := by rw [← hr.len, hxl]
  have h2 := hown
  rcases h2.2 with ⟨_, h3⟩ | ⟨g, cap, cur, hv, _⟩
  · omega
  · injection hv with e1 e2 e3
    subst e1
    have hl : (ls.map List.length).length = n := by simp [hll]
    refine ⟨decide (9000 < sumN (ls.map List.length)), ?_⟩
    have := long_any (L := ls.map List.length) (b := g) (off := 0) (c := c) (w := w) (by rw [hl]; exact h0) (fun i hi => by
      rw [hl] at hi
      obtain ⟨A', n', c', h4, h5⟩ := hr.at_ i (by omega)
      refine ⟨A', c', ?_⟩
      rw [Nat.zero_add, hown.cellAt i (by omega), h4, len_getD, h5.len]) (fun i => by
      rw [len_getD]
      by_cases hi : i < ls.length
      · obtain ⟨A', n', c', _, h5⟩ := hr.at_ i hi
        rw [h5.len]; exact h5.few
      · rw [List.getD_eq_getElem?_getD, List.getElem?_eq_none (by omega)]; simp) (by rw [hl]; omega)
    rw [hl] at this
    exact this

set_option linter.unusedSimpArgs false in
set_option maxRecDepth 100000 in
set_option maxHeartbeats 8000000 in
theorem spines_law {A B : Option Addr} {nn c m d : Nat} {t : List Nd} {ls : List (List Nd)} {w : World} (op : Int) (ht : TermV w A nn c t) (hl : RowsR (· < w.heap.size) w B m d ls) (hnul : B = none → d = 0) :
    Calls Try.prog 10 #[.int .i64 op, .slice A nn c, .slice B m d] w (BoolPost true w) := by
  have HT := Lib.hid ht
  have HL := Lib.hid hl
  have HNU := Lib.hid hnul
  have hfm := hl.few
  have hfn := ht.few
  clear ht hl hnul
  by_cases h1 : 100 < m
  · have h1b : decide ((m : Int) > 100) = true := decide_eq_true (by omega)
    clear h1
    go_enter Try.func10, Try.ntmps10
    go_wp2_with (go_at_call 13; refine (awake_any).mono ?_; rintro e w2 ⟨rfl, hb2⟩)
    go_ret
    exact ret_true hb2
  have h1b : decide ((m : Int) > 100) = false := decide_eq_false (by omega)
  obtain ⟨i1, hi', hy0', hy1', hy2'⟩ := info_parts infoR
  have HI1 := Lib.hid hi'
  have HZ0 := Lib.hid hy0'
  have HZ1 := Lib.hid hy1'
  have HZ2 := Lib.hid hy2'
  clear hi' hy0' hy1' hy2'
  obtain ⟨F, L, hFL⟩ : ∃ F L, spineR t = (F, L) := ⟨_, _, rfl⟩
  obtain ⟨xa, ea, hXA⟩ : ∃ xa ea, applyR t ls = (xa, ea) := ⟨_, _, rfl⟩
  obtain ⟨xb, eb, hXB⟩ : ∃ xb eb, bindR op ls t = (xb, eb) := ⟨_, _, rfl⟩
  have HFL := Lib.hid hFL
  have HXA := Lib.hid hXA
  have HXB := Lib.hid hXB
  have hea : (ea == ea) = true := beq_self_eq_true _
  have heb : (eb == eb) = true := beq_self_eq_true _
  clear hFL hXA hXB
  have hnone : B = none → m = 0 ∧ d = 0 := fun e => ⟨by
    by_cases h0 : 0 < m
    · obtain ⟨b, off, e2, _⟩ := HL.out.mem h0
      rw [e] at e2; cases e2
    · omega, HNU.out e⟩
  have HNO := Lib.hid hnone
  clear hnone
  have HVAL : RowKit.Hid (∀ w2, Below w.heap.size w w2 → ∃ xs : List Value, xs.length = m ∧ (∀ ad, B = some ad → ∀ j u, xs[j]? = some u → w2.cell? (ad.add j) = some u) ∧ RowsC (· < w.heap.size) w2 xs ls ∧ ∀ u ∈ xs, u.oneCell' = true) := Lib.hid fun w2 hb => RowsR.values (rows_below HL.out hb)
  go_enter Try.func10, Try.ntmps10
  go_wp2_with (first
    | (go_at_call 13; refine (awake_any).mono ?_; rintro e w2 ⟨rfl, hb2⟩; have hbs2 := hb2.size; have HBL := Lib.hid (hb2.alloc hbs2 (.cells #[.slice A nn c] 23)); obtain ⟨xs, hxl, hxc, hxr, hx1⟩ := HVAL.out _ HBL.out; have HXC := Lib.hid hxc; have HXR := Lib.hid hxr; have HX1 := Lib.hid hx1; have HLIT : RowKit.Hid ((w2.alloc (.cells #[.slice A nn c] 23)).ownsRow w.heap.size 23 1 (.slice (some ⟨w2.heap.size, 0, none⟩) 1 1) 1 [.slice A nn c]) := Lib.hid ⟨by simp, .inr ⟨w2.heap.size, 1, #[.slice A nn c], rfl, hbs2, heap_alloc_new w2 _, by omega, by unfold maxLen; omega, rfl, rfl⟩⟩; clear hxc hxr hx1)
    | (at_builtin; go_loud (refine wpList_oper_g (by rfl) (oper_append_mine (.tmp 26) (.tmp 27) 41 rfl w.heap.size 23 i1 _ 1 24 Try.underlying41 HI1.out HZ0.out HZ1.out HZ2.out rfl (by decide) (.slice (some ⟨w2.heap.size, 0, none⟩) 1 1) 1 [.slice A nn c] rfl HLIT.out B m d xs rfl (by omega) HNO.out HXC.out HX1.out (by unfold maxLen; omega) (by omega) (Nat.le_trans hbs2 (by simp)) ?_)); intro A5 c5 w5 happ5; go_loud (have HB5 : RowKit.Hid (Below w.heap.size w w5) := Lib.hid (HBL.out.grown happ5.grown (Nat.le_trans hbs2 (by simp)) (fun g hg => (ownsRow_block HLIT.out hg).1))); go_loud (have hr5 : RowsC (· < w.heap.size) w5 ([.slice A nn c] ++ xs) (t :: ls) := ⟨⟨A, nn, c, rfl, HT.out.keep fun b hb => ⟨hb, fun o => HB5.out.cell (p := ⟨b, o, none⟩) hb⟩⟩, HXR.out.keep fun b hb => ⟨hb, fun o => (HB5.out.cell (p := ⟨b, o, none⟩) hb).trans (HBL.out.cell (p := ⟨b, o, none⟩) hb).symm⟩⟩); go_loud (obtain ⟨bg, hbg⟩ := long_rows happ5.own hr5 (by omega) (by omega)); have HBG := Lib.hid hbg; clear happ5 hr5 hbg))
  refine (HBG.out).mono ?_
  rintro e w' ⟨rfl, rfl⟩
  cases bg with
  | true =>
    go_wp2_with fail
    go_ret
    exact ret_true HB5.out
  | false =>
    have HC5 := Lib.hid (spine_any (HT.out.below HB5.out))
    rw [HFL.out] at HC5
    go_wp2_with fail
    refine (HC5.out).mono ?_
    rintro e w6 ⟨hb, Af, nf, cf, Bf, mf, df, rfl, hq1, hq2, _⟩
    have HB6 := Lib.hid (HB5.out.trans (hb.mono HB5.out.size))
    have Tf_6 := Lib.hid hq1
    have Rf_6 := Lib.hid hq2
    clear hb hq1 hq2
    have HC6 := Lib.hid (refSpine_any (HT.out.below HB6.out))
    rw [HFL.out] at HC6
    go_wp2_with fail
    refine (HC6.out).mono ?_
    rintro e w7 ⟨hb, Ag, ng, cg, Bg, mg, dg, rfl, hq1, hq2, _⟩
    have HB7 := Lib.hid (HB6.out.trans (hb.mono HB6.out.size))
    have Tf_7 := Lib.hid (Tf_6.out.below hb)
    have Rf_7 := Lib.hid (Rf_6.out.below hb)
    have Tg_7 := Lib.hid hq1
    have Rg_7 := Lib.hid hq2
    clear hb hq1 hq2
    have HC7 := Lib.hid (apply_any (HT.out.below HB7.out) (HL.out.below HB7.out) HNU.out)
    rw [HXA.out] at HC7
    go_wp2_with fail
    refine (HC7.out).mono ?_
    rintro e w8 ⟨hb, Aa, na, ca, rfl, hq1⟩
    have HB8 := Lib.hid (HB7.out.trans (hb.mono HB7.out.size))
    have Tf_8 := Lib.hid (Tf_7.out.below hb)
    have Rf_8 := Lib.hid (Rf_7.out.below hb)
    have Tg_8 := Lib.hid (Tg_7.out.below hb)
    have Rg_8 := Lib.hid (Rg_7.out.below hb)
    have Ta_8 : RowKit.Hid (TermV w8 Aa na ca _) := Lib.hid (hq1.keep fun q hq => ⟨hq.2, fun _ => rfl⟩)
    clear hb hq1
    have HC8 := Lib.hid (refApply_any (HT.out.below HB8.out) (HL.out.below HB8.out))
    rw [HXA.out] at HC8
    go_wp2_with fail
    refine (HC8.out).mono ?_
    rintro e w9 ⟨hb, Ab, nb, cb, rfl, hq1⟩
    have HB9 := Lib.hid (HB8.out.trans (hb.mono HB8.out.size))
    have Tf_9 := Lib.hid (Tf_8.out.below hb)
    have Rf_9 := Lib.hid (Rf_8.out.below hb)
    have Tg_9 := Lib.hid (Tg_8.out.below hb)
    have Rg_9 := Lib.hid (Rg_8.out.below hb)
    have Ta_9 := Lib.hid (Ta_8.out.below hb)
    have Tb_9 : RowKit.Hid (TermV w9 Ab nb cb _) := Lib.hid (hq1.keep fun q hq => ⟨hq.2, fun _ => rfl⟩)
    clear hb hq1
    have HC9 := Lib.hid (bind_any (op := op) (HT.out.below HB9.out) (HL.out.below HB9.out))
    rw [HXB.out] at HC9
    go_wp2_with fail
    refine (HC9.out).mono ?_
    rintro e w10 ⟨hb, Ap, np, cp, rfl, hq1⟩
    have HB10 := Lib.hid (HB9.out.trans (hb.mono HB9.out.size))
    have Tf_10 := Lib.hid (Tf_9.out.below hb)
    have Rf_10 := Lib.hid (Rf_9.out.below hb)
    have Tg_10 := Lib.hid (Tg_9.out.below hb)
    have Rg_10 := Lib.hid (Rg_9.out.below hb)
    have Ta_10 := Lib.hid (Ta_9.out.below hb)
    have Tb_10 := Lib.hid (Tb_9.out.below hb)
    have Tp_10 : RowKit.Hid (TermV w10 Ap np cp _) := Lib.hid (hq1.keep fun q hq => ⟨hq.2, fun _ => rfl⟩)
    clear hb hq1
    have HC10 := Lib.hid (refBind_any (op := op) (HT.out.below HB10.out) (HL.out.below HB10.out))
    rw [HXB.out] at HC10
    go_wp2_with fail
    refine (HC10.out).mono ?_
    rintro e w11 ⟨hb, Aq, nq, cq, rfl, hq1⟩
    have HB11 := Lib.hid (HB10.out.trans (hb.mono HB10.out.size))
    have Tf_11 := Lib.hid (Tf_10.out.below hb)
    have Rf_11 := Lib.hid (Rf_10.out.below hb)
    have Tg_11 := Lib.hid (Tg_10.out.below hb)
    have Rg_11 := Lib.hid (Rg_10.out.below hb)
    have Ta_11 := Lib.hid (Ta_10.out.below hb)
    have Tb_11 := Lib.hid (Tb_10.out.below hb)
    have Tp_11 := Lib.hid (Tp_10.out.below hb)
    have Tq_11 : RowKit.Hid (TermV w11 Aq nq cq _) := Lib.hid (hq1.keep fun q hq => ⟨hq.2, fun _ => rfl⟩)
    clear hb hq1
    have HC11 := Lib.hid (same_any w11 Tf_11.out Tg_11.out)
    rw [decide_eq_true rfl] at HC11
    go_wp2_with fail
    refine (HC11.out).mono ?_
    rintro e w12 ⟨rfl, q12, hw⟩
    have hb : Below w11.heap.size w11 w12 := by rw [hw]; exact below_drewN (Below.refl _ _) _
    have HB12 := Lib.hid (HB11.out.trans (hb.mono HB11.out.size))
    have Rf_12 := Lib.hid (Rf_11.out.below hb)
    have Rg_12 := Lib.hid (Rg_11.out.below hb)
    have Ta_12 := Lib.hid (Ta_11.out.below hb)
    have Tb_12 := Lib.hid (Tb_11.out.below hb)
    have Tp_12 := Lib.hid (Tp_11.out.below hb)
    have Tq_12 := Lib.hid (Tq_11.out.below hb)
    clear hb hw
    dsimp only
    have HC12 := Lib.hid (sameRows_any w12 (fun q hq => hq) (fun q hq => hq) Rf_12.out Rg_12.out)
    rw [decide_eq_true rfl] at HC12
    go_wp2_with fail
    refine (HC12.out).mono ?_
    rintro e w13 ⟨rfl, q13, hw⟩
    have hb : Below w12.heap.size w12 w13 := by rw [hw]; exact below_drewN (Below.refl _ _) _
    have HB13 := Lib.hid (HB12.out.trans (hb.mono HB12.out.size))
    have Ta_13 := Lib.hid (Ta_12.out.below hb)
    have Tb_13 := Lib.hid (Tb_12.out.below hb)
    have Tp_13 := Lib.hid (Tp_12.out.below hb)
    have Tq_13 := Lib.hid (Tq_12.out.below hb)
    clear hb hw
    dsimp only
    have HC13 := Lib.hid (same_any w13 Ta_13.out Tb_13.out)
    rw [decide_eq_true rfl] at HC13
    go_wp2_with fail
    refine (HC13.out).mono ?_
    rintro e w14 ⟨rfl, q14, hw⟩
    have hb : Below w13.heap.size w13 w14 := by rw [hw]; exact below_drewN (Below.refl _ _) _
    have HB14 := Lib.hid (HB13.out.trans (hb.mono HB13.out.size))
    have Tp_14 := Lib.hid (Tp_13.out.below hb)
    have Tq_14 := Lib.hid (Tq_13.out.below hb)
    clear hb hw
    dsimp only
    have HC14 := Lib.hid (same_any w14 Tp_14.out Tq_14.out)
    rw [decide_eq_true rfl] at HC14
    go_wp2_with fail
    refine (HC14.out).mono ?_
    rintro e w15 ⟨rfl, q15, hw⟩
    have hb : Below w14.heap.size w14 w15 := by rw [hw]; exact below_drewN (Below.refl _ _) _
    have HB15 := Lib.hid (HB14.out.trans (hb.mono HB14.out.size))
    clear hb hw
    dsimp only
    go_wp2_with fail
    go_ret
    exact ret_true HB15.out

end Go.Proofs.Ytnmeglbamfjcgaa
