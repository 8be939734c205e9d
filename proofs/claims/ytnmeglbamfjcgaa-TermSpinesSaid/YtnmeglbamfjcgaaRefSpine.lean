/- Spine of the reference. -/
import Derived.Test.YtnmeglbamfjcgaaSpines1
import Derived.Test.YtnmeglbamfjcgaaRefLift
namespace Go.Proofs.Ytnmeglbamfjcgaa
open Go.RowKit

theorem own_cells {w : World} {base j d : Nat} {B : Option Addr} {e : TypeId} {xs : List Value} (h : w.ownsRow base e 1 (.slice B j d) j xs) : ∀ ad, B = some ad → ∀ i u, xs[i]? = some u → w.cell? (ad.add i) = some u := by
  intro ad he i u hu
  have hl := h.1
  have hi := (List.getElem?_eq_some_iff.1 hu).1
  have h0 := h
  rcases h.2 with ⟨hv, _⟩ | ⟨g, cap, cur, hv, _⟩
  · injection hv with e1
    rw [he] at e1
    cases e1
  · injection hv with e1
    rw [he] at e1
    injection e1 with e1
    subst e1
    subst he
    have ea : (⟨g, 0, none⟩ : Addr).add i = ⟨g, i, none⟩ := by unfold Addr.add; split <;> simp_all
    rw [ea, h0.cellAt i (by omega)]
    exact hu
theorem own_zero {w : World} {base j d : Nat} {B : Option Addr} {e : TypeId} {xs : List Value} (h : w.ownsRow base e 1 (.slice B j d) j xs) : B = none → j = 0 := by
  intro hB
  rcases h.2 with ⟨_, h2⟩ | ⟨g, cap, cur, hv, _⟩
  · exact h2
  · injection hv with e1
    rw [hB] at e1
    cases e1
theorem blk_six {w : World} {g : Nat} {a0 a1 a2 a3 a4 a5 : Value} (h : Blk w g 64 #[a0, a1, a2, a3, a4, a5]) (x0 x1 x2 x3 x4 x5 : Value) : Blk ((((((w.setCell ⟨g, 0, none⟩ x0).setCell ⟨g, 1, none⟩ x1).setCell ⟨g, 2, none⟩ x2).setCell ⟨g, 3, none⟩ x3).setCell ⟨g, 4, none⟩ x4).setCell ⟨g, 5, none⟩ x5) g 64 #[x0, x1, x2, x3, x4, x5] := by
  have := (((((h.set_ 0 x0).set_ 1 x1).set_ 2 x2).set_ 3 x3).set_ 4 x4).set_ 5 x5
  simpa using this
theorem grown_six (w : World) (g : Nat) (x0 x1 x2 x3 x4 x5 : Value) : w.grownBy ((((((w.setCell ⟨g, 0, none⟩ x0).setCell ⟨g, 1, none⟩ x1).setCell ⟨g, 2, none⟩ x2).setCell ⟨g, 3, none⟩ x3).setCell ⟨g, 4, none⟩ x4).setCell ⟨g, 5, none⟩ x5) (some g) :=
  (((((grown_setv _ g 0 x0).trans (grown_setv _ g 1 x1)).trans (grown_setv _ g 2 x2)).trans (grown_setv _ g 3 x3)).trans (grown_setv _ g 4 x4)).trans (grown_setv _ g 5 x5)

set_option linter.unusedSimpArgs false in
set_option maxRecDepth 100000 in
set_option maxHeartbeats 4000000 in
theorem refSpine_any {A : Option Addr} {n c : Nat} {t : List Nd} {w : World} (h : TermV w A n c t) :
    Calls Try.prog 35 #[.slice A n c] w (SpinePost (spineR t) w) := by
  obtain ⟨i1, hi', hy0', hy1', hy2'⟩ := info_parts infoR
  have HI1 := Lib.hid hi'
  have HZ0 := Lib.hid hy0'
  have HZ1 := Lib.hid hy1'
  have HZ2 := Lib.hid hy2'
  have HOF := Lib.hid (refOf_any h)
  have hl1 := h.len
  clear hi' hy0' hy1' hy2' h
  go_enter Try.func35, Try.ntmps35
  go_wp2_with fail
  refine (HOF.out).mono ?_
  rintro e w2 ⟨hb2, ⟨hs, rfl⟩ | ⟨xs0, n0, a0, k0, rfl, ht0, hpp, hs⟩⟩
  · have HQ : RowKit.Hid (spineR t = ([], [])) := Lib.hid (by unfold spineR; rw [if_neg hs])
    have HB2 := Lib.hid hb2
    clear hb2 hs
    unfold treeNil
    go_wp2_with fail
    go_ret2
    rw [HQ.out]
    exact ⟨HB2.out.alloc HB2.out.size _, none, 0, 0, none, 0, 0, rfl, TermV.nil _, ⟨rfl, by decide, fun h => absurd h (by decide)⟩, fun _ => rfl⟩
  · obtain ⟨h4, _⟩ := shape_ok hs
    have hrt : Rt t n0 a0 k0 := ⟨hpp, h4⟩
    have hsp : spineR t = spT t.length t n0 k0 := by unfold spineR; rw [if_pos hs, rt_top hrt]
    obtain ⟨m, hm⟩ : ∃ m, m = t.length := ⟨_, rfl⟩
    rw [← hm] at hsp
    obtain ⟨F, L, hFL⟩ : ∃ F L, spT m t n0 k0 = (F, L) := ⟨_, _, rfl⟩
    rw [hFL] at hsp
    have HSP := Lib.hid hsp
    have HRT := Lib.hid hrt
    have HFL := Lib.hid hFL
    have HM := Lib.hid hm
    have HB2 := Lib.hid hb2
    have HT0 := Lib.hid ht0
    obtain ⟨sk, sa, sf, rfl, ⟨Ak, nk, ck, rfl, _⟩, ⟨Aa, na, ca, rfl, _⟩, ⟨Af, nf, cf, rfl, _⟩⟩ := ht0
    have hs2 := hb2.size
    have HBK := Lib.hid (Blk.new w2 64 #[.int .i64 n0.op, .int .i64 n0.a, .int .i64 n0.b, .slice Ak nk ck, .slice Aa na ca, .slice Af nf cf])
    have HB22 := Lib.hid (below_alloc w2 (.cells #[.int .i64 n0.op, .int .i64 n0.a, .int .i64 n0.b, .slice Ak nk ck, .slice Aa na ca, .slice Af nf cf] 64))
    clear hs hrt hsp hFL hm hpp hb2
    go_wp2_with fail
    go_loopw [6] (fun av wr => ∃ (m' j d : Nat) (B : Option Addr) (tc : List Nd) (n1 : Nd) (a1 : List Nd) (k1 : Fo) (Ak : Option Addr) (nk ck : Nat) (Aa : Option Addr) (na ca : Nat) (Af : Option Addr) (nf cf : Nat) (xs : List Value) (ls : List (List Nd)), av = .slice B j d ∧ j + tc.length ≤ 4096 ∧ RowKit.Hid (Rt tc n1 a1 k1) ∧ RowKit.Hid (tc.length ≤ m') ∧ RowKit.Hid ((spT m' tc n1 k1).1 = F ∧ (spT m' tc n1 k1).2 ++ ls = L) ∧ RowKit.Hid (Blk wr w2.heap.size 64 #[.int .i64 n1.op, .int .i64 n1.a, .int .i64 n1.b, .slice Ak nk ck, .slice Aa na ca, .slice Af nf cf]) ∧ RowKit.Hid (TreeC (fresh w w2) w2 [.int .i64 n1.op, .int .i64 n1.a, .int .i64 n1.b, .slice Ak nk ck, .slice Aa na ca, .slice Af nf cf] n1 a1 k1) ∧ RowKit.Hid (wr.ownsRow (w2.heap.size + 1) 23 1 (.slice B j d) j xs) ∧ RowKit.Hid (RowsC (Aside (w2.heap.size + 1) wr (.slice B j d)) wr xs ls) ∧ RowKit.Hid (Below w2.heap.size w2 wr)) (fun av _ => 5000 - lenOf av)
    case atStart => exact ⟨m, 0, 0, none, t, n0, a0, k0, Ak, nk, ck, Aa, na, ca, Af, nf, cf, [], [], rfl, by omega, HRT, Lib.hid (by rw [HM.out]; exact Nat.le_refl _), Lib.hid (by rw [HFL.out]; exact ⟨rfl, by simp⟩), HBK, HT0, Lib.hid (World.ownsRow_nil _ _ _ _), Lib.hid trivial, HB22⟩
    case round =>
      obtain ⟨m', j, d, B, tc, n1, a1, k1, Ak, nk, ck, Aa, na, ca, Af, nf, cf, xs, ls, rfl, hjn, hrt, hm', hsp, hblk, htree, hown, hrows, hbw⟩ := hrel
      have zc := Blk.cell hblk.out
      have hgx := Blk.lt hblk.out
      have HTW : RowKit.Hid (TreeC (fresh w w2) wr [.int .i64 n1.op, .int .i64 n1.a, .int .i64 n1.b, .slice Ak nk ck, .slice Aa na ca, .slice Af nf cf] n1 a1 k1) := Lib.hid (htree.out.keep fun b hb => ⟨hb, fun o => hbw.out.cell (p := ⟨b, o, none⟩) hb.2⟩)
      have hRr : ∀ b, fresh w w2 b → b < wr.heap.size := fun b hb => by have := hb.2; omega
      have HRR := Lib.hid hRr
      clear hRr
      by_cases h6 : n1.op = 6
      · obtain ⟨nx, ax, kx, ny, ay, ky, rfl, hsplit⟩ := app_split hrt.out h6
        obtain ⟨sk', sa', sf', he, ⟨Ak', nk', ck', rfl, hkk⟩, _, _⟩ := HTW.out
        simp only [List.cons.injEq, Value.slice.injEq, true_and, and_true] at he
        obtain ⟨⟨rfl, rfl, rfl⟩, _, _⟩ := he
        obtain ⟨b1, o1, sk1, sa1, sf1, rfl, hrb1, ⟨_, _, _, he1, ⟨Ak1, nk1, ck1, rfl, hkk1⟩, ⟨Aa1, na1, ca1, rfl, haa1⟩, ⟨Af1, nf1, cf1, rfl, hff1⟩⟩, p0, p1, p2, p3, p4, p5⟩ := KidsR.at_ (F1 := .nil) (F2 := .cons [] ny ay ky .nil) hkk
        obtain ⟨b2, o2, sk2, sa2, sf2, e2, hrb2, ⟨_, _, _, he2, ⟨Ak2, nk2, ck2, rfl, hkk2⟩, ⟨Aa2, na2, ca2, rfl, haa2⟩, ⟨Af2, nf2, cf2, rfl, hff2⟩⟩, q0, q1, q2, q3, q4, q5⟩ := KidsR.at_ (F1 := .cons [] nx ax kx .nil) (F2 := .nil) hkk
        injection e2 with e2
        injection e2 with e21 e22
        subst e21 e22
        simp only [List.cons.injEq, true_and, and_true] at he1 he2
        obtain ⟨rfl, rfl, rfl⟩ := he1
        obtain ⟨rfl, rfl, rfl⟩ := he2
        have ht2 : TreeC (fresh w w2) wr [.int .i64 ny.op, .int .i64 ny.a, .int .i64 ny.b, .slice Ak2 nk2 ck2, .slice Aa2 na2 ca2, .slice Af2 nf2 cf2] ny ay ky := ⟨_, _, _, rfl, ⟨_, _, _, rfl, hkk2⟩, ⟨_, _, _, rfl, haa2⟩, ⟨_, _, _, rfl, hff2⟩⟩
        have HT1 : RowKit.Hid (TreeC (fresh w w2) wr [.int .i64 nx.op, .int .i64 nx.a, .int .i64 nx.b, .slice Ak1 nk1 ck1, .slice Aa1 na1 ca1, .slice Af1 nf1 cf1] nx ax kx) := Lib.hid ⟨_, _, _, rfl, ⟨_, _, _, rfl, hkk1⟩, ⟨_, _, _, rfl, haa1⟩, ⟨_, _, _, rfl, hff1⟩⟩
        have hnk : nk = 2 := by rw [← hkk.len]; rfl
        subst hnk
        rw [show flen Fo.nil = 0 from rfl, Nat.zero_mul, Nat.add_zero] at p0 p1 p2 p3 p4 p5
        rw [show flen (Fo.cons [] nx ax kx .nil) = 1 from rfl, Nat.one_mul] at q0 q1 q2 q3 q4 q5
        obtain ⟨hf1, hf2, hq, hend⟩ := hsplit
        cases m' with
        | zero => have := hm'.out; rw [hq] at this; simp at this
        | succ m' =>
        have hsp2 := hsp.out
        rw [spT_app h6] at hsp2
        have HROW := Lib.hid (row_any HRR.out ht2 (pre_of_wf hf2.wf.2.2) (by have := hf2.few; simp only [row, List.length_append, List.length_cons, List.length_nil, List.nil_append, List.append_nil] at this ⊢; omega))
        rw [show row (.cons [] ny ay ky .nil) = ny :: (ay ++ row ky) from by simp [row]] at HROW
        obtain ⟨r1, hr1⟩ : ∃ r1, r1 = nx :: (ax ++ row kx) := ⟨_, rfl⟩
        obtain ⟨r2, hr2⟩ : ∃ r2, r2 = ny :: (ay ++ row ky) := ⟨_, rfl⟩
        rw [← hr1] at hf1 hq hsp2
        rw [← hr2] at hq hsp2 HROW
        have hlq := congrArg List.length hq
        simp only [List.length_cons, List.length_append] at hlq
        have hr2l : 0 < r2.length := by rw [hr2]; simp
        have HML : RowKit.Hid (r1.length ≤ m') := Lib.hid (by have := hm'.out; omega)
        have hjr : 1 + j + r1.length ≤ 4096 := by omega
        have HF1 := Lib.hid hf1
        have HSP2 := Lib.hid hsp2
        have HT1W := Lib.hid (HT1.out.keep (R' := fresh w w2) (w' := w2) fun b hb => ⟨hb, fun o => (hbw.out.cell (p := ⟨b, o, none⟩) hb.2).symm⟩)
        have h6b : (n1.op == 6) = true := by simp [h6]
        have HP : RowKit.Hid (∀ (w' : World), Below w2.heap.size w2 w' → ∀ o v, wr.cell? ⟨b1, o, none⟩ = some v → w'.cell? ⟨b1, o, none⟩ = some v) := Lib.hid fun w' hb o v hv => ((hb.cell (p := ⟨b1, o, none⟩) hrb1.2).trans (hbw.out.cell (p := ⟨b1, o, none⟩) hrb1.2).symm).trans hv
        have HPS := Lib.hid (And.intro p0 (And.intro p1 (And.intro p2 (And.intro p3 (And.intro p4 p5)))))
        have hj4 : j ≤ 4096 := by omega
        clear hf1 hf2 hq hend hsp2 hr1 hr2 hlq hr2l h6 ht2 hkk hkk1 haa1 hff1 hkk2 haa2 hff2 hrb1 hrb2 p0 p1 p2 p3 p4 p5
        go_wp2_with fail
        refine (HROW.out).mono ?_
        rintro e w3 ⟨hb3, A3, n3, c3, rfl, ht3⟩
        have HBLK3 := Lib.hid (hblk.out.below hb3 hgx)
        have HO3 := Lib.hid (own_below hown.out hb3)
        have HBW3 := Lib.hid (hbw.out.trans (hb3.mono hbw.out.size))
        have HR3 := Lib.hid (RowsC.keep (S' := Aside (w2.heap.size + 1) w3 (.slice B j d)) (w' := w3) (fun q hq => ⟨⟨hq.1, Nat.lt_of_lt_of_le hq.2.1 hb3.size, hq.2.2⟩, fun o => hb3.cell (p := ⟨q, o, none⟩) hq.2.1⟩) hrows.out)
        have hs3 := hb3.size
        have HT3 : RowKit.Hid (TermR (fun q => w2.heap.size + 1 ≤ q ∧ q < w3.heap.size) w3 A3 n3 c3 r2) := Lib.hid (ht3.keep fun q hq => ⟨⟨by have := hq.1; omega, hq.2⟩, fun _ => rfl⟩)
        have HLIT : RowKit.Hid ((w3.alloc (.cells #[.slice A3 n3 c3] 23)).ownsRow (w2.heap.size + 1) 23 1 (.slice (some ⟨w3.heap.size, 0, none⟩) 1 1) 1 [.slice A3 n3 c3]) := Lib.hid ⟨by simp, .inr ⟨w3.heap.size, 1, #[.slice A3 n3 c3], rfl, by omega, heap_alloc_new w3 _, by omega, by unfold maxLen; omega, rfl, rfl⟩⟩
        have hxl := HO3.out.1
        have HXC := Lib.hid (own_cells (World.ownsRow.alloc HO3.out (.cells #[.slice A3 n3 c3] 23)))
        have HX1 : RowKit.Hid (∀ u ∈ xs, u.oneCell' = true) := Lib.hid fun u hu => by
          obtain ⟨_, _, _, rfl⟩ := rows_slices HR3.out u hu
          rfl
        have HNO : RowKit.Hid (B = none → j = 0 ∧ d = 0) := Lib.hid fun e => ⟨own_zero HO3.out e, own_nul HO3.out e⟩
        have hbase : w2.heap.size + 1 ≤ w3.heap.size := by omega
        clear hb3 ht3
        go_wp2_with (at_builtin; go_loud (refine wpList_oper rfl (oper_append_mine (.tmp 23) (.tmp 24) 41 rfl (w2.heap.size + 1) 23 i1 _ 1 24 Try.underlying41 HI1.out HZ0.out HZ1.out HZ2.out rfl (by decide) (.slice (some ⟨w3.heap.size, 0, none⟩) 1 1) 1 [.slice A3 n3 c3] rfl HLIT.out B j d xs rfl (by omega) HNO.out HXC.out HX1.out (by unfold maxLen; omega) (by omega) (Nat.le_trans hbase (by simp)) ?_)); intro A5 c5 w5 happ5; go_loud (have hbwl := HBW3.out.alloc (show w2.heap.size ≤ w3.heap.size by omega) (.cells #[.slice A3 n3 c3] 23)); go_loud (have hsl : (w3.alloc (.cells #[.slice A3 n3 c3] 23)).heap.size = w3.heap.size + 1 := by simp); go_loud (have HBW5 := Lib.hid (hbwl.grown happ5.grown (by omega) (fun g hg => by have := (ownsRow_block HLIT.out hg).1; omega))); go_loud (have hblk5 : Blk w5 w2.heap.size 64 #[.int .i64 n1.op, .int .i64 n1.a, .int .i64 n1.b, .slice (some ⟨b1, o1, none⟩) 2 ck, .slice Aa na ca, .slice Af nf cf] := Blk.grown (HBLK3.out.alloc _) happ5.grown (own_ne HLIT.out (Nat.lt_succ_self _))); go_loud (have zc5 := Blk.cell hblk5); go_loud (have zf5 := Blk.frozen hblk5); have HBLK5 := Lib.hid hblk5; obtain ⟨p0, p1, p2, p3, p4, p5⟩ := HPS.out; have p0' := HP.out _ HBW5.out _ _ p0; have p1' := HP.out _ HBW5.out _ _ p1; have p2' := HP.out _ HBW5.out _ _ p2; have p3' := HP.out _ HBW5.out _ _ p3; have p4' := HP.out _ HBW5.out _ _ p4; have p5' := HP.out _ HBW5.out _ _ p5; clear p0 p1 p2 p3 p4 p5 hblk5 hbwl)
        have HO5 := Lib.hid happ5.own
        have hsg5 := happ5.grown.size
        have HR5 : RowKit.Hid (RowsC (Aside (w2.heap.size + 1) w5 (.slice A5 (1 + j) c5)) w5 ([.slice A3 n3 c3] ++ xs) (r2 :: ls)) := Lib.hid (by
          have hnew : ∀ q, q < w3.heap.size → (Value.slice A5 (1 + j) c5).ownBlock ≠ some q := fun q hq e => by
            rcases happ5.new q e with h1 | h1
            · have h2 : some w3.heap.size = some q := h1
              injection h2 with h2
              omega
            · rw [hsl] at h1; omega
          have hcell : ∀ q, q < w3.heap.size → ∀ o, w5.cell? ⟨q, o, none⟩ = w3.cell? ⟨q, o, none⟩ := fun q hq o => (cell_of_heap (happ5.grown.block q (by rw [hsl]; omega) (fun e => by
            have h2 : some q = some w3.heap.size := e
            injection h2 with h2
            omega)) o).trans (cell_of_heap (Below.heap_alloc _ _ _ hq) o)
          exact ⟨⟨A3, n3, c3, rfl, HT3.out.keep fun q hq => ⟨⟨hq.1, by omega, hnew q hq.2⟩, hcell q hq.2⟩⟩, HR3.out.keep fun q hq => ⟨⟨hq.1, by have := hq.2.1; omega, hnew q hq.2.1⟩, hcell q hq.2.1⟩⟩)
        clear happ5
        go_roundw
        case rel =>
          have hg6 := grown_six w5 w2.heap.size (.int .i64 nx.op) (.int .i64 nx.a) (.int .i64 nx.b) (.slice Ak1 nk1 ck1) (.slice Aa1 na1 ca1) (.slice Af1 nf1 cf1)
          refine ⟨m', 1 + j, c5, A5, r1, nx, ax, kx, Ak1, nk1, ck1, Aa1, na1, ca1, Af1, nf1, cf1, [.slice A3 n3 c3] ++ xs, r2 :: ls, rfl, hjr, HF1, HML, Lib.hid ⟨HSP2.out.1, by rw [← HSP2.out.2]; simp⟩, Lib.hid (blk_six HBLK5.out _ _ _ _ _ _), HT1W, Lib.hid (World.ownsRow.kept HO5.out hg6 (.inr (own_ne HO5.out (Nat.lt_succ_self _)).symm)), Lib.hid (HR5.out.keep fun q hq => ?_), Lib.hid (HBW5.out.grown hg6 (by omega) (fun q hq => by injection hq with hq; omega))⟩
          have hqn : q ≠ w2.heap.size := by have := hq.1; omega
          exact ⟨⟨hq.1, by rw [six_size]; exact hq.2.1, hq.2.2⟩, fun o => cell_of_heap (six_far hqn _ _ _ _ _ _) o⟩
        case measure => simp only [lenOf]; omega
      · have h6b : (n1.op == 6) = false := by simp [h6]
        have HE : RowKit.Hid (spineR t = (tc, ls)) := Lib.hid (by
          have h1 := hsp.out
          rw [spT_stop h6] at h1
          rw [HSP.out, ← h1.1, ← h1.2]
          simp)
        have HROW := Lib.hid (row_any HRR.out HTW.out (pre_of_wf hrt.out.wf.2.2) (by have := hrt.out.few; rw [hrt.out.eq] at this; simp only [row, List.length_append, List.length_cons, List.length_nil, List.nil_append, List.append_nil] at this ⊢; omega))
        rw [show row (.cons [] n1 a1 k1 .nil) = tc from by rw [hrt.out.eq]; simp [row]] at HROW
        clear h6
        go_wp2_with fail
        refine (HROW.out).mono ?_
        rintro e w3 ⟨hb3, A3, n3, c3, rfl, ht3⟩
        have HO3 := Lib.hid (own_below hown.out hb3)
        have HBW3 := Lib.hid (HB2.out.trans ((hbw.out.trans (hb3.mono hbw.out.size)).mono HB2.out.size))
        have HR3 := Lib.hid (RowsC.keep (S' := Aside (w2.heap.size + 1) w3 (.slice B j d)) (w' := w3) (fun q hq => ⟨⟨hq.1, Nat.lt_of_lt_of_le hq.2.1 hb3.size, hq.2.2⟩, fun o => hb3.cell (p := ⟨q, o, none⟩) hq.2.1⟩) hrows.out)
        have HT3 : RowKit.Hid (TermV w3 A3 n3 c3 tc) := Lib.hid (ht3.keep fun q hq => ⟨hq.2, fun _ => rfl⟩)
        clear hb3 ht3
        go_wp2_with fail
        go_ret2
        rw [HE.out]
        exact ⟨HBW3.out, A3, n3, c3, B, j, d, rfl, HT3.out, own_rows (ls := ls) HO3.out (by have := hrows.out.len; have := hown.out.1; omega) (by omega) HR3.out (fun q hq => hq.2.1), own_nul HO3.out⟩

end Go.Proofs.Ytnmeglbamfjcgaa
