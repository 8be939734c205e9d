/- Raise of the reference: the free variables of a tree from one on are made higher. -/
import Derived.Test.YtnmeglbamfjcgaaProg
import Derived.Test.YtnmeglbamfjcgaaMem
import Derived.Test.YtnmeglbamfjcgaaTree
import Derived.Test.YtnmeglbamfjcgaaOwn
import Derived.Test.YtnmeglbamfjcgaaOwn2
import Derived.Test.YtnmeglbamfjcgaaOwn3
import Derived.Test.YtnmeglbamfjcgaaFold
import Derived.Test.YtnmeglbamfjcgaaLiftP
import Derived.Test.YtnmeglbamfjcgaaHeldE
import Derived.Test.YtnmeglbamfjcgaaLeaf2
import Derived.Test.YtnmeglbamfjcgaaAtoms
import Derived.Test.YtnmeglbamfjcgaaRead
import Derived.Test.YtnmeglbamfjcgaaRead2
import Derived.WalkKit
import Derived.WalkLawsBesides
import Derived.WalkSpells
import Derived.Lib.Hide
import Derived.Deep.RegionHeld3
namespace Go.Proofs.Ytnmeglbamfjcgaa
open Go.RowKit

theorem results_raise {w : World} {g : Nat} {c0 c1 c2 c3 c4 c5 : Value} {tmps : Array Value} (h : Blk w g 64 #[c0, c1, c2, c3, c4, c5]) (ht : tmps.getD 6 undef = .pointer (some ⟨g, 0, none⟩)) :
    (results Try.f55 tmps).run Try.prog w = .ok (.agg #[c0, c1, c2, c3, c4, c5]) w := by
  have hc := h.cell
  have ht' : tmps[6]?.getD undef = .pointer (some ⟨g, 0, none⟩) := by rw [← ht]; simp
  simp [results, Try.results55, go_sem, ht', hc]

theorem Blk.cast {w : World} {g g' : Nat} {t : TypeId} {cs : Array Value} (e : g = g') (h : Blk w g t cs) : Blk w g' t cs := e ▸ h

theorem raise_six_size (w : World) (g : Nat) (a b c d x y : Value) : ((((((w.setCell ⟨g, 0, none⟩ a).setCell ⟨g, 1, none⟩ b).setCell ⟨g, 2, none⟩ c).setCell ⟨g, 3, none⟩ d).setCell ⟨g, 4, none⟩ x).setCell ⟨g, 5, none⟩ y).heap.size = w.heap.size := by
  simp [World.setCell]

/-- The tree that comes back lies in its own memory; the slices that it took over are where they were. -/
theorem lift_end {R : Nat → Prop} {w wr : World} {n : Nd} {ats : List Nd} {G : Fo} {A1 : Option Addr} {j k1 : Nat} {x y : Value} {xs : List Value} (hR : ∀ b, R b → b < w.heap.size) (hbw : Below w.heap.size w wr)
    (hown : wr.ownsRow (w.heap.size + 3) 64 6 (.slice A1 j k1) j xs) (hj : flen G = j) (hfc : FoC (Beside1 R (w.heap.size + 3) wr (.slice A1 j k1)) wr G xs) (hx : TermS R w x ats) (hy : TermS R w y (press G)) :
    TreePost R w n ats G (.returned (.agg #[.int .i64 n.op, .int .i64 n.a, .int .i64 n.b, .slice A1 j k1, x, y])) ((((((wr.setCell ⟨w.heap.size + 1, 0, none⟩ (.int .i64 n.op)).setCell ⟨w.heap.size + 1, 1, none⟩ (.int .i64 n.a)).setCell ⟨w.heap.size + 1, 2, none⟩ (.int .i64 n.b)).setCell ⟨w.heap.size + 1, 3, none⟩ (.slice A1 j k1)).setCell ⟨w.heap.size + 1, 4, none⟩ x).setCell ⟨w.heap.size + 1, 5, none⟩ y) := by
  have hw6 := raise_six_size wr (w.heap.size + 1) (.int .i64 n.op) (.int .i64 n.a) (.int .i64 n.b) (.slice A1 j k1) x y
  have hb6 := below_six hbw (Nat.le_succ w.heap.size) (.int .i64 n.op) (.int .i64 n.a) (.int .i64 n.b) (.slice A1 j k1) x y
  have hO := own_six hown (show w.heap.size + 1 < w.heap.size + 3 by omega) (.int .i64 n.op) (.int .i64 n.a) (.int .i64 n.b) (.slice A1 j k1) x y
  refine ⟨hb6, _, rfl, _, _, _, rfl, ?_, ?_, ?_⟩
  · refine kids_of_own (by rw [hj]; exact hO) (FoC.keep ?_ _ _ hfc) ?_
    · rintro b ⟨hb1, _⟩
      have hne : b ≠ w.heap.size + 1 := by
        rcases hb1 with h | h
        · have := hR b h; omega
        · omega
      refine ⟨?_, fun o => cell_six wr hne _ _ _ _ _ _ o⟩
      rcases hb1 with h | h
      · exact .inl h
      · exact .inr ⟨by omega, by rw [hw6]; exact h.2⟩
    · intro b hb
      have h3 := ownsRow_block hown hb
      exact .inr ⟨by omega, by rw [hw6]; exact h3.2.1⟩
  · exact hx.keep fun b hb => ⟨.inl hb, fun o => hb6.cell (p := ⟨b, o, none⟩) (hR b hb)⟩
  · exact hy.keep fun b hb => ⟨.inl hb, fun o => hb6.cell (p := ⟨b, o, none⟩) (hR b hb)⟩

theorem tree_one (a b c : Int) (x y z : Option Addr × Nat × Nat) : ∀ u ∈ [Value.int .i64 a, .int .i64 b, .int .i64 c, .slice x.1 x.2.1 x.2.2, .slice y.1 y.2.1 y.2.2, .slice z.1 z.2.1 z.2.2], u.oneCell' = true := by
  intro u hu
  simp at hu
  rcases hu with rfl | rfl | rfl | rfl | rfl | rfl <;> rfl

/-- A variable alone, in no memory. -/
theorem treeC_var {R : Nat → Prop} {w : World} (a : Int) : TreeC R w [.int .i64 1, .int .i64 a, .int .i64 0, .slice none 0 0, .slice none 0 0, .slice none 0 0] ⟨1, a, 0⟩ [] .nil :=
  ⟨_, _, _, rfl, ⟨none, 0, 0, rfl, rfl, Nat.le_refl _, fun h => absurd h (by omega)⟩, TermS.nil R w, TermS.nil R w⟩

set_option linter.unusedSimpArgs false in
set_option maxRecDepth 100000 in
set_option maxHeartbeats 8000000 in
theorem raise_step (m : Nat) (ih : ∀ (w : World) (R : Nat → Prop) (xs : List Value) (n : Nd) (atoms : List Nd) (kids : Fo) (up u : Int), (∀ b, R b → b < w.heap.size) → TreeC R w xs n atoms kids → okN n = true → AllOk kids → 0 ≤ up → up ≤ 1000000000000 → 0 ≤ u → u + 4 * fsize kids ≤ 1000000000000 → fsize kids < m →
      Calls Try.prog 55 #[.agg xs.toArray, .int .i64 up, .int .i64 u] w (TreePost R w (raiN up n u) (raiA n atoms u) (raiK up n kids u)))
    (w : World) (R : Nat → Prop) (xs : List Value) (n : Nd) (atoms : List Nd) (kids : Fo) (up u : Int) (hR : ∀ b, R b → b < w.heap.size) (ht : TreeC R w xs n atoms kids) (hok : okN n = true) (hall : AllOk kids) (hup0 : 0 ≤ up) (hup1 : up ≤ 1000000000000) (hu0 : 0 ≤ u) (hu1 : u + 4 * fsize kids ≤ 1000000000000) (hsz : fsize kids ≤ m) :
    Calls Try.prog 55 #[.agg xs.toArray, .int .i64 up, .int .i64 u] w (TreePost R w (raiN up n u) (raiA n atoms u) (raiK up n kids u)) := by
  have HI := Lib.hid ih
  clear ih
  obtain ⟨sk, sa, sf, rfl, ⟨Ak, nk, ck, rfl, hkk⟩, ⟨Aa, na, ca, rfl, haa⟩, ⟨Af, nf, cf, rfl, hff⟩⟩ := ht
  have hna := (plainB_a ((by simp only [okN, Bool.and_eq_true] at hok; exact hok.1.1) : plainB n.op n.a n.b = true))
  by_cases h1 : n.op = 1 ∧ u ≤ n.a
  · have H1 := Lib.hid h1
    obtain ⟨h1, h2⟩ := h1
    have h1b : (n.op == 1) = true := by simp [h1]
    have hu2 : u ≤ 1000000000000 := by omega
    clear h1 hu1
    obtain ⟨hna1, hna2⟩ := hna
    go_enter Try.func55, Try.ntmps55
    go_wp2_with fail
    refine bodyPost_ret (v := .agg #[.int .i64 1, .int .i64 (n.a + up), .int .i64 0, .slice none 0 0, .slice none 0 0, .slice none 0 0]) (results_raise (Blk.new _ _ _) (by simp)) rfl ?_
    refine ⟨below_alloc2 w _ _, _, rfl, ?_⟩
    rw [raiN, raiA, raiK, if_pos H1.out, if_pos H1.out, if_pos H1.out]
    exact treeC_var _
  · have H1 : RowKit.Hid (¬ (n.op = 1 ∧ u ≤ n.a)) := h1
    have hor : ((n.op == 1) = false) ∨ ((n.op == 1) = true ∧ decide (u ≤ n.a) = false) := by
      by_cases h : n.op = 1
      · exact .inr ⟨by simp [h], by simp; have := fun h2 => h1 ⟨h, h2⟩; omega⟩
      · exact .inl (by simp [h])
    have HU := Lib.hid hu1
    have HSZ := Lib.hid hsz
    have HKL := Lib.hid hkk.len
    have HOK := Lib.hid hok
    have hnk : nk ≤ 1000000000000 := by
      have h1 := flen_le_fsize kids
      have h2 := hkk.len
      omega
    clear h1 hu1 hsz hok hna
    rcases hor with h1b | ⟨h1b, h2b⟩
    all_goals
      go_enter Try.func55, Try.ntmps55
      go_wp2_with fail
      go_loopw [8] (fun i wr => ∃ (F1 F2 : Fo) (j : Nat) (A1 : Option Addr) (k1 : Nat) (xs1 : List Value), kids = F1.app F2 ∧ flen F1 = j ∧ i = .int .i64 (j : Int) ∧ Below w.heap.size w wr ∧
          Blk wr w.heap.size 64 #[.int .i64 n.op, .int .i64 n.a, .int .i64 n.b, .slice Ak nk ck, .slice Aa na ca, .slice Af nf cf] ∧
          Blk wr (w.heap.size + 1) 64 #[.int .i64 0, .int .i64 0, .int .i64 0, .slice none 0 0, .slice none 0 0, .slice none 0 0] ∧
          Blk wr (w.heap.size + 1 + 1) 64 #[.int .i64 n.op, .int .i64 n.a, .int .i64 n.b, .slice A1 j k1, .slice Aa na ca, .slice Af nf cf] ∧
          wr.ownsRow (w.heap.size + 3) 64 6 (.slice A1 j k1) j xs1 ∧ FoC (Beside1 R (w.heap.size + 3) wr (.slice A1 j k1)) wr (rai n.op n.b up 0 u F1) xs1) (fun i _ => nk - (intOf i).toNat)
      case atStart =>
        refine ⟨.nil, kids, 0, none, 0, [], rfl, rfl, rfl, (below_alloc2 w _ _).alloc (by simp <;> omega) _, ((Blk.new _ _ _).alloc _).alloc _, ?_, ?_, World.ownsRow_nil _ _ _ _, rfl⟩
        · exact Blk.cast (by simp) ((Blk.new _ _ _).alloc _)
        · exact Blk.cast (by simp) (Blk.new _ _ _)
      case round =>
        obtain ⟨F1, F2, j, A1, k1, xs1, hk, hj, rfl, hbw, hblk, hblk1, hblk2, hown, hfc⟩ := hrel
        have HK := Lib.hid hk
        have HJ := Lib.hid hj
        have HOWN := Lib.hid hown
        have HFC := Lib.hid hfc
        have hkkr := hkk.keep (R' := R) (w' := wr) (fun b hb => ⟨hb, fun o => hbw.cell (p := ⟨b, o, none⟩) (hR b hb)⟩)
        have zc := Blk.cell hblk
        have zc1 := Blk.cell hblk1
        have zf1 := Blk.frozen hblk1
        have zc2 := Blk.cell hblk2
        have zf2 := Blk.frozen hblk2
        have hszb : w.heap.size + 1 + 1 < wr.heap.size := Blk.lt hblk2
        cases F2 with
        | nil =>
          have hjn : j = nk := by rw [← HKL.out, hk, flen_app, hj]; rfl
          have hjn2 : ¬ j < nk := by omega
          clear hk hj hjn
          go_wp2_with fail
          have hsrc : kids = F1 := by rw [HK.out, app_nil]
          refine bodyPost_ret (v := .agg #[.int .i64 n.op, .int .i64 n.a, .int .i64 n.b, .slice A1 j k1, .slice Aa na ca, .slice Af nf cf]) (results_raise ((((((hblk1.set_ 0 _).set_ 1 _).set_ 2 _).set_ 3 _).set_ 4 _).set_ 5 _) (by simp)) rfl ?_
          rw [raiN, raiA, raiK, if_neg H1.out, if_neg H1.out, if_neg H1.out, hsrc]
          exact lift_end hR hbw HOWN.out (by rw [flen_rai, HJ.out]) HFC.out ⟨_, _, _, rfl, haa⟩ (by rw [press_rai, ← hsrc]; exact ⟨_, _, _, rfl, hff⟩)
        | cons pre nd ats ks F2 =>
          have hjn : j < nk := by rw [← HKL.out, hk, flen_app, hj]; simp [flen]
          have hkk2 : KidsR R wr Ak nk ck (F1.app (.cons pre nd ats ks F2)) := by rw [← hk]; exact hkkr
          obtain ⟨b, off, sk', sa', sf', rfl, hrb, htree, g0, g1, g2, g3, g4, g5⟩ := hkk2.at_
          rw [hj] at g0 g1 g2 g3 g4 g5
          obtain ⟨_, hok2, hall2, _⟩ := (AllOk.app F1 _).1 (hk ▸ hall)
          have hbb : b < w.heap.size := hR b hrb
          clear hk hj hkk2 hkkr
          obtain ⟨ha1, ha2⟩ := aroundI_bd HOK.out (j : Int)
          have hfs : u + 4 * (fsize F1 + (fsize ks + fsize F2 + 1)) ≤ 1000000000000 := by
            have := HU.out
            rw [HK.out, fsize_app] at this
            simp only [fsize] at this
            omega
          have hfs2 : fsize ks < m := by
            have := HSZ.out
            rw [HK.out, fsize_app] at this
            simp only [fsize] at this
            omega
          have hw : IntKind.i64.wrap (u + aroundI n.op n.b (j : Int)) = u + aroundI n.op n.b (j : Int) := IntWalk.i64_in _ (by omega)
          have hb1 : 0 ≤ u + aroundI n.op n.b (j : Int) := by omega
          have hb2 : u + aroundI n.op n.b (j : Int) + 4 * fsize ks ≤ 1000000000000 := by omega
          have HB1 := Lib.hid hb1
          have HB2 := Lib.hid hb2
          have HB3 := Lib.hid hfs2
          have htr : ∀ W : World, Below wr.heap.size wr W → TreeC R W [.int .i64 nd.op, .int .i64 nd.a, .int .i64 nd.b, sk', sa', sf'] nd ats ks := fun W hW =>
            htree.keep fun b' hb' => ⟨hb', fun o => hW.cell (p := ⟨b', o, none⟩) (Nat.lt_of_lt_of_le (hR b' hb') hbw.size)⟩
          have hrl : ∀ W : World, Below wr.heap.size wr W → ∀ b', R b' → b' < W.heap.size := fun W hW b' hb' => Nat.lt_of_lt_of_le (hR b' hb') (Nat.le_trans hbw.size hW.size)
          have hkeep : ∀ W : World, Below wr.heap.size wr W → (W.cell? ⟨w.heap.size, 0, none⟩ = some (.int .i64 n.op) ∧ W.cell? ⟨w.heap.size, 1, none⟩ = some (.int .i64 n.a) ∧ W.cell? ⟨w.heap.size, 2, none⟩ = some (.int .i64 n.b) ∧ W.cell? ⟨w.heap.size, 3, none⟩ = some (.slice (some ⟨b, off, none⟩) nk ck) ∧
              W.cell? ⟨b, off + j * 6, none⟩ = some (.int .i64 nd.op) ∧ W.cell? ⟨b, off + j * 6 + 1, none⟩ = some (.int .i64 nd.a) ∧ W.cell? ⟨b, off + j * 6 + 2, none⟩ = some (.int .i64 nd.b) ∧ W.cell? ⟨b, off + j * 6 + 3, none⟩ = some sk' ∧ W.cell? ⟨b, off + j * 6 + 4, none⟩ = some sa' ∧ W.cell? ⟨b, off + j * 6 + 5, none⟩ = some sf') := fun W hW => by
            have hB : ∀ o, W.cell? ⟨w.heap.size, o, none⟩ = wr.cell? ⟨w.heap.size, o, none⟩ := fun o => hW.cell (p := ⟨w.heap.size, o, none⟩) (show w.heap.size < wr.heap.size by omega)
            have hC : ∀ o, W.cell? ⟨b, o, none⟩ = wr.cell? ⟨b, o, none⟩ := fun o => hW.cell (p := ⟨b, o, none⟩) (Nat.lt_of_lt_of_le hbb hbw.size)
            rw [hB, hB, hB, hB, hC, hC, hC, hC, hC, hC]
            exact ⟨hblk.cell 0, hblk.cell 1, hblk.cell 2, hblk.cell 3, g0, g1, g2, g3, g4, g5⟩
          have hfirst := hkeep wr (Below.refl _ _)
          have HTR := Lib.hid htr
          have HRL := Lib.hid hrl
          have HKEEP := Lib.hid hkeep
          obtain ⟨i0, hi, hy0, hy1, hy2⟩ := info_parts Try.infoT
          have HI0 := Lib.hid hi
          have HY0 := Lib.hid hy0
          have HY1 := Lib.hid hy1
          have HY2 := Lib.hid hy2
          clear hi hy0 hy1 hy2
          clear hb1 hb2 hfs hfs2 htr hrl hkeep zc zc1 zf1 zf2 g0 g1 g2 g3 g4 g5
          obtain ⟨g0, g1, g2, g3, g4, g5, g6, g7, g8, g9⟩ := hfirst
          have zc2a := fun o => Blk.cell (hblk2.alloc o)
          go_wp2_with fail
          refine wp_region_noPanic ?_
          refine wp_region_E 18 (fun w' => w'.cell? ⟨w.heap.size, 0, none⟩ = some (.int .i64 n.op) ∧ w'.cell? ⟨w.heap.size, 1, none⟩ = some (.int .i64 n.a) ∧ w'.cell? ⟨w.heap.size, 2, none⟩ = some (.int .i64 n.b) ∧ w'.cell? ⟨w.heap.size, 3, none⟩ = some (.slice (some ⟨b, off, none⟩) nk ck) ∧
              w'.cell? ⟨w.heap.size + 1 + 1, 3, none⟩ = some (.slice A1 j k1) ∧
              w'.cell? ⟨b, off + j * 6, none⟩ = some (.int .i64 nd.op) ∧ w'.cell? ⟨b, off + j * 6 + 1, none⟩ = some (.int .i64 nd.a) ∧ w'.cell? ⟨b, off + j * 6 + 2, none⟩ = some (.int .i64 nd.b) ∧ w'.cell? ⟨b, off + j * 6 + 3, none⟩ = some sk' ∧ w'.cell? ⟨b, off + j * 6 + 4, none⟩ = some sa' ∧ w'.cell? ⟨b, off + j * 6 + 5, none⟩ = some sf') (by rfl) ⟨g0, g1, g2, g3, zc2 3, g4, g5, g6, g7, g8, g9⟩ (fun hS0 => ?_)
          have hkp : ∀ W : World, Below wr.heap.size wr W → W.cell? ⟨w.heap.size, 0, none⟩ = some (.int .i64 n.op) ∧ W.cell? ⟨w.heap.size, 1, none⟩ = some (.int .i64 n.a) ∧ W.cell? ⟨w.heap.size, 2, none⟩ = some (.int .i64 n.b) ∧ W.cell? ⟨w.heap.size, 3, none⟩ = some (.slice (some ⟨b, off, none⟩) nk ck) ∧
              W.cell? ⟨w.heap.size + 1 + 1, 3, none⟩ = some (.slice A1 j k1) ∧
              W.cell? ⟨b, off + j * 6, none⟩ = some (.int .i64 nd.op) ∧ W.cell? ⟨b, off + j * 6 + 1, none⟩ = some (.int .i64 nd.a) ∧ W.cell? ⟨b, off + j * 6 + 2, none⟩ = some (.int .i64 nd.b) ∧ W.cell? ⟨b, off + j * 6 + 3, none⟩ = some sk' ∧ W.cell? ⟨b, off + j * 6 + 4, none⟩ = some sa' ∧ W.cell? ⟨b, off + j * 6 + 5, none⟩ = some sf' := fun W hW => by
            obtain ⟨k0, k1', k2, k3, k4, k5, k6, k7, k8, k9⟩ := HKEEP.out W hW
            exact ⟨k0, k1', k2, k3, (Blk.cell (Blk.below hblk2 hW hszb)) 3, k4, k5, k6, k7, k8, k9⟩
          have HKP := Lib.hid hkp
          clear hkp zc2 zc2a
          refine wpAnyE_take (i := 0) (v := ?_) rfl rfl (by kernel_rfl) (by kernel_rfl) (by kernel_rfl) (by kernel_rfl) (fun _ _ _ h => h) (Or.inl ⟨by rfl, ?_⟩) (by assumption) ?_
          rotate_left
          · (intro w hSw; (try dsimp only at hSw); go_simp); all_goals with_reducible rfl
          try simp only [Act.put, List.setIfInBounds_toArray, List.set_cons_zero, List.set_cons_succ]
          refine wpAnyE_take (i := 1) (v := ?_) rfl rfl (by kernel_rfl) (by kernel_rfl) (by kernel_rfl) (by kernel_rfl) (fun _ _ _ h => h) (Or.inl ⟨by rfl, ?_⟩) (by assumption) ?_
          rotate_left
          · (intro w hSw; (try dsimp only at hSw); go_simp); all_goals with_reducible rfl
          try simp only [Act.put, List.setIfInBounds_toArray, List.set_cons_zero, List.set_cons_succ]
          refine wpAnyE_take (i := 2) (v := ?_) rfl rfl (by kernel_rfl) (by kernel_rfl) (by kernel_rfl) (by kernel_rfl) (fun _ _ _ h => h) (Or.inl ⟨by rfl, ?_⟩) (by assumption) ?_
          rotate_left
          · (intro w hSw; (try dsimp only at hSw); go_simp); all_goals with_reducible rfl
          try simp only [Act.put, List.setIfInBounds_toArray, List.set_cons_zero, List.set_cons_succ]
          refine wpAnyE_take (i := 3) (v := ?_) rfl rfl (by kernel_rfl) (by kernel_rfl) (by kernel_rfl) (by kernel_rfl) (fun _ _ _ h => h) (Or.inl ⟨by rfl, ?_⟩) (by assumption) ?_
          rotate_left
          · (intro w hSw; (try dsimp only at hSw); go_simp); all_goals with_reducible rfl
          try simp only [Act.put, List.setIfInBounds_toArray, List.set_cons_zero, List.set_cons_succ]
          refine wpAnyE_take (i := 4) (v := ?_) rfl rfl (by kernel_rfl) (by kernel_rfl) (by kernel_rfl) (by kernel_rfl) (fun _ _ _ h => h) (Or.inl ⟨by rfl, ?_⟩) (by assumption) ?_
          rotate_left
          · (intro w hSw; (try dsimp only at hSw); go_simp); all_goals with_reducible rfl
          try simp only [Act.put, List.setIfInBounds_toArray, List.set_cons_zero, List.set_cons_succ]
          refine wpAnyE_take (i := 5) (v := ?_) rfl rfl (by kernel_rfl) (by kernel_rfl) (by kernel_rfl) (by kernel_rfl) (fun _ _ _ h => h) (Or.inl ⟨by rfl, ?_⟩) (by assumption) ?_
          rotate_left
          · (intro w hSw; (try dsimp only at hSw); go_simp); all_goals with_reducible rfl
          try simp only [Act.put, List.setIfInBounds_toArray, List.set_cons_zero, List.set_cons_succ]
          refine wpAnyE_take (i := 6) (v := ?_) rfl rfl (by kernel_rfl) (by kernel_rfl) (by kernel_rfl) (by kernel_rfl) (fun _ _ _ h => h) (Or.inl ⟨by rfl, ?_⟩) (by assumption) ?_
          rotate_left
          · (intro w hSw; (try dsimp only at hSw); go_simp); all_goals with_reducible rfl
          try simp only [Act.put, List.setIfInBounds_toArray, List.set_cons_zero, List.set_cons_succ]
          refine wpAnyE_take (i := 7) (v := ?_) rfl rfl (by kernel_rfl) (by kernel_rfl) (by kernel_rfl) (by kernel_rfl) (fun _ _ _ h => h) (Or.inl ⟨by rfl, ?_⟩) (by assumption) ?_
          rotate_left
          · (intro w hSw; (try dsimp only at hSw); go_simp); all_goals with_reducible rfl
          try simp only [Act.put, List.setIfInBounds_toArray, List.set_cons_zero, List.set_cons_succ]
          refine wpAnyE_take (i := 8) (v := ?_) rfl rfl (by kernel_rfl) (by kernel_rfl) (by kernel_rfl) (by kernel_rfl) (fun _ _ _ h => h) (Or.inl ⟨by rfl, ?_⟩) (by assumption) ?_
          rotate_left
          · (intro w hSw; (try dsimp only at hSw); go_simp); all_goals with_reducible rfl
          try simp only [Act.put, List.setIfInBounds_toArray, List.set_cons_zero, List.set_cons_succ]
          refine wpAnyE_take (i := 9) (v := ?_) rfl rfl (by kernel_rfl) (by kernel_rfl) (by kernel_rfl) (by kernel_rfl) (fun _ _ _ h => h) (Or.inl ⟨by rfl, ?_⟩) (by assumption) ?_
          rotate_left
          · (intro w hSw; (try dsimp only at hSw); go_simp); all_goals with_reducible rfl
          try simp only [Act.put, List.setIfInBounds_toArray, List.set_cons_zero, List.set_cons_succ]
          refine wpAnyE_take (i := 10) (v := ?_) rfl rfl (by kernel_rfl) (by kernel_rfl) (by kernel_rfl) (by kernel_rfl) (fun _ _ _ h => h) (Or.inl ⟨by rfl, ?_⟩) (by assumption) ?_
          rotate_left
          · (intro w hSw; (try dsimp only at hSw); go_simp); all_goals with_reducible rfl
          try simp only [Act.put, List.setIfInBounds_toArray, List.set_cons_zero, List.set_cons_succ]
          refine wpAnyE_take (i := 11) (v := ?_) rfl rfl (by kernel_rfl) (by kernel_rfl) (by kernel_rfl) (by kernel_rfl) (fun _ _ _ h => h) (Or.inl ⟨by rfl, ?_⟩) (by assumption) ?_
          rotate_left
          · (intro w hSw; (try dsimp only at hSw); go_simp); all_goals with_reducible rfl
          try simp only [Act.put, List.setIfInBounds_toArray, List.set_cons_zero, List.set_cons_succ]
          refine wpAnyE_step (i := 12) (by kernel_rfl) rfl rfl (fun K12 hK12 => ?_)
          go_simp
          go_at_call 63
          refine (around_any _ _ _ _ _ (by omega)).mono ?_
          rintro e w2 ⟨rfl, rfl⟩
          go_wp2_with fail
          have hS1 := HKP.out (wr.alloc (.cells #[.int .i64 n.op, .int .i64 n.a, .int .i64 n.b] 53)).drew (((Below.refl _ _).alloc (Nat.le_refl _) _).drew)
          refine hK12.out _ _ (fun _ => hS1) ?_
          refine wpAnyE_take (i := 13) (v := ?_) rfl rfl (by kernel_rfl) (by kernel_rfl) (by kernel_rfl) (by kernel_rfl) (fun _ _ _ h => h) (Or.inl ⟨by rfl, ?_⟩) (by assumption) ?_
          rotate_left
          · (intro w hSw; (try dsimp only at hSw); go_simp); all_goals with_reducible rfl
          try simp only [Act.put, List.setIfInBounds_toArray, List.set_cons_zero, List.set_cons_succ]
          refine wpAnyE_step (i := 14) (by kernel_rfl) rfl rfl (fun K14 hK14 => ?_)
          go_simp
          go_at_call 55
          refine (HI.out _ R [.int .i64 nd.op, .int .i64 nd.a, .int .i64 nd.b, sk', sa', sf'] nd ats ks up _ (HRL.out _ (((Below.refl _ _).alloc (Nat.le_refl _) _).drew)) (HTR.out _ (((Below.refl _ _).alloc (Nat.le_refl _) _).drew)) hok2 hall2 hup0 hup1 HB1.out HB2.out HB3.out).mono ?_
          rintro e w3 ⟨hb3, ys, rfl, ht3⟩
          have HT3 := Lib.hid ht3
          obtain ⟨sk3, sa3, sf3, rfl, ⟨A3, n3, c3, rfl, hk3⟩, ⟨A4, n4, c4, rfl, h43⟩, ⟨A5, n5, c5, rfl, h53⟩⟩ := ht3
          clear hk3 h43 h53
          have hb4 : Below wr.heap.size wr w3 := below_step (((Below.refl _ _).alloc (Nat.le_refl _) _).drew) hb3 (Nat.le_refl _)
          go_wp2_with fail
          have hS2 := HKP.out _ hb4
          refine hK14.out _ _ (fun _ => hS2) ?_
          refine wpAnyE_step (i := 15) (by kernel_rfl) rfl rfl (fun K15 hK15 => ?_)
          go_simp
          have hS3 := HKP.out _ (hb4.alloc hb4.size (.cells #[.int .i64 (raiN up nd (u + aroundI n.op n.b (j : Int))).op, .int .i64 (raiN up nd (u + aroundI n.op n.b (j : Int))).a, .int .i64 (raiN up nd (u + aroundI n.op n.b (j : Int))).b, .slice A3 n3 c3, .slice A4 n4 c4, .slice A5 n5 c5] 64))
          refine hK15.out _ _ (fun _ => hS3) ?_
          refine wpAnyE_step (i := 16) (by kernel_rfl) rfl rfl (fun K16 hK16 => ?_)
          refine oper_append_tree (.tmp 42) (.tmp 56) 62 rfl (w.heap.size + 3) i0 _ Try.underlying62 HI0.out HY0.out HY1.out HY2.out rfl (.slice A1 j k1) j xs1 [.int .i64 (raiN up nd (u + aroundI n.op n.b (j : Int))).op, .int .i64 (raiN up nd (u + aroundI n.op n.b (j : Int))).a, .int .i64 (raiN up nd (u + aroundI n.op n.b (j : Int))).b, .slice A3 n3 c3, .slice A4 n4 c4, .slice A5 n5 c5] rfl (tree_one _ _ _ (A3, n3, c3) (A4, n4, c4) (A5, n5, c5)) w3 rfl rfl (own_below HOWN.out hb4) _ rfl rfl (by omega) (by have := hb4.size; omega) ?_
          intro A' c' w' happ
          have zb := Blk.grown (Blk.below hblk2 hb4 hszb) happ.grown (own_ne (own_below HOWN.out hb4) (Nat.lt_succ_self _))
          have zc := zb.cell
          have zf := zb.frozen
          have zc0 := Blk.cell (Blk.grown (Blk.below hblk hb4 (by omega)) happ.grown (own_ne (own_below HOWN.out hb4) (show w.heap.size < w.heap.size + 3 by omega)))
          have hb5 : ∀ g, g < w.heap.size + 3 → ∀ o, w'.cell? ⟨g, o, none⟩ = w3.cell? ⟨g, o, none⟩ := fun g hg o => World.cell?_of_block (happ.grown.block g (by have := hb4.size; omega) (own_ne (own_below HOWN.out hb4) hg))
          have hb6 : ∀ g o, g ≠ w.heap.size + 1 + 1 → (w'.setCell ⟨w.heap.size + 1 + 1, 3, none⟩ (.slice A' (j + 1) c')).cell? ⟨g, o, none⟩ = w'.cell? ⟨g, o, none⟩ := fun g o hg => World.cell?_setCell_other _ _ _ _ (fun hh => by injection hh with hh; exact hg hh.symm)
          have hS4 : w'.cell? ⟨w.heap.size, 0, none⟩ = some (.int .i64 n.op) ∧ w'.cell? ⟨w.heap.size, 1, none⟩ = some (.int .i64 n.a) ∧ w'.cell? ⟨w.heap.size, 2, none⟩ = some (.int .i64 n.b) ∧ w'.cell? ⟨w.heap.size, 3, none⟩ = some (.slice (some ⟨b, off, none⟩) nk ck) ∧
              w'.cell? ⟨w.heap.size + 1 + 1, 3, none⟩ = some (.slice A1 j k1) ∧
              w'.cell? ⟨b, off + j * 6, none⟩ = some (.int .i64 nd.op) ∧ w'.cell? ⟨b, off + j * 6 + 1, none⟩ = some (.int .i64 nd.a) ∧ w'.cell? ⟨b, off + j * 6 + 2, none⟩ = some (.int .i64 nd.b) ∧ w'.cell? ⟨b, off + j * 6 + 3, none⟩ = some sk' ∧ w'.cell? ⟨b, off + j * 6 + 4, none⟩ = some sa' ∧ w'.cell? ⟨b, off + j * 6 + 5, none⟩ = some sf' := ⟨(hb5 _ (by omega) _).trans (HKP.out _ hb4).1, (hb5 _ (by omega) _).trans (HKP.out _ hb4).2.1, (hb5 _ (by omega) _).trans (HKP.out _ hb4).2.2.1, (hb5 _ (by omega) _).trans (HKP.out _ hb4).2.2.2.1, (hb5 _ (by omega) _).trans (HKP.out _ hb4).2.2.2.2.1, (hb5 _ (by omega) _).trans (HKP.out _ hb4).2.2.2.2.2.1, (hb5 _ (by omega) _).trans (HKP.out _ hb4).2.2.2.2.2.2.1, (hb5 _ (by omega) _).trans (HKP.out _ hb4).2.2.2.2.2.2.2.1, (hb5 _ (by omega) _).trans (HKP.out _ hb4).2.2.2.2.2.2.2.2.1, (hb5 _ (by omega) _).trans (HKP.out _ hb4).2.2.2.2.2.2.2.2.2.1, (hb5 _ (by omega) _).trans (HKP.out _ hb4).2.2.2.2.2.2.2.2.2.2⟩
          refine hK16.out _ _ (fun _ => hS4) ?_
          try simp only [Act.put, List.setIfInBounds_toArray, List.set_cons_zero, List.set_cons_succ]
          refine wpAnyE_take (i := 17) (v := ?_) rfl rfl (by kernel_rfl) (by kernel_rfl) (by kernel_rfl) (by kernel_rfl) (fun _ _ _ h => h) (Or.inl ⟨by rfl, ?_⟩) (by assumption) ?_
          rotate_left
          · (intro w hSw; (try dsimp only at hSw); go_simp); all_goals with_reducible rfl
          try simp only [Act.put, List.setIfInBounds_toArray, List.set_cons_zero, List.set_cons_succ]
          refine wpAnyE_step (i := 18) (by kernel_rfl) rfl rfl (fun K18 hK18 => ?_)
          go_simp
          refine hK18.out _ _ (fun h => absurd rfl h) ?_
          refine wpAnyE_end (by kernel_rfl) (NoPanic.normal ?_) _
          all_goals
            have hw5 : w.heap.size ≤ w3.heap.size := by have := hb4.size; omega
            have hown3 := own_below HOWN.out hb4
            have hrb : ∀ g, g < w.heap.size + 3 → w.heap.size ≤ g → True := fun _ _ _ => trivial
            have hbf : Below w.heap.size w (w'.setCell ⟨w.heap.size + 1 + 1, 3, none⟩ (.slice A' (j + 1) c')) := ((hbw.trans (hb4.mono hbw.size)).grown happ.grown hw5 (fun g hg => by have := (ownsRow_block hown3 hg).1; omega)).setCell (p := ⟨w.heap.size + 1 + 1, 3, none⟩) (show w.heap.size ≤ w.heap.size + 1 + 1 by omega) _
            have hz0 := Blk.far (Blk.grown (Blk.below hblk hb4 (by omega)) happ.grown (own_ne hown3 (show w.heap.size < w.heap.size + 3 by omega))) (p := ⟨w.heap.size + 1 + 1, 3, none⟩) (show w.heap.size ≠ w.heap.size + 1 + 1 by omega) (.slice A' (j + 1) c')
            have hz1 := Blk.far (Blk.grown (Blk.below hblk1 hb4 (by omega)) happ.grown (own_ne hown3 (show w.heap.size + 1 < w.heap.size + 3 by omega))) (p := ⟨w.heap.size + 1 + 1, 3, none⟩) (show w.heap.size + 1 ≠ w.heap.size + 1 + 1 by omega) (.slice A' (j + 1) c')
            have hz2 := zb.set_ 3 (.slice A' (j + 1) c')
            have hof := ownsRow_setCell_below happ.own (a := ⟨w.heap.size + 1 + 1, 3, none⟩) (show w.heap.size + 1 + 1 < w.heap.size + 3 by omega) (.slice A' (j + 1) c')
            have hff := foc_step1 (B0 := w.heap.size) (B := w.heap.size + 3) HFC.out HT3.out (((Below.refl _ _).alloc (Nat.le_refl _) _).drew).size hb4 (by omega) hR (by omega) HOWN.out (Below.refl _ _) happ (wf := w'.setCell ⟨w.heap.size + 1 + 1, 3, none⟩ (.slice A' (j + 1) c')) (pre := pre) (fun g hg o => hb6 g o (by omega)) (by simp [World.setCell])
            have HBF := Lib.hid hbf
            have HZ0 := Lib.hid hz0
            have HZ1 := Lib.hid hz1
            have HZ2 := Lib.hid hz2
            have HOF := Lib.hid hof
            have HFF := Lib.hid hff
            clear hbf hz0 hz1 hz2 hof hff hrb hb5 hb6 zc0 zc zf
            go_wp2_with fail
            go_roundw
            case rel =>
              refine ⟨F1.app (.cons pre nd ats ks .nil), F2, j + 1, A', c', _, by rw [HK.out, app_assoc]; rfl, by rw [flen_app]; simp [flen, HJ.out], by go_num, HBF.out, HZ0.out, HZ1.out, HZ2.out, HOF.out, ?_⟩
              rw [rai_app, HJ.out, Nat.zero_add, rai_cons]
              exact HFF.out
            case measure => simp [intOf]; omega

theorem raise_all : ∀ (m : Nat) (w : World) (R : Nat → Prop) (xs : List Value) (n : Nd) (atoms : List Nd) (kids : Fo) (up u : Int), (∀ b, R b → b < w.heap.size) → TreeC R w xs n atoms kids → okN n = true → AllOk kids → 0 ≤ up → up ≤ 1000000000000 → 0 ≤ u → u + 4 * fsize kids ≤ 1000000000000 → fsize kids < m →
      Calls Try.prog 55 #[.agg xs.toArray, .int .i64 up, .int .i64 u] w (TreePost R w (raiN up n u) (raiA n atoms u) (raiK up n kids u))
  | 0, _, _, _, _, _, _, _, _, _, _, _, _, _, _, _, _, h => absurd h (by omega)
  | m + 1, w, R, xs, n, atoms, kids, up, u, h1, h2, h3, h4, h5, h6, h7, h8, h9 => raise_step m (raise_all m) w R xs n atoms kids up u h1 h2 h3 h4 h5 h6 h7 h8 (by omega)
theorem raise_any {w : World} {R : Nat → Prop} {xs : List Value} {n : Nd} {atoms : List Nd} {kids : Fo} {up u : Int} (hR : ∀ b, R b → b < w.heap.size) (ht : TreeC R w xs n atoms kids) (hok : okN n = true) (hall : AllOk kids) (hup0 : 0 ≤ up) (hup1 : up ≤ 1000000000000) (h0 : 0 ≤ u) (h1 : u + 4 * fsize kids ≤ 1000000000000) :
    Calls Try.prog 55 #[.agg xs.toArray, .int .i64 up, .int .i64 u] w (TreePost R w (raiN up n u) (raiA n atoms u) (raiK up n kids u)) :=
  raise_all (fsize kids + 1) w R xs n atoms kids up u hR ht hok hall hup0 hup1 h0 h1 (Nat.lt_succ_self _)

end Go.Proofs.Ytnmeglbamfjcgaa
