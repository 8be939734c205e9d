/- Times of the reference: how often a variable stands free in a tree, and under how many binders at most. -/
import Derived.Test.YtnmeglbamfjcgaaProg
import Derived.Test.YtnmeglbamfjcgaaMem
import Derived.Test.YtnmeglbamfjcgaaTree
import Derived.Test.YtnmeglbamfjcgaaOwn
import Derived.Test.YtnmeglbamfjcgaaOwn2
import Derived.Test.YtnmeglbamfjcgaaOwn3
import Derived.Test.YtnmeglbamfjcgaaFold
import Derived.Test.YtnmeglbamfjcgaaFold2
import Derived.Test.YtnmeglbamfjcgaaLeaf2
import Derived.Test.YtnmeglbamfjcgaaAtoms
import Derived.WalkKit
import Derived.WalkLawsBesides
import Derived.WalkSpells
import Derived.Lib.Hide
import Derived.Deep.RegionHeld3
namespace Go.Proofs.Ytnmeglbamfjcgaa
open Go.RowKit

set_option maxRecDepth 100000 in
set_option maxHeartbeats 2000000 in
def PairPost (a b : Int) (w : World) (e : Ending) (w' : World) : Prop := e = .returned (.tuple #[.int .i64 a, .int .i64 b]) ∧ Below w.heap.size w w'
theorem ret_pair {k k' : IntKind} {a b c d : Int} (h : a = c) (h' : b = d) : Ending.returned (.tuple #[.int k a, .int k' b]) = .returned (.tuple #[.int k c, .int k' d]) := by rw [h, h']

set_option maxRecDepth 100000 in
set_option maxHeartbeats 2000000 in
theorem times_step (m : Nat) (ih : ∀ (w : World) (R : Nat → Prop) (xs : List Value) (n : Nd) (atoms : List Nd) (kids : Fo) (u : Int), (∀ b, R b → b < w.heap.size) → TreeC R w xs n atoms kids → okN n = true → AllOk kids → 0 ≤ u → u + 4 * fsize kids ≤ 1000000000000 → fsize kids < m →
      Calls Try.prog 49 #[.agg xs.toArray, .int .i64 u] w (PairPost (timT n kids u).1 (timT n kids u).2 w))
    (w : World) (R : Nat → Prop) (xs : List Value) (n : Nd) (atoms : List Nd) (kids : Fo) (u : Int) (hR : ∀ b, R b → b < w.heap.size) (ht : TreeC R w xs n atoms kids) (hok : okN n = true) (hall : AllOk kids) (hu0 : 0 ≤ u) (hu1 : u + 4 * fsize kids ≤ 1000000000000) (hsz : fsize kids ≤ m) :
    Calls Try.prog 49 #[.agg xs.toArray, .int .i64 u] w (PairPost (timT n kids u).1 (timT n kids u).2 w) := by
  have HI := Lib.hid ih
  clear ih
  obtain ⟨sk, sa, sf, rfl, ⟨Ak, nk, ck, rfl, hkk⟩, ⟨Aa, na, ca, rfl, haa⟩, ⟨Af, nf, cf, rfl, hff⟩⟩ := ht
  have hna := (plainB_a ((by simp only [okN, Bool.and_eq_true] at hok; exact hok.1.1) : plainB n.op n.a n.b = true))
  by_cases h1 : n.op = 1
  · have h1b : (n.op == 1) = true := by simp [h1]
    have H1 := Lib.hid h1
    have hu2 : u ≤ 1000000000000 := by omega
    clear h1 hu1
    obtain ⟨hna1, hna2⟩ := hna
    go_enter Try.func49, Try.ntmps49
    by_cases hc : n.a = u
    · have hcb : (n.a == u) = true := by simp [hc]
      have HC := Lib.hid hc
      clear hc
      go_wp2_with fail
      go_ret2
      refine ⟨ret_pair ?_ ?_, below_alloc _ _⟩ <;> simp only [timT, if_pos H1.out, if_pos HC.out]
    · have hcb : (n.a == u) = false := by simp [hc]
      go_wp2_with fail
      go_ret2
      refine ⟨ret_pair ?_ ?_, below_alloc _ _⟩ <;> simp only [timT, if_pos H1.out, if_neg hc]
  · have h1b : (n.op == 1) = false := by simp [h1]
    have H1 := Lib.hid h1
    have HU := Lib.hid hu1
    have HSZ := Lib.hid hsz
    have HKL := Lib.hid hkk.len
    have HOK := Lib.hid hok
    have hnk : nk ≤ 1000000000000000 := by
      have h1 := flen_le_fsize kids
      have h2 := hkk.len
      omega
    clear h1 hu1 hsz hok
    go_enter Try.func49, Try.ntmps49
    go_wp2_with fail
    go_loopw [6, 7, 8] (fun c v i wr => ∃ (F1 F2 : Fo) (j : Nat) (s t : Int), kids = F1.app F2 ∧ flen F1 = j ∧ c = .int .i64 s ∧ v = .int .i64 t ∧ i = .int .i64 (j : Int) ∧ 0 ≤ t ∧ t ≤ 4 * fsize kids ∧ 0 ≤ s ∧ s ≤ fsize F1 ∧ s + (tim n.op n.b j u F2).1 = (tim n.op n.b 0 u kids).1 ∧ max t (tim n.op n.b j u F2).2 = (tim n.op n.b 0 u kids).2 ∧ Below w.heap.size w wr ∧
        Blk wr w.heap.size 64 #[.int .i64 n.op, .int .i64 n.a, .int .i64 n.b, .slice Ak nk ck, .slice Aa na ca, .slice Af nf cf]) (fun _ _ i _ => nk - (intOf i).toNat)
    case atStart =>
      have hb := tim_bd HOK.out 0 u kids hall
      exact ⟨.nil, kids, 0, 0, 0, rfl, rfl, rfl, rfl, rfl, Int.le_refl _, by omega, Int.le_refl _, Int.le_refl _, by omega, by omega, below_alloc _ _, Blk.new _ _ _⟩
    case round =>
      obtain ⟨F1, F2, j, s, t, hk, hj, rfl, rfl, rfl, ht0, ht1, hs0, hs1, he, he2, hbw, hblk⟩ := hrel
      have HK := Lib.hid hk
      have HJ := Lib.hid hj
      have HE := Lib.hid he
      have HE2 := Lib.hid he2
      have HS1 := Lib.hid hs1
      have HT1 := Lib.hid ht1
      have hkkr := hkk.keep (R' := R) (w' := wr) (fun b hb => ⟨hb, fun o => hbw.cell (p := ⟨b, o, none⟩) (hR b hb)⟩)
      have zc := Blk.cell hblk
      have hszb : w.heap.size + 1 ≤ wr.heap.size := Blk.lt hblk
      clear he he2 hs1 ht1
      cases F2 with
      | nil =>
        have hjn : j = nk := by rw [← HKL.out, hk, flen_app, hj]; rfl
        have hjn2 : ¬ j < nk := by omega
        clear hk hj hjn
        go_wp2_with fail
        go_ret2
        refine ⟨ret_pair ?_ ?_, hbw⟩
        · have h1 := HE.out
          simp only [timT, if_neg H1.out, ← h1, tim]
          omega
        · have h1 := HE2.out
          simp only [timT, if_neg H1.out, ← h1, tim]
          omega
      | cons pre nd ats ks F2 =>
        have hjn : j < nk := by rw [← HKL.out, hk, flen_app, hj]; simp [flen]
        have hkk2 : KidsR R wr Ak nk ck (F1.app (.cons pre nd ats ks F2)) := by rw [← hk]; exact hkkr
        obtain ⟨b, off, sk', sa', sf', rfl, hrb, htree, g0, g1, g2, g3, g4, g5⟩ := hkk2.at_
        rw [hj] at g0 g1 g2 g3 g4 g5
        obtain ⟨_, hok2, hall2, hall3⟩ := (AllOk.app F1 _).1 (hk ▸ hall)
        have hbb : b < w.heap.size := hR b hrb
        clear hk hj hkk2 hkkr
        have hB : w.heap.size < wr.heap.size := Blk.lt hblk
        obtain ⟨ha1, ha2⟩ := aroundI_bd HOK.out (j : Int)
        have hszk : fsize kids = fsize F1 + (fsize ks + fsize F2 + 1) := by rw [HK.out, fsize_app]; rfl
        have hfs : u + 4 * (fsize F1 + (fsize ks + fsize F2 + 1)) ≤ 1000000000000 := by
          have := HU.out
          omega
        have hfs2 : fsize ks < m := by
          have := HSZ.out
          omega
        have hq := timT_bd hok2 (u + aroundI n.op n.b (j : Int)) ks hall2
        have hr := tim_bd HOK.out (j + 1) u F2 hall3
        obtain ⟨q1, q2, q3, q4⟩ := hq
        obtain ⟨r1, r2, r3, r4⟩ := hr
        have hb1 : 0 ≤ u + aroundI n.op n.b (j : Int) := by omega
        have hb2 : u + aroundI n.op n.b (j : Int) + 4 * fsize ks ≤ 1000000000000 := by omega
        have HB1 := Lib.hid hb1
        have HB2 := Lib.hid hb2
        have HB3 := Lib.hid hfs2
        have HSK := Lib.hid hszk
        have hub : u ≤ 1000000000000 := by omega
        have hs1' : s ≤ 1000000000000 := by have := HS1.out; omega
        have ht1' : t ≤ 1000000000000 := by have := HT1.out; omega
        have hq2' : (timT nd ks (u + aroundI n.op n.b (j : Int))).1 ≤ 1000000000000 := by omega
        have hq4' : (timT nd ks (u + aroundI n.op n.b (j : Int))).2 ≤ 1000000000000 := by omega
        have Q2 := Lib.hid q2
        have Q4 := Lib.hid q4
        have RR := Lib.hid r3
        clear hb1 hb2 hfs hfs2 hszk q2 q4 r1 r2 r3 r4
        have hbsz : b < wr.heap.size := by omega
        have g0a := fun o => (World.cell?_alloc_lt wr o ⟨b, off + j * 6, none⟩ hbsz).trans g0
        have g1a := fun o => (World.cell?_alloc_lt wr o ⟨b, off + j * 6 + 1, none⟩ hbsz).trans g1
        have g2a := fun o => (World.cell?_alloc_lt wr o ⟨b, off + j * 6 + 2, none⟩ hbsz).trans g2
        have g3a := fun o => (World.cell?_alloc_lt wr o ⟨b, off + j * 6 + 3, none⟩ hbsz).trans g3
        have g4a := fun o => (World.cell?_alloc_lt wr o ⟨b, off + j * 6 + 4, none⟩ hbsz).trans g4
        have g5a := fun o => (World.cell?_alloc_lt wr o ⟨b, off + j * 6 + 5, none⟩ hbsz).trans g5
        have zca := fun o => Blk.cell (hblk.alloc o)
        have htr : ∀ W : World, Below wr.heap.size wr W → TreeC R W [.int .i64 nd.op, .int .i64 nd.a, .int .i64 nd.b, sk', sa', sf'] nd ats ks := fun W hW =>
          htree.keep fun b' hb' => ⟨hb', fun o => hW.cell (p := ⟨b', o, none⟩) (Nat.lt_of_lt_of_le (hR b' hb') hbw.size)⟩
        have hrl : ∀ W : World, Below wr.heap.size wr W → ∀ b', R b' → b' < W.heap.size := fun W hW b' hb' => Nat.lt_of_lt_of_le (hR b' hb') (Nat.le_trans hbw.size hW.size)
        have HTR := Lib.hid htr
        have HRL := Lib.hid hrl
        clear htr hrl
        go_wp2_with (go_at_call 63; refine (around_any _ _ _ _ _ (by omega)).mono ?_; rintro e w2 ⟨rfl, rfl⟩)
        refine (HI.out _ R [.int .i64 nd.op, .int .i64 nd.a, .int .i64 nd.b, sk', sa', sf'] nd ats ks _ (HRL.out _ ((Below.refl _ _).alloc (Nat.le_refl _) _)) (HTR.out _ ((Below.refl _ _).alloc (Nat.le_refl _) _)) hok2 hall2 HB1.out HB2.out HB3.out).mono ?_
        rintro e w3 ⟨rfl, hb3⟩
        have hb4 : Below wr.heap.size wr w3 := below_step ((Below.refl _ _).alloc (Nat.le_refl _) _) hb3 (Nat.le_refl _)
        have hblk3 := hblk.below hb4 hB
        have zc3 := Blk.cell hblk3
        by_cases hm : 0 < (timT nd ks (u + aroundI n.op n.b (j : Int))).1
        · go_wp2_with fail
          all_goals
            go_roundw
            case rel =>
              refine ⟨F1.app (.cons pre nd ats ks .nil), F2, j + 1, _, _, by rw [HK.out, app_assoc]; rfl, by rw [flen_app]; simp [flen, HJ.out], rfl, rfl, by go_num, ?_, ?_, ?_, ?_, ?_, ?_, hbw.trans (hb4.mono hbw.size), hblk3⟩
              · omega
              · have h1 := HT1.out
                have h2 := HSK.out
                have h3 := Q4.out
                omega
              · omega
              · have h1 := HS1.out
                have h3 := Q2.out
                rw [fsize_app]; simp only [fsize]; omega
              · have h1 := HE.out
                rw [tim_cons] at h1
                simp only at h1
                omega
              · have h1 := HE2.out
                rw [tim_cons] at h1
                simp only [if_pos hm] at h1
                omega
            case measure => simp [intOf]; omega
        · go_wp2_with fail
          go_roundw
          case rel =>
            refine ⟨F1.app (.cons pre nd ats ks .nil), F2, j + 1, _, _, by rw [HK.out, app_assoc]; rfl, by rw [flen_app]; simp [flen, HJ.out], rfl, rfl, by go_num, ht0, HT1.out, ?_, ?_, ?_, ?_, hbw.trans (hb4.mono hbw.size), hblk3⟩
            · omega
            · have h1 := HS1.out
              have h3 := Q2.out
              rw [fsize_app]; simp only [fsize]; omega
            · have h1 := HE.out
              rw [tim_cons] at h1
              simp only at h1
              omega
            · have h1 := HE2.out
              rw [tim_cons] at h1
              rw [if_neg (by omega)] at h1
              exact h1
          case measure => simp [intOf]; omega

theorem times_all : ∀ (m : Nat) (w : World) (R : Nat → Prop) (xs : List Value) (n : Nd) (atoms : List Nd) (kids : Fo) (u : Int), (∀ b, R b → b < w.heap.size) → TreeC R w xs n atoms kids → okN n = true → AllOk kids → 0 ≤ u → u + 4 * fsize kids ≤ 1000000000000 → fsize kids < m →
      Calls Try.prog 49 #[.agg xs.toArray, .int .i64 u] w (PairPost (timT n kids u).1 (timT n kids u).2 w)
  | 0, _, _, _, _, _, _, _, _, _, _, _, _, _, h => absurd h (by omega)
  | m + 1, w, R, xs, n, atoms, kids, u, h1, h2, h3, h4, h5, h6, h7 => times_step m (times_all m) w R xs n atoms kids u h1 h2 h3 h4 h5 h6 (by omega)
theorem times_any {w : World} {R : Nat → Prop} {xs : List Value} {n : Nd} {atoms : List Nd} {kids : Fo} {u : Int} (hR : ∀ b, R b → b < w.heap.size) (ht : TreeC R w xs n atoms kids) (hok : okN n = true) (hall : AllOk kids) (h0 : 0 ≤ u) (h1 : u + 4 * fsize kids ≤ 1000000000000) :
    Calls Try.prog 49 #[.agg xs.toArray, .int .i64 u] w (PairPost (timT n kids u).1 (timT n kids u).2 w) :=
  times_all (fsize kids + 1) w R xs n atoms kids u hR ht hok hall h0 h1 (Nat.lt_succ_self _)

end Go.Proofs.Ytnmeglbamfjcgaa
