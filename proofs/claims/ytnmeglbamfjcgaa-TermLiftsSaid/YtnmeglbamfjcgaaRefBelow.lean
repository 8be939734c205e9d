/- Below of the reference, at every row. -/
import Derived.Test.YtnmeglbamfjcgaaRefOf
import Derived.Test.YtnmeglbamfjcgaaTermP4
import Derived.Test.YtnmeglbamfjcgaaGreatest
namespace Go.Proofs.Ytnmeglbamfjcgaa
open Go.RowKit

set_option maxRecDepth 100000 in
set_option maxHeartbeats 2000000 in
theorem greatest_nil (w : World) : Calls Try.prog 54 #[.agg #[.int .i64 0, .int .i64 0, .int .i64 0, .slice none 0 0, .slice none 0 0, .slice none 0 0], .int .i64 0] w (IntPost (-1) w) := by
  go_enter Try.func54, Try.ntmps54
  go_wp2_with fail
  go_loopw [5, 6] (fun v i wr => v = .int .i64 (-1) ∧ i = .int .i64 0 ∧ Below w.heap.size w wr ∧ Blk wr w.heap.size 64 #[.int .i64 0, .int .i64 0, .int .i64 0, .slice none 0 0, .slice none 0 0, .slice none 0 0]) (fun _ _ _ => 0)
  case atStart => exact ⟨rfl, rfl, below_alloc _ _, Blk.new _ _ _⟩
  case round =>
    obtain ⟨rfl, rfl, hbw, hblk⟩ := hrel
    have zc := Blk.cell hblk
    go_wp2_with fail
    go_ret
    exact ⟨rfl, hbw⟩

set_option maxRecDepth 100000 in
set_option maxHeartbeats 2000000 in
theorem refBelow_any {A : Option Addr} {nn c : Nat} {l : List Nd} {w : World} (h : TermV w A nn c l) (v : Int) :
    Calls Try.prog 24 #[.slice A nn c, .int .i64 v] w (BoolPost (belowB l v) w) := by
  by_cases hs : shapeI l = 0
  rotate_left
  · have hf : belowB l v = false := by simp [belowB, hs]
    have HS := Lib.hid hs
    clear hs
    go_enter Try.func24, Try.ntmps24
    go_wp2_with fail
    refine (refOf_any h).mono ?_
    rintro e w2 ⟨hb2, ⟨_, rfl⟩ | ⟨_, _, _, _, _, _, _, h9⟩⟩
    rotate_left
    · exact absurd h9 HS.out
    have HB2 := Lib.hid hb2
    clear hb2
    unfold treeNil
    have yc := Blk.cell (Blk.new w2 64 #[.int .i64 0, .int .i64 0, .int .i64 0, .slice none 0 0, .slice none 0 0, .slice none 0 0])
    go_wp2_with fail
    refine (greatest_nil _).mono ?_
    rintro e w4 ⟨rfl, hb4⟩
    have hb3 := HB2.out.alloc HB2.out.size (.cells #[.int .i64 0, .int .i64 0, .int .i64 0, .slice none 0 0, .slice none 0 0, .slice none 0 0] 64)
    have hb5 := hb3.trans (hb4.mono hb3.size)
    go_wp2_with fail
    go_ret
    rw [hf]
    exact ⟨rfl, hb5⟩
  have HS := Lib.hid hs
  clear hs
  go_enter Try.func24, Try.ntmps24
  go_wp2_with fail
  refine (refOf_any h).mono ?_
  rintro e w2 ⟨hb2, ⟨h9, _⟩ | ⟨xs, n, ats, k, rfl, ht, hpp, _⟩⟩
  · exact absurd HS.out h9
  have HT := Lib.hid ht
  obtain ⟨sk, sa, sf, rfl, ⟨Ak, nk, ck, rfl, hkk⟩, ⟨Aa, na, ca, rfl, haa⟩, ⟨Af, nf, cf, rfl, hff⟩⟩ := ht
  clear hkk haa hff
  have hbz := below_alloc w2 (.cells #[.int .i64 n.op, .int .i64 n.a, .int .i64 n.b, .slice Ak nk ck, .slice Aa na ca, .slice Af nf cf] 64)
  have hn3 : Blk (w2.alloc (.cells #[.int .i64 n.op, .int .i64 n.a, .int .i64 n.b, .slice Ak nk ck, .slice Aa na ca, .slice Af nf cf] 64)) w2.heap.size 64 #[.int .i64 n.op, .int .i64 n.a, .int .i64 n.b, .slice Ak nk ck, .slice Aa na ca, .slice Af nf cf] := Blk.new _ _ _
  have HT3 : Hid (TreeC (fresh w w2) (w2.alloc (.cells #[.int .i64 n.op, .int .i64 n.a, .int .i64 n.b, .slice Ak nk ck, .slice Aa na ca, .slice Af nf cf] 64)) [.int .i64 n.op, .int .i64 n.a, .int .i64 n.b, .slice Ak nk ck, .slice Aa na ca, .slice Af nf cf] n ats k) := Lib.hid (HT.out.keep fun b hb => ⟨hb, fun o => cell_of_heap (hbz.block b hb.2) o⟩)
  have hR3 : ∀ b, fresh w w2 b → b < (w2.alloc (.cells #[.int .i64 n.op, .int .i64 n.a, .int .i64 n.b, .slice Ak nk ck, .slice Aa na ca, .slice Af nf cf] 64)).heap.size := fun b hb => by have := hbz.size; have := hb.2; omega
  have hb3 := hb2.alloc hb2.size (.cells #[.int .i64 n.op, .int .i64 n.a, .int .i64 n.b, .slice Ak nk ck, .slice Aa na ca, .slice Af nf cf] 64)
  have yc := Blk.cell hn3
  have HPP := Lib.hid hpp
  have HN3 := Lib.hid hn3
  have HR3 := Lib.hid hR3
  have HB3 := Lib.hid hb3
  obtain ⟨hok, hv1, hvk, hall, hpre, hrow, hl4, hfs⟩ := right_row HS.out hpp
  clear hpp hn3 hR3 hb3 hb2 hbz
  have hf := below_told HS.out HPP.out v
  have hu : 0 + 4 * (fsize k : Int) ≤ 1000000000000 := by omega
  clear hv1 hvk hpre hrow hl4 hfs
  go_wp2_with fail
  refine (greatest_any HR3.out HT3.out hok hall (Int.le_refl _) hu).mono ?_
  rintro e w4 ⟨rfl, hb4⟩
  have hb5 := HB3.out.trans (hb4.mono HB3.out.size)
  clear hb4 hall hok hu
  generalize grtT n k 0 = g at hf ⊢
  cases hg : decide (g < 0)
  all_goals
    rw [hg] at hf
    have HF := Lib.hid hf
    clear hf
    go_wp2_with fail
    go_ret
    exact ⟨by rw [HF.out]; rfl, hb5⟩

end Go.Proofs.Ytnmeglbamfjcgaa
