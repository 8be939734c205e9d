/- Free of the reference, at every row. -/
import Derived.Test.YtnmeglbamfjcgaaRefOf
import Derived.Test.YtnmeglbamfjcgaaTermP4
import Derived.Test.YtnmeglbamfjcgaaTimes
namespace Go.Proofs.Ytnmeglbamfjcgaa
open Go.RowKit

set_option maxRecDepth 100000 in
set_option maxHeartbeats 2000000 in
theorem refFree_any {A : Option Addr} {nn c : Nat} {l : List Nd} {w : World} (h : TermV w A nn c l) (v : Int) :
    Calls Try.prog 22 #[.slice A nn c, .int .i64 v] w (BoolPost (freeB l v) w) := by
  by_cases hs : shapeI l = 0
  rotate_left
  · have hf : freeB l v = false := by simp [freeB, hs]
    have HS := Lib.hid hs
    clear hs
    go_enter Try.func22, Try.ntmps22
    go_wp2_with fail
    refine (refOf_any h).mono ?_
    rintro e w2 ⟨hb2, ⟨_, rfl⟩ | ⟨_, _, _, _, _, _, _, h9⟩⟩
    rotate_left
    · exact absurd h9 HS.out
    have HB2 := Lib.hid hb2
    clear hb2
    unfold treeNil
    go_wp2_with fail
    go_ret
    rw [hf]
    exact ⟨rfl, HB2.out.alloc HB2.out.size _⟩
  have HS := Lib.hid hs
  clear hs
  by_cases h1 : v < 0
  · have h1b : decide (v < 0) = true := by simpa using h1
    have hf : freeB l v = false := by simp [freeB]; omega
    clear h1
    go_enter Try.func22, Try.ntmps22
    go_wp2_with fail
    refine (refOf_any h).mono ?_
    rintro e w2 ⟨hb2, ⟨h9, _⟩ | ⟨xs, n, ats, k, rfl, ht, hpp, _⟩⟩
    · exact absurd HS.out h9
    have HT := Lib.hid ht
    obtain ⟨sk, sa, sf, rfl, ⟨Ak, nk, ck, rfl, hkk⟩, ⟨Aa, na, ca, rfl, haa⟩, ⟨Af, nf, cf, rfl, hff⟩⟩ := ht
    clear hkk haa hff
    have hbz := below_alloc w2 (.cells #[.int .i64 n.op, .int .i64 n.a, .int .i64 n.b, .slice Ak nk ck, .slice Aa na ca, .slice Af nf cf] 64)
    have hn3 : Blk (w2.alloc (.cells #[.int .i64 n.op, .int .i64 n.a, .int .i64 n.b, .slice Ak nk ck, .slice Aa na ca, .slice Af nf cf] 64)) w2.heap.size 64 #[.int .i64 n.op, .int .i64 n.a, .int .i64 n.b, .slice Ak nk ck, .slice Aa na ca, .slice Af nf cf] := Blk.new _ _ _
    have HT3 : Hid (TreeC (fresh w w2) (w2.alloc (.cells #[.int .i64 n.op, .int .i64 n.a, .int .i64 n.b, .slice Ak nk ck, .slice Aa na ca, .slice Af nf cf] 64)) [.int .i64 n.op, .int .i64 n.a, .int .i64 n.b, .slice Ak nk ck, .slice Aa na ca, .slice Af nf cf] n ats k) := Lib.hid (HT.out.keep fun b hb => ⟨hb, fun o => cell_of_heap (hbz.block b hb.2) o⟩)
    have hR3 : ∀ b, fresh w w2 b → b < (w2.alloc (.cells #[.int .i64 n.op, .int .i64 n.a, .int .i64 n.b, .slice Ak nk ck, .slice Aa na ca, .slice Af nf cf] 64)).heap.size := fun b hb => by have := hbz.size; have := hb.2; omega
    have hb3 := hb2.alloc hb2.size (.cells #[.int .i64 n.op, .int .i64 n.a, .int .i64 n.b, .slice Ak nk ck, .slice Aa na ca, .slice Af nf cf] 64)
    have yc := Blk.cell hn3
    have HPP := Lib.hid hpp
    have HN3 := Lib.hid hn3
    have HR3 := Lib.hid hR3
    have HB3 := Lib.hid hb3
    obtain ⟨hok, hv1, hvk, hall, hpre, hrow, hl4, hfs⟩ := right_row HS.out hpp
    clear hpp hn3 hR3 hb3 hb2 hbz
    clear hok hv1 hvk hall hpre hrow hl4 hfs
    go_wp2_with fail
    go_ret
    rw [hf]
    exact ⟨rfl, HB3.out⟩
  have h1b : decide (v < 0) = false := by simpa using h1
  by_cases h2 : 1048576 < v
  · have h2b : decide (1048576 < v) = true := by simpa using h2
    have H2 := Lib.hid h2
    clear h1 h2
    go_enter Try.func22, Try.ntmps22
    go_wp2_with fail
    refine (refOf_any h).mono ?_
    rintro e w2 ⟨hb2, ⟨h9, _⟩ | ⟨xs, n, ats, k, rfl, ht, hpp, _⟩⟩
    · exact absurd HS.out h9
    have HT := Lib.hid ht
    obtain ⟨sk, sa, sf, rfl, ⟨Ak, nk, ck, rfl, hkk⟩, ⟨Aa, na, ca, rfl, haa⟩, ⟨Af, nf, cf, rfl, hff⟩⟩ := ht
    clear hkk haa hff
    have hbz := below_alloc w2 (.cells #[.int .i64 n.op, .int .i64 n.a, .int .i64 n.b, .slice Ak nk ck, .slice Aa na ca, .slice Af nf cf] 64)
    have hn3 : Blk (w2.alloc (.cells #[.int .i64 n.op, .int .i64 n.a, .int .i64 n.b, .slice Ak nk ck, .slice Aa na ca, .slice Af nf cf] 64)) w2.heap.size 64 #[.int .i64 n.op, .int .i64 n.a, .int .i64 n.b, .slice Ak nk ck, .slice Aa na ca, .slice Af nf cf] := Blk.new _ _ _
    have HT3 : Hid (TreeC (fresh w w2) (w2.alloc (.cells #[.int .i64 n.op, .int .i64 n.a, .int .i64 n.b, .slice Ak nk ck, .slice Aa na ca, .slice Af nf cf] 64)) [.int .i64 n.op, .int .i64 n.a, .int .i64 n.b, .slice Ak nk ck, .slice Aa na ca, .slice Af nf cf] n ats k) := Lib.hid (HT.out.keep fun b hb => ⟨hb, fun o => cell_of_heap (hbz.block b hb.2) o⟩)
    have hR3 : ∀ b, fresh w w2 b → b < (w2.alloc (.cells #[.int .i64 n.op, .int .i64 n.a, .int .i64 n.b, .slice Ak nk ck, .slice Aa na ca, .slice Af nf cf] 64)).heap.size := fun b hb => by have := hbz.size; have := hb.2; omega
    have hb3 := hb2.alloc hb2.size (.cells #[.int .i64 n.op, .int .i64 n.a, .int .i64 n.b, .slice Ak nk ck, .slice Aa na ca, .slice Af nf cf] 64)
    have yc := Blk.cell hn3
    have HPP := Lib.hid hpp
    have HN3 := Lib.hid hn3
    have HR3 := Lib.hid hR3
    have HB3 := Lib.hid hb3
    obtain ⟨hok, hv1, hvk, hall, hpre, hrow, hl4, hfs⟩ := right_row HS.out hpp
    clear hpp hn3 hR3 hb3 hb2 hbz
    clear hok hv1 hvk hall hpre hrow hl4 hfs
    go_wp2_with fail
    go_ret
    rw [free_big HS.out HPP.out H2.out]
    exact ⟨rfl, HB3.out⟩
  have h2b : decide (1048576 < v) = false := by simpa using h2
  have h3 : 0 ≤ v := by omega
  have H3 := Lib.hid h3
  have h4 : v ≤ 1048576 := by omega
  have H4 := Lib.hid h4
  clear h1 h2 h3 h4
  go_enter Try.func22, Try.ntmps22
  go_wp2_with fail
  refine (refOf_any h).mono ?_
  rintro e w2 ⟨hb2, ⟨h9, _⟩ | ⟨xs, n, ats, k, rfl, ht, hpp, _⟩⟩
  · exact absurd HS.out h9
  have HT := Lib.hid ht
  obtain ⟨sk, sa, sf, rfl, ⟨Ak, nk, ck, rfl, hkk⟩, ⟨Aa, na, ca, rfl, haa⟩, ⟨Af, nf, cf, rfl, hff⟩⟩ := ht
  clear hkk haa hff
  have hbz := below_alloc w2 (.cells #[.int .i64 n.op, .int .i64 n.a, .int .i64 n.b, .slice Ak nk ck, .slice Aa na ca, .slice Af nf cf] 64)
  have hn3 : Blk (w2.alloc (.cells #[.int .i64 n.op, .int .i64 n.a, .int .i64 n.b, .slice Ak nk ck, .slice Aa na ca, .slice Af nf cf] 64)) w2.heap.size 64 #[.int .i64 n.op, .int .i64 n.a, .int .i64 n.b, .slice Ak nk ck, .slice Aa na ca, .slice Af nf cf] := Blk.new _ _ _
  have HT3 : Hid (TreeC (fresh w w2) (w2.alloc (.cells #[.int .i64 n.op, .int .i64 n.a, .int .i64 n.b, .slice Ak nk ck, .slice Aa na ca, .slice Af nf cf] 64)) [.int .i64 n.op, .int .i64 n.a, .int .i64 n.b, .slice Ak nk ck, .slice Aa na ca, .slice Af nf cf] n ats k) := Lib.hid (HT.out.keep fun b hb => ⟨hb, fun o => cell_of_heap (hbz.block b hb.2) o⟩)
  have hR3 : ∀ b, fresh w w2 b → b < (w2.alloc (.cells #[.int .i64 n.op, .int .i64 n.a, .int .i64 n.b, .slice Ak nk ck, .slice Aa na ca, .slice Af nf cf] 64)).heap.size := fun b hb => by have := hbz.size; have := hb.2; omega
  have hb3 := hb2.alloc hb2.size (.cells #[.int .i64 n.op, .int .i64 n.a, .int .i64 n.b, .slice Ak nk ck, .slice Aa na ca, .slice Af nf cf] 64)
  have yc := Blk.cell hn3
  have HPP := Lib.hid hpp
  have HN3 := Lib.hid hn3
  have HR3 := Lib.hid hR3
  have HB3 := Lib.hid hb3
  obtain ⟨hok, hv1, hvk, hall, hpre, hrow, hl4, hfs⟩ := right_row HS.out hpp
  clear hpp hn3 hR3 hb3 hb2 hbz
  have hf := free_told HS.out HPP.out H3.out
  have hu : v + 4 * fsize k ≤ 1000000000000 := by have := H4.out; omega
  clear hv1 hvk hpre hrow hl4 hfs
  go_wp2_with fail
  refine (times_any HR3.out HT3.out hok hall H3.out hu).mono ?_
  rintro e w4 ⟨rfl, hb4⟩
  have hb5 := HB3.out.trans (hb4.mono HB3.out.size)
  clear hb4
  go_wp2_with fail
  go_ret
  rw [hf]
  exact ⟨rfl, hb5⟩

end Go.Proofs.Ytnmeglbamfjcgaa
