/- Of of the reference. -/
import Derived.Test.YtnmeglbamfjcgaaRefTop
namespace Go.Proofs.Ytnmeglbamfjcgaa
open Go.RowKit

def OfPost (l : List Nd) (w : World) (e : Ending) (w' : World) : Prop := Below w.heap.size w w' ∧
  ((shapeI l ≠ 0 ∧ e = .returned (.tuple #[treeNil, .bool false])) ∨ ∃ xs n ats k, e = .returned (.tuple #[.agg xs.toArray, .bool true]) ∧ TreeC (fresh w w') w' xs n ats k ∧ pp [false] l = some (.cons [] n ats k .nil, []) ∧ shapeI l = 0)

theorem results_of {w : World} {g : Nat} {c0 c1 c2 c3 c4 c5 : Value} {tmps : Array Value} (h : Blk w g 64 #[c0, c1, c2, c3, c4, c5]) (ht : tmps.getD 2 undef = .pointer (some ⟨g, 0, none⟩)) :
    (results Try.f48 tmps).run Try.prog w = .ok (.tuple #[.agg #[c0, c1, c2, c3, c4, c5], tmps.getD 3 undef]) w := by
  have hc := h.cell
  have ht' : tmps[2]?.getD undef = .pointer (some ⟨g, 0, none⟩) := by rw [← ht]; simp
  simp [results, Try.results48, go_sem, ht', hc]

theorem six_far {w : World} {g b : Nat} (hb : b ≠ g) (x0 x1 x2 x3 x4 x5 : Value) : ((((((w.setCell ⟨g, 0, none⟩ x0).setCell ⟨g, 1, none⟩ x1).setCell ⟨g, 2, none⟩ x2).setCell ⟨g, 3, none⟩ x3).setCell ⟨g, 4, none⟩ x4).setCell ⟨g, 5, none⟩ x5).heap[b]? = w.heap[b]? := by
  rw [Below.heap_setCell _ _ _ _ hb, Below.heap_setCell _ _ _ _ hb, Below.heap_setCell _ _ _ _ hb, Below.heap_setCell _ _ _ _ hb, Below.heap_setCell _ _ _ _ hb, Below.heap_setCell _ _ _ _ hb]
theorem six_size {w : World} {g : Nat} (x0 x1 x2 x3 x4 x5 : Value) : ((((((w.setCell ⟨g, 0, none⟩ x0).setCell ⟨g, 1, none⟩ x1).setCell ⟨g, 2, none⟩ x2).setCell ⟨g, 3, none⟩ x3).setCell ⟨g, 4, none⟩ x4).setCell ⟨g, 5, none⟩ x5).heap.size = w.heap.size := by
  simp [World.setCell]

set_option maxRecDepth 100000 in
set_option maxHeartbeats 2000000 in
theorem refOf_any {A : Option Addr} {nn c : Nat} {l : List Nd} {w : World} (h : TermV w A nn c l) :
    Calls Try.prog 48 #[.slice A nn c] w (OfPost l w) := by
  have hb0 := below_alloc w (.cells #[.int .i64 0, .int .i64 0, .int .i64 0, .slice none 0 0, .slice none 0 0, .slice none 0 0] 64)
  have h1 : TermV (w.alloc (.cells #[.int .i64 0, .int .i64 0, .int .i64 0, .slice none 0 0, .slice none 0 0, .slice none 0 0] 64)) A nn c l := h.below hb0
  have hz : Blk (w.alloc (.cells #[.int .i64 0, .int .i64 0, .int .i64 0, .slice none 0 0, .slice none 0 0, .slice none 0 0] 64)) w.heap.size 64 #[.int .i64 0, .int .i64 0, .int .i64 0, .slice none 0 0, .slice none 0 0, .slice none 0 0] := Blk.new _ _ _
  by_cases hs : shapeI l = 0
  · have hsb : (shapeI l != 0) = false := by simp [hs]
    have HS := Lib.hid hs
    have H1 := Lib.hid h1
    have HZ := Lib.hid hz
    have HB0 := Lib.hid hb0
    clear hs h h1 hz hb0
    go_enter Try.func48, Try.ntmps48
    go_wp2_with fail
    refine (refShape_any H1.out).mono ?_
    rintro e w2 ⟨rfl, hb2⟩
    have h2 := H1.out.below hb2
    have hz2 := HZ.out.below hb2 HZ.out.lt
    have hg2 := hz2.lt
    have hb2' := HB0.out.trans (hb2.mono HB0.out.size)
    have HB2 := Lib.hid hb2'
    have HZ2 := Lib.hid hz2
    clear hb2 hb2' hz2
    go_wp2_with fail
    refine (read_any h2).mono ?_
    intro e w3 hr
    obtain ⟨hb, ⟨rfl, hs8⟩ | ⟨xs, n, ats, k, m, rfl, ht, hm, hc⟩⟩ := read_cases hr
    · have hl := (shape_ok HS.out).1
      have := hs8 hl
      rw [HS.out] at this
      cases this
    · have hl := (shape_ok HS.out).1
      obtain ⟨_, hpp, _⟩ : m = l.length ∧ pp [false] l = some (.cons [] n ats k .nil, []) ∧ (l.length ≤ 4096 → shapeI l = 0) := by
        rcases hc with hc | ⟨_, hc⟩
        · exact hc
        · have := hc hl
          rw [HS.out] at this
          cases this
      have HT := Lib.hid ht
      obtain ⟨sk, sa, sf, rfl, ⟨Ak, nk, ck, rfl, hkk⟩, ⟨Aa, na, ca, rfl, haa⟩, ⟨Af, nf, cf, rfl, hff⟩⟩ := ht
      have hz3 := (HZ2.out.below hb hg2).alloc (.cells #[.int .i64 n.op, .int .i64 n.a, .int .i64 n.b, .slice Ak nk ck, .slice Aa na ca, .slice Af nf cf] 64)
      have zc := Blk.cell hz3
      have zf := Blk.frozen hz3
      have hn3 : Blk (w3.alloc (.cells #[.int .i64 n.op, .int .i64 n.a, .int .i64 n.b, .slice Ak nk ck, .slice Aa na ca, .slice Af nf cf] 64)) w3.heap.size 64 #[.int .i64 n.op, .int .i64 n.a, .int .i64 n.b, .slice Ak nk ck, .slice Aa na ca, .slice Af nf cf] := Blk.new _ _ _
      have yc := Blk.cell hn3
      have HPP := Lib.hid hpp
      have HB := Lib.hid (HB2.out.trans (hb.mono HB2.out.size))
      have HBB := Lib.hid hb
      have HZ3 := Lib.hid hz3
      clear hz3 hn3 hpp hb hr hc hm hkk haa hff
      go_wp2_with fail
      refine bodyPost_ret (v := .tuple #[.agg #[.int .i64 n.op, .int .i64 n.a, .int .i64 n.b, .slice Ak nk ck, .slice Aa na ca, .slice Af nf cf], .bool true]) (results_of ((((((HZ3.out.set_ 0 _).set_ 1 _).set_ 2 _).set_ 3 _).set_ 4 _).set_ 5 _) rfl) rfl ⟨below_six (HB.out.alloc HB.out.size _) (Nat.le_refl _) _ _ _ _ _ _, .inr ⟨_, n, ats, k, rfl, HT.out.keep (fun b hb => ?_), HPP.out, HS.out⟩⟩
      obtain ⟨hf1, hf2⟩ := hb
      have hsz := HB2.out.size
      have hne : b ≠ w.heap.size := by omega
      refine ⟨⟨by omega, ?_⟩, fun o => ?_⟩
      · rw [six_size]
        have := (below_alloc w3 (.cells #[.int .i64 n.op, .int .i64 n.a, .int .i64 n.b, .slice Ak nk ck, .slice Aa na ca, .slice Af nf cf] 64)).size
        omega
      · rw [cell_of_heap (six_far hne _ _ _ _ _ _) o]
        exact cell_of_heap ((below_alloc w3 _).block b hf2) o
  · have hsb : (shapeI l != 0) = true := by simp [hs]
    have HS := Lib.hid hs
    have H1 := Lib.hid h1
    have HZ := Lib.hid hz
    have HB0 := Lib.hid hb0
    clear hs h h1 hz hb0
    go_enter Try.func48, Try.ntmps48
    go_wp2_with fail
    refine (refShape_any H1.out).mono ?_
    rintro e w2 ⟨rfl, hb2⟩
    have hz2 := HZ.out.below hb2 HZ.out.lt
    have zc := Blk.cell hz2
    have zf := Blk.frozen hz2
    have hb2' := HB0.out.trans (hb2.mono HB0.out.size)
    have HB2 := Lib.hid hb2'
    have HZ2 := Lib.hid hz2
    clear hb2 hb2' hz2
    go_wp2_with fail
    exact bodyPost_ret (v := .tuple #[treeNil, .bool false]) (results_of ((((((HZ2.out.set_ 0 _).set_ 1 _).set_ 2 _).set_ 3 _).set_ 4 _).set_ 5 _) rfl) rfl ⟨below_six HB2.out (Nat.le_refl _) _ _ _ _ _ _, .inl ⟨HS.out, rfl⟩⟩

end Go.Proofs.Ytnmeglbamfjcgaa
