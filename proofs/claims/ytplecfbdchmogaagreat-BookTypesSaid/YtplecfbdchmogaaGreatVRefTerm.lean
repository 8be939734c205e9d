/- Merged: RefTop, RefOf, RefBelow. -/
import Derived.Test.YtplecfbdchmogaaGreatVReads
import Derived.Test.YtplecfbdchmogaaGreatVKidss
import Derived.Test.YtplecfbdchmogaaGreatVGreatest
namespace Go.Proofs.YtplecfbdchmogaaGreat
open Go.Lib (hid)
set_option maxHeartbeats 2000000
set_option maxRecDepth 100000
section
open Go.RowKit
theorem shapeI_8 {l : List Nd} (h : l.length ≤ 4096) (h0 : shapeI l ≠ 0) : shapeI l = 8 := by
 unfold shapeI at h0 ⊢
 rw [if_neg (by omega)] at h0 ⊢
 split
 · rename_i h1
   rw [if_pos h1] at h0
   exact absurd rfl h0
 rfl
theorem shapeI_9 {l : List Nd} (h : 4096 < l.length) : shapeI l = 9 := by
 unfold shapeI
 rw [if_pos h]
theorem ret_tup_bool {k : IntKind} {a b : Int} (h : a = b) : Ending.returned (.int k a) = .returned (.int k b) := by rw [h]
theorem read_cases {l : List Nd} {w w' : World} {e : Ending} (h : ReadPost l w e w') : Below w.heap.size w w' ∧
 ((e = .returned (.tuple #[treeNil, .int .i64 0, .bool false]) ∧ (l.length ≤ 4096 → shapeI l = 8)) ∨
  ∃ xs n ats k m, e = .returned (.tuple #[.agg xs.toArray, .int .i64 (m : Nat), .bool true]) ∧ TreeC (fresh w w') w' xs n ats k ∧ m ≤ l.length ∧ ((m = l.length ∧ pp [false] l = some (.cons [] n ats k .nil, []) ∧ (l.length ≤ 4096 → shapeI l = 0)) ∨ (m < l.length ∧ (l.length ≤ 4096 → shapeI l = 8)))) := by
 obtain ⟨hb, h⟩ := h
 refine ⟨hb, ?_⟩
 cases hp : pp [false] l with
 | none =>
  rw [hp] at h
  refine .inl ⟨h, fun hl => shapeI_8 hl fun h0 => ?_⟩
  obtain ⟨_, n, ats, k, hpp, _⟩ := shape_ok h0
  rw [hp] at hpp
  cases hpp
 | some p =>
  obtain ⟨F, r⟩ := p
  have hw := wf_of_pp hp
  cases F with
  | nil => exact hw.elim
  | cons pr n ats k x =>
   cases x with
   | cons _ _ _ _ _ => exact hw.2.2.2.2.elim
   | nil =>
    obtain ⟨hpr, _⟩ := hw
    simp only at hpr
    subst hpr
    rw [hp] at h
    obtain ⟨xs, he, ht⟩ := h
    have hlen := pp_row hp
    refine .inr ⟨xs, n, ats, k, _, he, ht, Nat.sub_le _ _, ?_⟩
    have hlen2 : r.length ≤ l.length := by rw [hlen]; simp
    cases r with
    | nil =>
     refine .inl ⟨by simp, rfl, fun hl => shape_of_pp hp hl⟩
    | cons y r =>
     simp only [List.length_cons] at hlen2 ⊢
     refine .inr ⟨by omega, fun hl => shapeI_8 hl fun h0 => ?_⟩
     obtain ⟨_, n, ats, k, hpp, _⟩ := shape_ok h0
     rw [hp] at hpp
     cases hpp
theorem refShape_any {A : Option Addr} {nn c : Nat} {l : List Nd} {w : World} (h : TermV w A nn c l) :
 Calls Tryz.prog 87 #[.slice A nn c] w (IntPost (shapeI l) w) := by
 have hfew := h.few
 have hlen := h.len
 by_cases h1 : 4096 < nn
 · have h1b : decide ((4096 : Int) < (nn : Int)) = true := by simp; omega
   have hs : shapeI l = 9 := shapeI_9 (by omega)
   clear h1 h hlen
   go_in
   go_wp2_with fail
   go_ret
   exact ⟨ret_tup_bool hs.symm, Below.refl _ _⟩
 have h1b : decide ((4096 : Int) < (nn : Int)) = false := by simp; omega
 have hl : l.length ≤ 4096 := by omega
 have HL := hid hl
 have HLEN := hid hlen
 have H := hid h
 clear h1 hl hlen h
 go_in
 go_wp2_with fail
 refine (read_any H.out).mono ?_
 intro e w2 hr
 obtain ⟨hb, ⟨rfl, hs⟩ | ⟨xs, n, ats, k, m, rfl, ht, hm, hc⟩⟩ := read_cases hr
 · have hs8 := hs HL.out
   have HB := hid hb
   clear hs hb hr
   unfold treeNil
   go_wp2_with fail
   go_ret
   refine ⟨ret_tup_bool hs8.symm, ?_⟩
   exact HB.out.alloc HB.out.size _
 obtain ⟨sk, sa, sf, rfl, ⟨Ak, nk, ck, rfl, hkk⟩, ⟨Aa, na, ca, rfl, haa⟩, ⟨Af, nf, cf, rfl, hff⟩⟩ := ht
 rcases hc with ⟨hm1, hpp, hs⟩ | ⟨hm1, hs⟩
 · have hg : ((m : Int) != (nn : Int)) = false := by simp; have := HLEN.out; omega
   have hs0 := hs HL.out
   have HB := hid hb
   clear hs hb hr hpp hm hm1 hkk haa hff
   go_wp2_with fail
   go_ret
   refine ⟨ret_tup_bool hs0.symm, ?_⟩
   exact HB.out.alloc HB.out.size _
 have hg : ((m : Int) != (nn : Int)) = true := by simp; have := HLEN.out; omega
 have hs0 := hs HL.out
 have HB := hid hb
 clear hs hb hr hm hm1 hkk haa hff
 go_wp2_with fail
 go_ret
 refine ⟨ret_tup_bool hs0.symm, ?_⟩
 exact HB.out.alloc HB.out.size _
end
section
open Go.RowKit
def OfPost (l : List Nd) (w : World) (e : Ending) (w' : World) : Prop := Below w.heap.size w w' ∧
 ((shapeI l ≠ 0 ∧ e = .returned (.tuple #[treeNil, .bool false])) ∨ ∃ xs n ats k, e = .returned (.tuple #[.agg xs.toArray, .bool true]) ∧ TreeC (fresh w w') w' xs n ats k ∧ pp [false] l = some (.cons [] n ats k .nil, []) ∧ shapeI l = 0)
theorem results_of {w : World} {g : Nat} {c0 c1 c2 c3 c4 c5 : Value} {tmps : Array Value} (h : Blk w g 131 #[c0, c1, c2, c3, c4, c5]) (ht : tmps.getD 2 undef = .pointer (some ⟨g, 0, none⟩)) :
 (results Tryz.f88 tmps).run Tryz.prog w = .ok (.tuple #[.agg #[c0, c1, c2, c3, c4, c5], tmps.getD 3 undef]) w := by
 have hc := h.cell
 have ht' : tmps[2]?.getD undef = .pointer (some ⟨g, 0, none⟩) := by rw [← ht]; simp
 simp [results, Tryz.results88, go_sem, ht', hc]
theorem six_far {w : World} {g b : Nat} (hb : b ≠ g) (x0 x1 x2 x3 x4 x5 : Value) : ((((((w.setCell ⟨g, 0, none⟩ x0).setCell ⟨g, 1, none⟩ x1).setCell ⟨g, 2, none⟩ x2).setCell ⟨g, 3, none⟩ x3).setCell ⟨g, 4, none⟩ x4).setCell ⟨g, 5, none⟩ x5).heap[b]? = w.heap[b]? := by
 rw [Below.heap_setCell _ _ _ _ hb, Below.heap_setCell _ _ _ _ hb, Below.heap_setCell _ _ _ _ hb, Below.heap_setCell _ _ _ _ hb, Below.heap_setCell _ _ _ _ hb, Below.heap_setCell _ _ _ _ hb]
theorem six_size {w : World} {g : Nat} (x0 x1 x2 x3 x4 x5 : Value) : ((((((w.setCell ⟨g, 0, none⟩ x0).setCell ⟨g, 1, none⟩ x1).setCell ⟨g, 2, none⟩ x2).setCell ⟨g, 3, none⟩ x3).setCell ⟨g, 4, none⟩ x4).setCell ⟨g, 5, none⟩ x5).heap.size = w.heap.size := by
 simp [World.setCell]
theorem refOf_any {A : Option Addr} {nn c : Nat} {l : List Nd} {w : World} (h : TermV w A nn c l) :
 Calls Tryz.prog 88 #[.slice A nn c] w (OfPost l w) := by
 have hb0 := below_alloc w (.cells #[.int .i64 0, .int .i64 0, .int .i64 0, .slice none 0 0, .slice none 0 0, .slice none 0 0] 131)
 have h1 : TermV (w.alloc (.cells #[.int .i64 0, .int .i64 0, .int .i64 0, .slice none 0 0, .slice none 0 0, .slice none 0 0] 131)) A nn c l := h.below hb0
 have hz : Blk (w.alloc (.cells #[.int .i64 0, .int .i64 0, .int .i64 0, .slice none 0 0, .slice none 0 0, .slice none 0 0] 131)) w.heap.size 131 #[.int .i64 0, .int .i64 0, .int .i64 0, .slice none 0 0, .slice none 0 0, .slice none 0 0] := Blk.new _ _ _
 by_cases hs : shapeI l = 0
 rotate_left
 · have hsb : (shapeI l != 0) = true := by simp [hs]
   have HS := hid hs
   have H1 := hid h1
   have HZ := hid hz
   have HB0 := hid hb0
   clear hs h h1 hz hb0
   go_in
   go_wp2_with fail
   refine (refShape_any H1.out).mono ?_
   rintro e w2 ⟨rfl, hb2⟩
   have hz2 := HZ.out.below hb2 HZ.out.lt
   have zc := Blk.cell hz2
   have zf := Blk.frozen hz2
   have hb2' := HB0.out.trans (hb2.mono HB0.out.size)
   have HB2 := hid hb2'
   have HZ2 := hid hz2
   clear hb2 hb2' hz2
   go_wp2_with fail
   exact bodyPost_ret (v := .tuple #[treeNil, .bool false]) (results_of ((((((HZ2.out.set_ 0 _).set_ 1 _).set_ 2 _).set_ 3 _).set_ 4 _).set_ 5 _) rfl) rfl ⟨below_six HB2.out (Nat.le_refl _) _ _ _ _ _ _, .inl ⟨HS.out, rfl⟩⟩
 have hsb : (shapeI l != 0) = false := by simp [hs]
 have HS := hid hs
 have H1 := hid h1
 have HZ := hid hz
 have HB0 := hid hb0
 clear hs h h1 hz hb0
 go_in
 go_wp2_with fail
 refine (refShape_any H1.out).mono ?_
 rintro e w2 ⟨rfl, hb2⟩
 have h2 := H1.out.below hb2
 have hz2 := HZ.out.below hb2 HZ.out.lt
 have hg2 := hz2.lt
 have hb2' := HB0.out.trans (hb2.mono HB0.out.size)
 have HB2 := hid hb2'
 have HZ2 := hid hz2
 clear hb2 hb2' hz2
 go_wp2_with fail
 refine (read_any h2).mono ?_
 intro e w3 hr
 obtain ⟨hb, ⟨rfl, hs8⟩ | ⟨xs, n, ats, k, m, rfl, ht, hm, hc⟩⟩ := read_cases hr
 · have hl := (shape_ok HS.out).1
   have := hs8 hl
   rw [HS.out] at this
   cases this
 have hl := (shape_ok HS.out).1
 obtain ⟨_, hpp, _⟩ : m = l.length ∧ pp [false] l = some (.cons [] n ats k .nil, []) ∧ (l.length ≤ 4096 → shapeI l = 0) := by
  rcases hc with hc | ⟨_, hc⟩
  · exact hc
  have := hc hl
  rw [HS.out] at this
  cases this
 have HT := hid ht
 obtain ⟨sk, sa, sf, rfl, ⟨Ak, nk, ck, rfl, hkk⟩, ⟨Aa, na, ca, rfl, haa⟩, ⟨Af, nf, cf, rfl, hff⟩⟩ := ht
 have hz3 := (HZ2.out.below hb hg2).alloc (.cells #[.int .i64 n.op, .int .i64 n.a, .int .i64 n.b, .slice Ak nk ck, .slice Aa na ca, .slice Af nf cf] 131)
 have zc := Blk.cell hz3
 have zf := Blk.frozen hz3
 have hn3 : Blk (w3.alloc (.cells #[.int .i64 n.op, .int .i64 n.a, .int .i64 n.b, .slice Ak nk ck, .slice Aa na ca, .slice Af nf cf] 131)) w3.heap.size 131 #[.int .i64 n.op, .int .i64 n.a, .int .i64 n.b, .slice Ak nk ck, .slice Aa na ca, .slice Af nf cf] := Blk.new _ _ _
 have yc := Blk.cell hn3
 have HPP := hid hpp
 have HB := bto HB2 hb
 have HBB := hid hb
 have HZ3 := hid hz3
 clear hz3 hn3 hpp hb hr hc hm hkk haa hff
 go_wp2_with fail
 refine bodyPost_ret (v := .tuple #[.agg #[.int .i64 n.op, .int .i64 n.a, .int .i64 n.b, .slice Ak nk ck, .slice Aa na ca, .slice Af nf cf], .bool true]) (results_of ((((((HZ3.out.set_ 0 _).set_ 1 _).set_ 2 _).set_ 3 _).set_ 4 _).set_ 5 _) rfl) rfl ⟨below_six (HB.out.alloc HB.out.size _) (Nat.le_refl _) _ _ _ _ _ _, .inr ⟨_, n, ats, k, rfl, HT.out.keep (fun b hb => ?_), HPP.out, HS.out⟩⟩
 obtain ⟨hf1, hf2⟩ := hb
 have hsz := HB2.out.size
 have hne : b ≠ w.heap.size := by omega
 refine ⟨⟨by omega, ?_⟩, fun o => ?_⟩
 · rw [six_size]
   have := (below_alloc w3 (.cells #[.int .i64 n.op, .int .i64 n.a, .int .i64 n.b, .slice Ak nk ck, .slice Aa na ca, .slice Af nf cf] 131)).size
   omega
 rw [cell_of_heap (six_far hne _ _ _ _ _ _) o]
 exact cell_of_heap ((below_alloc w3 _).block b hf2) o
end
section
open Go.RowKit
theorem greatest_nil (w : World) : Calls Tryz.prog 124 #[.agg #[.int .i64 0, .int .i64 0, .int .i64 0, .slice none 0 0, .slice none 0 0, .slice none 0 0], .int .i64 0] w (IntPost (-1) w) := by
 go_in
 go_wp2_with fail
 go_loopw [5, 6] (fun v i wr => v = .int .i64 (-1) ∧ i = .int .i64 0 ∧ Below w.heap.size w wr ∧ Blk wr w.heap.size 131 #[.int .i64 0, .int .i64 0, .int .i64 0, .slice none 0 0, .slice none 0 0, .slice none 0 0]) (fun _ _ _ => 0)
 case atStart => exact ⟨rfl, rfl, below_alloc _ _, Blk.new _ _ _⟩
 case round =>
  obtain ⟨rfl, rfl, hbw, hblk⟩ := hrel
  have zc := Blk.cell hblk
  go_wp2_with fail
  go_ret
  exact ⟨rfl, hbw⟩
theorem refBelow_any {A : Option Addr} {nn c : Nat} {l : List Nd} {w : World} (h : TermV w A nn c l) (v : Int) :
 Calls Tryz.prog 89 #[.slice A nn c, .int .i64 v] w (BoolPost (belowB l v) w) := by
 by_cases hs : shapeI l = 0
 rotate_left
 · have hf : belowB l v = false := by simp [belowB, hs]
   have HS := hid hs
   clear hs
   go_in
   go_wp2_with fail
   refine (refOf_any h).mono ?_
   rintro e w2 ⟨hb2, ⟨_, rfl⟩ | ⟨_, _, _, _, _, _, _, h9⟩⟩
   rotate_left
   · exact absurd h9 HS.out
   have HB2 := hid hb2
   clear hb2
   unfold treeNil
   have yc := Blk.cell (Blk.new w2 131 #[.int .i64 0, .int .i64 0, .int .i64 0, .slice none 0 0, .slice none 0 0, .slice none 0 0])
   go_wp2_with fail
   refine (greatest_nil _).mono ?_
   rintro e w4 ⟨rfl, hb4⟩
   have hb3 := HB2.out.alloc HB2.out.size (.cells #[.int .i64 0, .int .i64 0, .int .i64 0, .slice none 0 0, .slice none 0 0, .slice none 0 0] 131)
   have hb5 := hb3.trans (hb4.mono hb3.size)
   go_wp2_with fail
   go_ret
   rw [hf]
   exact ⟨rfl, hb5⟩
 have HS := hid hs
 clear hs
 go_in
 go_wp2_with fail
 refine (refOf_any h).mono ?_
 rintro e w2 ⟨hb2, ⟨h9, _⟩ | ⟨xs, n, ats, k, rfl, ht, hpp, _⟩⟩
 · exact absurd HS.out h9
 have HT := hid ht
 obtain ⟨sk, sa, sf, rfl, ⟨Ak, nk, ck, rfl, hkk⟩, ⟨Aa, na, ca, rfl, haa⟩, ⟨Af, nf, cf, rfl, hff⟩⟩ := ht
 clear hkk haa hff
 have hbz := below_alloc w2 (.cells #[.int .i64 n.op, .int .i64 n.a, .int .i64 n.b, .slice Ak nk ck, .slice Aa na ca, .slice Af nf cf] 131)
 have hn3 : Blk (w2.alloc (.cells #[.int .i64 n.op, .int .i64 n.a, .int .i64 n.b, .slice Ak nk ck, .slice Aa na ca, .slice Af nf cf] 131)) w2.heap.size 131 #[.int .i64 n.op, .int .i64 n.a, .int .i64 n.b, .slice Ak nk ck, .slice Aa na ca, .slice Af nf cf] := Blk.new _ _ _
 have HT3 : Hid (TreeC (fresh w w2) (w2.alloc (.cells #[.int .i64 n.op, .int .i64 n.a, .int .i64 n.b, .slice Ak nk ck, .slice Aa na ca, .slice Af nf cf] 131)) [.int .i64 n.op, .int .i64 n.a, .int .i64 n.b, .slice Ak nk ck, .slice Aa na ca, .slice Af nf cf] n ats k) := hid (HT.out.keep fun b hb => ⟨hb, fun o => cell_of_heap (hbz.block b hb.2) o⟩)
 have hR3 : ∀ b, fresh w w2 b → b < (w2.alloc (.cells #[.int .i64 n.op, .int .i64 n.a, .int .i64 n.b, .slice Ak nk ck, .slice Aa na ca, .slice Af nf cf] 131)).heap.size := fun b hb => by have := hbz.size; have := hb.2; omega
 have hb3 := hb2.alloc hb2.size (.cells #[.int .i64 n.op, .int .i64 n.a, .int .i64 n.b, .slice Ak nk ck, .slice Aa na ca, .slice Af nf cf] 131)
 have yc := Blk.cell hn3
 have HPP := hid hpp
 have HN3 := hid hn3
 have HR3 := hid hR3
 have HB3 := hid hb3
 obtain ⟨hok, hv1, hvk, hall, hpre, hrow, hl4, hfs⟩ := right_row HS.out hpp
 clear hpp hn3 hR3 hb3 hb2 hbz
 have hf := below_told HS.out HPP.out v
 have hu : 0 + 4 * (fsize k : Int) ≤ 1000000000000 := by omega
 clear hv1 hvk hpre hrow hl4 hfs
 go_wp2_with fail
 refine (greatest_any HR3.out HT3.out hok hall (Int.le_refl _) hu).mono ?_
 rintro e w4 ⟨rfl, hb4⟩
 have hb5 := HB3.out.trans (hb4.mono HB3.out.size)
 clear hb4 hall hok hu
 generalize grtT n k 0 = g at hf ⊢
 cases hg : decide (g < 0)
 all_goals
  rw [hg] at hf
  have HF := hid hf
  clear hf
  go_wp2_with fail
  go_ret
  exact ⟨by rw [HF.out]; rfl, hb5⟩
end
end Go.Proofs.YtplecfbdchmogaaGreat
