/- Lift of the reference, at every row. -/
import Derived.Test.YtnmeglbamfjcgaaRefOf
import Derived.Test.YtnmeglbamfjcgaaTermP4
import Derived.Test.YtnmeglbamfjcgaaGreatest
import Derived.Test.YtnmeglbamfjcgaaHighest
import Derived.Test.YtnmeglbamfjcgaaRaise
import Derived.Test.YtnmeglbamfjcgaaRow
namespace Go.Proofs.Ytnmeglbamfjcgaa
open Go.RowKit

theorem row_all : ∀ (m : Nat) (w : World) (R : Nat → Prop) (xs : List Value) (n : Nd) (atoms : List Nd) (kids : Fo), (∀ b, R b → b < w.heap.size) → TreeC R w xs n atoms kids → PreOk (decide (n.op = 12)) 0 kids → (row (.cons [] n atoms kids .nil)).length ≤ 5864062014805 → fsize kids < m →
      Calls Try.prog 51 #[.agg xs.toArray] w (RowPost (row (.cons [] n atoms kids .nil)) w)
  | 0, _, _, _, _, _, _, _, _, _, _, h => absurd h (by omega)
  | m + 1, w, R, xs, n, atoms, kids, hR, ht, hp, hl, h => row_step m (fun w R xs n atoms kids hR ht hp hl h => row_all m w R xs n atoms kids hR ht hp hl h) w R xs n atoms kids hR ht hp hl (by omega)
theorem row_any {w : World} {R : Nat → Prop} {xs : List Value} {n : Nd} {atoms : List Nd} {kids : Fo} (hR : ∀ b, R b → b < w.heap.size) (ht : TreeC R w xs n atoms kids) (hp : PreOk (decide (n.op = 12)) 0 kids) (hl : (row (.cons [] n atoms kids .nil)).length ≤ 5864062014805) :
    Calls Try.prog 51 #[.agg xs.toArray] w (RowPost (row (.cons [] n atoms kids .nil)) w) := row_all _ w R xs n atoms kids hR ht hp hl (Nat.lt_succ_self _)
theorem mixed_lt {R : Nat → Prop} {w w' : World} {b : Nat} (hR : ∀ b, R b → b < w.heap.size) (hb : Below w.heap.size w w') (h : Mixed R w w' b) : b < w'.heap.size := by
  rcases h with h | h
  · have := hR b h
    have := hb.size
    omega
  · exact h.2
/-- What Lift of the reference answers: a row and a number. -/
def RefRow (r : List Nd × Int) (w : World) (e : Ending) (w' : World) : Prop := Below w.heap.size w w' ∧ ∃ A n c, e = .returned (.tuple #[.slice A n c, .int .i64 r.2]) ∧ TermV w' A n c r.1
theorem ref_row {r : List Nd × Int} {l : List Nd} {w W w3 : World} {A : Option Addr} {n c : Nat} (hb : Below w.heap.size w w3) (ht : TermR (fresh W w3) w3 A n c l) (hr : r = (l, 0)) : RefRow r w (.returned (.tuple #[.slice A n c, .int .i64 0])) w3 := by
  subst hr
  exact ⟨hb, A, n, c, rfl, ht.keep fun b hb => ⟨hb.2, fun _ => rfl⟩⟩
theorem ref_none {r : List Nd × Int} {x : Int} {w w3 : World} (hb : Below w.heap.size w w3) (hr : r = ([], x)) : RefRow r w (.returned (.tuple #[.slice none 0 0, .int .i64 x])) w3 := by
  subst hr
  exact ⟨hb, none, 0, 0, rfl, rfl, Nat.le_refl _, by decide, fun _ => rfl, fun h => absurd h (by decide)⟩

set_option maxRecDepth 100000 in
set_option maxHeartbeats 4000000 in
theorem refLift_any {A : Option Addr} {nn c : Nat} {l : List Nd} {w : World} (h : TermV w A nn c l) (up fr : Int) :
    Calls Try.prog 21 #[.slice A nn c, .int .i64 up, .int .i64 fr] w (RefRow (liftR l up fr) w) := by
  have HH := Lib.hid h
  by_cases hs : shapeI l = 0
  rotate_left
  · have hf : liftR l up fr = ([], shapeI l) := if_neg hs
    have hsb : (shapeI l != 0) = true := by simp [hs]
    clear hs
    go_enter Try.func21, Try.ntmps21
    go_wp2_with fail
    refine (refShape_any h).mono ?_
    rintro e w1 ⟨rfl, hb1⟩
    go_wp2_with fail
    go_ret2
    exact ref_none hb1 hf
  have hsb : (shapeI l != 0) = false := by simp [hs]
  by_cases h1 : up < 0
  · have h1b : decide (up < 0) = true := by simpa using h1
    have hf : liftR l up fr = ([], 1) := by unfold liftR; rw [if_pos hs, if_pos (.inl h1)]
    clear h1 hs
    go_enter Try.func21, Try.ntmps21
    go_wp2_with fail
    refine (refShape_any h).mono ?_
    rintro e w1 ⟨rfl, hb1⟩
    go_wp2_with fail
    go_ret2
    exact ref_none hb1 hf
  have h1b : decide (up < 0) = false := by simpa using h1
  by_cases h2 : fr < 0
  · have h2b : decide (fr < 0) = true := by simpa using h2
    have hf : liftR l up fr = ([], 1) := by unfold liftR; rw [if_pos hs, if_pos (.inr h2)]
    clear h1 h2 hs
    go_enter Try.func21, Try.ntmps21
    go_wp2_with fail
    refine (refShape_any h).mono ?_
    rintro e w1 ⟨rfl, hb1⟩
    go_wp2_with fail
    go_ret2
    exact ref_none hb1 hf
  have h2b : decide (fr < 0) = false := by simpa using h2
  have h3 : 0 ≤ up := by omega
  have H3 := Lib.hid h3
  have h4 : 0 ≤ fr := by omega
  have H4 := Lib.hid h4
  have HS := Lib.hid hs
  clear h1 h2 h3 h4 hs
  go_enter Try.func21, Try.ntmps21
  go_wp2_with fail
  refine (refShape_any h).mono ?_
  rintro e w1 ⟨rfl, hb1⟩
  have h11 := HH.out.below hb1
  have HB1 := Lib.hid hb1
  clear hb1
  go_wp2_with fail
  refine (refOf_any (HH.out.below HB1.out)).mono ?_
  rintro e w2 ⟨hb2, ⟨h9, _⟩ | ⟨xs, n, ats, k, rfl, ht, hpp, _⟩⟩
  · exact absurd HS.out h9
  have HT := Lib.hid ht
  obtain ⟨sk, sa, sf, rfl, ⟨Ak, nk, ck, rfl, hkk⟩, ⟨Aa, na, ca, rfl, haa⟩, ⟨Af, nf, cf, rfl, hff⟩⟩ := ht
  clear hkk haa hff
  have hbz := below_alloc w2 (.cells #[.int .i64 n.op, .int .i64 n.a, .int .i64 n.b, .slice Ak nk ck, .slice Aa na ca, .slice Af nf cf] 64)
  have hn3 : Blk (w2.alloc (.cells #[.int .i64 n.op, .int .i64 n.a, .int .i64 n.b, .slice Ak nk ck, .slice Aa na ca, .slice Af nf cf] 64)) w2.heap.size 64 #[.int .i64 n.op, .int .i64 n.a, .int .i64 n.b, .slice Ak nk ck, .slice Aa na ca, .slice Af nf cf] := Blk.new _ _ _
  have HT3 : Hid (TreeC (fresh w1 w2) (w2.alloc (.cells #[.int .i64 n.op, .int .i64 n.a, .int .i64 n.b, .slice Ak nk ck, .slice Aa na ca, .slice Af nf cf] 64)) [.int .i64 n.op, .int .i64 n.a, .int .i64 n.b, .slice Ak nk ck, .slice Aa na ca, .slice Af nf cf] n ats k) := Lib.hid (HT.out.keep fun b hb => ⟨hb, fun o => cell_of_heap (hbz.block b hb.2) o⟩)
  have hR3 : ∀ b, fresh w1 w2 b → b < (w2.alloc (.cells #[.int .i64 n.op, .int .i64 n.a, .int .i64 n.b, .slice Ak nk ck, .slice Aa na ca, .slice Af nf cf] 64)).heap.size := fun b hb => by have := hbz.size; have := hb.2; omega
  have hb3 := hb2.alloc hb2.size (.cells #[.int .i64 n.op, .int .i64 n.a, .int .i64 n.b, .slice Ak nk ck, .slice Aa na ca, .slice Af nf cf] 64)
  have yc := Blk.cell hn3
  have HPP := Lib.hid hpp
  have HN3 := Lib.hid hn3
  have HR3 := Lib.hid hR3
  have HB3 := Lib.hid hb3
  obtain ⟨hok, hv1, hvk, hall, hpre, hrow, hl4, hfs⟩ := right_row HS.out hpp
  clear hpp hn3 hR3 hb3 hb2 hbz
  have hu : 0 + 4 * (fsize k : Int) ≤ 1000000000000 := by omega
  have hmost := most_le hok (fun q => (hv1 q).2) hvk
  have HL4 := Lib.hid hl4
  have HPRE := Lib.hid hpre
  have HROW := Lib.hid hrow
  have HALL := Lib.hid hall
  have HFS := Lib.hid hfs
  clear hv1 hvk hpre hrow hl4 hfs
  have hb30 := HB1.out.trans (HB3.out.mono HB1.out.size)
  have HB30 := Lib.hid hb30
  clear hb30
  go_wp2_with fail
  refine (greatest_any HR3.out HT3.out hok HALL.out (Int.le_refl _) hu).mono ?_
  rintro e w4 ⟨rfl, hb4⟩
  have hb5 := HB30.out.trans (hb4.mono HB30.out.size)
  have hR4 : ∀ b, fresh w1 w2 b → b < w4.heap.size := fun b hb => by have := HR3.out b hb; have := hb4.size; omega
  have HT4 : Hid (TreeC (fresh w1 w2) w4 [.int .i64 n.op, .int .i64 n.a, .int .i64 n.b, .slice Ak nk ck, .slice Aa na ca, .slice Af nf cf] n ats k) := Lib.hid (HT3.out.keep fun b hb => ⟨hb, fun o => cell_of_heap (hb4.block b (HR3.out b hb)) o⟩)
  have hn4 := HN3.out.below hb4 HN3.out.lt
  have yc4 := Blk.cell hn4
  have HR4 := Lib.hid hR4
  have HN4 := Lib.hid hn4
  have HB5 := Lib.hid hb5
  clear hR4 hn4 hb5 hb4 yc
  by_cases h5 : grtT n k 0 < fr
  · have h5b : decide (grtT n k 0 < fr) = true := by simpa using h5
    have hf := liftA HS.out HPP.out H3.out H4.out h5
    have hlen : (row (.cons [] n ats k .nil)).length ≤ 5864062014805 := by have e : row (.cons [] n ats k .nil) = l := (by rw [HROW.out]; simp [row]); rw [e]; have := HL4.out; omega
    clear h5
    go_wp2_with fail
    refine (row_any HR4.out HT4.out HPRE.out hlen).mono ?_
    rintro e w5 ⟨hb6, A2, n2, c2, rfl, ht5⟩
    go_wp2_with fail
    go_ret2
    exact ref_row (HB5.out.trans (hb6.mono HB5.out.size)) ht5 (by rw [hf, HROW.out]; simp [row])
  have h5b : decide (grtT n k 0 < fr) = false := by simpa using h5
  have h6 : fr ≤ grtT n k 0 := by omega
  have H6 := Lib.hid h6
  by_cases h7 : 1048576 < up
  · have h7b : decide (1048576 < up) = true := by simpa using h7
    have hf := liftB HS.out HPP.out H4.out H6.out h7
    clear h5 h6 h7
    go_wp2_with fail
    go_ret2
    exact ref_none HB5.out hf
  have h7b : decide (1048576 < up) = false := by simpa using h7
  have hup1 : up ≤ 1000000000000 := by omega
  have hu2 : fr + 4 * (fsize k : Int) ≤ 1000000000000 := by have := HFS.out; omega
  clear h5 h6 h7 hmost hu
  go_wp2_with fail
  refine (highest_any HR4.out HT4.out hok HALL.out H3.out hup1 H4.out hu2).mono ?_
  rintro e w5 ⟨rfl, hb6⟩
  have hb7 := HB5.out.trans (hb6.mono HB5.out.size)
  have HT5 : Hid (TreeC (fresh w1 w2) w5 [.int .i64 n.op, .int .i64 n.a, .int .i64 n.b, .slice Ak nk ck, .slice Aa na ca, .slice Af nf cf] n ats k) := Lib.hid (HT4.out.keep fun b hb => ⟨hb, fun o => cell_of_heap (hb6.block b (HR4.out b hb)) o⟩)
  have hR5 : ∀ b, fresh w1 w2 b → b < w5.heap.size := fun b hb => by have := HR4.out b hb; have := hb6.size; omega
  have yc5 := Blk.cell (HN4.out.below hb6 HN4.out.lt)
  have HR5 := Lib.hid hR5
  have HB7 := Lib.hid hb7
  clear hR5 hb6 hb7 yc4
  by_cases h8 : 1048576 < higT up n k fr
  · have h8b : decide (1048576 < higT up n k fr) = true := by simpa using h8
    have hf := liftC HS.out HPP.out H3.out H4.out H6.out h8
    clear h8
    go_wp2_with fail
    go_ret2
    exact ref_none HB7.out hf
  have h8b : decide (1048576 < higT up n k fr) = false := by simpa using h8
  obtain ⟨hf, hpre2, hlen2⟩ := liftD HS.out HPP.out H3.out H4.out H6.out (by omega)
  clear h8
  go_wp2_with fail
  refine (raise_any HR5.out HT5.out hok HALL.out H3.out hup1 H4.out hu2).mono ?_
  rintro e w6 ⟨hb8, ys, rfl, ht6⟩
  have hb9 := HB7.out.trans (hb8.mono HB7.out.size)
  have hR6 : ∀ b, Mixed (fresh w1 w2) w5 w6 b → b < w6.heap.size := fun b hb => mixed_lt HR5.out hb8 hb
  go_wp2_with fail
  refine (row_any hR6 ht6 hpre2 (by omega)).mono ?_
  rintro e w7 ⟨hb10, A2, n2, c2, rfl, ht7⟩
  go_wp2_with fail
  go_ret2
  exact ref_row (hb9.trans (hb10.mono hb9.size)) ht7 hf

end Go.Proofs.Ytnmeglbamfjcgaa
