/- term.Kids: the kids come in new memory; slices of rows cut. -/
import Derived.Test.YtplecfbdchmogaaEKidss
import Derived.Test.YtplecfbdchmogaaESenseM
namespace Go.Proofs.Ytplecfbdchmogaa
open Go.Lib (hid)
open Go.RowKit
def KidsNewP (ls : List (List Nd)) (w : World) (e : Ending) (w' : World) : Prop := Below w.heap.size w w' ∧ ∃ A n c, e = .returned (.slice A n c) ∧ RowsR (fun q => w.heap.size ≤ q ∧ q < w'.heap.size) w' A n c ls
set_option linter.unusedSimpArgs false in
set_option maxRecDepth 100000 in
set_option maxHeartbeats 4000000 in
theorem kids6_any {A : Option Addr} {nn c : Nat} {l : List Nd} {w : World} (h : TermV w A nn c l) :
 Calls Try.prog 16 #[.slice A nn c] w (KidsNewP (rowsL (topOf l).2) w) := by
 by_cases hs : shapeI l = 0
 rotate_left
 · have htop : topOf l = (⟨0, 0, 0⟩, .nil) := by
    unfold topOf
    rw [if_neg hs]
   have HTOP := hid htop
   have hsb : (shapeI l != 0) = true := by simpa using hs
   have HSH := hid (shape_any h)
   clear htop hs h
   go_in
   go_wp2_with fail
   refine (HSH.out).mono ?_
   rintro e w2 ⟨rfl, hb2⟩
   have HB2 := hid hb2
   clear hb2
   go_wp2_with fail
   go_ret
   rw [HTOP.out]
   exact ⟨HB2.out, none, 0, 0, rfl, rfl, by decide, fun h => absurd h (by decide)⟩
 obtain ⟨_, n, ats, k, hpp, hrow, hfs⟩ := shape_ok hs
 have htop : topOf l = (n, k) := by
  unfold topOf
  rw [if_pos hs, hpp]
 have hfl : flen k ≤ 4096 := by have := flen_le_fsize k; omega
 have HTOP := hid htop
 have hsh := shape_any h
 rw [hs] at hsh
 have hparts : ∀ w2, Below w.heap.size w w2 → Calls Try.prog 50 #[.slice A nn c] w2 (PartsPost n k w2) := fun w2 hb => parts_any (h.below hb) hs hpp
 have HSH := hid hsh
 have HPARTS := hid hparts
 clear hsh hparts htop hs hpp hrow h
 go_in
 go_wp2_with fail
 refine (HSH.out).mono ?_
 rintro e w2 ⟨rfl, hb2⟩
 have HB2 := hid hb2
 clear hb2
 go_wp2_with fail
 refine (HPARTS.out _ HB2.out).mono ?_
 rintro e w3 ⟨hb3, A1, k1, A2, k2, xs1, rfl, ho1, ho2, hr⟩
 have HB3 := hid hb3
 have HO1 := hid ho1
 have HR := hid hr
 clear hb3 ho1 ho2 hr
 go_wp2_with fail
 go_loopw [16] (fun i wr => ∃ (F1 F2 : Fo) (j : Nat) (xa xb : List Value), Hid (k = F1.app F2) ∧ Hid (flen F1 = j) ∧ i = .int .i64 (j : Int) ∧ Hid (wr.ownsRow (w2.heap.size + 5) 28 1 (.slice A1 (flen k) k1) (flen k) (xa ++ xb)) ∧
  Hid (RowsC (Aside (w2.heap.size + 5) wr (.slice A1 (flen k) k1)) wr xa (rowsL F1)) ∧ Hid (RowsC (· < w2.heap.size) w2 xb (rowsL F2)) ∧ Hid (Below w2.heap.size w2 wr)) (fun i _ => flen k - (intOf i).toNat)
 case atStart => exact ⟨.nil, k, 0, [], xs1, hid rfl, hid rfl, rfl, HO1, hid trivial, HR, HB3⟩
 case round =>
  obtain ⟨F1, F2, j, xa, xb, hk, hj, rfl, hown, hra, hrb, hbw⟩ := hrel
  cases F2 with
  | nil =>
   have hkf : k = F1 := hk.out.trans (app_nil F1)
   have hjn : ¬ j < flen k := by rw [hkf, hj.out]; omega
   have HKF := hid hkf
   clear hkf
   match xb, hrb with
   | _ :: _, hrb => exact hrb.out.elim
   | [], hrb =>
   go_wp2_with fail
   go_ret
   rw [HTOP.out]
   refine ⟨HB2.out.trans (hbw.out.mono HB2.out.size), _, _, _, rfl, own_rowsQ (R := fun q => w.heap.size ≤ q ∧ q < wr.heap.size) hown.out (by rw [rowsL_len]) (by omega) (ls := rowsL k) (S := Aside (w2.heap.size + 5) wr (.slice A1 (flen k) k1)) ?_ (fun b hb => ⟨by have := HB2.out.size; have := hb.1; omega, hb.2.1⟩) (fun q e => ⟨by have := HB2.out.size; have := (ownsRow_block hown.out e).1; omega, (ownsRow_block hown.out e).2.1⟩)⟩
   rw [List.append_nil]
   have := hra.out
   rwa [← HKF.out] at this
  | cons pre nd a ks F3 =>
   have hjn : j < flen k := by rw [hk.out, flen_app, hj.out]; simp [flen]
   match xb, hrb with
   | [], hrb => exact hrb.out.elim
   | x :: xb, hrb =>
   obtain ⟨⟨A', n', c', rfl, ht⟩, hrb2⟩ := hrb.out
   obtain ⟨_, hcase⟩ := hown.out
   rcases hcase with ⟨_, h2⟩ | ⟨g, cap', cur, hv, hg, hh, _⟩
   · omega
   injection hv with e1 e2 e3
   subst e1
   subst e3
   clear e2
   have hxa : xa.length = j := by rw [hra.out.len, rowsL_len, hj.out]
   have hblk : Blk wr g 28 cur := hh
   have hcell : wr.cell? ⟨g, j, none⟩ = some (.slice A' n' c') := by
    have := hown.out.cellAt (g := g) j (by omega)
    rw [this, List.getElem?_append_right (by omega), hxa, Nat.sub_self]
    rfl
   have HCLONE := hid (clone_any (ht.keep (R' := (· < wr.heap.size)) (w' := wr) fun b hb => ⟨Nat.lt_of_lt_of_le hb hbw.out.size, fun o => cell_of_heap (hbw.out.block b hb) o⟩))
   have HG := hid hg
   have HBLK := hid hblk
   have HT := hid ht
   have HRB2 := hid hrb2
   have HXA := hid hxa
   clear hg hh hblk ht hrb2 hxa
   go_wp2_with fail
   refine (HCLONE.out).mono ?_
   rintro e w4 ⟨hb4, A4, n4, c4, rfl, ht4⟩
   have hblk4 : Blk w4 g 28 cur := HBLK.out.below hb4 HBLK.out.lt
   have hcell4 : w4.cell? ⟨g, j, none⟩ = some (.slice A' n' c') := (cell_of_heap (hb4.block g HBLK.out.lt) j).trans hcell
   have hfz4 := hblk4.frozen
   have HB4 := hid hb4
   have HT4 := hid ht4
   have HZ := hid (HBLK.out.lt)
   clear hb4 ht4 hcell hblk4
   go_wp2_with fail
   go_roundw
   case rel =>
    have hown4 := own_set (own_below hown.out HB4.out) j (.slice A4 n4 c4)
    rw [List.set_append_right _ _ (by have := HXA.out; omega), HXA.out, Nat.sub_self, List.set_cons_zero] at hown4
    have hsz : wr.heap.size ≤ w4.heap.size := HB4.out.size
    have hcW : ∀ b, b ≠ g → ∀ o, (w4.setCell ⟨g, j, none⟩ (.slice A4 n4 c4)).cell? ⟨b, o, none⟩ = w4.cell? ⟨b, o, none⟩ := fun b hb o => cell_of_heap (Below.heap_setCell _ _ _ _ hb) o
    have hszW : (w4.setCell ⟨g, j, none⟩ (.slice A4 n4 c4)).heap.size = w4.heap.size := by simp [World.setCell]
    have hgo : (Value.slice (some ⟨g, 0, none⟩) (flen k) k1).ownBlock = some g := rfl
    have hs2 := hbw.out.size
    refine ⟨F1.app (.cons pre nd a ks .nil), F3, j + 1, xa ++ [.slice A4 n4 c4], xb, hid (by rw [hk.out, app_assoc]; rfl), hid (by rw [flen_app, hj.out]; rfl), by go_num, hid ?_, hid ?_, HRB2, hid ?_⟩
    · rw [List.append_assoc]; exact hown4
    · rw [rowsL_add]
      refine RowsC.add (HT4.out.keep fun b hb => ?_) (hra.out.keep fun b hb => ?_)
      · obtain ⟨q1, q2⟩ := hb
        have hgz := HZ.out
        have hgb := HG.out
        have hne : b ≠ g := by omega
        exact ⟨⟨by omega, by rw [hszW]; exact q2, by rw [hgo]; intro e; injection e with e; exact hne e.symm⟩, hcW b hne⟩
      obtain ⟨q1, q2, q3⟩ := hb
      have hne : b ≠ g := fun e => q3 (by rw [hgo, e])
      refine ⟨⟨q1, by rw [hszW]; omega, q3⟩, fun o => ?_⟩
      rw [hcW b hne o]
      exact cell_of_heap (HB4.out.block b q2) o
    have := HG.out
    exact (hbw.out.trans (HB4.out.mono hs2)).setCell (by simp; omega) _
   case measure => simp [intOf]; omega
end Go.Proofs.Ytplecfbdchmogaa
