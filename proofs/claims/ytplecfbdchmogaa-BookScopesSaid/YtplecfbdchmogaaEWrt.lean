/- Programs that are written: the writer's block; num, row, rows (book). -/
import Derived.Test.YtplecfbdchmogaaEOctR
import Derived.Test.YtplecfbdchmogaaEProgP
namespace Go.Proofs.Ytplecfbdchmogaa
open Go.Lib (hid)
set_option maxHeartbeats 2000000
set_option maxRecDepth 100000
open Go.RowKit
structure WrS (w0 : World) (g : Nat) (bs : List Nat) (w : World) : Prop where
 bel : Below w0.heap.size w0 w
 row : ∃ A c, Blk w g 66 #[.slice A bs.length c] ∧ OwnB w (g + 1) (.slice A bs.length c) bs
 ge : w0.heap.size ≤ g
 byte : ∀ x ∈ bs, x < 256
def WrP (w0 : World) (g : Nat) (bs : List Nat) (w : World) (e : Ending) (w' : World) : Prop := e = .returned (.tuple #[]) ∧ Moved (fun q => q = g) none w w' ∧ WrS w0 g bs w'
section
variable {w0 w w1 w' : World} {g c : Nat} {A : Option Addr} {bs q : List Nat}
theorem WrS.lt (h : WrS w0 g bs w) : g < w.heap.size := by
 obtain ⟨A, c, hb, _⟩ := h.row
 exact hb.lt
theorem WrS.below (h : WrS w0 g bs w) (hb : Below w.heap.size w w') : WrS w0 g bs w' := by
 obtain ⟨A, c, h1, h2⟩ := h.row
 exact ⟨h.bel.trans (hb.mono h.bel.size), ⟨A, c, h1.below hb h1.lt, h2.below hb⟩, h.ge, h.byte⟩
theorem WrS.drew (h : WrS w0 g bs w) : WrS w0 g bs w.drew := h.below (below_drew (Below.refl _ _))
theorem OwnB.setCell {base : Nat} {v : Value} (h : OwnB w base v bs) {a : Addr} (ha : a.block < base) (u : Value) : OwnB (w.setCell a u) base v bs := ownsRow_setCell_below h ha u
theorem own_baseB {B B' : Nat} {v : Value} (h : OwnB w B v bs) (hB : B' ≤ B) : OwnB w B' v bs := by
 obtain ⟨h1, h2⟩ := h
 refine ⟨h1, ?_⟩
 rcases h2 with h2 | ⟨b, cap, cur, hv, hb, r⟩
 · exact Or.inl h2
 exact Or.inr ⟨b, cap, cur, hv, Nat.le_trans hB hb, r⟩
theorem WrS.put (h : WrS w0 g bs w) (hb : Below w.heap.size w w1) (ho : OwnB w1 w.heap.size (.slice A q.length c) q) (hq : ∀ x ∈ q, x < 256) :
 WrS w0 g q (w1.setCell ⟨g, 0, none⟩ (.slice A q.length c)) ∧ Moved (fun q => q = g) none w (w1.setCell ⟨g, 0, none⟩ (.slice A q.length c)) := by
 obtain ⟨B, d, h1, _⟩ := h.row
 have hl := h.lt
 have hge := h.ge
 have hs := h.bel.size
 have h3 := (h1.below hb hl).set_ 0 (.slice A q.length c)
 refine ⟨⟨(h.bel.trans (hb.mono hs)).setCell hge _, ⟨A, c, by simpa using h3, OwnB.setCell (own_baseB ho hl) (Nat.lt_succ_self g) _⟩, hge, hq⟩, (Moved.of_below hb).trans (row' := none) (moved_setW _ _ _ _) (fun _ e => by cases e)⟩
where moved_setW (w : World) (g i : Nat) (u : Value) : Moved (fun q => q = g) none w (w.setCell ⟨g, i, none⟩ u) := Moved.setCell (S := fun q => q = g) (Moved.refl _ _ _) (p := ⟨g, i, none⟩) rfl _
end
theorem formsL_byte (zs : List Int) : ∀ x ∈ formsL zs, x < 256 := fun x hx => by
 simp only [formsL, List.mem_flatMap] at hx
 obtain ⟨z, _, h⟩ := hx
 exact formL_byte _ x h
theorem rowBs_byte (t : List Nd) : ∀ x ∈ rowBs t, x < 256 := fun x hx => reads_row.bytes t x hx
theorem byte_app {a b : List Nat} (ha : ∀ x ∈ a, x < 256) (hb : ∀ x ∈ b, x < 256) : ∀ x ∈ a ++ b, x < 256 := fun x hx => by
 rcases List.mem_append.1 hx with h | h
 · exact ha x h
 exact hb x h
theorem wnum_any {w0 w : World} {g m d : Nat} {bs : List Nat} {B : Option Addr} {zs : List Int} (h : WrS w0 g bs w) (hz : IntsR (· < w.heap.size) w B m d zs) (hw : ∀ z ∈ zs, 0 ≤ z ∧ z ≤ 9223372036854775807) (hl : bs.length ≤ 4500000000000) (hm : m ≤ 1000000) :
 Calls Try.prog 22 #[.pointer (some ⟨g, 0, none⟩), .slice B m d] w (WrP w0 g (bs ++ formsL zs) w) := by
 obtain ⟨A, c, hblk, hown⟩ := h.row
 have hbyt : BytV w A bs.length c bs := (hown.byt h.byte (by omega)).keep fun b hb => ⟨hb.2, fun _ => rfl⟩
 have hpu := put_any hbyt hz (fun z hz => (hw z hz).2) hl hm
 have e : putL bs zs = (bs ++ formsL zs, 0) := by
  unfold putL
  rw [if_pos]
  rw [List.all_eq_true]
  intro z hz
  exact decide_eq_true (hw z hz).1
 rw [e] at hpu
 have HPU := hid hpu
 have HS := hid h
 have z0 := hblk.cell 0
 obtain ⟨q, hq⟩ : ∃ q, q = bs ++ formsL zs := ⟨_, rfl⟩
 have HQB : Hid (∀ x ∈ q, x < 256) := hid (by rw [hq]; exact byte_app h.byte (formsL_byte zs))
 rw [← hq] at HPU ⊢
 have HBL := hid hblk
 clear hpu h hz hw hbyt hown hblk e hq
 go_in
 go_wp2_with fail
 refine (HPU.out).mono ?_
 rintro e w1 ⟨hb1, A1, c1, rfl, ho1⟩
 obtain ⟨h2, h3⟩ := HS.out.put hb1 ho1 HQB.out
 have HS2 := hid h2
 have HM2 := hid h3
 have hk := HBL.out.below hb1 HBL.out.lt
 have z1 := hk.cell 0
 have f1 := hk.frozen 0
 clear z0 hb1 ho1 h2 h3 hk
 go_wp2_with fail
 refine bodyPost_end (results_none rfl _ _ _) rfl ⟨rfl, HM2.out, HS2.out⟩
theorem wrow_any {w0 w : World} {g m d : Nat} {bs : List Nat} {B : Option Addr} {t : List Nd} (h : WrS w0 g bs w) (ht : TermV w B m d t) (hw : rowW t) (hl : bs.length ≤ 4500000000000) :
 Calls Try.prog 29 #[.pointer (some ⟨g, 0, none⟩), .slice B m d] w (WrP w0 g (bs ++ rowBs t) w) := by
 obtain ⟨A, c, hblk, hown⟩ := h.row
 have hbyt : BytV w A bs.length c bs := (hown.byt h.byte (by omega)).keep fun b hb => ⟨hb.2, fun _ => rfl⟩
 have hpu := orow_any hbyt ht hl
 have e : rowPut bs t = (bs ++ rowBs t, 0) := by
  unfold rowPut rowPutL
  rw [if_neg (by have := hw.1; omega), if_pos]
  · rw [rowBs, List.append_assoc]
  rw [List.all_eq_true]
  intro z hz
  obtain ⟨⟨h1, h2⟩, ⟨h3, h4⟩, h5, h6⟩ := hw.2 z hz
  simp only [nodeB', Bool.and_eq_true, decide_eq_true_eq]
  exact ⟨⟨⟨⟨⟨h1, h2⟩, h3⟩, h4⟩, h5⟩, h6⟩
 rw [e] at hpu
 have HPU := hid hpu
 have HS := hid h
 have z0 := hblk.cell 0
 obtain ⟨q, hq⟩ : ∃ q, q = bs ++ rowBs t := ⟨_, rfl⟩
 have HQB : Hid (∀ x ∈ q, x < 256) := hid (by rw [hq]; exact byte_app h.byte (rowBs_byte t))
 rw [← hq] at HPU ⊢
 have HBL := hid hblk
 clear hpu h ht hw hbyt hown hblk e hq
 go_in
 go_wp2_with fail
 refine (HPU.out).mono ?_
 rintro e w1 ⟨hb1, A1, c1, rfl, ho1⟩
 obtain ⟨h2, h3⟩ := HS.out.put hb1 ho1 HQB.out
 have HS2 := hid h2
 have HM2 := hid h3
 have hk := HBL.out.below hb1 HBL.out.lt
 have z1 := hk.cell 0
 have f1 := hk.frozen 0
 clear z0 hb1 ho1 h2 h3 hk
 go_wp2_with fail
 refine bodyPost_end (results_none rfl _ _ _) rfl ⟨rfl, HM2.out, HS2.out⟩
end Go.Proofs.Ytplecfbdchmogaa
