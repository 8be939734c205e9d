/- Rows as bytes: octet.Row. -/
import Derived.Test.YtplecfbdchmogaaEShort2
import Derived.Test.YtplecfbdchmogaaEOctW
import Derived.Deep.RegionHeld
namespace Go.Proofs.Ytplecfbdchmogaa
open Go.Lib (hid)
open Go.RowKit
def nodeB' (n : Nd) : Bool := decide (0 ≤ n.op) && decide (n.op ≤ 255) && decide (0 ≤ n.a) && decide (n.a ≤ 1048576) && decide (0 ≤ n.b) && decide (n.b ≤ 1048576)
def rowPutL (l : List Nat) (t : List Nd) : List Nat × Int := if t.all nodeB' then (l ++ t.flatMap nodeBs, 0) else ([], 1)
def rowPut (bs : List Nat) (t : List Nd) : List Nat × Int := if 4096 < t.length then ([], 9) else rowPutL (bs ++ formL t.length) t
theorem rowPutL_cons {l : List Nat} {n : Nd} {r : List Nd} (h : nodeB' n = true) : rowPutL l (n :: r) = rowPutL (l ++ nodeBs n) r := by
 unfold rowPutL
 simp [h]
theorem rowPutL_bad {l : List Nat} {n : Nd} {r : List Nd} (h : nodeB' n = false) : rowPutL l (n :: r) = ([], 1) := by
 unfold rowPutL
 simp [h]
theorem rowPutL_nil (l : List Nat) : rowPutL l [] = (l, 0) := by simp [rowPutL]
theorem below_drew {B : Nat} {a w : World} (h : Below B a w) : Below B a w.drew := ⟨h.os, h.tape, h.output, h.size, h.block⟩
theorem blk_drew {w : World} {g : Nat} {t : TypeId} {cs : Array Value} (h : Blk w g t cs) : Blk w.drew g t cs := h
theorem nodeBs_len (n : Nd) : (nodeBs n).length ≤ 30 := by
 have h1 := (formL_len n.op.toNat).2
 have h2 := (formL_len n.a.toNat).2
 have h3 := (formL_len n.b.toNat).2
 simp only [nodeBs, List.length_append]
 omega
set_option linter.unusedSimpArgs false in
set_option linter.unusedVariables false in
set_option maxRecDepth 100000 in
set_option maxHeartbeats 4000000 in
theorem orow_any {w : World} {A B : Option Addr} {n c m d : Nat} {bs : List Nat} {t : List Nd} (h : BytV w A n c bs) (ht : TermV w B m d t) (hn : n ≤ 4500000000000) :
 Calls Try.prog 64 #[.slice A n c, .slice B m d] w (BytsP (rowPut bs t) w) := by
 have HCL := hid (clone_bytes h)
 have HT := hid (fun (w' : World) (hb : Below w.heap.size w w') => ht.below hb)
 obtain rfl := h.len
 obtain rfl := ht.len
 obtain ⟨q, hq⟩ : ∃ q, q = rowPut bs t := ⟨_, rfl⟩
 rw [← hq]
 have HQ := hid hq
 clear h ht hq
 go_in
 by_cases hbig : 4096 < t.length
 · have d1 : decide ((t.length : Int) > 4096) = true := decide_eq_true (by omega)
   have d2 : decide (4096 < (t.length : Int)) = true := decide_eq_true (by omega)
   have d3 : decide (4096 < t.length) = true := decide_eq_true hbig
   go_wp2_with fail
   go_ret2
   have e : q = ([], 9) := by rw [HQ.out]; exact if_pos hbig
   rw [e]
   exact ⟨Below.refl _ _, none, 0, rfl, OwnB.nil _ _⟩
 have d1 : decide ((t.length : Int) > 4096) = false := decide_eq_false (by omega)
 have d2 : decide (4096 < (t.length : Int)) = false := decide_eq_false (by omega)
 have d3 : decide (4096 < t.length) = false := decide_eq_false hbig
 go_wp2_with fail
 refine (HCL.out).mono ?_
 rintro e w1 ⟨hb1, A1, c1, rfl, ho1⟩
 have HB1 := hid hb1
 have HF1 := hid (form_any ho1 hb1.size (by omega) (m := t.length) (by omega))
 clear hb1 ho1
 go_wp2_with fail
 refine (HF1.out).mono ?_
 rintro e w2 ⟨hb2, A2, c2, rfl, ho2⟩
 have HB2 := hid (HB1.out.trans hb2)
 have HO2 := hid ho2
 have HQ2 := hid (HQ.out.trans (if_neg hbig))
 have hfl := (formL_len t.length).2
 obtain ⟨l0, hl0⟩ : ∃ l0, l0 = bs ++ formL t.length := ⟨_, rfl⟩
 have hlen0 : l0.length ≤ 4500000000010 := by rw [hl0, List.length_append]; omega
 rw [← hl0] at HQ2 HO2 ⊢
 clear hb2 ho2 hl0 hfl
 go_wp2_with fail
 go_loopw [6, 20] (fun sv iv wr => ∃ (A2 : Option Addr) (c2 k : Nat) (l : List Nat), sv = .slice A2 l.length c2 ∧ iv = .int .i64 (k : Int) ∧ k ≤ t.length ∧ l.length ≤ l0.length + 30 * k ∧ Hid (rowPutL l0 t = rowPutL l (t.drop k)) ∧ Hid (OwnB wr w.heap.size (.slice A2 l.length c2) l) ∧ Hid (Below w.heap.size w wr)) (fun _ iv _ => t.length - (intOf iv).toNat)
 case atStart => exact ⟨A2, c2, 0, l0, rfl, rfl, Nat.zero_le _, by omega, hid rfl, HO2, HB2⟩
 case round =>
  obtain ⟨A3, c3, k, l, rfl, rfl, hk, hll, HP, HO3, HB3⟩ := hrel
  by_cases hkm : k < t.length
  rotate_left
  · have hkk : k = t.length := by omega
    subst hkk
    have d4 : decide ((t.length : Int) < (t.length : Int)) = false := decide_eq_false (by omega)
    have d5 : decide (t.length < t.length) = false := decide_eq_false (by omega)
    go_wp2_with fail
    go_ret2
    have e : q = (l, 0) := by
     rw [HQ2.out, HP.out, List.drop_length, rowPutL_nil]
    rw [e]
    exact ⟨HB3.out, A3, c3, rfl, HO3.out⟩
  have d4 : decide ((k : Int) < (t.length : Int)) = true := decide_eq_true (by omega)
  have d5 : decide (k < t.length) = true := decide_eq_true hkm
  obtain ⟨b, off, e, hlt, hc0, hc1, hc2⟩ := (HT.out _ HB3.out).at_ hkm
  subst e
  have hdr : t.drop k = nth t k :: t.drop (k + 1) := by
   rw [List.drop_eq_getElem_cons hkm]
   unfold nth
   rw [List.getD_eq_getElem?_getD, List.getElem?_eq_getElem hkm]
   rfl
  rw [hdr] at HP
  obtain ⟨⟨x, y, z⟩, hnd⟩ : ∃ n, n = nth t k := ⟨_, rfl⟩
  rw [← hnd] at hc0 hc1 hc2 HP
  simp only at hc0 hc1 hc2
  have HHK := hid hkm
  clear hnd hdr
  by_cases hw : nodeB' ⟨x, y, z⟩ = true
  rotate_left
  · have hwf : nodeB' ⟨x, y, z⟩ = false := by simpa using hw
    have HBAD : Hid (q = ([], 1)) := hid ((HQ2.out.trans HP.out).trans (rowPutL_bad hwf))
    have hor : ¬ (0 ≤ x ∧ x ≤ 255 ∧ 0 ≤ y ∧ y ≤ 1048576 ∧ 0 ≤ z ∧ z ≤ 1048576) := fun hh => hw (by simp only [nodeB', Bool.and_eq_true, decide_eq_true_eq]; omega)
    have HBB : Hid (Below w.heap.size w (wr.alloc (.cells #[.int .i64 x, .int .i64 y, .int .i64 z] 59))) := hid (HB3.out.trans ((below_alloc wr _).mono HB3.out.size))
    clear hw hwf
    by_cases x1 : x < 0
    · have dx1 : decide (x < 0) = true := decide_eq_true x1
      clear x1 hor
      go_wp2_with fail
      go_ret2
      rw [HBAD.out]
      exact ⟨HBB.out, none, 0, rfl, OwnB.nil _ _⟩
    have dx1 : decide (x < 0) = false := decide_eq_false x1
    by_cases x2 : x > 255
    · have dx2 : decide (x > 255) = true := decide_eq_true x2
      clear x2 hor
      go_wp2_with fail
      go_ret2
      rw [HBAD.out]
      exact ⟨HBB.out, none, 0, rfl, OwnB.nil _ _⟩
    have dx2 : decide (x > 255) = false := decide_eq_false x2
    by_cases y1 : y < 0
    · have dy1 : decide (y < 0) = true := decide_eq_true y1
      clear y1 hor
      go_wp2_with fail
      go_ret2
      rw [HBAD.out]
      exact ⟨HBB.out, none, 0, rfl, OwnB.nil _ _⟩
    have dy1 : decide (y < 0) = false := decide_eq_false y1
    by_cases y2 : y > 1048576
    · have dy2 : decide (y > 1048576) = true := decide_eq_true y2
      clear y2 hor
      go_wp2_with fail
      go_ret2
      rw [HBAD.out]
      exact ⟨HBB.out, none, 0, rfl, OwnB.nil _ _⟩
    have dy2 : decide (y > 1048576) = false := decide_eq_false y2
    by_cases z1 : z < 0
    · have dz1 : decide (z < 0) = true := decide_eq_true z1
      clear z1 hor
      go_wp2_with fail
      go_ret2
      rw [HBAD.out]
      exact ⟨HBB.out, none, 0, rfl, OwnB.nil _ _⟩
    have dz1 : decide (z < 0) = false := decide_eq_false z1
    by_cases z2 : z > 1048576
    · have dz2 : decide (z > 1048576) = true := decide_eq_true z2
      clear z2 hor
      go_wp2_with fail
      go_ret2
      rw [HBAD.out]
      exact ⟨HBB.out, none, 0, rfl, OwnB.nil _ _⟩
    have dz2 : decide (z > 1048576) = false := decide_eq_false z2
    exact absurd hor (fun hh => hh (by omega))
  have hw' := hw
  simp only [nodeB', Bool.and_eq_true, decide_eq_true_eq] at hw'
  have HPW := hid (HP.out.trans (rowPutL_cons hw))
  obtain ⟨x, rfl⟩ : ∃ n : Nat, x = (n : Int) := ⟨x.toNat, by omega⟩
  obtain ⟨y, rfl⟩ : ∃ n : Nat, y = (n : Int) := ⟨y.toNat, by omega⟩
  obtain ⟨z, rfl⟩ : ∃ n : Nat, z = (n : Int) := ⟨z.toNat, by omega⟩
  have x1 : decide ((x : Int) < 0) = false := decide_eq_false (by omega)
  have x2 : decide ((x : Int) > 255) = false := decide_eq_false (by omega)
  have y1 : decide ((y : Int) < 0) = false := decide_eq_false (by omega)
  have y2 : decide ((y : Int) > 1048576) = false := decide_eq_false (by omega)
  have z1 : decide ((z : Int) < 0) = false := decide_eq_false (by omega)
  have z2 : decide ((z : Int) > 1048576) = false := decide_eq_false (by omega)
  have hwx : IntKind.u64.wrap (x : Int) = (x : Int) := by rw [IntKind.wrap_u64]; omega
  have hwy : IntKind.u64.wrap (y : Int) = (y : Int) := by rw [IntKind.wrap_u64]; omega
  have hwz : IntKind.u64.wrap (z : Int) = (z : Int) := by rw [IntKind.wrap_u64]; omega
  have hxb : x ≤ 255 := by omega
  have hyb : y ≤ 1048576 := by omega
  have hzb : z ≤ 1048576 := by omega
  clear hw hw'
  have hal := below_alloc wr (.cells #[.int .i64 (x : Int), .int .i64 (y : Int), .int .i64 (z : Int)] 59)
  have HBS := hid HB3.out.size
  have HWd := hid (below_drew (HB3.out.trans (hal.mono HB3.out.size)))
  have HKd := hid (blk_drew (Blk.new wr 59 #[.int .i64 (x : Int), .int .i64 (y : Int), .int .i64 (z : Int)]))
  have HOd : Hid (OwnB (wr.alloc (.cells #[.int .i64 (x : Int), .int .i64 (y : Int), .int .i64 (z : Int)] 59)).drew w.heap.size (.slice A3 l.length c3) l) := hid (by have h := HO3.out.below hal; exact h)
  have HNEd : Hid (∀ g, (Value.slice A3 l.length c3).ownBlock = some g → g ≠ wr.heap.size) := hid (fun g hg => by have := (ownsRow_block HO3.out hg).2.1; omega)
  have HLd : Hid (l.length ≤ 4600000000000) := hid (by omega)
  clear hal
  go_wp2_with fail
  refine wp_region_held_drew (S := (fun w' => w'.cell? ⟨wr.heap.size, 0, none⟩ = some (.int .i64 (x : Int)) ∧ w'.cell? ⟨wr.heap.size, 1, none⟩ = some (.int .i64 (y : Int)) ∧ w'.cell? ⟨wr.heap.size, 2, none⟩ = some (.int .i64 (z : Int)))) (by kernel_rfl) ?_ (fun hHeld => ?_)
  · (try dsimp only); exact ⟨HKd.out.cell 0, HKd.out.cell 1, HKd.out.cell 2⟩
  refine tq 0 hHeld ?_
  try simp only [p7]
  refine tq 1 hHeld ?_
  try simp only [p7]
  refine tq 2 hHeld ?_
  try simp only [p7]
  refine tq 3 hHeld ?_
  try simp only [p7]
  refine tq 5 hHeld ?_
  try simp only [p7]
  refine tq 6 hHeld ?_
  try simp only [p7]
  refine tq 7 hHeld ?_
  try simp only [p7]
  refine tq 9 hHeld ?_
  try simp only [p7]
  refine tq 10 hHeld ?_
  try simp only [p7]
  refine tq 11 hHeld ?_
  try simp only [p7]
  refine r1 4 fun K hK => ?_
  go_simp
  go_at_call 94
  refine (form_grow HOd.out HWd.out.size (by have := HLd.out; omega) (m := x) (by omega)).mono ?_
  rintro e5 w5 ⟨hd5, hm5, A5, c5, rfl, ho5, hr5⟩
  have HL5 : Hid ((l ++ formL x).length ≤ 4600000000010) := hid (by have h1 := HLd.out; have h2 := (formL_len x).2; rw [List.length_append]; omega)
  obtain ⟨l5, hl5⟩ : ∃ q, q = l ++ formL x := ⟨_, rfl⟩
  rw [← hl5] at ho5 hr5 HL5 ⊢
  have HE5 := hid hl5
  have HW5 := hid (HWd.out.trans hd5)
  have HK5 := hid (HKd.out.moved hm5 (fun h => h) (fun e => HNEd.out _ e rfl))
  have HNE5 : Hid (∀ g, (Value.slice A5 l5.length c5).ownBlock = some g → g ≠ wr.heap.size) := hid (fun g hg => by rcases hr5 g hg with h | h; exact HNEd.out g h; have := HKd.out.lt; omega)
  have HO5 := hid ho5
  clear hd5 hm5 ho5 hr5 hl5
  go_wp2_with fail
  refine hK.out _ _ (by exact ⟨HK5.out.cell 0, HK5.out.cell 1, HK5.out.cell 2⟩) fun hHeld => ?_
  clear hK K
  try simp only [p7]
  refine r1 8 fun K hK => ?_
  go_simp
  go_at_call 94
  refine (form_grow HO5.out HW5.out.size (by have := HL5.out; omega) (m := y) (by omega)).mono ?_
  rintro e6 w6 ⟨hd6, hm6, A6, c6, rfl, ho6, hr6⟩
  have HL6 : Hid ((l5 ++ formL y).length ≤ 4600000000020) := hid (by have h1 := HL5.out; have h2 := (formL_len y).2; rw [List.length_append]; omega)
  obtain ⟨l6, hl6⟩ : ∃ q, q = l5 ++ formL y := ⟨_, rfl⟩
  rw [← hl6] at ho6 hr6 HL6 ⊢
  have HE6 := hid hl6
  have HW6 := hid (HW5.out.trans hd6)
  have HK6 := hid (HK5.out.moved hm6 (fun h => h) (fun e => HNE5.out _ e rfl))
  have HNE6 : Hid (∀ g, (Value.slice A6 l6.length c6).ownBlock = some g → g ≠ wr.heap.size) := hid (fun g hg => by rcases hr6 g hg with h | h; exact HNE5.out g h; have := HK5.out.lt; omega)
  have HO6 := hid ho6
  clear hd6 hm6 ho6 hr6 hl6
  go_wp2_with fail
  refine hK.out _ _ (by exact ⟨HK6.out.cell 0, HK6.out.cell 1, HK6.out.cell 2⟩) fun hHeld => ?_
  clear hK K
  try simp only [p7]
  refine r1 12 fun K hK => ?_
  go_simp
  go_at_call 94
  refine (form_grow HO6.out HW6.out.size (by have := HL6.out; omega) (m := z) (by omega)).mono ?_
  rintro e7 w7 ⟨hd7, hm7, A7, c7, rfl, ho7, hr7⟩
  have HL7 : Hid ((l6 ++ formL z).length ≤ 4600000000030) := hid (by have h1 := HL6.out; have h2 := (formL_len z).2; rw [List.length_append]; omega)
  obtain ⟨l7, hl7⟩ : ∃ q, q = l6 ++ formL z := ⟨_, rfl⟩
  rw [← hl7] at ho7 hr7 HL7 ⊢
  have HE7 := hid hl7
  have HW7 := hid (HW6.out.trans hd7)
  have HK7 := hid (HK6.out.moved hm7 (fun h => h) (fun e => HNE6.out _ e rfl))
  have HNE7 : Hid (∀ g, (Value.slice A7 l7.length c7).ownBlock = some g → g ≠ wr.heap.size) := hid (fun g hg => by rcases hr7 g hg with h | h; exact HNE6.out g h; have := HK6.out.lt; omega)
  have HO7 := hid ho7
  clear hd7 hm7 ho7 hr7 hl7
  go_wp2_with fail
  refine hK.out _ _ (by exact ⟨HK7.out.cell 0, HK7.out.cell 1, HK7.out.cell 2⟩) fun hHeld => ?_
  clear hK K
  try simp only [p7]
  refine tq 13 hHeld ?_
  try simp only [p7]
  refine wpAnyH_done (by kernel_rfl) ?_ _
  go_wp2_with fail
  go_roundw
  case measure => simp [intOf]; omega
  have e7 : l7 = l ++ nodeBs ⟨x, y, z⟩ := by rw [HE7.out, HE6.out, HE5.out]; simp [nodeBs]
  refine ⟨A7, c7, k + 1, l7, rfl, by simp, HHK.out, ?_, hid ?_, HO7, HW7⟩
  · rw [e7, List.length_append]
    have := nodeBs_len ⟨(x : Int), (y : Int), (z : Int)⟩
    omega
  rw [e7]
  exact HPW.out
end Go.Proofs.Ytplecfbdchmogaa
