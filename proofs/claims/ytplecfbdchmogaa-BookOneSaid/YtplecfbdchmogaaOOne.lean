/- BookOne walked. -/
import Derived.Test.YtplecfbdchmogaaOAwk
namespace Go.Proofs.Ytplecfbdchmogaa
open Go.Lib (hid)
set_option maxHeartbeats 8000000
set_option maxRecDepth 100000
set_option linter.unusedVariables false
set_option linter.unusedSimpArgs false
open Go.RowKit
theorem sameB_true {w : World} {A B : Option Addr} {n c m d : Nat} {bs : List Nat} (h : BytV w A n c bs) (h' : BytV w B m d bs) :
 Calls Try.prog 11 #[.slice A n c, .slice B m d] w (BoolP true w) := by
 obtain rfl : n = m := h.len.symm.trans h'.len
 have hfew := h.few
 have H1 := hid h.mem
 have H2 := hid h'.mem
 clear h h'
 go_in
 go_wp2_with fail
 go_loopw [5] (fun iv wr => ∃ i m : Nat, iv = .int .i64 (i : Int) ∧ i ≤ n ∧ wr = w.drewN m) (fun iv _ => n - (intOf iv).toNat)
 case atStart => exact ⟨0, 0, rfl, Nat.zero_le _, rfl⟩
 case round =>
  obtain ⟨i, m, rfl, hi, rfl⟩ := hrel
  by_cases hlt : i < n
  · have d1 : decide ((i : Int) < (n : Int)) = true := decide_eq_true (by omega)
    have d2 : decide (i < n) = true := decide_eq_true hlt
    have hlt2 : (i : Int) < (n : Int) := by omega
    obtain ⟨b1, o1, e1, _, q1⟩ := H1.out (by omega)
    obtain ⟨b2, o2, e2, _, q2⟩ := H2.out (by omega)
    subst e1 e2
    have r1 := q1 i hlt
    have r2 := q2 i hlt
    obtain ⟨x, hx⟩ : ∃ x, x = bs.getD i 0 := ⟨_, rfl⟩
    rw [← hx] at r1 r2
    clear q1 q2 hx
    go_wp2_with fail
    go_quiet (fail)
    go_wp2_with fail
    go_roundw
    case rel => exact ⟨i + 1, _, by go_num, by omega, by rfl⟩
    case measure => simp [intOf]; omega
  have d1 : decide ((i : Int) < (n : Int)) = false := decide_eq_false (by omega)
  have d2 : decide (i < n) = false := decide_eq_false hlt
  go_wp2_with fail
  go_ret
  exact ⟨rfl, below_drewN (Below.refl _ _) _⟩
theorem one_law {w : World} {A : Option Addr} {n c : Nat} {bs : List Nat} (h : BytV w A n c bs) :
 Calls Try.prog 4 #[.slice A n c] w (BoolP true w) := by
 have HB := hid h
 obtain rfl := h.len
 have hfew := h.few
 clear h
 go_in
 go_wp2_with fail
 refine awake5_any.mono ?_
 rintro e w1 ⟨rfl, hb1⟩
 have HB1 := hid hb1
 clear hb1
 by_cases hbig : 20000 < bs.length
 · have d1 : decide ((bs.length : Int) > 20000) = true := decide_eq_true (by omega)
   have d2 : decide (20000 < (bs.length : Int)) = true := decide_eq_true (by omega)
   have d3 : decide (20000 < bs.length) = true := decide_eq_true hbig
   clear hbig
   go_wp2_with fail
   go_ret
   exact ⟨rfl, HB1.out⟩
 have d1 : decide ((bs.length : Int) > 20000) = false := decide_eq_false (by omega)
 have d2 : decide (20000 < (bs.length : Int)) = false := decide_eq_false (by omega)
 have d3 : decide (20000 < bs.length) = false := decide_eq_false hbig
 have HDE := hid (decode_any (HB.out.below HB1.out))
 clear hbig
 go_wp2_with fail
 refine (HDE.out).mono ?_
 rintro e w2 ⟨hb2, u, he, hq⟩
 obtain ⟨dq, hdq⟩ : ∃ q, q = decodeQ bs := ⟨_, rfl⟩
 have HDQ := hid hdq
 rw [← hdq] at he hq
 obtain ⟨p, z⟩ := dq
 simp only at he hq
 subst he
 have HB2 := bto HB1 hb2
 have hba := below_alloc w2 (.cells (pgCells u p) 30)
 have HB3 := bto HB2 hba
 have hpv := (hq.progV fun q hq => hq.2).below hba
 have HPV := hid hpv
 have HK := hid (Blk.new w2 30 (pgCells u p))
 unfold pgCells at HB3 HPV HK ⊢
 clear hb2 hdq hq hba hpv
 by_cases hz : z = 0
 rotate_left
 · have dz : (z != 0) = true := by simpa using hz
   have hnil := decode_nil (bs := bs) (by rw [← HDQ.out]; exact hz)
   rw [← HDQ.out] at hnil
   simp only at hnil
   subst hnil
   have HSP := hid (sameProg_true HPV.out ((nilQ (fun _ => False) _).progV (fun _ h => h.elim)))
   unfold pgCells at HSP
   clear hz
   go_wp2_with fail
   refine (HSP.out).mono ?_
   rintro e w4 ⟨rfl, hb4⟩
   have HB4 := bto HB3 hb4
   clear hb4
   go_wp2_with fail
   go_ret
   exact ⟨rfl, HB4.out⟩
 subst hz
 have hone := decode_one (bs := bs) HB.out.byte (by rw [← HDQ.out])
 rw [← HDQ.out] at hone
 simp only at hone
 obtain ⟨h1, h2⟩ := hone
 have hen := encode_any HPV.out
 rw [h1] at hen
 have HEN := hid hen
 have HZ := hid h2
 have HBY := hid HB.out.byte
 clear h1 h2 hen
 go_wp2_with fail
 refine (HEN.out).mono ?_
 rintro e w4 ⟨hb4, A4, c4, rfl, ho4⟩
 have HB4 := bto HB3 hb4
 have HK4 := hid (HK.out.below hb4 HK.out.lt)
 have HPV4 := hid (HPV.out.below hb4)
 have hy : BytV w4 A4 bs.length c4 bs := (ho4.byt HBY.out (by omega)).keep fun b hb => ⟨hb.2, fun _ => rfl⟩
 have HSM := hid (sameB_true (HB.out.below HB4.out) hy)
 have z4 := HK4.out.cell
 clear hb4 ho4 hy
 go_wp2_with fail
 refine (HSM.out).mono ?_
 rintro e w5 ⟨rfl, hb5⟩
 have HB5 := bto HB4 hb5
 have HK5 := hid (HK4.out.below hb5 HK4.out.lt)
 have HPV5 := hid (HPV4.out.below hb5)
 have hz3 : rightE p.book = 0 ∧ fitsE p.book 0 p.main = 0 ∧ fitsE p.book 0 p.type = 0 := by
  have h := HZ.out
  unfold progE at h
  by_cases c1 : rightE p.book ≠ 0
  · rw [if_pos c1] at h; exact absurd h c1
  rw [if_neg c1] at h
  by_cases c2 : fitsE p.book 0 p.main ≠ 0
  · rw [if_pos c2] at h; exact absurd h c2
  rw [if_neg c2] at h
  exact ⟨Decidable.not_not.1 c1, Decidable.not_not.1 c2, h⟩
 have HR0 := hid (fun (W : World) (hb : Below w5.heap.size w5 W) => right_any ((HPV5.out.below hb).book))
 have HF1 := hid (fun (W : World) (hb : Below w5.heap.size w5 W) => fits_any ((HPV5.out.below hb).book) 0 (HPV5.out.below hb).main)
 have HF2 := hid (fun (W : World) (hb : Below w5.heap.size w5 W) => fits_any ((HPV5.out.below hb).book) 0 (HPV5.out.below hb).type)
 rw [hz3.1] at HR0
 rw [hz3.2.1] at HF1
 rw [hz3.2.2] at HF2
 clear z4
 have z5 := HK5.out.cell
 clear hb5 hz3
 go_wp2_with fail
 refine (HR0.out _ (Below.refl _ _)).mono ?_
 rintro e w6 ⟨rfl, hb6⟩
 have HB6 := hid hb6
 clear z5
 have z6 := (HK5.out.below hb6 HK5.out.lt).cell
 clear hb6
 go_wp2_with fail
 refine (HF1.out _ HB6.out).mono ?_
 rintro e w7 ⟨rfl, hb7⟩
 have HB7 := bto HB6 hb7
 clear z6
 have z7 := (HK5.out.below HB7.out HK5.out.lt).cell
 clear hb7
 go_wp2_with fail
 refine (HF2.out _ HB7.out).mono ?_
 rintro e w8 ⟨rfl, hb8⟩
 have HB8 := bto HB7 hb8
 clear hb8
 go_wp2_with fail
 go_ret
 exact ⟨rfl, HB5.out.trans (HB8.out.mono HB5.out.size)⟩
end Go.Proofs.Ytplecfbdchmogaa
