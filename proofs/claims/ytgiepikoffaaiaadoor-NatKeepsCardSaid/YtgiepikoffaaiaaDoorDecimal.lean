/- Decimal: the digits of a number. -/
import Derived.Test.YtgiepikoffaaiaaDoorFmt
import Derived.Test.YtgiepikoffaaiaaDoorByWord
import Derived.Deep.LoopGhost
namespace Go.Proofs.YtgiepikoffaaiaaDoor
open Go.RowKit

theorem tab_below {w w' : World} (h : Tab w) (hb : Below w.heap.size w w') : Tab w' := by
  unfold Tab Lib.TabIs World.var? at *
  cases hg : Tryd.prog.globalNamed "internal/strconv.uint64pow10" with
  | none => rw [hg] at h; simp at h
  | some g =>
    rw [hg] at h
    simp only [Option.bind_some] at h ⊢
    have hlt : g < w.heap.size := by
      rcases Nat.lt_or_ge g w.heap.size with h' | h'
      · exact h'
      · rw [Array.getElem?_eq_none h'] at h; simp at h
    rw [hb.block g hlt]
    exact h

theorem dec_ne (u : Nat) : Lib.decDigits u ≠ [] := by
  unfold Lib.decDigits
  split <;> simp
theorem dec_big {u : Nat} (h : 10 ≤ u) : Lib.decDigits u = Lib.decDigits (u / 10) ++ [UInt8.ofNat (48 + u % 10)] := by
  conv => lhs; unfold Lib.decDigits
  rw [dif_neg (by omega)]
theorem dec_cut : ∀ (k q r : Nat), 1 ≤ q → r < 10 ^ k → Lib.decDigits (q * 10 ^ k + r) = Lib.decDigits q ++ (Lib.decDigits (r + 10 ^ k)).drop 1
  | 0, q, r, _, hr => by
    obtain rfl : r = 0 := by simpa using hr
    have e : Lib.decDigits 1 = [UInt8.ofNat (48 + 1)] := by unfold Lib.decDigits; rw [dif_pos (by omega)]
    simp [e]
  | k + 1, q, r, hq, hr => by
    have hp : 0 < 10 ^ k := Nat.pow_pos (by decide)
    have e10 : 10 ^ (k + 1) = 10 * 10 ^ k := by rw [Nat.pow_succ, Nat.mul_comm]
    rw [e10] at hr ⊢
    have hr2 : r / 10 < 10 ^ k := by omega
    have e1 : q * (10 * 10 ^ k) = 10 * (q * 10 ^ k) := by rw [Nat.mul_left_comm]
    have h1 : 10 ^ k ≤ q * 10 ^ k := Nat.le_mul_of_pos_left _ hq
    rw [e1, dec_big (u := 10 * (q * 10 ^ k) + r) (by omega), dec_big (u := r + 10 * 10 ^ k) (by omega)]
    rw [show (10 * (q * 10 ^ k) + r) / 10 = q * 10 ^ k + r / 10 from by omega, show (10 * (q * 10 ^ k) + r) % 10 = r % 10 from by omega,
      show (r + 10 * 10 ^ k) / 10 = r / 10 + 10 ^ k from by omega, show (r + 10 * 10 ^ k) % 10 = r % 10 from by omega, dec_cut k q (r / 10) hq hr2]
    have hne := dec_ne (r / 10 + 10 ^ k)
    rw [List.drop_append_of_le_length (by
      have := List.length_pos_iff.2 hne
      omega), List.append_assoc]
theorem dec_step {v : Nat} (h : 1000000000 ≤ v) : Lib.decDigits v = Lib.decDigits (v / 1000000000) ++ (Lib.decDigits (v % 1000000000 + 1000000000)).drop 1 := by
  have := dec_cut 9 (v / 1000000000) (v % 1000000000) (by omega) (by omega)
  simp only [Nat.reducePow] at this
  rw [← this]
  congr 1
  omega

theorem str_slice (p : List UInt8) (hp : 1 ≤ p.length) (w : World) : (Instr.slice 9 (.string ⟨p.toArray⟩) (some (.int .i64 1)) none none).run Tryd.prog w = .ok (.string ⟨p.tail.toArray⟩) w := by
  go_simp
  rw [if_pos (by omega)]
  congr 2
  apply ByteArray.ext
  simp [List.take_of_length_le]
theorem str_add (p q : List UInt8) (h : p.length + q.length ≤ 9223372036854775807) (w : World) : (binOp .add 9 (.string ⟨p.toArray⟩) (.string ⟨q.toArray⟩)).run Tryd.prog w = .ok (.string ⟨(p ++ q).toArray⟩) w := by
  go_simp
  rw [if_neg (by omega)]
  congr 2
theorem nd_le : ∀ (k u : Nat), u < 10 ^ (k + 1) → (Lib.decDigits u).length ≤ k + 1
  | 0, u, h => by
    unfold Lib.decDigits
    rw [dif_pos (by simpa using h)]
    simp
  | k + 1, u, h => by
    by_cases hu : u < 10
    · unfold Lib.decDigits
      rw [dif_pos hu]
      simp
    · rw [dec_big (by omega), List.length_append]
      have := nd_le k (u / 10) (by rw [Nat.pow_succ] at h; omega)
      simp only [List.length_cons, List.length_nil]
      omega
theorem dec_len {l : List Nat} (h : Ok l) : (Lib.decDigits (val l)).length ≤ 10 * l.length + 1 := by
  refine nd_le _ _ ?_
  have h1 := val_lt h
  have h2 : pw l.length ≤ 10 ^ (10 * l.length) := by
    unfold pw
    rw [Nat.pow_mul]
    exact Nat.pow_le_pow_left (by decide) _
  have h3 : 10 ^ (10 * l.length) ≤ 10 ^ (10 * l.length + 1) := Nat.pow_le_pow_right (by decide) (by omega)
  omega
theorem wds_two {v : Nat} (h : 4294967296 ≤ v) : 1 < (wds v).length := by
  rw [wds_pos (by omega), wds_pos (n := v / 4294967296) (by omega)]
  simp

/-- A string comes back. -/
def StrPost (s : List UInt8) (w : World) (e : Ending) (w' : World) : Prop := e = .returned (.string ⟨s.toArray⟩) ∧ Below w.heap.size w w'

set_option maxHeartbeats 4000000 in
theorem decimal_any {A : Option Addr} {n c : Nat} {a : List Nat} {w : World} (ha : NatV w A n c a) (hsn : n ≤ 100000) (ht : Tab w) :
    Calls Tryd.prog 37 #[.slice A n c] w (StrPost (Lib.decDigits (val a)) w) := by
  have HNORM := Lib.hid (norm_any ha)
  have HT := Lib.hid ht
  have hvl : val a < pw n := by have := val_lt ha.ok; rwa [ha.len] at this
  have hdl : (Lib.decDigits (val a)).length ≤ 1000001 := by have := dec_len ha.ok; rw [ha.len] at this; omega
  have HDL := Lib.hid hdl
  have HVL := Lib.hid hvl
  clear ha ht hvl hdl
  generalize val a = V at *
  go_enter Tryd.func37, Tryd.ntmps37
  go_wp2_with fail
  refine (HNORM.out).mono ?_
  rintro e w2 ⟨hb2, g2, rfl, hg2, hr2⟩
  have HB2 := Lib.hid hb2
  have HR2 := Lib.hid hr2
  clear hb2 hr2 hg2
  go_wp2_with fail
  go_loopg [0, 3] V (fun gk av sv wr => ∃ (g L : Nat) (os : List UInt8), av = .slice (some ⟨g, 0, none⟩) L L ∧ sv = .string ⟨os.toArray⟩ ∧ RowKit.Hid ((wds gk).length = L) ∧ RowKit.Hid (gk < pw n) ∧ RowKit.Hid (Lib.decDigits V = Lib.decDigits gk ++ os) ∧ RowKit.Hid (RowB wr g (wds gk)) ∧ RowKit.Hid (Below w.heap.size w wr))
  case atStart => exact ⟨g2, (wds V).length, [], rfl, rfl, Lib.hid rfl, HVL, Lib.hid (by simp), HR2, HB2⟩
  case round =>
    obtain ⟨g, L, os, rfl, rfl, hL, hpw, hdec, hrow, hbw⟩ := hrel
    have hln : L ≤ n := by have := wds_len hpw.out; rw [hL.out] at this; exact this
    have hnat : NatV wr (some ⟨g, 0, none⟩) L L (wds gk) := by
      have := hrow.out.natV (ok_wds gk) (by rw [hL.out]; omega)
      rwa [hL.out] at this
    have HTR := Lib.hid (tab_below HT.out hbw.out)
    by_cases hbig : 1000000000 ≤ gk
    · have hbyw : Calls Tryd.prog 42 #[.slice (some ⟨g, 0, none⟩) L L, .int .u32 1000000000] wr (NatWordPost (wds (gk / 1000000000)) (gk % 1000000000) wr) := by
        have := byWord_any hnat (by omega) (d := 1000000000) (by omega) (by omega)
        rwa [val_wds] at this
      have HBYW := Lib.hid hbyw
      have HSTEP := Lib.hid (dec_step hbig)
      have hrlt : gk % 1000000000 < 1000000000 := by omega
      have hfmt : ∀ w2, Tab w2 → Calls Tryd.prog 59 #[.int .u64 (((gk % 1000000000 : Nat) : Int) + 1000000000), .int .i64 10] w2 fun e w' => e = .returned (.string ⟨(Lib.decDigits (gk % 1000000000 + 1000000000)).toArray⟩) ∧ Below w2.heap.size w2 w' := fun w2 h2 => fmt_any (gk % 1000000000 + 1000000000) (by omega) w2 h2
      have HFMT := Lib.hid hfmt
      have hne : 1 ≤ (Lib.decDigits (gk % 1000000000 + 1000000000)).length := List.length_pos_iff.2 (dec_ne _)
      have hple : (Lib.decDigits (gk % 1000000000 + 1000000000)).length ≤ 10 := nd_le 9 _ (by omega)
      have hol : os.length ≤ 1000001 := by have h1 := HDL.out; rw [hdec.out, List.length_append] at h1; omega
      have hq : RowKit.Hid (gk / 1000000000 < gk ∧ gk / 1000000000 < pw n) := Lib.hid (by have := hpw.out; constructor <;> omega)
      have hcase : RowKit.Hid (1 < L ∨ L = 1 ∧ wds gk = [gk] ∧ gk < 4294967296) := by
        by_cases h4 : 4294967296 ≤ gk
        · left; rw [← hL.out]; exact wds_two h4
        · right
          have := wds_short (n := gk) (by omega) (by omega)
          exact ⟨by rw [← hL.out, this]; rfl, this, by omega⟩
      have HG := Lib.hid hbig
      clear hbyw hfmt hbig
      have hadd := str_add (Lib.decDigits (gk % 1000000000 + 1000000000)).tail os (by rw [List.length_tail]; omega)
      have hsl := str_slice (Lib.decDigits (gk % 1000000000 + 1000000000)) hne
      have hrl2 : ∀ q2 : List Nat, RowKit.Hid (q2 = wds (gk / 1000000000)) → RowKit.Hid (q2.length = (wds (gk / 1000000000)).length) := fun q2 h => Lib.hid (by rw [h.out])
      generalize hR : gk % 1000000000 = R at *
      rcases hcase with h1 | ⟨h1, h2, h3⟩
      · have h1b : decide (1 < L) = true := decide_eq_true h1
        go_wp2_with fail
        refine (HBYW.out).mono ?_
        rintro e w3 ⟨hb3, g3, rfl, hg3, hr3⟩
        have HB3 := Lib.hid hb3
        have HR3 := Lib.hid hr3
        clear hb3 hr3 hg3
        go_wp2_with fail
        refine (HFMT.out _ (tab_below HTR.out HB3.out)).mono ?_
        rintro e w4 ⟨rfl, hb4⟩
        have HB4 := Lib.hid hb4
        clear hb4
        go_wp2_with fail
        go_roundg (gk / 1000000000)
        case measure => exact hq.out.1
        case rel => exact ⟨g3, _, _, rfl, rfl, Lib.hid rfl, Lib.hid hq.out.2, Lib.hid (by rw [hdec.out, HSTEP.out, ← List.drop_one, List.append_assoc]), Lib.hid (HR3.out.below HB4.out HR3.out.lt), Lib.hid ((hbw.out.trans (HB3.out.mono hbw.out.size)).trans (HB4.out.mono (Nat.le_trans hbw.out.size HB3.out.size)))⟩
      · subst h1
        obtain ⟨x, hx⟩ : ∃ x : Int, x = (gk : Int) := ⟨_, rfl⟩
        have hc0 : wr.cell? ⟨g, 0, none⟩ = some (.int .u32 x) := by
          have := RowB.cell hrow.out (i := 0) (by rw [hL.out]; omega)
          rw [h2] at this
          rw [hx]; exact this
        have h1b : decide ((1000000000 : Int) ≤ x) = true := decide_eq_true (by have := HG.out; omega)
        have HX := Lib.hid hx
        clear hx
        have H2 := Lib.hid h2
        clear h2
        go_wp2_with fail
        refine (HBYW.out).mono ?_
        rintro e w3 ⟨hb3, g3, rfl, hg3, hr3⟩
        have HB3 := Lib.hid hb3
        have HR3 := Lib.hid hr3
        clear hb3 hr3 hg3
        go_wp2_with fail
        refine (HFMT.out _ (tab_below HTR.out HB3.out)).mono ?_
        rintro e w4 ⟨rfl, hb4⟩
        have HB4 := Lib.hid hb4
        clear hb4
        go_wp2_with fail
        go_roundg (gk / 1000000000)
        case measure => exact hq.out.1
        case rel => exact ⟨g3, _, _, rfl, rfl, Lib.hid rfl, Lib.hid hq.out.2, Lib.hid (by rw [hdec.out, HSTEP.out, ← List.drop_one, List.append_assoc]), Lib.hid (HR3.out.below HB4.out HR3.out.lt), Lib.hid ((hbw.out.trans (HB3.out.mono hbw.out.size)).trans (HB4.out.mono (Nat.le_trans hbw.out.size HB3.out.size)))⟩
    · have hw0 : RowKit.Hid (wd (wds gk) 0 = gk) := Lib.hid (by
        by_cases h0 : gk = 0
        · subst h0; rw [wds_zero]; rfl
        · rw [wds_short (by omega) h0]; rfl)
      have hword := word_any hnat 0
      rw [hw0.out] at hword
      have HWORD : RowKit.Hid (Calls Tryd.prog 56 #[.slice (some ⟨g, 0, none⟩) L L, .int .i64 0] wr fun e w' => e = .returned (.int .u32 ((gk : Nat) : Int)) ∧ wr = w') := Lib.hid hword
      have HFMT := Lib.hid (fmt_any gk (by omega) wr HTR.out)
      have hple : (Lib.decDigits gk).length ≤ 10 := nd_le 9 _ (by omega)
      have hol : os.length ≤ 1000001 := by have h1 := HDL.out; rw [hdec.out, List.length_append] at h1; omega
      have hadd := str_add (Lib.decDigits gk) os (by omega)
      have hgl : gk < 4294967296 := by omega
      by_cases h0 : gk = 0
      · have h0L : L = 0 := by rw [← hL.out, h0, wds_zero]; rfl
        subst h0L
        have H0 := Lib.hid h0
        clear h0 hbig hword
        go_wp2_with fail
        refine (HWORD.out).mono ?_
        rintro e w3 ⟨rfl, rfl⟩
        go_wp2_with fail
        refine (HFMT.out).mono ?_
        rintro e w4 ⟨rfl, hb4⟩
        have HB4 := Lib.hid hb4
        clear hb4
        go_wp2_with fail
        go_ret
        rw [hdec.out]
        exact ⟨rfl, hbw.out.trans (HB4.out.mono hbw.out.size)⟩
      · have h1L : L = 1 := by rw [← hL.out, wds_short (by omega) h0]; rfl
        subst h1L
        obtain ⟨x, hx⟩ : ∃ x : Int, x = (gk : Int) := ⟨_, rfl⟩
        have hc0 : wr.cell? ⟨g, 0, none⟩ = some (.int .u32 x) := by
          have := RowB.cell hrow.out (i := 0) (by rw [hL.out]; omega)
          rw [hw0.out] at this
          rw [hx]; exact this
        have h1b : decide ((1000000000 : Int) ≤ x) = false := decide_eq_false (by omega)
        have HX := Lib.hid hx
        clear hx
        have H0 := Lib.hid h0
        clear h0 hbig hword
        go_wp2_with fail
        refine (HWORD.out).mono ?_
        rintro e w3 ⟨rfl, rfl⟩
        go_wp2_with fail
        refine (HFMT.out).mono ?_
        rintro e w4 ⟨rfl, hb4⟩
        have HB4 := Lib.hid hb4
        clear hb4
        go_wp2_with fail
        go_ret
        rw [hdec.out]
        exact ⟨rfl, hbw.out.trans (HB4.out.mono hbw.out.size)⟩

end Go.Proofs.YtgiepikoffaaiaaDoor
