/- carried, plus of the reference: digits that may be 256 or more, as digits; sums. -/
import Derived.Test.YtgiepikoffaaiaaDoorDigits
import Derived.Deep.LoopGhost
namespace Go.Proofs.YtgiepikoffaaiaaDoor
open Go Go.RowKit

/-- What has been carried behind i places of l. -/
structure CaS (l : List Nat) (i cr : Nat) (o : List Nat) : Prop where
  len : o.length = i
  ok : Ok8 o
  num : val8 o + cr * pw8 i = val8 (l.take i)
  le : i ≤ l.length + 4
  few : l.length ≤ i → cr * 256 ^ (i - l.length) ≤ 100000000
theorem CaS.more {l : List Nat} {i cr : Nat} {o : List Nat} (h : CaS l i cr o) (hi : i < l.length) (hcr : cr ≤ 100000000) (hd : dg8 l i ≤ 100000000) :
    CaS l (i + 1) ((cr + dg8 l i) / 256) (o ++ [(cr + dg8 l i) % 256]) ∧ (cr + dg8 l i) / 256 ≤ 100000000 := by
  have hq : (cr + dg8 l i) / 256 ≤ 100000000 := by omega
  refine ⟨⟨by rw [List.length_append, h.len]; rfl, ok8_snoc h.ok (Nat.mod_lt _ (by decide)), ?_, by omega, fun h2 => ?_⟩, hq⟩
  · rw [val8_snoc, h.len, val_take_succ8, ← h.num, pw_succ8]
    have hdm := Nat.div_add_mod (cr + dg8 l i) 256
    generalize (cr + dg8 l i) / 256 = q at *
    generalize (cr + dg8 l i) % 256 = t at *
    have : pw8 i * (cr + dg8 l i) = pw8 i * (256 * q + t) := by rw [hdm]
    grind
  · rw [show i + 1 - l.length = 0 from by omega, Nat.pow_zero, Nat.mul_one]; exact hq
theorem CaS.rest {l : List Nat} {i cr : Nat} {o : List Nat} (h : CaS l i cr o) (hi : l.length ≤ i) (h0 : 0 < cr) :
    CaS l (i + 1) (cr / 256) (o ++ [cr % 256]) := by
  have hf := h.few hi
  have hi3 : i - l.length ≤ 3 := by
    rcases Nat.lt_or_ge 3 (i - l.length) with h1 | h1
    · have h2 : 256 ^ 4 ≤ 256 ^ (i - l.length) := Nat.pow_le_pow_right (by decide) h1
      have h3 := Nat.mul_le_mul h0 h2
      rw [Nat.succ_eq_add_one, Nat.zero_add, Nat.one_mul] at h3
      have h4 : 256 ^ 4 = 4294967296 := by decide
      omega
    · exact h1
  refine ⟨by rw [List.length_append, h.len]; rfl, ok8_snoc h.ok (Nat.mod_lt _ (by decide)), ?_, by omega, fun h2 => ?_⟩
  · have h1 := h.num
    rw [List.take_of_length_le hi] at h1
    rw [val8_snoc, h.len, List.take_of_length_le (by omega), ← h1, pw_succ8]
    have hdm := Nat.div_add_mod cr 256
    generalize cr / 256 = q at *
    generalize cr % 256 = t at *
    have : pw8 i * cr = pw8 i * (256 * q + t) := by rw [hdm]
    grind
  · rw [show i + 1 - l.length = (i - l.length) + 1 from by omega, Nat.pow_succ]
    have h3 : cr / 256 * 256 ≤ cr := Nat.div_mul_le_self cr 256
    have h4 := Nat.mul_le_mul_right (256 ^ (i - l.length)) h3
    have h5 : cr / 256 * (256 ^ (i - l.length) * 256) = cr / 256 * 256 * 256 ^ (i - l.length) := by rw [Nat.mul_comm (256 ^ (i - l.length)) 256, Nat.mul_assoc]
    omega

set_option maxRecDepth 100000 in
set_option maxHeartbeats 4000000 in
theorem carried_any {A : Option Addr} {n c : Nat} {l : List Nat} {w : World} (hd : DigR w A n c l) (hsn : n ≤ 50000) (hbig : ∀ k, dg8 l k ≤ 100000000) :
    Calls Tryd.prog 48 #[.slice A n c] w (DigPost (dgs (val8 l)) w) := by
  obtain ⟨i0, hi, hy0, hy1, hy2⟩ := info_parts infoI
  have HI0 := Lib.hid hi
  have HY0 := Lib.hid hy0
  have HY1 := Lib.hid hy1
  have HY2 := Lib.hid hy2
  have HD := Lib.hid hd
  have HBIG := Lib.hid hbig
  clear hi hy0 hy1 hy2 hd hbig
  go_enter Tryd.func48, Tryd.ntmps48
  go_wp2_with fail
  go_loopg [3, 4, 5] (n * 100000001) (fun gk ov cv iv wr => ∃ (i cr k1 : Nat) (B : Option Addr) (o : List Nat), iv = .int .i64 (i : Int) ∧ cv = .int .i64 (cr : Int) ∧ ov = .slice B i k1 ∧ i ≤ n + 4 ∧ cr ≤ 100000000 ∧ RowKit.Hid (gk = (n - i) * 100000001 + cr) ∧ RowKit.Hid (CaS l i cr o) ∧ RowKit.Hid (OwnD wr w.heap.size B i k1 o) ∧ RowKit.Hid (Below w.heap.size w wr))
  case atStart => exact ⟨0, 0, 0, none, [], rfl, rfl, rfl, by omega, by omega, Lib.hid (by omega), Lib.hid ⟨rfl, ok_nil8, by simp [val8], by omega, fun _ => by omega⟩, Lib.hid (OwnD.nil _ _), Lib.hid (Below.refl _ _)⟩
  case round =>
    obtain ⟨i, cr, k1, B, o, rfl, rfl, rfl, hi4, hcr, hgk, hca, hown, hbw⟩ := hrel
    have hbs := hbw.out.size
    by_cases hlt : i < n
    · obtain ⟨ab, aoff, rfl, hab, hac⟩ := (HD.out.below hbw.out).cell_at hlt
      have hdb := HBIG.out i
      obtain ⟨hm1, hm2⟩ := hca.out.more (by rw [HD.out.len]; exact hlt) hcr hdb
      have HM := Lib.hid hm1
      clear hm1
      generalize dg8 l i = d at *
      obtain ⟨t, ht⟩ : ∃ t, t = (cr + d) % 256 := ⟨_, rfl⟩
      obtain ⟨q, hq⟩ : ∃ q, q = (cr + d) / 256 := ⟨_, rfl⟩
      have hti : ((cr : Int) + (d : Int)) % 256 = (t : Int) := by omega
      have hqi : ((cr : Int) + (d : Int)) / 256 = (q : Int) := by omega
      have htl : t < 256 := by omega
      rw [← hq] at hm2
      have HQ := Lib.hid hq
      have HTT := Lib.hid ht
      clear ht hq
      go_wp2_with (at_builtin; go_loud (refine wpList_oper rfl (oper_append_one (.tmp 26) (.tmp 29) 56 3 rfl w.heap.size i0 _ 8 Tryd.underlying56 HI0.out HY0.out HY1.out HY2.out rfl (by decide) (.slice B i k1) i _ (.int .i64 (t : Int)) rfl wr rfl rfl hown.out _ rfl rfl (by omega) hbs ?_)); intro A4 c4 w4 happ4)
      go_roundg ((n - (i + 1)) * 100000001 + q)
      case measure => rw [hgk.out]; have : n - i = (n - (i + 1)) + 1 := by omega
                      rw [this, Nat.add_mul]; omega
      case rel =>
        have ho := happ4.own
        rw [← cellsD_snoc] at ho
        exact ⟨i + 1, q, c4, A4, o ++ [t], by go_num, by rw [hqi], rfl, by omega, hm2, Lib.hid rfl, Lib.hid (by rw [HQ.out, HTT.out]; exact HM.out), Lib.hid ho, Lib.hid (hbw.out.grown happ4.grown hbw.out.size (fun g hg => (ownsRow_block hown.out hg).1))⟩
    · by_cases h0 : 0 < cr
      · have HM := Lib.hid (hca.out.rest (by rw [HD.out.len]; omega) h0)
        have hle := HM.out.le
        rw [HD.out.len] at hle
        obtain ⟨t, ht⟩ : ∃ t, t = cr % 256 := ⟨_, rfl⟩
        obtain ⟨q, hq⟩ : ∃ q, q = cr / 256 := ⟨_, rfl⟩
        have hti : (cr : Int) % 256 = (t : Int) := by omega
        have hqi : (cr : Int) / 256 = (q : Int) := by omega
        have htl : t < 256 := by omega
        have hql : q < cr := by omega
        have HQ := Lib.hid hq
        have HTT := Lib.hid ht
        clear ht hq
        go_wp2_with (at_builtin; go_loud (refine wpList_oper rfl (oper_append_one (.tmp 26) (.tmp 29) 56 3 rfl w.heap.size i0 _ 8 Tryd.underlying56 HI0.out HY0.out HY1.out HY2.out rfl (by decide) (.slice B i k1) i _ (.int .i64 (t : Int)) rfl wr rfl rfl hown.out _ rfl rfl (by omega) hbs ?_)); intro A4 c4 w4 happ4)
        go_roundg ((n - (i + 1)) * 100000001 + q)
        case measure => rw [hgk.out, show n - i = 0 from by omega, show n - (i + 1) = 0 from by omega]; omega
        case rel =>
          have ho := happ4.own
          rw [← cellsD_snoc] at ho
          exact ⟨i + 1, q, c4, A4, o ++ [t], by go_num, rfl, rfl, by omega, by omega, Lib.hid rfl, Lib.hid (by rw [HQ.out, HTT.out]; exact HM.out), Lib.hid ho, Lib.hid (hbw.out.grown happ4.grown hbw.out.size (fun g hg => (ownsRow_block hown.out hg).1))⟩
      · obtain rfl : cr = 0 := by omega
        have HV : RowKit.Hid (val8 o = val8 l) := Lib.hid (by
          have h1 := hca.out.num
          rw [List.take_of_length_le (by rw [HD.out.len]; omega)] at h1
          omega)
        have hcut := cut_any (OwnD.digR hown.out (by omega)) hca.out.ok
        rw [HV.out] at hcut
        have HCUT := Lib.hid hcut
        clear hcut
        go_wp2_with fail
        refine (HCUT.out).mono ?_
        rintro e w' ⟨⟨n', rfl, hr⟩, rfl⟩
        go_wp2_with fail
        go_ret
        exact ⟨hbw.out, _, _, _, rfl, hr⟩

end Go.Proofs.YtgiepikoffaaiaaDoor
