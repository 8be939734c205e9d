/- byWord: the quotient and the rest by one word. -/
import Derived.Test.YtgiepikoffaaiaaDoorMul
import Derived.Lib.EndianBits
namespace Go.Proofs.YtgiepikoffaaiaaDoor
open Go.RowKit

theorem val_drop (l : List Nat) {k : Nat} (h : k < l.length) : val (l.drop k) = wd l k + 4294967296 * val (l.drop (k + 1)) := by
  rw [List.drop_eq_getElem_cons h, wd_eq h]; rfl
theorem drop_set (o : List Nat) (k s : Nat) : (o.set k s).drop (k + 1) = o.drop (k + 1) := by
  apply List.ext_getElem?
  intro i
  rw [List.getElem?_drop, List.getElem?_drop, List.getElem?_set, if_neg (by omega)]
theorem or_words {r y : Nat} (hr : r < 4294967296) (hy : y < 4294967296) : bits .or .u64 ((r : Int) * 4294967296) (y : Int) = ((r * 4294967296 + y : Nat) : Int) := by
  rw [bits_join .u64 64 (by decide) wraps_u64 32 ((r : Int) * 4294967296) (y : Int) (by omega) (by omega) (by omega) (by omega) (by omega) (by omega)]
  omega
theorem div_step {r y d A' Q' : Nat} (hr : r < d) (hd : d < 4294967296) (hy : y < 4294967296) (h : A' = Q' * d + r) :
    (r * 4294967296 + y) / d < 4294967296 ∧ y + 4294967296 * A' = ((r * 4294967296 + y) / d + 4294967296 * Q') * d + (r * 4294967296 + y) % d := by
  have hdm := Nat.div_add_mod (r * 4294967296 + y) d
  constructor
  · rw [Nat.div_lt_iff_lt_mul (by omega)]
    have := Nat.mul_le_mul_right 4294967296 (show r + 1 ≤ d from hr)
    rw [Nat.mul_comm 4294967296 d]
    omega
  · subst h
    generalize (r * 4294967296 + y) / d = q at *
    generalize (r * 4294967296 + y) % d = t at *
    grind

theorem wds_short {n : Nat} (h : n < 4294967296) (h0 : n ≠ 0) : wds n = [n] := by
  rw [wds_pos h0, Nat.mod_eq_of_lt h, Nat.div_eq_of_lt h, wds_zero]

/-- A number and a word come back. -/
def NatWordPost (l : List Nat) (r : Nat) (w : World) (e : Ending) (w' : World) : Prop := Below w.heap.size w w' ∧ ∃ g, e = .returned (.tuple #[.slice (some ⟨g, 0, none⟩) l.length l.length, .int .u32 (r : Int)]) ∧ w.heap.size ≤ g ∧ RowB w' g l

set_option maxHeartbeats 2000000 in
theorem byWord_any {A : Option Addr} {n c : Nat} {a : List Nat} {w : World} (ha : NatV w A n c a) (hsn : n ≤ 100000) {d : Nat} (hd0 : 0 < d) (hd : d < 4294967296) :
    Calls Tryd.prog 42 #[.slice A n c, .int .u32 (d : Int)] w (NatWordPost (wds (val a / d)) (val a % d) w) := by
  have HA := Lib.hid ha
  have hmk := make_nat n (by omega)
  clear ha
  go_enter Tryd.func42, Tryd.ntmps42
  go_wp2_with fail
  clear hmk
  go_loopw [7, 8] (fun rv i wr => ∃ (k r : Nat) (o : List Nat), k ≤ n ∧ i = .int .i64 ((k : Int) - 1) ∧ rv = .int .u64 (r : Int) ∧ r < d ∧ RowKit.Hid (o.length = n) ∧ RowKit.Hid (Ok o) ∧ RowKit.Hid (val (a.drop k) = val (o.drop k) * d + r) ∧ RowKit.Hid (RowB wr w.heap.size o) ∧ RowKit.Hid (Below w.heap.size w wr)) (fun _ i _ => (intOf i + 1).toNat)
  case atStart =>
    exact ⟨n, 0, List.replicate n 0, by omega, rfl, rfl, hd0, Lib.hid (by simp), Lib.hid (ok_zero _), Lib.hid (by rw [List.drop_eq_nil_of_le (by rw [HA.out.len]; omega), List.drop_eq_nil_of_le (by simp)]; simp [val]), Lib.hid (Blk.new _ _ _), Lib.hid (below_alloc _ _)⟩
  case round =>
    obtain ⟨k, r, o, hk, rfl, rfl, hr, hol, hok, hinv, hrow, hbw⟩ := hrel
    by_cases hk0 : k = 0
    · subst hk0
      have h1 := hinv.out
      rw [List.drop_zero, List.drop_zero] at h1
      have hq : val a / d = val o := by
        rw [h1, Nat.mul_comm, Nat.mul_add_div hd0, Nat.div_eq_of_lt hr, Nat.add_zero]
      have hm : val a % d = r := by
        rw [h1, Nat.mul_comm, Nat.mul_add_mod, Nat.mod_eq_of_lt hr]
      have HM := Lib.hid hm
      have hnorm := norm_any (hrow.out.natV hok.out (by rw [hol.out]; omega))
      rw [hol.out, ← hq] at hnorm
      have HNORM := Lib.hid hnorm
      clear h1 hq hm hnorm
      simp only [Int.natCast_zero, Int.zero_sub]
      go_wp2_with fail
      refine (HNORM.out).mono ?_
      intro e w3 h3
      have h4 := h3.trans hbw.out
      obtain ⟨hb5, g5, rfl, hg5, hr5⟩ := h4
      go_wp2_with fail
      go_ret2
      rw [HM.out]
      exact ⟨hb5, g5, rfl, hg5, hr5⟩
    · obtain ⟨q, rfl⟩ : ∃ q, k = q + 1 := ⟨k - 1, by omega⟩
      have hq : (((q + 1 : Nat) : Int) - 1) = (q : Int) := by omega
      rw [hq]
      clear hq hk0
      obtain ⟨ab, aoff, rfl, hab, hac⟩ := (HA.out.below hbw.out).cell_at (k := q) (by omega)
      have HY := Lib.hid (wd_lt HA.out.ok q)
      have HYE := Lib.hid (val_drop a (k := q) (by rw [HA.out.len]; omega))
      generalize wd a q = y at hac HY HYE
      have hy := HY.out
      have hor := or_words (r := r) (y := y) (by omega) hy
      obtain ⟨hx1, hx2⟩ := div_step hr hd hy hinv.out
      have hxl : r * 4294967296 + y < 18446744073709551616 := by omega
      obtain ⟨X, hX⟩ : ∃ X, X = r * 4294967296 + y := ⟨_, rfl⟩
      rw [← hX] at hor hx1 hx2 hxl
      have hdq : (X : Int) / (d : Int) = ((X / d : Nat) : Int) := (Int.natCast_ediv X d).symm
      have hdr : (X : Int) % (d : Int) = ((X % d : Nat) : Int) := (Int.natCast_emod X d).symm
      have hrl : X % d < d := Nat.mod_lt _ hd0
      generalize X / d = Q at *
      generalize X % d = R at *
      have HX2 := Lib.hid hx2
      clear hx2 hX
      have hc0 := RowB.cell hrow.out (i := q) (by rw [hol.out]; omega)
      have hfz := Blk.frozen hrow.out
      have hsz : w.heap.size < wr.heap.size := Blk.lt hrow.out
      have hdne : (d : Int) ≠ 0 := by omega
      go_wp2_with fail
      go_roundw
      case rel =>
        refine ⟨q, R, o.set q Q, by omega, by go_num, by rw [hdr], hrl, Lib.hid (by rw [List.length_set]; exact hol.out), Lib.hid (ok_set hok.out _ hx1), Lib.hid ?_, Lib.hid ?_, Lib.hid (hbw.out.setCell (by simp) _)⟩
        · rw [val_drop (o.set q Q) (by rw [List.length_set, hol.out]; omega), drop_set, wd_set (by rw [hol.out]; omega), if_pos rfl, HYE.out]
          exact HX2.out
        · have := hrow.out.set_ q (.int .u32 ((Q : Nat) : Int))
          rwa [cellsU_set] at this
      case measure => simp [intOf]

end Go.Proofs.YtgiepikoffaaiaaDoor
