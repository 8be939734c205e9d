/- Of: a number of 64 bits; DivMod by nothing, by more than the number, and by one word. -/
import Derived.Test.YtgiepikoffaaiaaDoorByWord
import Derived.Test.YtgiepikoffaaiaaDoorCompare
namespace Go.Proofs.YtgiepikoffaaiaaDoor
open Go.RowKit

set_option maxHeartbeats 1000000 in
theorem of_any (n : Nat) (hn : n < 18446744073709551616) (w : World) :
    Calls Tryd.prog 33 #[.int .u64 (n : Int)] w (NatPost (wds n) w) := by
  obtain ⟨lo, hlo⟩ : ∃ lo, lo = n % 4294967296 := ⟨_, rfl⟩
  obtain ⟨hi, hhi⟩ : ∃ hi, hi = n / 4294967296 := ⟨_, rfl⟩
  have h1 : (n : Int) % 4294967296 = (lo : Int) := by omega
  have h2 : (n : Int) / 4294967296 = (hi : Int) := by omega
  have l1 : lo < 4294967296 := by omega
  have l2 : hi < 4294967296 := by omega
  have hrow : RowB (w.alloc (.cells #[.int .u32 (lo : Int), .int .u32 (hi : Int)] 34)) w.heap.size [lo, hi] := Blk.new _ _ _
  have hnorm := norm_any (hrow.natV (ok_cons.2 ⟨l1, ok_cons.2 ⟨l2, ok_nil⟩⟩) (by simp))
  rw [show val [lo, hi] = n from by simp [val]; omega] at hnorm
  have HNORM := Lib.hid hnorm
  clear hnorm hrow hlo hhi
  go_enter Tryd.func33, Tryd.ntmps33
  go_wp2_with fail
  refine (HNORM.out).mono ?_
  intro e w3 h3
  obtain ⟨hb5, g5, rfl, hg5, hr5⟩ := h3.trans (below_alloc _ _)
  go_wp2_with fail
  go_ret
  exact ⟨hb5, g5, rfl, hg5, hr5⟩

/-- What DivMod answers, but by 0. -/
def DivPost (q r : List Nat) (w : World) (e : Ending) (w' : World) : Prop := Below w.heap.size w w' ∧ ∃ g1 g2, e = .returned (.tuple #[.slice (some ⟨g1, 0, none⟩) q.length q.length, .slice (some ⟨g2, 0, none⟩) r.length r.length, .int .i64 0]) ∧ w.heap.size ≤ g1 ∧ w.heap.size ≤ g2 ∧ g1 ≠ g2 ∧ RowB w' g1 q ∧ RowB w' g2 r

theorem Blk.ne {w w' : World} {g h : Nat} {t t' : TypeId} {cs cs' : Array Value} (h1 : Blk w g t cs) (_ : Blk w' h t' cs') (hh : w.heap.size ≤ h) : g ≠ h := by
  have := h1.lt
  omega

set_option maxHeartbeats 2000000 in
theorem divmod_zero {A B : Option Addr} {n c m d : Nat} {a b : List Nat} {w : World} (hb : NatV w B m d b) (hz : val b = 0) (_ : NatV w A n c a) :
    Calls Tryd.prog 14 #[.slice A n c, .slice B m d] w fun e w' => e = .returned (.tuple #[.slice none 0 0, .slice none 0 0, .int .i64 2]) ∧ Below w.heap.size w w' := by
  have hnorm := norm_any hb
  rw [hz, wds_zero] at hnorm
  have HNORM := Lib.hid hnorm
  clear hnorm hz hb
  go_enter Tryd.func14, Tryd.ntmps14
  go_wp2_with fail
  refine (HNORM.out).mono ?_
  rintro e w2 ⟨hb2, g2, rfl, hg2, hr2⟩
  go_wp2_with fail
  go_ret3
  exact ⟨rfl, hb2⟩

set_option maxHeartbeats 2000000 in
theorem divmod_less {A B : Option Addr} {n c m d : Nat} {a b : List Nat} {w : World} (ha : NatV w A n c a) (hb : NatV w B m d b) (hsm : m ≤ 100000) (hlt : val a < val b) :
    Calls Tryd.prog 14 #[.slice A n c, .slice B m d] w (DivPost (wds 0) (wds (val a)) w) := by
  have HNORM := Lib.hid (norm_any hb)
  have hwl : (wds (val b)).length ≤ m := wds_len (by rw [← hb.len]; exact val_lt hb.ok)
  have hw0 : ((wds (val b)).length : Int) ≠ 0 := by
    intro e
    have e2 : (wds (val b)).length = 0 := by omega
    have := wds_nil.1 (List.eq_nil_of_length_eq_zero e2)
    omega
  have hw0b : (((wds (val b)).length : Int) == 0) = false := beq_eq_false_iff_ne.2 hw0
  have HA := Lib.hid ha
  have hcmp : ∀ w2 g2, NatV w2 A n c a → RowB w2 g2 (wds (val b)) → Calls Tryd.prog 25 #[.slice A n c, .slice (some ⟨g2, 0, none⟩) (wds (val b)).length (wds (val b)).length] w2 fun e w' => e = .returned (.int .i64 (-1)) ∧ Below w2.heap.size w2 w' := fun w2 g2 h1 h2 => by
    have := compare_any h1 (h2.natV (ok_wds _) (by omega))
    rwa [val_wds, show cmpI (val a) (val b) = -1 from by simp [cmpI, hlt]] at this
  have HCMP := Lib.hid hcmp
  clear ha hb hlt hcmp hw0
  generalize hL : (wds (val b)).length = L at *
  have HL := Lib.hid hL
  clear hL
  go_enter Tryd.func14, Tryd.ntmps14
  go_wp2_with fail
  refine (HNORM.out).mono ?_
  rintro e w2 ⟨hb2, g2, rfl, hg2, hr2⟩
  rw [HL.out]
  go_wp2_with fail
  refine (HCMP.out _ _ (HA.out.below hb2) hr2).mono ?_
  rintro e w3 ⟨rfl, hb3⟩
  have hb4 := (hb2.trans (hb3.mono hb2.size))
  have hb5 := hb4.alloc hb4.size (.cells #[] 34)
  have HN2 := Lib.hid (norm_any (HA.out.below hb5))
  have HB4 := Lib.hid hb4
  have HB5 := Lib.hid hb5
  clear hb2 hb3 hb4 hb5 hr2 hg2
  go_wp2_with fail
  refine (HN2.out).mono ?_
  rintro e w6 ⟨hb6, g6, rfl, hg6, hr6⟩
  go_wp2_with fail
  go_ret3
  rw [wds_zero]
  have hbk : RowB (w3.alloc (.cells #[] 34)) w3.heap.size [] := Blk.new _ _ _
  have hs4 := HB4.out.size
  have hgg : w3.heap.size + 1 ≤ g6 := by simpa using hg6
  exact ⟨HB5.out.trans (hb6.mono HB5.out.size), w3.heap.size, g6, rfl, hs4, by omega, by omega, hbk.below hb6 hbk.lt, hr6⟩

set_option maxHeartbeats 2000000 in
theorem divmod_word {A B : Option Addr} {n c m d : Nat} {a b : List Nat} {w : World} (ha : NatV w A n c a) (hb : NatV w B m d b) (hsn : n ≤ 100000) (h0 : 0 < val b) (hle : val b ≤ val a) (hw : val b < 4294967296) :
    Calls Tryd.prog 14 #[.slice A n c, .slice B m d] w (DivPost (wds (val a / val b)) (wds (val a % val b)) w) := by
  have hnorm := norm_any hb
  rw [wds_short hw (by omega)] at hnorm
  have HNORM := Lib.hid hnorm
  have HA := Lib.hid ha
  obtain ⟨ci, hci2⟩ : ∃ ci, ci = cmpI (val a) (val b) := ⟨_, rfl⟩
  have hci : 0 ≤ ci := by
    rw [hci2]; unfold cmpI
    rw [if_neg (by omega)]
    split <;> omega
  have hcn : decide (ci < 0) = false := decide_eq_false (by omega)
  have hcmp : ∀ w2 g2, NatV w2 A n c a → RowB w2 g2 [val b] → Calls Tryd.prog 25 #[.slice A n c, .slice (some ⟨g2, 0, none⟩) 1 1] w2 fun e w' => e = .returned (.int .i64 ci) ∧ Below w2.heap.size w2 w' := fun w2 g2 h1 h2 => by
    have := compare_any h1 (h2.natV (ok_cons.2 ⟨hw, ok_nil⟩) (by simp))
    rwa [show val [val b] = val b from by simp [val], ← hci2] at this
  have HCMP := Lib.hid hcmp
  have hrl : val a % val b < 18446744073709551616 := by
    have := Nat.mod_lt (val a) h0
    omega
  have HOF := Lib.hid (of_any (val a % val b) hrl)
  generalize hB : val b = V at *
  have hrm : val a % V < 4294967296 := by have := Nat.mod_lt (val a) h0; omega
  clear ha hb hcmp hnorm hci2 hle hB
  go_enter Tryd.func14, Tryd.ntmps14
  go_wp2_with fail
  refine (HNORM.out).mono ?_
  rintro e w2 ⟨hb2, g2, rfl, hg2, hr2⟩
  go_wp2_with fail
  refine (HCMP.out _ _ (HA.out.below hb2) hr2).mono ?_
  rintro e w3 ⟨rfl, hb3⟩
  have hb4 := (hb2.trans (hb3.mono hb2.size))
  have hr3 := hr2.below hb3 hr2.lt
  have hc3 : w3.cell? ⟨g2, 0, none⟩ = some (.int .u32 (V : Int)) := Blk.cell hr3 0
  have HBW := Lib.hid (byWord_any (HA.out.below hb4) hsn h0 hw)
  have HB4 := Lib.hid hb4
  clear hb2 hb3 hb4 hr2 hg2
  go_wp2_with fail
  refine (HBW.out).mono ?_
  rintro e w6 ⟨hb6, g6, rfl, hg6, hr6⟩
  have HB6 := Lib.hid hb6
  have HR6 := Lib.hid hr6
  have hb7 := HB4.out.trans (hb6.mono HB4.out.size)
  have HB7 := Lib.hid hb7
  clear hb6 hr6 hb7
  generalize hR : val a % V = R at *
  generalize hQ : wds (val a / V) = Q at *
  go_wp2_with fail
  refine (HOF.out _).mono ?_
  rintro e w8 ⟨hb8, g8, rfl, hg8, hr8⟩
  go_wp2_with fail
  go_ret3
  have hs4 := HB4.out.size
  have hs7 := HB7.out.size
  exact ⟨HB7.out.trans (hb8.mono hs7), g6, g8, rfl, by omega, by omega, HR6.out.ne hr8 hg8, HR6.out.below hb8 HR6.out.lt, hr8⟩

end Go.Proofs.YtgiepikoffaaiaaDoor
