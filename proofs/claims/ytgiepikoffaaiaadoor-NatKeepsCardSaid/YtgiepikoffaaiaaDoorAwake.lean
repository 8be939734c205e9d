/- awake and long of the statements about numbers. -/
import Derived.Test.YtgiepikoffaaiaaDoorDecimal
import Derived.Test.YtgiepikoffaaiaaDoorDiv1
namespace Go.Proofs.YtgiepikoffaaiaaDoor
open Go.RowKit

def BoolPost (b : Bool) (w : World) (e : Ending) (w' : World) : Prop := e = .returned (.bool b) ∧ Below w.heap.size w w'
theorem bp_true {b : Bool} {w w' : World} (hb : b = true) (h : Below w.heap.size w w') : BoolPost true w (.returned (.bool b)) w' := by
  subst hb
  exact ⟨rfl, h⟩
theorem dec_word : Lib.decDigits 4294967296 = [52, 50, 57, 52, 57, 54, 55, 50, 57, 54] := by
  rw [dec_big (by omega), dec_big (by omega), dec_big (by omega), dec_big (by omega), dec_big (by omega), dec_big (by omega), dec_big (by omega), dec_big (by omega), dec_big (by omega)]
  unfold Lib.decDigits
  rw [dif_pos (by omega)]
  decide
theorem eql_digits (W : World) : (binOp .eql 9 (.string ⟨[52, 50, 57, 52, 57, 54, 55, 50, 57, 54].toArray⟩) (.string ⟨#[52, 50, 57, 52, 57, 54, 55, 50, 57, 54]⟩)).run Tryd.prog W = .ok (.bool true) W := by
  simp [go_sem]

set_option maxHeartbeats 4000000 in
theorem awake_any {w : World} (ht : Tab w) : Calls Tryd.prog 12 #[] w (BoolPost true w) := by
  have hr1 : RowB ((w.alloc (.cells #[.int .u32 17] 34)).alloc (.cells #[.int .u32 5, .int .u32 0] 34)) w.heap.size [17] := (Blk.new w 34 #[.int .u32 17]).alloc _
  have hr2 : RowB ((w.alloc (.cells #[.int .u32 17] 34)).alloc (.cells #[.int .u32 5, .int .u32 0] 34)) (w.heap.size + 1) [5, 0] := by
    have := Blk.new (w.alloc (.cells #[.int .u32 17] 34)) 34 #[.int .u32 5, .int .u32 0]
    rwa [World.size_alloc] at this
  have hb1 : Below w.heap.size w ((w.alloc (.cells #[.int .u32 17] 34)).alloc (.cells #[.int .u32 5, .int .u32 0] 34)) := (below_alloc w _).alloc (by simp) _
  have hdm := divmod_word (hr1.natV (by simp [Ok]) (by simp)) (hr2.natV (by simp [Ok]) (by simp)) (by simp) (by simp [val]) (by simp [val]) (by simp [val])
  rw [show val [17] / val [5, 0] = 3 from by simp [val], show val [17] % val [5, 0] = 2 from by simp [val], wds_short (by omega) (by omega), wds_short (by omega) (by omega)] at hdm
  have hdec : ∀ w2 : World, Tab w2 → Calls Tryd.prog 37 #[.slice (some ⟨w2.heap.size, 0, none⟩) 2 2] (w2.alloc (.cells #[.int .u32 0, .int .u32 1] 34)) (StrPost [52, 50, 57, 52, 57, 54, 55, 50, 57, 54] (w2.alloc (.cells #[.int .u32 0, .int .u32 1] 34))) := fun w2 h2 => by
    have hr3 : RowB (w2.alloc (.cells #[.int .u32 0, .int .u32 1] 34)) w2.heap.size [0, 1] := Blk.new w2 34 #[.int .u32 0, .int .u32 1]
    have := decimal_any (hr3.natV (by simp [Ok]) (by simp)) (by simp) (tab_below h2 (below_alloc _ _))
    rwa [show val [0, 1] = 4294967296 from by simp [val], dec_word] at this
  have HDM := Lib.hid hdm
  have HDEC := Lib.hid hdec
  have HB1 := Lib.hid hb1
  have HT := Lib.hid ht
  have heq := eql_digits
  clear hr1 hr2 hb1 hdm hdec ht
  go_enter Tryd.func12, Tryd.ntmps12
  go_wp2_with fail
  refine (HDM.out).mono ?_
  rintro e w3 ⟨hb3, g1, g2, rfl, hg1, hg2, hgg, hrq, hrr⟩
  have hb4 := HB1.out.trans (hb3.mono HB1.out.size)
  have hc1 : w3.cell? ⟨g1, 0, none⟩ = some (.int .u32 3) := Blk.cell hrq 0
  have hc2 : w3.cell? ⟨g2, 0, none⟩ = some (.int .u32 2) := Blk.cell hrr 0
  have HB4 := Lib.hid hb4
  have HT3 := Lib.hid (tab_below HT.out hb4)
  clear hb3 hb4 hrq hrr hgg hg1 hg2
  go_wp2_with fail
  refine (HDEC.out _ HT3.out).mono ?_
  rintro e w5 ⟨rfl, hb5⟩
  have hb6 := (HB4.out.alloc HB4.out.size _).trans (hb5.mono (Nat.le_trans HB4.out.size (by simp)))
  have HB6 := Lib.hid hb6
  clear hb5 hb6
  go_wp2_with fail
  go_ret
  exact ⟨rfl, HB6.out⟩

def anyBig : List (Option Addr × Nat × Nat) → Bool
  | [] => false
  | v :: vs => decide (80 < v.2.1) || anyBig vs
theorem anyBig_snoc : ∀ (vs : List (Option Addr × Nat × Nat)) (v : Option Addr × Nat × Nat), anyBig (vs ++ [v]) = (anyBig vs || decide (80 < v.2.1))
  | [], v => by simp [anyBig]
  | u :: vs, v => by simp [anyBig, anyBig_snoc vs v, Bool.or_assoc]
theorem anyBig_at : ∀ (vs : List (Option Addr × Nat × Nat)) (v : Option Addr × Nat × Nat), v ∈ vs → 80 < v.2.1 → anyBig vs = true
  | u :: vs, v, hv, h => by
    rcases List.mem_cons.1 hv with e | e
    · subst e; simp [anyBig, h]
    · simp [anyBig, anyBig_at vs v e h]

set_option maxHeartbeats 1000000 in
theorem long_any {g : Nat} {vs : List (Option Addr × Nat × Nat)} {w : World} (h : Blk w g 23 (slC vs)) (hs : vs.length ≤ 1000) :
    Calls Tryd.prog 13 #[.slice (some ⟨g, 0, none⟩) vs.length vs.length] w fun e w' => e = .returned (.bool (anyBig vs)) ∧ w = w' := by
  have HC := Lib.hid h.cell
  clear h
  go_enter Tryd.func13, Tryd.ntmps13
  go_wp2
  go_loop [3] (fun i => ∃ k : Nat, k ≤ vs.length ∧ i = .int .i64 k ∧ RowKit.Hid (anyBig (vs.take k) = false)) (fun i => vs.length - (intOf i).toNat)
  case atStart => exact ⟨0, Nat.zero_le _, rfl, Lib.hid rfl⟩
  case round =>
    obtain ⟨k, hk, rfl, hn⟩ := hrel
    by_cases hlt : k < vs.length
    · have hc : w.cell? ⟨g, k, none⟩ = some (.slice vs[k].1 vs[k].2.1 vs[k].2.2) := by
        rw [HC.out k]; simp [slC, List.getElem?_eq_getElem hlt]
      have hsn : anyBig (vs.take (k + 1)) = (anyBig (vs.take k) || decide (80 < vs[k].2.1)) := by
        rw [List.take_succ_eq_append_getElem hlt, anyBig_snoc]
      have HAT := Lib.hid (anyBig_at vs vs[k] (List.getElem_mem hlt))
      have HS := Lib.hid hsn
      clear hsn
      generalize vs[k].2.1 = ln at hc HS HAT
      generalize vs[k].1 = la at hc
      generalize vs[k].2.2 = lc at hc
      by_cases hb : 80 < ln
      · have hbb : decide (80 < ln) = true := decide_eq_true hb
        have HB := Lib.hid hb
        go_wp2
        go_ret
        exact ⟨ret_bool (HAT.out HB.out).symm, rfl⟩
      · have hbb : decide (80 < ln) = false := decide_eq_false hb
        have HB := Lib.hid hb
        go_wp2
        go_round
        case rel => exact ⟨k + 1, by omega, by go_num, Lib.hid (by rw [HS.out, hn.out, decide_eq_false HB.out]; rfl)⟩
        case measure => simp [intOf]; omega
    · have HN : RowKit.Hid (anyBig vs = false) := Lib.hid (by have := hn.out; rwa [List.take_of_length_le (by omega)] at this)
      go_wp2
      go_ret
      exact ⟨ret_bool HN.out.symm, rfl⟩

end Go.Proofs.YtgiepikoffaaiaaDoor
