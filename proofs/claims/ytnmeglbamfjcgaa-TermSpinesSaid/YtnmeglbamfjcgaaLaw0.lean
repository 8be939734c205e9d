/- What all laws of the terms begin with: v, long. -/
import Derived.Test.YtnmeglbamfjcgaaSubst
import Derived.Test.YtnmeglbamfjcgaaSame
namespace Go.Proofs.Ytnmeglbamfjcgaa
open Go.RowKit

set_option maxRecDepth 100000 in
theorem v_any (x : Int) (w : World) :
    Calls Try.prog 41 #[.int .i64 x] w fun e w' => e = .returned (.agg #[.int .i64 1, .int .i64 x, .int .i64 0]) ∧ w.alloc (.cells #[.int .i64 1, .int .i64 x, .int .i64 0] 53) = w' := by
  go_enter Try.func41, Try.ntmps41
  go_wp2_with fail
  exact bodyPost_ret (v := .agg #[.int .i64 1, .int .i64 x, .int .i64 0]) (by simp [results, Try.results41, go_sem]) rfl ⟨rfl, rfl⟩

def sumN : List Nat → Nat
  | [] => 0
  | x :: l => x + sumN l
theorem sumN_take (l : List Nat) : ∀ (k : Nat), k < l.length → sumN (l.take (k + 1)) = sumN (l.take k) + l.getD k 0 := by
  induction l with
  | nil => intro k h; simp at h
  | cons x l ih =>
    intro k h
    cases k with
    | zero => simp [sumN]
    | succ k =>
      have := ih k (by simpa using h)
      simp only [List.take_succ_cons, sumN, List.getD_cons_succ]
      omega
theorem sumN_le (l : List Nat) : ∀ (k : Nat), sumN (l.take k) ≤ sumN l := by
  induction l with
  | nil => intro k; simp [sumN]
  | cons x l ih =>
    intro k
    cases k with
    | zero => simp [sumN]
    | succ k => have := ih k; simp only [List.take_succ_cons, sumN]; omega

set_option maxRecDepth 100000 in
set_option maxHeartbeats 400000 in
theorem long_any {b off c : Nat} {L : List Nat} {w : World} (hk : 0 < L.length) (hc : ∀ i, i < L.length → ∃ A d, w.cell? ⟨b, off + i, none⟩ = some (.slice A (L.getD i 0) d)) (hm : ∀ i, L.getD i 0 ≤ 5864062014805) (hl : L.length ≤ 1000000000000) :
    Calls Try.prog 14 #[.slice (some ⟨b, off, none⟩) L.length c] w fun e w' => e = .returned (.bool (decide (9000 < sumN L))) ∧ w = w' := by
  have HC := Lib.hid hc
  have HM := Lib.hid hm
  clear hc hm
  go_enter Try.func14, Try.ntmps14
  go_wp2_with fail
  go_loop [3, 4] (fun n i => ∃ k : Nat, k ≤ L.length ∧ i = .int .i64 (k : Int) ∧ n = .int .i64 ((sumN (L.take k) : Nat) : Int) ∧ sumN (L.take k) ≤ 9000) (fun _ i => L.length - (intOf i).toNat)
  case atStart => exact ⟨0, Nat.zero_le _, rfl, rfl, Nat.zero_le _⟩
  case round =>
    obtain ⟨k, hkl, rfl, rfl, hs⟩ := hrel
    by_cases hlt : k < L.length
    · obtain ⟨A, d, hcell⟩ := HC.out k hlt
      have hmk := HM.out k
      have hst := sumN_take L k hlt
      have hsl := sumN_le L (k + 1)
      have hlb : (k : Int) < (L.length : Int) := by omega
      by_cases hbig : 9000 < sumN (L.take k) + L.getD k 0
      · have hf : decide (9000 < sumN L) = true := by simp; omega
        have hbb : (9000 : Int) < ((sumN (L.take k) : Nat) : Int) + ((L.getD k 0 : Nat) : Int) := by omega
        have HF := Lib.hid hf
        clear hst hsl hf hbig
        generalize sumN (L.take k) = S at *
        generalize L.getD k 0 = G at *
        go_wp2_with fail
        go_ret
        exact ⟨ret_bool HF.out.symm, rfl⟩
      · have hbb : decide ((9000 : Int) < ((sumN (L.take k) : Nat) : Int) + ((L.getD k 0 : Nat) : Int)) = false := decide_eq_false (by omega)
        have HST := Lib.hid hst
        clear hst hsl
        generalize hS : sumN (L.take k) = S at *
        generalize L.getD k 0 = G at *
        go_wp2_with fail
        go_round
        case rel => exact ⟨k + 1, by omega, by go_num, by rw [HST.out]; go_num, by rw [HST.out]; omega⟩
        case measure => simp [intOf]; omega
    · have hlb : decide ((k : Int) < (L.length : Int)) = false := by simp; omega
      have hf : decide (9000 < sumN L) = false := by
        have : k = L.length := by omega
        subst this
        rw [List.take_length] at hs
        simp; omega
      have HF := Lib.hid hf
      clear hf
      go_wp2_with fail
      go_ret
      exact ⟨ret_bool HF.out.symm, rfl⟩

end Go.Proofs.Ytnmeglbamfjcgaa
