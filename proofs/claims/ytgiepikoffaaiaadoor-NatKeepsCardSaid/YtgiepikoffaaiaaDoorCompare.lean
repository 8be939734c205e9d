/- Compare: which of two numbers is less. -/
import Derived.Test.YtgiepikoffaaiaaDoorAdd
namespace Go.Proofs.YtgiepikoffaaiaaDoor
open Go.RowKit

def cmpI (x y : Nat) : Int := if x < y then -1 else if y < x then 1 else 0
theorem cmp_less {a b : List Nat} {k : Nat} (ha : Ok a) (h : ∀ j, k + 1 ≤ j → wd a j = wd b j) (hlt : wd a k < wd b k) : cmpI (val a) (val b) = -1 := by
  have := cmp_lt ha (i := k) (fun j hj => h j hj) hlt
  simp [cmpI, this]
theorem cmp_more {a b : List Nat} {k : Nat} (hb : Ok b) (h : ∀ j, k + 1 ≤ j → wd a j = wd b j) (hlt : wd b k < wd a k) : cmpI (val a) (val b) = 1 := by
  have := cmp_lt hb (i := k) (fun j hj => (h j hj).symm) hlt
  unfold cmpI
  rw [if_neg (by omega), if_pos this]
theorem cmp_same {a b : List Nat} (h : ∀ j, 0 ≤ j → wd a j = wd b j) : cmpI (val a) (val b) = 0 := by
  have := cmp_eq fun j => h j (Nat.zero_le _)
  simp [cmpI, this]

set_option maxHeartbeats 1000000 in
theorem compare_any {A B : Option Addr} {n c m d : Nat} {a b : List Nat} {w : World} (ha : NatV w A n c a) (hb : NatV w B m d b) :
    Calls Tryd.prog 25 #[.slice A n c, .slice B m d] w fun e w' => e = .returned (.int .i64 (cmpI (val a) (val b))) ∧ Below w.heap.size w w' := by
  obtain ⟨N, hN⟩ : ∃ N, N = max n m := ⟨_, rfl⟩
  have hn : n ≤ N := by omega
  have hm : m ≤ N := by omega
  have hf : N ≤ 35184372087808 := by have := ha.few; have := hb.few; omega
  have hlong := longest2 ha.few hb.few (Blk.new w 23 #[.slice A n c, .slice B m d])
  rw [← hN] at hlong
  have HLONG := Lib.hid hlong
  have HA := Lib.hid ha
  have HB := Lib.hid hb
  have HA2 := Lib.hid (ha.alloc (.cells #[.slice A n c, .slice B m d] 23))
  have HB2 := Lib.hid (hb.alloc (.cells #[.slice A n c, .slice B m d] 23))
  clear ha hb hN hlong
  go_enter Tryd.func25, Tryd.ntmps25
  go_wp2_with fail
  refine (HLONG.out).mono ?_
  rintro e w' ⟨rfl, rfl⟩
  go_wp2_with fail
  go_loop [5] (fun i => ∃ k : Nat, k ≤ N ∧ i = .int .i64 ((k : Int) - 1) ∧ RowKit.Hid (∀ j, k ≤ j → wd a j = wd b j)) (fun i => (intOf i + 1).toNat)
  case atStart => exact ⟨N, Nat.le_refl _, rfl, Lib.hid fun j hj => by rw [wd_out (by rw [HA.out.len]; omega), wd_out (by rw [HB.out.len]; omega)]⟩
  case round =>
    obtain ⟨k, hk, rfl, hz⟩ := hrel
    by_cases hk0 : k = 0
    · subst hk0
      have HZ := Lib.hid (cmp_same hz.out)
      simp only [Int.natCast_zero, Int.zero_sub]
      go_wp2_with fail
      go_ret
      exact ⟨ret_int HZ.out.symm, below_alloc _ _⟩
    · obtain ⟨q, rfl⟩ : ∃ q, k = q + 1 := ⟨k - 1, by omega⟩
      have HX := Lib.hid (wd_lt HA.out.ok q)
      have HY := Lib.hid (wd_lt HB.out.ok q)
      have hq : (((q + 1 : Nat) : Int) - 1) = (q : Int) := by omega
      rw [hq]
      clear hq hk0
      rcases Nat.lt_trichotomy (wd a q) (wd b q) with hlt | heq | hgt
      · have HZ := Lib.hid (cmp_less HA.out.ok hz.out hlt)
        have c1 : decide (wd a q < wd b q) = true := decide_eq_true hlt
        clear hlt
        go_wp2_with fail
        refine (word_any HA2.out q).mono ?_
        rintro e w' ⟨rfl, rfl⟩
        go_wp2_with fail
        refine (word_any HB2.out q).mono ?_
        rintro e w' ⟨rfl, rfl⟩
        go_wp2_with fail
        go_ret
        exact ⟨ret_int HZ.out.symm, below_alloc _ _⟩
      · have c1 : decide (wd a q < wd b q) = false := decide_eq_false (by omega)
        have c2 : decide (wd b q < wd a q) = false := decide_eq_false (by omega)
        have HQ := Lib.hid heq
        clear heq
        go_wp2_with fail
        refine (word_any HA2.out q).mono ?_
        rintro e w' ⟨rfl, rfl⟩
        go_wp2_with fail
        refine (word_any HB2.out q).mono ?_
        rintro e w' ⟨rfl, rfl⟩
        go_wp2_with fail
        go_round
        case rel => exact ⟨q, by omega, rfl, Lib.hid fun j hj => by
          by_cases e : j = q
          · subst e; exact HQ.out
          · exact hz.out j (by omega)⟩
        case measure => simp [intOf]
      · have HZ := Lib.hid (cmp_more HB.out.ok hz.out hgt)
        have c1 : decide (wd a q < wd b q) = false := decide_eq_false (by omega)
        have c2 : decide (wd b q < wd a q) = true := decide_eq_true hgt
        clear hgt
        go_wp2_with fail
        refine (word_any HA2.out q).mono ?_
        rintro e w' ⟨rfl, rfl⟩
        go_wp2_with fail
        refine (word_any HB2.out q).mono ?_
        rintro e w' ⟨rfl, rfl⟩
        go_wp2_with fail
        go_ret
        exact ⟨ret_int HZ.out.symm, below_alloc _ _⟩

end Go.Proofs.YtgiepikoffaaiaaDoor
