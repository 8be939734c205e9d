/- DivMod of numbers. -/
import Derived.Test.YtgiepikoffaaiaaDoorLong
import Derived.Test.YtgiepikoffaaiaaDoorBackP
namespace Go.Proofs.YtgiepikoffaaiaaDoor
open Go Go.RowKit

/-- A quotient and a rest, each in a block of its own. -/
def DivNum (x y i j : Nat) (w : World) (e : Ending) (w' : World) : Prop := Below w.heap.size w w' ∧ ∃ g1 L1 g2 L2, e = .returned (.tuple #[.slice (some ⟨g1, 0, none⟩) L1 L1, .slice (some ⟨g2, 0, none⟩) L2 L2, .int .i64 0]) ∧ w.heap.size ≤ g1 ∧ w.heap.size ≤ g2 ∧ g1 ≠ g2 ∧ Num w' g1 L1 (x / y) i ∧ Num w' g2 L2 (x % y) j
section
variable {A B : Option Addr} {n c m d x y i j : Nat} {w : World}
theorem DivPost.num {q r : Nat} {e : Ending} {w' : World} (h : DivPost (wds q) (wds r) w e w') (hq : q = x / y) (hr : r = x % y) (hql : q < pw i) (hrl : r < pw j) : DivNum x y i j w e w' := by
  obtain ⟨hb, g1, g2, he, h1, h2, hne, hr1, hr2⟩ := h
  subst hq hr
  exact ⟨hb, g1, _, g2, _, he, h1, h2, hne, ⟨hr1, rfl, wds_len hql⟩, ⟨hr2, rfl, wds_len hrl⟩⟩
theorem divmod_num (hx : Arg w A n c x i) (hy : Arg w B m d y j) (hi : i ≤ 10000) (hj : j ≤ 10000) (h0 : 0 < y) : Calls Tryd.prog 14 #[.slice A n c, .slice B m d] w (DivNum x y i j w) := by
  have hxl := hx.lt
  have hyl := hy.lt
  have hql : x / y < pw i := Nat.lt_of_le_of_lt (Nat.div_le_self _ _) hxl
  have hrl : x % y < pw j := Nat.lt_trans (Nat.mod_lt _ h0) hyl
  obtain ⟨a, ha, rfl, hna⟩ := hx
  obtain ⟨b, hb, rfl, hnb⟩ := hy
  by_cases hlt : val a < val b
  · refine (divmod_less ha hb (by omega) hlt).mono fun e w' h => h.num (Nat.div_eq_of_lt hlt).symm (Nat.mod_eq_of_lt hlt).symm ?_ ?_
    · exact pw_pos _
    · rw [Nat.mod_eq_of_lt hlt] at hrl; exact hrl
  · by_cases hw : val b < 4294967296
    · exact (divmod_word ha hb (by omega) h0 (by omega) hw).mono fun e w' h => h.num rfl rfl hql hrl
    · exact (divmod_long ha hb (by omega) (by omega) (by omega)).mono fun e w' h => h.num rfl rfl hql hrl
theorem divmod_zero_num (hx : Arg w A n c x i) (hy : Arg w B m d y j) (h0 : y = 0) : Calls Tryd.prog 14 #[.slice A n c, .slice B m d] w fun e w' => e = .returned (.tuple #[.slice none 0 0, .slice none 0 0, .int .i64 2]) ∧ Below w.heap.size w w' := by
  obtain ⟨a, ha, rfl, hna⟩ := hx
  obtain ⟨b, hb, rfl, hnb⟩ := hy
  exact divmod_zero hb h0 ha
end
theorem div_back {a b : Nat} (h : 0 < b) : (a * b + a % b) / b = a := by
  rw [Nat.add_comm, Nat.add_mul_div_right _ _ h, Nat.div_eq_of_lt (Nat.mod_lt _ h), Nat.zero_add]
theorem mod_back (a b : Nat) : (a * b + a % b) % b = a % b := by
  rw [Nat.add_comm, Nat.add_mul_mod_self_right, Nat.mod_mod]
theorem bln_pos {b : Nat} (h : 0 < b) : bln b ≠ 0 := by
  intro e
  have := (bln_le (n := b) (k := 0)).1 (by omega)
  omega

end Go.Proofs.YtgiepikoffaaiaaDoor
