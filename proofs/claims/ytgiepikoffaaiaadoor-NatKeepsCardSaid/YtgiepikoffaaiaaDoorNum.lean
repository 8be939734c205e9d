/- The contracts of the functions of numbers, told of numbers alone. -/
import Derived.Test.YtgiepikoffaaiaaDoorAwake
import Derived.Test.YtgiepikoffaaiaaDoorMonus
namespace Go.Proofs.YtgiepikoffaaiaaDoor
open Go.RowKit

/-- A number that is handed in: x, of at most k words. -/
def Arg (w : World) (A : Option Addr) (n c x k : Nat) : Prop := ∃ l, NatV w A n c l ∧ val l = x ∧ n ≤ k
/-- A number in a block of its own: x, of at most k words. -/
structure Num (w : World) (g L x k : Nat) : Prop where
  row : RowB w g (wds x)
  len : (wds x).length = L
  le : L ≤ k
theorem Num.lt {w : World} {g L x k : Nat} (h : Num w g L x k) : g < w.heap.size := h.row.lt
theorem Num.below {w w' : World} {g L x k : Nat} (h : Num w g L x k) (hb : Below w.heap.size w w') : Num w' g L x k := ⟨h.row.below hb h.row.lt, h.len, h.le⟩
theorem Num.alloc {w : World} {g L x k : Nat} (h : Num w g L x k) (o : Obj) : Num (w.alloc o) g L x k := h.below (below_alloc _ _)
theorem Num.drewN {w : World} {g L x k : Nat} (h : Num w g L x k) (m : Nat) : Num (w.drewN m) g L x k := ⟨h.row.drewN m, h.len, h.le⟩
theorem Num.natV {w : World} {g L x k : Nat} (h : Num w g L x k) (hk : k ≤ 100000) : NatV w (some ⟨g, 0, none⟩) L L (wds x) := by
  have := h.row.natV (ok_wds x) (by have := h.len; have := h.le; omega)
  rwa [h.len] at this
theorem Num.arg {w : World} {g L x k : Nat} (h : Num w g L x k) (hk : k ≤ 100000) : Arg w (some ⟨g, 0, none⟩) L L x k := ⟨wds x, h.natV hk, val_wds x, h.le⟩
theorem Arg.below {w w' : World} {A : Option Addr} {n c x k : Nat} (h : Arg w A n c x k) (hb : Below w.heap.size w w') : Arg w' A n c x k := by
  obtain ⟨l, h1, h2, h3⟩ := h
  exact ⟨l, h1.below hb, h2, h3⟩
theorem Arg.nil (w : World) : Arg w none 0 0 0 0 := ⟨[], NatR.nil w, rfl, Nat.le_refl _⟩
theorem Arg.lt {w : World} {A : Option Addr} {n c x k : Nat} (h : Arg w A n c x k) : x < pw k := by
  obtain ⟨l, h1, rfl, h3⟩ := h
  have h4 := val_lt h1.ok
  have h5 : pw l.length ≤ pw k := pw_le (by rw [h1.len]; exact h3)
  omega

def NumPost (x k : Nat) (w : World) (e : Ending) (w' : World) : Prop := Below w.heap.size w w' ∧ ∃ g L, e = .returned (.slice (some ⟨g, 0, none⟩) L L) ∧ w.heap.size ≤ g ∧ Num w' g L x k
theorem NatPost.num {x k : Nat} {w : World} {e : Ending} {w' : World} (h : NatPost (wds x) w e w') (hx : x < pw k) : NumPost x k w e w' := by
  obtain ⟨hb, g, he, hg, hr⟩ := h
  exact ⟨hb, g, (wds x).length, he, hg, ⟨hr, rfl, wds_len hx⟩⟩

section
variable {A B : Option Addr} {n c m d x y i j : Nat} {w : World}
theorem pw_add_lt (hx : x < pw i) (hy : y < pw j) : x + y < pw (max i j + 1) := by
  have h1 := pw_le (Nat.le_max_left i j)
  have h2 := pw_le (Nat.le_max_right i j)
  rw [pw_succ]
  omega
theorem pw_mul_lt (hx : x < pw i) (hy : y < pw j) : x * y < pw (i + j) := by
  rw [pw_add]
  exact Nat.mul_lt_mul_of_lt_of_le hx (Nat.le_of_lt hy) (pw_pos j)
theorem add_num (hx : Arg w A n c x i) (hy : Arg w B m d y j) (hi : i ≤ 1000) (hj : j ≤ 1000) {k : Nat} (hk : k = max i j + 1) : Calls Tryd.prog 21 #[.slice A n c, .slice B m d] w (NumPost (x + y) k w) := by
  subst hk
  have h1 := hx.lt
  have h2 := hy.lt
  obtain ⟨a, ha, rfl, hna⟩ := hx
  obtain ⟨b, hb, rfl, hnb⟩ := hy
  exact (add_any ha hb (by omega) (by omega)).mono fun e w' h => h.num (pw_add_lt h1 h2)
theorem mul_num (hx : Arg w A n c x i) (hy : Arg w B m d y j) (hi : i ≤ 1000) (hj : j ≤ 1000) {k : Nat} (hk : k = i + j) : Calls Tryd.prog 17 #[.slice A n c, .slice B m d] w (NumPost (x * y) k w) := by
  subst hk
  have h1 := hx.lt
  have h2 := hy.lt
  obtain ⟨a, ha, rfl, hna⟩ := hx
  obtain ⟨b, hb, rfl, hnb⟩ := hy
  exact (mul_any ha hb (by omega) (by omega)).mono fun e w' h => h.num (pw_mul_lt h1 h2)
theorem norm_num' (hx : Arg w A n c x i) : Calls Tryd.prog 19 #[.slice A n c] w (NumPost x i w) := by
  have h1 := hx.lt
  obtain ⟨a, ha, rfl, hna⟩ := hx
  exact (norm_any ha).mono fun e w' h => h.num h1
theorem monus_num (hx : Arg w A n c x i) (hy : Arg w B m d y j) (hi : i ≤ 1000) : Calls Tryd.prog 23 #[.slice A n c, .slice B m d] w (NumPost (x - y) i w) := by
  have h1 := hx.lt
  obtain ⟨a, ha, rfl, hna⟩ := hx
  obtain ⟨b, hb, rfl, hnb⟩ := hy
  exact (monus_any ha hb (by omega)).mono fun e w' h => h.num (by omega)
theorem compare_num (hx : Arg w A n c x i) (hy : Arg w B m d y j) : Calls Tryd.prog 25 #[.slice A n c, .slice B m d] w fun e w' => e = .returned (.int .i64 (cmpI x y)) ∧ Below w.heap.size w w' := by
  obtain ⟨a, ha, rfl, hna⟩ := hx
  obtain ⟨b, hb, rfl, hnb⟩ := hy
  exact compare_any ha hb
theorem same_num {g L h L' : Nat} (hx : Num w g L x i) (hy : Num w h L' y j) (hi : i ≤ 1000) (hj : j ≤ 1000) (he : x = y) : Calls Tryd.prog 16 #[.slice (some ⟨g, 0, none⟩) L L, .slice (some ⟨h, 0, none⟩) L' L'] w (BoolPost true w) := by
  subst he
  refine (same_any w (hx.natV (by omega)) (hy.natV (by omega))).mono ?_
  rintro e w' ⟨rfl, m, rfl⟩
  exact ⟨by simp, below_drewN (Below.refl _ _) m⟩
theorem sameB_num {g L h L' : Nat} (hx : Num w g L x i) (hy : Num w h L' y j) (hi : i ≤ 1000) (hj : j ≤ 1000) : Calls Tryd.prog 16 #[.slice (some ⟨g, 0, none⟩) L L, .slice (some ⟨h, 0, none⟩) L' L'] w (BoolPost (decide (x = y)) w) := by
  refine (same_any w (hx.natV (by omega)) (hy.natV (by omega))).mono ?_
  rintro e w' ⟨rfl, m, rfl⟩
  refine ⟨ret_bool ?_, below_drewN (Below.refl _ _) m⟩
  exact decide_eq_decide.2 ⟨fun h => wds_inj h, fun h => by rw [h]⟩
end

theorem compare_lit {A B : Option Addr} {n c m d x y i j : Nat} {w : World} (hx : Arg w A n c x i) (hy : Arg w B m d y j) {v : Int} (hv : cmpI x y = v) : Calls Tryd.prog 25 #[.slice A n c, .slice B m d] w fun e w' => e = .returned (.int .i64 v) ∧ Below w.heap.size w w' := by
  subst hv
  exact compare_num hx hy
theorem sameB_lit {x y i j g L h L' : Nat} {w : World} (hx : Num w g L x i) (hy : Num w h L' y j) (hi : i ≤ 1000) (hj : j ≤ 1000) {v : Bool} (hv : decide (x = y) = v) : Calls Tryd.prog 16 #[.slice (some ⟨g, 0, none⟩) L L, .slice (some ⟨h, 0, none⟩) L' L'] w (BoolPost v w) := by
  subst hv
  exact sameB_num hx hy hi hj
theorem cmp_l {x y : Nat} (h : x < y) : cmpI x y = -1 := by simp [cmpI, h]
theorem cmp_e {x y : Nat} (h : x = y) : cmpI x y = 0 := by simp [cmpI, h]
theorem cmp_g {x y : Nat} (h : y < x) : cmpI x y = 1 := by
  unfold cmpI
  rw [if_neg (by omega), if_pos h]
theorem order_ways (a b c : Nat) : (a < b ∧ b < c) ∨ (a < b ∧ b = c) ∨ (a < b ∧ c < b) ∨ (a = b ∧ b < c) ∨ (a = b ∧ b = c) ∨ (a = b ∧ c < b) ∨ b < a := by omega
theorem lit_one (w : World) : Num (w.alloc (.cells #[.int .u32 1] 34)) w.heap.size 1 1 1 := by
  have e : wds 1 = [1] := wds_short (by omega) (by omega)
  exact ⟨by rw [e]; exact Blk.new _ _ _, by rw [e]; rfl, Nat.le_refl _⟩

/-- What is handed in: the words l; of more than 80 words nothing is asked. -/
theorem long_two {A B : Option Addr} {n c m d : Nat} {w : World} {g : Nat} (h : Blk w g 23 #[.slice A n c, .slice B m d]) {b : Bool} (hb : b = (decide (80 < n) || decide (80 < m))) :
    Calls Tryd.prog 13 #[.slice (some ⟨g, 0, none⟩) 2 2] w fun e w' => e = .returned (.bool b) ∧ w = w' := by
  have := long_any (vs := [(A, n, c), (B, m, d)]) h (by simp)
  refine this.mono fun e w' hh => ?_
  subst hb
  simpa [anyBig] using hh
theorem long_three {A B C : Option Addr} {n c m d p q : Nat} {w : World} {g : Nat} (h : Blk w g 23 #[.slice A n c, .slice B m d, .slice C p q]) {b : Bool} (hb : b = (decide (80 < n) || (decide (80 < m) || decide (80 < p)))) :
    Calls Tryd.prog 13 #[.slice (some ⟨g, 0, none⟩) 3 3] w fun e w' => e = .returned (.bool b) ∧ w = w' := by
  have := long_any (vs := [(A, n, c), (B, m, d), (C, p, q)]) h (by simp)
  refine this.mono fun e w' hh => ?_
  subst hb
  simpa [anyBig] using hh
theorem long_one {A : Option Addr} {n c : Nat} {w : World} {g : Nat} (h : Blk w g 23 #[.slice A n c]) {b : Bool} (hb : b = decide (80 < n)) :
    Calls Tryd.prog 13 #[.slice (some ⟨g, 0, none⟩) 1 1] w fun e w' => e = .returned (.bool b) ∧ w = w' := by
  have := long_any (vs := [(A, n, c)]) h (by simp)
  refine this.mono fun e w' hh => ?_
  subst hb
  simpa [anyBig] using hh

end Go.Proofs.YtgiepikoffaaiaaDoor
