/- Shift of the reference. -/
import Derived.Test.YtgiepikoffaaiaaDoorRefOf
import Derived.Test.YtgiepikoffaaiaaDoorHeldF
import Derived.IntWalk
namespace Go.Proofs.YtgiepikoffaaiaaDoor
open Go Go.RowKit

theorem made_digs (n : Nat) : madeCells #[Value.int .i64 0] n = cellsD (List.replicate n 0) := by
  apply Array.ext
  · simp [madeCells, cellsD]
  · intro i h1 h2
    simp [madeCells, cellsD, Nat.mod_one]
theorem make_dig (n : Nat) (hn : n ≤ 35184372088832) (w : World) : (Instr.makeSlice 56 (.int .i64 (n : Int)) (.int .i64 (n : Int))).run Tryd.prog w = .ok (.slice (some ⟨w.heap.size, 0, none⟩) n n) (w.alloc (.cells (cellsD (List.replicate n 0)) 3)) := by
  obtain ⟨i, hi, h1, h2, h3⟩ := info_parts infoI
  rw [run_make (P := Tryd.prog) w 56 3 i (.int .i64 0) Tryd.underlying56 hi h1 .i64 .i64 n n (by omega) (by omega) (by rw [h3]; omega) (by omega), h2]
  simp only [Int.toNat_natCast, Nat.mul_one]
  show Result.ok _ (w.alloc (.cells (madeCells #[Value.int .i64 0] n) _)) = _
  rw [made_digs]
theorem set_bit {o : List Nat} (ho : Ok8 o) {p q r b : Nat} (hp : p = 8 * q + r) (hr : r < 8) (hb : b < 2) (hq : q < o.length) (hv : val8 o < 2 ^ p) :
    dg8 o q + b * 2 ^ r < 256 ∧ Ok8 (o.set q (dg8 o q + b * 2 ^ r)) ∧ val8 (o.set q (dg8 o q + b * 2 ^ r)) = val8 o + 2 ^ p * b := by
  have h1 : dg8 o q < 2 ^ r := by
    rw [wd_val8 ho]
    refine Nat.lt_of_le_of_lt (Nat.mod_le _ _) ?_
    rw [Nat.div_lt_iff_lt_mul (pw_pos8 q), pw8_two, ← Nat.pow_add, show r + 8 * q = p from by omega]
    exact hv
  have h2 : 2 ^ (r + 1) ≤ 2 ^ 8 := Nat.pow_le_pow_right (by decide) (by omega)
  have h3 : b * 2 ^ r ≤ 1 * 2 ^ r := Nat.mul_le_mul_right _ (by omega)
  have h4 : (2 : Nat) ^ (r + 1) = 2 * 2 ^ r := by rw [Nat.pow_succ, Nat.mul_comm]
  have h5 : dg8 o q + b * 2 ^ r < 256 := by
    have : (2 : Nat) ^ 8 = 256 := by decide
    omega
  refine ⟨h5, ok_set8 ho _ h5, ?_⟩
  have h6 := val_set8 o q (dg8 o q + b * 2 ^ r) hq
  have e : pw8 q * (b * 2 ^ r) = 2 ^ p * b := by rw [pw8_two, hp, Nat.pow_add]; grind
  rw [Nat.mul_add, e] at h6
  omega
theorem OwnD.set {w : World} {base g n c : Nat} {l : List Nat} (h : OwnD w base (some ⟨g, 0, none⟩) n c l) (i x : Nat) : OwnD (w.setCell ⟨g, i, none⟩ (.int .i64 (x : Int))) base (some ⟨g, 0, none⟩) n c (l.set i x) := by
  have := own_set h i (.int .i64 (x : Int))
  rwa [← Array.toList_setIfInBounds, cellsD_set] at this
theorem OwnD.row {w : World} {base n c : Nat} {A : Option Addr} {l : List Nat} (h : OwnD w base A n c l) (hn : 0 < n) : ∃ g cur, A = some ⟨g, 0, none⟩ ∧ base ≤ g ∧ Blk w g 3 cur := by
  obtain ⟨_, hcase⟩ := h
  rcases hcase with ⟨_, h2⟩ | ⟨g, cap', cur, hv, hg, hh, _⟩
  · omega
  · injection hv with e1
    exact ⟨g, cur, e1, hg, hh⟩
theorem OwnD.cell {w : World} {base n c g : Nat} {l : List Nat} (h : OwnD w base (some ⟨g, 0, none⟩) n c l) {k : Nat} (hk : k < n) : w.cell? ⟨g, k, none⟩ = some (.int .i64 ((dg8 l k : Nat) : Int)) := by
  have hln : l.length = n := by have := h.1; simpa [cellsD] using this
  rw [h.cellAt k (by omega), Array.getElem?_toList, cellsD_at l (by omega)]
theorem own_newD {w : World} {base g : Nat} {l : List Nat} (h : Blk w g 3 (cellsD l)) (hg : base ≤ g) (hf : l.length ≤ maxLen) : OwnD w base (some ⟨g, 0, none⟩) l.length l.length l := by
  refine ⟨by simp [cellsD], .inr ⟨g, l.length, cellsD l, rfl, hg, h, Nat.le_refl _, hf, by simp [cellsD], ?_⟩⟩
  rw [List.take_of_length_le (by simp [cellsD])]

/-- A number and OK come back. -/
def RNatOkPost (x : Nat) (w : World) (e : Ending) (w' : World) : Prop := Below w.heap.size w w' ∧ ∃ A n c, e = .returned (.tuple #[.slice A n c, .int .i64 0]) ∧ NatV w' A n c (wds x)

set_option maxHeartbeats 2000000 in
theorem refShift_big {A : Option Addr} {n c : Nat} (w : World) {by_ : Int} (h : by_ > 65536 ∨ by_ < -65536) :
    Calls Tryd.prog 28 #[.slice A n c, .int .i64 by_] w fun e w' => e = .returned (.tuple #[.slice none 0 0, .int .i64 6]) ∧ w = w' := by
  rcases h with h | h
  · go_enter Tryd.func28, Tryd.ntmps28
    go_wp2_with fail
    go_ret2
    exact ⟨rfl, rfl⟩
  · have h2 : ¬ (by_ > 65536) := by omega
    go_enter Tryd.func28, Tryd.ntmps28
    go_wp2_with fail
    go_ret2
    exact ⟨rfl, rfl⟩

/-- What the bits below i become, shifted by b: F i. -/
structure ShF (x n : Nat) (b : Int) (F : Nat → Nat) (V : Nat) : Prop where
  zero : F 0 = 0
  low : ∀ i : Nat, (i : Int) + b < 0 → F (i + 1) = F i
  high : ∀ i p : Nat, (i : Int) + b = (p : Int) → F i < 2 ^ p ∧ F (i + 1) = F i + 2 ^ p * bitN x i
  all : F (8 * n) = V
theorem shf_up {x n s : Nat} (h : x < pw8 n) : ShF x n (s : Int) (fun i => x % 2 ^ i * 2 ^ s) (x * 2 ^ s) := by
  refine ⟨by simp [Nat.mod_one], fun i h => by omega, fun i p h => ?_, ?_⟩
  · have hp : p = i + s := by omega
    subst hp
    have h1 : x % 2 ^ i < 2 ^ i := Nat.mod_lt _ (Nat.pow_pos (by decide))
    refine ⟨by rw [Nat.pow_add]; exact Nat.mul_lt_mul_of_pos_right h1 (Nat.pow_pos (by decide)), ?_⟩
    show x % 2 ^ (i + 1) * 2 ^ s = x % 2 ^ i * 2 ^ s + 2 ^ (i + s) * bitN x i
    rw [mod_bit, Nat.pow_add]
    grind
  · show x % 2 ^ (8 * n) * 2 ^ s = _
    rw [Nat.mod_eq_of_lt (by rwa [← pw8_two])]
theorem shf_down {x n s : Nat} (h : x < pw8 n) : ShF x n (-(s : Int)) (fun i => x % 2 ^ i / 2 ^ s) (x / 2 ^ s) := by
  refine ⟨by simp [Nat.mod_one], fun i h => ?_, fun i p h => ?_, ?_⟩
  · have h1 : ∀ j, j ≤ s → x % 2 ^ j / 2 ^ s = 0 := fun j hj => Nat.div_eq_of_lt (Nat.lt_of_lt_of_le (Nat.mod_lt _ (Nat.pow_pos (by decide))) (Nat.pow_le_pow_right (by decide) hj))
    show x % 2 ^ (i + 1) / 2 ^ s = x % 2 ^ i / 2 ^ s
    rw [h1 _ (by omega), h1 _ (by omega)]
  · have hp : i = p + s := by omega
    subst hp
    have h1 : x % 2 ^ (p + s) < 2 ^ (p + s) := Nat.mod_lt _ (Nat.pow_pos (by decide))
    refine ⟨by rw [Nat.div_lt_iff_lt_mul (Nat.pow_pos (by decide)), ← Nat.pow_add]; exact h1, ?_⟩
    show x % 2 ^ (p + s + 1) / 2 ^ s = x % 2 ^ (p + s) / 2 ^ s + 2 ^ p * bitN x (p + s)
    rw [mod_bit, show 2 ^ (p + s) * bitN x (p + s) = 2 ^ s * (2 ^ p * bitN x (p + s)) from by rw [Nat.pow_add]; grind, Nat.add_mul_div_left _ _ (Nat.pow_pos (by decide))]
  · show x % 2 ^ (8 * n) / 2 ^ s = _
    rw [Nat.mod_eq_of_lt (by rwa [← pw8_two])]

set_option linter.unusedSimpArgs false in
set_option maxRecDepth 100000 in
set_option maxHeartbeats 4000000 in
theorem refShift_gen {A : Option Addr} {n c x i k : Nat} {w : World} (hx : Arg w A n c x i) (hi : i ≤ 1000) {b : Int} (hb1 : -65536 ≤ b) (hb2 : b ≤ 65536) {V : Nat} {F : Nat → Nat} (hF : ShF x (dgs x).length b F V) (hk : max 0 b / 8 + 1 = (k : Int)) :
    Calls Tryd.prog 28 #[.slice A n c, .int .i64 b] w (RNatOkPost V w) := by
  have H := Lib.hid (digits_num hx hi)
  have hfx := dgs_few hx.lt
  have h1 : decide (b > 65536) = false := decide_eq_false (by omega)
  have h2 : decide (b < -65536) = false := decide_eq_false (by omega)
  have HF := Lib.hid hF
  have HK := Lib.hid hk
  clear hx hF hk
  go_enter Tryd.func28, Tryd.ntmps28
  go_wp2_with fail
  refine (H.out).mono ?_
  rintro e w1 ⟨hb1', A1, m, c1, rfl, hd1⟩
  have hl := hd1.len
  have hm : m ≤ 4000 := by omega
  have HL := Lib.hid hl
  have HD := Lib.hid hd1
  have HB1 := Lib.hid hb1'
  have hN : (m : Int) + max 0 b / 8 + 1 = ((m + k : Nat) : Int) := by have := HK.out; omega
  have hkl : k ≤ 8193 := by have := HK.out; omega
  have hmk : ∀ w : World, (Instr.makeSlice 56 (.int .i64 ((m : Int) + (k : Int))) (.int .i64 ((m : Int) + (k : Int)))).run Tryd.prog w = .ok (.slice (some ⟨w.heap.size, 0, none⟩) (m + k) (m + k)) (w.alloc (.cells (cellsD (List.replicate (m + k) 0)) 3)) := fun w => by
    have := make_dig (m + k) (by omega) w
    rwa [Int.natCast_add] at this
  have hkb : (m : Int) + max 0 b / 8 + 1 = (m : Int) + (k : Int) := by omega
  have HNEW : RowKit.Hid (∀ (w : World) (base : Nat), base ≤ w.heap.size → OwnD (w.alloc (.cells (cellsD (List.replicate (m + k) 0)) 3)) base (some ⟨w.heap.size, 0, none⟩) (m + k) (m + k) (List.replicate (m + k) 0)) := Lib.hid fun w base hb => by
    have := own_newD (l := List.replicate (m + k) 0) (Blk.new w 3 (cellsD (List.replicate (m + k) 0))) hb (by rw [List.length_replicate]; unfold maxLen; omega)
    rwa [List.length_replicate] at this
  have HZ0 : RowKit.Hid (val8 (List.replicate (m + k) 0) = 0 ∧ Ok8 (List.replicate (m + k) 0)) := Lib.hid ⟨val_zeros8 _, ok_zero8 _⟩
  clear hb1' hd1 hl hfx hN
  go_wp2_with fail
  have HN1 := Lib.hid (HNEW.out w1 w.heap.size HB1.out.size)
  have HBN := Lib.hid (below_alloc w1 (.cells (cellsD (List.replicate (m + k) 0)) 3))
  have HDB : RowKit.Hid (∀ wr : World, Below w1.heap.size w1 wr → DigR wr A1 m c1 (dgs x)) := Lib.hid fun wr h => HD.out.below h
  have HUP : RowKit.Hid (∀ wr : World, Below w1.heap.size w1 wr → Below w.heap.size w wr) := Lib.hid fun wr h => HB1.out.trans (h.mono HB1.out.size)
  generalize w1.alloc (.cells (cellsD (List.replicate (m + k) 0)) 3) = w2 at *
  generalize w1.heap.size = g at *
  go_loopw [8] (fun iv wr => ∃ (i : Nat) (o : List Nat), i ≤ 8 * m ∧ iv = .int .i64 (i : Int) ∧ RowKit.Hid (Ok8 o ∧ val8 o = F i) ∧ RowKit.Hid (OwnD wr w.heap.size (some ⟨g, 0, none⟩) (m + k) (m + k) o) ∧ RowKit.Hid (Below g w1 wr)) (fun i _ => 8 * m - (intOf i).toNat)
  case atStart => exact ⟨0, List.replicate (m + k) 0, by omega, rfl, Lib.hid ⟨HZ0.out.2, by rw [HZ0.out.1, HF.out.zero]⟩, HN1, HBN⟩
  case round =>
    obtain ⟨i, o, him, rfl, ho, hown, hbw⟩ := hrel
    by_cases hlt : i < 8 * m
    · by_cases hneg : (i : Int) + b < 0
      · have HF1 := Lib.hid (HF.out.low i hneg)
        have hge : ¬ ((i : Int) + b ≥ 0) := by omega
        go_wp2_with fail
        go_roundw
        case rel => exact ⟨i + 1, o, by omega, by go_num, Lib.hid ⟨ho.out.1, by rw [ho.out.2, HF1.out]⟩, hown, hbw⟩
        case measure => simp [intOf]; omega
      · obtain ⟨p, hp⟩ : ∃ p : Nat, (i : Int) + b = (p : Int) := ⟨((i : Int) + b).toNat, by omega⟩
        obtain ⟨hF1, hF2⟩ := HF.out.high i p hp
        obtain ⟨q, hq⟩ : ∃ q, q = p / 8 := ⟨_, rfl⟩
        obtain ⟨r, hr⟩ : ∃ r, r = p % 8 := ⟨_, rfl⟩
        have hrl : r < 8 := by omega
        have hpk : p < 8 * (m + k) := by have := HK.out; omega
        have hqn : q < m + k := by omega
        have hlo : o.length = m + k := by have := hown.out.1; simpa [cellsD] using this
        obtain ⟨_, cur, e1, _, hblk⟩ := OwnD.row hown.out (by omega)
        injection e1 with e1; injection e1 with e1; subst e1
        have hxc := OwnD.cell hown.out hqn
        have hblk2 : Blk wr g 3 cur := hblk
        have hfz := hblk2.frozen
        clear hblk
        obtain ⟨hz1, hz2, hz3⟩ := set_bit (q := q) (r := r) (p := p) ho.out.1 (by omega) hrl (bitN_lt x i) (by rw [hlo]; exact hqn) (by rw [ho.out.2]; exact hF1)
        rw [ho.out.2, ← hF2] at hz3
        have hbit := bit_any (i := i) (HDB.out _ (below_drewN hbw.out 1)) (show i < 8 * m from hlt)
        have HBIT : RowKit.Hid (Calls Tryd.prog 50 #[.slice A1 m c1, .int .i64 (i : Int)] wr.drew fun e w' => e = .returned (.int .i64 ((bitN x i : Nat) : Int)) ∧ wr.drew = w') := Lib.hid hbit
        have hbl := bitN_lt x i
        generalize bitN x i = y at *
        obtain ⟨B, hB⟩ : ∃ B, B = 2 ^ r := ⟨_, rfl⟩
        have hBl : B ≤ 128 := by rw [hB]; exact Nat.pow_le_pow_right (by decide) (show r ≤ 7 by omega)
        have hBI : ((2 : Int) ^ r) = (B : Int) := by rw [hB]; simp
        rw [← hB] at hz1 hz2 hz3
        generalize dg8 o q = z at *
        obtain ⟨t, ht⟩ : ∃ t, t = y * B := ⟨_, rfl⟩
        have hti : (y : Int) * (B : Int) = (t : Int) := by rw [ht, Int.natCast_mul]
        rw [← ht] at hz1 hz2 hz3
        obtain ⟨u, hu⟩ : ∃ u, u = z + t := ⟨_, rfl⟩
        rw [← hu] at hz1 hz2 hz3
        have hs1 : IntKind.i64.wrap ((i : Int) + b) = (p : Int) := by rw [hp]; exact IntWalk.i64_in _ (by omega)
        have hs3 : (p : Int).tdiv 8 = (q : Int) := by rw [Int.tdiv_eq_ediv_of_nonneg (by omega)]; omega
        have hs4 : (p : Int).tmod 8 = (r : Int) := by rw [Int.tmod_eq_emod_of_nonneg (by omega)]; omega
        have hs5 : IntKind.i64.wrap (q : Int) = (q : Int) := IntWalk.i64_in _ (by omega)
        have hs6 : IntKind.i64.wrap (r : Int) = (r : Int) := IntWalk.i64_in _ (by omega)
        have hs7 : IntKind.u64.wrap (r : Int) = (r : Int) := by rw [IntKind.wrap_u64]; omega
        have hs8 : IntKind.i64.wrap (t : Int) = (t : Int) := IntWalk.i64_in _ (by omega)
        have hs9 : (z : Int) + (t : Int) = (u : Int) := by omega
        have hs11 : (q : Int) < (m : Int) + (k : Int) := by omega
        have hqn0 : (0 : Int) ≤ (q : Int) := by omega
        have hs12 : (i : Int) < 8 * (m : Int) := by omega
        have hge : (i : Int) + b ≥ 0 := by omega
        have HZ := Lib.hid (And.intro hz2 hz3)
        have HO := Lib.hid hown.out
        have hr0 : (0 : Int) ≤ (r : Int) := by omega
        clear hz2 hz3 hbit hq hr hB ht hu hF1 hF2 hp hneg
        go_wp2_with fail
        refine wp_region_noPanic ?_
        refine wp_region_E 23 (fun w' => w'.cell? ⟨g, q, none⟩ = some (.int .i64 (z : Int))) (by rfl) hxc (fun hS0 => ?_)
        refine wpAnyE_take' (i := 0) (v := ?_) rfl (by kernel_rfl) (by kernel_rfl) (by kernel_rfl) (by kernel_rfl) (by kernel_rfl) (fun _ _ _ h => h) (Or.inl ⟨by rfl, ?_⟩) (by assumption) ?_
        rotate_left
        · (intro w hSw; (try dsimp only at hSw); go_simp); all_goals with_reducible rfl
        try simp only [Act.put, List.getElem_toArray, List.getElem_cons_zero, List.getElem_cons_succ, List.setIfInBounds_toArray, List.set_cons_zero, List.set_cons_succ]
        refine wpAnyE_take' (i := 1) (v := ?_) rfl (by kernel_rfl) (by kernel_rfl) (by kernel_rfl) (by kernel_rfl) (by kernel_rfl) (fun _ _ _ h => h) (Or.inl ⟨by rfl, ?_⟩) (by assumption) ?_
        rotate_left
        · (intro w hSw; (try dsimp only at hSw); go_simp); all_goals with_reducible rfl
        try simp only [Act.put, List.getElem_toArray, List.getElem_cons_zero, List.getElem_cons_succ, List.setIfInBounds_toArray, List.set_cons_zero, List.set_cons_succ]
        refine wpAnyE_take' (i := 2) (v := ?_) rfl (by kernel_rfl) (by kernel_rfl) (by kernel_rfl) (by kernel_rfl) (by kernel_rfl) (fun _ _ _ h => h) (Or.inl ⟨by rfl, ?_⟩) (by assumption) ?_
        rotate_left
        · (intro w hSw; (try dsimp only at hSw); go_simp); all_goals with_reducible rfl
        try simp only [Act.put, List.getElem_toArray, List.getElem_cons_zero, List.getElem_cons_succ, List.setIfInBounds_toArray, List.set_cons_zero, List.set_cons_succ]
        refine wpAnyE_take' (i := 3) (v := ?_) rfl (by kernel_rfl) (by kernel_rfl) (by kernel_rfl) (by kernel_rfl) (by kernel_rfl) (fun _ _ _ h => h) (Or.inl ⟨by rfl, ?_⟩) (by assumption) ?_
        rotate_left
        · (intro w hSw; (try dsimp only at hSw); go_simp); all_goals with_reducible rfl
        try simp only [Act.put, List.getElem_toArray, List.getElem_cons_zero, List.getElem_cons_succ, List.setIfInBounds_toArray, List.set_cons_zero, List.set_cons_succ]
        refine wpAnyE_take' (i := 4) (v := ?_) rfl (by kernel_rfl) (by kernel_rfl) (by kernel_rfl) (by kernel_rfl) (by kernel_rfl) (fun _ _ _ h => h) (Or.inl ⟨by rfl, ?_⟩) (by assumption) ?_
        rotate_left
        · (intro w hSw; (try dsimp only at hSw); go_simp); all_goals with_reducible rfl
        try simp only [Act.put, List.getElem_toArray, List.getElem_cons_zero, List.getElem_cons_succ, List.setIfInBounds_toArray, List.set_cons_zero, List.set_cons_succ]
        refine wpAnyE_take' (i := 5) (v := ?_) rfl (by kernel_rfl) (by kernel_rfl) (by kernel_rfl) (by kernel_rfl) (by kernel_rfl) (fun _ _ _ h => h) (Or.inl ⟨by rfl, ?_⟩) (by assumption) ?_
        rotate_left
        · (intro w hSw; (try dsimp only at hSw); go_simp); all_goals with_reducible rfl
        try simp only [Act.put, List.getElem_toArray, List.getElem_cons_zero, List.getElem_cons_succ, List.setIfInBounds_toArray, List.set_cons_zero, List.set_cons_succ]
        refine wpAnyE_take' (i := 6) (v := ?_) rfl (by kernel_rfl) (by kernel_rfl) (by kernel_rfl) (by kernel_rfl) (by kernel_rfl) (fun _ _ _ h => h) (Or.inl ⟨by rfl, ?_⟩) (by assumption) ?_
        rotate_left
        · (intro w hSw; (try dsimp only at hSw); go_simp); all_goals with_reducible rfl
        try simp only [Act.put, List.getElem_toArray, List.getElem_cons_zero, List.getElem_cons_succ, List.setIfInBounds_toArray, List.set_cons_zero, List.set_cons_succ]
        refine wpAnyE_take' (i := 7) (v := ?_) rfl (by kernel_rfl) (by kernel_rfl) (by kernel_rfl) (by kernel_rfl) (by kernel_rfl) (fun _ _ _ h => h) (Or.inl ⟨by rfl, ?_⟩) (by assumption) ?_
        rotate_left
        · (intro w hSw; (try dsimp only at hSw); go_simp); all_goals with_reducible rfl
        try simp only [Act.put, List.getElem_toArray, List.getElem_cons_zero, List.getElem_cons_succ, List.setIfInBounds_toArray, List.set_cons_zero, List.set_cons_succ]
        refine wpAnyE_take' (i := 8) (v := ?_) rfl (by kernel_rfl) (by kernel_rfl) (by kernel_rfl) (by kernel_rfl) (by kernel_rfl) (fun _ _ _ h => h) (Or.inl ⟨by rfl, ?_⟩) (by assumption) ?_
        rotate_left
        · (intro w hSw; (try dsimp only at hSw); go_simp); all_goals with_reducible rfl
        try simp only [Act.put, List.getElem_toArray, List.getElem_cons_zero, List.getElem_cons_succ, List.setIfInBounds_toArray, List.set_cons_zero, List.set_cons_succ]
        refine wpAnyE_take' (i := 9) (v := ?_) rfl (by kernel_rfl) (by kernel_rfl) (by kernel_rfl) (by kernel_rfl) (by kernel_rfl) (fun _ _ _ h => h) (Or.inl ⟨by rfl, ?_⟩) (by assumption) ?_
        rotate_left
        · (intro w hSw; (try dsimp only at hSw); go_simp); all_goals with_reducible rfl
        try simp only [Act.put, List.getElem_toArray, List.getElem_cons_zero, List.getElem_cons_succ, List.setIfInBounds_toArray, List.set_cons_zero, List.set_cons_succ]
        refine wpAnyE_take' (i := 10) (v := ?_) rfl (by kernel_rfl) (by kernel_rfl) (by kernel_rfl) (by kernel_rfl) (by kernel_rfl) (fun _ _ _ h => h) (Or.inl ⟨by rfl, ?_⟩) (by assumption) ?_
        rotate_left
        · (intro w hSw; (try dsimp only at hSw); go_simp); all_goals with_reducible rfl
        try simp only [Act.put, List.getElem_toArray, List.getElem_cons_zero, List.getElem_cons_succ, List.setIfInBounds_toArray, List.set_cons_zero, List.set_cons_succ]
        refine wpAnyE_take' (i := 11) (v := ?_) rfl (by kernel_rfl) (by kernel_rfl) (by kernel_rfl) (by kernel_rfl) (by kernel_rfl) (fun _ _ _ h => h) (Or.inl ⟨by rfl, ?_⟩) (by assumption) ?_
        rotate_left
        · (intro w hSw; (try dsimp only at hSw); go_simp); all_goals with_reducible rfl
        try simp only [Act.put, List.getElem_toArray, List.getElem_cons_zero, List.getElem_cons_succ, List.setIfInBounds_toArray, List.set_cons_zero, List.set_cons_succ]
        refine wpAnyE_take' (i := 12) (v := ?_) rfl (by kernel_rfl) (by kernel_rfl) (by kernel_rfl) (by kernel_rfl) (by kernel_rfl) (fun _ _ _ h => h) (Or.inl ⟨by rfl, ?_⟩) (by assumption) ?_
        rotate_left
        · (intro w hSw; (try dsimp only at hSw); go_simp); all_goals with_reducible rfl
        try simp only [Act.put, List.getElem_toArray, List.getElem_cons_zero, List.getElem_cons_succ, List.setIfInBounds_toArray, List.set_cons_zero, List.set_cons_succ]
        refine wpAnyE_take' (i := 13) (v := ?_) rfl (by kernel_rfl) (by kernel_rfl) (by kernel_rfl) (by kernel_rfl) (by kernel_rfl) (fun _ _ _ h => h) (Or.inl ⟨by rfl, ?_⟩) (by assumption) ?_
        rotate_left
        · (intro w hSw; (try dsimp only at hSw); go_simp); all_goals with_reducible rfl
        try simp only [Act.put, List.getElem_toArray, List.getElem_cons_zero, List.getElem_cons_succ, List.setIfInBounds_toArray, List.set_cons_zero, List.set_cons_succ]
        refine wpAnyE_take' (i := 15) (v := ?_) rfl (by kernel_rfl) (by kernel_rfl) (by kernel_rfl) (by kernel_rfl) (by kernel_rfl) (fun _ _ _ h => h) (Or.inl ⟨by rfl, ?_⟩) (by assumption) ?_
        rotate_left
        · (intro w hSw; (try dsimp only at hSw); go_simp); all_goals with_reducible rfl
        try simp only [Act.put, List.getElem_toArray, List.getElem_cons_zero, List.getElem_cons_succ, List.setIfInBounds_toArray, List.set_cons_zero, List.set_cons_succ]
        refine wpAnyE_take' (i := 16) (v := ?_) rfl (by kernel_rfl) (by kernel_rfl) (by kernel_rfl) (by kernel_rfl) (by kernel_rfl) (fun _ _ _ h => h) (Or.inl ⟨by rfl, ?_⟩) (by assumption) ?_
        rotate_left
        · (intro w hSw; (try dsimp only at hSw); go_simp); all_goals with_reducible rfl
        try simp only [Act.put, List.getElem_toArray, List.getElem_cons_zero, List.getElem_cons_succ, List.setIfInBounds_toArray, List.set_cons_zero, List.set_cons_succ]
        refine wpAnyE_take' (i := 17) (v := ?_) rfl (by kernel_rfl) (by kernel_rfl) (by kernel_rfl) (by kernel_rfl) (by kernel_rfl) (fun _ _ _ h => h) (Or.inl ⟨by rfl, ?_⟩) (by assumption) ?_
        rotate_left
        · (intro w hSw; (try dsimp only at hSw); go_simp); all_goals with_reducible rfl
        try simp only [Act.put, List.getElem_toArray, List.getElem_cons_zero, List.getElem_cons_succ, List.setIfInBounds_toArray, List.set_cons_zero, List.set_cons_succ]
        refine wpAnyE_take' (i := 18) (v := ?_) rfl (by kernel_rfl) (by kernel_rfl) (by kernel_rfl) (by kernel_rfl) (by kernel_rfl) (fun _ _ _ h => h) (Or.inl ⟨by rfl, ?_⟩) (by assumption) ?_
        rotate_left
        · (intro w hSw; (try dsimp only at hSw); go_simp); all_goals with_reducible rfl
        try simp only [Act.put, List.getElem_toArray, List.getElem_cons_zero, List.getElem_cons_succ, List.setIfInBounds_toArray, List.set_cons_zero, List.set_cons_succ]
        refine wpAnyE_take' (i := 19) (v := ?_) rfl (by kernel_rfl) (by kernel_rfl) (by kernel_rfl) (by kernel_rfl) (by kernel_rfl) (fun _ _ _ h => h) (Or.inl ⟨by rfl, ?_⟩) (by assumption) ?_
        rotate_left
        · (intro w hSw; (try dsimp only at hSw); go_simp); all_goals with_reducible rfl
        try simp only [Act.put, List.getElem_toArray, List.getElem_cons_zero, List.getElem_cons_succ, List.setIfInBounds_toArray, List.set_cons_zero, List.set_cons_succ]
        refine wpAnyE_step (i := 14) (by kernel_rfl) rfl rfl (fun K14 hK14 => ?_)
        go_simp
        refine (HBIT.out).mono ?_
        rintro e w2 ⟨rfl, rfl⟩
        refine hK14.out _ _ (fun _ => hxc) ?_
        try simp only [Act.put, List.getElem_toArray, List.getElem_cons_zero, List.getElem_cons_succ, List.setIfInBounds_toArray, List.set_cons_zero, List.set_cons_succ]
        refine wpAnyE_take' (i := 20) (v := ?_) rfl (by kernel_rfl) (by kernel_rfl) (by kernel_rfl) (by kernel_rfl) (by kernel_rfl) (fun _ _ _ h => h) (Or.inl ⟨by rfl, ?_⟩) (by assumption) ?_
        rotate_left
        · (intro w hSw; (try dsimp only at hSw); go_simp); all_goals with_reducible rfl
        try simp only [Act.put, List.getElem_toArray, List.getElem_cons_zero, List.getElem_cons_succ, List.setIfInBounds_toArray, List.set_cons_zero, List.set_cons_succ]
        refine wpAnyE_take' (i := 21) (v := ?_) rfl (by kernel_rfl) (by kernel_rfl) (by kernel_rfl) (by kernel_rfl) (by kernel_rfl) (fun _ _ _ h => h) (Or.inl ⟨by rfl, ?_⟩) (by assumption) ?_
        rotate_left
        · (intro w hSw; (try dsimp only at hSw); go_simp); all_goals with_reducible rfl
        try simp only [Act.put, List.getElem_toArray, List.getElem_cons_zero, List.getElem_cons_succ, List.setIfInBounds_toArray, List.set_cons_zero, List.set_cons_succ]
        refine wpAnyE_take' (i := 22) (v := ?_) rfl (by kernel_rfl) (by kernel_rfl) (by kernel_rfl) (by kernel_rfl) (by kernel_rfl) (fun _ _ _ h => h) (Or.inl ⟨by rfl, ?_⟩) (by assumption) ?_
        rotate_left
        · (intro w hSw; (try dsimp only at hSw); go_simp); all_goals with_reducible rfl
        try simp only [Act.put, List.getElem_toArray, List.getElem_cons_zero, List.getElem_cons_succ, List.setIfInBounds_toArray, List.set_cons_zero, List.set_cons_succ]
        refine wpAnyE_step (i := 23) (by kernel_rfl) rfl rfl (fun K23 hK23 => ?_)
        go_simp
        refine hK23.out _ _ (fun h => absurd rfl h) ?_
        refine wpAnyE_end (by kernel_rfl) (NoPanic.normal ?_) _
        clear hs1 hs3 hs4 hs5 hs6 hs7 hs8 hs9
        go_wp2_with fail
        go_roundw
        case rel =>
          exact ⟨i + 1, o.set q u, by omega, by go_num, Lib.hid HZ.out, Lib.hid (own_below (OwnD.set HO.out q u) (below_drewN (Below.refl _ _) 1)), Lib.hid (below_drewN (hbw.out.setCell (Nat.le_refl _) _) 1)⟩
        case measure => simp [intOf]; omega
    · have hie : i = 8 * m := by omega
      have HW := Lib.hid (words_any (OwnD.digR hown.out (by omega)) ho.out.1)
      have HV : RowKit.Hid (val8 o = V) := Lib.hid (by rw [ho.out.2, hie, ← HL.out]; exact HF.out.all)
      clear hie
      go_wp2_with fail
      refine (HW.out).mono ?_
      rintro e w2 ⟨hb2, A2, n2, c2, rfl, hn2⟩
      have HN2 := Lib.hid hn2
      have hbw2 := HUP.out _ hbw.out
      have HB2 := Lib.hid (hbw2.trans (hb2.mono hbw2.size))
      clear hb2 hn2
      go_wp2_with fail
      go_ret2
      rw [HV.out] at HN2
      exact ⟨HB2.out, _, _, _, rfl, HN2.out⟩

end Go.Proofs.YtgiepikoffaaiaaDoor
