/- Digits and numbers, there and back; the contracts of Decimal, Parse, Shift, Bits, Small, Of told of numbers alone. -/
import Derived.Test.YtgiepikoffaaiaaDoorParse
import Derived.Test.YtgiepikoffaaiaaDoorBitsP
namespace Go.Proofs.YtgiepikoffaaiaaDoor
open Go.RowKit

theorem dec_all : ∀ (n v : Nat), v < n → (Lib.decDigits v).all isDig = true ∧ dnum (Lib.decDigits v) = v
  | 0, _, h => absurd h (by omega)
  | n + 1, v, h => by
    have one : ∀ d, d < 10 → isDig (UInt8.ofNat (48 + d)) = true ∧ (UInt8.ofNat (48 + d)).toNat = 48 + d := fun d hd => by
      have e : (UInt8.ofNat (48 + d)).toNat = 48 + d := by rw [UInt8.toNat_ofNat']; omega
      exact ⟨isDig_ok (by omega) (by omega), e⟩
    by_cases hv : v < 10
    · have e : Lib.decDigits v = [UInt8.ofNat (48 + v)] := by unfold Lib.decDigits; rw [dif_pos hv]
      obtain ⟨h1, h2⟩ := one v hv
      rw [e]
      refine ⟨by rw [List.all_cons, h1]; rfl, ?_⟩
      simp only [dnum, List.foldl_cons, List.foldl_nil, h2]
      omega
    · obtain ⟨h1, h2⟩ := one (v % 10) (by omega)
      obtain ⟨h3, h4⟩ := dec_all n (v / 10) (by omega)
      rw [dec_big (by omega)]
      refine ⟨by rw [List.all_append, h3, List.all_cons, h1]; rfl, ?_⟩
      rw [dnum_snoc, h4, h2]
      omega
theorem dec_head : ∀ (n v : Nat), v < n → v ≠ 0 → (Lib.decDigits v).getD 0 0 ≠ 48
  | 0, _, h, _ => absurd h (by omega)
  | n + 1, v, h, h0 => by
    by_cases hv : v < 10
    · have e : Lib.decDigits v = [UInt8.ofNat (48 + v)] := by unfold Lib.decDigits; rw [dif_pos hv]
      rw [e]
      intro hh
      have h2 : (UInt8.ofNat (48 + v)).toNat = (48 : UInt8).toNat := by rw [show UInt8.ofNat (48 + v) = 48 from hh]
      rw [UInt8.toNat_ofNat'] at h2
      have h3 : (48 : UInt8).toNat = 48 := rfl
      omega
    · rw [dec_big (by omega)]
      have hne := dec_ne (v / 10)
      have hl := List.length_pos_iff.2 hne
      rw [List.getD_eq_getElem?_getD, List.getElem?_append_left hl, ← List.getD_eq_getElem?_getD]
      exact dec_head n (v / 10) (by omega) (by omega)
theorem dec_numB (v : Nat) : numB (Lib.decDigits v) = true := by
  have h1 := (dec_all (v + 1) v (by omega)).1
  have h2 := dec_ne v
  unfold numB
  rw [h1, List.isEmpty_eq_false_iff.2 h2]
  by_cases h0 : v = 0
  · subst h0
    have e : Lib.decDigits 0 = [UInt8.ofNat (48 + 0)] := by unfold Lib.decDigits; rw [dif_pos (by omega)]
    rw [e]
    simp
  · have h3 := dec_head (v + 1) v (by omega) h0
    have : ((Lib.decDigits v).getD 0 0 == 48) = false := beq_eq_false_iff_ne.2 h3
    rw [this]; rfl
theorem dnum_dec (v : Nat) : dnum (Lib.decDigits v) = v := (dec_all (v + 1) v (by omega)).2
theorem dnum_pos {c : UInt8} {m : List UInt8} (h : isDig c = true) (hc : c ≠ 48) : 10 ^ m.length ≤ dnum (c :: m) := by
  rw [dnum_cons]
  have h1 := isDig_bd h
  have h2 : c.toNat ≠ 48 := fun e => hc (UInt8.toNat_inj.1 (by rw [e]; rfl))
  have := Nat.mul_le_mul_right (10 ^ m.length) (show 1 ≤ c.toNat - 48 by omega)
  omega
/-- Digits of a number, told by the number. -/
theorem dec_of : ∀ (n : Nat) (l : List UInt8), l.length = n → l.all isDig = true → l ≠ [] → (l.getD 0 0 ≠ 48 ∨ l.length = 1) → Lib.decDigits (dnum l) = l
  | 0, l, hn, _, hl, _ => absurd (List.eq_nil_of_length_eq_zero hn) hl
  | n + 1, l, hn, ha, hl, hh => by
    obtain ⟨m, c, rfl⟩ : ∃ m c, l = m ++ [c] := ⟨l.dropLast, l.getLast hl, (List.dropLast_concat_getLast hl).symm⟩
    rw [List.all_append, Bool.and_eq_true] at ha
    have hc : isDig c = true := by simpa using ha.2
    obtain ⟨c1, c2⟩ := isDig_bd hc
    have hof : ∀ d, c.toNat = 48 + d → UInt8.ofNat (48 + d) = c := fun d hd => UInt8.toNat_inj.1 (by rw [UInt8.toNat_ofNat', ← hd]; omega)
    rw [dnum_snoc]
    cases m with
    | nil =>
      have e0 : dnum [] = 0 := rfl
      rw [e0]
      unfold Lib.decDigits
      rw [dif_pos (by omega), hof _ (by omega)]
      rfl
    | cons b m =>
      have hb : isDig b = true := by
        have := ha.1
        rw [List.all_cons, Bool.and_eq_true] at this
        exact this.1
      have hb0 : b ≠ 48 := by
        rcases hh with h1 | h1
        · simpa using h1
        · simp at h1
      have hpos := dnum_pos (m := m) hb hb0
      have h10 : 0 < 10 ^ m.length := Nat.pow_pos (by decide)
      have ih := dec_of n (b :: m) (by simpa using hn) ha.1 (by simp) (.inl (by simpa using hb0))
      rw [dec_big (by omega), show (10 * dnum (b :: m) + (c.toNat - 48)) / 10 = dnum (b :: m) from by omega, ih, hof _ (by omega)]
theorem dec_of_num {l : List UInt8} (h : numB l = true) : Lib.decDigits (dnum l) = l := by
  unfold numB at h
  rw [Bool.and_eq_true, Bool.and_eq_true] at h
  obtain ⟨⟨h1, h2⟩, h3⟩ := h
  have hne : l ≠ [] := by
    intro e
    rw [e] at h1
    cases h1
  refine dec_of _ l rfl h3 hne ?_
  rw [Bool.not_eq_true', Bool.and_eq_false_iff] at h2
  rcases h2 with h2 | h2
  · left; exact beq_eq_false_iff_ne.1 h2
  · right
    have := of_decide_eq_false h2
    have := List.length_pos_iff.2 hne
    omega

theorem bln_pw {a k : Nat} (h : a < pw k) : bln a ≤ 32 * k := by
  rw [bln_le, ← pw_two]
  exact h
theorem pow_le_pw {s k : Nat} (h : s ≤ 32 * k) : 2 ^ s ≤ pw k := by
  rw [pw_two]
  exact Nat.pow_le_pow_right (by decide) h
section
variable {A : Option Addr} {n c x i : Nat} {w : World}
theorem decimal_num (hx : Arg w A n c x i) (hi : i ≤ 1000) (ht : Tab w) : Calls Tryd.prog 37 #[.slice A n c] w fun e w' => e = .returned (.string ⟨(Lib.decDigits x).toArray⟩) ∧ Below w.heap.size w w' := by
  obtain ⟨a, ha, rfl, hna⟩ := hx
  exact decimal_any ha (by omega) ht
theorem dec_size (hx : Arg w A n c x i) (hi : i ≤ 85) : (Lib.decDigits x).length ≤ 900 := by
  obtain ⟨a, ha, rfl, hna⟩ := hx
  have := dec_len ha.ok
  rw [ha.len] at this
  omega
def NumOkPost (x k : Nat) (w : World) (e : Ending) (w' : World) : Prop := Below w.heap.size w w' ∧ ∃ g L, e = .returned (.tuple #[.slice (some ⟨g, 0, none⟩) L L, .int .i64 0]) ∧ w.heap.size ≤ g ∧ Num w' g L x k
theorem parse_num (s : ByteArray) (w : World) (hsz : s.size ≤ 900) (h : numB s.data.toList = true) : Calls Tryd.prog 35 #[.string s] w (NumOkPost (dnum s.data.toList) 900 w) := by
  refine (parse_any s w hsz).mono fun e w' hp => ?_
  unfold ParsePost at hp
  rw [if_pos h] at hp
  obtain ⟨hb, g, he, hg, hr⟩ := hp
  refine ⟨hb, g, _, he, hg, ⟨hr, rfl, ?_⟩⟩
  unfold numB at h
  rw [Bool.and_eq_true] at h
  have h1 := dnum_words h.2
  have h2 : s.data.toList.length = s.size := rfl
  omega
theorem parse_err (s : ByteArray) (w : World) (hsz : s.size ≤ 900) (h : numB s.data.toList = false) : Calls Tryd.prog 35 #[.string s] w fun e w' => e = .returned (.tuple #[.slice none 0 0, .int .i64 3]) ∧ Below w.heap.size w w' := by
  refine (parse_any s w hsz).mono fun e w' hp => ?_
  unfold ParsePost at hp
  rw [h] at hp
  exact ⟨hp.2, hp.1⟩
theorem NatOkPost.num {y k : Nat} {e : Ending} {w' : World} (h : NatOkPost (wds y) w e w') (hy : y < pw k) : NumOkPost y k w e w' := by
  obtain ⟨hb, g, he, hg, hr⟩ := h
  exact ⟨hb, g, _, he, hg, ⟨hr, rfl, wds_len hy⟩⟩
theorem shift_up_num (hx : Arg w A n c x i) (hi : i ≤ 1000) (s : Nat) (hs : s ≤ 4000) {k : Nat} (hk : k = i + 126) : Calls Tryd.prog 27 #[.slice A n c, .int .i64 (s : Int)] w (NumOkPost (x * 2 ^ s) k w) := by
  subst hk
  have hl := hx.lt
  obtain ⟨a, ha, rfl, hna⟩ := hx
  refine (shift_up_any ha (by omega) s (by omega)).mono fun e w' h => h.num ?_
  rw [pw_add]
  exact Nat.mul_lt_mul_of_lt_of_le hl (pow_le_pw (by omega)) (pw_pos _)
theorem shift_down_num (hx : Arg w A n c x i) (hi : i ≤ 1000) (s : Nat) (hs : s ≤ 4000) : Calls Tryd.prog 27 #[.slice A n c, .int .i64 (-(s : Int))] w (NumOkPost (x / 2 ^ s) i w) := by
  have hl := hx.lt
  have hd : x / 2 ^ s < pw i := Nat.lt_of_le_of_lt (Nat.div_le_self _ _) hl
  obtain ⟨a, ha, rfl, hna⟩ := hx
  by_cases h0 : s = 0
  · subst h0
    have := shift_up_any ha (by omega) 0 (by omega)
    rw [Nat.pow_zero, Nat.mul_one] at this
    rw [Nat.pow_zero, Nat.div_one] at hd ⊢
    exact this.mono fun e w' h => h.num hd
  · exact (shift_down_any ha (by omega) s (by omega) (by omega)).mono fun e w' h => h.num hd
theorem bits_num (hx : Arg w A n c x i) (hi : i ≤ 1000) {b : Nat} (hb : bln x = b) : Calls Tryd.prog 31 #[.slice A n c] w fun e w' => e = .returned (.int .i64 ((b : Nat) : Int)) ∧ w = w' := by
  subst hb
  obtain ⟨a, ha, rfl, hna⟩ := hx
  exact bits_any ha (by omega)
theorem small_num (hx : Arg w A n c x i) (hi : i ≤ 1000) {q : Int × Bool} (hq : smallV x = q) : Calls Tryd.prog 29 #[.slice A n c] w fun e w' => e = .returned (.tuple #[.int .u64 q.1, .bool q.2]) ∧ w = w' := by
  subst hq
  obtain ⟨a, ha, rfl, hna⟩ := hx
  exact small_any ha (by omega)
theorem of_num (x : Nat) (hx : x < 18446744073709551616) (w : World) : Calls Tryd.prog 33 #[.int .u64 (x : Int)] w (NumPost x 2 w) :=
  (of_any x hx w).mono fun e w' h => h.num (by
    have : pw 2 = 18446744073709551616 := by decide
    rw [this]; exact hx)
end

end Go.Proofs.YtgiepikoffaaiaaDoor
