/- Parse: the number of digits. -/
import Derived.Test.YtgiepikoffaaiaaDoorDecimal
import Derived.Test.YtgiepikoffaaiaaDoorDiv1
import Derived.Test.YtgiepikoffaaiaaDoorNum
import Derived.Deep.LoopGhost
namespace Go.Proofs.YtgiepikoffaaiaaDoor
open Go.RowKit

def isDig (c : UInt8) : Bool := decide (48 ≤ c.toNat) && decide (c.toNat ≤ 57)
/-- May these bytes stand for a number? -/
def numB (l : List UInt8) : Bool := !l.isEmpty && !(l.getD 0 0 == 48 && decide (1 < l.length)) && l.all isDig
/-- The number that digits stand for. -/
def dnum (l : List UInt8) : Nat := l.foldl (fun v c => 10 * v + (c.toNat - 48)) 0
theorem dnum_snoc (l : List UInt8) (c : UInt8) : dnum (l ++ [c]) = 10 * dnum l + (c.toNat - 48) := by simp [dnum]
theorem foldl_dnum (m : List UInt8) : ∀ v, m.foldl (fun v c => 10 * v + (c.toNat - 48)) v = v * 10 ^ m.length + dnum m := by
  induction m with
  | nil => intro v; simp [dnum]
  | cons c m ih =>
    intro v
    rw [List.foldl_cons, ih]
    have h2 : dnum (c :: m) = (10 * 0 + (c.toNat - 48)) * 10 ^ m.length + dnum m := by
      unfold dnum; rw [List.foldl_cons, ih]; rfl
    rw [h2, List.length_cons, Nat.pow_succ]
    grind
theorem dnum_app (l m : List UInt8) : dnum (l ++ m) = dnum l * 10 ^ m.length + dnum m := by
  unfold dnum
  rw [List.foldl_append, foldl_dnum]
  rfl
theorem dnum_cons (c : UInt8) (m : List UInt8) : dnum (c :: m) = (c.toNat - 48) * 10 ^ m.length + dnum m := by
  have := dnum_app [c] m
  rw [List.singleton_append] at this
  rw [this]
  have e : dnum [c] = c.toNat - 48 := by simp [dnum]
  rw [e]
theorem dnum_lt : ∀ {l : List UInt8}, l.all isDig = true → dnum l < 10 ^ l.length
  | [], _ => by simp [dnum]
  | c :: m, h => by
    rw [List.all_cons, Bool.and_eq_true] at h
    have h1 := dnum_lt h.2
    have h2 := h.1
    simp only [isDig, Bool.and_eq_true, decide_eq_true_eq] at h2
    rw [dnum_cons, List.length_cons, Nat.pow_succ]
    have h3 : (c.toNat - 48) * 10 ^ m.length ≤ 9 * 10 ^ m.length := Nat.mul_le_mul_right _ (by omega)
    omega
theorem ten_pw (k : Nat) : 10 ^ k ≤ pw k := by
  unfold pw
  exact Nat.pow_le_pow_left (by decide) k
theorem dnum_words {l : List UInt8} (h : l.all isDig = true) : (wds (dnum l)).length ≤ l.length := wds_len (Nat.lt_of_lt_of_le (dnum_lt h) (ten_pw _))
/-- What Parse answers. -/
def ParsePost (l : List UInt8) (w : World) (e : Ending) (w' : World) : Prop := if numB l = true then Below w.heap.size w w' ∧ ∃ g, e = .returned (.tuple #[.slice (some ⟨g, 0, none⟩) (wds (dnum l)).length (wds (dnum l)).length, .int .i64 0]) ∧ w.heap.size ≤ g ∧ RowB w' g (wds (dnum l)) else Below w.heap.size w w' ∧ e = .returned (.tuple #[.slice none 0 0, .int .i64 3])
theorem parse_bad {l : List UInt8} (h : numB l = false) {w : World} {e : Ending} {w' : World} (hb : Below w.heap.size w w') (he : e = .returned (.tuple #[.slice none 0 0, .int .i64 3])) : ParsePost l w e w' := by
  unfold ParsePost
  rw [h]
  exact ⟨hb, he⟩

theorem str_nil (s : ByteArray) (h : s.data.toList = []) : s = ⟨#[]⟩ := by
  apply ByteArray.ext
  apply Array.toList_inj.1
  simpa using h
theorem toList_ne {s : ByteArray} (h : 0 < s.size) : s.toList.isEmpty = false := by
  rw [List.isEmpty_eq_false_iff]
  intro e
  have h2 : s.data.toList = [] := by rw [← ByteArray.toList_eq]; exact e
  have h4 : s.data.toList.length = 0 := by rw [h2]; rfl
  have h3 : s.data.toList.length = s.size := rfl
  omega

theorem isDig_lo {c : UInt8} (h : c.toNat < 48) : isDig c = false := by
  unfold isDig
  rw [decide_eq_false (by omega)]; rfl
theorem isDig_hi {c : UInt8} (h : 57 < c.toNat) : isDig c = false := by
  unfold isDig
  rw [decide_eq_false (p := c.toNat ≤ 57) (by omega), Bool.and_false]
theorem isDig_ok {c : UInt8} (h : 48 ≤ c.toNat) (h2 : c.toNat ≤ 57) : isDig c = true := by
  unfold isDig
  rw [decide_eq_true h, decide_eq_true h2]; rfl
theorem isDig_bd {c : UInt8} (h : isDig c = true) : 48 ≤ c.toNat ∧ c.toNat ≤ 57 := by
  simp only [isDig, Bool.and_eq_true, decide_eq_true_eq] at h
  exact h
theorem num_nil (w : World) : Num (w.alloc (.cells #[] 34)) w.heap.size 0 (dnum []) 0 := by
  have e : wds (dnum []) = [] := wds_zero
  exact ⟨by rw [e]; exact Blk.new _ _ _, by rw [e]; rfl, Nat.le_refl _⟩
theorem parse_good {l : List UInt8} (h : numB l = true) {w w' : World} {g L : Nat} (hb : Below w.heap.size w w') (hg : w.heap.size ≤ g) (hn : Num w' g L (dnum l) l.length) : ParsePost l w (.returned (.tuple #[.slice (some ⟨g, 0, none⟩) L L, .int .i64 0])) w' := by
  unfold ParsePost
  rw [if_pos h]
  exact ⟨hb, g, by rw [hn.len], hg, hn.row⟩
theorem getD_byte (s : ByteArray) (k : Nat) (hk : k < s.size) : s.data.toList.getD k 0 = s[k] := by
  have h1 : k < s.data.toList.length := hk
  rw [List.getD_eq_getElem?_getD, List.getElem?_eq_getElem h1]
  rfl
theorem bad_digit {l : List UInt8} {k : Nat} (hk : k < l.length) (h : isDig (l.getD k 0) = false) : numB l = false := by
  unfold numB
  have : l.all isDig = false := by
    rw [Bool.eq_false_iff]
    intro ha
    rw [List.all_eq_true] at ha
    have h1 := ha l[k] (List.getElem_mem hk)
    rw [List.getD_eq_getElem?_getD, List.getElem?_eq_getElem hk] at h
    rw [show (some l[k]).getD 0 = l[k] from rfl, h1] at h
    cases h
  rw [this]; simp
theorem all_digits {l : List UInt8} (h : ∀ j, j < l.length → isDig (l.getD j 0) = true) : l.all isDig = true := by
  rw [List.all_eq_true]
  intro x hx
  obtain ⟨j, hj, rfl⟩ := List.getElem_of_mem hx
  have := h j hj
  rwa [List.getD_eq_getElem?_getD, List.getElem?_eq_getElem hj] at this
theorem take_byte (s : ByteArray) (k : Nat) (hk : k < s.size) : s.data.toList.take (k + 1) = s.data.toList.take k ++ [s[k]] := by
  rw [List.take_succ_eq_append_getElem (by simpa using hk)]; rfl
theorem dig_of_all {l : List UInt8} (h : l.all isDig = true) {s : ByteArray} {pre : List UInt8} (hp : pre ++ s.data.toList = l) (k : Nat) (hk : k < s.size) : isDig s[k] = true := by
  rw [List.all_eq_true] at h
  refine h _ ?_
  rw [← hp]
  exact List.mem_append_right _ (List.getElem_mem (h := by simpa using hk))
theorem str_from (r : ByteArray) (m : Nat) (hm : m ≤ r.size) : ∃ r' : ByteArray, (∀ w : World, (Instr.slice 9 (.string r) (some (.int .i64 (m : Int))) none none).run Tryd.prog w = .ok (.string r') w) ∧ r'.data.toList = r.data.toList.drop m ∧ r'.size = r.size - m := by
  refine ⟨r.extract m r.size, fun w => ?_, ?_, ?_⟩
  · rw [run_slice_string_l w 9 r Tryd.underlying9 .i64 (m : Int) (by omega) (by omega)]
    rw [Int.toNat_natCast]
  · simp only [ByteArray.data_extract, Array.toList_extract, List.extract]
    rw [List.take_of_length_le]
    rw [List.length_drop]
    exact Nat.le_refl _
  · simp [ByteArray.size_extract]
theorem num_le {w : World} {g L x k : Nat} (h : Num w g L x k) {j : Nat} (hj : (wds x).length ≤ j) : Num w g L x j := ⟨h.row, h.len, by rw [← h.len]; exact hj⟩
theorem natPost_num {x : Nat} {w : World} {e : Ending} {w' : World} (h : NatPost (wds x) w e w') {k : Nat} (hx : x < pw k) : NumPost x k w e w' := h.num hx

set_option maxHeartbeats 4000000 in
theorem parse_any (s : ByteArray) (w : World) (hsz : s.size ≤ 900) : Calls Tryd.prog 35 #[.string s] w (ParsePost s.data.toList w) := by
  have hll : s.data.toList.length = s.size := rfl
  by_cases h0 : s.size = 0
  · have hnil : s.data.toList = [] := List.eq_nil_of_length_eq_zero (by omega)
    obtain rfl := str_nil s hnil
    go_enter Tryd.func35, Tryd.ntmps35
    go_wp2_with fail
    go_ret2
    exact parse_bad rfl (Below.refl _ _) rfl
  · have hp : 0 < s.size := by omega
    have hE := toList_ne hp
    have hE2 : ¬ (s.toList = []) := fun e => by rw [e] at hE; cases hE
    have hd0 : s.data.toList.getD 0 0 = s[0] := by
      have h1 : 0 < s.data.toList.length := by omega
      rw [List.getD_eq_getElem?_getD, List.getElem?_eq_getElem h1]
      rfl
    by_cases hz : s[0].toNat = 48 ∧ 1 < s.size
    · obtain ⟨hz1, hz2⟩ := hz
      have hbad : numB s.data.toList = false := by
        unfold numB
        rw [hd0, hll, decide_eq_true hz2]
        have : (s[0] == 48) = true := by rw [beq_iff_eq]; apply UInt8.toNat_inj.1; rw [hz1]; rfl
        rw [this]; simp
      have HBAD := Lib.hid hbad
      clear hbad hd0
      go_enter Tryd.func35, Tryd.ntmps35
      go_wp2_with fail
      go_ret2
      exact parse_bad HBAD.out (Below.refl _ _) rfl
    · have HFIRST : RowKit.Hid (s.data.toList.all isDig = true → numB s.data.toList = true) := Lib.hid fun ha => by
        unfold numB
        rw [hd0, hll, ha]
        have e1 : s.data.toList.isEmpty = false := by
          rw [List.isEmpty_eq_false_iff]
          intro e
          rw [e] at hll
          simp at hll
          omega
        rw [e1]
        have e2 : (s[0] == 48 && decide (1 < s.size)) = false := by
          rw [Bool.and_eq_false_iff]
          by_cases hx : s[0].toNat = 48
          · right; exact decide_eq_false fun h => hz ⟨hx, h⟩
          · left
            rw [beq_eq_false_iff_ne]
            intro e
            apply hx
            rw [e]; rfl
        rw [e2]; rfl
      have hz2 : s[0].toNat = 48 → s.size = 1 := fun e => by omega
      have HD0 := Lib.hid hd0
      clear hz hd0
      by_cases hz3 : s[0].toNat = 48
      · have h1 := hz2 hz3
        clear hz2
        go_enter Tryd.func35, Tryd.ntmps35
        go_wp2_with fail
        go_loop [25] (fun i => ∃ k : Nat, k ≤ s.size ∧ i = .int .i64 (k : Int) ∧ RowKit.Hid (∀ j, j < k → isDig (s.data.toList.getD j 0) = true)) (fun i => s.size - (intOf i).toNat)
        case atStart => exact ⟨0, Nat.zero_le _, rfl, Lib.hid fun j hj => absurd hj (by omega)⟩
        case round =>
          obtain ⟨k, hk, rfl, hd⟩ := hrel
          by_cases hlt : k < s.size
          · have hg := getD_byte s k hlt
            by_cases h48 : s[k].toNat < 48
            · have HBAD := Lib.hid (bad_digit (l := s.data.toList) (k := k) hlt (by rw [hg]; exact isDig_lo h48))
              clear hg
              go_wp2_with fail
              go_ret2
              exact parse_bad HBAD.out (below_alloc _ _) rfl
            · by_cases h57 : 57 < s[k].toNat
              · have HBAD := Lib.hid (bad_digit (l := s.data.toList) (k := k) hlt (by rw [hg]; exact isDig_hi h57))
                clear hg
                go_wp2_with fail
                go_ret2
                exact parse_bad HBAD.out (below_alloc _ _) rfl
              · have HG : RowKit.Hid (isDig (s.data.toList.getD k 0) = true) := Lib.hid (by rw [hg]; exact isDig_ok (by omega) (by omega))
                clear hg
                go_wp2_with fail
                go_round
                case rel => exact ⟨k + 1, by omega, by go_num, Lib.hid fun j hj => by
                  by_cases e : j = k
                  · subst e; exact HG.out
                  · exact hd.out j (by omega)⟩
                case measure => simp [intOf]; omega
          · have hall : s.data.toList.all isDig = true := all_digits fun j hj => hd.out j (by omega)
            have HGOOD := Lib.hid (HFIRST.out hall)
            have HALL := Lib.hid hall
            clear hall
            go_wp2_with fail
            go_loopg [0, 4] s.size (fun gk sv ov wr => ∃ (r : ByteArray) (pre : List UInt8) (g L : Nat), sv = .string r ∧ ov = .slice (some ⟨g, 0, none⟩) L L ∧ RowKit.Hid (r.size = gk) ∧ RowKit.Hid (pre ++ r.data.toList = s.data.toList) ∧ RowKit.Hid (Num wr g L (dnum pre) pre.length) ∧ RowKit.Hid (w.heap.size ≤ g) ∧ RowKit.Hid (Below w.heap.size w wr))
            case atStart => exact ⟨s, [], w.heap.size, 0, rfl, rfl, Lib.hid rfl, Lib.hid rfl, Lib.hid (num_nil w), Lib.hid (Nat.le_refl _), Lib.hid (below_alloc _ _)⟩
            case round =>
              obtain ⟨r, pre, g, L, rfl, rfl, hgk, hpre, hnum, hgg, hbw⟩ := hrel
              have hrl : r.data.toList.length = r.size := rfl
              have hlen := congrArg List.length hpre.out
              rw [List.length_append, hrl, hll] at hlen
              by_cases hr0 : r.size = 0
              · have hrn : r.data.toList = [] := List.eq_nil_of_length_eq_zero (by omega)
                have HEND := Lib.hid (show pre = s.data.toList from by have := hpre.out; rwa [hrn, List.append_nil] at this)
                clear hlen hrn
                go_wp2_with fail
                go_ret2
                rw [← HEND.out]
                have h9 := HGOOD.out
                rw [← HEND.out] at h9
                exact parse_good h9 hbw.out hgg.out hnum.out
              · have hrp : 0 < r.size := by omega
                obtain ⟨m, hm⟩ : ∃ m, m = min r.size 9 := ⟨_, rfl⟩
                have hm1 : m ≤ r.size := by omega
                have hm2 : m ≤ 9 := by omega
                have hm3 : 0 < m := by omega
                have hmi : min (r.size : Int) 9 = (m : Int) := by omega
                have hpl : pre.length + r.size ≤ 900 := by omega
                have HM := Lib.hid hm
                obtain ⟨r', hsl, hr1, hr2⟩ := str_from r m hm1
                have HSL := Lib.hid hsl
                have HR1 := Lib.hid hr1
                have HR2 := Lib.hid hr2
                clear hlen hm hr0 hrl hsl hr1 hr2
                go_wp2_with fail
                clear hmi
                go_loop [7, 8, 46] (fun pv tv i => ∃ k P T : Nat, k ≤ m ∧ i = .int .i64 (k : Int) ∧ pv = .int .u64 (P : Int) ∧ tv = .int .u64 (T : Int) ∧ P < 1000000000 ∧ T ≤ 1000000000 ∧ RowKit.Hid (P = dnum (r.data.toList.take k)) ∧ RowKit.Hid (T = 10 ^ k)) (fun _ _ i => m - (intOf i).toNat)
                case atStart => exact ⟨0, 0, 1, Nat.zero_le _, rfl, rfl, rfl, by omega, by omega, Lib.hid rfl, Lib.hid rfl⟩
                case round =>
                  obtain ⟨k, P, T, hk2, rfl, rfl, rfl, hP, hT, hPe, hTe⟩ := hrel
                  by_cases hkm : k < m
                  · have hkr : k < r.size := by omega
                    obtain ⟨hd1, hd2⟩ := isDig_bd (dig_of_all HALL.out hpre.out k hkr)
                    have hP2 : RowKit.Hid (10 * P + (r[k].toNat - 48) = dnum (r.data.toList.take (k + 1))) := Lib.hid (by rw [take_byte r k hkr, dnum_snoc, hPe.out])
                    have hT2 : RowKit.Hid (T * 10 = 10 ^ (k + 1)) := Lib.hid (by rw [Nat.pow_succ, hTe.out])
                    have hal : (r.data.toList.take (k + 1)).all isDig = true := by
                      rw [List.all_eq_true]
                      intro x hx
                      have h1 := HALL.out
                      rw [List.all_eq_true] at h1
                      refine h1 x ?_
                      rw [← hpre.out]
                      exact List.mem_append_right _ (List.mem_of_mem_take hx)
                    have hb1 := dnum_lt hal
                    have hb2 : 10 ^ (r.data.toList.take (k + 1)).length ≤ 10 ^ 9 := Nat.pow_le_pow_right (by decide) (by rw [List.length_take]; omega)
                    have hb3 : 10 ^ (k + 1) ≤ 10 ^ 9 := Nat.pow_le_pow_right (by decide) (by omega)
                    rw [← hP2.out] at hb1
                    rw [← hT2.out] at hb3
                    have hb4 : 10 * P + (r[k].toNat - 48) < 1000000000 := by
                      have e9 : 10 ^ 9 = 1000000000 := by decide
                      rw [e9] at hb2
                      exact Nat.lt_of_lt_of_le hb1 hb2
                    have hb5 : T * 10 ≤ 1000000000 := by
                      have e9 : 10 ^ 9 = 1000000000 := by decide
                      rwa [e9] at hb3
                    clear hb1 hb2 hb3 hal
                    go_wp2_with fail
                    go_round
                    case rel =>
                      refine ⟨k + 1, 10 * P + (r[k].toNat - 48), T * 10, by omega, by go_num, ?_, ?_, hb4, hb5, hP2.out |> Lib.hid, hT2.out |> Lib.hid⟩
                      · congr 1; omega
                      · congr 1
                    case measure => simp [intOf]; omega
                  · have hkm2 : k = m := by omega
                    have HKM := Lib.hid hkm2
                    have HPT : RowKit.Hid (dnum pre * T + P = dnum (pre ++ r.data.toList.take m)) := Lib.hid (by
                      rw [dnum_app, hPe.out, hTe.out, List.length_take, hkm2, Nat.min_eq_left (by simpa using hm1)])
                    have HALL2 : RowKit.Hid ((pre ++ r.data.toList.take m).all isDig = true) := Lib.hid (by
                      rw [List.all_eq_true]
                      intro x hx
                      have h1 := HALL.out
                      rw [List.all_eq_true] at h1
                      refine h1 x ?_
                      rw [← hpre.out]
                      rcases List.mem_append.1 hx with h | h
                      · exact List.mem_append_left _ h
                      · exact List.mem_append_right _ (List.mem_of_mem_take h))
                    clear hkm2
                    have HOF1 := Lib.hid ((of_any T (by omega) wr).mono fun e w' h => natPost_num h (k := 1) (by rw [pw_succ, pw_zero]; omega))
                    go_wp2_with fail
                    refine (HOF1.out).mono ?_
                    rintro e w1 ⟨hb1, g1, L1, rfl, _, hn1⟩
                    have HB1 := Lib.hid hb1
                    have HN1 := Lib.hid hn1
                    have HNM := Lib.hid (hnum.out.below hb1)
                    clear hb1 hn1
                    go_wp2_with fail
                    refine (mul_num (HNM.out.arg (by omega)) (HN1.out.arg (by omega)) (by omega) (by omega) rfl).mono ?_
                    rintro e w2 ⟨hb2, g2, L2, rfl, _, hn2⟩
                    have HB2 := Lib.hid hb2
                    have HN2 := Lib.hid hn2
                    have HOF2 := Lib.hid ((of_any P (by omega) w2).mono fun e w' h => natPost_num h (k := 1) (by rw [pw_succ, pw_zero]; omega))
                    clear hb2 hn2
                    go_wp2_with fail
                    refine (HOF2.out).mono ?_
                    rintro e w3 ⟨hb3, g3, L3, rfl, _, hn3⟩
                    have HB3 := Lib.hid hb3
                    have HN3 := Lib.hid hn3
                    have HN23 := Lib.hid (HN2.out.below hb3)
                    clear hb3 hn3
                    go_wp2_with fail
                    refine (add_num (HN23.out.arg (by omega)) (HN3.out.arg (by omega)) (by omega) (by omega) rfl).mono ?_
                    rintro e w4 ⟨hb4, g4, L4, rfl, hg4, hn4⟩
                    have HB4 := Lib.hid hb4
                    have HN4 := Lib.hid hn4
                    have hsl2 := HSL.out
                    clear hb4 hn4
                    go_wp2_with fail
                    go_roundg r'.size
                    case measure => rw [HR2.out, ← hgk.out]; omega
                    case rel =>
                      have c1 := hbw.out.trans (HB1.out.mono hbw.out.size)
                      have c2 := c1.trans (HB2.out.mono c1.size)
                      have c3 := c2.trans (HB3.out.mono c2.size)
                      have c4 := c3.trans (HB4.out.mono c3.size)
                      have hn5 := HN4.out
                      rw [HPT.out] at hn5
                      exact ⟨r', pre ++ r.data.toList.take m, g4, L4, rfl, rfl, Lib.hid rfl, Lib.hid (by rw [HR1.out, List.append_assoc, List.take_append_drop]; exact hpre.out), Lib.hid (num_le hn5 (dnum_words HALL2.out)), Lib.hid (Nat.le_trans c3.size hg4), Lib.hid c4⟩
      · clear hz2
        have hz4 : (((s[0].toNat : Nat) : Int) == 48) = false := by simp; omega
        go_enter Tryd.func35, Tryd.ntmps35
        go_wp2_with fail
        go_loop [25] (fun i => ∃ k : Nat, k ≤ s.size ∧ i = .int .i64 (k : Int) ∧ RowKit.Hid (∀ j, j < k → isDig (s.data.toList.getD j 0) = true)) (fun i => s.size - (intOf i).toNat)
        case atStart => exact ⟨0, Nat.zero_le _, rfl, Lib.hid fun j hj => absurd hj (by omega)⟩
        case round =>
          obtain ⟨k, hk, rfl, hd⟩ := hrel
          by_cases hlt : k < s.size
          · have hg := getD_byte s k hlt
            by_cases h48 : s[k].toNat < 48
            · have HBAD := Lib.hid (bad_digit (l := s.data.toList) (k := k) hlt (by rw [hg]; exact isDig_lo h48))
              clear hg
              go_wp2_with fail
              go_ret2
              exact parse_bad HBAD.out (below_alloc _ _) rfl
            · by_cases h57 : 57 < s[k].toNat
              · have HBAD := Lib.hid (bad_digit (l := s.data.toList) (k := k) hlt (by rw [hg]; exact isDig_hi h57))
                clear hg
                go_wp2_with fail
                go_ret2
                exact parse_bad HBAD.out (below_alloc _ _) rfl
              · have HG : RowKit.Hid (isDig (s.data.toList.getD k 0) = true) := Lib.hid (by rw [hg]; exact isDig_ok (by omega) (by omega))
                clear hg
                go_wp2_with fail
                go_round
                case rel => exact ⟨k + 1, by omega, by go_num, Lib.hid fun j hj => by
                  by_cases e : j = k
                  · subst e; exact HG.out
                  · exact hd.out j (by omega)⟩
                case measure => simp [intOf]; omega
          · have hall : s.data.toList.all isDig = true := all_digits fun j hj => hd.out j (by omega)
            have HGOOD := Lib.hid (HFIRST.out hall)
            have HALL := Lib.hid hall
            clear hall
            go_wp2_with fail
            go_loopg [0, 4] s.size (fun gk sv ov wr => ∃ (r : ByteArray) (pre : List UInt8) (g L : Nat), sv = .string r ∧ ov = .slice (some ⟨g, 0, none⟩) L L ∧ RowKit.Hid (r.size = gk) ∧ RowKit.Hid (pre ++ r.data.toList = s.data.toList) ∧ RowKit.Hid (Num wr g L (dnum pre) pre.length) ∧ RowKit.Hid (w.heap.size ≤ g) ∧ RowKit.Hid (Below w.heap.size w wr))
            case atStart => exact ⟨s, [], w.heap.size, 0, rfl, rfl, Lib.hid rfl, Lib.hid rfl, Lib.hid (num_nil w), Lib.hid (Nat.le_refl _), Lib.hid (below_alloc _ _)⟩
            case round =>
              obtain ⟨r, pre, g, L, rfl, rfl, hgk, hpre, hnum, hgg, hbw⟩ := hrel
              have hrl : r.data.toList.length = r.size := rfl
              have hlen := congrArg List.length hpre.out
              rw [List.length_append, hrl, hll] at hlen
              by_cases hr0 : r.size = 0
              · have hrn : r.data.toList = [] := List.eq_nil_of_length_eq_zero (by omega)
                have HEND := Lib.hid (show pre = s.data.toList from by have := hpre.out; rwa [hrn, List.append_nil] at this)
                clear hlen hrn
                go_wp2_with fail
                go_ret2
                rw [← HEND.out]
                have h9 := HGOOD.out
                rw [← HEND.out] at h9
                exact parse_good h9 hbw.out hgg.out hnum.out
              · have hrp : 0 < r.size := by omega
                obtain ⟨m, hm⟩ : ∃ m, m = min r.size 9 := ⟨_, rfl⟩
                have hm1 : m ≤ r.size := by omega
                have hm2 : m ≤ 9 := by omega
                have hm3 : 0 < m := by omega
                have hmi : min (r.size : Int) 9 = (m : Int) := by omega
                have hpl : pre.length + r.size ≤ 900 := by omega
                have HM := Lib.hid hm
                obtain ⟨r', hsl, hr1, hr2⟩ := str_from r m hm1
                have HSL := Lib.hid hsl
                have HR1 := Lib.hid hr1
                have HR2 := Lib.hid hr2
                clear hlen hm hr0 hrl hsl hr1 hr2
                go_wp2_with fail
                clear hmi
                go_loop [7, 8, 46] (fun pv tv i => ∃ k P T : Nat, k ≤ m ∧ i = .int .i64 (k : Int) ∧ pv = .int .u64 (P : Int) ∧ tv = .int .u64 (T : Int) ∧ P < 1000000000 ∧ T ≤ 1000000000 ∧ RowKit.Hid (P = dnum (r.data.toList.take k)) ∧ RowKit.Hid (T = 10 ^ k)) (fun _ _ i => m - (intOf i).toNat)
                case atStart => exact ⟨0, 0, 1, Nat.zero_le _, rfl, rfl, rfl, by omega, by omega, Lib.hid rfl, Lib.hid rfl⟩
                case round =>
                  obtain ⟨k, P, T, hk2, rfl, rfl, rfl, hP, hT, hPe, hTe⟩ := hrel
                  by_cases hkm : k < m
                  · have hkr : k < r.size := by omega
                    obtain ⟨hd1, hd2⟩ := isDig_bd (dig_of_all HALL.out hpre.out k hkr)
                    have hP2 : RowKit.Hid (10 * P + (r[k].toNat - 48) = dnum (r.data.toList.take (k + 1))) := Lib.hid (by rw [take_byte r k hkr, dnum_snoc, hPe.out])
                    have hT2 : RowKit.Hid (T * 10 = 10 ^ (k + 1)) := Lib.hid (by rw [Nat.pow_succ, hTe.out])
                    have hal : (r.data.toList.take (k + 1)).all isDig = true := by
                      rw [List.all_eq_true]
                      intro x hx
                      have h1 := HALL.out
                      rw [List.all_eq_true] at h1
                      refine h1 x ?_
                      rw [← hpre.out]
                      exact List.mem_append_right _ (List.mem_of_mem_take hx)
                    have hb1 := dnum_lt hal
                    have hb2 : 10 ^ (r.data.toList.take (k + 1)).length ≤ 10 ^ 9 := Nat.pow_le_pow_right (by decide) (by rw [List.length_take]; omega)
                    have hb3 : 10 ^ (k + 1) ≤ 10 ^ 9 := Nat.pow_le_pow_right (by decide) (by omega)
                    rw [← hP2.out] at hb1
                    rw [← hT2.out] at hb3
                    have hb4 : 10 * P + (r[k].toNat - 48) < 1000000000 := by
                      have e9 : 10 ^ 9 = 1000000000 := by decide
                      rw [e9] at hb2
                      exact Nat.lt_of_lt_of_le hb1 hb2
                    have hb5 : T * 10 ≤ 1000000000 := by
                      have e9 : 10 ^ 9 = 1000000000 := by decide
                      rwa [e9] at hb3
                    clear hb1 hb2 hb3 hal
                    go_wp2_with fail
                    go_round
                    case rel =>
                      refine ⟨k + 1, 10 * P + (r[k].toNat - 48), T * 10, by omega, by go_num, ?_, ?_, hb4, hb5, hP2.out |> Lib.hid, hT2.out |> Lib.hid⟩
                      · congr 1; omega
                      · congr 1
                    case measure => simp [intOf]; omega
                  · have hkm2 : k = m := by omega
                    have HKM := Lib.hid hkm2
                    have HPT : RowKit.Hid (dnum pre * T + P = dnum (pre ++ r.data.toList.take m)) := Lib.hid (by
                      rw [dnum_app, hPe.out, hTe.out, List.length_take, hkm2, Nat.min_eq_left (by simpa using hm1)])
                    have HALL2 : RowKit.Hid ((pre ++ r.data.toList.take m).all isDig = true) := Lib.hid (by
                      rw [List.all_eq_true]
                      intro x hx
                      have h1 := HALL.out
                      rw [List.all_eq_true] at h1
                      refine h1 x ?_
                      rw [← hpre.out]
                      rcases List.mem_append.1 hx with h | h
                      · exact List.mem_append_left _ h
                      · exact List.mem_append_right _ (List.mem_of_mem_take h))
                    clear hkm2
                    have HOF1 := Lib.hid ((of_any T (by omega) wr).mono fun e w' h => natPost_num h (k := 1) (by rw [pw_succ, pw_zero]; omega))
                    go_wp2_with fail
                    refine (HOF1.out).mono ?_
                    rintro e w1 ⟨hb1, g1, L1, rfl, _, hn1⟩
                    have HB1 := Lib.hid hb1
                    have HN1 := Lib.hid hn1
                    have HNM := Lib.hid (hnum.out.below hb1)
                    clear hb1 hn1
                    go_wp2_with fail
                    refine (mul_num (HNM.out.arg (by omega)) (HN1.out.arg (by omega)) (by omega) (by omega) rfl).mono ?_
                    rintro e w2 ⟨hb2, g2, L2, rfl, _, hn2⟩
                    have HB2 := Lib.hid hb2
                    have HN2 := Lib.hid hn2
                    have HOF2 := Lib.hid ((of_any P (by omega) w2).mono fun e w' h => natPost_num h (k := 1) (by rw [pw_succ, pw_zero]; omega))
                    clear hb2 hn2
                    go_wp2_with fail
                    refine (HOF2.out).mono ?_
                    rintro e w3 ⟨hb3, g3, L3, rfl, _, hn3⟩
                    have HB3 := Lib.hid hb3
                    have HN3 := Lib.hid hn3
                    have HN23 := Lib.hid (HN2.out.below hb3)
                    clear hb3 hn3
                    go_wp2_with fail
                    refine (add_num (HN23.out.arg (by omega)) (HN3.out.arg (by omega)) (by omega) (by omega) rfl).mono ?_
                    rintro e w4 ⟨hb4, g4, L4, rfl, hg4, hn4⟩
                    have HB4 := Lib.hid hb4
                    have HN4 := Lib.hid hn4
                    have hsl2 := HSL.out
                    clear hb4 hn4
                    go_wp2_with fail
                    go_roundg r'.size
                    case measure => rw [HR2.out, ← hgk.out]; omega
                    case rel =>
                      have c1 := hbw.out.trans (HB1.out.mono hbw.out.size)
                      have c2 := c1.trans (HB2.out.mono c1.size)
                      have c3 := c2.trans (HB3.out.mono c2.size)
                      have c4 := c3.trans (HB4.out.mono c3.size)
                      have hn5 := HN4.out
                      rw [HPT.out] at hn5
                      exact ⟨r', pre ++ r.data.toList.take m, g4, L4, rfl, rfl, Lib.hid rfl, Lib.hid (by rw [HR1.out, List.append_assoc, List.take_append_drop]; exact hpre.out), Lib.hid (num_le hn5 (dnum_words HALL2.out)), Lib.hid (Nat.le_trans c3.size hg4), Lib.hid c4⟩

end Go.Proofs.YtgiepikoffaaiaaDoor
