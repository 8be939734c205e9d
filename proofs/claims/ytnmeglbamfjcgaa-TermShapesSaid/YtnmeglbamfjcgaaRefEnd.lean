/- End of the reference, at every row and place. -/
import Derived.Test.YtnmeglbamfjcgaaRefTop
import Derived.Test.YtnmeglbamfjcgaaCut
namespace Go.Proofs.Ytnmeglbamfjcgaa
open Go.RowKit

/-- Read from a place on, told by the end. -/
theorem read_end {l : List Nd} {p : Nat} {w w' : World} {e : Ending} (h : ReadPost (l.drop p) w e w') (hp : p ≤ l.length) : Below w.heap.size w w' ∧
    ((e = .returned (.tuple #[treeNil, .int .i64 0, .bool false]) ∧ optI (ends [false] l p) = -1) ∨
      ∃ xs n ats k m, e = .returned (.tuple #[.agg xs.toArray, .int .i64 (m : Nat), .bool true]) ∧ TreeC (fresh w w') w' xs n ats k ∧ m ≤ l.length ∧ optI (ends [false] l p) = ((p + m : Nat) : Int)) := by
  obtain ⟨hb, h⟩ := h
  refine ⟨hb, ?_⟩
  unfold ends
  cases hpp : pp [false] (l.drop p) with
  | none =>
    rw [hpp] at h
    exact .inl ⟨h, rfl⟩
  | some q =>
    obtain ⟨F, r⟩ := q
    have hw := wf_of_pp hpp
    cases F with
    | nil => exact hw.elim
    | cons pr n ats k x =>
      rw [hpp] at h
      obtain ⟨xs, he, ht⟩ := h
      obtain ⟨_, h2, h3⟩ := pp_drop hpp hp
      refine .inr ⟨xs, n, ats, k, _, he, ht, ?_, ?_⟩
      · rw [List.length_drop]; omega
      · simp only [Option.map_some, optI]
        rw [List.length_drop]
        congr 1
        simp only at h2 h3
        omega

set_option maxRecDepth 100000 in
set_option maxHeartbeats 2000000 in
theorem refEnd_any {A : Option Addr} {nn c : Nat} {l : List Nd} {w : World} (h : TermV w A nn c l) (a : Int) :
    Calls Try.prog 27 #[.slice A nn c, .int .i64 a] w (IntPost (endI l a) w) := by
  have hfew := h.few
  have hlen := h.len
  by_cases h1 : a < 0
  · have h1b : decide (a < 0) = true := by simpa using h1
    have hs : endI l a = -1 := if_neg (by omega)
    clear h1 h hlen
    go_enter Try.func27, Try.ntmps27
    go_wp2_with fail
    go_ret
    exact ⟨ret_tup_bool hs.symm, Below.refl _ _⟩
  have h1b : decide (a < 0) = false := by simpa using h1
  by_cases h2 : (nn : Int) ≤ a
  · have h2b : decide ((nn : Int) ≤ a) = true := by simpa using h2
    have hs : endI l a = -1 := if_neg (by omega)
    clear h1 h2 h hlen
    go_enter Try.func27, Try.ntmps27
    go_wp2_with fail
    go_ret
    exact ⟨ret_tup_bool hs.symm, Below.refl _ _⟩
  have h2b : decide ((nn : Int) ≤ a) = false := by simpa using h2
  obtain ⟨p, rfl⟩ := Int.eq_ofNat_of_zero_le (by omega : 0 ≤ a)
  have h2n : decide (nn ≤ p) = false := by simpa using h2
  have h2m : ¬ nn ≤ p := by omega
  have hp : p ≤ nn := by omega
  have hcap := h.cap
  have hcut := h.cutAt hp
  rw [if_neg (by omega)] at hcut
  have hc3 : (p : Int) ≤ (c : Int) := by omega
  have HCUT := Lib.hid hcut
  have HLEN := Lib.hid hlen
  rw [endI_nat]
  have hpl : p ≤ l.length := by omega
  have HPL := Lib.hid hpl
  clear h1 h2 h hlen hcut hpl
  go_enter Try.func27, Try.ntmps27
  go_wp2_with fail
  refine (read_any HCUT.out).mono ?_
  intro e w2 hr
  obtain ⟨hb, ⟨rfl, hs⟩ | ⟨xs, n, ats, k, m, rfl, ht, hm, hs⟩⟩ := read_end hr HPL.out
  · have HB := Lib.hid hb
    have HS := Lib.hid hs
    clear hs hb hr
    unfold treeNil
    go_wp2_with fail
    go_ret
    exact ⟨ret_tup_bool HS.out.symm, HB.out.alloc HB.out.size _⟩
  · obtain ⟨sk, sa, sf, rfl, ⟨Ak, nk, ck, rfl, hkk⟩, ⟨Aa, na, ca, rfl, haa⟩, ⟨Af, nf, cf, rfl, hff⟩⟩ := ht
    have HB := Lib.hid hb
    have HS := Lib.hid hs
    have hm2 : m ≤ 5864062014805 := by have := HLEN.out; omega
    clear hs hb hr hm hkk haa hff
    go_wp2_with fail
    go_ret
    exact ⟨ret_tup_bool (by rw [HS.out]; omega), HB.out.alloc HB.out.size _⟩

end Go.Proofs.Ytnmeglbamfjcgaa
