/- Shape and Of of the reference. -/
import Derived.Test.YtnmeglbamfjcgaaRead3
import Derived.Test.YtnmeglbamfjcgaaTermP
namespace Go.Proofs.Ytnmeglbamfjcgaa
open Go.RowKit

theorem shapeI_8 {l : List Nd} (h : l.length ≤ 4096) (h0 : shapeI l ≠ 0) : shapeI l = 8 := by
  unfold shapeI at h0 ⊢
  rw [if_neg (by omega)] at h0 ⊢
  split
  · rename_i h1
    rw [if_pos h1] at h0
    exact absurd rfl h0
  · rfl
theorem shapeI_9 {l : List Nd} (h : 4096 < l.length) : shapeI l = 9 := by
  unfold shapeI
  rw [if_pos h]
theorem ret_tup_bool {k : IntKind} {a b : Int} (h : a = b) : Ending.returned (.int k a) = .returned (.int k b) := by rw [h]

/-- What Read answers, told by the shape. -/
theorem read_cases {l : List Nd} {w w' : World} {e : Ending} (h : ReadPost l w e w') : Below w.heap.size w w' ∧
    ((e = .returned (.tuple #[treeNil, .int .i64 0, .bool false]) ∧ (l.length ≤ 4096 → shapeI l = 8)) ∨
      ∃ xs n ats k m, e = .returned (.tuple #[.agg xs.toArray, .int .i64 (m : Nat), .bool true]) ∧ TreeC (fresh w w') w' xs n ats k ∧ m ≤ l.length ∧ ((m = l.length ∧ pp [false] l = some (.cons [] n ats k .nil, []) ∧ (l.length ≤ 4096 → shapeI l = 0)) ∨ (m < l.length ∧ (l.length ≤ 4096 → shapeI l = 8)))) := by
  obtain ⟨hb, h⟩ := h
  refine ⟨hb, ?_⟩
  cases hp : pp [false] l with
  | none =>
    rw [hp] at h
    refine .inl ⟨h, fun hl => shapeI_8 hl fun h0 => ?_⟩
    obtain ⟨_, n, ats, k, hpp, _⟩ := shape_ok h0
    rw [hp] at hpp
    cases hpp
  | some p =>
    obtain ⟨F, r⟩ := p
    have hw := wf_of_pp hp
    cases F with
    | nil => exact hw.elim
    | cons pr n ats k x =>
      cases x with
      | cons _ _ _ _ _ => exact hw.2.2.2.2.elim
      | nil =>
        obtain ⟨hpr, _⟩ := hw
        simp only at hpr
        subst hpr
        rw [hp] at h
        obtain ⟨xs, he, ht⟩ := h
        have hlen := pp_row hp
        refine .inr ⟨xs, n, ats, k, _, he, ht, Nat.sub_le _ _, ?_⟩
        have hlen2 : r.length ≤ l.length := by rw [hlen]; simp
        cases r with
        | nil =>
          refine .inl ⟨by simp, rfl, fun hl => shape_of_pp hp hl⟩
        | cons y r =>
          simp only [List.length_cons] at hlen2 ⊢
          refine .inr ⟨by omega, fun hl => shapeI_8 hl fun h0 => ?_⟩
          obtain ⟨_, n, ats, k, hpp, _⟩ := shape_ok h0
          rw [hp] at hpp
          cases hpp

set_option maxRecDepth 100000 in
set_option maxHeartbeats 2000000 in
theorem refShape_any {A : Option Addr} {nn c : Nat} {l : List Nd} {w : World} (h : TermV w A nn c l) :
    Calls Try.prog 25 #[.slice A nn c] w (IntPost (shapeI l) w) := by
  have hfew := h.few
  have hlen := h.len
  by_cases h1 : 4096 < nn
  · have h1b : decide ((4096 : Int) < (nn : Int)) = true := by simp; omega
    have hs : shapeI l = 9 := shapeI_9 (by omega)
    clear h1 h hlen
    go_enter Try.func25, Try.ntmps25
    go_wp2_with fail
    go_ret
    exact ⟨ret_tup_bool hs.symm, Below.refl _ _⟩
  · have h1b : decide ((4096 : Int) < (nn : Int)) = false := by simp; omega
    have hl : l.length ≤ 4096 := by omega
    have HL := Lib.hid hl
    have HLEN := Lib.hid hlen
    have H := Lib.hid h
    clear h1 hl hlen h
    go_enter Try.func25, Try.ntmps25
    go_wp2_with fail
    refine (read_any H.out).mono ?_
    intro e w2 hr
    obtain ⟨hb, ⟨rfl, hs⟩ | ⟨xs, n, ats, k, m, rfl, ht, hm, hc⟩⟩ := read_cases hr
    · have hs8 := hs HL.out
      have HB := Lib.hid hb
      clear hs hb hr
      unfold treeNil
      go_wp2_with fail
      go_ret
      refine ⟨ret_tup_bool hs8.symm, ?_⟩
      exact HB.out.alloc HB.out.size _
    · obtain ⟨sk, sa, sf, rfl, ⟨Ak, nk, ck, rfl, hkk⟩, ⟨Aa, na, ca, rfl, haa⟩, ⟨Af, nf, cf, rfl, hff⟩⟩ := ht
      rcases hc with ⟨hm1, hpp, hs⟩ | ⟨hm1, hs⟩
      · have hg : ((m : Int) != (nn : Int)) = false := by simp; have := HLEN.out; omega
        have hs0 := hs HL.out
        have HB := Lib.hid hb
        clear hs hb hr hpp hm hm1 hkk haa hff
        go_wp2_with fail
        go_ret
        refine ⟨ret_tup_bool hs0.symm, ?_⟩
        exact HB.out.alloc HB.out.size _
      · have hg : ((m : Int) != (nn : Int)) = true := by simp; have := HLEN.out; omega
        have hs0 := hs HL.out
        have HB := Lib.hid hb
        clear hs hb hr hm hm1 hkk haa hff
        go_wp2_with fail
        go_ret
        refine ⟨ret_tup_bool hs0.symm, ?_⟩
        exact HB.out.alloc HB.out.size _

end Go.Proofs.Ytnmeglbamfjcgaa
