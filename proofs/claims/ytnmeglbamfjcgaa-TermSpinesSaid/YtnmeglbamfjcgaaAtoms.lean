/- atoms: where the atoms of a sort end. -/
import Derived.Test.YtnmeglbamfjcgaaProg
import Derived.Test.YtnmeglbamfjcgaaMem
import Derived.Test.YtnmeglbamfjcgaaTree
import Derived.Test.YtnmeglbamfjcgaaLeaf
import Derived.WalkKit
import Derived.WalkLawsBesides
import Derived.WalkSpells
import Derived.Lib.Hide
import Derived.Deep.QuietTactic
import Derived.BigQuiet
namespace Go.Proofs.Ytnmeglbamfjcgaa
open Go.RowKit

def IntPost (n : Int) (w : World) (e : Ending) (w' : World) : Prop := e = .returned (.int .i64 n) ∧ Below w.heap.size w w'

set_option maxRecDepth 100000 in
set_option maxHeartbeats 1000000 in
theorem atoms_any {A : Option Addr} {n c : Nat} {l : List Nd} {w : World} (h : TermV w A n c l) (a0 b0 : Int) (p0 k : Nat) (ha0 : a0 = p0) (hb0 : b0 = k) (hp0 : p0 ≤ n) (hk : k ≤ 1000) :
    Calls Try.prog 59 #[.slice A n c, .int .i64 a0, .int .i64 b0] w (IntPost (optI (atEnds k (-1) l p0)) w) := by
  have hfew := h.few
  subst ha0 hb0
  go_enter Try.func59, Try.ntmps59
  go_wp2
  go_loopw [1, 7, 9] (fun a t i wr => ∃ (p j : Nat) (last : Int), p ≤ n ∧ j ≤ k ∧ a = .int .i64 p ∧ t = .int .i64 last ∧ i = .int .i64 j ∧ atEnds (k - j) last l p = atEnds k (-1) l p0 ∧ Below w.heap.size w wr) (fun _ _ i _ => k - (intOf i).toNat)
  case atStart => exact ⟨p0, 0, -1, hp0, Nat.zero_le _, rfl, rfl, rfl, by rw [Nat.sub_zero], Below.refl _ _⟩
  case round =>
    obtain ⟨p, j, last, hp, hj, rfl, rfl, rfl, he, hbw⟩ := hrel
    have HE := Lib.hid he
    clear he
    have h' := h.below hbw
    by_cases hlt : j < k
    · have hstep : atEnds (k - j) last l p = if p < l.length ∧ (nth l p).op = 3 ∧ plainB (nth l p).op (nth l p).a (nth l p).b = true ∧ last < (nth l p).a then atEnds (k - (j + 1)) (nth l p).a l (p + 1) else none := by
        rw [show k - j = (k - (j + 1)) + 1 from by omega]; rfl
      have HS := Lib.hid hstep
      clear hstep
      by_cases hpn : p < n
      · obtain ⟨b, off, rfl, hb, c0, c1, c2⟩ := h'.at_ hpn
        by_cases hop : (nth l p).op = 3
        · have hob : ((nth l p).op != 3) = false := by simp [hop]
          have HOP := Lib.hid hop
          clear hop
          cases hpl : plainB (nth l p).op (nth l p).a (nth l p).b
          · go_wp2_with (go_at_call 58; refine (plain_any _ _ _ _).mono ?_; rintro e w1 ⟨rfl, hb1⟩; obtain ⟨hc1, hf1⟩ := bcell hb1)
            go_ret
            refine ⟨ret_int ?_, hbw.trans (hb1.mono hbw.size)⟩
            rw [← HE.out, HS.out, if_neg (fun hh => by rw [hpl] at hh; cases hh.2.2.1)]
            rfl
          · by_cases hla : last < (nth l p).a
            · have hla2 : decide ((nth l p).a ≤ last) = false := by simp; omega
              go_wp2_with (go_at_call 58; refine (plain_any _ _ _ _).mono ?_; rintro e w1 ⟨rfl, hb1⟩; obtain ⟨hc1, hf1⟩ := bcell hb1)
              go_roundw
              case rel => exact ⟨p + 1, j + 1, (nth l p).a, hpn, hlt, by go_num, rfl, by go_num, by rw [← HE.out, HS.out, if_pos ⟨by rw [h.len]; exact hpn, HOP.out, hpl, hla⟩], hbw.trans (hb1.mono hbw.size)⟩
              case measure => simp [intOf]; omega
            · have hla2 : decide ((nth l p).a ≤ last) = true := by simp; omega
              go_wp2_with (go_at_call 58; refine (plain_any _ _ _ _).mono ?_; rintro e w1 ⟨rfl, hb1⟩; obtain ⟨hc1, hf1⟩ := bcell hb1)
              go_ret
              refine ⟨ret_int ?_, hbw.trans (hb1.mono hbw.size)⟩
              rw [← HE.out, HS.out, if_neg (fun hh => by have := hh.2.2.2; omega)]
              rfl
        · have hob : ((nth l p).op != 3) = true := by simp [hop]
          have HOP := Lib.hid hop
          clear hop
          go_wp2
          go_ret
          refine ⟨ret_int ?_, hbw⟩
          rw [← HE.out, HS.out, if_neg (fun hh => HOP.out hh.2.1)]
          rfl
      · go_wp2
        go_ret
        refine ⟨ret_int ?_, hbw⟩
        rw [← HE.out, HS.out, if_neg (fun hh => hpn (by rw [← h.len]; exact hh.1))]
        rfl
    · go_wp2
      go_ret
      refine ⟨ret_int ?_, hbw⟩
      rw [← HE.out, show k - j = 0 from by omega]
      rfl

end Go.Proofs.Ytnmeglbamfjcgaa
