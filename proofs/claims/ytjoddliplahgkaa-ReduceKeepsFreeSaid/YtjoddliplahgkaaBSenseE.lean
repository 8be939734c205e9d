/- sense: eval, one level deeper. -/
import Derived.Test.YtjoddliplahgkaaBShort2
import Derived.Test.YtjoddliplahgkaaBSenseD
import Derived.Test.YtjoddliplahgkaaBSenseG
namespace Go.Proofs.Ytjoddliplahgkaa
open Go.RowKit
theorem two_pieces {x p q : TT} (hrt : RtX x) (h : x.1.op = 6 ∨ x.1.op = 5) (hk : kidL x.2.2 = [p, q]) : ∃ e : Nat, endI (rowT x) 1 = (e : Int) ∧ 1 ≤ e ∧ e ≤ (rowT x).length ∧ ((rowT x).take e).drop 1 = rowT p ∧ (rowT x).drop e = rowT q := by
 have hat : At (rowT x) 1 (ds x.1) x.2.2 := At.first (n := x.1) (a := x.2.1) (k := x.2.2) hrt (by omega)
 have hds : ds x.1 = [false, false] := by unfold ds; rw [if_neg (by omega)]; rcases h with h | h <;> rw [h] <;> rfl
 rw [hds] at hat
 obtain ⟨pre1, n1, a1, k1, nx1, e1, s1⟩ := hat.step
 obtain ⟨pre2, n2, a2, k2, nx2, rfl, s2⟩ := s1.next.step
 obtain rfl := List.eq_nil_of_length_eq_zero (show pre1.length = 0 from s1.plen)
 obtain rfl := List.eq_nil_of_length_eq_zero (show pre2.length = 0 from s2.plen)
 obtain rfl := s2.next.done
 rw [e1] at hk
 simp only [kidL, List.cons.injEq, and_true] at hk
 obtain ⟨rfl, rfl⟩ := hk
 have h1 := s1.end_
 have h2 := s1.cut
 have h3 := s1.le
 have h4 := s1.next.rest
 simp only [List.length_nil, Nat.add_zero] at h1 h2 h3 h4
 refine ⟨_, h1, by omega, h3, h2, ?_⟩
 rw [h4]
 simp [row, rowT]
theorem three_pieces {x p q r : TT} (hrt : RtX x) (h : x.1.op = 7) (hk : kidL x.2.2 = [p, q, r]) : ∃ e1 e2 : Nat, endI (rowT x) 1 = (e1 : Int) ∧ endI (rowT x) (e1 : Int) = (e2 : Int) ∧ 1 ≤ e1 ∧ e1 ≤ e2 ∧ e2 ≤ (rowT x).length ∧ ((rowT x).take e2).drop e1 = rowT q ∧ (rowT x).drop e2 = rowT r := by
 have hat : At (rowT x) 1 (ds x.1) x.2.2 := At.first (n := x.1) (a := x.2.1) (k := x.2.2) hrt (by omega)
 have hds : ds x.1 = [false, false, false] := by unfold ds; rw [if_neg (by omega), h]; rfl
 rw [hds] at hat
 obtain ⟨pre1, n1, a1, k1, nx1, e1, s1⟩ := hat.step
 obtain ⟨pre2, n2, a2, k2, nx2, rfl, s2⟩ := s1.next.step
 obtain ⟨pre3, n3, a3, k3, nx3, rfl, s3⟩ := s2.next.step
 obtain rfl := List.eq_nil_of_length_eq_zero (show pre1.length = 0 from s1.plen)
 obtain rfl := List.eq_nil_of_length_eq_zero (show pre2.length = 0 from s2.plen)
 obtain rfl := List.eq_nil_of_length_eq_zero (show pre3.length = 0 from s3.plen)
 obtain rfl := s3.next.done
 rw [e1] at hk
 simp only [kidL, List.cons.injEq, and_true] at hk
 obtain ⟨rfl, rfl, rfl⟩ := hk
 have h1 := s1.end_
 have h3 := s1.le
 have i1 := s2.end_
 have i2 := s2.cut
 have i3 := s2.le
 have i4 := s2.next.rest
 simp only [List.length_nil, Nat.add_zero] at h1 h3 i1 i2 i3 i4
 refine ⟨_, _, h1, i1, by omega, by omega, i3, i2, ?_⟩
 rw [i4]
 simp [row, rowT]
end Go.Proofs.Ytjoddliplahgkaa
