/- Where the kids of a right row stand: plain laws. -/
import Derived.Test.YtnmeglbamfjcgaaTermP4
namespace Go.Proofs.Ytnmeglbamfjcgaa
open Go.RowKit

/-- The first kid of what is still to come. -/
theorem kid_ends {l : List Nd} {p : Nat} {d : Bool} {dr : List Bool} {pre : List Nd} {nd : Nd} {a : List Nd} {ks x : Fo} (hw : Wf (d :: dr) (.cons pre nd a ks x)) (hl : l.drop p = row (.cons pre nd a ks x)) (hp : p ≤ l.length) :
    ∃ q, ends [false] l (p + pre.length) = some q ∧ l.drop q = row x ∧ p + pre.length ≤ q ∧ q ≤ l.length ∧ (l.take q).drop (p + pre.length) = row (.cons [] nd a ks .nil) := by
  obtain ⟨_, hok, hat, hk, hx⟩ := hw
  have hd : l.drop (p + pre.length) = row (.cons [] nd a ks .nil) ++ row x := by
    rw [← List.drop_drop, hl]
    simp [row]
  have hw1 : Wf [false] (.cons [] nd a ks .nil) := ⟨rfl, hok, hat, hk, trivial⟩
  have hpp := pp_of_wf _ _ (row x) hw1
  have hlen := congrArg List.length hl
  rw [List.length_drop] at hlen
  have hlen2 : (row (.cons pre nd a ks x)).length = pre.length + ((row (.cons [] nd a ks .nil)).length + (row x).length) := by
    simp [row]; omega
  rw [hlen2] at hlen
  refine ⟨p + pre.length + (row (.cons [] nd a ks .nil)).length, ?_, ?_, by omega, by omega, ?_⟩
  · unfold ends
    rw [hd, hpp]
    simp only [Option.map_some]
    congr 1
    omega
  · rw [← List.drop_drop, hd]
    simp
  · rw [List.drop_take, hd]
    have : p + pre.length + (row (.cons [] nd a ks .nil)).length - (p + pre.length) = (row (.cons [] nd a ks .nil)).length := by omega
    rw [this]
    simp
end Go.Proofs.Ytnmeglbamfjcgaa
