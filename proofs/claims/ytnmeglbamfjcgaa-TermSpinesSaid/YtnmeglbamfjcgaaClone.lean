/- slices.Clone at rows of nodes: the same nodes in new memory. -/
import Derived.Test.YtnmeglbamfjcgaaRow
import Derived.Lib.SliceRun
namespace Go.Proofs.Ytnmeglbamfjcgaa
open Go.RowKit

theorem own_fresh {w w' : World} {A : Option Addr} {n c : Nat} {l : List Nd} (h : OwnN w' w.heap.size (.slice A n c) l) (hl : l.length ≤ 5864062014805) : TermR (fresh w w') w' A n c l := by
  obtain ⟨A', n', c', e, ht⟩ := OwnN.termS h hl
  injection e with e1 e2 e3
  subst e1 e2 e3
  exact ht.keep fun b hb => ⟨⟨(ownsRow_block h hb).1, (ownsRow_block h hb).2.1⟩, fun _ => rfl⟩

set_option maxRecDepth 100000 in
set_option maxHeartbeats 1000000 in
theorem clone_any {A : Option Addr} {n c : Nat} {l : List Nd} {w : World} (h : TermV w A n c l) :
    Calls Try.prog 62 #[.slice A n c] w (RowPost l w) := by
  have q22 : ∀ (w : World) (a : Option Addr) (n c n' c' : Nat), (binOp .eql 23 (.slice a n c) (.slice none n' c')).run Try.prog w = .ok (.bool a.isNone) w := fun w a n c n' c' => Lib.run_eql_slice_nil w _ _ a n c n' c' Try.underlying23
  cases A with
  | none =>
    obtain rfl := h.nul rfl
    obtain rfl : n = 0 := by have := h.cap; omega
    have hl : l = [] := List.eq_nil_of_length_eq_zero h.len
    subst hl
    go_enter Try.func62, Try.ntmps62
    go_wp2_with fail
    go_ret
    exact ⟨Below.refl _ _, none, 0, 0, rfl, rfl, Nat.le_refl _, by decide, fun _ => rfl, fun h => absurd h (by decide)⟩
  | some a =>
    obtain ⟨i0, hi, hy0, hy1, hy2⟩ := info_parts infoN'
    have HI0 := Lib.hid hi
    have HY0 := Lib.hid hy0
    have HY1 := Lib.hid hy1
    have HY2 := Lib.hid hy2
    clear hi hy0 hy1 hy2
    have hfew := h.few
    have hb0 := below_alloc w (.cells #[] 53)
    have hm : TermV (w.alloc (.cells #[] 53)) (some a) n c l := h.below hb0
    have hown : OwnN (w.alloc (.cells #[] 53)) w.heap.size (.slice (some ⟨w.heap.size, 0, none⟩) 0 0) [] := World.ownsRow_made w #[] 0 (Nat.le_refl _) (Nat.zero_le _) rfl
    have HM := Lib.hid hm
    have HOWN := Lib.hid hown
    have HB := Lib.hid hb0
    clear hm hown hb0 h
    go_enter Try.func62, Try.ntmps62
    go_wp2_with (at_builtin; go_loud (refine wpList_oper rfl (oper_append_row (.tmp 5) (.tmp 6) 23 23 rfl w.heap.size i0 Try.underlying23 Try.underlying23 HI0.out HY0.out HY1.out HY2.out (.slice (some ⟨w.heap.size, 0, none⟩) 0 0) [] l rfl HOWN.out rfl HM.out (by simpa using hfew) (by simp) ?_)); intro A4 c4 w4 hown4 happ4)
    go_ret
    refine ⟨HB.out.grown happ4.grown HB.out.size (fun g hg => (ownsRow_block HOWN.out hg).1), A4, _, c4, rfl, ?_⟩
    simp only [List.length_nil, Nat.zero_add, List.nil_append] at hown4
    exact own_fresh hown4 (by have := HM.out.len; omega)

end Go.Proofs.Ytnmeglbamfjcgaa
