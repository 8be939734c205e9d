/- Read of the reference, at every row. -/
import Derived.Test.YtnmeglbamfjcgaaProg
import Derived.Test.YtnmeglbamfjcgaaMem
import Derived.Test.YtnmeglbamfjcgaaTree
import Derived.Test.YtnmeglbamfjcgaaOwn
import Derived.Test.YtnmeglbamfjcgaaCount
import Derived.Test.YtnmeglbamfjcgaaRead
import Derived.Test.YtnmeglbamfjcgaaRead2
import Derived.WalkKit
import Derived.Lib.Hide
namespace Go.Proofs.Ytnmeglbamfjcgaa
open Go.RowKit

set_option maxRecDepth 100000 in
set_option maxHeartbeats 1000000 in
theorem read_bad {A : Option Addr} {n c : Nat} {l : List Nd} {w : World} (h : TermV w A n c l) (hn : 0 < n) (hok : okN (nth l 0) = false) :
    Calls Try.prog 57 #[.slice A n c] w (ReadPost l w) := by
  have hl : pp [false] l = none := pp_bad _ (fun _ => hok)
  have HPP := Lib.hid hl
  clear hl
  obtain ⟨b, off, rfl, hb, c0, c1, c2⟩ := h.at_ hn
  simp only [Nat.zero_mul, Nat.add_zero] at c0 c1 c2
  have hn0 : (((n : Nat) : Int) == 0) = false := by simp; omega
  have hok2 : okN ⟨(nth l 0).op, (nth l 0).a, (nth l 0).b⟩ = false := hok
  go_enter Try.func57, Try.ntmps57
  go_wp2_with fail
  refine (count_no _ _ _ _ hok2).mono ?_
  rintro e w1 ⟨⟨k, rfl⟩, hb1⟩
  have hz2 : Blk w1 w.heap.size 64 #[.int .i64 0, .int .i64 0, .int .i64 0, .slice none 0 0, .slice none 0 0, .slice none 0 0] := (Blk.new _ _ _).below hb1 (by simp)
  have zc2 := Blk.cell hz2
  have zf2 := Blk.frozen hz2
  go_wp2_with fail
  refine bodyPost_ret (v := .tuple #[treeNil, .int .i64 0, .bool false]) (results_read ((((((hz2.set_ 0 _).set_ 1 _).set_ 2 _).set_ 3 _).set_ 4 _).set_ 5 _) rfl) rfl (readPost_none HPP.out (below_six ((below_alloc w _).trans (hb1.mono (by simp))) (Nat.le_refl _) _ _ _ _ _ _))

theorem read_all : ∀ (m : Nat) (w : World) (A : Option Addr) (n c : Nat) (l : List Nd), TermV w A n c l → n < m → Calls Try.prog 57 #[.slice A n c] w (ReadPost l w)
  | 0, _, _, _, _, _, _, hm => absurd hm (by omega)
  | m + 1, w, A, n, c, l, h, hm => by
    by_cases hn : 0 < n
    · cases hok : okN (nth l 0)
      · exact read_bad h hn hok
      · by_cases h2 : (nth l 0).op = 2
        · have hpl := (okN_iff _).1 hok
          obtain ⟨K, hK⟩ := Int.eq_ofNat_of_zero_le (plainB_b hpl.1).1
          exact read_sort h hn (by simp [h2]) hok K hK
        · exact read_node h hn (by simp [h2]) hok (fun w A k c l' hl hk => read_all m w A k c l' hl (by omega))
    · obtain rfl : n = 0 := by omega
      exact read_none h

theorem read_any {A : Option Addr} {n c : Nat} {l : List Nd} {w : World} (h : TermV w A n c l) : Calls Try.prog 57 #[.slice A n c] w (ReadPost l w) :=
  read_all (n + 1) w A n c l h (Nat.lt_succ_self _)

end Go.Proofs.Ytnmeglbamfjcgaa
