/- Merged: DeepP, Nums, Deep. -/
import Derived.Test.YtplecfbdchmogaaESub
import Derived.Test.YtplecfbdchmogaaERights
import Derived.Test.YtplecfbdchmogaaELeafs
namespace Go.Proofs.Ytplecfbdchmogaa
section
open Go.RowKit
def numsB : Bk := ⟨0, [], [⟨1, [⟨2, 1, 1⟩, ⟨3, 0, 0⟩], [], [], [⟨[], []⟩, ⟨[[⟨9, 0, 0⟩]], []⟩], [], []⟩], 0, []⟩
end
section
open Go.RowKit
def litC (l : List Nd) : Array Value := (flat l).toArray
theorem lit_term {w : World} {g : Nat} {l : List Nd} {n c : Nat} (h : Blk w g 59 (litC l)) (hl : l.length = n) (hc : n ≤ c) (hf : n ≤ 5864062014805) : TermV w (some ⟨g, 0, none⟩) n c l := by
 refine ⟨hl, hc, hf, (fun e => by cases e), fun hn => ⟨g, 0, rfl, h.lt, fun k hk => ?_⟩⟩
 obtain ⟨h1, h2, h3⟩ := flat_at l k hk
 have hcell := h.cell
 rw [Nat.zero_add, hcell, hcell, hcell]
 simp only [litC, List.getElem?_toArray]
 exact ⟨h1, h2, h3⟩
theorem blk_new {w : World} {g : Nat} {t : TypeId} {cs : Array Value} (h : g = w.heap.size) : Blk (w.alloc (.cells cs t)) g t cs := by
 subst h
 exact Blk.new _ _ _
theorem RowsV.nil (w : World) : RowsV w none 0 0 [] := ⟨rfl, by decide, fun h => absurd h (by decide)⟩
theorem nums_book {w : World} {g1 g2 g3 g4 g5 : Nat} (h1 : Blk w g1 59 #[.int .i64 2, .int .i64 1, .int .i64 1, .int .i64 3, .int .i64 0, .int .i64 0]) (h2 : Blk w g2 59 #[.int .i64 9, .int .i64 0, .int .i64 0]) (h3 : Blk w g3 28 #[.slice (some ⟨g2, 0, none⟩) 1 1])
 (h4 : Blk w g4 54 #[.slice none 0 0, .slice none 0 0, .slice (some ⟨g3, 0, none⟩) 1 1, .slice none 0 0])
 (h5 : Blk w g5 49 #[.int .i64 1, .slice (some ⟨g1, 0, none⟩) 2 2, .slice none 0 0, .slice none 0 0, .slice (some ⟨g4, 0, none⟩) 2 2, .slice none 0 0, .slice none 0 0]) : BookV w ⟨none, 0, 0, some ⟨g5, 0, none⟩, 1, 1, none, 0, 0⟩ numsB := by
 have e2 : TermV w (some ⟨g1, 0, none⟩) 2 2 [⟨2, 1, 1⟩, ⟨3, 0, 0⟩] := lit_term (l := [⟨2, 1, 1⟩, ⟨3, 0, 0⟩]) h1 rfl (by decide) (by decide)
 have e3 : TermV w (some ⟨g2, 0, none⟩) 1 1 [⟨9, 0, 0⟩] := lit_term (l := [⟨9, 0, 0⟩]) h2 rfl (by decide) (by decide)
 have e4 : RowsV w (some ⟨g3, 0, none⟩) 1 1 [[⟨9, 0, 0⟩]] := ⟨rfl, by decide, fun _ => ⟨g3, 0, rfl, h3.lt, fun k hk => by
  obtain rfl : k = 0 := by omega
  exact ⟨some ⟨g2, 0, none⟩, 1, 1, h3.cell 0, e3⟩⟩⟩
 have e5 : CtsV w (some ⟨g4, 0, none⟩) 2 2 [⟨[], []⟩, ⟨[[⟨9, 0, 0⟩]], []⟩] := ⟨rfl, by decide, fun _ => ⟨g4, 0, rfl, h4.lt, fun k hk => by
  have hk2 : k = 0 ∨ k = 1 := by omega
  rcases hk2 with rfl | rfl
  · exact ⟨none, 0, 0, none, 0, 0, h4.cell 0, h4.cell 1, RowsV.nil w, RowsV.nil w⟩
  exact ⟨some ⟨g3, 0, none⟩, 1, 1, none, 0, 0, h4.cell 2, h4.cell 3, e4, RowsV.nil w⟩⟩⟩
 have e6 : EnsV w (some ⟨g5, 0, none⟩) 1 1 numsB.entries := ⟨rfl, by decide, fun _ => ⟨g5, 0, rfl, h5.lt, fun k hk => by
  obtain rfl : k = 0 := by omega
  exact ⟨⟨some ⟨g1, 0, none⟩, 2, 2, none, 0, 0, none, 0, 0, some ⟨g4, 0, none⟩, 2, 2, none, 0, 0, none, 0, 0⟩, h5.cell 0, h5.cell 1, h5.cell 2, h5.cell 3, h5.cell 4, h5.cell 5, h5.cell 6, ⟨e2, RowsV.nil w, RowsV.nil w, e5, TermV.nil w, TermV.nil w⟩⟩⟩⟩
 have e7 : PrsV w none 0 0 numsB.prims := ⟨rfl, by decide, fun h => absurd h (by decide)⟩
 exact ⟨TermV.nil w, e6, e7, by decide, by decide, by decide, by decide⟩
end
section
open Go.RowKit
end
end Go.Proofs.Ytplecfbdchmogaa
