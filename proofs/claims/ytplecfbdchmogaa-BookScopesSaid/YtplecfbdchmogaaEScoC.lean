/- A book that is handed in: its entries' slice is no longer than its capacity. -/
import Derived.Test.YtplecfbdchmogaaEOpenB
namespace Go.Proofs.Ytplecfbdchmogaa
open Go.ChangeShapes Go.WideShapes Go.RowKit
variable {H : Type} {enc : TypeId × Value → H}
set_option maxRecDepth 100000 in
theorem book_cap {W : World} {held : Bool} {bv : BkVal} {bk : Bk} {d : DataW H} {p : List MemPlace} (h : DataW.Trod enc Try.prog W 0 (fun _ => true) held 26 (bookVal bv bk) d p)
 (hw : ∀ n ∈ d.weights Try.prog 26, n ≤ reachBytes) (hlt : ∀ x ∈ p, x.block < W.heap.size) : bv.ne ≤ bv.ce := by
 obtain ⟨fuel, hf⟩ := h
 obtain ⟨xs, m, _, hd, _, hxs, hf⟩ := DataW.trod_struct Try.underlying26 hf
 have g2 : DataW.trod enc Try.prog W 0 (fun _ => true) held m 23 (((Value.cells (bookVal bv bk)).toList.drop 2).take (Try.prog.cellsOf 23)) = xs[2]? := hf 2 _ rfl
 have hx5 : xs.length = 5 := hxs
 rw [entriesCells] at g2
 simp only [Prod.mk.injEq] at hd
 obtain ⟨rfl, rfl⟩ := hd
 match xs, hx5, g2, hw, hlt with
 | [y0, y1, y2, y3, y4], _, g2, hw, hlt =>
  obtain ⟨A, n, c, _, e, _, h2, _⟩ := open_gen 7 152 Try.underlying23 entryCells entryBytes (by decide) (X := Unit) (fun _ _ _ => True) (fun _ _ _ _ _ _ _ _ _ _ _ => ⟨(), trivial⟩) (d := y2.1) (p := y2.2) g2 (part_w (j := 2) Try.underlying26 rfl rfl hw) (fun x hx => hlt x (by simp [hx]))
  simp [bookVal, Value.cells] at e
  obtain ⟨_, rfl, rfl⟩ := e
  exact h2
end Go.Proofs.Ytplecfbdchmogaa
