/- Bytes and programs out of their readings. -/
import Derived.Test.YtplecfbdchmogaaKOpenB
import Derived.Test.YtplecfbdchmogaaKEnc
namespace Go.Proofs.Ytplecfbdchmogaa
set_option maxRecDepth 100000
open Go.ChangeShapes Go.WideShapes Go.RowKit
variable {H : Type} {enc : TypeId × Value → H}
theorem programCells : Try.prog.cellsOf 30 = 7 := by kernel_rfl
def progVal (u : PgVal) (p : Pg) : Value := .agg (pgCells u p)
theorem open_book5 {W : World} {held : Bool} {fuel : Nat} {cs : List Value} {d : DataW H} {p : List MemPlace} (hl : cs.length = 5) (h : DataW.trod enc Try.prog W 0 (fun _ => true) held fuel 26 cs = some (d, p))
 (hw : ∀ n ∈ d.weights Try.prog 26, n ≤ reachBytes) (hlt : ∀ x ∈ p, x.block < W.heap.size) :
 ∃ (bv : BkVal) (bk : Bk), cs = [.int .i64 bk.vars, .slice bv.Ao bv.no bv.co, .slice bv.Ae bv.ne bv.ce, .int .i64 bk.nat, .slice bv.Ap bv.np bv.cp] ∧ BookV W bv bk ∧ (bv.Ap = none → bv.cp = 0) := by
 obtain ⟨xs, m, _, hd, _, hxs, hf⟩ := DataW.trod_struct Try.underlying26 h
 have g0 : DataW.trod enc Try.prog W 0 (fun _ => true) held m 3 ((cs.drop 0).take (Try.prog.cellsOf 3)) = xs[0]? := hf 0 _ rfl
 have g1 : DataW.trod enc Try.prog W 0 (fun _ => true) held m 22 ((cs.drop 1).take (Try.prog.cellsOf 22)) = xs[1]? := hf 1 _ rfl
 have g2 : DataW.trod enc Try.prog W 0 (fun _ => true) held m 23 ((cs.drop 2).take (Try.prog.cellsOf 23)) = xs[2]? := hf 2 _ rfl
 have g3 : DataW.trod enc Try.prog W 0 (fun _ => true) held m 3 ((cs.drop 3).take (Try.prog.cellsOf 3)) = xs[3]? := hf 3 _ rfl
 have g4 : DataW.trod enc Try.prog W 0 (fun _ => true) held m 24 ((cs.drop 4).take (Try.prog.cellsOf 24)) = xs[4]? := hf 4 _ rfl
 have hx5 : xs.length = 5 := hxs
 rw [intCells] at g0 g3
 rw [ordersCells] at g1
 rw [entriesCells] at g2
 rw [primsCells] at g4
 simp only [Prod.mk.injEq] at hd
 obtain ⟨rfl, rfl⟩ := hd
 match cs, hl, xs, hx5, g0, g1, g2, g3, g4, hw, hlt with
 | [c0, c1, c2, c3, c4], _, [y0, y1, y2, y3, y4], _, g0, g1, g2, g3, g4, hw, hlt =>
  have U := Try.underlying26
  obtain ⟨o, e0, _, w0⟩ := DataW.trod_int Try.underlying3 (x := y0) g0
  obtain ⟨A1, n1, k1, l1, e1, r1⟩ := open_orders3 (d := y1.1) (p := y1.2) g1 (part_w (j := 1) U rfl rfl hw) (fun x hx => hlt x (by simp [hx]))
  obtain ⟨A2, n2, k2, l2, e2, r2, wk⟩ := open_entries3 (d := y2.1) (p := y2.2) g2 (part_w (j := 2) U rfl rfl hw) (fun x hx => hlt x (by simp [hx]))
  obtain ⟨z, e3, _, w3⟩ := DataW.trod_int Try.underlying3 (x := y3) g3
  obtain ⟨A4, n4, k4, l4, e4, r4, wp, hnul⟩ := open_prims3 (d := y4.1) (p := y4.2) g4 (part_w (j := 4) U rfl rfl hw) (fun x hx => hlt x (by simp [hx]))
  have e0' : c0 = .int .i64 o := by simpa using e0
  have e1' : c1 = .slice A1 n1 k1 := by simpa using e1
  have e2' : c2 = .slice A2 n2 k2 := by simpa using e2
  have e3' : c3 = .int .i64 z := by simpa using e3
  have e4' : c4 = .slice A4 n4 k4 := by simpa using e4
  subst e0' e1' e2' e3' e4'
  exact ⟨⟨A1, n1, k1, A2, n2, k2, A4, n4, k4⟩, ⟨o, l1, l2, z, l4⟩, rfl, ⟨r1, r2, r4, w0, w3, wk, wp⟩, hnul⟩
theorem open_prog {W : World} {base : Nat} {held : Bool} {v : Value} {d : DataW H} {p : List MemPlace} (hv : Value.okWide Try.prog W .any base 30 v) (h : DataW.Trod enc Try.prog W 0 (fun _ => true) held 30 v d p)
 (hw : ∀ n ∈ d.weights Try.prog 30, n ≤ reachBytes) (hlt : ∀ x ∈ p, x.block < W.heap.size) :
 ∃ u pg, v = progVal u pg ∧ ProgV W u pg ∧ (u.bk.Ap = none → u.bk.cp = 0) := by
 obtain ⟨cs, rfl, hsz⟩ := okWide_struct Try.underlying30 hv
 obtain ⟨cs⟩ := cs
 obtain ⟨fuel, hf⟩ := h
 obtain ⟨xs, m, _, hd, _, hxs, hf⟩ := DataW.trod_struct Try.underlying30 hf
 have hl : cs.length = 7 := by simpa using hsz.trans programCells
 have g0 : DataW.trod enc Try.prog W 0 (fun _ => true) held m 26 (((Value.cells (.agg ⟨cs⟩)).toList.drop 0).take (Try.prog.cellsOf 26)) = xs[0]? := hf 0 _ rfl
 have g1 : DataW.trod enc Try.prog W 0 (fun _ => true) held m 28 (((Value.cells (.agg ⟨cs⟩)).toList.drop 5).take (Try.prog.cellsOf 28)) = xs[1]? := hf 1 _ rfl
 have g2 : DataW.trod enc Try.prog W 0 (fun _ => true) held m 28 (((Value.cells (.agg ⟨cs⟩)).toList.drop 6).take (Try.prog.cellsOf 28)) = xs[2]? := hf 2 _ rfl
 have hx3 : xs.length = 3 := hxs
 rw [bookCells] at g0
 rw [termCells] at g1 g2
 simp only [Prod.mk.injEq] at hd
 obtain ⟨rfl, rfl⟩ := hd
 match cs, hl, xs, hx3, g0, g1, g2, hw, hlt with
 | [c0, c1, c2, c3, c4, c5, c6], _, [y0, y1, y2], _, g0, g1, g2, hw, hlt =>
  have U := Try.underlying30
  simp only [Value.cells] at g0 g1 g2
  obtain ⟨bv, bk, e0, r0, hnul⟩ := open_book5 (d := y0.1) (p := y0.2) (by rfl) g0 (part_w (j := 0) U rfl rfl hw) (fun x hx => hlt x (by simp [hx]))
  obtain ⟨A1, n1, k1, l1, e1, r1⟩ := open_term3 (d := y1.1) (p := y1.2) g1 (part_w (j := 1) U rfl rfl hw) (fun x hx => hlt x (by simp [hx]))
  obtain ⟨A2, n2, k2, l2, e2, r2⟩ := open_term3 (d := y2.1) (p := y2.2) g2 (part_w (j := 2) U rfl rfl hw) (fun x hx => hlt x (by simp [hx]))
  simp at e0 e1 e2
  obtain ⟨rfl, rfl, rfl, rfl, rfl⟩ := e0
  subst e1 e2
  exact ⟨⟨bv, A1, n1, k1, A2, n2, k2⟩, ⟨bk, l1, l2⟩, rfl, ⟨r0, r1, r2⟩, hnul⟩
end Go.Proofs.Ytplecfbdchmogaa
