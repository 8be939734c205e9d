/- A case of a book, a context, a term and fuel, out of its reading. -/
import Derived.Test.YtjoddliplahgkaaDOpenB
import Derived.Test.YtjoddliplahgkaaDWhG
namespace Go.Proofs.Ytjoddliplahgkaa
set_option maxRecDepth 100000
open Go.ChangeShapes Go.WideShapes Go.RowKit
variable {H : Type} {enc : TypeId × Value → H}
theorem bindCells : Try.prog.cellsOf 43 = 2 := by kernel_rfl
theorem bindBytes : Try.prog.bytesOf 43 = 48 := by kernel_rfl
theorem bindsCells : Try.prog.cellsOf 27 = 1 := by kernel_rfl
theorem caseCells : Try.prog.cellsOf 31 = 8 := by kernel_rfl
def BindRd (W : World) (b off : Nat) (x : List Nd × List Nd) : Prop := ∃ A1 n1 c1 A2 n2 c2, W.cell? ⟨b, off, none⟩ = some (.slice A1 n1 c1) ∧ W.cell? ⟨b, off + 1, none⟩ = some (.slice A2 n2 c2) ∧ TermV W A1 n1 c1 x.1 ∧ TermV W A2 n2 c2 x.2
theorem open_bind {W : World} {held : Bool} (fuel : Nat) (cs : List Value) (d : DataW H) (pl : List MemPlace) (b off : Nat) (h : DataW.trod enc Try.prog W 0 (fun _ => true) held fuel 43 cs = some (d, pl)) (hl : cs.length = 2) (hc : ∀ j, j < 2 → W.cell? ⟨b, off + j, none⟩ = cs[j]?) (hw : ∀ n ∈ d.weights Try.prog 43, n ≤ reachBytes) (hlt : ∀ x ∈ pl, x.block < W.heap.size) : ∃ x, BindRd W b off x := by
 obtain ⟨xs, m, _, hd, _, hxs, hf⟩ := DataW.trod_struct Try.underlying43 h
 have g0 : DataW.trod enc Try.prog W 0 (fun _ => true) held m 29 ((cs.drop 0).take (Try.prog.cellsOf 29)) = xs[0]? := hf 0 _ rfl
 have g1 : DataW.trod enc Try.prog W 0 (fun _ => true) held m 29 ((cs.drop 1).take (Try.prog.cellsOf 29)) = xs[1]? := hf 1 _ rfl
 have hx2 : xs.length = 2 := hxs
 rw [termCells] at g0 g1
 simp only [Prod.mk.injEq] at hd
 obtain ⟨rfl, rfl⟩ := hd
 match cs, hl, xs, hx2, g0, g1, hw, hlt, hc with
 | [c0, c1], _, [y0, y1], _, g0, g1, hw, hlt, hc =>
  have U := Try.underlying43
  obtain ⟨A1, n1, k1, l1, e1, r1⟩ := open_term3 (d := y0.1) (p := y0.2) g0 (part_w (j := 0) U rfl rfl hw) (fun x hx => hlt x (by simp [hx]))
  obtain ⟨A2, n2, k2, l2, e2, r2⟩ := open_term3 (d := y1.1) (p := y1.2) g1 (part_w (j := 1) U rfl rfl hw) (fun x hx => hlt x (by simp [hx]))
  have e1' : c0 = .slice A1 n1 k1 := by simpa using e1
  have e2' : c1 = .slice A2 n2 k2 := by simpa using e2
  subst e1' e2'
  exact ⟨(l1, l2), A1, n1, k1, A2, n2, k2, hc 0 (by omega), hc 1 (by omega), r1, r2⟩
theorem open_binds3 {W : World} {held : Bool} {fuel : Nat} {cs : List Value} {d : DataW H} {p : List MemPlace} (h : DataW.trod enc Try.prog W 0 (fun _ => true) held fuel 27 cs = some (d, p)) (hw : ∀ n ∈ d.weights Try.prog 27, n ≤ reachBytes) (hlt : ∀ x ∈ p, x.block < W.heap.size) : ∃ A n c bs, cs = [.slice A n c] ∧ CtxB (· < W.heap.size) W A n c bs := by
 obtain ⟨A, n, c, xs, e, h1, h2, h3, h4, h5⟩ := open_gen 2 48 Try.underlying27 bindCells bindBytes (by decide) (X := List Nd × List Nd) (BindRd W) (fun f cs d pl b off a1 a2 a3 a4 a5 => open_bind f cs d pl b off a1 a2 a3 a4 a5) h hw hlt
 refine ⟨A, n, c, xs, e, h1, h2, by simp only [reachBytes] at h3; omega, h4, fun hn => ?_⟩
 obtain ⟨b, off, e, hb, hk⟩ := h5 hn
 refine ⟨b, off, e, hb, fun k hkn => ?_⟩
 obtain ⟨A1, n1, c1, A2, n2, c2, r1, r2, r3, r4⟩ := hk k hkn
 exact ⟨A1, n1, c1, A2, n2, c2, r1, r2, r3, r4⟩
theorem open_book5 {W : World} {held : Bool} {fuel : Nat} {cs : List Value} {d : DataW H} {p : List MemPlace} (hl : cs.length = 5) (h : DataW.trod enc Try.prog W 0 (fun _ => true) held fuel 26 cs = some (d, p))
 (hw : ∀ n ∈ d.weights Try.prog 26, n ≤ reachBytes) (hlt : ∀ x ∈ p, x.block < W.heap.size) :
 ∃ (bv : BkVal) (bk : Bk), cs = [.int .i64 bk.vars, .slice bv.Ao bv.no bv.co, .slice bv.Ae bv.ne bv.ce, .int .i64 bk.nat, .slice bv.Ap bv.np bv.cp] ∧ BookV W bv bk ∧ (bv.Ap = none → bv.cp = 0) := by
 obtain ⟨xs, m, _, hd, _, hxs, hf⟩ := DataW.trod_struct Try.underlying26 h
 have g0 : DataW.trod enc Try.prog W 0 (fun _ => true) held m 3 ((cs.drop 0).take (Try.prog.cellsOf 3)) = xs[0]? := hf 0 _ rfl
 have g1 : DataW.trod enc Try.prog W 0 (fun _ => true) held m 22 ((cs.drop 1).take (Try.prog.cellsOf 22)) = xs[1]? := hf 1 _ rfl
 have g2 : DataW.trod enc Try.prog W 0 (fun _ => true) held m 23 ((cs.drop 2).take (Try.prog.cellsOf 23)) = xs[2]? := hf 2 _ rfl
 have g3 : DataW.trod enc Try.prog W 0 (fun _ => true) held m 3 ((cs.drop 3).take (Try.prog.cellsOf 3)) = xs[3]? := hf 3 _ rfl
 have g4 : DataW.trod enc Try.prog W 0 (fun _ => true) held m 24 ((cs.drop 4).take (Try.prog.cellsOf 24)) = xs[4]? := hf 4 _ rfl
 have hx5 : xs.length = 5 := hxs
 rw [intCells] at g0 g3
 rw [ordersCells] at g1
 rw [entriesCells] at g2
 rw [primsCells] at g4
 simp only [Prod.mk.injEq] at hd
 obtain ⟨rfl, rfl⟩ := hd
 match cs, hl, xs, hx5, g0, g1, g2, g3, g4, hw, hlt with
 | [c0, c1, c2, c3, c4], _, [y0, y1, y2, y3, y4], _, g0, g1, g2, g3, g4, hw, hlt =>
  have U := Try.underlying26
  obtain ⟨o, e0, _, w0⟩ := DataW.trod_int Try.underlying3 (x := y0) g0
  obtain ⟨A1, n1, k1, l1, e1, r1⟩ := open_orders3 (d := y1.1) (p := y1.2) g1 (part_w (j := 1) U rfl rfl hw) (fun x hx => hlt x (by simp [hx]))
  obtain ⟨A2, n2, k2, l2, e2, r2, wk⟩ := open_entries3 (d := y2.1) (p := y2.2) g2 (part_w (j := 2) U rfl rfl hw) (fun x hx => hlt x (by simp [hx]))
  obtain ⟨z, e3, _, w3⟩ := DataW.trod_int Try.underlying3 (x := y3) g3
  obtain ⟨A4, n4, k4, l4, e4, r4, wp, hnul⟩ := open_prims3 (d := y4.1) (p := y4.2) g4 (part_w (j := 4) U rfl rfl hw) (fun x hx => hlt x (by simp [hx]))
  have e0' : c0 = .int .i64 o := by simpa using e0
  have e1' : c1 = .slice A1 n1 k1 := by simpa using e1
  have e2' : c2 = .slice A2 n2 k2 := by simpa using e2
  have e3' : c3 = .int .i64 z := by simpa using e3
  have e4' : c4 = .slice A4 n4 k4 := by simpa using e4
  subst e0' e1' e2' e3' e4'
  exact ⟨⟨A1, n1, k1, A2, n2, k2, A4, n4, k4⟩, ⟨o, l1, l2, z, l4⟩, rfl, ⟨r1, r2, r4, w0, w3, wk, wp⟩, hnul⟩
def caseVal (v : BkVal) (b : Bk) (cA : Option Addr) (cn cc : Nat) (A : Option Addr) (n c : Nat) (fuel : Int) : Value := .agg #[.int .i64 b.vars, .slice v.Ao v.no v.co, .slice v.Ae v.ne v.ce, .int .i64 b.nat, .slice v.Ap v.np v.cp, .slice cA cn cc, .slice A n c, .int .i64 fuel]
theorem open_case {W : World} {base : Nat} {held : Bool} {v : Value} {d : DataW H} {p : List MemPlace} (hv : Value.okWide Try.prog W .any base 31 v) (h : DataW.Trod enc Try.prog W 0 (fun _ => true) held 31 v d p)
 (hw : ∀ n ∈ d.weights Try.prog 31, n ≤ reachBytes) (hlt : ∀ x ∈ p, x.block < W.heap.size) :
 ∃ (bv : BkVal) (bk : Bk) (cA : Option Addr) (cn cc : Nat) (bs : List (List Nd × List Nd)) (A : Option Addr) (n c : Nat) (l : List Nd) (fuel : Int), v = caseVal bv bk cA cn cc A n c fuel ∧ BookV W bv bk ∧ (bv.Ap = none → bv.cp = 0) ∧ CtxB (· < W.heap.size) W cA cn cc bs ∧ TermV W A n c l ∧ (Lit.int .i64 fuel).wf = true := by
 obtain ⟨cs, rfl, hsz⟩ := okWide_struct Try.underlying31 hv
 obtain ⟨cs⟩ := cs
 obtain ⟨fuel, hf⟩ := h
 obtain ⟨xs, m, _, hd, _, hxs, hf⟩ := DataW.trod_struct Try.underlying31 hf
 have hl : cs.length = 8 := by simpa using hsz.trans caseCells
 have g0 : DataW.trod enc Try.prog W 0 (fun _ => true) held m 26 (((Value.cells (.agg ⟨cs⟩)).toList.drop 0).take (Try.prog.cellsOf 26)) = xs[0]? := hf 0 _ rfl
 have g1 : DataW.trod enc Try.prog W 0 (fun _ => true) held m 27 (((Value.cells (.agg ⟨cs⟩)).toList.drop 5).take (Try.prog.cellsOf 27)) = xs[1]? := hf 1 _ rfl
 have g2 : DataW.trod enc Try.prog W 0 (fun _ => true) held m 29 (((Value.cells (.agg ⟨cs⟩)).toList.drop 6).take (Try.prog.cellsOf 29)) = xs[2]? := hf 2 _ rfl
 have g3 : DataW.trod enc Try.prog W 0 (fun _ => true) held m 3 (((Value.cells (.agg ⟨cs⟩)).toList.drop 7).take (Try.prog.cellsOf 3)) = xs[3]? := hf 3 _ rfl
 have hx4 : xs.length = 4 := hxs
 rw [bookCells] at g0
 rw [bindsCells] at g1
 rw [termCells] at g2
 rw [intCells] at g3
 simp only [Prod.mk.injEq] at hd
 obtain ⟨rfl, rfl⟩ := hd
 match cs, hl, xs, hx4, g0, g1, g2, g3, hw, hlt with
 | [c0, c1, c2, c3, c4, c5, c6, c7], _, [y0, y1, y2, y3], _, g0, g1, g2, g3, hw, hlt =>
  have U := Try.underlying31
  simp only [Value.cells] at g0 g1 g2 g3
  obtain ⟨bv, bk, e0, r0, hnul⟩ := open_book5 (d := y0.1) (p := y0.2) (by rfl) g0 (part_w (j := 0) U rfl rfl hw) (fun x hx => hlt x (by simp [hx]))
  obtain ⟨A1, n1, k1, l1, e1, r1⟩ := open_binds3 (d := y1.1) (p := y1.2) g1 (part_w (j := 1) U rfl rfl hw) (fun x hx => hlt x (by simp [hx]))
  obtain ⟨A2, n2, k2, l2, e2, r2⟩ := open_term3 (d := y2.1) (p := y2.2) g2 (part_w (j := 2) U rfl rfl hw) (fun x hx => hlt x (by simp [hx]))
  obtain ⟨o, e3, _, w3⟩ := DataW.trod_int Try.underlying3 (x := y3) g3
  simp at e0 e1 e2 e3
  obtain ⟨rfl, rfl, rfl, rfl, rfl⟩ := e0
  subst e1 e2 e3
  exact ⟨bv, bk, A1, n1, k1, l1, A2, n2, k2, l2, o, rfl, r0, hnul, r1, r2, w3⟩
end Go.Proofs.Ytjoddliplahgkaa
