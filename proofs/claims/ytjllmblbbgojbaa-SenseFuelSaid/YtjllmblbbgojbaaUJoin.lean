/- A row of nodes that was handed in, opened: it reads as a list of nodes. And the end of a row's proof: true comes back and the arguments read as before. -/
import Derived.Test.YtjllmblbbgojbaaChecked
import Derived.Test.YtjllmblbbgojbaaUBase
import Derived.ProofKit
import Derived.SizedLaws
import Derived.Deep.Slices
import Derived.Deep.Fields
namespace Go.Proofs.Ytjllmblbbgojbaa
set_option maxRecDepth 100000
open Go.ChangeShapes Go.WideShapes Go.ChangeAt Go.RowKit Go.Deep
theorem Try.own : ownKnob Try.prog.godebug = none := by kernel_rfl
theorem Try.laidOut : laidOutB Try.prog = true := by kernel_rfl
theorem nodeCells : Try.prog.cellsOf 34 = 3 := by kernel_rfl
theorem nodeBytes : Try.prog.bytesOf 34 = 24 := by kernel_rfl
theorem intCells : Try.prog.cellsOf 3 = 1 := by kernel_rfl
section
variable {H : Type} {enc : TypeId × Value → H}
theorem node_at {w : World} {base : Nat} {spare : Nat → Bool} {held : Bool} {n : Nat} {cs : List Value} {x : DataW H × List MemPlace} (h : DataW.trod enc Try.prog w base spare held n 34 cs = some x) : ∃ o a b : Int, cs = [.int .i64 o, .int .i64 a, .int .i64 b] := by
 obtain ⟨xs, m, _, _, hlen, hxs, hf⟩ := DataW.trod_struct Try.underlying34 h
 rw [nodeCells] at hlen
 have g0 : DataW.trod enc Try.prog w base spare held m 3 ((cs.drop 0).take (Try.prog.cellsOf 3)) = xs[0]? := hf 0 _ rfl
 have g1 : DataW.trod enc Try.prog w base spare held m 3 ((cs.drop 1).take (Try.prog.cellsOf 3)) = xs[1]? := hf 1 _ rfl
 have g2 : DataW.trod enc Try.prog w base spare held m 3 ((cs.drop 2).take (Try.prog.cellsOf 3)) = xs[2]? := hf 2 _ rfl
 have hx3 : xs.length = 3 := hxs
 rw [intCells] at g0 g1 g2
 match cs, hlen with
 | [c0, c1, c2], _ =>
  match xs, hx3 with
  | [y0, y1, y2], _ =>
   obtain ⟨o, ho, _⟩ := DataW.trod_int Try.underlying3 g0
   obtain ⟨a, ha, _⟩ := DataW.trod_int Try.underlying3 g1
   obtain ⟨b, hb, _⟩ := DataW.trod_int Try.underlying3 g2
   simp at ho ha hb
   subst ho ha hb
   exact ⟨o, a, b, rfl⟩
theorem open_term {W : World} {base : Nat} {held : Bool} {v : Value} {d : DataW H} {p : List MemPlace} (hv : Value.okWide Try.prog W .any base 28 v) (h : DataW.Trod enc Try.prog W 0 (fun _ => true) held 28 v d p)
 (hsz : ∀ es sp, d = .slice es sp → (es.length + sp.length) * Try.prog.bytesOf 34 ≤ reachBytes) (hlt : ∀ x ∈ p, x.block < W.heap.size) :
 ∃ A n c l, v = .slice A n c ∧ TermV W A n c l := by
 obtain ⟨a0, len, cap, rfl⟩ := okWide_slice Try.underlying28 hv
 obtain ⟨fuel, hf⟩ := h
 rcases open_slice Try.underlying28 hf with ⟨hcs, hx⟩ | ⟨a, len', cap', m, n, D, Pl, hcs, _, hl, hm, hmm, hx, hi⟩
 · simp [Value.cells] at hcs
   obtain ⟨rfl, rfl, rfl⟩ := hcs
   exact ⟨none, 0, 0, [], rfl, rfl, Nat.le_refl _, by decide, fun _ => rfl, fun h => absurd h (by decide)⟩
 simp [Value.cells] at hcs
 obtain ⟨rfl, rfl, rfl⟩ := hcs
 simp only [Prod.mk.injEq] at hx
 obtain ⟨rfl, rfl⟩ := hx
 simp only [if_true] at hmm
 subst hmm
 have hreach := hsz _ _ rfl
 rw [nodeBytes] at hreach
 simp only [List.length_map, List.length_range, reachBytes] at hreach
 rw [nodeCells] at hi hlt
 obtain ⟨b, off, spot⟩ := a
 have hc : ∀ i : Nat, ∃ o x y : Int, i < m → W.cell? ((⟨b, off, spot⟩ : Addr).add (i * 3)) = some (.int .i64 o) ∧ W.cell? (((⟨b, off, spot⟩ : Addr).add (i * 3)).add 1) = some (.int .i64 x) ∧ W.cell? (((⟨b, off, spot⟩ : Addr).add (i * 3)).add 2) = some (.int .i64 y) := by
  intro i
  by_cases him : i < m
  · obtain ⟨cs', hc, ht⟩ := hi i him
    obtain ⟨o, x, y, rfl⟩ := node_at ht
    obtain ⟨_, _, hat⟩ := World.cells?_some hc
    refine ⟨o, x, y, fun _ => ⟨?_, hat 1 (by omega), hat 2 (by omega)⟩⟩
    have h0 := hat 0 (by omega)
    rwa [show (((⟨b, off, spot⟩ : Addr).add (i * 3)).add 0) = (⟨b, off, spot⟩ : Addr).add (i * 3) from by simp [Go.Deep.add_add]] at h0
  exact ⟨0, 0, 0, fun h => absurd h him⟩
 have hn : ∃ N : Nat → Nd, ∀ i, i < m → W.cell? ((⟨b, off, spot⟩ : Addr).add (i * 3)) = some (.int .i64 (N i).op) ∧ W.cell? (((⟨b, off, spot⟩ : Addr).add (i * 3)).add 1) = some (.int .i64 (N i).a) ∧ W.cell? (((⟨b, off, spot⟩ : Addr).add (i * 3)).add 2) = some (.int .i64 (N i).b) :=
  ⟨fun i => ⟨(hc i).choose, (hc i).choose_spec.choose, (hc i).choose_spec.choose_spec.choose⟩, fun i him => (hc i).choose_spec.choose_spec.choose_spec him⟩
 obtain ⟨N, hN⟩ := hn
 refine ⟨_, _, _, (List.range len).map N, rfl, by simp, hl, by omega, (fun e => by cases e), fun hpos => ?_⟩
 have hspot : spot = none := by simpa [Addr.add] using World.cell?_spot (hN 0 (by omega)).1
 subst hspot
 have hb : b < W.heap.size := hlt (.cell b off) (List.mem_append.2 (.inl (MemPlace.mem_row.2 ⟨0, by omega, by simp⟩)))
 refine ⟨b, off, rfl, hb, fun k hk => ?_⟩
 simp only [List.length_map, List.length_range] at hk
 have hnk : nth ((List.range len).map N) k = N k := by
  rw [nth_eq (by simpa using hk)]
  simp
 obtain ⟨q0, q1, q2⟩ := hN k (by omega)
 rw [add_plain] at q0 q1 q2
 rw [add_plain] at q1 q2
 rw [hnk]
 exact ⟨q0, q1, q2⟩
theorem shut_true {W : World} {base : Nat} {sp : Nat → Bool} {held : Bool} : DataW.Trod enc Try.prog W base sp held 4 (.bool true) (.lit (.bool true)) [] := ⟨1, by simp [DataW.trod, Value.cells, Try.underlying4]⟩
end
end Go.Proofs.Ytjllmblbbgojbaa
