/- A book that was handed in, opened: it reads as a book in memory. -/
import Derived.Test.YtjoddliplahgkaaDJoin
import Derived.Test.YtjoddliplahgkaaDBooks
namespace Go.Proofs.Ytjoddliplahgkaa
set_option maxRecDepth 100000
open Go.ChangeShapes Go.WideShapes Go.ChangeAt Go.RowKit Go.Deep
theorem weightsAll_in {H : Type} {P : Program} {e : TypeId} {n : Nat} : ∀ {l : List (DataW H)} {d : DataW H}, d ∈ l → n ∈ d.weights P e → n ∈ DataW.weightsAll P e l
 | [], _, h, _ => by cases h
 | x :: l, d, h, hn => by
  simp only [DataW.weightsAll, List.mem_append]
  rcases List.mem_cons.1 h with rfl | h
  · exact .inl hn
  · exact .inr (weightsAll_in h hn)
section
variable {H : Type} {enc : TypeId × Value → H}
theorem open_gen {P : Program} {W : World} {held : Bool} {t e : TypeId} (C B : Nat) (ht : P.underlying t = some (.slice e)) (hC : P.cellsOf e = C) (hB : P.bytesOf e = B) (hC0 : 0 < C) {X : Type} [Inhabited X] (Rd : Nat → Nat → X → Prop)
 (helem : ∀ (fuel : Nat) (cs : List Value) (d : DataW H) (pl : List MemPlace) (b off : Nat), DataW.trod enc P W 0 (fun _ => true) held fuel e cs = some (d, pl) → cs.length = C → (∀ j, j < C → W.cell? ⟨b, off + j, none⟩ = cs[j]?) → (∀ n ∈ d.weights P e, n ≤ reachBytes) → (∀ x ∈ pl, x.block < W.heap.size) → ∃ x, Rd b off x)
 {fuel : Nat} {cs : List Value} {d : DataW H} {p : List MemPlace} (h : DataW.trod enc P W 0 (fun _ => true) held fuel t cs = some (d, p)) (hw : ∀ n ∈ d.weights P t, n ≤ reachBytes) (hlt : ∀ x ∈ p, x.block < W.heap.size) :
 ∃ A n c, ∃ xs : List X, cs = [.slice A n c] ∧ xs.length = n ∧ n ≤ c ∧ n * B ≤ reachBytes ∧ (A = none → c = 0) ∧ (0 < n → ∃ b off, A = some ⟨b, off, none⟩ ∧ b < W.heap.size ∧ ∀ k, k < n → Rd b (off + k * C) (xs.getD k default)) := by
 rcases open_slice ht h with ⟨rfl, hx⟩ | ⟨a, len, cap, m, n, D, Pl, rfl, _, hl, hm, hmm, hx, hi⟩
 · exact ⟨none, 0, 0, [], rfl, rfl, Nat.le_refl _, by simp, fun _ => rfl, fun h => absurd h (by decide)⟩
 simp only [Prod.mk.injEq] at hx
 obtain ⟨rfl, rfl⟩ := hx
 simp only [if_true] at hmm
 subst hmm
 have hww : DataW.weights P t (DataW.slice ((List.range len).map D) ((List.range (m - len)).map fun j => D (len + j))) = (((List.range len).map D).length + ((List.range (m - len)).map fun j => D (len + j)).length) * P.bytesOf e :: (DataW.weightsAll P e ((List.range len).map D) ++ DataW.weightsAll P e ((List.range (m - len)).map fun j => D (len + j))) := by
  simp only [DataW.weights, ht]
 rw [hww] at hw
 have hreach := hw _ (List.mem_cons_self ..)
 rw [hB] at hreach
 simp only [List.length_map, List.length_range] at hreach
 rw [hC] at hi hlt
 obtain ⟨b, off, spot⟩ := a
 have hbytes : len * B ≤ reachBytes := Nat.le_trans (Nat.mul_le_mul_right _ (by omega)) hreach
 by_cases hpos : 0 < len
 rotate_left
 · obtain rfl : len = 0 := by omega
   exact ⟨_, _, _, [], rfl, rfl, hl, hbytes, (fun e => by cases e), fun h => absurd h hpos⟩
 have hspot : spot = none := by
  obtain ⟨cs', hc, htr⟩ := hi 0 (by omega)
  obtain ⟨_, hcl, hat⟩ := World.cells?_some hc
  have h0 := hat 0 hC0
  rw [List.getElem?_eq_getElem (by omega)] at h0
  simpa [Addr.add] using World.cell?_spot h0
 subst hspot
 have hb : b < W.heap.size := hlt (.cell b off) (List.mem_append.2 (.inl (MemPlace.mem_row.2 ⟨0, Nat.mul_pos (by omega) hC0, by simp⟩)))
 have hrow : ∀ i : Nat, ∃ x : X, i < len → Rd b (off + i * C) x := by
  intro i
  by_cases hil : i < len
  · obtain ⟨cs', hc, htr⟩ := hi i (by omega)
    obtain ⟨_, hcl, hat⟩ := World.cells?_some hc
    have hmem : D i ∈ (List.range len).map D := List.mem_map.2 ⟨i, by simpa using hil, rfl⟩
    obtain ⟨x, hx⟩ := helem n cs' (D i) (Pl i) b (off + i * C) htr hcl (fun j hj => by
     have := hat j hj
     rw [add_plain, add_plain] at this
     exact this) (fun k hk => hw k (List.mem_cons_of_mem _ (List.mem_append_left _ (weightsAll_in hmem hk)))) (fun x hx => hlt x (List.mem_append_right _ (List.mem_flatMap.2 ⟨i, by simp; omega, hx⟩)))
    exact ⟨x, fun _ => hx⟩
  exact ⟨default, fun h => absurd h hil⟩
 refine ⟨_, _, _, (List.range len).map fun i => (hrow i).choose, rfl, by simp, hl, hbytes, (fun e => by cases e), fun _ => ⟨b, off, rfl, hb, fun k hk => ?_⟩⟩
 have := (hrow k).choose_spec hk
 simpa [hk] using this
theorem termCells : Try.prog.cellsOf 29 = 1 := by kernel_rfl
theorem termBytes : Try.prog.bytesOf 29 = 24 := by kernel_rfl
def NodeAt (W : World) (b off : Nat) (x : Nd) : Prop := W.cell? ⟨b, off, none⟩ = some (.int .i64 x.op) ∧ W.cell? ⟨b, off + 1, none⟩ = some (.int .i64 x.a) ∧ W.cell? ⟨b, off + 2, none⟩ = some (.int .i64 x.b)
theorem open_node {W : World} {held : Bool} (fuel : Nat) (cs : List Value) (d : DataW H) (pl : List MemPlace) (b off : Nat) (h : DataW.trod enc Try.prog W 0 (fun _ => true) held fuel 50 cs = some (d, pl)) (_ : cs.length = 3) (hc : ∀ j, j < 3 → W.cell? ⟨b, off + j, none⟩ = cs[j]?) : ∃ x, NodeAt W b off x := by
 obtain ⟨o, a, c, rfl⟩ := node_at h
 exact ⟨⟨o, a, c⟩, hc 0 (by omega), hc 1 (by omega), hc 2 (by omega)⟩
theorem term_of {W : World} {A : Option Addr} {n c : Nat} {xs : List Nd} (h1 : xs.length = n) (h2 : n ≤ c) (h3 : n * 24 ≤ reachBytes) (h4 : A = none → c = 0) (h5 : 0 < n → ∃ b off, A = some ⟨b, off, none⟩ ∧ b < W.heap.size ∧ ∀ k, k < n → NodeAt W b (off + k * 3) (xs.getD k default)) : TermV W A n c xs :=
 ⟨h1, h2, by simp only [reachBytes] at h3; omega, h4, fun hn => by
  obtain ⟨b, off, e, hb, hk⟩ := h5 hn
  exact ⟨b, off, e, hb, fun k hkl => hk k (by omega)⟩⟩
theorem open_term3 {W : World} {held : Bool} {fuel : Nat} {cs : List Value} {d : DataW H} {p : List MemPlace} (h : DataW.trod enc Try.prog W 0 (fun _ => true) held fuel 29 cs = some (d, p)) (hw : ∀ n ∈ d.weights Try.prog 29, n ≤ reachBytes) (hlt : ∀ x ∈ p, x.block < W.heap.size) : ∃ A n c l, cs = [.slice A n c] ∧ TermV W A n c l := by
 obtain ⟨A, n, c, xs, e, h1, h2, h3, h4, h5⟩ := open_gen 3 24 Try.underlying29 nodeCells nodeBytes (by decide) (NodeAt W) (fun f cs d pl b off a1 a2 a3 _ _ => open_node f cs d pl b off a1 a2 a3) h hw hlt
 exact ⟨A, n, c, xs, e, term_of h1 h2 h3 h4 h5⟩
theorem open_rows3 {W : World} {held : Bool} {fuel : Nat} {cs : List Value} {d : DataW H} {p : List MemPlace} (h : DataW.trod enc Try.prog W 0 (fun _ => true) held fuel 59 cs = some (d, p)) (hw : ∀ n ∈ d.weights Try.prog 59, n ≤ reachBytes) (hlt : ∀ x ∈ p, x.block < W.heap.size) : ∃ A n c l, cs = [.slice A n c] ∧ RowsV W A n c l := by
 obtain ⟨A, n, c, xs, e, h1, h2, h3, h4, h5⟩ := open_gen 1 24 Try.underlying59 termCells termBytes (by decide) (X := List Nd) (fun b off l => ∃ A n c, W.cell? ⟨b, off, none⟩ = some (.slice A n c) ∧ TermV W A n c l) (fun f cs d pl b off a1 a2 a3 a4 a5 => by
  obtain ⟨A, n, c, l, rfl, ht⟩ := open_term3 a1 a4 a5
  exact ⟨l, A, n, c, a3 0 (by omega), ht⟩) h hw hlt
 refine ⟨A, n, c, xs, e, h1, by simp only [reachBytes] at h3; omega, fun hn => ?_⟩
 obtain ⟨b, off, e, hb, hk⟩ := h5 hn
 exact ⟨b, off, e, hb, fun k hkn => by
  have := hk k hkn
  rw [Nat.mul_one] at this
  exact this⟩
theorem rowsCells : Try.prog.cellsOf 59 = 1 := by kernel_rfl
theorem ctorCells : Try.prog.cellsOf 65 = 2 := by kernel_rfl
theorem ctorBytes : Try.prog.bytesOf 65 = 48 := by kernel_rfl
theorem ctorsCells : Try.prog.cellsOf 60 = 1 := by kernel_rfl
theorem entryCells : Try.prog.cellsOf 62 = 7 := by kernel_rfl
theorem entryBytes : Try.prog.bytesOf 62 = 152 := by kernel_rfl
theorem orderCells : Try.prog.cellsOf 139 = 3 := by kernel_rfl
theorem orderBytes : Try.prog.bytesOf 139 = 24 := by kernel_rfl
theorem primCells : Try.prog.cellsOf 115 = 2 := by kernel_rfl
theorem primBytes : Try.prog.bytesOf 115 = 16 := by kernel_rfl
theorem bookCells : Try.prog.cellsOf 26 = 5 := by kernel_rfl
theorem ordersCells : Try.prog.cellsOf 22 = 1 := by kernel_rfl
theorem entriesCells : Try.prog.cellsOf 23 = 1 := by kernel_rfl
theorem primsCells : Try.prog.cellsOf 24 = 1 := by kernel_rfl
theorem part_w {P : Program} {t : TypeId} {fs : Array Field} {ds : List (DataW H)} {j : Nat} {u : TypeId} {d : DataW H} (ht : P.underlying t = some (.struct fs)) (hj : (fs.toList.map (·.type))[j]? = some u) (hd : ds[j]? = some d) (hw : ∀ n ∈ (DataW.agg ds).weights P t, n ≤ reachBytes) : ∀ n ∈ d.weights P u, n ≤ reachBytes := fun n hn => hw n (by
 simp only [DataW.weights, ht]
 exact DataW.weights_mem_each hj hd n hn)
theorem open_ctor {W : World} {held : Bool} (fuel : Nat) (cs : List Value) (d : DataW H) (pl : List MemPlace) (b off : Nat) (h : DataW.trod enc Try.prog W 0 (fun _ => true) held fuel 65 cs = some (d, pl)) (hl : cs.length = 2) (hc : ∀ j, j < 2 → W.cell? ⟨b, off + j, none⟩ = cs[j]?) (hw : ∀ n ∈ d.weights Try.prog 65, n ≤ reachBytes) (hlt : ∀ x ∈ pl, x.block < W.heap.size) :
 ∃ x : Ct, ∃ A1 n1 c1 A2 n2 c2, W.cell? ⟨b, off, none⟩ = some (.slice A1 n1 c1) ∧ W.cell? ⟨b, off + 1, none⟩ = some (.slice A2 n2 c2) ∧ RowsV W A1 n1 c1 x.args ∧ RowsV W A2 n2 c2 x.outs := by
 obtain ⟨xs, m, _, hd, _, hxs, hf⟩ := DataW.trod_struct Try.underlying65 h
 have g0 : DataW.trod enc Try.prog W 0 (fun _ => true) held m 59 ((cs.drop 0).take (Try.prog.cellsOf 59)) = xs[0]? := hf 0 _ rfl
 have g1 : DataW.trod enc Try.prog W 0 (fun _ => true) held m 59 ((cs.drop 1).take (Try.prog.cellsOf 59)) = xs[1]? := hf 1 _ rfl
 have hx2 : xs.length = 2 := hxs
 rw [rowsCells] at g0 g1
 simp only [Prod.mk.injEq] at hd
 obtain ⟨rfl, rfl⟩ := hd
 match cs, hl, xs, hx2, g0, g1, hw, hlt, hc with
 | [c0, c1], _, [y0, y1], _, g0, g1, hw, hlt, hc =>
  obtain ⟨A1, n1, k1, l1, e1, r1⟩ := open_rows3 (d := y0.1) (p := y0.2) g0 (part_w (j := 0) Try.underlying65 rfl rfl hw) (fun x hx => hlt x (by simp [hx]))
  obtain ⟨A2, n2, k2, l2, e2, r2⟩ := open_rows3 (d := y1.1) (p := y1.2) g1 (part_w (j := 1) Try.underlying65 rfl rfl hw) (fun x hx => hlt x (by simp [hx]))
  have e1' : c0 = .slice A1 n1 k1 := by simpa using e1
  have e2' : c1 = .slice A2 n2 k2 := by simpa using e2
  subst e1' e2'
  exact ⟨⟨l1, l2⟩, A1, n1, k1, A2, n2, k2, hc 0 (by omega), hc 1 (by omega), r1, r2⟩
theorem open_ctors3 {W : World} {held : Bool} {fuel : Nat} {cs : List Value} {d : DataW H} {p : List MemPlace} (h : DataW.trod enc Try.prog W 0 (fun _ => true) held fuel 60 cs = some (d, p)) (hw : ∀ n ∈ d.weights Try.prog 60, n ≤ reachBytes) (hlt : ∀ x ∈ p, x.block < W.heap.size) : ∃ A n c l, cs = [.slice A n c] ∧ CtsV W A n c l := by
 obtain ⟨A, n, c, xs, e, h1, h2, h3, h4, h5⟩ := open_gen 2 48 Try.underlying60 ctorCells ctorBytes (by decide) (X := Ct) _ open_ctor h hw hlt
 exact ⟨A, n, c, xs, e, h1, by simp only [reachBytes] at h3; omega, h5⟩
theorem open_entry {W : World} {held : Bool} (fuel : Nat) (cs : List Value) (d : DataW H) (pl : List MemPlace) (b off : Nat) (h : DataW.trod enc Try.prog W 0 (fun _ => true) held fuel 62 cs = some (d, pl)) (hl : cs.length = 7) (hc : ∀ j, j < 7 → W.cell? ⟨b, off + j, none⟩ = cs[j]?) (hw : ∀ n ∈ d.weights Try.prog 62, n ≤ reachBytes) (hlt : ∀ x ∈ pl, x.block < W.heap.size) :
 ∃ x : En, ∃ v : EnVal, (W.cell? ⟨b, off, none⟩ = some (.int .i64 x.kind) ∧ W.cell? ⟨b, off + 1, none⟩ = some (.slice v.As v.ns v.cs) ∧ W.cell? ⟨b, off + 2, none⟩ = some (.slice v.Ap v.np v.cp) ∧ W.cell? ⟨b, off + 3, none⟩ = some (.slice v.Ai v.ni v.ci) ∧ W.cell? ⟨b, off + 4, none⟩ = some (.slice v.Ac v.nc v.cc) ∧ W.cell? ⟨b, off + 5, none⟩ = some (.slice v.At v.nt v.ct) ∧ W.cell? ⟨b, off + 6, none⟩ = some (.slice v.Ab v.nb v.cb) ∧ EnC W v x) ∧ (Lit.int .i64 x.kind).wf = true := by
 obtain ⟨xs, m, _, hd, _, hxs, hf⟩ := DataW.trod_struct Try.underlying62 h
 have g0 : DataW.trod enc Try.prog W 0 (fun _ => true) held m 3 ((cs.drop 0).take (Try.prog.cellsOf 3)) = xs[0]? := hf 0 _ rfl
 have g1 : DataW.trod enc Try.prog W 0 (fun _ => true) held m 29 ((cs.drop 1).take (Try.prog.cellsOf 29)) = xs[1]? := hf 1 _ rfl
 have g2 : DataW.trod enc Try.prog W 0 (fun _ => true) held m 59 ((cs.drop 2).take (Try.prog.cellsOf 59)) = xs[2]? := hf 2 _ rfl
 have g3 : DataW.trod enc Try.prog W 0 (fun _ => true) held m 59 ((cs.drop 3).take (Try.prog.cellsOf 59)) = xs[3]? := hf 3 _ rfl
 have g4 : DataW.trod enc Try.prog W 0 (fun _ => true) held m 60 ((cs.drop 4).take (Try.prog.cellsOf 60)) = xs[4]? := hf 4 _ rfl
 have g5 : DataW.trod enc Try.prog W 0 (fun _ => true) held m 29 ((cs.drop 5).take (Try.prog.cellsOf 29)) = xs[5]? := hf 5 _ rfl
 have g6 : DataW.trod enc Try.prog W 0 (fun _ => true) held m 29 ((cs.drop 6).take (Try.prog.cellsOf 29)) = xs[6]? := hf 6 _ rfl
 have hx7 : xs.length = 7 := hxs
 rw [intCells] at g0
 rw [termCells] at g1 g5 g6
 rw [rowsCells] at g2 g3
 rw [ctorsCells] at g4
 simp only [Prod.mk.injEq] at hd
 obtain ⟨rfl, rfl⟩ := hd
 match cs, hl, xs, hx7, g0, g1, g2, g3, g4, g5, g6, hw, hlt, hc with
 | [c0, c1, c2, c3, c4, c5, c6], _, [y0, y1, y2, y3, y4, y5, y6], _, g0, g1, g2, g3, g4, g5, g6, hw, hlt, hc =>
  have U := Try.underlying62
  obtain ⟨o, e0, _, wo⟩ := DataW.trod_int Try.underlying3 (x := y0) g0
  obtain ⟨A1, n1, k1, l1, e1, r1⟩ := open_term3 (d := y1.1) (p := y1.2) g1 (part_w (j := 1) U rfl rfl hw) (fun x hx => hlt x (by simp [hx]))
  obtain ⟨A2, n2, k2, l2, e2, r2⟩ := open_rows3 (d := y2.1) (p := y2.2) g2 (part_w (j := 2) U rfl rfl hw) (fun x hx => hlt x (by simp [hx]))
  obtain ⟨A3, n3, k3, l3, e3, r3⟩ := open_rows3 (d := y3.1) (p := y3.2) g3 (part_w (j := 3) U rfl rfl hw) (fun x hx => hlt x (by simp [hx]))
  obtain ⟨A4, n4, k4, l4, e4, r4⟩ := open_ctors3 (d := y4.1) (p := y4.2) g4 (part_w (j := 4) U rfl rfl hw) (fun x hx => hlt x (by simp [hx]))
  obtain ⟨A5, n5, k5, l5, e5, r5⟩ := open_term3 (d := y5.1) (p := y5.2) g5 (part_w (j := 5) U rfl rfl hw) (fun x hx => hlt x (by simp [hx]))
  obtain ⟨A6, n6, k6, l6, e6, r6⟩ := open_term3 (d := y6.1) (p := y6.2) g6 (part_w (j := 6) U rfl rfl hw) (fun x hx => hlt x (by simp [hx]))
  have e0' : c0 = .int .i64 o := by simpa using e0
  have e1' : c1 = .slice A1 n1 k1 := by simpa using e1
  have e2' : c2 = .slice A2 n2 k2 := by simpa using e2
  have e3' : c3 = .slice A3 n3 k3 := by simpa using e3
  have e4' : c4 = .slice A4 n4 k4 := by simpa using e4
  have e5' : c5 = .slice A5 n5 k5 := by simpa using e5
  have e6' : c6 = .slice A6 n6 k6 := by simpa using e6
  subst e0' e1' e2' e3' e4' e5' e6'
  exact ⟨⟨o, l1, l2, l3, l4, l5, l6⟩, ⟨A1, n1, k1, A2, n2, k2, A3, n3, k3, A4, n4, k4, A5, n5, k5, A6, n6, k6⟩, ⟨hc 0 (by omega), hc 1 (by omega), hc 2 (by omega), hc 3 (by omega), hc 4 (by omega), hc 5 (by omega), hc 6 (by omega), r1, r2, r3, r4, r5, r6⟩, wo⟩
theorem open_entries3 {W : World} {held : Bool} {fuel : Nat} {cs : List Value} {d : DataW H} {p : List MemPlace} (h : DataW.trod enc Try.prog W 0 (fun _ => true) held fuel 23 cs = some (d, p)) (hw : ∀ n ∈ d.weights Try.prog 23, n ≤ reachBytes) (hlt : ∀ x ∈ p, x.block < W.heap.size) : ∃ A n c l, cs = [.slice A n c] ∧ EnsV W A n c l ∧ ∀ x ∈ l, (Lit.int .i64 x.kind).wf = true := by
 obtain ⟨A, n, c, xs, e, h1, h2, h3, h4, h5⟩ := open_gen 7 152 Try.underlying23 entryCells entryBytes (by decide) (X := En) _ open_entry h hw hlt
 refine ⟨A, n, c, xs, e, ⟨h1, by simp only [reachBytes] at h3; omega, fun hn => ?_⟩, fun x hx => ?_⟩
 · obtain ⟨b, off, e, hb, hk⟩ := h5 hn
   refine ⟨b, off, e, hb, fun k hkn => ?_⟩
   obtain ⟨v, hv, _⟩ := hk k hkn
   exact ⟨v, hv⟩
 obtain ⟨k, hk, rfl⟩ := List.getElem_of_mem hx
 obtain ⟨b, off, e, hb, hkk⟩ := h5 (by omega)
 obtain ⟨v, _, hv⟩ := hkk k (by omega)
 rwa [List.getD_eq_getElem?_getD, List.getElem?_eq_getElem hk] at hv
theorem open_order {W : World} {held : Bool} (fuel : Nat) (cs : List Value) (d : DataW H) (pl : List MemPlace) (b off : Nat) (h : DataW.trod enc Try.prog W 0 (fun _ => true) held fuel 139 cs = some (d, pl)) (hl : cs.length = 3) (hc : ∀ j, j < 3 → W.cell? ⟨b, off + j, none⟩ = cs[j]?) : ∃ x, NodeAt W b off x := by
 obtain ⟨xs, m, _, _, _, hxs, hf⟩ := DataW.trod_struct Try.underlying139 h
 have g0 : DataW.trod enc Try.prog W 0 (fun _ => true) held m 3 ((cs.drop 0).take (Try.prog.cellsOf 3)) = xs[0]? := hf 0 _ rfl
 have g1 : DataW.trod enc Try.prog W 0 (fun _ => true) held m 3 ((cs.drop 1).take (Try.prog.cellsOf 3)) = xs[1]? := hf 1 _ rfl
 have g2 : DataW.trod enc Try.prog W 0 (fun _ => true) held m 3 ((cs.drop 2).take (Try.prog.cellsOf 3)) = xs[2]? := hf 2 _ rfl
 have hx3 : xs.length = 3 := hxs
 rw [intCells] at g0 g1 g2
 match cs, hl, xs, hx3, g0, g1, g2, hc with
 | [c0, c1, c2], _, [y0, y1, y2], _, g0, g1, g2, hc =>
  obtain ⟨o, ho, _⟩ := DataW.trod_int Try.underlying3 (x := y0) g0
  obtain ⟨a, ha, _⟩ := DataW.trod_int Try.underlying3 (x := y1) g1
  obtain ⟨z, hz, _⟩ := DataW.trod_int Try.underlying3 (x := y2) g2
  simp at ho ha hz
  subst ho ha hz
  exact ⟨⟨o, a, z⟩, hc 0 (by omega), hc 1 (by omega), hc 2 (by omega)⟩
theorem open_orders3 {W : World} {held : Bool} {fuel : Nat} {cs : List Value} {d : DataW H} {p : List MemPlace} (h : DataW.trod enc Try.prog W 0 (fun _ => true) held fuel 22 cs = some (d, p)) (hw : ∀ n ∈ d.weights Try.prog 22, n ≤ reachBytes) (hlt : ∀ x ∈ p, x.block < W.heap.size) : ∃ A n c l, cs = [.slice A n c] ∧ TermV W A n c l := by
 obtain ⟨A, n, c, xs, e, h1, h2, h3, h4, h5⟩ := open_gen 3 24 Try.underlying22 orderCells orderBytes (by decide) (NodeAt W) (fun f cs d pl b off a1 a2 a3 _ _ => open_order f cs d pl b off a1 a2 a3) h hw hlt
 exact ⟨A, n, c, xs, e, term_of h1 h2 h3 h4 h5⟩
theorem open_prim {W : World} {held : Bool} (fuel : Nat) (cs : List Value) (d : DataW H) (pl : List MemPlace) (b off : Nat) (h : DataW.trod enc Try.prog W 0 (fun _ => true) held fuel 115 cs = some (d, pl)) (hl : cs.length = 2) (hc : ∀ j, j < 2 → W.cell? ⟨b, off + j, none⟩ = cs[j]?) :
 ∃ x : Int × Int, (W.cell? ⟨b, off, none⟩ = some (.int .i64 x.1) ∧ W.cell? ⟨b, off + 1, none⟩ = some (.int .i64 x.2)) ∧ (Lit.int .i64 x.1).wf = true ∧ (Lit.int .i64 x.2).wf = true := by
 obtain ⟨xs, m, _, _, _, hxs, hf⟩ := DataW.trod_struct Try.underlying115 h
 have g0 : DataW.trod enc Try.prog W 0 (fun _ => true) held m 3 ((cs.drop 0).take (Try.prog.cellsOf 3)) = xs[0]? := hf 0 _ rfl
 have g1 : DataW.trod enc Try.prog W 0 (fun _ => true) held m 3 ((cs.drop 1).take (Try.prog.cellsOf 3)) = xs[1]? := hf 1 _ rfl
 have hx2 : xs.length = 2 := hxs
 rw [intCells] at g0 g1
 match cs, hl, xs, hx2, g0, g1, hc with
 | [c0, c1], _, [y0, y1], _, g0, g1, hc =>
  obtain ⟨o, ho, _, w0⟩ := DataW.trod_int Try.underlying3 (x := y0) g0
  obtain ⟨a, ha, _, w1⟩ := DataW.trod_int Try.underlying3 (x := y1) g1
  simp at ho ha
  subst ho ha
  exact ⟨(o, a), ⟨hc 0 (by omega), hc 1 (by omega)⟩, w0, w1⟩
theorem open_prims3 {W : World} {held : Bool} {fuel : Nat} {cs : List Value} {d : DataW H} {p : List MemPlace} (h : DataW.trod enc Try.prog W 0 (fun _ => true) held fuel 24 cs = some (d, p)) (hw : ∀ n ∈ d.weights Try.prog 24, n ≤ reachBytes) (hlt : ∀ x ∈ p, x.block < W.heap.size) : ∃ A n c l, cs = [.slice A n c] ∧ PrsV W A n c l ∧ (∀ p ∈ l, (Lit.int .i64 p.1).wf = true ∧ (Lit.int .i64 p.2).wf = true) ∧ (A = none → c = 0) := by
 obtain ⟨A, n, c, xs, e, h1, h2, h3, h4, h5⟩ := open_gen 2 16 Try.underlying24 primCells primBytes (by decide) (X := Int × Int) _ (fun f cs d pl b off a1 a2 a3 _ _ => open_prim (W := W) f cs d pl b off a1 a2 a3) h hw hlt
 refine ⟨A, n, c, xs, e, ⟨h1, by simp only [reachBytes] at h3; omega, fun hn => ?_⟩, fun x hx => ?_, h4⟩
 · obtain ⟨b, off, e, hb, hk⟩ := h5 hn
   exact ⟨b, off, e, hb, fun k hkn => (hk k hkn).1⟩
 obtain ⟨k, hk, rfl⟩ := List.getElem_of_mem hx
 obtain ⟨b, off, e, hb, hkk⟩ := h5 (by omega)
 have hv := (hkk k (by omega)).2
 rwa [List.getD_eq_getElem?_getD, List.getElem?_eq_getElem hk] at hv
end
end Go.Proofs.Ytjoddliplahgkaa
