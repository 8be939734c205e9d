/- A list of rows that was handed in, opened. -/
import Derived.Test.YtnmeglbamfjcgaaJoin
import Derived.Test.YtnmeglbamfjcgaaLists
namespace Go.Proofs.Ytnmeglbamfjcgaa
open Go.ChangeShapes Go.WideShapes Go.ChangeAt Go.RowKit Go.Deep

theorem termCells : Try.prog.cellsOf 23 = 1 := by kernel_rfl
theorem termBytes : Try.prog.bytesOf 23 = 24 := by kernel_rfl
theorem weightsAll_mem {H : Type} {P : Program} {e : TypeId} {n : Nat} : ∀ {l : List (DataW H)} {d : DataW H}, d ∈ l → n ∈ d.weights P e → n ∈ DataW.weightsAll P e l
  | [], _, h, _ => by cases h
  | x :: l, d, h, hn => by
    simp only [DataW.weightsAll, List.mem_append]
    rcases List.mem_cons.1 h with rfl | h
    · exact .inl hn
    · exact .inr (weightsAll_mem h hn)

section
variable {H : Type} {enc : TypeId × Value → H}

theorem open_term2 {W : World} {held : Bool} {v : Value} {d : DataW H} {p : List MemPlace} (hv : ∃ a0 len cap, v = .slice a0 len cap) (h : DataW.Trod enc Try.prog W 0 (fun _ => true) held 23 v d p)
    (hsz : ∀ es sp, d = .slice es sp → (es.length + sp.length) * Try.prog.bytesOf 53 ≤ reachBytes) (hlt : ∀ x ∈ p, x.block < W.heap.size) :
    ∃ A n c l, v = .slice A n c ∧ TermV W A n c l := by
  obtain ⟨a0, len, cap, rfl⟩ := hv
  obtain ⟨fuel, hf⟩ := h
  rcases open_slice Try.underlying23 hf with ⟨hcs, hx⟩ | ⟨a, len', cap', m, n, D, Pl, hcs, _, hl, hm, hmm, hx, hi⟩
  · simp [Value.cells] at hcs
    obtain ⟨rfl, rfl, rfl⟩ := hcs
    exact ⟨none, 0, 0, [], rfl, rfl, Nat.le_refl _, by decide, fun _ => rfl, fun h => absurd h (by decide)⟩
  · simp [Value.cells] at hcs
    obtain ⟨rfl, rfl, rfl⟩ := hcs
    simp only [Prod.mk.injEq] at hx
    obtain ⟨rfl, rfl⟩ := hx
    simp only [if_true] at hmm
    subst hmm
    have hreach := hsz _ _ rfl
    rw [nodeBytes] at hreach
    simp only [List.length_map, List.length_range, reachBytes] at hreach
    rw [nodeCells] at hi hlt
    obtain ⟨b, off, spot⟩ := a
    have hc : ∀ i : Nat, ∃ o x y : Int, i < m → W.cell? ((⟨b, off, spot⟩ : Addr).add (i * 3)) = some (.int .i64 o) ∧ W.cell? (((⟨b, off, spot⟩ : Addr).add (i * 3)).add 1) = some (.int .i64 x) ∧ W.cell? (((⟨b, off, spot⟩ : Addr).add (i * 3)).add 2) = some (.int .i64 y) := by
      intro i
      by_cases him : i < m
      · obtain ⟨cs', hc, ht⟩ := hi i him
        obtain ⟨o, x, y, rfl⟩ := node_at ht
        obtain ⟨_, _, hat⟩ := World.cells?_some hc
        refine ⟨o, x, y, fun _ => ⟨?_, hat 1 (by omega), hat 2 (by omega)⟩⟩
        have h0 := hat 0 (by omega)
        rwa [show (((⟨b, off, spot⟩ : Addr).add (i * 3)).add 0) = (⟨b, off, spot⟩ : Addr).add (i * 3) from by simp [Go.Deep.add_add]] at h0
      · exact ⟨0, 0, 0, fun h => absurd h him⟩
    have hn : ∃ N : Nat → Nd, ∀ i, i < m → W.cell? ((⟨b, off, spot⟩ : Addr).add (i * 3)) = some (.int .i64 (N i).op) ∧ W.cell? (((⟨b, off, spot⟩ : Addr).add (i * 3)).add 1) = some (.int .i64 (N i).a) ∧ W.cell? (((⟨b, off, spot⟩ : Addr).add (i * 3)).add 2) = some (.int .i64 (N i).b) :=
      ⟨fun i => ⟨(hc i).choose, (hc i).choose_spec.choose, (hc i).choose_spec.choose_spec.choose⟩, fun i him => (hc i).choose_spec.choose_spec.choose_spec him⟩
    obtain ⟨N, hN⟩ := hn
    refine ⟨_, _, _, (List.range len).map N, rfl, by simp, hl, by omega, (fun e => by cases e), fun hpos => ?_⟩
    have hspot : spot = none := by simpa [Addr.add] using World.cell?_spot (hN 0 (by omega)).1
    subst hspot
    have hb : b < W.heap.size := hlt (.cell b off) (List.mem_append.2 (.inl (MemPlace.mem_row.2 ⟨0, by omega, by simp⟩)))
    refine ⟨b, off, rfl, hb, fun k hk => ?_⟩
    simp only [List.length_map, List.length_range] at hk
    have hnk : nth ((List.range len).map N) k = N k := by
      rw [nth_eq (by simpa using hk)]
      simp
    obtain ⟨q0, q1, q2⟩ := hN k (by omega)
    rw [add_plain] at q0 q1 q2
    rw [add_plain] at q1 q2
    rw [hnk]
    exact ⟨q0, q1, q2⟩


theorem open_rows {W : World} {base : Nat} {held : Bool} {v : Value} {d : DataW H} {p : List MemPlace} (hv : Value.okWide Try.prog W .any base 41 v) (h : DataW.Trod enc Try.prog W 0 (fun _ => true) held 41 v d p)
    (hsz : ∀ n ∈ d.weights Try.prog 41, n ≤ reachBytes) (hlt : ∀ x ∈ p, x.block < W.heap.size) :
    ∃ A n c ls, v = .slice A n c ∧ RowsR (· < W.heap.size) W A n c ls ∧ n ≤ c ∧ (A = none → c = 0) := by
  obtain ⟨a0, len, cap, rfl⟩ := okWide_slice Try.underlying41 hv
  obtain ⟨fuel, hf⟩ := h
  rcases open_slice1 Try.underlying41 termCells hf with ⟨hcs, hx⟩ | ⟨a, len', cap', m, n, V, D, Pl, hcs, _, hl, hm, hmm, hx, hi⟩
  · simp [Value.cells] at hcs
    obtain ⟨rfl, rfl, rfl⟩ := hcs
    exact ⟨none, 0, 0, [], rfl, ⟨rfl, by decide, fun h => absurd h (by decide)⟩, Nat.le_refl _, fun _ => rfl⟩
  · simp [Value.cells] at hcs
    obtain ⟨rfl, rfl, rfl⟩ := hcs
    simp only [Prod.mk.injEq] at hx
    obtain ⟨rfl, rfl⟩ := hx
    simp only [if_true] at hmm
    subst hmm
    have hw : DataW.weights Try.prog 41 (DataW.slice ((List.range len).map D) ((List.range (m - len)).map fun j => D (len + j))) = (((List.range len).map D).length + ((List.range (m - len)).map fun j => D (len + j)).length) * Try.prog.bytesOf 23 :: (DataW.weightsAll Try.prog 23 ((List.range len).map D) ++ DataW.weightsAll Try.prog 23 ((List.range (m - len)).map fun j => D (len + j))) := by
      simp only [DataW.weights, Try.underlying41]
    rw [hw] at hsz
    have hreach := hsz _ (List.mem_cons_self ..)
    rw [termBytes] at hreach
    simp only [List.length_map, List.length_range, reachBytes] at hreach
    obtain ⟨b, off, spot⟩ := a
    have hrow : ∀ i : Nat, ∃ l : List Nd, i < len → ∃ A' n' c', W.cell? ((⟨b, off, spot⟩ : Addr).add i) = some (.slice A' n' c') ∧ TermV W A' n' c' l := by
      intro i
      by_cases hil : i < len
      · obtain ⟨hc, ht⟩ := hi i (by omega)
        have hsl : ∃ a0 l0 c0, V i = .slice a0 l0 c0 := by
          rcases open_slice Try.underlying23 ht with ⟨hcs, _⟩ | ⟨a, len', cap', _, _, _, _, hcs, _⟩
          · exact ⟨_, _, _, by simpa using hcs⟩
          · exact ⟨_, _, _, by simpa using hcs⟩
        have htr : DataW.Trod enc Try.prog W 0 (fun _ => true) held 23 (V i) (D i) (Pl i) := ⟨n, by
          obtain ⟨a0, l0, c0, e⟩ := hsl
          rw [e] at ht ⊢
          simpa [Value.cells] using ht⟩
        obtain ⟨A', n', c', l, e, ht'⟩ := open_term2 hsl htr (fun es sp e => by
          have hmem : DataW.slice es sp ∈ (List.range len).map D := by rw [← e]; exact List.mem_map.2 ⟨i, by simpa using hil, rfl⟩
          have := hsz ((es.length + sp.length) * Try.prog.bytesOf 53) (List.mem_cons_of_mem _ (List.mem_append_left _ (weightsAll_mem hmem (by simp [DataW.weights, Try.underlying23]))))
          exact this) (fun x hx => hlt x (List.mem_append_right _ (List.mem_flatMap.2 ⟨i, by simp; omega, hx⟩)))
        exact ⟨l, fun _ => ⟨A', n', c', by rw [hc, e], ht'⟩⟩
      · exact ⟨[], fun h => absurd h hil⟩
    obtain ⟨R, hR⟩ : ∃ R : Nat → List Nd, ∀ i, i < len → ∃ A' n' c', W.cell? ((⟨b, off, spot⟩ : Addr).add i) = some (.slice A' n' c') ∧ TermV W A' n' c' (R i) := ⟨fun i => (hrow i).choose, fun i => (hrow i).choose_spec⟩
    refine ⟨_, _, _, (List.range len).map R, rfl, ⟨by simp, by omega, fun hpos => ?_⟩, hl, fun e => by cases e⟩
    obtain ⟨_, _, _, hc0, _⟩ := hR 0 hpos
    have hspot : spot = none := by simpa [Addr.add] using World.cell?_spot hc0
    subst hspot
    have hb : b < W.heap.size := hlt (.cell b off) (List.mem_append.2 (.inl (MemPlace.mem_row.2 ⟨0, by omega, by simp⟩)))
    refine ⟨b, off, rfl, hb, fun k hk => ?_⟩
    obtain ⟨A', n', c', h1, h2⟩ := hR k hk
    rw [add_plain] at h1
    exact ⟨A', n', c', h1, by simpa [hk] using h2⟩
end
end Go.Proofs.Ytnmeglbamfjcgaa
