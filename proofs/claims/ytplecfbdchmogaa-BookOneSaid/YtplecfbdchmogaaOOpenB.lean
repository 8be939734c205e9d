/- A book that was handed in, opened: it reads as a book in memory. -/
import Derived.Test.YtplecfbdchmogaaOJoin
import Derived.Test.YtplecfbdchmogaaOBooks
namespace Go.Proofs.Ytplecfbdchmogaa
open Go.ChangeShapes Go.WideShapes Go.ChangeAt Go.RowKit Go.Deep
theorem weightsAll_in {H : Type} {P : Program} {e : TypeId} {n : Nat} : ∀ {l : List (DataW H)} {d : DataW H}, d ∈ l → n ∈ d.weights P e → n ∈ DataW.weightsAll P e l
 | [], _, h, _ => by cases h
 | x :: l, d, h, hn => by
  simp only [DataW.weightsAll, List.mem_append]
  rcases List.mem_cons.1 h with rfl | h
  · exact .inl hn
  · exact .inr (weightsAll_in h hn)
section
variable {H : Type} {enc : TypeId × Value → H}
theorem open_gen {P : Program} {W : World} {held : Bool} {t e : TypeId} (C B : Nat) (ht : P.underlying t = some (.slice e)) (hC : P.cellsOf e = C) (hB : P.bytesOf e = B) (hC0 : 0 < C) {X : Type} [Inhabited X] (Rd : Nat → Nat → X → Prop)
 (helem : ∀ (fuel : Nat) (cs : List Value) (d : DataW H) (pl : List MemPlace) (b off : Nat), DataW.trod enc P W 0 (fun _ => true) held fuel e cs = some (d, pl) → cs.length = C → (∀ j, j < C → W.cell? ⟨b, off + j, none⟩ = cs[j]?) → (∀ n ∈ d.weights P e, n ≤ reachBytes) → (∀ x ∈ pl, x.block < W.heap.size) → ∃ x, Rd b off x)
 {fuel : Nat} {cs : List Value} {d : DataW H} {p : List MemPlace} (h : DataW.trod enc P W 0 (fun _ => true) held fuel t cs = some (d, p)) (hw : ∀ n ∈ d.weights P t, n ≤ reachBytes) (hlt : ∀ x ∈ p, x.block < W.heap.size) :
 ∃ A n c, ∃ xs : List X, cs = [.slice A n c] ∧ xs.length = n ∧ n ≤ c ∧ n * B ≤ reachBytes ∧ (A = none → c = 0) ∧ (0 < n → ∃ b off, A = some ⟨b, off, none⟩ ∧ b < W.heap.size ∧ ∀ k, k < n → Rd b (off + k * C) (xs.getD k default)) := by
 rcases open_slice ht h with ⟨rfl, hx⟩ | ⟨a, len, cap, m, n, D, Pl, rfl, _, hl, hm, hmm, hx, hi⟩
 · exact ⟨none, 0, 0, [], rfl, rfl, Nat.le_refl _, by simp, fun _ => rfl, fun h => absurd h (by decide)⟩
 simp only [Prod.mk.injEq] at hx
 obtain ⟨rfl, rfl⟩ := hx
 simp only [if_true] at hmm
 subst hmm
 have hww : DataW.weights P t (DataW.slice ((List.range len).map D) ((List.range (m - len)).map fun j => D (len + j))) = (((List.range len).map D).length + ((List.range (m - len)).map fun j => D (len + j)).length) * P.bytesOf e :: (DataW.weightsAll P e ((List.range len).map D) ++ DataW.weightsAll P e ((List.range (m - len)).map fun j => D (len + j))) := by
  simp only [DataW.weights, ht]
 rw [hww] at hw
 have hreach := hw _ (List.mem_cons_self ..)
 rw [hB] at hreach
 simp only [List.length_map, List.length_range] at hreach
 rw [hC] at hi hlt
 obtain ⟨b, off, spot⟩ := a
 have hbytes : len * B ≤ reachBytes := Nat.le_trans (Nat.mul_le_mul_right _ (by omega)) hreach
 by_cases hpos : 0 < len
 rotate_left
 · obtain rfl : len = 0 := by omega
   exact ⟨_, _, _, [], rfl, rfl, hl, hbytes, (fun e => by cases e), fun h => absurd h hpos⟩
 have hspot : spot = none := by
  obtain ⟨cs', hc, htr⟩ := hi 0 (by omega)
  obtain ⟨_, hcl, hat⟩ := World.cells?_some hc
  have h0 := hat 0 hC0
  rw [List.getElem?_eq_getElem (by omega)] at h0
  simpa [Addr.add] using World.cell?_spot h0
 subst hspot
 have hb : b < W.heap.size := hlt (.cell b off) (List.mem_append.2 (.inl (MemPlace.mem_row.2 ⟨0, Nat.mul_pos (by omega) hC0, by simp⟩)))
 have hrow : ∀ i : Nat, ∃ x : X, i < len → Rd b (off + i * C) x := by
  intro i
  by_cases hil : i < len
  · obtain ⟨cs', hc, htr⟩ := hi i (by omega)
    obtain ⟨_, hcl, hat⟩ := World.cells?_some hc
    have hmem : D i ∈ (List.range len).map D := List.mem_map.2 ⟨i, by simpa using hil, rfl⟩
    obtain ⟨x, hx⟩ := helem n cs' (D i) (Pl i) b (off + i * C) htr hcl (fun j hj => by
     have := hat j hj
     rw [add_plain, add_plain] at this
     exact this) (fun k hk => hw k (List.mem_cons_of_mem _ (List.mem_append_left _ (weightsAll_in hmem hk)))) (fun x hx => hlt x (List.mem_append_right _ (List.mem_flatMap.2 ⟨i, by simp; omega, hx⟩)))
    exact ⟨x, fun _ => hx⟩
  exact ⟨default, fun h => absurd h hil⟩
 refine ⟨_, _, _, (List.range len).map fun i => (hrow i).choose, rfl, by simp, hl, hbytes, (fun e => by cases e), fun _ => ⟨b, off, rfl, hb, fun k hk => ?_⟩⟩
 have := (hrow k).choose_spec hk
 simpa [hk] using this
end
end Go.Proofs.Ytplecfbdchmogaa
