/- Words for memory that a call makes: rows of nodes, trees of the reference. Plain lemmas over any program. -/
import Derived.WalkKit
import Derived.Lib.Hide
import Derived.Deep.RegionLaw
import Derived.Test.YtnmeglbamfjcgaaMem
import Derived.Test.YtnmeglbamfjcgaaTree
namespace Go.Proofs.Ytnmeglbamfjcgaa
open Go.RowKit

def cellsN (n : Nd) : List Value := [.int .i64 n.op, .int .i64 n.a, .int .i64 n.b]
def flat (l : List Nd) : List Value := l.flatMap cellsN
theorem flat_nil : flat [] = [] := rfl
theorem flat_cons (n : Nd) (l : List Nd) : flat (n :: l) = cellsN n ++ flat l := rfl
theorem flat_append (l m : List Nd) : flat (l ++ m) = flat l ++ flat m := by simp [flat]
theorem flat_len (l : List Nd) : (flat l).length = l.length * 3 := by
  induction l with
  | nil => rfl
  | cons n l ih => rw [flat_cons, List.length_append, ih]; simp [cellsN]; omega
theorem flat_at : ∀ (l : List Nd) (k : Nat), k < l.length → (flat l)[k * 3]? = some (.int .i64 (nth l k).op) ∧ (flat l)[k * 3 + 1]? = some (.int .i64 (nth l k).a) ∧ (flat l)[k * 3 + 2]? = some (.int .i64 (nth l k).b)
  | [], k, h => absurd h (by simp)
  | n :: l, 0, _ => ⟨rfl, rfl, rfl⟩
  | n :: l, k + 1, h => by
    obtain ⟨h1, h2, h3⟩ := flat_at l k (by simpa using h)
    have e : nth (n :: l) (k + 1) = nth l k := rfl
    rw [e, flat_cons]
    refine ⟨?_, ?_, ?_⟩
    · rw [List.getElem?_append_right (by simp [cellsN]; omega), ← h1]; congr 1; simp [cellsN]; omega
    · rw [List.getElem?_append_right (by simp [cellsN]; omega), ← h2]; congr 1; simp [cellsN]; omega
    · rw [List.getElem?_append_right (by simp [cellsN]; omega), ← h3]; congr 1; simp [cellsN]; omega
theorem flat_one (l : List Nd) : ∀ u ∈ flat l, u.oneCell' = true := by
  intro u hu
  simp only [flat, cellsN, List.mem_flatMap] at hu
  obtain ⟨n, _, hu⟩ := hu
  simp at hu
  rcases hu with rfl | rfl | rfl <;> rfl

/-- A slice value that reads as nodes, blocks of R. -/
def TermS (R : Nat → Prop) (w : World) (v : Value) (l : List Nd) : Prop := ∃ A n c, v = .slice A n c ∧ TermR R w A n c l
theorem TermS.keep {R R' : Nat → Prop} {w w' : World} {v : Value} {l : List Nd} (h : TermS R w v l) (hR : ∀ b, R b → R' b ∧ ∀ o, w'.cell? ⟨b, o, none⟩ = w.cell? ⟨b, o, none⟩) : TermS R' w' v l := by
  obtain ⟨A, n, c, e, h⟩ := h
  exact ⟨A, n, c, e, h.keep hR⟩
theorem TermS.nil (R : Nat → Prop) (w : World) : TermS R w (.slice none 0 0) [] := ⟨none, 0, 0, rfl, rfl, Nat.le_refl _, Nat.zero_le _, fun _ => rfl, fun h => absurd h (by omega)⟩

/-- A row of nodes that the call owns. -/
def OwnN (w : World) (base : Nat) (v : Value) (l : List Nd) : Prop := w.ownsRow base 53 3 v l.length (flat l)
theorem OwnN.nil (w : World) (base : Nat) : OwnN w base (.slice none 0 0) [] := World.ownsRow_nil w base _ _
theorem ownsRow_block {w : World} {base : Nat} {e : TypeId} {size : Nat} {v : Value} {n : Nat} {xs : List Value} (h : w.ownsRow base e size v n xs) {g : Nat} (hg : v.ownBlock = some g) : base ≤ g ∧ g < w.heap.size ∧ ∃ cur, w.heap[g]? = some (.cells cur e (0, 0)) := by
  rcases h.2 with ⟨rfl, _⟩ | ⟨g', cap, cur, rfl, hb, hgg, _⟩
  · simp [Value.ownBlock] at hg
  · simp only [Value.ownBlock, Option.some.injEq] at hg
    subst hg
    exact ⟨hb, (Array.getElem?_eq_some_iff.1 hgg).1, cur, hgg⟩
theorem OwnN.termS {w : World} {base : Nat} {v : Value} {l : List Nd} (h : OwnN w base v l) (hl : l.length ≤ 5864062014805) : TermS (fun b => v.ownBlock = some b) w v l := by
  have hc := fun g hg => World.ownsRow.cells h (g := g) hg
  rcases h.2 with ⟨rfl, h0⟩ | ⟨g, cap, cur, rfl, hb, hgg, hcap, _⟩
  · obtain rfl := List.eq_nil_of_length_eq_zero h0
    exact TermS.nil _ _
  · refine ⟨_, _, _, rfl, rfl, hcap, hl, (fun e => by cases e), fun _ => ⟨g, 0, rfl, rfl, fun k hk => ?_⟩⟩
    obtain ⟨h1, h2, h3⟩ := flat_at l k hk
    have h1 := hc g rfl _ _ h1
    have h2 := hc g rfl _ _ h2
    have h3 := hc g rfl _ _ h3
    have ea : ∀ j, (⟨g, 0, none⟩ : Addr).add j = ⟨g, j, none⟩ := fun j => by unfold Addr.add; split <;> simp_all
    rw [ea] at h1 h2 h3
    simp only [Nat.zero_add]
    exact ⟨h1, h2, h3⟩

/-- Block g is the cells cs of type t, none frozen. -/
def Blk (w : World) (g : Nat) (t : TypeId) (cs : Array Value) : Prop := w.heap[g]? = some (.cells cs t (0, 0))
section
variable {w w' : World} {g : Nat} {t : TypeId} {cs : Array Value}
theorem Blk.lt (h : Blk w g t cs) : g < w.heap.size := (Array.getElem?_eq_some_iff.1 h).1
theorem Blk.cell (h : Blk w g t cs) (i : Nat) : w.cell? ⟨g, i, none⟩ = cs[i]? := by
  unfold Blk at h
  simp [World.cell?, h]
theorem Blk.frozen (h : Blk w g t cs) (i : Nat) : w.frozen? ⟨g, i, none⟩ = false := by
  unfold Blk at h
  simp [World.frozen?, h]
theorem Blk.new (w : World) (t : TypeId) (cs : Array Value) : Blk (w.alloc (.cells cs t)) w.heap.size t cs := heap_alloc_new w _
theorem Blk.drewN (h : Blk w g t cs) (n : Nat) : Blk (w.drewN n) g t cs := h
theorem Blk.alloc (h : Blk w g t cs) (o : Obj) : Blk (w.alloc o) g t cs := (Below.heap_alloc w o g h.lt).trans h
theorem Blk.set_ (h : Blk w g t cs) (i : Nat) (u : Value) : Blk (w.setCell ⟨g, i, none⟩ u) g t (cs.setIfInBounds i u) := by
  unfold Blk at h ⊢
  simp [World.setCell, Array.getElem?_modify, h]
theorem Blk.far (h : Blk w g t cs) {p : Addr} (hp : g ≠ p.block) (u : Value) : Blk (w.setCell p u) g t cs := (Below.heap_setCell w p u g hp).trans h
theorem Blk.below {B : Nat} (h : Blk w g t cs) (hb : Below B w w') (hg : g < B) : Blk w' g t cs := (hb.block g hg).trans h
theorem Blk.grown {row : Option Nat} (h : Blk w g t cs) (hb : w.grownBy w' row) (hg : some g ≠ row) : Blk w' g t cs := (hb.block g h.lt hg).trans h
end

/-- What append leaves of a row of the call's own: the same row, or a new one. -/
structure Appended (w w' : World) (base : Nat) (e : TypeId) (size : Nat) (v : Value) (A : Option Addr) (n c : Nat) (xs : List Value) : Prop where
  own : w'.ownsRow base e size (.slice A n c) n xs
  grown : w.grownBy w' v.ownBlock
  new : ∀ g, (Value.slice A n c).ownBlock = some g → v.ownBlock = some g ∨ w.heap.size ≤ g

theorem run_append_mine {P : Program} (w : World) (base : Nat) (t ty e : TypeId) (i : TypeInfo) (z : Value) (size bytes : Nat) (ht : P.underlying t = some (.slice e)) (hi : P.info? e = some i) (hz : i.zero = some z)
    (hsize : i.size = size) (hby : i.bytes = bytes) (hzs : z.cells.size = size) (hsz : 0 < size)
    (v : Value) (n : Nat) (xs : List Value) (hown : w.ownsRow base e size v n xs)
    (A : Option Addr) (m c : Nat) (news : List Value) (hl : news.length = m * size) (hnone : A = none → m = 0 ∧ c = 0) (hnews : ∀ ad, A = some ad → ∀ j u, news[j]? = some u → w.cell? (ad.add j) = some u) (h1 : ∀ u ∈ news, u.oneCell' = true)
    (h63 : n + m ≤ maxLen) (hbytes : (n + m) * bytes ≤ 140737488355328) (hbase : base ≤ w.heap.size) :
    ∃ A' c' w', (Builtin.append_ #[t, t] ty #[v, .slice A m c]).run P w = .ok (.slice A' (n + m) c') w' ∧ Appended w w' base e size v A' (n + m) c' (xs ++ news) := by
  cases A with
  | none =>
    obtain ⟨rfl, rfl⟩ := hnone rfl
    obtain rfl : news = [] := List.eq_nil_of_length_eq_zero (by simpa using hl)
    have hr := run_append_owned_none (P := P) w base t ty e i size ht hi v n xs hown
    obtain ⟨A', c', rfl⟩ : ∃ A' c', v = .slice A' n c' := by
      rcases hown.2 with ⟨rfl, rfl⟩ | ⟨g, cap, cur, rfl, _⟩
      · exact ⟨none, 0, rfl⟩
      · exact ⟨_, _, rfl⟩
    exact ⟨A', c', w, hr, by simpa using hown, World.grownBy.refl _ _, fun g hg => .inl hg⟩
  | some ad =>
    have hnews := hnews ad rfl
    obtain ⟨v', w', hr, h2, h3, h4⟩ := run_append_own (P := P) w base t ty e i z size bytes ht hi hz hsize hby hzs hsz v n xs hown ad m c news hl hnews h1 h63 hbytes hbase
    obtain ⟨A', c', rfl⟩ : ∃ A' c', v' = .slice A' (n + m) c' := by
      rcases h2.2 with ⟨rfl, h0⟩ | ⟨g, cap, cur, rfl, _⟩
      · rw [h0]; exact ⟨none, 0, rfl⟩
      · exact ⟨_, _, rfl⟩
    refine ⟨A', c', w', hr, h2, h3, fun g hg => ?_⟩
    subst hsize
    subst hby
    rcases hown.2 with ⟨rfl, rfl⟩ | ⟨g0, cap, cur, rfl, hb, hgg, hnc, hcm, hcs, htake⟩
    · by_cases hm : m = 0
      · have := h4.2 ⟨rfl, hm⟩
        rw [this] at hg
        exact .inl hg
      · have hr2 := run_append_nil (P := P) w t ty e i z ht hi hz ad m c news hl hnews (by omega) (by unfold maxLen at h63; omega) (by simp only [Nat.zero_add] at hbytes; omega)
        rw [hr] at hr2
        injection hr2 with hv _
        rw [hv] at hg
        simp only [Value.ownBlock, Option.some.injEq] at hg
        exact .inr (by omega)
    · by_cases hroom : n + m ≤ cap
      · have hr2 := run_append_room (P := P) w t ty e i ht hi g0 n cap cur hgg ad m c news hl hnews h1 hroom (by rw [hl, hcs, ← Nat.add_mul]; exact Nat.mul_le_mul_right _ hroom)
        rw [hr] at hr2
        injection hr2 with hv _
        rw [hv] at hg
        exact .inl hg
      · have hr2 := run_append_grow (P := P) w t ty e i z ht hi hz ⟨g0, 0, none⟩ n cap xs hown.1 (hown.cells (g := g0) rfl) ad m c news hl hnews (by omega) (by unfold maxLen at h63; omega) (growslice_fits (by omega) hbytes)
        rw [hr] at hr2
        injection hr2 with hv _
        rw [hv] at hg
        simp only [Value.ownBlock, Option.some.injEq] at hg
        exact .inr (by omega)

/-- 'append' onto a row of the call's own, as one operation. -/
theorem oper_append_mine {P : Program} {o : Oper} {a : Act} {w : World} {K : Act → World → Prop} {Q : Exit → Act → World → Prop}
    (s x : Operand) (t : TypeId) (hop : o.op = Op.call { callee := Callee.builtin Builtin.append, args := #[s, x], argTypes := #[t, t] })
    (base : Nat) (e : TypeId) (i : TypeInfo) (z : Value) (size bytes : Nat) (h1 : P.underlying t = some (.slice e)) (h2 : P.info? e = some i) (h3 : i.zero = some z) (h4 : i.size = size) (h5 : i.bytes = bytes) (h6 : z.cells.size = size) (h7 : 0 < size)
    (v : Value) (n : Nat) (xs : List Value) (hs : a.eval s = v) (hown : w.ownsRow base e size v n xs)
    (A : Option Addr) (m c : Nat) (news : List Value) (hx : a.eval x = .slice A m c) (hn : news.length = m * size) (hnone : A = none → m = 0 ∧ c = 0) (hc : ∀ ad, A = some ad → ∀ j u, news[j]? = some u → w.cell? (ad.add j) = some u) (h1c : ∀ u ∈ news, u.oneCell' = true)
    (b1 : n + m ≤ maxLen) (b2 : (n + m) * bytes ≤ 140737488355328) (b3 : base ≤ w.heap.size)
    (hK : ∀ A' c' w', Appended w w' base e size v A' (n + m) c' (xs ++ news) → K (a.put o.dst (.slice A' (n + m) c')) w') : Oper.wp P o a w K Q := by
  obtain ⟨A', c', w', hrun, hap⟩ := run_append_mine (P := P) w base t o.type e i z size bytes h1 h2 h3 h4 h5 h6 h7 v n xs hown A m c news hn hnone hc h1c b1 b2 b3
  unfold Oper.wp
  simp [execOp, hop, resolve, invoke, builtin, hs, hx, hrun, Result.andThen]
  exact hK A' c' w' hap

theorem own_ne {w : World} {base : Nat} {e : TypeId} {size : Nat} {v : Value} {n : Nat} {xs : List Value} (h : w.ownsRow base e size v n xs) {g : Nat} (hg : g < base) : some g ≠ v.ownBlock := by
  intro e
  have := (ownsRow_block h e.symm).1
  omega
/-- A row stays owned while one of another element type is grown. -/
theorem own_kept {w w' : World} {base base' : Nat} {e e' : TypeId} {size size' : Nat} {v v' : Value} {n n' : Nat} {xs xs' : List Value} (h : w.ownsRow base e size v n xs) (h' : w.ownsRow base' e' size' v' n' xs') (he : e ≠ e') (hg : w.grownBy w' v'.ownBlock) : w'.ownsRow base e size v n xs := by
  refine h.kept hg ?_
  cases hv : v.ownBlock with
  | none => exact .inl rfl
  | some g =>
    refine .inr fun hh => ?_
    obtain ⟨_, _, c1, h1⟩ := ownsRow_block h hv
    obtain ⟨_, _, c2, h2⟩ := ownsRow_block h' hh.symm
    rw [h1] at h2
    injection h2 with h2
    injection h2 with _ h3
    exact he h3
theorem grown_of_below {w w' : World} (hb : Below w.heap.size w w') (row : Option Nat) : w.grownBy w' row := ⟨hb.os, hb.tape, hb.output, hb.size, fun k hk _ => hb.block k hk⟩
theorem own_below {w w' : World} {base : Nat} {e : TypeId} {size : Nat} {v : Value} {n : Nat} {xs : List Value} (h : w.ownsRow base e size v n xs) (hb : Below w.heap.size w w') : w'.ownsRow base e size v n xs :=
  h.kept (grown_of_below hb none) (by cases v.ownBlock <;> simp)
theorem OwnN.below {w w' : World} {base : Nat} {v : Value} {l : List Nd} (h : OwnN w base v l) (hb : Below w.heap.size w w') : OwnN w' base v l := own_below h hb
theorem OwnN.drewN {w : World} {base : Nat} {v : Value} {l : List Nd} (h : OwnN w base v l) (m : Nat) : OwnN (w.drewN m) base v l := h
theorem OwnN.alloc {w : World} {base : Nat} {v : Value} {l : List Nd} (h : OwnN w base v l) (o : Obj) : OwnN (w.alloc o) base v l := World.ownsRow.alloc h o
theorem OwnN.setCell {w : World} {base : Nat} {v : Value} {l : List Nd} (h : OwnN w base v l) {a : Addr} (ha : a.block < base) (u : Value) : OwnN (w.setCell a u) base v l := ownsRow_setCell_below h ha u
theorem cells_new (w : World) (n : Nd) : ∀ j u, (cellsN n)[j]? = some u → (w.alloc (.cells #[.int .i64 n.op, .int .i64 n.a, .int .i64 n.b] 53)).cell? ((⟨w.heap.size, 0, none⟩ : Addr).add j) = some u := by
  intro j u hu
  have ea : (⟨w.heap.size, 0, none⟩ : Addr).add j = ⟨w.heap.size, j, none⟩ := by unfold Addr.add; split <;> simp_all
  rw [ea, World.cell?_alloc_new, ← hu]
  simp [cellsN]
theorem Appended.ownN {w w' : World} {base : Nat} {v : Value} {A : Option Addr} {n c : Nat} {l m : List Nd} (h : Appended w w' base 53 3 v A n c (flat l ++ flat m)) (hn : n = l.length + m.length) : OwnN w' base (.slice A n c) (l ++ m) := by
  unfold OwnN
  rw [List.length_append, flat_append, ← hn]
  exact h.own

/-- One node appended. -/
theorem oper_append_node {P : Program} {o : Oper} {a : Act} {w : World} {K : Act → World → Prop} {Q : Exit → Act → World → Prop}
    (s x : Operand) (t : TypeId) (hop : o.op = Op.call { callee := Callee.builtin Builtin.append, args := #[s, x], argTypes := #[t, t] })
    (base : Nat) (i : TypeInfo) (h1 : P.underlying t = some (.slice 53)) (h2 : P.info? 53 = some i) (h3 : i.zero = some (.agg #[.int .i64 0, .int .i64 0, .int .i64 0])) (h4 : i.size = 3) (h5 : i.bytes = 24)
    (v : Value) (l : List Nd) (n : Nd) (W : World) (hW : w = W.alloc (.cells #[.int .i64 n.op, .int .i64 n.a, .int .i64 n.b] 53)) (hs : a.eval s = v) (hown : OwnN W base v l)
    (g : Nat) (hx : a.eval x = .slice (some ⟨g, 0, none⟩) 1 1) (hgW : g = W.heap.size) (b1 : l.length + 1 ≤ 5864062014805) (b3 : base ≤ W.heap.size)
    (hK : ∀ A' c' w', OwnN w' base (.slice A' (l.length + 1) c') (l ++ [n]) → Appended W w' base 53 3 v A' (l.length + 1) c' (flat l ++ cellsN n) → K (a.put o.dst (.slice A' (l.length + 1) c')) w') : Oper.wp P o a w K Q := by
  subst hW
  subst hgW
  refine oper_append_mine s x t hop base _ i _ 3 24 h1 h2 h3 h4 h5 rfl (by decide) v l.length (flat l) hs (World.ownsRow.alloc hown _) _ 1 1 (cellsN n) hx rfl (fun e => by cases e) (fun ad e => by injection e with e; subst e; exact cells_new _ _) ?_ (by unfold maxLen; omega) (by omega) (by simp; omega) ?_
  · intro u hu
    simp [cellsN] at hu
    rcases hu with rfl | rfl | rfl <;> rfl
  · intro A' c' w' h
    refine hK A' c' w' ?_ ⟨h.own, ?_, fun g hg => (h.new g hg).imp id (fun hh => by simp at hh; omega)⟩
    · exact Appended.ownN (m := [n]) (by simpa [flat] using h) rfl
    · refine ⟨h.grown.os, h.grown.tape, h.grown.output, Nat.le_trans (by simp) h.grown.size, fun k hk hne => ?_⟩
      rw [h.grown.block k (by simp; omega) hne]
      exact Below.heap_alloc _ _ _ hk

theorem flat_in {l : List Nd} {j : Nat} {u : Value} (h : (flat l)[j]? = some u) : ∃ k, k < l.length ∧ ((j = k * 3 ∧ u = .int .i64 (nth l k).op) ∨ (j = k * 3 + 1 ∧ u = .int .i64 (nth l k).a) ∨ (j = k * 3 + 2 ∧ u = .int .i64 (nth l k).b)) := by
  have hj := (List.getElem?_eq_some_iff.1 h).1
  rw [flat_len] at hj
  have hk : j / 3 < l.length := by omega
  obtain ⟨h1, h2, h3⟩ := flat_at l (j / 3) hk
  have hm : j = j / 3 * 3 ∨ j = j / 3 * 3 + 1 ∨ j = j / 3 * 3 + 2 := by omega
  refine ⟨j / 3, hk, ?_⟩
  rcases hm with hm | hm | hm
  · rw [← hm] at h1; rw [h] at h1; exact .inl ⟨hm, Option.some.inj h1⟩
  · rw [← hm] at h2; rw [h] at h2; exact .inr (.inl ⟨hm, Option.some.inj h2⟩)
  · rw [← hm] at h3; rw [h] at h3; exact .inr (.inr ⟨hm, Option.some.inj h3⟩)
theorem TermR.flat_cells {R : Nat → Prop} {w : World} {A : Option Addr} {n c : Nat} {l : List Nd} (h : TermR R w A n c l) (ad : Addr) (hA : A = some ad) : ∀ j u, (flat l)[j]? = some u → w.cell? (ad.add j) = some u := by
  intro j u hu
  obtain ⟨k, hk, hh⟩ := flat_in hu
  obtain ⟨b, off, e, _, hm⟩ := h.mem (by rw [← h.len]; omega)
  rw [hA] at e
  injection e with e
  subst e
  obtain ⟨m1, m2, m3⟩ := hm k hk
  have ea : ∀ j, (⟨b, off, none⟩ : Addr).add j = ⟨b, off + j, none⟩ := fun j => by unfold Addr.add; split <;> simp_all
  rw [ea]
  rcases hh with ⟨rfl, rfl⟩ | ⟨rfl, rfl⟩ | ⟨rfl, rfl⟩
  · exact m1
  · exact m2
  · exact m3

theorem append_types {P : Program} {t u e : TypeId} (ht : P.underlying t = some (.slice e)) (hu : P.underlying u = some (.slice e)) (ty : TypeId) (B : Option Addr) (m k : Nat) (x : Value) (w : World) :
    (Builtin.append_ #[t, u] ty #[.slice B m k, x]).run P w = (Builtin.append_ #[t, t] ty #[.slice B m k, x]).run P w := by
  simp [Builtin.append_, run_underlying ht, run_underlying hu]

/-- A row of nodes appended (of whatever slice type). -/
theorem oper_append_row {P : Program} {o : Oper} {a : Act} {w : World} {K : Act → World → Prop} {Q : Exit → Act → World → Prop}
    (s x : Operand) (t u : TypeId) (hop : o.op = Op.call { callee := Callee.builtin Builtin.append, args := #[s, x], argTypes := #[t, u] })
    (base : Nat) (i : TypeInfo) (h1 : P.underlying t = some (.slice 53)) (h1u : P.underlying u = some (.slice 53)) (h2 : P.info? 53 = some i) (h3 : i.zero = some (.agg #[.int .i64 0, .int .i64 0, .int .i64 0])) (h4 : i.size = 3) (h5 : i.bytes = 24)
    (v : Value) (l m : List Nd) (hs : a.eval s = v) (hown : OwnN w base v l) {R : Nat → Prop} {A : Option Addr} {n c : Nat} (hx : a.eval x = .slice A n c) (hm : TermR R w A n c m)
    (b1 : l.length + n ≤ 5864062014805) (b3 : base ≤ w.heap.size)
    (hK : ∀ A' c' w', OwnN w' base (.slice A' (l.length + n) c') (l ++ m) → Appended w w' base 53 3 v A' (l.length + n) c' (flat l ++ flat m) → K (a.put o.dst (.slice A' (l.length + n) c')) w') : Oper.wp P o a w K Q := by
  obtain ⟨A', c', w', hrun, hap⟩ := run_append_mine (P := P) w base t o.type _ i _ 3 24 h1 h2 h3 h4 h5 rfl (by decide) v l.length (flat l) hown A n c (flat m) (by rw [flat_len, hm.len])
    (fun e => ⟨by
      by_cases h0 : 0 < n
      · obtain ⟨b, off, e2, _⟩ := hm.mem h0
        rw [e] at e2; cases e2
      · omega, hm.nul e⟩) (fun ad e => hm.flat_cells ad e) (flat_one m) (by unfold maxLen; omega) (by omega) b3
  obtain ⟨B, k0, rfl⟩ : ∃ B k0, v = .slice B l.length k0 := by
    rcases hown.2 with ⟨rfl, h0⟩ | ⟨g, cap, cur, rfl, _⟩
    · rw [h0]; exact ⟨none, 0, rfl⟩
    · exact ⟨_, _, rfl⟩
  rw [← append_types h1 h1u] at hrun
  unfold Oper.wp
  simp [execOp, hop, resolve, invoke, builtin, hs, hx, hrun, Result.andThen]
  exact hK A' c' w' (Appended.ownN hap (by rw [hm.len])) hap

/-- An operation in a walk. -/
theorem wpList_oper {P : Program} {ops : Array Oper} {rest : List Oper} {o : Oper} {a : Act} {w : World} {Q : Exit → Act → World → Prop} (hg : o.guard = none) (h : Oper.wp P o a w (wpList P ops Q rest) Q) : wpList P ops Q (o :: rest) a w := by
  unfold wpList
  rw [if_pos (by simp [Region.wanted, hg])]
  exact .inl h
/-- An operation of a region that draws. -/
theorem step_oper {P : Program} {ops : Array Oper} {o : Oper} {a : Act} {w : World} {K : Act → World → Prop} {Q : Exit → Act → World → Prop} {E : Prop} (hg : o.guard = none) (h : Oper.wp P o a w K Q) :
    if Region.wanted o (yielded ops a.tmps) = true then Oper.wp P o a w K Q else E := by
  rw [if_pos (by simp [Region.wanted, hg])]; exact h

def flen : Fo → Nat
  | .nil => 0
  | .cons _ _ _ _ x => flen x + 1
def press : Fo → List Nd
  | .nil => []
  | .cons p _ _ _ x => p ++ press x

/-- Trees of the reference, one behind the other from (b, off) on; what they point to lies in blocks of R. -/
def FoR (R : Nat → Prop) (w : World) : Fo → Nat → Nat → Prop
  | .nil, _, _ => True
  | .cons _ n atoms kids next, b, off =>
    (w.cell? ⟨b, off, none⟩ = some (.int .i64 n.op) ∧ w.cell? ⟨b, off + 1, none⟩ = some (.int .i64 n.a) ∧ w.cell? ⟨b, off + 2, none⟩ = some (.int .i64 n.b)) ∧
    (∃ A c, w.cell? ⟨b, off + 3, none⟩ = some (.slice A (flen kids) c) ∧ flen kids ≤ c ∧ (0 < flen kids → ∃ b' off', A = some ⟨b', off', none⟩ ∧ R b' ∧ FoR R w kids b' off')) ∧
    (∃ v, w.cell? ⟨b, off + 4, none⟩ = some v ∧ TermS R w v atoms) ∧
    (∃ v, w.cell? ⟨b, off + 5, none⟩ = some v ∧ TermS R w v (press kids)) ∧
    FoR R w next b (off + 6)

/-- A slice of trees. -/
structure KidsR (R : Nat → Prop) (w : World) (A : Option Addr) (n c : Nat) (F : Fo) : Prop where
  len : flen F = n
  cap : n ≤ c
  mem : 0 < n → ∃ b off, A = some ⟨b, off, none⟩ ∧ R b ∧ FoR R w F b off

def KidsS (R : Nat → Prop) (w : World) (v : Value) (F : Fo) : Prop := ∃ A n c, v = .slice A n c ∧ KidsR R w A n c F

/-- A tree's six cells. -/
def TreeC (R : Nat → Prop) (w : World) (xs : List Value) (n : Nd) (atoms : List Nd) (kids : Fo) : Prop :=
  ∃ sk sa sf, xs = [.int .i64 n.op, .int .i64 n.a, .int .i64 n.b, sk, sa, sf] ∧ KidsS R w sk kids ∧ TermS R w sa atoms ∧ TermS R w sf (press kids)

theorem FoR.keep {R R' : Nat → Prop} {w w' : World} (hR : ∀ b, R b → R' b ∧ ∀ o, w'.cell? ⟨b, o, none⟩ = w.cell? ⟨b, o, none⟩) : ∀ (F : Fo) (b off : Nat), FoR R w F b off → (∀ o, w'.cell? ⟨b, o, none⟩ = w.cell? ⟨b, o, none⟩) → FoR R' w' F b off
  | .nil, _, _, _, _ => trivial
  | .cons p n atoms kids next, b, off, h, hb => by
    obtain ⟨h0, ⟨A, c, h1, h2, h3⟩, ⟨v, h4, h5⟩, ⟨u, h6, h7⟩, h8⟩ := h
    refine ⟨by rw [hb, hb, hb]; exact h0, ⟨A, c, by rw [hb]; exact h1, h2, fun hk => ?_⟩, ⟨v, by rw [hb]; exact h4, h5.keep hR⟩, ⟨u, by rw [hb]; exact h6, h7.keep hR⟩, FoR.keep hR next b _ h8 hb⟩
    obtain ⟨b', off', e, hr, hf⟩ := h3 hk
    exact ⟨b', off', e, (hR b' hr).1, FoR.keep hR kids b' off' hf (hR b' hr).2⟩

theorem KidsR.keep {R R' : Nat → Prop} {w w' : World} {A : Option Addr} {n c : Nat} {F : Fo} (h : KidsR R w A n c F) (hR : ∀ b, R b → R' b ∧ ∀ o, w'.cell? ⟨b, o, none⟩ = w.cell? ⟨b, o, none⟩) : KidsR R' w' A n c F :=
  ⟨h.len, h.cap, fun hn => by
    obtain ⟨b, off, e, hr, hf⟩ := h.mem hn
    exact ⟨b, off, e, (hR b hr).1, FoR.keep hR F b off hf (hR b hr).2⟩⟩
theorem KidsS.keep {R R' : Nat → Prop} {w w' : World} {v : Value} {F : Fo} (h : KidsS R w v F) (hR : ∀ b, R b → R' b ∧ ∀ o, w'.cell? ⟨b, o, none⟩ = w.cell? ⟨b, o, none⟩) : KidsS R' w' v F := by
  obtain ⟨A, n, c, e, h⟩ := h
  exact ⟨A, n, c, e, h.keep hR⟩
theorem KidsS.nil (R : Nat → Prop) (w : World) : KidsS R w (.slice none 0 0) .nil := ⟨none, 0, 0, rfl, rfl, Nat.le_refl _, fun h => absurd h (by omega)⟩
theorem TreeC.keep {R R' : Nat → Prop} {w w' : World} {xs : List Value} {n : Nd} {atoms : List Nd} {kids : Fo} (h : TreeC R w xs n atoms kids) (hR : ∀ b, R b → R' b ∧ ∀ o, w'.cell? ⟨b, o, none⟩ = w.cell? ⟨b, o, none⟩) : TreeC R' w' xs n atoms kids := by
  obtain ⟨sk, sa, sf, e, h1, h2, h3⟩ := h
  exact ⟨sk, sa, sf, e, h1.keep hR, h2.keep hR, h3.keep hR⟩

/-- The cells of trees, one behind the other. -/
def FoC (R : Nat → Prop) (w : World) : Fo → List Value → Prop
  | .nil, xs => xs = []
  | .cons _ n atoms kids next, xs => ∃ ys zs, xs = ys ++ zs ∧ TreeC R w ys n atoms kids ∧ FoC R w next zs
theorem FoC.keep {R R' : Nat → Prop} {w w' : World} (hR : ∀ b, R b → R' b ∧ ∀ o, w'.cell? ⟨b, o, none⟩ = w.cell? ⟨b, o, none⟩) : ∀ (F : Fo) (xs : List Value), FoC R w F xs → FoC R' w' F xs
  | .nil, _, h => h
  | .cons _ n atoms kids next, xs, h => by
    obtain ⟨ys, zs, e, h1, h2⟩ := h
    exact ⟨ys, zs, e, h1.keep hR, FoC.keep hR next zs h2⟩
theorem FoC.app {R : Nat → Prop} {w : World} : ∀ (F G : Fo) (xs ys : List Value), FoC R w F xs → FoC R w G ys → FoC R w (F.app G) (xs ++ ys)
  | .nil, G, xs, ys, h, hg => by
    have : xs = [] := h
    subst this
    exact hg
  | .cons _ n atoms kids next, G, xs, ys, h, hg => by
    obtain ⟨a, b, e, h1, h2⟩ := h
    exact ⟨a, b ++ ys, by rw [e, List.append_assoc], h1, FoC.app next G b ys h2 hg⟩
theorem FoC.len {R : Nat → Prop} {w : World} : ∀ (F : Fo) (xs : List Value), FoC R w F xs → xs.length = flen F * 6
  | .nil, xs, h => by
    have : xs = [] := h
    subst this; rfl
  | .cons _ n atoms kids next, xs, h => by
    obtain ⟨a, b, e, ⟨sk, sa, sf, e2, _⟩, h2⟩ := h
    have := FoC.len next b h2
    rw [e, e2]; simp [flen, this]; omega
theorem FoC.at_ {R : Nat → Prop} {w : World} : ∀ (F : Fo) (xs : List Value) (b off : Nat), FoC R w F xs → (∀ j u, xs[j]? = some u → w.cell? ⟨b, off + j, none⟩ = some u) → FoR R w F b off
  | .nil, _, _, _, _, _ => trivial
  | .cons _ n atoms kids next, xs, b, off, h, hc => by
    obtain ⟨ys, zs, e, ⟨sk, sa, sf, e2, h1, h2, h3⟩, h4⟩ := h
    subst e2 e
    obtain ⟨A, m, c, rfl, hk⟩ := h1
    refine ⟨⟨hc 0 _ rfl, hc 1 _ rfl, hc 2 _ rfl⟩, ⟨A, c, ?_, ?_, ?_⟩, ⟨sa, hc 4 _ rfl, h2⟩, ⟨sf, hc 5 _ rfl, h3⟩, FoC.at_ next zs b (off + 6) h4 fun j u hu => ?_⟩
    · rw [hk.len]; exact hc 3 _ rfl
    · rw [hk.len]; exact hk.cap
    · rw [hk.len]; exact hk.mem
    · rw [Nat.add_assoc]
      refine hc (6 + j) u ?_
      rw [List.getElem?_append_right (by simp)]
      simpa using hu

/-- A row of trees that the call owns, as a slice of trees. -/
theorem kids_of_own {R : Nat → Prop} {w : World} {base : Nat} {v : Value} {F : Fo} {xs : List Value} (h : w.ownsRow base 64 6 v (flen F) xs) (hc : FoC R w F xs) (hR : ∀ b, v.ownBlock = some b → R b) : KidsS R w v F := by
  have hcl := fun g hg => World.ownsRow.cells h (g := g) hg
  rcases h.2 with ⟨rfl, h0⟩ | ⟨g, cap, cur, rfl, hb, hgg, hcap, _⟩
  · refine ⟨none, 0, 0, rfl, h0, Nat.le_refl _, fun hn => absurd hn (by omega)⟩
  · refine ⟨_, _, _, rfl, rfl, hcap, fun _ => ⟨g, 0, rfl, hR g rfl, FoC.at_ F xs g 0 hc fun j u hu => ?_⟩⟩
    have := hcl g rfl j u hu
    have ea : (⟨g, 0, none⟩ : Addr).add j = ⟨g, j, none⟩ := by unfold Addr.add; split <;> simp_all
    rw [ea] at this
    rwa [Nat.zero_add]

theorem FoR.app {R : Nat → Prop} {w : World} : ∀ (F G : Fo) (b off : Nat), FoR R w (F.app G) b off ↔ FoR R w F b off ∧ FoR R w G b (off + flen F * 6)
  | .nil, G, b, off => by simp [Fo.app, FoR, flen]
  | .cons p n atoms kids next, G, b, off => by
    simp only [Fo.app, FoR, flen]
    rw [FoR.app next G b (off + 6)]
    rw [show off + 6 + flen next * 6 = off + (flen next + 1) * 6 from by omega]
    simp only [and_assoc]

/-- One tree appended. -/
theorem oper_append_tree {P : Program} {o : Oper} {a : Act} {w : World} {K : Act → World → Prop} {Q : Exit → Act → World → Prop}
    (s x : Operand) (t : TypeId) (hop : o.op = Op.call { callee := Callee.builtin Builtin.append, args := #[s, x], argTypes := #[t, t] })
    (base : Nat) (i : TypeInfo) (z : Value) (h1 : P.underlying t = some (.slice 64)) (h2 : P.info? 64 = some i) (h3 : i.zero = some z) (h4 : i.size = 6) (h5 : i.bytes = 96) (h6 : z.cells.size = 6)
    (v : Value) (n : Nat) (xs ys : List Value) (hy : ys.length = 6) (hone : ∀ u ∈ ys, u.oneCell' = true) (W : World) (hW : w = W.alloc (.cells ys.toArray 64)) (hs : a.eval s = v) (hown : W.ownsRow base 64 6 v n xs)
    (g : Nat) (hx : a.eval x = .slice (some ⟨g, 0, none⟩) 1 1) (hgW : g = W.heap.size) (b1 : n + 1 ≤ 1000000000000) (b3 : base ≤ W.heap.size)
    (hK : ∀ A' c' w', Appended W w' base 64 6 v A' (n + 1) c' (xs ++ ys) → K (a.put o.dst (.slice A' (n + 1) c')) w') : Oper.wp P o a w K Q := by
  subst hW
  subst hgW
  refine oper_append_mine s x t hop base _ i _ 6 96 h1 h2 h3 h4 h5 h6 (by decide) v n xs hs (World.ownsRow.alloc hown _) _ 1 1 ys hx (by omega) (fun e => by cases e) (fun ad e j u hu => ?_) hone (by unfold maxLen; omega) (by omega) (by simp; omega) ?_
  · injection e with e
    subst e
    have ea : (⟨W.heap.size, 0, none⟩ : Addr).add j = ⟨W.heap.size, j, none⟩ := by unfold Addr.add; split <;> simp_all
    rw [ea, World.cell?_alloc_new, ← hu]
    simp
  · intro A' c' w' h
    refine hK A' c' w' ⟨h.own, ?_, fun g hg => (h.new g hg).imp id (fun hh => by simp at hh; omega)⟩
    refine ⟨h.grown.os, h.grown.tape, h.grown.output, Nat.le_trans (by simp) h.grown.size, fun k hk hne => ?_⟩
    rw [h.grown.block k (by simp; omega) hne]
    exact Below.heap_alloc _ _ _ hk

theorem flen_app : ∀ (F G : Fo), flen (F.app G) = flen F + flen G
  | .nil, G => by simp [Fo.app, flen]
  | .cons p n a k x, G => by simp only [Fo.app, flen, flen_app x G]; omega
theorem press_app : ∀ (F G : Fo), press (F.app G) = press F ++ press G
  | .nil, G => by simp [Fo.app, press]
  | .cons p n a k x, G => by simp only [Fo.app, press, press_app x G, List.append_assoc]
theorem app_nil : ∀ (F : Fo), F.app .nil = F
  | .nil => rfl
  | .cons p n a k x => by simp only [Fo.app, app_nil x]
theorem app_assoc : ∀ (F G H : Fo), (F.app G).app H = F.app (G.app H)
  | .nil, G, H => rfl
  | .cons p n a k x, G, H => by simp only [Fo.app, app_assoc x G H]

/-- A new row of one node. -/
theorem own_new {w : World} {base : Nat} (hb : base ≤ w.heap.size) (n : Nd) : OwnN (w.alloc (.cells #[.int .i64 n.op, .int .i64 n.a, .int .i64 n.b] 53)) base (.slice (some ⟨w.heap.size, 0, none⟩) 1 1) [n] :=
  ⟨rfl, .inr ⟨w.heap.size, 1, _, rfl, hb, heap_alloc_new w _, Nat.le_refl _, by unfold maxLen; omega, rfl, rfl⟩⟩

def fsize : Fo → Nat
  | .nil => 0
  | .cons _ _ _ k x => fsize k + fsize x + 1
/-- The nodes OpFun stand ahead of each second kid of a fix, and nowhere else. -/
def PreOk (p : Bool) : Nat → Fo → Prop
  | _, .nil => True
  | i, .cons pre n _ k x => pre.length = (if p = true ∧ i % 2 = 0 then 1 else 0) ∧ PreOk (decide (n.op = 12)) 0 k ∧ PreOk p (i + 1) x
theorem fo_at : ∀ (F : Fo) (i : Nat), i < flen F → ∃ F1 pre n a k F2, F = F1.app (.cons pre n a k F2) ∧ flen F1 = i
  | .nil, i, h => absurd h (by simp [flen])
  | .cons pre n a k x, 0, _ => ⟨.nil, pre, n, a, k, x, rfl, rfl⟩
  | .cons pre n a k x, i + 1, h => by
    obtain ⟨F1, pre', n', a', k', F2, e, hl⟩ := fo_at x i (by simpa [flen] using h)
    exact ⟨.cons pre n a k F1, pre', n', a', k', F2, by rw [e]; rfl, by simp [flen, hl]⟩
theorem fsize_app : ∀ (F G : Fo), fsize (F.app G) = fsize F + fsize G
  | .nil, G => by simp [Fo.app, fsize]
  | .cons p n a k x, G => by simp only [Fo.app, fsize, fsize_app x G]; omega
theorem row_app : ∀ (F G : Fo), row (F.app G) = row F ++ row G
  | .nil, G => by simp [Fo.app, row]
  | .cons p n a k x, G => by simp only [Fo.app, row, row_app x G, List.append_assoc, List.cons_append]
theorem PreOk.app {p : Bool} : ∀ (F G : Fo) (i : Nat), PreOk p i (F.app G) ↔ PreOk p i F ∧ PreOk p (i + flen F) G
  | .nil, G, i => by simp [Fo.app, PreOk, flen]
  | .cons pre n a k x, G, i => by
    simp only [Fo.app, PreOk, flen]
    rw [PreOk.app x G (i + 1), show i + 1 + flen x = i + (flen x + 1) from by omega]
    simp only [and_assoc]
theorem press_len : ∀ (F : Fo) (i : Nat), PreOk true i F → (press F).length = (flen F + 1 - i % 2) / 2
  | .nil, i, _ => by simp only [press, flen, List.length_nil]; omega
  | .cons pre n a k x, i, h => by
    obtain ⟨h1, _, h3⟩ := h
    have := press_len x (i + 1) h3
    simp only [press, flen, List.length_append, h1, this, true_and]
    split <;> omega
theorem press_none : ∀ (F : Fo) (i : Nat), PreOk false i F → press F = []
  | .nil, _, _ => rfl
  | .cons pre n a k x, i, h => by
    obtain ⟨h1, _, h3⟩ := h
    simp only [press, press_none x (i + 1) h3, List.append_nil]
    exact List.eq_nil_of_length_eq_zero (by simpa using h1)

/-- What the slice of kids holds at a place. -/
theorem KidsR.at_ {R : Nat → Prop} {w : World} {A : Option Addr} {n c : Nat} {F1 F2 : Fo} {pre : List Nd} {nd : Nd} {ats : List Nd} {ks : Fo} (h : KidsR R w A n c (F1.app (.cons pre nd ats ks F2))) :
    ∃ b off sk sa sf, A = some ⟨b, off, none⟩ ∧ R b ∧ TreeC R w [.int .i64 nd.op, .int .i64 nd.a, .int .i64 nd.b, sk, sa, sf] nd ats ks ∧
      w.cell? ⟨b, off + flen F1 * 6, none⟩ = some (.int .i64 nd.op) ∧ w.cell? ⟨b, off + flen F1 * 6 + 1, none⟩ = some (.int .i64 nd.a) ∧ w.cell? ⟨b, off + flen F1 * 6 + 2, none⟩ = some (.int .i64 nd.b) ∧
      w.cell? ⟨b, off + flen F1 * 6 + 3, none⟩ = some sk ∧ w.cell? ⟨b, off + flen F1 * 6 + 4, none⟩ = some sa ∧ w.cell? ⟨b, off + flen F1 * 6 + 5, none⟩ = some sf := by
  obtain ⟨b, off, e, hr, hf⟩ := h.mem (by rw [← h.len, flen_app]; simp [flen]; omega)
  rw [FoR.app] at hf
  obtain ⟨_, ⟨h0, h1, h2⟩, ⟨A', c', h3, h3b, h3c⟩, ⟨v, h4, h4b⟩, ⟨u, h5, h5b⟩, _⟩ := hf
  exact ⟨b, off, _, _, _, e, hr, ⟨_, _, _, rfl, ⟨A', _, c', rfl, ⟨rfl, h3b, h3c⟩⟩, h4b, h5b⟩, h0, h1, h2, h3, h4, h5⟩

end Go.Proofs.Ytnmeglbamfjcgaa
