/- Rows of words that are still appended to. -/
import Derived.Test.YtgiepikoffaaiaaDoorNorm
import Derived.Laws.AppendOwn
import Derived.Deep.RegionLaw
import Derived.Deep.RegionHeld3
namespace Go.Proofs.YtgiepikoffaaiaaDoor
open Go Go.RowKit

theorem ownsRow_block {w : World} {base : Nat} {e : TypeId} {size : Nat} {v : Value} {n : Nat} {xs : List Value} (h : w.ownsRow base e size v n xs) {g : Nat} (hg : v.ownBlock = some g) : base ≤ g ∧ g < w.heap.size ∧ ∃ cur, w.heap[g]? = some (.cells cur e (0, 0)) := by
  rcases h.2 with ⟨rfl, _⟩ | ⟨g', cap, cur, rfl, hb, hgg, _⟩
  · simp [Value.ownBlock] at hg
  · simp only [Value.ownBlock, Option.some.injEq] at hg
    subst hg
    exact ⟨hb, (Array.getElem?_eq_some_iff.1 hgg).1, cur, hgg⟩
/-- What append leaves of a row of the call's own: the same row, or a new one. -/
structure Appended (w w' : World) (base : Nat) (e : TypeId) (size : Nat) (v : Value) (A : Option Addr) (n c : Nat) (xs : List Value) : Prop where
  own : w'.ownsRow base e size (.slice A n c) n xs
  grown : w.grownBy w' v.ownBlock
  new : ∀ g, (Value.slice A n c).ownBlock = some g → v.ownBlock = some g ∨ w.heap.size ≤ g

theorem run_append_mine {P : Program} (w : World) (base : Nat) (t ty e : TypeId) (i : TypeInfo) (z : Value) (size bytes : Nat) (ht : P.underlying t = some (.slice e)) (hi : P.info? e = some i) (hz : i.zero = some z)
    (hsize : i.size = size) (hby : i.bytes = bytes) (hzs : z.cells.size = size) (hsz : 0 < size)
    (v : Value) (n : Nat) (xs : List Value) (hown : w.ownsRow base e size v n xs)
    (A : Option Addr) (m c : Nat) (news : List Value) (hl : news.length = m * size) (hnone : A = none → m = 0 ∧ c = 0) (hnews : ∀ ad, A = some ad → ∀ j u, news[j]? = some u → w.cell? (ad.add j) = some u) (h1 : ∀ u ∈ news, u.oneCell' = true)
    (h63 : n + m ≤ maxLen) (hbytes : (n + m) * bytes ≤ 140737488355328) (hbase : base ≤ w.heap.size) :
    ∃ A' c' w', (Builtin.append_ #[t, t] ty #[v, .slice A m c]).run P w = .ok (.slice A' (n + m) c') w' ∧ Appended w w' base e size v A' (n + m) c' (xs ++ news) := by
  cases A with
  | none =>
    obtain ⟨rfl, rfl⟩ := hnone rfl
    obtain rfl : news = [] := List.eq_nil_of_length_eq_zero (by simpa using hl)
    have hr := run_append_owned_none (P := P) w base t ty e i size ht hi v n xs hown
    obtain ⟨A', c', rfl⟩ : ∃ A' c', v = .slice A' n c' := by
      rcases hown.2 with ⟨rfl, rfl⟩ | ⟨g, cap, cur, rfl, _⟩
      · exact ⟨none, 0, rfl⟩
      · exact ⟨_, _, rfl⟩
    exact ⟨A', c', w, hr, by simpa using hown, World.grownBy.refl _ _, fun g hg => .inl hg⟩
  | some ad =>
    have hnews := hnews ad rfl
    obtain ⟨v', w', hr, h2, h3, h4⟩ := run_append_own (P := P) w base t ty e i z size bytes ht hi hz hsize hby hzs hsz v n xs hown ad m c news hl hnews h1 h63 hbytes hbase
    obtain ⟨A', c', rfl⟩ : ∃ A' c', v' = .slice A' (n + m) c' := by
      rcases h2.2 with ⟨rfl, h0⟩ | ⟨g, cap, cur, rfl, _⟩
      · rw [h0]; exact ⟨none, 0, rfl⟩
      · exact ⟨_, _, rfl⟩
    refine ⟨A', c', w', hr, h2, h3, fun g hg => ?_⟩
    subst hsize
    subst hby
    rcases hown.2 with ⟨rfl, rfl⟩ | ⟨g0, cap, cur, rfl, hb, hgg, hnc, hcm, hcs, htake⟩
    · by_cases hm : m = 0
      · have := h4.2 ⟨rfl, hm⟩
        rw [this] at hg
        exact .inl hg
      · have hr2 := run_append_nil (P := P) w t ty e i z ht hi hz ad m c news hl hnews (by omega) (by unfold maxLen at h63; omega) (by simp only [Nat.zero_add] at hbytes; omega)
        rw [hr] at hr2
        injection hr2 with hv _
        rw [hv] at hg
        simp only [Value.ownBlock, Option.some.injEq] at hg
        exact .inr (by omega)
    · by_cases hroom : n + m ≤ cap
      · have hr2 := run_append_room (P := P) w t ty e i ht hi g0 n cap cur hgg ad m c news hl hnews h1 hroom (by rw [hl, hcs, ← Nat.add_mul]; exact Nat.mul_le_mul_right _ hroom)
        rw [hr] at hr2
        injection hr2 with hv _
        rw [hv] at hg
        exact .inl hg
      · have hr2 := run_append_grow (P := P) w t ty e i z ht hi hz ⟨g0, 0, none⟩ n cap xs hown.1 (hown.cells (g := g0) rfl) ad m c news hl hnews (by omega) (by unfold maxLen at h63; omega) (growslice_fits (by omega) hbytes)
        rw [hr] at hr2
        injection hr2 with hv _
        rw [hv] at hg
        simp only [Value.ownBlock, Option.some.injEq] at hg
        exact .inr (by omega)

/-- 'append' onto a row of the call's own, as one operation. -/
theorem oper_append_mine {P : Program} {o : Oper} {a : Act} {w : World} {K : Act → World → Prop} {Q : Exit → Act → World → Prop}
    (s x : Operand) (t : TypeId) (hop : o.op = Op.call { callee := Callee.builtin Builtin.append, args := #[s, x], argTypes := #[t, t] })
    (base : Nat) (e : TypeId) (i : TypeInfo) (z : Value) (size bytes : Nat) (h1 : P.underlying t = some (.slice e)) (h2 : P.info? e = some i) (h3 : i.zero = some z) (h4 : i.size = size) (h5 : i.bytes = bytes) (h6 : z.cells.size = size) (h7 : 0 < size)
    (v : Value) (n : Nat) (xs : List Value) (hs : a.eval s = v) (hown : w.ownsRow base e size v n xs)
    (A : Option Addr) (m c : Nat) (news : List Value) (hx : a.eval x = .slice A m c) (hn : news.length = m * size) (hnone : A = none → m = 0 ∧ c = 0) (hc : ∀ ad, A = some ad → ∀ j u, news[j]? = some u → w.cell? (ad.add j) = some u) (h1c : ∀ u ∈ news, u.oneCell' = true)
    (b1 : n + m ≤ maxLen) (b2 : (n + m) * bytes ≤ 140737488355328) (b3 : base ≤ w.heap.size)
    (hK : ∀ A' c' w', Appended w w' base e size v A' (n + m) c' (xs ++ news) → K (a.put o.dst (.slice A' (n + m) c')) w') : Oper.wp P o a w K Q := by
  obtain ⟨A', c', w', hrun, hap⟩ := run_append_mine (P := P) w base t o.type e i z size bytes h1 h2 h3 h4 h5 h6 h7 v n xs hown A m c news hn hnone hc h1c b1 b2 b3
  unfold Oper.wp
  simp [execOp, hop, resolve, invoke, builtin, hs, hx, hrun, Result.andThen]
  exact hK A' c' w' hap

theorem own_ne {w : World} {base : Nat} {e : TypeId} {size : Nat} {v : Value} {n : Nat} {xs : List Value} (h : w.ownsRow base e size v n xs) {g : Nat} (hg : g < base) : some g ≠ v.ownBlock := by
  intro e
  have := (ownsRow_block h e.symm).1
  omega
/-- A row stays owned while one of another element type is grown. -/
theorem grown_of_below {w w' : World} (hb : Below w.heap.size w w') (row : Option Nat) : w.grownBy w' row := ⟨hb.os, hb.tape, hb.output, hb.size, fun k hk _ => hb.block k hk⟩
theorem own_below {w w' : World} {base : Nat} {e : TypeId} {size : Nat} {v : Value} {n : Nat} {xs : List Value} (h : w.ownsRow base e size v n xs) (hb : Below w.heap.size w w') : w'.ownsRow base e size v n xs :=
  h.kept (grown_of_below hb none) (by cases v.ownBlock <;> simp)
/-- An operation in a walk. -/
theorem wpList_oper {P : Program} {ops : Array Oper} {rest : List Oper} {o : Oper} {a : Act} {w : World} {Q : Exit → Act → World → Prop} (hg : o.guard = none) (h : Oper.wp P o a w (wpList P ops Q rest) Q) : wpList P ops Q (o :: rest) a w := by
  unfold wpList
  rw [if_pos (by simp [Region.wanted, hg])]
  exact .inl h
/-- An operation of a region that draws. -/
theorem step_oper {P : Program} {ops : Array Oper} {o : Oper} {a : Act} {w : World} {K : Act → World → Prop} {Q : Exit → Act → World → Prop} {E : Prop} (hg : o.guard = none) (h : Oper.wp P o a w K Q) :
    if Region.wanted o (yielded ops a.tmps) = true then Oper.wp P o a w K Q else E := by
  rw [if_pos (by simp [Region.wanted, hg])]; exact h

theorem oper_append_one {P : Program} {o : Oper} {a : Act} {w : World} {K : Act → World → Prop} {Q : Exit → Act → World → Prop}
    (s x : Operand) (t e : TypeId) (hop : o.op = Op.call { callee := Callee.builtin Builtin.append, args := #[s, x], argTypes := #[t, t] })
    (base : Nat) (i : TypeInfo) (z : Value) (bytes : Nat) (h1 : P.underlying t = some (.slice e)) (h2 : P.info? e = some i) (h3 : i.zero = some z) (h4 : i.size = 1) (h5 : i.bytes = bytes) (h6 : z.cells.size = 1) (hby : bytes ≤ 24)
    (v : Value) (n : Nat) (xs : List Value) (u : Value) (hone : u.oneCell' = true) (W : World) (hW : w = W.alloc (.cells #[u] e)) (hs : a.eval s = v) (hown : W.ownsRow base e 1 v n xs)
    (g : Nat) (hx : a.eval x = .slice (some ⟨g, 0, none⟩) 1 1) (hgW : g = W.heap.size) (b1 : n + 1 ≤ 1000000000) (b3 : base ≤ W.heap.size)
    (hK : ∀ A' c' w', Appended W w' base e 1 v A' (n + 1) c' (xs ++ [u]) → K (a.put o.dst (.slice A' (n + 1) c')) w') : Oper.wp P o a w K Q := by
  subst hW
  subst hgW
  refine oper_append_mine s x t hop base _ i _ 1 bytes h1 h2 h3 h4 h5 h6 (by decide) v n xs hs (World.ownsRow.alloc hown _) _ 1 1 [u] hx (by simp) (fun e => by cases e) (fun ad e j u' hu => ?_) (fun q hq => by simp at hq; subst hq; exact hone) (by unfold maxLen; omega) ?_ (by simp; omega) ?_
  · injection e with e
    subst e
    have ea : (⟨W.heap.size, 0, none⟩ : Addr).add j = ⟨W.heap.size, j, none⟩ := by unfold Addr.add; split <;> simp_all
    rw [ea, World.cell?_alloc_new, ← hu]
    simp
  · exact Nat.le_trans (Nat.mul_le_mul b1 hby) (by decide)
  · intro A' c' w' h
    refine hK A' c' w' ⟨h.own, ?_, fun g hg => (h.new g hg).imp id (fun hh => by simp at hh; omega)⟩
    refine ⟨h.grown.os, h.grown.tape, h.grown.output, Nat.le_trans (by simp) h.grown.size, fun k hk hne => ?_⟩
    rw [h.grown.block k (by simp; omega) hne]
    exact Below.heap_alloc _ _ _ hk

/-- An owned row of words. -/
abbrev OwnU (w : World) (base : Nat) (A : Option Addr) (n c : Nat) (l : List Nat) : Prop := w.ownsRow base 34 1 (.slice A n c) n (cellsU l).toList
theorem own_new {w : World} {base g : Nat} {l : List Nat} (hr : RowB w g l) (hb : base ≤ g) (hl : l.length ≤ maxLen) : OwnU w base (some ⟨g, 0, none⟩) l.length l.length l := by
  refine ⟨by simp [cellsU], .inr ⟨g, l.length, cellsU l, rfl, hb, hr, Nat.le_refl _, hl, by simp [cellsU], ?_⟩⟩
  rw [List.take_of_length_le (by simp [cellsU])]
theorem OwnU.natV {w : World} {base n c : Nat} {A : Option Addr} {l : List Nat} (h : OwnU w base A n c l) (ho : Ok l) (hf : n ≤ 35184372087808) : NatV w A n c l := by
  have hln : l.length = n := by have := h.1; simpa [cellsU] using this
  have h0 := h
  obtain ⟨_, hcase⟩ := h
  rcases hcase with ⟨hv, h2⟩ | ⟨g, cap', cur, hv, hg, hh, hle, _⟩
  · injection hv with e1 e2 e3
    subst e1 e2 e3
    exact ⟨hln, Nat.le_refl _, by omega, fun _ => rfl, ho, fun h => absurd h (by omega)⟩
  · injection hv with e1 e2 e3
    subst e1 e3
    refine ⟨hln, hle, hf, (fun e => by cases e), ho, fun hpos => ⟨g, 0, rfl, (ownsRow_block h0 rfl).2.1, fun k hk => ?_⟩⟩
    rw [Nat.zero_add, h0.cellAt k (by omega), Array.getElem?_toList, cellsU_at l (by omega)]
theorem oper_append_words {P : Program} {o : Oper} {a : Act} {w : World} {K : Act → World → Prop} {Q : Exit → Act → World → Prop}
    (s x : Operand) (t : TypeId) (hop : o.op = Op.call { callee := Callee.builtin Builtin.append, args := #[s, x], argTypes := #[t, t] })
    (base : Nat) (i : TypeInfo) (h1 : P.underlying t = some (.slice 34)) (h2 : P.info? 34 = some i) (h3 : i.zero = some (.int .u32 0)) (h4 : i.size = 1) (h5 : i.bytes = 4)
    {B : Option Addr} {p q : Nat} {l m : List Nat} (hs : a.eval s = .slice B p q) (hown : OwnU w base B p q l) {R : Nat → Prop} {A : Option Addr} {n c : Nat} (hx : a.eval x = .slice A n c) (hm : NatR R w A n c m)
    (b1 : p + n ≤ 1000000) (b3 : base ≤ w.heap.size)
    (hK : ∀ A' c' w', Appended w w' base 34 1 (.slice B p q) A' (p + n) c' (cellsU (l ++ m)).toList → K (a.put o.dst (.slice A' (p + n) c')) w') : Oper.wp P o a w K Q := by
  have hcm : (cellsU (l ++ m)).toList = (cellsU l).toList ++ (cellsU m).toList := by simp [cellsU]
  rw [hcm] at hK
  refine oper_append_mine s x t hop base _ i _ 1 4 h1 h2 h3 h4 h5 rfl (by decide) (.slice B p q) p (cellsU l).toList hs hown A n c (cellsU m).toList hx (by rw [Array.length_toList, cellsU_size, hm.len, Nat.mul_one]) (fun e => ⟨by
      by_cases h0 : 0 < n
      · obtain ⟨b, off, e2, _⟩ := hm.mem h0
        rw [e] at e2; cases e2
      · omega, hm.nul e⟩) (fun ad e j u hu => ?_) (cells_one m) (by unfold maxLen; omega) (by omega) b3 hK
  rw [Array.getElem?_toList] at hu
  have hj : j < m.length := by
    have h1 := (Array.getElem?_eq_some_iff.1 hu).1
    rwa [cellsU_size] at h1
  rw [cellsU_at m hj] at hu
  obtain ⟨b, off, e2, _, hc⟩ := hm.mem (by rw [← hm.len]; omega)
  rw [e] at e2
  injection e2 with e2
  subst e2
  have ea : (⟨b, off, none⟩ : Addr).add j = ⟨b, off + j, none⟩ := by unfold Addr.add; split <;> simp_all
  rw [ea, hc j (by rw [← hm.len]; exact hj)]
  exact hu

end Go.Proofs.YtgiepikoffaaiaaDoor
