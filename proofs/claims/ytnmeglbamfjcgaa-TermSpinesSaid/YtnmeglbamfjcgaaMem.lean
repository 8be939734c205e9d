/- Words for memory that the walks of this seat share: a slice of nodes that reads as a list. Plain lemmas; no program. -/
import Derived.WalkKit
import Derived.Lib.Hide
import Derived.Deep.Quiet
namespace Go.Proofs.Ytnmeglbamfjcgaa
open Go.RowKit

/-- A node of a row. -/
structure Nd where
  op : Int
  a : Int
  b : Int
deriving DecidableEq

instance : Inhabited Nd := ⟨⟨0, 0, 0⟩⟩
def nth (l : List Nd) (k : Nat) : Nd := l.getD k default
theorem nth_eq {l : List Nd} {k : Nat} (h : k < l.length) : nth l k = l[k] := by simp [nth, h]
theorem nth_drop (l : List Nd) (m k : Nat) : nth (l.drop m) k = nth l (m + k) := by simp [nth]
theorem nth_take {l : List Nd} {m k : Nat} (h : k < m) : nth (l.take m) k = nth l k := by
  simp [nth, h]
theorem ext_nth {l m : List Nd} (h : l.length = m.length) (hk : ∀ k, k < l.length → nth l k = nth m k) : l = m := by
  apply List.ext_getElem h
  intro i h1 h2
  have := hk i h1
  rwa [nth_eq h1, nth_eq h2] at this
theorem drop_nth {l : List Nd} {k : Nat} (h : k < l.length) : l.drop k = nth l k :: l.drop (k + 1) := by
  rw [nth_eq h]; exact List.drop_eq_getElem_cons h

def NodesAt (w : World) (b off : Nat) (l : List Nd) : Prop :=
  ∀ k, k < l.length → w.cell? ⟨b, off + k * 3, none⟩ = some (.int .i64 (nth l k).op) ∧ w.cell? ⟨b, off + k * 3 + 1, none⟩ = some (.int .i64 (nth l k).a) ∧ w.cell? ⟨b, off + k * 3 + 2, none⟩ = some (.int .i64 (nth l k).b)

/-- The slice value '.slice A n cap' reads as the nodes l; its memory lies in blocks of R. -/
structure TermR (R : Nat → Prop) (w : World) (A : Option Addr) (n c : Nat) (l : List Nd) : Prop where
  len : l.length = n
  cap : n ≤ c
  few : n ≤ 5864062014805
  nul : A = none → c = 0
  mem : 0 < n → ∃ b off, A = some ⟨b, off, none⟩ ∧ R b ∧ NodesAt w b off l
/-- .. in blocks that are there. -/
abbrev TermV (w : World) (A : Option Addr) (n cap : Nat) (l : List Nd) : Prop := TermR (· < w.heap.size) w A n cap l

theorem TermV.at_ {w : World} {A : Option Addr} {n c : Nat} {l : List Nd} (h : TermV w A n c l) {p : Nat} (hp : p < n) :
    ∃ b off, A = some ⟨b, off, none⟩ ∧ b < w.heap.size ∧ w.cell? ⟨b, off + p * 3, none⟩ = some (.int .i64 (nth l p).op) ∧ w.cell? ⟨b, off + p * 3 + 1, none⟩ = some (.int .i64 (nth l p).a) ∧ w.cell? ⟨b, off + p * 3 + 2, none⟩ = some (.int .i64 (nth l p).b) := by
  obtain ⟨b, off, e, hb, hm⟩ := h.mem (by omega)
  exact ⟨b, off, e, hb, hm p (by rw [h.len]; exact hp)⟩
theorem TermV.cells {w : World} {b off n c : Nat} {l : List Nd} (h : TermV w (some ⟨b, off, none⟩) n c l) {p : Nat} (hp : p < n) :
    b < w.heap.size ∧ w.cell? ⟨b, off + p * 3, none⟩ = some (.int .i64 (nth l p).op) ∧ w.cell? ⟨b, off + p * 3 + 1, none⟩ = some (.int .i64 (nth l p).a) ∧ w.cell? ⟨b, off + p * 3 + 2, none⟩ = some (.int .i64 (nth l p).b) := by
  obtain ⟨b', off', e, hb, hm⟩ := h.at_ hp
  injection e with e
  injection e with e1 e2
  subst e1 e2
  exact ⟨hb, hm⟩
theorem box_cell (w : World) (x y z : Value) (t : TypeId) (o : Nat) (v : Value) (h : #[x, y, z][o]? = some v) : (w.alloc (.cells #[x, y, z] t)).cell? ⟨w.heap.size, o, none⟩ = some v := by
  rw [World.cell?_alloc_new]; exact h
theorem below_alloc (w : World) (o : Obj) : Below w.heap.size w (w.alloc o) := (Below.refl _ _).alloc (Nat.le_refl _) _
theorem below_alloc2 (w : World) (o o' : Obj) : Below w.heap.size w ((w.alloc o).alloc o') := (below_alloc w o).alloc (by simp) _

theorem NodesAt.keep {w w' : World} {b off : Nat} {l : List Nd} (h : NodesAt w b off l) (hk : ∀ o, w'.cell? ⟨b, o, none⟩ = w.cell? ⟨b, o, none⟩) : NodesAt w' b off l := by
  intro k hkl
  rw [hk, hk, hk]
  exact h k hkl

theorem TermR.keep {R R' : Nat → Prop} {w w' : World} {A : Option Addr} {n cap : Nat} {l : List Nd} (h : TermR R w A n cap l) (hR : ∀ b, R b → R' b ∧ ∀ o, w'.cell? ⟨b, o, none⟩ = w.cell? ⟨b, o, none⟩) : TermR R' w' A n cap l :=
  ⟨h.len, h.cap, h.few, h.nul, fun hn => by
    obtain ⟨b, off, e, hb, hm⟩ := h.mem hn
    exact ⟨b, off, e, (hR b hb).1, hm.keep (hR b hb).2⟩⟩
theorem TermV.below {w w' : World} {A : Option Addr} {n cap : Nat} {l : List Nd} (h : TermV w A n cap l) (hb : Below w.heap.size w w') : TermV w' A n cap l :=
  ⟨h.len, h.cap, h.few, h.nul, fun hn => by
    obtain ⟨b, off, e, hlt, hm⟩ := h.mem hn
    exact ⟨b, off, e, Nat.lt_of_lt_of_le hlt hb.size, hm.keep fun o => hb.cell (p := ⟨b, o, none⟩) hlt⟩⟩

theorem TermV.alloc {w : World} {A : Option Addr} {n c : Nat} {l : List Nd} (h : TermV w A n c l) (o : Obj) : TermV (w.alloc o) A n c l := h.below (below_alloc _ _)

theorem TermV.drewN {w : World} {A : Option Addr} {n cap : Nat} {l : List Nd} (h : TermV w A n cap l) (k : Nat) : TermV (w.drewN k) A n cap l := ⟨h.len, h.cap, h.few, h.nul, h.mem⟩

theorem TermV.nil (w : World) : TermV w none 0 0 [] := ⟨rfl, Nat.le_refl _, Nat.zero_le _, fun _ => rfl, fun h => absurd h (by omega)⟩

theorem below_drewN {B : Nat} {a w : World} (h : Below B a w) (n : Nat) : Below B a (w.drewN n) := ⟨h.os, h.tape, h.output, h.size, h.block⟩

theorem TermV.cut {w : World} {A : Option Addr} {n cap : Nat} {l : List Nd} (h : TermV w A n cap l) {k : Nat} (hk : k ≤ n) :
    TermV w (if cap = k then A else A.map (·.add (k * 3))) (n - k) (cap - k) (l.drop k) := by
  refine ⟨by rw [List.length_drop, h.len], by have := h.cap; omega, by have := h.few; omega, fun e => ?_, fun hn => ?_⟩
  · split at e
    · omega
    · have := h.nul (by simpa using e); omega
  obtain ⟨b, off, rfl, hb, hc⟩ := h.mem (by omega)
  have := h.cap
  rw [if_neg (by omega)]
  refine ⟨b, off + k * 3, ?_, hb, ?_⟩
  · simp only [Option.map_some, Addr.add]
    split
    · rename_i h0; rw [h0, Nat.add_zero]
    · rfl
  · intro j hj
    rw [List.length_drop, h.len] at hj
    rw [nth_drop]
    have := hc (k + j) (by rw [h.len]; omega)
    rwa [Nat.add_mul, ← Nat.add_assoc] at this

theorem TermV.front {w : World} {A : Option Addr} {n cap : Nat} {l : List Nd} (h : TermV w A n cap l) {k : Nat} (hk : k ≤ n) :
    TermV w A k cap (l.take k) := by
  refine ⟨by rw [List.length_take, h.len]; omega, by have := h.cap; omega, by have := h.few; omega, h.nul, fun hn => ?_⟩
  obtain ⟨b, off, e, hb, hc⟩ := h.mem (by omega)
  refine ⟨b, off, e, hb, ?_⟩
  intro j hj
  rw [List.length_take] at hj
  rw [nth_take (by omega)]
  exact hc j (by omega)

theorem ret_bool {a b : Bool} (h : a = b) : Ending.returned (.bool a) = .returned (.bool b) := by rw [h]
theorem ret_int {k : IntKind} {a b : Int} (h : a = b) : Ending.returned (.int k a) = .returned (.int k b) := by rw [h]

theorem bcell {W w1 : World} (hb : Below W.heap.size W w1) : (∀ b o, b < W.heap.size → w1.cell? ⟨b, o, none⟩ = W.cell? ⟨b, o, none⟩) ∧ (∀ b o, b < W.heap.size → w1.frozen? ⟨b, o, none⟩ = W.frozen? ⟨b, o, none⟩) :=
  ⟨fun b o h => hb.cell (p := ⟨b, o, none⟩) h, fun b o h => hb.frozen (p := ⟨b, o, none⟩) h⟩

end Go.Proofs.Ytnmeglbamfjcgaa
