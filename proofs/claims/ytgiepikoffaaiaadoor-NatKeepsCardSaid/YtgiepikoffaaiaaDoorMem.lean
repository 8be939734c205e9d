/- Numbers in memory: a slice of words that reads as a list of words; a new block that holds a number. Plain lemmas; no program. -/
import Derived.Test.YtgiepikoffaaiaaDoorPlain
import Derived.Test.YtgiepikoffaaiaaDoorProg
import Derived.WalkKit
import Derived.WalkLawsBesides
import Derived.WalkSpells
import Derived.Lib.Hide
import Derived.Deep.Quiet
import Derived.Deep.QuietTactic
import Derived.BigQuiet
namespace Go.Proofs.YtgiepikoffaaiaaDoor
open Go.RowKit

/-- The slice value '.slice A n c' reads as the words l; its memory lies in blocks of R. -/
structure NatR (R : Nat → Prop) (w : World) (A : Option Addr) (n c : Nat) (l : List Nat) : Prop where
  len : l.length = n
  cap : n ≤ c
  few : n ≤ 35184372087808
  nul : A = none → c = 0
  ok : Ok l
  mem : 0 < n → ∃ b off, A = some ⟨b, off, none⟩ ∧ R b ∧ ∀ k, k < n → w.cell? ⟨b, off + k, none⟩ = some (.int .u32 ((wd l k : Nat) : Int))
/-- .. in blocks that are there. -/
abbrev NatV (w : World) (A : Option Addr) (n c : Nat) (l : List Nat) : Prop := NatR (· < w.heap.size) w A n c l

theorem NatR.keep {R R' : Nat → Prop} {w w' : World} {A : Option Addr} {n c : Nat} {l : List Nat} (h : NatR R w A n c l) (hR : ∀ b, R b → R' b ∧ ∀ o, w'.cell? ⟨b, o, none⟩ = w.cell? ⟨b, o, none⟩) : NatR R' w' A n c l :=
  ⟨h.len, h.cap, h.few, h.nul, h.ok, fun hn => by
    obtain ⟨b, off, e, hb, hm⟩ := h.mem hn
    exact ⟨b, off, e, (hR b hb).1, fun k hk => by rw [(hR b hb).2]; exact hm k hk⟩⟩
theorem NatR.below {w w' : World} {A : Option Addr} {n c : Nat} {l : List Nat} (h : NatV w A n c l) (hb : Below w.heap.size w w') : NatV w' A n c l :=
  h.keep fun b hb' => ⟨Nat.lt_of_lt_of_le hb' hb.size, fun o => hb.cell (p := ⟨b, o, none⟩) hb'⟩
theorem NatR.alloc {w : World} {A : Option Addr} {n c : Nat} {l : List Nat} (h : NatV w A n c l) (o : Obj) : NatV (w.alloc o) A n c l := h.below ((Below.refl _ _).alloc (Nat.le_refl _) _)
theorem NatR.drewN {w : World} {A : Option Addr} {n c : Nat} {l : List Nat} (h : NatV w A n c l) (k : Nat) : NatV (w.drewN k) A n c l := ⟨h.len, h.cap, h.few, h.nul, h.ok, h.mem⟩
theorem NatR.nil (w : World) : NatV w none 0 0 [] := ⟨rfl, Nat.le_refl _, Nat.zero_le _, fun _ => rfl, ok_nil, fun h => absurd h (by omega)⟩
theorem NatR.cell {w : World} {b off n c : Nat} {l : List Nat} (h : NatV w (some ⟨b, off, none⟩) n c l) {k : Nat} (hk : k < n) : b < w.heap.size ∧ w.cell? ⟨b, off + k, none⟩ = some (.int .u32 ((wd l k : Nat) : Int)) := by
  obtain ⟨b', off', e, hb, hm⟩ := h.mem (by omega)
  injection e with e
  injection e with e1 e2
  subst e1 e2
  exact ⟨hb, hm k hk⟩

theorem below_alloc (w : World) (o : Obj) : Below w.heap.size w (w.alloc o) := (Below.refl _ _).alloc (Nat.le_refl _) _
theorem below_drewN {B : Nat} {a w : World} (h : Below B a w) (n : Nat) : Below B a (w.drewN n) := ⟨h.os, h.tape, h.output, h.size, h.block⟩
theorem below_step {B : Nat} {a W w' : World} (hA : Below B a W) (hb : Below W.heap.size W w') (hB : B ≤ a.heap.size) : Below B a w' := hA.trans (hb.mono (Nat.le_trans hB hA.size))
theorem cell_of_heap {w w' : World} {b : Nat} (h : w'.heap[b]? = w.heap[b]?) (o : Nat) : w'.cell? ⟨b, o, none⟩ = w.cell? ⟨b, o, none⟩ := World.cell?_of_block h
theorem ret_bool {a b : Bool} (h : a = b) : Ending.returned (.bool a) = .returned (.bool b) := by rw [h]
theorem ret_int {k : IntKind} {a b : Int} (h : a = b) : Ending.returned (.int k a) = .returned (.int k b) := by rw [h]

/-- Block g is the cells cs of type t, none frozen. -/
def Blk (w : World) (g : Nat) (t : TypeId) (cs : Array Value) : Prop := w.heap[g]? = some (.cells cs t (0, 0))
section
variable {w w' : World} {g : Nat} {t : TypeId} {cs : Array Value}
theorem Blk.lt (h : Blk w g t cs) : g < w.heap.size := (Array.getElem?_eq_some_iff.1 h).1
theorem Blk.cell (h : Blk w g t cs) (i : Nat) : w.cell? ⟨g, i, none⟩ = cs[i]? := by
  unfold Blk at h
  simp [World.cell?, h]
theorem Blk.frozen (h : Blk w g t cs) (i : Nat) : w.frozen? ⟨g, i, none⟩ = false := by
  unfold Blk at h
  simp [World.frozen?, h]
theorem Blk.new (w : World) (t : TypeId) (cs : Array Value) : Blk (w.alloc (.cells cs t)) w.heap.size t cs := heap_alloc_new w _
theorem Blk.drewN (h : Blk w g t cs) (n : Nat) : Blk (w.drewN n) g t cs := h
theorem Blk.alloc (h : Blk w g t cs) (o : Obj) : Blk (w.alloc o) g t cs := (Below.heap_alloc w o g h.lt).trans h
theorem Blk.set_ (h : Blk w g t cs) (i : Nat) (u : Value) : Blk (w.setCell ⟨g, i, none⟩ u) g t (cs.setIfInBounds i u) := by
  unfold Blk at h ⊢
  simp [World.setCell, Array.getElem?_modify, h]
theorem Blk.far (h : Blk w g t cs) {p : Addr} (hp : g ≠ p.block) (u : Value) : Blk (w.setCell p u) g t cs := (Below.heap_setCell w p u g hp).trans h
theorem Blk.below {B : Nat} (h : Blk w g t cs) (hb : Below B w w') (hg : g < B) : Blk w' g t cs := (hb.block g hg).trans h
end

/-- The cells of words. -/
def cellsU (l : List Nat) : Array Value := (l.map fun (x : Nat) => Value.int .u32 (x : Int)).toArray
theorem cellsU_at (l : List Nat) {i : Nat} (h : i < l.length) : (cellsU l)[i]? = some (.int .u32 ((wd l i : Nat) : Int)) := by
  simp [cellsU, wd_eq h, List.getElem?_eq_getElem h]
theorem cellsU_set (l : List Nat) (i x : Nat) : (cellsU l).setIfInBounds i (.int .u32 (x : Int)) = cellsU (l.set i x) := by
  simp [cellsU, List.map_set]
theorem cellsU_zero (n : Nat) : cellsU (List.replicate n 0) = Array.replicate n (.int .u32 0) := by
  simp [cellsU]
theorem cellsU_size (l : List Nat) : (cellsU l).size = l.length := by simp [cellsU]

/-- Block g is the row of words l. -/
abbrev RowB (w : World) (g : Nat) (l : List Nat) : Prop := Blk w g 34 (cellsU l)
theorem RowB.cell {w : World} {g : Nat} {l : List Nat} (h : RowB w g l) {i : Nat} (hi : i < l.length) : w.cell? ⟨g, i, none⟩ = some (.int .u32 ((wd l i : Nat) : Int)) := by
  rw [Blk.cell h, cellsU_at l hi]
theorem RowB.natR {w : World} {g : Nat} {l : List Nat} (h : RowB w g l) (ho : Ok l) (hf : l.length ≤ 35184372087808) {R : Nat → Prop} (hR : R g) : NatR R w (some ⟨g, 0, none⟩) l.length l.length l :=
  ⟨rfl, Nat.le_refl _, hf, (fun e => by cases e), ho, fun _ => ⟨g, 0, rfl, hR, fun k hk => by rw [Nat.zero_add]; exact RowB.cell h hk⟩⟩
theorem RowB.natV {w : World} {g : Nat} {l : List Nat} (h : RowB w g l) (ho : Ok l) (hf : l.length ≤ 35184372087808) : NatV w (some ⟨g, 0, none⟩) l.length l.length l := h.natR ho hf h.lt

/-- A number comes back, in a new block of just its words. -/
def NatPost (l : List Nat) (w : World) (e : Ending) (w' : World) : Prop := Below w.heap.size w w' ∧ ∃ g, e = .returned (.slice (some ⟨g, 0, none⟩) l.length l.length) ∧ w.heap.size ≤ g ∧ RowB w' g l

end Go.Proofs.YtgiepikoffaaiaaDoor
