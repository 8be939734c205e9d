/- Rows of digits in memory; cut. -/
import Derived.Test.YtgiepikoffaaiaaDoorPlain8
import Derived.Test.YtgiepikoffaaiaaDoorOwn
import Derived.Test.YtgiepikoffaaiaaDoorNum
namespace Go.Proofs.YtgiepikoffaaiaaDoor
open Go Go.RowKit

/-- The slice value '.slice A n c' of ints reads as these. -/
structure DigR (w : World) (A : Option Addr) (n c : Nat) (l : List Nat) : Prop where
  len : l.length = n
  cap : n ≤ c
  few : n ≤ 1000000
  nul : A = none → c = 0
  mem : 0 < n → ∃ b off, A = some ⟨b, off, none⟩ ∧ b < w.heap.size ∧ ∀ k, k < n → w.cell? ⟨b, off + k, none⟩ = some (.int .i64 ((dg8 l k : Nat) : Int))
theorem DigR.below {w w' : World} {A : Option Addr} {n c : Nat} {l : List Nat} (h : DigR w A n c l) (hb : Below w.heap.size w w') : DigR w' A n c l :=
  ⟨h.len, h.cap, h.few, h.nul, fun hn => by
    obtain ⟨b, off, e, hb', hm⟩ := h.mem hn
    exact ⟨b, off, e, Nat.lt_of_lt_of_le hb' hb.size, fun k hk => by rw [hb.cell (p := ⟨b, off + k, none⟩) hb']; exact hm k hk⟩⟩
theorem DigR.alloc {w : World} {A : Option Addr} {n c : Nat} {l : List Nat} (h : DigR w A n c l) (o : Obj) : DigR (w.alloc o) A n c l := h.below (below_alloc _ _)
theorem DigR.drewN {w : World} {A : Option Addr} {n c : Nat} {l : List Nat} (h : DigR w A n c l) (m : Nat) : DigR (w.drewN m) A n c l := ⟨h.len, h.cap, h.few, h.nul, h.mem⟩
theorem DigR.nil (w : World) : DigR w none 0 0 [] := ⟨rfl, Nat.le_refl _, Nat.zero_le _, fun _ => rfl, fun h => absurd h (by omega)⟩
theorem DigR.cell_at {w : World} {A : Option Addr} {n c : Nat} {l : List Nat} (h : DigR w A n c l) {k : Nat} (hk : k < n) : ∃ b off, A = some ⟨b, off, none⟩ ∧ b < w.heap.size ∧ w.cell? ⟨b, off + k, none⟩ = some (.int .i64 ((dg8 l k : Nat) : Int)) := by
  obtain ⟨b, off, e, hb, hm⟩ := h.mem (by omega)
  exact ⟨b, off, e, hb, hm k hk⟩
theorem DigR.front {w : World} {A : Option Addr} {n c : Nat} {l : List Nat} (h : DigR w A n c l) {k : Nat} (hk : k ≤ n) : DigR w A k c (l.take k) := by
  have h1 := h.cap
  have h2 := h.few
  have h3 := h.len
  refine ⟨by rw [List.length_take]; omega, by omega, by omega, h.nul, fun hn => ?_⟩
  obtain ⟨b, off, e, hb, hm⟩ := h.mem (by omega)
  exact ⟨b, off, e, hb, fun j hj => by rw [wd_take8 hj]; exact hm j (by omega)⟩

def cellsD (l : List Nat) : Array Value := (l.map fun (x : Nat) => Value.int .i64 (x : Int)).toArray
theorem cellsD_at (l : List Nat) {i : Nat} (h : i < l.length) : (cellsD l)[i]? = some (.int .i64 ((dg8 l i : Nat) : Int)) := by
  simp [cellsD, wd_eq8 h, List.getElem?_eq_getElem h]
theorem cellsD_snoc (l : List Nat) (x : Nat) : (cellsD (l ++ [x])).toList = (cellsD l).toList ++ [.int .i64 (x : Int)] := by simp [cellsD]
theorem cellsD_set (l : List Nat) (i x : Nat) : (cellsD l).setIfInBounds i (.int .i64 (x : Int)) = cellsD (l.set i x) := by
  simp [cellsD, List.map_set]
theorem cellsD_size (l : List Nat) : (cellsD l).size = l.length := by simp [cellsD]
/-- An owned row of digits. -/
abbrev OwnD (w : World) (base : Nat) (A : Option Addr) (n c : Nat) (l : List Nat) : Prop := w.ownsRow base 3 1 (.slice A n c) n (cellsD l).toList
theorem OwnD.digR {w : World} {base n c : Nat} {A : Option Addr} {l : List Nat} (h : OwnD w base A n c l) (hf : n ≤ 1000000) : DigR w A n c l := by
  have hln : l.length = n := by have := h.1; simpa [cellsD] using this
  have h0 := h
  obtain ⟨_, hcase⟩ := h
  rcases hcase with ⟨hv, h2⟩ | ⟨g, cap', cur, hv, hg, hh, hle, _⟩
  · injection hv with e1 e2 e3
    subst e1 e2 e3
    exact ⟨hln, Nat.le_refl _, by omega, fun _ => rfl, fun h => absurd h (by omega)⟩
  · injection hv with e1 e2 e3
    subst e1 e3
    refine ⟨hln, hle, hf, (fun e => by cases e), fun hpos => ⟨g, 0, rfl, (ownsRow_block h0 rfl).2.1, fun k hk => ?_⟩⟩
    rw [Nat.zero_add, h0.cellAt k (by omega), Array.getElem?_toList, cellsD_at l (by omega)]
theorem OwnD.nil (w : World) (base : Nat) : OwnD w base none 0 0 [] := World.ownsRow_nil _ _ _ _
theorem OwnD.below {w w' : World} {base n c : Nat} {A : Option Addr} {l : List Nat} (h : OwnD w base A n c l) (hb : Below w.heap.size w w') : OwnD w' base A n c l := own_below h hb
theorem infoI : (Tryd.prog.info? 3).map (fun i => (i.zero, i.size, i.bytes)) = some (some (.int .i64 0), 1, 8) := by kernel_rfl

/-- Digits come back. -/
def DigPost (l : List Nat) (w : World) (e : Ending) (w' : World) : Prop := Below w.heap.size w w' ∧ ∃ A n c, e = .returned (.slice A n c) ∧ DigR w' A n c l
/-- Words come back. -/
def RNatPost (x : Nat) (w : World) (e : Ending) (w' : World) : Prop := Below w.heap.size w w' ∧ ∃ A n c, e = .returned (.slice A n c) ∧ NatV w' A n c (wds x)

theorem slice_front (A : Option Addr) (n c k : Nat) (hk : k ≤ n) (hc : n ≤ c) (w : World) : (Instr.slice 56 (.slice A n c) none (some (.int .i64 (k : Int))) none).run Tryd.prog w = .ok (.slice A k c) w := by
  go_simp
  intro h
  omega

set_option maxHeartbeats 1000000 in
theorem cut_any {A : Option Addr} {n c : Nat} {l : List Nat} {w : World} (h : DigR w A n c l) (ho : Ok8 l) :
    Calls Tryd.prog 62 #[.slice A n c] w fun e w' => (∃ n', e = .returned (.slice A n' c) ∧ DigR w' A n' c (dgs (val8 l))) ∧ w = w' := by
  have hf := h.few
  go_enter Tryd.func62, Tryd.ntmps62
  go_wp2
  go_loop [3] (fun i => ∃ k : Nat, k ≤ n ∧ i = .int .i64 k ∧ RowKit.Hid (∀ j, k ≤ j → dg8 l j = 0)) (fun i => (intOf i).toNat)
  case atStart => exact ⟨n, Nat.le_refl _, rfl, Lib.hid fun j hj => wd_out8 (by rw [h.len]; exact hj)⟩
  case round =>
    obtain ⟨k, hk, rfl, hz⟩ := hrel
    have hend : (k = 0 ∨ dg8 l (k - 1) ≠ 0) → dgs (val8 l) = l.take k := fun hh => wds_take8 ho (by rw [h.len]; exact hk) hz.out hh
    have hsl := slice_front A n c k hk h.cap
    have HR := Lib.hid (h.front hk)
    by_cases hk0 : k = 0
    · subst hk0
      have HE := Lib.hid (hend (.inl rfl))
      have hsl2 : ∀ w : World, (Instr.slice 56 (.slice A n c) none (some (.int .i64 0)) none).run Tryd.prog w = .ok (.slice A 0 c) w := hsl
      clear hend hsl
      go_wp2_with fail
      go_ret
      rw [HE.out]
      exact ⟨⟨0, rfl, HR.out⟩, rfl⟩
    · obtain ⟨m, rfl⟩ : ∃ m, k = m + 1 := ⟨k - 1, by omega⟩
      obtain ⟨b, off, rfl, _, hm⟩ := h.mem (by omega)
      have g0 := hm m (by omega)
      clear hm hk0
      have hsl2 : ∀ w : World, (Instr.slice 56 (.slice (some ⟨b, off, none⟩) n c) none (some (.int .i64 ((m : Int) + 1))) none).run Tryd.prog w = .ok (.slice (some ⟨b, off, none⟩) (m + 1) c) w := hsl
      clear hsl
      by_cases hx : dg8 l m = 0
      · rw [hx] at g0
        have HX := Lib.hid hx
        clear hx hend
        go_wp2_with fail
        go_round
        case rel => exact ⟨m, by omega, by go_num, Lib.hid fun j hj => by
          by_cases e : j = m
          · subst e; exact HX.out
          · exact hz.out j (by omega)⟩
        case measure => simp [intOf]
      · have HE := Lib.hid (hend (.inr hx))
        have hxb : (((dg8 l m : Nat) : Int) == 0) = false := by simp; omega
        have HX := Lib.hid hx
        clear hx hend
        generalize dg8 l m = x at g0 hxb
        go_wp2_with fail
        go_ret
        rw [HE.out]
        exact ⟨⟨m + 1, rfl, HR.out⟩, rfl⟩

end Go.Proofs.YtgiepikoffaaiaaDoor
