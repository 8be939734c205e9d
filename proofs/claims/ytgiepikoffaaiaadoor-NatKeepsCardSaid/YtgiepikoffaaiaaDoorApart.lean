/- Apart of the reference. -/
import Derived.Test.YtgiepikoffaaiaaDoorKept
namespace Go.Proofs.YtgiepikoffaaiaaDoor
open Go Go.RowKit

/-- Only blocks of P are written. -/
structure Kep (P : Nat → Prop) (w w' : World) : Prop where
  os : w'.os = w.os
  tape : w'.tape = w.tape
  output : w'.output = w.output
  size : w.heap.size ≤ w'.heap.size
  block : ∀ b, b < w.heap.size → ¬ P b → w'.heap[b]? = w.heap[b]?
theorem Kep.refl (P : Nat → Prop) (w : World) : Kep P w w := ⟨rfl, rfl, rfl, Nat.le_refl _, fun _ _ _ => rfl⟩
theorem Kep.drewN {P : Nat → Prop} {w w' : World} (h : Kep P w w') (n : Nat) : Kep P w (w'.drewN n) := ⟨h.os, h.tape, h.output, h.size, h.block⟩
theorem Kep.set {P : Nat → Prop} {w w' : World} (h : Kep P w w') {g : Nat} (hg : P g) (i : Nat) (v : Value) : Kep P w (w'.setCell ⟨g, i, none⟩ v) :=
  ⟨h.os, h.tape, h.output, by have := h.size; simpa using this, fun b hb hp => (Below.heap_setCell _ _ _ _ (fun e => hp (by have e2 : b = g := e; rw [e2]; exact hg))).trans (h.block b hb hp)⟩
theorem Kep.below {P : Nat → Prop} {w w' a : World} {B : Nat} (h : Kep P w w') (ha : Below B a w) (hB : B ≤ w.heap.size) (hP : ∀ b, P b → B ≤ b) : Below B a w' :=
  ⟨h.os.trans ha.os, h.tape.trans ha.tape, h.output.trans ha.output, Nat.le_trans ha.size h.size, fun k hk => (h.block k (by omega) (fun hp => by have := hP k hp; omega)).trans (ha.block k hk)⟩
theorem Blk.kep {P : Nat → Prop} {w w' : World} {g : Nat} {t : TypeId} {cs : Array Value} (h : Blk w g t cs) (hk : Kep P w w') (hp : ¬ P g) : Blk w' g t cs := (hk.block g h.lt hp).trans h

/-- A slice in a list: its block, its length. -/
abbrev Ent := Option Nat × Nat
def entA (e : Ent) : Option Addr := e.1.map fun g => ⟨g, 0, none⟩
def entV (e : Ent) : Value := .slice (entA e) e.2 e.2
def EntP (es : List Ent) (b : Nat) : Prop := ∃ (i L : Nat), es[i]? = some (some b, L)
/-- A list of slices that are apart, each a whole block or nil. -/
structure ApL (w : World) (gl : Nat) (es : List Ent) : Prop where
  list : Blk w gl 23 (es.map entV).toArray
  nil : ∀ (i L : Nat), es[i]? = some (none, L) → L = 0
  row : ∀ (i g L : Nat), es[i]? = some (some g, L) → g ≠ gl ∧ L ≤ 1000000 ∧ ∃ l, RowB w g l ∧ l.length = L
  inj : ∀ (i j g L L' : Nat), es[i]? = some (some g, L) → es[j]? = some (some g, L') → i = j
/-- The marks so far. -/
structure ApI (w wr : World) (gl : Nat) (es : List Ent) (i k : Nat) : Prop where
  kep : Kep (EntP es) w wr
  row : ∀ (j g L : Nat), es[j]? = some (some g, L) → ∃ l, RowB wr g l ∧ l.length = L ∧ ∀ t, t < L → (j < i ∨ (j = i ∧ t < k)) → wd l t = 1000 + j
theorem ApL.start {w : World} {gl : Nat} {es : List Ent} (h : ApL w gl es) : ApI w w gl es 0 0 :=
  ⟨Kep.refl _ _, fun j g L hj => by
    obtain ⟨_, _, l, hl, hn⟩ := h.row j g L hj
    exact ⟨l, hl, hn, fun t _ ht => by omega⟩⟩
theorem ApI.drewN {w wr : World} {gl i k : Nat} {es : List Ent} (h : ApI w wr gl es i k) (n : Nat) : ApI w (wr.drewN n) gl es i k := ⟨h.kep.drewN n, h.row⟩
theorem ApI.next {w wr : World} {gl i L : Nat} {o : Option Nat} {es : List Ent} (h : ApI w wr gl es i L) (he : es[i]? = some (o, L)) : ApI w wr gl es (i + 1) 0 :=
  ⟨h.kep, fun j g L' hj => by
    obtain ⟨l, hl, hn, hm⟩ := h.row j g L' hj
    refine ⟨l, hl, hn, fun t ht hc => ?_⟩
    by_cases e : j = i
    · subst e
      rw [he] at hj
      injection hj with hj
      injection hj with _ e2
      exact hm t ht (.inr ⟨rfl, by omega⟩)
    · exact hm t ht (.inl (by omega))⟩
theorem ApI.step {w wr : World} {gl i k g L : Nat} {es : List Ent} (h : ApI w wr gl es i k) (ha : ApL w gl es) (he : es[i]? = some (some g, L)) (hk : k < L) : ApI w (wr.setCell ⟨g, k, none⟩ (.int .u32 ((1000 + i : Nat) : Int))) gl es i (k + 1) :=
  ⟨h.kep.set ⟨i, L, he⟩ _ _, fun j g' L' hj => by
    obtain ⟨l, hl, hn, hm⟩ := h.row j g' L' hj
    by_cases e : j = i
    · subst e
      rw [he] at hj
      injection hj with hj
      injection hj with e1 e2
      injection e1 with e1
      subst e1 e2
      refine ⟨l.set k (1000 + j), ?_, by rw [List.length_set]; exact hn, fun t ht hc => ?_⟩
      · have := hl.set_ k (.int .u32 ((1000 + j : Nat) : Int))
        rwa [cellsU_set] at this
      · rw [wd_set (by omega)]
        by_cases e3 : t = k
        · rw [if_pos e3]
        · rw [if_neg e3]; exact hm t ht (.inr ⟨rfl, by omega⟩)
    · refine ⟨l, Blk.far hl (fun e2 => e ?_) _, hn, fun t ht hc => hm t ht (by omega)⟩
      have e3 : g' = g := e2
      subst e3
      exact ha.inj j i _ _ _ hj he⟩
theorem ApI.cell {w wr : World} {gl i k : Nat} {es : List Ent} (h : ApI w wr gl es i k) (ha : ApL w gl es) {j : Nat} {e : Ent} (he : es[j]? = some e) : wr.cell? ⟨gl, j, none⟩ = some (.slice (entA e) e.2 e.2) := by
  have hp : ¬ EntP es gl := fun ⟨i, L, hi⟩ => (ha.row i gl L hi).1 rfl
  rw [Blk.cell (ha.list.kep h.kep hp)]
  simp [he, entV]
theorem slice_all (A : Option Addr) (L : Nat) (w : World) : (Instr.slice 23 (.slice A L L) none (some (.int .i64 (L : Int))) none).run Tryd.prog w = .ok (.slice A L L) w := by
  go_simp

set_option maxRecDepth 100000 in
set_option maxHeartbeats 2000000 in
theorem apart_any {gl : Nat} {es : List Ent} {w : World} (ha : ApL w gl es) (hes : es.length ≤ 100) :
    Calls Tryd.prog 40 #[.slice (some ⟨gl, 0, none⟩) es.length es.length] w fun e w' => e = .returned (.bool true) ∧ Kep (EntP es) w w' := by
  have HA := Lib.hid ha
  obtain ⟨N, hN⟩ : ∃ N, N = es.length := ⟨_, rfl⟩
  rw [← hN] at hes
  rw [← hN]
  have HN := Lib.hid hN
  clear ha hN
  go_enter Tryd.func40, Tryd.ntmps40
  go_wp2_with fail
  go_loopw [3] (fun iv wr => ∃ i : Nat, i ≤ N ∧ iv = .int .i64 (i : Int) ∧ RowKit.Hid (ApI w wr gl es i 0)) (fun i _ => N - (intOf i).toNat)
  case atStart => exact ⟨0, by omega, rfl, Lib.hid HA.out.start⟩
  case round =>
    obtain ⟨i, hi, rfl, hap⟩ := hrel
    by_cases hlt : i < N
    · obtain ⟨o, L, he⟩ : ∃ o L, es[i]? = some (o, L) := ⟨_, _, List.getElem?_eq_getElem (by rw [← HN.out]; exact hlt)⟩
      have HE := Lib.hid he
      obtain ⟨A, hA⟩ : ∃ A, A = entA (o, L) := ⟨_, rfl⟩
      have HAE := Lib.hid hA
      have HCELL : RowKit.Hid (∀ wr k, ApI w wr gl es i k → wr.cell? ⟨gl, i, none⟩ = some (.slice A L L)) := Lib.hid fun wr k h => by rw [h.cell HA.out he, hA]
      clear he hA
      obtain ⟨wo, rfl⟩ : ∃ wo : World, wo = wr := ⟨_, rfl⟩
      go_wp2_with fail
      go_loopw [4] (fun kv wr => ∃ k : Nat, k ≤ L ∧ kv = .int .i64 (k : Int) ∧ RowKit.Hid (ApI w wr gl es i k)) (fun k _ => L - (intOf k).toNat)
      case atStart => exact ⟨0, by omega, rfl, hap⟩
      case round =>
        obtain ⟨k, hk, rfl, hap⟩ := hrel
        have hc := HCELL.out _ _ hap.out
        by_cases hkl : k < L
        · obtain ⟨g, rfl⟩ : ∃ g, o = some g := by
            cases o with
            | some g => exact ⟨g, rfl⟩
            | none => have := HA.out.nil i L HE.out; omega
          obtain rfl : A = some ⟨g, 0, none⟩ := HAE.out
          obtain ⟨l, hl, hn, _⟩ := hap.out.row i g L HE.out
          have hLl := (HA.out.row i g L HE.out).2.1
          have hfz := Blk.frozen hl
          have hc0 := RowB.cell hl (i := k) (by omega)
          generalize wd l k = z at hc0
          have HST := Lib.hid (hap.out.step HA.out HE.out hkl)
          have hcv : (1000 : Int) + (i : Int) = ((1000 + i : Nat) : Int) := by omega
          obtain ⟨u, hu⟩ : ∃ u, u = 1000 + i := ⟨_, rfl⟩
          rw [← hu] at HST hcv
          have hul : u < 4294967296 := by omega
          clear hl hn hu
          go_wp2_with fail
          go_roundw
          case rel => exact ⟨k + 1, by omega, by go_num, HST⟩
          case measure => simp [intOf]; omega
        · have hke : k = L := by omega
          subst hke
          have hsl := slice_all A k
          go_wp2_with fail
          go_region
          have hc2 : wr.drew.cell? ⟨gl, i, none⟩ = some (.slice A k k) := hc
          have HNX := Lib.hid ((hap.out.drewN 1).next HE.out)
          clear hc hsl
          go_wp2_with fail
          go_loop [6] (fun kv => kv = .int .i64 (k : Int)) (fun _ => 0)
          case atStart => rfl
          case round =>
            subst hrel
            go_wp2_with fail
            go_roundw
            case rel => exact ⟨i + 1, by omega, by go_num, HNX⟩
            case measure => simp [intOf]; omega
    · have hie : i = N := by omega
      have HAP : RowKit.Hid (ApI w wr gl es N 0) := Lib.hid (by rw [← hie]; exact hap.out)
      clear hap
      go_wp2_with fail
      go_loop [7] (fun iv => ∃ i : Nat, i ≤ N ∧ iv = .int .i64 (i : Int)) (fun i => N - (intOf i).toNat)
      case atStart => exact ⟨0, by omega, rfl⟩
      case round =>
        obtain ⟨i, hi, rfl⟩ := hrel
        by_cases hlt : i < N
        · obtain ⟨o, L, he⟩ : ∃ o L, es[i]? = some (o, L) := ⟨_, _, List.getElem?_eq_getElem (by rw [← HN.out]; exact hlt)⟩
          have HE := Lib.hid he
          have hc := HAP.out.cell HA.out he
          obtain ⟨A, hA⟩ : ∃ A, A = entA (o, L) := ⟨_, rfl⟩
          rw [← hA] at hc
          have HAE := Lib.hid hA
          clear he hA
          go_wp2_with fail
          go_loop [8] (fun kv => ∃ k : Nat, k ≤ L ∧ kv = .int .i64 (k : Int)) (fun k => L - (intOf k).toNat)
          case atStart => exact ⟨0, by omega, rfl⟩
          case round =>
            obtain ⟨k, hk, rfl⟩ := hrel
            by_cases hkl : k < L
            · obtain ⟨g, rfl⟩ : ∃ g, o = some g := by
                cases o with
                | some g => exact ⟨g, rfl⟩
                | none => have := HA.out.nil i L HE.out; omega
              obtain rfl : A = some ⟨g, 0, none⟩ := HAE.out
              obtain ⟨l, hl, hn, hm⟩ := HAP.out.row i g L HE.out
              have hLl := (HA.out.row i g L HE.out).2.1
              have hc0 := RowB.cell hl (i := k) (by omega)
              rw [hm k hkl (.inl hlt)] at hc0
              obtain ⟨u, hu⟩ : ∃ u, u = 1000 + i := ⟨_, rfl⟩
              have hcv : (1000 : Int) + (i : Int) = (u : Int) := by omega
              rw [← hu] at hc0
              have hul : u < 4294967296 := by omega
              clear hl hn hu hm
              go_wp2_with fail
              go_round
              case rel => exact ⟨k + 1, by omega, by go_num⟩
              case measure => simp [intOf]; omega
            · have hke : k = L := by omega
              go_wp2_with fail
              go_round
              case rel => exact ⟨i + 1, by omega, by go_num⟩
              case measure => simp [intOf]; omega
        · have hie : i = N := by omega
          go_wp2_with fail
          go_ret
          exact ⟨rfl, HAP.out.kep⟩

end Go.Proofs.YtgiepikoffaaiaaDoor
