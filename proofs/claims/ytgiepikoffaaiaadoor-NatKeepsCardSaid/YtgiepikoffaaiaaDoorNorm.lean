/- Norm: the words of the number. -/
import Derived.Test.YtgiepikoffaaiaaDoorLeaf
import Derived.Laws.MakeOwn
import Derived.Laws.CopyOwn
import Derived.OwnWalk
namespace Go.Proofs.YtgiepikoffaaiaaDoor
open Go.RowKit

theorem infoU : (Tryd.prog.info? 34).map (fun i => (i.zero, i.size, i.bytes)) = some (some (.int .u32 0), 1, 4) := by kernel_rfl
theorem infoU1 : (Tryd.prog.info? 34).map (·.size) = some 1 := by kernel_rfl
theorem made_words (n : Nat) : madeCells #[Value.int .u32 0] n = cellsU (List.replicate n 0) := by
  rw [cellsU_zero]
  apply Array.ext
  · simp [madeCells]
  · intro i h1 h2
    simp [madeCells, Nat.mod_one]
theorem make_nat (n : Nat) (hn : n ≤ 70368744177664) (w : World) : (Instr.makeSlice 23 (.int .i64 (n : Int)) (.int .i64 (n : Int))).run Tryd.prog w = .ok (.slice (some ⟨w.heap.size, 0, none⟩) n n) (w.alloc (.cells (cellsU (List.replicate n 0)) 34)) := by
  obtain ⟨i, hi, h1, h2, h3⟩ := info_parts infoU
  rw [run_make (P := Tryd.prog) w 23 34 i (.int .u32 0) Tryd.underlying23 hi h1 .i64 .i64 n n (by omega) (by omega) (by rw [h3]; omega) (by omega), h2]
  simp only [Int.toNat_natCast, Nat.mul_one]
  show Result.ok _ (w.alloc (.cells (madeCells #[Value.int .u32 0] n) _)) = _
  rw [made_words]
theorem cells_take (l : List Nat) (k : Nat) : (cellsU (l.take k)).toList = (cellsU l).toList.take k := by
  simp [cellsU]
theorem cells_one (l : List Nat) : ∀ v ∈ (cellsU l).toList, v.oneCell' = true := by
  intro v hv
  simp only [cellsU, List.mem_map] at hv
  obtain ⟨x, _, rfl⟩ := hv
  rfl
theorem splice_all (k : Nat) (l : List Nat) (hk : k ≤ l.length) : (splice (cellsU (List.replicate k 0)).toList 0 (cellsU (l.take k)).toList).toArray = cellsU (l.take k) := by
  have e : (cellsU (l.take k)).toList.length = k := by simp [cellsU]; omega
  have e2 : (cellsU (List.replicate k 0)).toList.length = k := by simp [cellsU]
  unfold splice
  rw [e, Nat.zero_add, List.take_zero, List.nil_append, List.drop_of_length_le (by omega), List.append_nil]

set_option maxHeartbeats 1000000 in
theorem norm_any {A : Option Addr} {n c : Nat} {l : List Nat} {w : World} (h : NatV w A n c l) :
    Calls Tryd.prog 19 #[.slice A n c] w (NatPost (wds (val l)) w) := by
  have hf := h.few
  go_enter Tryd.func19, Tryd.ntmps19
  go_wp2
  go_loop [3] (fun i => ∃ k : Nat, k ≤ n ∧ i = .int .i64 k ∧ RowKit.Hid (∀ j, k ≤ j → wd l j = 0)) (fun i => (intOf i).toNat)
  case atStart => exact ⟨n, Nat.le_refl _, rfl, Lib.hid fun j hj => wd_out (by rw [h.len]; exact hj)⟩
  case round =>
    obtain ⟨k, hk, rfl, hz⟩ := hrel
    have hend : (k = 0 ∨ wd l (k - 1) ≠ 0) → wds (val l) = l.take k := fun hh => wds_take h.ok (by rw [h.len]; exact hk) hz.out hh
    have hend2 : (k = 0 ∨ wd l (k - 1) ≠ 0) → ∀ w2 : World, RowKit.Hid (w2.heap[w.heap.size]? = some (.cells (splice (cellsU (List.replicate k 0)).toList 0 (cellsU (l.take k)).toList).toArray 34 (0, 0))) → Below w.heap.size w w2 → NatPost (wds (val l)) w (.returned (.slice (some ⟨w.heap.size, 0, none⟩) k k)) w2 := fun hh w2 hg hb => by
      have hg2 := hg.out
      rw [splice_all k l (by rw [h.len]; exact hk)] at hg2
      have hl : (l.take k).length = k := by rw [List.length_take, h.len]; omega
      rw [hend hh]
      exact ⟨hb, w.heap.size, by rw [hl], Nat.le_refl _, hg2⟩
    have hcs : (cellsU (l.take k)).toList.length = Nat.min n k := by rw [Array.length_toList, cellsU_size, List.length_take, h.len]; exact Nat.min_comm _ _
    have hpos : 0 < (cellsU (l.take k)).toList.length → ∃ ad, A = some ad ∧ ∀ j v, (cellsU (l.take k)).toList[j]? = some v → (w.alloc (.cells (cellsU (List.replicate k 0)) 34)).cell? (ad.add j) = some v := fun hp => by
      rw [hcs] at hp
      have hp2 : 0 < k := Nat.lt_of_lt_of_le hp (Nat.min_le_right _ _)
      obtain ⟨b, off, rfl, hb, hm⟩ := h.mem (by omega)
      refine ⟨_, rfl, fun j v hv => ?_⟩
      rw [Array.getElem?_toList] at hv
      have hj : j < k := by
        have h1 : j < (cellsU (l.take k)).size := (Array.getElem?_eq_some_iff.1 hv).1
        rw [cellsU_size, List.length_take] at h1
        omega
      rw [cellsU_at _ (by rw [List.length_take, h.len]; omega), wd_take hj] at hv
      have e : (⟨b, off, none⟩ : Addr).add j = ⟨b, off + j, none⟩ := by unfold Addr.add; split <;> simp_all
      rw [e, World.cell?_alloc_lt _ _ _ hb, hm j (by omega)]
      exact hv
    have HCS := Lib.hid hcs
    have HPOS := Lib.hid hpos
    have HLL := Lib.hid h.len
    have HE := Lib.hid hend2
    clear hend hcs hpos hend2
    by_cases hk0 : k = 0
    · subst hk0
      have HE2 := Lib.hid (HE.out (.inl rfl))
      have hmk : ∀ w : World, (Instr.makeSlice 23 (.int .i64 0) (.int .i64 0)).run Tryd.prog w = .ok (.slice (some ⟨w.heap.size, 0, none⟩) 0 0) (w.alloc (.cells (cellsU (List.replicate 0 0)) 34)) := make_nat 0 (by omega)
      go_wp2_with (with_reducible refine wpList_copy_splice rfl (.tmp 21) (.tmp 22) 23 23 rfl 34 Tryd.underlying23 infoU1 _ _ 0 0 n c rfl rfl w.heap.size 0 _ 34 (heap_alloc_new w _) _ HCS.out (fun hp => ⟨rfl, HPOS.out hp⟩) ?_ (cells_one _) w.heap.size w (below_alloc _ _) (Nat.le_refl _) ?_; rotate_left; intro w2 hg2 hb2)
      · go_ret
        exact HE2.out w2 hg2 hb2
    · obtain ⟨m, rfl⟩ : ∃ m, k = m + 1 := ⟨k - 1, by omega⟩
      obtain ⟨b, off, rfl, _, hm⟩ := h.mem (by omega)
      have g0 := hm m (by omega)
      clear hm hk0
      by_cases hx : wd l m = 0
      · rw [hx] at g0
        have HX := Lib.hid hx
        clear hx
        go_wp2
        go_round
        case rel => exact ⟨m, by omega, by go_num, Lib.hid fun j hj => by
          by_cases e : j = m
          · subst e; exact HX.out
          · exact hz.out j (by omega)⟩
        case measure => simp [intOf]
      · have HE2 := Lib.hid (HE.out (.inr hx))
        have hxb : (((wd l m : Nat) : Int) == 0) = false := by simp; omega
        have HX := Lib.hid hx
        clear hx
        have hmk := make_nat (m + 1) (by omega)
        rw [show (((m + 1 : Nat) : Int)) = (m : Int) + 1 from rfl] at hmk
        generalize wd l m = x at g0 hxb
        go_wp2_with (with_reducible refine wpList_copy_splice rfl (.tmp 21) (.tmp 22) 23 23 rfl 34 Tryd.underlying23 infoU1 _ _ (m + 1) (m + 1) n c rfl rfl w.heap.size 0 _ 34 (heap_alloc_new w _) _ HCS.out (fun hp => ⟨rfl, HPOS.out hp⟩) ?_ (cells_one _) w.heap.size w (below_alloc _ _) (Nat.le_refl _) ?_; rotate_left; intro w2 hg2 hb2)
        · go_ret
          exact HE2.out w2 hg2 hb2
        · simp [cellsU]; omega

end Go.Proofs.YtgiepikoffaaiaaDoor
