/- next, the closure of parts: one kid more. -/
import Derived.Test.YtnmeglbamfjcgaaRefKids
import Derived.Test.YtnmeglbamfjcgaaEnd
import Derived.Test.YtnmeglbamfjcgaaCut
import Derived.Test.YtnmeglbamfjcgaaHeldF
namespace Go.Proofs.Ytnmeglbamfjcgaa
open Go.RowKit

/-- The memory that parts and its closure share. -/
structure NxS (g : Nat) (A : Option Addr) (n c p j : Nat) (A1 : Option Addr) (k1 : Nat) (A2 : Option Addr) (k2 : Nat) (xs1 xs2 : List Value) (w : World) : Prop where
  bt : Blk w g 23 #[.slice A n c]
  bo : Blk w (g + 2) 41 #[.slice A1 j k1]
  br : Blk w (g + 3) 44 #[.slice A2 j k2]
  ba : Blk w (g + 4) 3 #[.int .i64 (p : Int)]
  own1 : w.ownsRow (g + 5) 23 1 (.slice A1 j k1) j xs1
  own2 : w.ownsRow (g + 5) 3 1 (.slice A2 j k2) j xs2
  off : ∀ b, (Value.slice A1 j k1).ownBlock = some b → (Value.slice A2 j k2).ownBlock ≠ some b

set_option linter.unusedSimpArgs false in
set_option maxRecDepth 100000 in
set_option maxHeartbeats 4000000 in
theorem next_any {g : Nat} {A : Option Addr} {n c p q j : Nat} {A1 : Option Addr} {k1 : Nat} {A2 : Option Addr} {k2 : Nat} {xs1 xs2 : List Value} {w : World} {l : List Nd} (h : NxS g A n c p j A1 k1 A2 k2 xs1 xs2 w) (ht : TermR (· < g) w A n c l) (hq : ends [false] l p = some q) (hpq : p ≤ q) (hqn : q ≤ n) (hj : j ≤ 10000) (b : Int) :
    Calls Try.prog 74 #[.int .i64 b, .pointer (some ⟨g, 0, none⟩), .pointer (some ⟨g + 4, 0, none⟩), .pointer (some ⟨g + 2, 0, none⟩), .pointer (some ⟨g + 3, 0, none⟩)] w fun e w' => e = .returned (.tuple #[]) ∧ Below g w w' ∧ w.heap.size ≤ w'.heap.size ∧ w'.heap[g + 1]? = w.heap[g + 1]? ∧
      ∃ A1' k1' A2' k2' A', NxS g A n c q (j + 1) A1' k1' A2' k2' (xs1 ++ [.slice A' (q - p) (c - p)]) (xs2 ++ [.int .i64 b]) w' ∧ ∀ (R : Nat → Prop) (w : World), TermR R w A n c l → TermR R w A' (q - p) (c - p) ((l.take q).drop p) := by
  obtain ⟨i0, hi, hy0, hy1, hy2⟩ := info_parts infoR
  have HI0 := Lib.hid hi
  have HY0 := Lib.hid hy0
  have HY1 := Lib.hid hy1
  have HY2 := Lib.hid hy2
  obtain ⟨i1, hi', hz0, hz1, hz2⟩ := info_parts infoI
  have HJ0 := Lib.hid hi'
  have HZ0 := Lib.hid hz0
  have HZ1 := Lib.hid hz1
  have HZ2 := Lib.hid hz2
  clear hi hy0 hy1 hy2 hi' hz0 hz1 hz2
  obtain ⟨A', hcut, hcutr⟩ := cut_mid A n c p q hpq hqn ht.cap
  have HCUTR := Lib.hid hcutr
  have hfew := ht.few
  have hcap := ht.cap
  have hs4 := h.ba.lt
  have hend : ∀ w2 : World, TermV w2 A n c l → Calls Try.prog 26 #[.slice A n c, .int .i64 (p : Int)] w2 (IntPost (q : Int) w2) := fun w2 ht2 => by
    have := end_any ht2 (p : Int)
    rwa [endI_nat, hq] at this
  have HEND := Lib.hid (hend w (ht.keep fun b hb => ⟨by omega, fun _ => rfl⟩))
  have z0 := h.bt.cell
  have z2 := h.bo.cell
  have z3 := h.br.cell
  have z4 := h.ba.cell
  have H := Lib.hid h
  clear hcutr hend ht hq h
  go_enter Try.func74, Try.ntmps74
  go_wp2_with fail
  refine (HEND.out).mono ?_
  rintro e w2 ⟨rfl, hb2⟩
  have h2 : NxS g A n c p j A1 k1 A2 k2 xs1 xs2 w2 := ⟨H.out.bt.below hb2 H.out.bt.lt, H.out.bo.below hb2 H.out.bo.lt, H.out.br.below hb2 H.out.br.lt, H.out.ba.below hb2 H.out.ba.lt, own_below H.out.own1 hb2, own_below H.out.own2 hb2, H.out.off⟩
  have e0 := h2.bt.cell
  have e2 := h2.bo.cell
  have e4 := h2.ba.cell
  have l0 := h2.bt.lt
  have l2 := h2.bo.lt
  have l3 := h2.br.lt
  have l4 := h2.ba.lt
  have d0 := e0 0
  have d2 := e2 0
  have d4 := e4 0
  have H2 := Lib.hid h2
  have HB2 := Lib.hid hb2
  clear z0 z2 z3 z4 h2 hb2 e0 e2 e4
  go_wp2_with fail
  refine wp_region_noPanic ?_
  refine wp_region_E 7 (fun w' => w'.cell? ⟨g, 0, none⟩ = some (.slice A n c) ∧ w'.cell? ⟨g + 2, 0, none⟩ = some (.slice A1 j k1) ∧ w'.cell? ⟨g + 4, 0, none⟩ = some (.int .i64 (p : Int))) (by rfl) ⟨d0, d2, d4⟩ (fun hS0 => ?_)
  refine wpAnyE_take' (i := 0) (v := ?_) rfl (by kernel_rfl) (by kernel_rfl) (by kernel_rfl) (by kernel_rfl) (by kernel_rfl) (fun _ _ _ h => h) (Or.inl ⟨by rfl, ?_⟩) (by assumption) ?_
  rotate_left
  · (intro w hSw; (try dsimp only at hSw); go_simp); all_goals with_reducible rfl
  try simp only [Act.put, List.getElem_toArray, List.getElem_cons_zero, List.getElem_cons_succ, List.setIfInBounds_toArray, List.set_cons_zero, List.set_cons_succ]
  refine wpAnyE_take' (i := 1) (v := ?_) rfl (by kernel_rfl) (by kernel_rfl) (by kernel_rfl) (by kernel_rfl) (by kernel_rfl) (fun _ _ _ h => h) (Or.inl ⟨by rfl, ?_⟩) (by assumption) ?_
  rotate_left
  · (intro w hSw; (try dsimp only at hSw); go_simp); all_goals with_reducible rfl
  try simp only [Act.put, List.getElem_toArray, List.getElem_cons_zero, List.getElem_cons_succ, List.setIfInBounds_toArray, List.set_cons_zero, List.set_cons_succ]
  refine wpAnyE_take' (i := 2) (v := ?_) rfl (by kernel_rfl) (by kernel_rfl) (by kernel_rfl) (by kernel_rfl) (by kernel_rfl) (fun _ _ _ h => h) (Or.inl ⟨by rfl, ?_⟩) (by assumption) ?_
  rotate_left
  · (intro w hSw; (try dsimp only at hSw); go_simp); all_goals with_reducible rfl
  try simp only [Act.put, List.getElem_toArray, List.getElem_cons_zero, List.getElem_cons_succ, List.setIfInBounds_toArray, List.set_cons_zero, List.set_cons_succ]
  refine wpAnyE_take' (i := 3) (v := ?_) rfl (by kernel_rfl) (by kernel_rfl) (by kernel_rfl) (by kernel_rfl) (by kernel_rfl) (fun _ _ _ h => h) (Or.inl ⟨by rfl, ?_⟩) (by assumption) ?_
  rotate_left
  · (intro w hSw; (try dsimp only at hSw); go_simp); all_goals with_reducible rfl
  try simp only [Act.put, List.getElem_toArray, List.getElem_cons_zero, List.getElem_cons_succ, List.setIfInBounds_toArray, List.set_cons_zero, List.set_cons_succ]
  refine wpAnyE_take' (i := 4) (v := ?_) rfl (by kernel_rfl) (by kernel_rfl) (by kernel_rfl) (by kernel_rfl) (by kernel_rfl) (fun _ _ _ h => h) (Or.inl ⟨by rfl, ?_⟩) (by assumption) ?_
  rotate_left
  · (intro w hSw; (try dsimp only at hSw); go_simp); all_goals with_reducible rfl
  try simp only [Act.put, List.getElem_toArray, List.getElem_cons_zero, List.getElem_cons_succ, List.setIfInBounds_toArray, List.set_cons_zero, List.set_cons_succ]
  refine wpAnyE_step (i := 5) (by kernel_rfl) rfl rfl (fun K5 hK5 => ?_)
  go_simp
  have hS5 : (w2.drew.alloc (.cells #[.slice A' (q - p) (c - p)] 23)).cell? ⟨g, 0, none⟩ = some (.slice A n c) ∧ (w2.drew.alloc (.cells #[.slice A' (q - p) (c - p)] 23)).cell? ⟨g + 2, 0, none⟩ = some (.slice A1 j k1) ∧ (w2.drew.alloc (.cells #[.slice A' (q - p) (c - p)] 23)).cell? ⟨g + 4, 0, none⟩ = some (.int .i64 (p : Int)) := by
    have hc : ∀ b o, b < w2.heap.size → (w2.drew.alloc (.cells #[.slice A' (q - p) (c - p)] 23)).cell? ⟨b, o, none⟩ = w2.cell? ⟨b, o, none⟩ := fun b o hb => (World.cell?_alloc_lt _ _ _ hb)
    rw [hc _ _ l0, hc _ _ l2, hc _ _ l4]
    exact ⟨d0, d2, d4⟩
  refine hK5.out _ _ (fun _ => hS5) ?_
  try simp only [Act.put, List.getElem_toArray, List.getElem_cons_zero, List.getElem_cons_succ, List.setIfInBounds_toArray, List.set_cons_zero, List.set_cons_succ]
  refine wpAnyE_step (i := 6) (by kernel_rfl) rfl rfl (fun K6 hK6 => ?_)
  refine oper_append_one (.tmp 10) (.tmp 15) 41 23 rfl (g + 5) i0 _ 24 Try.underlying41 HI0.out HY0.out HY1.out HY2.out rfl (by decide) (.slice A1 j k1) j xs1 (.slice A' (q - p) (c - p)) rfl w2.drew (by rfl) (by rfl) (own_below H2.out.own1 (below_drewN (Below.refl _ _) 1)) _ (by rfl) (by simp) (by omega) (by simp; omega) ?_
  intro A4 c4 w4 happ
  have hgk : ∀ b, b < w2.heap.size → (Value.slice A1 j k1).ownBlock ≠ some b → w4.heap[b]? = w2.heap[b]? := fun b hb hne => happ.grown.block b hb (fun e => hne e.symm)
  have hno : ∀ b, b < g + 5 → (Value.slice A1 j k1).ownBlock ≠ some b := fun b hb e => by have := (ownsRow_block H2.out.own1 e).1; omega
  have zb := H2.out.bo.same (hgk _ l2 (hno _ (by omega)))
  have zf := zb.frozen
  have zc := zb.cell
  have hS6 : w4.cell? ⟨g, 0, none⟩ = some (.slice A n c) ∧ w4.cell? ⟨g + 2, 0, none⟩ = some (.slice A1 j k1) ∧ w4.cell? ⟨g + 4, 0, none⟩ = some (.int .i64 (p : Int)) := by
    rw [cell_of_heap (hgk g l0 (hno _ (by omega))), cell_of_heap (hgk (g + 2) l2 (hno _ (by omega))), cell_of_heap (hgk (g + 4) l4 (hno _ (by omega)))]
    exact ⟨d0, d2, d4⟩
  refine hK6.out _ _ (fun _ => hS6) ?_
  try simp only [Act.put, List.getElem_toArray, List.getElem_cons_zero, List.getElem_cons_succ, List.setIfInBounds_toArray, List.set_cons_zero, List.set_cons_succ]
  refine wpAnyE_step (i := 7) (by kernel_rfl) rfl rfl (fun K7 hK7 => ?_)
  go_simp
  refine hK7.out _ _ (fun h => absurd rfl h) ?_
  refine wpAnyE_end (by kernel_rfl) (NoPanic.normal ?_) _
  have hh := H2.out
  have gr : w2.grownBy w4 (Value.slice A1 j k1).ownBlock := ⟨happ.grown.os, happ.grown.tape, happ.grown.output, happ.grown.size, fun b hb hne => happ.grown.block b hb hne⟩
  have own2a : w4.ownsRow (g + 5) 3 1 (.slice A2 j k2) j xs2 := hh.own2.kept gr (by
    cases e2 : (Value.slice A2 j k2).ownBlock with
    | none => exact .inl rfl
    | some b2 => exact .inr fun e => hh.off b2 e.symm e2)
  have hs5 : w2.heap.size ≤ w4.heap.size := happ.grown.size
  have k0 : Blk (w4.setCell ⟨g + 2, 0, none⟩ (.slice A4 (j + 1) c4)) g 23 #[.slice A n c] := (hh.bt.same (hgk g l0 (hno _ (by omega)))).far (by simp) _
  have k2' : Blk (w4.setCell ⟨g + 2, 0, none⟩ (.slice A4 (j + 1) c4)) (g + 2) 41 #[.slice A4 (j + 1) c4] := zb.set_ 0 _
  have k3 : Blk (w4.setCell ⟨g + 2, 0, none⟩ (.slice A4 (j + 1) c4)) (g + 3) 44 #[.slice A2 j k2] := (hh.br.same (hgk (g + 3) l3 (hno _ (by omega)))).far (by simp) _
  have k4 : Blk (w4.setCell ⟨g + 2, 0, none⟩ (.slice A4 (j + 1) c4)) (g + 4) 3 #[.int .i64 (p : Int)] := (hh.ba.same (hgk (g + 4) l4 (hno _ (by omega)))).far (by simp) _
  have k3c := k3.cell
  have own2b := ownsRow_setCell_below (a := ⟨g + 2, 0, none⟩) own2a (by simp) (.slice A4 (j + 1) c4)
  have hsz5 : (w4.setCell ⟨g + 2, 0, none⟩ (.slice A4 (j + 1) c4)).heap.size = w4.heap.size := by simp [World.setCell]
  have HSZ5 := Lib.hid hsz5
  have HB5 : Hid (g + 5 ≤ (w4.setCell ⟨g + 2, 0, none⟩ (.slice A4 (j + 1) c4)).heap.size) := Lib.hid (by rw [hsz5]; omega)
  have OWN2B := Lib.hid own2b
  have K0 := Lib.hid k0
  have K2 := Lib.hid k2'
  have K3 := Lib.hid k3
  have K4 := Lib.hid k4
  have HAPP := Lib.hid happ
  have HGK := Lib.hid hgk
  have HNO := Lib.hid hno
  have hne3 : some (g + 3) ≠ (Value.slice A2 j k2).ownBlock := own_ne hh.own2 (by omega)
  have hne4 : some (g + 4) ≠ (Value.slice A2 j k2).ownBlock := own_ne hh.own2 (by omega)
  clear k0 k2' k3 k4 own2a own2b happ hgk hno gr hh zb zf zc hS6 hsz5
  go_wp2_with (at_builtin; go_loud (refine wpList_oper rfl (oper_append_one (.tmp 17) (.tmp 19) 44 3 rfl (g + 5) i1 _ 8 Try.underlying44 HJ0.out HZ0.out HZ1.out HZ2.out rfl (by decide) (.slice A2 j k2) j xs2 (.int .i64 b) rfl (w4.setCell ⟨g + 2, 0, none⟩ (.slice A4 (j + 1) c4)) rfl rfl OWN2B.out _ rfl HSZ5.out.symm (by omega) HB5.out ?_)); intro A6 c6 w6 happ6; have y3 := K3.out.grown happ6.grown hne3; have y3f := y3.frozen; have y4 := (K4.out.grown happ6.grown hne4).far (p := ⟨g + 3, 0, none⟩) (by simp) (.slice A6 (j + 1) c6); have y4f := y4.frozen; have y3c := y3.cell; have y4c := y4.cell)
  have hoff4 : ∀ b, (Value.slice A4 (j + 1) c4).ownBlock = some b → (Value.slice A2 j k2).ownBlock ≠ some b := fun b hb e2 => by
    rcases HAPP.out.new b hb with h1 | h1
    · exact H2.out.off b h1 e2
    · have := (ownsRow_block H2.out.own2 e2).2.1
      have h1' : w2.heap.size ≤ b := h1
      omega
  have own1b := ownsRow_setCell_below (a := ⟨g + 2, 0, none⟩) HAPP.out.own (by simp) (.slice A4 (j + 1) c4)
  have own1c := own1b.kept happ6.grown (by
    cases e4 : (Value.slice A4 (j + 1) c4).ownBlock with
    | none => exact .inl rfl
    | some b4 => exact .inr fun e => hoff4 b4 e4 e.symm)
  have own1d := ownsRow_setCell_below (a := ⟨g + 4, 0, none⟩) (ownsRow_setCell_below (a := ⟨g + 3, 0, none⟩) own1c (by simp) (.slice A6 (j + 1) c6)) (by simp) (.int .i64 (q : Int))
  have own2d := ownsRow_setCell_below (a := ⟨g + 4, 0, none⟩) (ownsRow_setCell_below (a := ⟨g + 3, 0, none⟩) happ6.own (by simp) (.slice A6 (j + 1) c6)) (by simp) (.int .i64 (q : Int))
  have hlow : ∀ b, b < g + 5 → some b ≠ (Value.slice A2 j k2).ownBlock := fun b hb => own_ne H2.out.own2 hb
  have q0 := ((K0.out.grown happ6.grown (hlow g (by omega))).far (p := ⟨g + 3, 0, none⟩) (by simp) (.slice A6 (j + 1) c6)).far (p := ⟨g + 4, 0, none⟩) (by simp) (.int .i64 (q : Int))
  have q2 := ((K2.out.grown happ6.grown (hlow (g + 2) (by omega))).far (p := ⟨g + 3, 0, none⟩) (by simp) (.slice A6 (j + 1) c6)).far (p := ⟨g + 4, 0, none⟩) (by simp) (.int .i64 (q : Int))
  have q3 := (y3.set_ 0 (.slice A6 (j + 1) c6)).far (p := ⟨g + 4, 0, none⟩) (by simp) (.int .i64 (q : Int))
  have q4 := y4.set_ 0 (.int .i64 (q : Int))
  have hs6 := happ6.grown.size
  have hs64 : w4.heap.size ≤ w6.heap.size := by have := HSZ5.out; omega
  have hs2w := HB2.out.size
  refine bodyPost_end (results_none rfl _ _ _) rfl ⟨rfl, ?_, ?_, ?_, A4, c4, A6, c6, A', ⟨q0, q2, q3, q4, own1d, own2d, fun b hb e6 => ?_⟩, fun R w h => HCUTR.out R w l h⟩
  · refine Below.setCell (Below.setCell (Below.grown (Below.setCell (Below.grown (w := w2.drew) (below_drewN (HB2.out.mono (by omega)) 1) HAPP.out.grown (by show g ≤ w2.heap.size; omega) (fun b hb => ?_)) (p := ⟨g + 2, 0, none⟩) (by simp) _) happ6.grown (by rw [HSZ5.out]; omega) (fun b hb => ?_)) (p := ⟨g + 3, 0, none⟩) (by simp) _) (p := ⟨g + 4, 0, none⟩) (by simp) _
    · have := (ownsRow_block H2.out.own1 hb).1; omega
    · have := (ownsRow_block H2.out.own2 hb).1; omega
  · have e : ((w6.setCell ⟨g + 3, 0, none⟩ (.slice A6 (j + 1) c6)).setCell ⟨g + 4, 0, none⟩ (.int .i64 (q : Int))).heap.size = w6.heap.size := by simp [World.setCell]
    rw [e]; omega
  · rw [Below.heap_setCell _ _ _ _ (by simp), Below.heap_setCell _ _ _ _ (by simp), happ6.grown.block (g + 1) (by rw [HSZ5.out]; omega) (hlow (g + 1) (by omega)), Below.heap_setCell _ _ _ _ (by simp), HGK.out (g + 1) (by omega) (HNO.out (g + 1) (by omega)), HB2.out.block (g + 1) (by omega)]
  · rcases happ6.new b e6 with h1 | h1
    · exact hoff4 b hb h1
    · have := (ownsRow_block HAPP.out.own hb).2.1
      have := HSZ5.out
      omega

end Go.Proofs.Ytnmeglbamfjcgaa
