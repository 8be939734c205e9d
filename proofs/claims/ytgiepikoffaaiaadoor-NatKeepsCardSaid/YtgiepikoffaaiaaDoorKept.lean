/- Kept of the reference. -/
import Derived.Test.YtgiepikoffaaiaaDoorRoom
namespace Go.Proofs.YtgiepikoffaaiaaDoor
open Go Go.RowKit

theorem slice_upto (g k L c : Nat) (hk : k ≤ c) (w : World) : (Instr.slice 23 (.slice (some ⟨g, 0, none⟩) L c) none (some (.int .i64 (k : Int))) none).run Tryd.prog w = .ok (.slice (some ⟨g, 0, none⟩) k c) w := by
  go_simp
theorem NatV.front {w : World} {g n m c : Nat} {a b : List Nat} (h : NatV w (some ⟨g, 0, none⟩) m c (a ++ b)) (hn : a.length = n) : NatV w (some ⟨g, 0, none⟩) n c a := by
  have hl := h.len
  rw [List.length_append] at hl
  refine ⟨hn, by have := h.cap; omega, by have := h.few; omega, (fun e => by cases e), fun x hx => h.ok x (List.mem_append_left _ hx), fun h0 => ?_⟩
  obtain ⟨b', off, e, hb, hm⟩ := h.mem (by omega)
  refine ⟨b', off, e, hb, fun k hk => ?_⟩
  rw [hm k (by omega)]
  have e2 : wd (a ++ b) k = wd a k := by
    unfold wd
    rw [List.getD_eq_getElem?_getD, List.getD_eq_getElem?_getD, List.getElem?_append_left (by omega)]
  rw [e2]

set_option maxRecDepth 100000 in
set_option maxHeartbeats 2000000 in
theorem kept_any {A : Option Addr} {g n c ca : Nat} {a : List Nat} {w : World} (hr : NatV w (some ⟨g, 0, none⟩) (n + 2) c (a ++ [2779096485, 1515870810])) (ha : NatV w A n ca a) :
    Calls Tryd.prog 41 #[.slice (some ⟨g, 0, none⟩) n c, .slice A n ca] w fun e w' => e = .returned (.bool true) ∧ Below w.heap.size w w' := by
  have hcap := hr.cap
  have hfew := hr.few
  have hsl1 : ∀ w, (Instr.slice 23 (.slice (some ⟨g, 0, none⟩) n c) none (some (.int .i64 ((n : Int) + 2))) none).run Tryd.prog w = .ok (.slice (some ⟨g, 0, none⟩) (n + 2) c) w := fun w => slice_upto g (n + 2) n c hcap w
  have hsl2 := slice_upto g n (n + 2) c (by omega)
  have hc1 : w.cell? ⟨g, n, none⟩ = some (.int .u32 2779096485) := by
    have := (hr.cell (k := n) (by omega)).2
    rw [Nat.zero_add] at this
    rw [this, show wd (a ++ [2779096485, 1515870810]) n = 2779096485 from by
      unfold wd
      rw [List.getD_eq_getElem?_getD, List.getElem?_append_right (by rw [ha.len]; omega), ha.len, Nat.sub_self]; rfl]
    rfl
  have hc2 : w.cell? ⟨g, n + 1, none⟩ = some (.int .u32 1515870810) := by
    have := (hr.cell (k := n + 1) (by omega)).2
    rw [Nat.zero_add] at this
    rw [this, show wd (a ++ [2779096485, 1515870810]) (n + 1) = 1515870810 from by
      unfold wd
      rw [List.getD_eq_getElem?_getD, List.getElem?_append_right (by rw [ha.len]; omega), ha.len, Nat.add_sub_cancel_left]; rfl]
    rfl
  have HSAME := Lib.hid (same_any w (NatV.front hr ha.len) ha)
  rw [decide_eq_true rfl] at HSAME
  clear hr ha
  go_enter Tryd.func41, Tryd.ntmps41
  go_wp2_with fail
  refine (HSAME.out).mono ?_
  rintro e w2 ⟨rfl, m, rfl⟩
  have hc1' : (w.drewN m).cell? ⟨g, n, none⟩ = some (.int .u32 2779096485) := hc1
  have hc2' : (w.drewN m).cell? ⟨g, n + 1, none⟩ = some (.int .u32 1515870810) := hc2
  have HB := Lib.hid (below_drewN (Below.refl w.heap.size w) m)
  have hi1 : (n : Int) < (n : Int) + 2 := by omega
  have hi2 : (n : Int) + 1 < (n : Int) + 2 := by omega
  clear hc1 hc2
  generalize w.drewN m = w3 at *
  go_wp2_with fail
  go_ret
  exact ⟨rfl, HB.out⟩

end Go.Proofs.YtgiepikoffaaiaaDoor
