/- Room of the reference. -/
import Derived.Test.YtgiepikoffaaiaaDoorWords
namespace Go.Proofs.YtgiepikoffaaiaaDoor
open Go Go.RowKit

theorem slice_head (g k L c : Nat) (hk : k ≤ L) (hc : L ≤ c) (w : World) : (Instr.slice 23 (.slice (some ⟨g, 0, none⟩) L c) none (some (.int .i64 (k : Int))) none).run Tryd.prog w = .ok (.slice (some ⟨g, 0, none⟩) k c) w := by
  go_simp
  intro h
  omega
/-- A copy with two words behind it. -/
def RoomPost (a : List Nat) (n : Nat) (w : World) (e : Ending) (w' : World) : Prop := Below w.heap.size w w' ∧ ∃ g c, e = .returned (.slice (some ⟨g, 0, none⟩) n c) ∧ w.heap.size ≤ g ∧ OwnU w' w.heap.size (some ⟨g, 0, none⟩) (n + 2) c (a ++ [2779096485, 1515870810])

set_option maxRecDepth 100000 in
set_option maxHeartbeats 2000000 in
theorem room_any {A : Option Addr} {n c : Nat} {a : List Nat} {w : World} (ha : NatV w A n c a) (hsn : n ≤ 10000) :
    Calls Tryd.prog 39 #[.slice A n c] w (RoomPost a n w) := by
  obtain ⟨i0, hi, hy0, hy1, hy2⟩ := info_parts infoU
  have HI0 := Lib.hid hi
  have HY0 := Lib.hid hy0
  have HY1 := Lib.hid hy1
  have HY2 := Lib.hid hy2
  have HA := Lib.hid ha
  have HOW := Lib.hid (own_new (base := w.heap.size) (Blk.new w 34 (cellsU [])) (Nat.le_refl _) (by decide))
  have HLIT : RowKit.Hid (∀ w1 : World, NatV (w1.alloc (.cells #[.int .u32 2779096485, .int .u32 1515870810] 34)) (some ⟨w1.heap.size, 0, none⟩) 2 2 [2779096485, 1515870810]) := Lib.hid fun w1 => RowB.natV (l := [2779096485, 1515870810]) (Blk.new w1 34 (cellsU [2779096485, 1515870810])) (ok_cons.2 ⟨by omega, ok_cons.2 ⟨by omega, ok_nil⟩⟩) (by simp)
  have HOK : RowKit.Hid (Ok (a ++ [2779096485, 1515870810])) := Lib.hid fun x hx => by
    rcases List.mem_append.1 hx with h | h
    · exact ha.ok x h
    · simp at h; omega
  clear hi hy0 hy1 hy2 ha
  go_enter Tryd.func39, Tryd.ntmps39
  go_wp2_with (at_builtin; first
    | (refine wpList_oper rfl (oper_append_words (.tmp 4) (.tmp 5) 23 rfl w.heap.size i0 Tryd.underlying23 HI0.out HY0.out HY1.out HY2.out rfl HOW.out rfl (HA.out.alloc _) (by simp; omega) (by simp) ?_); intro A1 c1 w1 happ1; have HOWN1 : RowKit.Hid (OwnU w1 w.heap.size A1 n c1 a) := Lib.hid (by have := happ1.own; simpa using this); have HB1 : RowKit.Hid (Below w.heap.size w w1) := Lib.hid ((below_alloc w _).grown happ1.grown (by simp) (fun k hk => by simp [Value.ownBlock] at hk; omega)); clear happ1)
    | (refine wpList_oper rfl (oper_append_words (.tmp 6) (.tmp 7) 23 rfl w.heap.size i0 Tryd.underlying23 HI0.out HY0.out HY1.out HY2.out rfl (own_below HOWN1.out (below_alloc _ _)) rfl (HLIT.out _) (by omega) (Nat.le_trans HB1.out.size (by simp)) ?_); intro A2 c2 w2 happ2; obtain ⟨g2, cur2, rfl, hg2, hblk2⟩ := OwnU.row happ2.own (by omega); have hcap2 : n + 2 ≤ c2 := (OwnU.natV happ2.own HOK.out (by omega)).cap; have hsl := slice_head g2 n (n + 2) c2 (by omega) (by omega)))
  have HB2 := Lib.hid ((HB1.out.alloc HB1.out.size (.cells #[.int .u32 2779096485, .int .u32 1515870810] 34)).grown happ2.grown (Nat.le_trans HB1.out.size (by simp)) (fun k hk => (ownsRow_block HOWN1.out hk).1))
  have HOWN2 := Lib.hid happ2.own
  clear happ2 hblk2
  go_ret
  exact ⟨HB2.out, g2, c2, rfl, hg2, HOWN2.out⟩

end Go.Proofs.YtgiepikoffaaiaaDoor
