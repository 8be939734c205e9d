/- Variables in a row; a family's entry (core, book). -/
import Derived.Test.YtplecfbdchmogaaEBApp
import Derived.Test.YtplecfbdchmogaaERdC
import Derived.Test.YtplecfbdchmogaaERights
import Derived.Test.YtplecfbdchmogaaEDeeps
namespace Go.Proofs.Ytplecfbdchmogaa
open Go.Lib (hid)
open Go.RowKit
def varsL (n fr : Nat) : List (List Nd) := (List.range n).map fun j => [(⟨1, ((fr + (n - 1 - j) : Nat) : Int), 0⟩ : Nd)]
theorem varsL_len (n fr : Nat) : (varsL n fr).length = n := by simp [varsL]
theorem varsL_take {n fr k : Nat} (h : k < n) : (varsL n fr).take (k + 1) = (varsL n fr).take k ++ [[⟨1, ((fr + (n - 1 - k) : Nat) : Int), 0⟩]] := by
 rw [List.take_succ_eq_append_getElem (by rw [varsL_len]; exact h)]
 simp [varsL]
def OwnRs (ls : List (List Nd)) (w : World) (e : Ending) (w' : World) : Prop := Below w.heap.size w w' ∧ ∃ B d vs, e = .returned (.slice B ls.length d) ∧ w'.ownsRow w.heap.size 28 1 (.slice B ls.length d) ls.length vs ∧ RowsC (Aside w.heap.size w' (.slice B ls.length d)) w' vs ls
set_option maxRecDepth 100000 in
set_option maxHeartbeats 4000000 in
theorem vars_any {w : World} (n fr : Nat) (hn : n ≤ 1000) (hf : fr ≤ 1000) :
 Calls Try.prog 88 #[.int .i64 (n : Int), .int .i64 (fr : Int)] w (OwnRs (varsL n fr) w) := by
 obtain ⟨i0, hi, hy0, hy1, hy2⟩ := info_parts infoR
 have HI0 := hid hi
 have HY0 := hid hy0
 have HY1 := hid hy1
 have HY2 := hid hy2
 clear hi hy0 hy1 hy2
 go_in
 go_wp2_with fail
 go_loopw [5, 6] (fun ov iv wr => ∃ (k d : Nat) (B : Option Addr) (vs : List Value) (z : Int), ov = .slice B k d ∧ iv = .int .i64 z ∧ k ≤ n ∧ -1 ≤ z ∧ z ≤ 1000 ∧ Hid (z = (n : Int) - 1 - k) ∧ Hid (wr.ownsRow w.heap.size 28 1 (.slice B k d) k vs) ∧ Hid (RowsC (Aside w.heap.size wr (.slice B k d)) wr vs ((varsL n fr).take k)) ∧ Hid (Below w.heap.size w wr)) (fun _ iv _ => (intOf iv + 1).toNat)
 case atStart => exact ⟨0, 0, none, [], (n : Int) - 1, rfl, rfl, by omega, by omega, by omega, hid (by omega), hid (World.ownsRow_nil _ _ _ _), hid trivial, hid (Below.refl _ _)⟩
 case round =>
  obtain ⟨k, d, B, vs, z, rfl, rfl, hk, hz1, hz2, HZ, HO, HR, HB⟩ := hrel
  have HSZ := hid HB.out.size
  by_cases hlt : 0 ≤ z
  rotate_left
  · have d1 : decide (z ≥ 0) = false := decide_eq_false hlt
    have d2 : decide (0 ≤ z) = false := decide_eq_false hlt
    obtain rfl : k = n := by have := HZ.out; omega
    have HR2 : Hid (RowsC (Aside w.heap.size wr (.slice B k d)) wr vs (varsL k fr)) := hid (by
     have h := HR.out
     rwa [List.take_of_length_le (by rw [varsL_len]; exact Nat.le_refl _)] at h)
    clear hlt
    go_wp2_with fail
    go_ret
    refine ⟨HB.out, B, d, vs, ?_, ?_, ?_⟩
    · rw [varsL_len]; rfl
    · rw [varsL_len]; exact HO.out
    rw [varsL_len]; exact HR2.out
  have d1 : decide (z ≥ 0) = true := decide_eq_true hlt
  have d2 : decide (0 ≤ z) = true := decide_eq_true hlt
  have hkn : k < n := by have := HZ.out; omega
  have hba := below_alloc wr (.cells #[.int .i64 1, .int .i64 ((fr : Int) + z), .int .i64 0] 59)
  have HBA := hid hba
  have HBK := hid (Blk.new wr 59 #[.int .i64 1, .int .i64 ((fr : Int) + z), .int .i64 0])
  have HO2 := hid (World.ownsRow.alloc HO.out (.cells #[.int .i64 1, .int .i64 ((fr : Int) + z), .int .i64 0] 59))
  have HTK := hid (varsL_take (fr := fr) hkn)
  have HZE : Hid (((fr + (n - 1 - k) : Nat) : Int) = (fr : Int) + z) := hid (by have := HZ.out; omega)
  have HSZ2 : Hid (w.heap.size ≤ (wr.alloc (.cells #[.int .i64 1, .int .i64 ((fr : Int) + z), .int .i64 0] 59)).heap.size) := hid (Nat.le_trans HSZ.out hba.size)
  clear hba
  go_wp2_with (at_builtin; go_loud (refine wpList_oper rfl (oper_append_one (.tmp 13) (.tmp 19) 46 28 rfl w.heap.size i0 _ 24 Try.underlying46 HI0.out HY0.out HY1.out HY2.out rfl (by decide) (.slice B k d) k vs (.slice (some ⟨wr.heap.size, 0, none⟩) 1 1) rfl (wr.alloc (.cells #[.int .i64 1, .int .i64 ((fr : Int) + z), .int .i64 0] 59)) rfl rfl HO2.out _ rfl (by simp) (by omega) HSZ2.out ?_)); intro A8 c8 w8 happ; have HAPP := hid happ; clear happ)
  go_roundw
  case rel =>
   have hcell := HBK.out.cell
   have ht : TermR (fun q => q = wr.heap.size) (wr.alloc (.cells #[.int .i64 1, .int .i64 ((fr : Int) + z), .int .i64 0] 59)) (some ⟨wr.heap.size, 0, none⟩) 1 1 [⟨1, (fr : Int) + z, 0⟩] := ⟨rfl, Nat.le_refl _, by decide, (fun e => by cases e), fun _ => ⟨wr.heap.size, 0, rfl, rfl, fun j hj => by
    obtain rfl : j = 0 := by simp at hj; omega
    exact ⟨hcell 0, hcell 1, hcell 2⟩⟩⟩
   have hnx := aside_next (w5 := wr) HBA.out HAPP.out
   have hne : (Value.slice B k d).ownBlock ≠ some wr.heap.size := fun e => by have := (ownsRow_block HO.out e).2.1; omega
   refine ⟨k + 1, c8, A8, vs ++ [.slice (some ⟨wr.heap.size, 0, none⟩) 1 1], z - 1, rfl, rfl, by omega, by omega, by omega, hid (by have := HZ.out; omega), hid HAPP.out.own, hid ?_, hid ((HB.out.trans (HBA.out.mono HB.out.size)).grown HAPP.out.grown HSZ2.out (fun g hg => (ownsRow_block HO2.out hg).1))⟩
   rw [HTK.out, HZE.out]
   refine RowsC.add (ht.keep fun q hq => ?_) (RowsC.keep hnx HR.out)
   subst hq
   have hgr := HAPP.out.grown
   refine ⟨⟨HSZ.out, Nat.lt_of_lt_of_le HBK.out.lt hgr.size, fun e => ?_⟩, fun o => cell_of_heap (hgr.block _ HBK.out.lt (fun e => hne e.symm)) o⟩
   rcases HAPP.out.new _ e with h | h
   · exact hne h
   simp at h; omega
  case measure => simp [intOf]; omega
end Go.Proofs.Ytplecfbdchmogaa
