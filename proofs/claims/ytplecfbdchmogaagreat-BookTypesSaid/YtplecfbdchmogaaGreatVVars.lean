/- Merged: Deeps, Vars. -/
import Derived.Test.YtplecfbdchmogaaGreatVProgW
import Derived.Test.YtplecfbdchmogaaGreatVRights
import Derived.Test.YtplecfbdchmogaaGreatVLeafs
import Derived.Test.YtplecfbdchmogaaGreatVBApp
import Derived.Test.YtplecfbdchmogaaGreatVRdC
namespace Go.Proofs.YtplecfbdchmogaaGreat
section
section
open Go.RowKit
def numsB : Bk := ⟨0, [], [⟨1, [⟨2, 1, 1⟩, ⟨3, 0, 0⟩], [], [], [⟨[], []⟩, ⟨[[⟨9, 0, 0⟩]], []⟩], [], []⟩], 0, []⟩
end
section
open Go.RowKit
def litC (l : List Nd) : Array Value := (flat l).toArray
theorem lit_term {w : World} {g : Nat} {l : List Nd} {n c : Nat} (h : Blk w g 53 (litC l)) (hl : l.length = n) (hc : n ≤ c) (hf : n ≤ 5864062014805) : TermV w (some ⟨g, 0, none⟩) n c l := by
 refine ⟨hl, hc, hf, (fun e => by cases e), fun hn => ⟨g, 0, rfl, h.lt, fun k hk => ?_⟩⟩
 obtain ⟨h1, h2, h3⟩ := flat_at l k hk
 have hcell := h.cell
 rw [Nat.zero_add, hcell, hcell, hcell]
 simp only [litC, List.getElem?_toArray]
 exact ⟨h1, h2, h3⟩
theorem OwnN.termV {w : World} {base : Nat} {A : Option Addr} {n c : Nat} {l : List Nd} (h : OwnN w base (.slice A n c) l) (hl : l.length ≤ 5864062014805) : TermV w A n c l := by
 obtain ⟨A', n', c', e, ht⟩ := OwnN.termS h hl
 injection e with e1 e2 e3
 subst e1 e2 e3
 exact ht.keep fun b hb => ⟨(ownsRow_block h hb).2.1, fun _ => rfl⟩
theorem blk_new {w : World} {g : Nat} {t : TypeId} {cs : Array Value} (h : g = w.heap.size) : Blk (w.alloc (.cells cs t)) g t cs := by
 subst h
 exact Blk.new _ _ _
theorem RowsV.nil (w : World) : RowsV w none 0 0 [] := ⟨rfl, by decide, fun h => absurd h (by decide)⟩
theorem nums_book {w : World} {g1 g2 g3 g4 g5 : Nat} (h1 : Blk w g1 53 #[.int .i64 2, .int .i64 1, .int .i64 1, .int .i64 3, .int .i64 0, .int .i64 0]) (h2 : Blk w g2 53 #[.int .i64 9, .int .i64 0, .int .i64 0]) (h3 : Blk w g3 28 #[.slice (some ⟨g2, 0, none⟩) 1 1])
 (h4 : Blk w g4 66 #[.slice none 0 0, .slice none 0 0, .slice (some ⟨g3, 0, none⟩) 1 1, .slice none 0 0])
 (h5 : Blk w g5 57 #[.int .i64 1, .slice (some ⟨g1, 0, none⟩) 2 2, .slice none 0 0, .slice none 0 0, .slice (some ⟨g4, 0, none⟩) 2 2, .slice none 0 0, .slice none 0 0]) : BookV w ⟨none, 0, 0, some ⟨g5, 0, none⟩, 1, 1, none, 0, 0⟩ numsB := by
 have e2 : TermV w (some ⟨g1, 0, none⟩) 2 2 [⟨2, 1, 1⟩, ⟨3, 0, 0⟩] := lit_term (l := [⟨2, 1, 1⟩, ⟨3, 0, 0⟩]) h1 rfl (by decide) (by decide)
 have e3 : TermV w (some ⟨g2, 0, none⟩) 1 1 [⟨9, 0, 0⟩] := lit_term (l := [⟨9, 0, 0⟩]) h2 rfl (by decide) (by decide)
 have e4 : RowsV w (some ⟨g3, 0, none⟩) 1 1 [[⟨9, 0, 0⟩]] := ⟨rfl, by decide, fun _ => ⟨g3, 0, rfl, h3.lt, fun k hk => by
  obtain rfl : k = 0 := by omega
  exact ⟨some ⟨g2, 0, none⟩, 1, 1, h3.cell 0, e3⟩⟩⟩
 have e5 : CtsV w (some ⟨g4, 0, none⟩) 2 2 [⟨[], []⟩, ⟨[[⟨9, 0, 0⟩]], []⟩] := ⟨rfl, by decide, fun _ => ⟨g4, 0, rfl, h4.lt, fun k hk => by
  have hk2 : k = 0 ∨ k = 1 := by omega
  rcases hk2 with rfl | rfl
  · exact ⟨none, 0, 0, none, 0, 0, h4.cell 0, h4.cell 1, RowsV.nil w, RowsV.nil w⟩
  exact ⟨some ⟨g3, 0, none⟩, 1, 1, none, 0, 0, h4.cell 2, h4.cell 3, e4, RowsV.nil w⟩⟩⟩
 have e6 : EnsV w (some ⟨g5, 0, none⟩) 1 1 numsB.entries := ⟨rfl, by decide, fun _ => ⟨g5, 0, rfl, h5.lt, fun k hk => by
  obtain rfl : k = 0 := by omega
  exact ⟨⟨some ⟨g1, 0, none⟩, 2, 2, none, 0, 0, none, 0, 0, some ⟨g4, 0, none⟩, 2, 2, none, 0, 0, none, 0, 0⟩, h5.cell 0, h5.cell 1, h5.cell 2, h5.cell 3, h5.cell 4, h5.cell 5, h5.cell 6, ⟨e2, RowsV.nil w, RowsV.nil w, e5, TermV.nil w, TermV.nil w⟩⟩⟩⟩
 have e7 : PrsV w none 0 0 numsB.prims := ⟨rfl, by decide, fun h => absurd h (by decide)⟩
 exact ⟨TermV.nil w, e6, e7, by decide, by decide, by decide, by decide⟩
end
section
open Go.RowKit
end
end
section
open Go.Lib (hid)
open Go.RowKit
def varsL (n fr : Nat) : List (List Nd) := (List.range n).map fun j => [(⟨1, ((fr + (n - 1 - j) : Nat) : Int), 0⟩ : Nd)]
theorem varsL_len (n fr : Nat) : (varsL n fr).length = n := by simp [varsL]
theorem varsL_take {n fr k : Nat} (h : k < n) : (varsL n fr).take (k + 1) = (varsL n fr).take k ++ [[⟨1, ((fr + (n - 1 - k) : Nat) : Int), 0⟩]] := by
 rw [List.take_succ_eq_append_getElem (by rw [varsL_len]; exact h)]
 simp [varsL]
def OwnRs (ls : List (List Nd)) (w : World) (e : Ending) (w' : World) : Prop := Below w.heap.size w w' ∧ ∃ B d vs, e = .returned (.slice B ls.length d) ∧ w'.ownsRow w.heap.size 28 1 (.slice B ls.length d) ls.length vs ∧ RowsC (Aside w.heap.size w' (.slice B ls.length d)) w' vs ls
set_option maxRecDepth 100000 in
set_option maxHeartbeats 4000000 in
theorem vars_any {w : World} (n fr : Nat) (hn : n ≤ 1000) (hf : fr ≤ 1000) :
 Calls Tryz.prog 116 #[.int .i64 (n : Int), .int .i64 (fr : Int)] w (OwnRs (varsL n fr) w) := by
 obtain ⟨i0, hi, hy0, hy1, hy2⟩ := info_parts infoR
 have HI0 := hid hi
 have HY0 := hid hy0
 have HY1 := hid hy1
 have HY2 := hid hy2
 clear hi hy0 hy1 hy2
 go_in
 go_wp2_with fail
 go_loopw [5, 6] (fun ov iv wr => ∃ (k d : Nat) (B : Option Addr) (vs : List Value) (z : Int), ov = .slice B k d ∧ iv = .int .i64 z ∧ k ≤ n ∧ -1 ≤ z ∧ z ≤ 1000 ∧ Hid (z = (n : Int) - 1 - k) ∧ Hid (wr.ownsRow w.heap.size 28 1 (.slice B k d) k vs) ∧ Hid (RowsC (Aside w.heap.size wr (.slice B k d)) wr vs ((varsL n fr).take k)) ∧ Hid (Below w.heap.size w wr)) (fun _ iv _ => (intOf iv + 1).toNat)
 case atStart => exact ⟨0, 0, none, [], (n : Int) - 1, rfl, rfl, by omega, by omega, by omega, hid (by omega), hid (World.ownsRow_nil _ _ _ _), hid trivial, hid (Below.refl _ _)⟩
 case round =>
  obtain ⟨k, d, B, vs, z, rfl, rfl, hk, hz1, hz2, HZ, HO, HR, HB⟩ := hrel
  have HSZ := hid HB.out.size
  by_cases hlt : 0 ≤ z
  rotate_left
  · have d1 : decide (z ≥ 0) = false := decide_eq_false hlt
    have d2 : decide (0 ≤ z) = false := decide_eq_false hlt
    obtain rfl : k = n := by have := HZ.out; omega
    have HR2 : Hid (RowsC (Aside w.heap.size wr (.slice B k d)) wr vs (varsL k fr)) := hid (by
     have h := HR.out
     rwa [List.take_of_length_le (by rw [varsL_len]; exact Nat.le_refl _)] at h)
    clear hlt
    go_wp2_with fail
    go_ret
    refine ⟨HB.out, B, d, vs, ?_, ?_, ?_⟩
    · rw [varsL_len]; rfl
    · rw [varsL_len]; exact HO.out
    rw [varsL_len]; exact HR2.out
  have d1 : decide (z ≥ 0) = true := decide_eq_true hlt
  have d2 : decide (0 ≤ z) = true := decide_eq_true hlt
  have hkn : k < n := by have := HZ.out; omega
  have hba := below_alloc wr (.cells #[.int .i64 1, .int .i64 ((fr : Int) + z), .int .i64 0] 53)
  have HBA := hid hba
  have HBK := hid (Blk.new wr 53 #[.int .i64 1, .int .i64 ((fr : Int) + z), .int .i64 0])
  have HO2 := hid (World.ownsRow.alloc HO.out (.cells #[.int .i64 1, .int .i64 ((fr : Int) + z), .int .i64 0] 53))
  have HTK := hid (varsL_take (fr := fr) hkn)
  have HZE : Hid (((fr + (n - 1 - k) : Nat) : Int) = (fr : Int) + z) := hid (by have := HZ.out; omega)
  have HSZ2 : Hid (w.heap.size ≤ (wr.alloc (.cells #[.int .i64 1, .int .i64 ((fr : Int) + z), .int .i64 0] 53)).heap.size) := hid (Nat.le_trans HSZ.out hba.size)
  clear hba
  go_wp2_with (at_builtin; go_loud (refine wpList_oper rfl (oper_append_one (.tmp 13) (.tmp 19) 54 28 rfl w.heap.size i0 _ 24 Tryz.underlying54 HI0.out HY0.out HY1.out HY2.out rfl (by decide) (.slice B k d) k vs (.slice (some ⟨wr.heap.size, 0, none⟩) 1 1) rfl (wr.alloc (.cells #[.int .i64 1, .int .i64 ((fr : Int) + z), .int .i64 0] 53)) rfl rfl HO2.out _ rfl (by simp) (by omega) HSZ2.out ?_)); intro A8 c8 w8 happ; have HAPP := hid happ; clear happ)
  go_roundw
  case rel =>
   have hcell := HBK.out.cell
   have ht : TermR (fun q => q = wr.heap.size) (wr.alloc (.cells #[.int .i64 1, .int .i64 ((fr : Int) + z), .int .i64 0] 53)) (some ⟨wr.heap.size, 0, none⟩) 1 1 [⟨1, (fr : Int) + z, 0⟩] := ⟨rfl, Nat.le_refl _, by decide, (fun e => by cases e), fun _ => ⟨wr.heap.size, 0, rfl, rfl, fun j hj => by
    obtain rfl : j = 0 := by simp at hj; omega
    exact ⟨hcell 0, hcell 1, hcell 2⟩⟩⟩
   have hnx := aside_next (w5 := wr) HBA.out HAPP.out
   have hne : (Value.slice B k d).ownBlock ≠ some wr.heap.size := fun e => by have := (ownsRow_block HO.out e).2.1; omega
   refine ⟨k + 1, c8, A8, vs ++ [.slice (some ⟨wr.heap.size, 0, none⟩) 1 1], z - 1, rfl, rfl, by omega, by omega, by omega, hid (by have := HZ.out; omega), hid HAPP.out.own, hid ?_, hid ((HB.out.trans (HBA.out.mono HB.out.size)).grown HAPP.out.grown HSZ2.out (fun g hg => (ownsRow_block HO2.out hg).1))⟩
   rw [HTK.out, HZE.out]
   refine RowsC.add (ht.keep fun q hq => ?_) (RowsC.keep hnx HR.out)
   subst hq
   have hgr := HAPP.out.grown
   refine ⟨⟨HSZ.out, Nat.lt_of_lt_of_le HBK.out.lt hgr.size, fun e => ?_⟩, fun o => cell_of_heap (hgr.block _ HBK.out.lt (fun e => hne e.symm)) o⟩
   rcases HAPP.out.new _ e with h | h
   · exact hne h
   simp at h; omega
  case measure => simp [intOf]; omega
end
end Go.Proofs.YtplecfbdchmogaaGreat
