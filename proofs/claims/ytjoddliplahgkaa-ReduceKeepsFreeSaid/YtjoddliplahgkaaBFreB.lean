/- term.Free: does a variable stand free in a row? -/
import Derived.Test.YtjoddliplahgkaaBEnds
namespace Go.Proofs.Ytjoddliplahgkaa
open Go.Lib (hid)
set_option maxRecDepth 100000
open Go.RowKit
theorem free1_ok {pb H : Nat} {x : Int} (hpb : pb < H) : MetOk Try.prog 26 #[.pointer (some ⟨pb, 0, none⟩)] (exM fun v a => decide (v - a = x)) (boxJ pb x) (fun _ => False) H := by
 intro w t v a hH hj hv0 hv1 ha0 ha1
 have cb := Blk.cell hj
 have hl : pb < w.heap.size := by omega
 have HJ := hid hj
 clear hj
 show Calls Try.prog 26 #[.int .i64 v, .int .i64 a, .pointer (some ⟨pb, 0, none⟩)] w _
 go_in
 go_wp2_with fail
 go_ret
 exact ⟨ret_bool (by simp only [exM]; rw [Bool.eq_iff_iff]; simp), Moved.refl _ _ _, HJ.out⟩
set_option maxHeartbeats 1000000 in
theorem free_any {A : Option Addr} {nn c : Nat} {l : List Nd} {w : World} (h : TermV w A nn c l) (v : Int) :
 Calls Try.prog 14 #[.slice A nn c, .int .i64 v] w (BoolPost (freeB l v) w) := by
 have hmf : ∀ (fn : Fn) (first cap : Array Value) (w : World), (Instr.makeFunc fn first cap).run Try.prog w = .ok (.func fn first cap) w := fun _ _ _ _ => rfl
 have hbw := below_alloc w (.cells #[.int .i64 v] 3)
 by_cases h0 : 0 ≤ v
 rotate_left
 · have hf : freeB l v = false := by simp [freeB, h0]
   have h0b : decide (0 ≤ v) = false := by simp; omega
   have HF := hid hf
   have HBW := hid hbw
   clear hf h0 h hbw
   go_in
   go_wp2_with fail
   go_ret
   exact ⟨ret_bool HF.out.symm, HBW.out⟩
 by_cases hs : shapeI l = 0
 · have hf : freeB l v = exR (fun x a => decide (x - a = v)) l := by simp [freeB, h0, hs]
   have hsb : (shapeI l == 0) = true := by simp [hs]
   have HF := hid hf
   have HS := hid hs
   have H := hid h
   have HBW := hid hbw
   have HA := hid (h.below hbw)
   clear hf hs h hbw
   go_in
   go_wp2_with (go_at_call 13; refine (shape_any HA.out).mono ?_; rintro e w2 ⟨rfl, hb2⟩)
   have hb3 : Below w.heap.size w w2 := HBW.out.trans (hb2.mono HBW.out.size)
   have hx : Blk w2 w.heap.size 3 #[.int .i64 v] := (Blk.new w _ _).below hb2 (by simp)
   refine (each_box H.out HS.out hb3 hx.lt hx (fun _ _ => by kernel_rfl) (fun H pb hp => free1_ok hp)).mono ?_
   rintro e w4 ⟨rfl, hb4⟩
   go_wp2_with fail
   go_ret
   exact ⟨ret_bool HF.out.symm, hb3.trans (hb4.mono hb3.size)⟩
 have hf : freeB l v = false := by simp [freeB, hs]
 have hsb : (shapeI l == 0) = false := by simp [hs]
 have HF := hid hf
 have HBW := hid hbw
 have HA := hid (h.below hbw)
 clear hf hs h hbw
 go_in
 go_wp2_with (go_at_call 13; refine (shape_any HA.out).mono ?_; rintro e w2 ⟨rfl, hb2⟩)
 go_ret
 exact ⟨ret_bool HF.out.symm, HBW.out.trans (hb2.mono HBW.out.size)⟩
end Go.Proofs.Ytjoddliplahgkaa
