/- Bytes and programs out of their readings. -/
import Derived.Test.YtplecfbdchmogaaOOpenB
import Derived.Test.YtplecfbdchmogaaOEnc
namespace Go.Proofs.Ytplecfbdchmogaa
open Go.ChangeShapes Go.WideShapes Go.RowKit
variable {H : Type} {enc : TypeId × Value → H}
theorem u8Cells : Try.prog.cellsOf 5 = 1 := by kernel_rfl
theorem u8Bytes : Try.prog.bytesOf 5 = 1 := by kernel_rfl
theorem open_byte {W : World} {held : Bool} (fuel : Nat) (cs : List Value) (d : DataW H) (pl : List MemPlace) (b off : Nat) (h : DataW.trod enc Try.prog W 0 (fun _ => true) held fuel 5 cs = some (d, pl)) (hl : cs.length = 1) (hc : ∀ j, j < 1 → W.cell? ⟨b, off + j, none⟩ = cs[j]?) : ∃ x : Nat, x < 256 ∧ W.cell? ⟨b, off, none⟩ = some (.int .u8 (x : Int)) := by
 obtain ⟨o, ho, _, hw⟩ := DataW.trod_int Try.underlying5 (x := (d, pl)) h
 subst ho
 have e1 : IntKind.u8.min = 0 := rfl
 have e2 : IntKind.u8.max = 255 := rfl
 simp only [Lit.wf, Bool.and_eq_true, decide_eq_true_eq] at hw
 refine ⟨o.toNat, by omega, ?_⟩
 have h0 := hc 0 (by omega)
 rw [show ((o.toNat : Nat) : Int) = o from by omega]
 exact h0
theorem open_bytes3 {W : World} {held : Bool} {fuel : Nat} {cs : List Value} {d : DataW H} {p : List MemPlace} (h : DataW.trod enc Try.prog W 0 (fun _ => true) held fuel 34 cs = some (d, p)) (hw : ∀ n ∈ d.weights Try.prog 34, n ≤ reachBytes) (hlt : ∀ x ∈ p, x.block < W.heap.size) : ∃ A n c l, cs = [.slice A n c] ∧ BytV W A n c l := by
 obtain ⟨A, n, c, xs, e, h1, h2, h3, h4, h5⟩ := open_gen 1 1 Try.underlying34 u8Cells u8Bytes (by decide) (X := Nat) (fun b off x => x < 256 ∧ W.cell? ⟨b, off, none⟩ = some (.int .u8 (x : Int))) (fun f cs d pl b off a1 a2 a3 _ _ => open_byte f cs d pl b off a1 a2 a3) h hw hlt
 refine ⟨A, n, c, xs, e, h1, h2, by simp only [reachBytes] at h3; omega, h4, fun x hx => ?_, fun hn => ?_⟩
 · obtain ⟨k, hk, rfl⟩ := List.getElem_of_mem hx
   obtain ⟨b, off, _, _, hkk⟩ := h5 (by omega)
   have hv := (hkk k (by omega)).1
   rwa [List.getD_eq_getElem?_getD, List.getElem?_eq_getElem hk] at hv
 obtain ⟨b, off, e, hb, hk⟩ := h5 hn
 refine ⟨b, off, e, hb, fun k hkn => ?_⟩
 have := (hk k hkn).2
 rw [Nat.mul_one] at this
 exact this
set_option maxRecDepth 100000 in
theorem open_bytes {W : World} {base : Nat} {held : Bool} {v : Value} {d : DataW H} {p : List MemPlace} (h : DataW.Trod enc Try.prog W 0 (fun _ => true) held 34 v d p) (hv : Value.okWide Try.prog W .any base 34 v)
 (hw : ∀ n ∈ d.weights Try.prog 34, n ≤ reachBytes) (hlt : ∀ x ∈ p, x.block < W.heap.size) : ∃ A n c l, v = .slice A n c ∧ BytV W A n c l := by
 obtain ⟨a0, len, cap, rfl⟩ := okWide_slice Try.underlying34 hv
 obtain ⟨fuel, hf⟩ := h
 obtain ⟨A, n, c, l, e, h2⟩ := open_bytes3 hf hw hlt
 simp [Value.cells] at e
 obtain ⟨rfl, rfl, rfl⟩ := e
 exact ⟨a0, len, cap, l, rfl, h2⟩
end Go.Proofs.Ytplecfbdchmogaa
