/- A number that was handed in, opened: it reads as a list of words. The table of powers of ten, out of the row's list. And the end of a row's proof. -/
import Derived.Test.YtgiepikoffaaiaaDoorRows
import Derived.Test.YtgiepikoffaaiaaDoorTie
import Derived.Test.YtgiepikoffaaiaaDoorCards
import Derived.Test.YtgiepikoffaaiaaDoorNum
import Derived.ProofKit
import Derived.SizedLaws
import Derived.OpenShut
import Derived.LaidMore
import Derived.Lay
import Derived.SevenTiedAt
import Derived.Stop.Joined
import Derived.Stop.LaidErr
import Derived.Lib.LaidTab
namespace Go.Proofs.YtgiepikoffaaiaaDoor
open Go.ChangeShapes Go.WideShapes Go.ChangeAt Go.RowKit

theorem own : ownKnob Tryd.prog.godebug = none := by kernel_rfl
theorem laidOut : laidOutB Tryd.prog = true := by kernel_rfl
theorem wordCells : Tryd.prog.cellsOf 34 = 1 := by kernel_rfl
theorem wordBytes : Tryd.prog.bytesOf 34 = 4 := by kernel_rfl

abbrev laidL : List (String × DataW Unit) := [("math/bits.deBruijn32tab", Rows.laid_math_bits_deBruijn32tab), ("math/bits.deBruijn64tab", Rows.laid_math_bits_deBruijn64tab), ("internal/strconv.uint64pow10", Rows.laid_internal_strconv_uint64pow10)]
theorem laid_pow10 : (Rows.laid_internal_strconv_uint64pow10 : DataW Unit) = Lib.tabData .u64 Lib.pow10Tab := by kernel_rfl
theorem tab_of_laid {W : World} (h : laidMetH Tryd.prog laidL W) : Tab W := by
  rw [MakeChecks.laidMetH_plain _ _ _ (by kernel_rfl)] at h
  have h2 := laidMet.tail (laidMet.tail h)
  rw [laid_pow10] at h2
  exact Lib.tabIs_of_head (g := 0) (t := 79) (e := 35) (n := 20) (by kernel_rfl) (by kernel_rfl) (by kernel_rfl) (by kernel_rfl) (by kernel_rfl) (by kernel_rfl) h2

section
variable {H : Type} {enc : TypeId × Value → H}
theorem open_nat {W : World} {base : Nat} {held : Bool} {v : Value} {d : DataW H} {p : List MemPlace} (hv : Value.okWide Tryd.prog W .any base 23 v) (h : DataW.Trod enc Tryd.prog W 0 (fun _ => true) held 23 v d p)
    (hsz : ∀ es sp, d = .slice es sp → (es.length + sp.length) * Tryd.prog.bytesOf 34 ≤ reachBytes) (hlt : ∀ x ∈ p, x.block < W.heap.size) :
    ∃ A n c l, v = .slice A n c ∧ NatV W A n c l := by
  obtain ⟨a0, len, cap, rfl⟩ := okWide_slice Tryd.underlying23 hv
  obtain ⟨fuel, hf⟩ := h
  rcases ChangeShapes.open_ints Tryd.underlying23 Tryd.underlying34 wordCells hf with ⟨hcs, hx⟩ | ⟨a, len', cap', zs, hcs, _, hl, hm, hzl, hx, hi, hw⟩
  · simp [Value.cells] at hcs
    obtain ⟨rfl, rfl, rfl⟩ := hcs
    exact ⟨none, 0, 0, [], rfl, NatR.nil W⟩
  · simp [Value.cells] at hcs
    obtain ⟨rfl, rfl, rfl⟩ := hcs
    simp only [Prod.mk.injEq] at hx
    obtain ⟨rfl, rfl⟩ := hx
    simp only [if_true] at hzl
    have hreach := hsz _ _ rfl
    rw [wordBytes] at hreach
    simp only [lits, List.length_map, List.length_take, List.length_drop, reachBytes] at hreach
    have hnn : ∀ z ∈ zs, 0 ≤ z ∧ z < 4294967296 := fun z hz => by
      have := hw z hz
      have e1 : IntKind.u32.min = 0 := rfl
      have e2 : IntKind.u32.max = 4294967295 := rfl
      simp only [Lit.wf, Bool.and_eq_true, decide_eq_true_eq] at this
      omega
    obtain ⟨b, off, spot⟩ := a
    refine ⟨_, _, _, (zs.take len).map Int.toNat, rfl, by simp; omega, hl, by omega, (fun e => by cases e), ?_, fun hpos => ?_⟩
    · intro x hx
      rw [List.mem_map] at hx
      obtain ⟨z, hz, rfl⟩ := hx
      have := hnn z (List.mem_of_mem_take hz)
      omega
    have hspot : spot = none := by simpa [Addr.add] using World.cell?_spot (hi 0 (by omega))
    subst hspot
    have hb : b < W.heap.size := hlt (.cell b off) (MemPlace.mem_row.2 ⟨0, by omega, by simp⟩)
    refine ⟨b, off, rfl, hb, fun k hk => ?_⟩
    have e : (⟨b, off, none⟩ : Addr).add k = ⟨b, off + k, none⟩ := by unfold Addr.add; split <;> simp_all
    have hik := hi k (by omega)
    rw [e] at hik
    rw [hik]
    have hkz : k < zs.length := by omega
    have hz := hnn zs[k] (List.getElem_mem hkz)
    have e2 : wd ((zs.take len).map Int.toNat) k = zs[k].toNat := by
      rw [wd_eq (by simp; omega)]; simp
    rw [e2, List.getD_eq_getElem?_getD, List.getElem?_eq_getElem hkz]
    simp only [Option.getD_some]
    congr 2
    omega
theorem shut_true {W : World} {base : Nat} {sp : Nat → Bool} {held : Bool} : DataW.Trod enc Tryd.prog W base sp held 4 (.bool true) (.lit (.bool true)) [] := ⟨1, by simp [DataW.trod, Value.cells, Tryd.underlying4]⟩
end

end Go.Proofs.YtgiepikoffaaiaaDoor
