/- BookTypes returns true, whatever it is handed; what it is handed reads as it did. No conditions. -/
import Derived.Test.YtplecfbdchmogaaGreatRows
import Derived.Test.YtplecfbdchmogaaGreatVJoin
import Derived.Test.YtplecfbdchmogaaGreatVOpenB
namespace Go.Proofs.YtplecfbdchmogaaGreat
open Go.ChangeShapes Go.WideShapes Go.ChangeAt Go.RowKit
set_option maxRecDepth 100000 in
theorem types5_lifted (os : Os) (started : os.Started) (H : Type) (enc : TypeId × Value → H) :
 ReturnsInHanded {} Tryz.checked os 5 .any (Rows.bookTypesSpec.pre6 enc Tryz.prog Tryz.f5 Rows.bookTypesRow.domain false) (Rows.bookTypesSpec.post enc Tryz.prog Tryz.f5 false true false false) := by
 refine returnsInHanded_of_change_sized (C := Tryz.checked) Tryz.own started (by kernel_rfl) Tryz.func5
  (ChangeSpec.witness6 (enc := enc) (C := Tryz.checked) false ⟨#[], #[.agg #[.int .i64 0, .slice none 0 0, .slice none 0 0, .int .i64 0, .slice none 0 0], .int .i64 0, .int .i64 0], []⟩ 8 (by kernel_rfl) (by kernel_rfl) (by kernel_rfl) (by kernel_rfl)) ?_
 intro W base args ds gs before hval0 hW _ hsz0 _
 have hsz : (DataW.weightsEach Tryz.prog (Tryz.f5.params.toList ++ Rows.bookTypesSpec.plain.varTypes Tryz.prog) (ds ++ gs)).all (· ≤ reachBytes) = true := hsz0
 clear hsz0
 have hval : ∀ (j : Nat) t v, Tryz.f5.params[j]? = some t → args[j]? = some v → Value.okWide Tryz.prog W .any base t v := hval0
 have hW' := hW
 obtain ⟨p, q, hA0, hV, rfl, _, _⟩ := hW
 have hA : DataW.TrodAll enc Tryz.prog W 0 (fun _ => true) true Tryz.f5.params.toList args.toList ds p := hA0
 rw [Tryz.params5] at hA hval hsz
 obtain ⟨v0, v1, v2, d0, d1, d2, p0, p1, p2, rfl, rfl, rfl, h0, h1, h2⟩ := trodAll_three hA
 obtain ⟨rfl, rfl⟩ := trodVars_none hV
 obtain ⟨x1, rfl, rfl, rfl, wx1⟩ := open_int Tryz.underlying3 (hval 1 3 v1 rfl rfl) h1
 obtain ⟨x2, rfl, rfl, rfl, wx2⟩ := open_int Tryz.underlying3 (hval 2 3 v2 rfl rfl) h2
 clear hA0
 simp only [List.append_nil] at hW'
 have hlt0 : ∀ y ∈ p0, y.block < W.heap.size := fun y hy => hW'.lt y (by simp [hy])
 obtain ⟨bv0, bk0, rfl, hb0⟩ := open_book (hval 0 26 v0 rfl rfl) h0 (fun k hk => by have := List.all_eq_true.1 hsz k (DataW.weights_mem_each (j := 0) rfl rfl k hk); simpa using this) hlt0
 have ha0 : ∀ (W' : World), Below W.heap.size W W' → DataW.Trod enc Tryz.prog W' 0 (fun b => decide (b < W.heap.size)) true 26 (bookVal bv0 bk0) d0 p0 :=
  fun W' hn => Below.trod Tryz.laidOut (by kernel_rfl) (of_decide_eq_true (by kernel_rfl)) h0 hn hlt0
 have hx1 : -9223372036854775808 ≤ x1 ∧ x1 ≤ 9223372036854775807 := by
  have e1 : IntKind.i64.min = -9223372036854775808 := rfl
  have e2 : IntKind.i64.max = 9223372036854775807 := rfl
  simp only [Lit.wf, Bool.and_eq_true, decide_eq_true_eq] at wx1
  omega
 have hx2 : -9223372036854775808 ≤ x2 ∧ x2 ≤ 9223372036854775807 := by
  have e1 : IntKind.i64.min = -9223372036854775808 := rfl
  have e2 : IntKind.i64.max = 9223372036854775807 := rfl
  simp only [Lit.wf, Bool.and_eq_true, decide_eq_true_eq] at wx2
  omega
 refine (types_law hb0 x1 x2 hx1.1 hx1.2).mono fun e W' ⟨he, hn⟩ => ?_
 subst he
 exact ⟨_, rfl, _, _, _, [] ++ [], _, [], hW', trodAll_mk1 shut_true, trodAll_mk3 (ha0 W' hn) (shut_int Tryz.underlying3 wx1) (shut_int Tryz.underlying3 wx2), rfl, hn.frame _, fun h => by cases h⟩
theorem types5_holds : Rows.BookTypesSaid :=
 OpenClaim.holds_of_wide 5 Tryz.f5 rfl rfl rfl rfl rfl rfl rfl ⟨rfl, rfl, rfl, rfl, rfl⟩ rfl rfl rfl rfl rfl (by kernel_rfl) Tryz.func5 (by kernel_rfl)
  (of_decide_eq_true (by kernel_rfl)) (by unfold Func.isWrapper; first | (rw [if_pos (by decide +kernel)]; kernel_rfl) | (rw [if_neg (by decide +kernel)]; exact ⟨rfl, rfl⟩))
  (fun os started H enc _ => types5_lifted os started H enc)
end Go.Proofs.YtplecfbdchmogaaGreat
