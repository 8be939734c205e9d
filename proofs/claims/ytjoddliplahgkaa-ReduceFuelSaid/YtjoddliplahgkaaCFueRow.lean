/- ReduceFuel returns true, whatever it is handed; what it is handed reads as it did. No conditions. -/
import Derived.Test.YtjoddliplahgkaaRows
import Derived.Test.YtjoddliplahgkaaCJoin
import Derived.Test.YtjoddliplahgkaaCOpenC
namespace Go.Proofs.Ytjoddliplahgkaa
open Go.ChangeShapes Go.WideShapes Go.ChangeAt Go.RowKit
set_option maxRecDepth 100000 in
theorem fuel8_lifted (os : Os) (started : os.Started) (H : Type) (enc : TypeId × Value → H) :
 ReturnsInHanded {} Try.checked os 5 .any (Rows.reduceFuelSpec.pre6 enc Try.prog Try.f5 Rows.reduceFuelRow.domain false) (Rows.reduceFuelSpec.post enc Try.prog Try.f5 false true false false) := by
 refine returnsInHanded_of_change_sized (C := Try.checked) Try.own started (by kernel_rfl) Try.func5
  (ChangeSpec.witness6 (enc := enc) (C := Try.checked) false ⟨#[], #[.agg #[.int .i64 0, .slice none 0 0, .slice none 0 0, .int .i64 0, .slice none 0 0, .slice none 0 0, .slice none 0 0, .int .i64 0], .int .u8 0, .bool false], []⟩ 8 (by kernel_rfl) (by kernel_rfl) (by kernel_rfl) (by kernel_rfl)) ?_
 intro W base args ds gs before hval0 hW _ hsz0 _
 have hsz : (DataW.weightsEach Try.prog (Try.f5.params.toList ++ Rows.reduceFuelSpec.plain.varTypes Try.prog) (ds ++ gs)).all (· ≤ reachBytes) = true := hsz0
 clear hsz0
 have hval : ∀ (j : Nat) t v, Try.f5.params[j]? = some t → args[j]? = some v → Value.okWide Try.prog W .any base t v := hval0
 have hW' := hW
 obtain ⟨p, q, hA0, hV, rfl, _, _⟩ := hW
 have hA : DataW.TrodAll enc Try.prog W 0 (fun _ => true) true Try.f5.params.toList args.toList ds p := hA0
 rw [Try.params5] at hA hval hsz
 obtain ⟨v0, v1, v2, d0, d1, d2, p0, p1, p2, rfl, rfl, rfl, h0, h1, h2⟩ := trodAll_three hA
 obtain ⟨rfl, rfl⟩ := trodVars_none hV
 obtain ⟨x1, rfl, rfl, rfl, wx1⟩ := open_int Try.underlying5 (hval 1 5 v1 rfl rfl) h1
 obtain ⟨x2, rfl, rfl, rfl⟩ := open_bool Try.underlying4 (hval 2 4 v2 rfl rfl) h2
 clear hA0
 simp only [List.append_nil] at hW'
 have hlt0 : ∀ y ∈ p0, y.block < W.heap.size := fun y hy => hW'.lt y (by simp [hy])
 obtain ⟨bv0, bk0, cA0, cn0, cc0, bs0, A0, n0, c0, t0, fu0, rfl, hb0, hn0, hc0, ht0, wf0⟩ := open_case (hval 0 31 v0 rfl rfl) h0 (fun k hk => by have := List.all_eq_true.1 hsz k (DataW.weights_mem_each (j := 0) rfl rfl k hk); simpa using this) hlt0
 have ha0 : ∀ (W' : World), Below W.heap.size W W' → DataW.Trod enc Try.prog W' 0 (fun b => decide (b < W.heap.size)) true 31 (caseVal bv0 bk0 cA0 cn0 cc0 A0 n0 c0 fu0) d0 p0 :=
  fun W' hn => Below.trod Try.laidOut (by kernel_rfl) (of_decide_eq_true (by kernel_rfl)) h0 hn hlt0
 have hx1 : 0 ≤ x1 ∧ x1 ≤ 255 := by
  have e1 : IntKind.u8.min = 0 := rfl
  have e2 : IntKind.u8.max = 255 := rfl
  simp only [Lit.wf, Bool.and_eq_true, decide_eq_true_eq] at wx1
  omega
 refine (fuel8_law hb0 hc0 ht0 fu0 x1 hx1.1 hx1.2 x2).mono fun e W' ⟨he, hn⟩ => ?_
 subst he
 exact ⟨_, rfl, _, _, _, [] ++ [], _, [], hW', trodAll_mk1 shut_true, trodAll_mk3 (ha0 W' hn) (shut_int Try.underlying5 wx1) (show DataW.Trod enc Try.prog W' 0 (fun b => decide (b < W.heap.size)) true 4 (.bool x2) (.lit (.bool x2)) [] from ⟨1, by simp [DataW.trod, Value.cells, Try.underlying4]⟩), rfl, hn.frame _, fun h => by cases h⟩
theorem fuel8_holds : Rows.ReduceFuelSaid :=
 OpenClaim.holds_of_wide 5 Try.f5 rfl rfl rfl rfl rfl rfl rfl ⟨rfl, rfl, rfl, rfl, rfl⟩ rfl rfl rfl rfl rfl (by kernel_rfl) Try.func5 (by kernel_rfl)
  (of_decide_eq_true (by kernel_rfl)) (by unfold Func.isWrapper; first | (rw [if_pos (by decide +kernel)]; kernel_rfl) | (rw [if_neg (by decide +kernel)]; exact ⟨rfl, rfl⟩))
  (fun os started H enc _ => fuel8_lifted os started H enc)
end Go.Proofs.Ytjoddliplahgkaa
