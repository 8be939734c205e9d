/- TermLifted returns true, whatever it is handed; what it is handed reads as it did. No conditions. -/
import Derived.Test.YtnmeglbamfjcgaaRows
import Derived.Test.YtnmeglbamfjcgaaLifted
import Derived.Test.YtnmeglbamfjcgaaJoin
namespace Go.Proofs.Ytnmeglbamfjcgaa
open Go.ChangeShapes Go.WideShapes Go.ChangeAt Go.RowKit

theorem args_four {H : Type} {enc : TypeId × Value → H} {P : Program} {w : World} {base : Nat} {spare : Nat → Bool} {held : Bool} {t0 t1 t2 t3 : TypeId} {args : Array Value} {ds : List (DataW H)} {ps : List MemPlace} (h : DataW.TrodAll enc P w base spare held [t0, t1, t2, t3] args.toList ds ps) :
    ∃ v0 v1 v2 v3 d0 d1 d2 d3 p0 p1 p2 p3, args = #[v0, v1, v2, v3] ∧ ds = [d0, d1, d2, d3] ∧ ps = p0 ++ p1 ++ p2 ++ p3 ∧ DataW.Trod enc P w base spare held t0 v0 d0 p0 ∧ DataW.Trod enc P w base spare held t1 v1 d1 p1 ∧ DataW.Trod enc P w base spare held t2 v2 d2 p2 ∧ DataW.Trod enc P w base spare held t3 v3 d3 p3 := by
  obtain ⟨v0, vs0, d0, e0, p0, q0, hargs, rfl, rfl, h0, hr0⟩ := trodAll_cons h
  obtain ⟨v1, vs1, d1, e1, p1, q1, rfl, rfl, rfl, h1, hr1⟩ := trodAll_cons hr0
  obtain ⟨v2, vs2, d2, e2, p2, q2, rfl, rfl, rfl, h2, hr2⟩ := trodAll_cons hr1
  obtain ⟨v3, vs3, d3, e3, p3, q3, rfl, rfl, rfl, h3, hr3⟩ := trodAll_cons hr2
  obtain ⟨rfl, rfl, rfl⟩ := trodAll_nil hr3
  exact ⟨v0, v1, v2, v3, d0, d1, d2, d3, p0, p1, p2, p3, by cases args; simp_all, rfl, by simp, h0, h1, h2, h3⟩
theorem args_mk4 {H : Type} {enc : TypeId × Value → H} {P : Program} {w : World} {base : Nat} {spare : Nat → Bool} {held : Bool} {t0 t1 t2 t3 : TypeId} {v0 v1 v2 v3 : Value} {d0 d1 d2 d3 : DataW H} {p0 p1 p2 p3 : List MemPlace} (h0 : DataW.Trod enc P w base spare held t0 v0 d0 p0) (h1 : DataW.Trod enc P w base spare held t1 v1 d1 p1) (h2 : DataW.Trod enc P w base spare held t2 v2 d2 p2) (h3 : DataW.Trod enc P w base spare held t3 v3 d3 p3) :
    DataW.TrodAll enc P w base spare held [t0, t1, t2, t3] [v0, v1, v2, v3] [d0, d1, d2, d3] (p0 ++ (p1 ++ (p2 ++ p3))) := ⟨p0, _, h0, trodAll_mk3 h1 h2 h3, rfl⟩

set_option maxRecDepth 100000 in
theorem lifted_lifted (os : Os) (started : os.Started) (H : Type) (enc : TypeId × Value → H) :
    ReturnsInHanded {} Try.checked os 8 .any (Rows.termLiftedSpec.pre6 enc Try.prog Try.f8 Rows.termLiftedRow.domain false) (Rows.termLiftedSpec.post enc Try.prog Try.f8 false true false false) := by
  refine returnsInHanded_of_change_sized (C := Try.checked) Try.own started (by kernel_rfl) Try.func8
    (ChangeSpec.witness6 (enc := enc) (C := Try.checked) false ⟨#[], #[.slice none 0 0, .int .u16 0, .int .u16 0, .int .u16 0], []⟩ 8 (by kernel_rfl) (by kernel_rfl) (by kernel_rfl) (by kernel_rfl)) ?_
  intro W base args ds gs before hval0 hW _ hsz0 _
  have hsz : (DataW.weightsEach Try.prog (Try.f8.params.toList ++ Rows.termLiftedSpec.plain.varTypes Try.prog) (ds ++ gs)).all (· ≤ reachBytes) = true := hsz0
  clear hsz0
  have hval : ∀ (j : Nat) t v, Try.f8.params[j]? = some t → args[j]? = some v → Value.okWide Try.prog W .any base t v := hval0
  have hW' := hW
  obtain ⟨p, q, hA0, hV, rfl, _, _⟩ := hW
  have hA : DataW.TrodAll enc Try.prog W 0 (fun _ => true) true Try.f8.params.toList args.toList ds p := hA0
  rw [Try.params8] at hA hval hsz
  obtain ⟨v0, v1, v2, v3, d0, d1, d2, d3, p0, p1, p2, p3, rfl, rfl, rfl, h0, h1, h2, h3⟩ := args_four hA
  obtain ⟨rfl, rfl⟩ := trodVars_none hV
  obtain ⟨x1, rfl, rfl, rfl, wx1⟩ := open_int Try.underlying32 (hval 1 32 v1 rfl rfl) h1
  obtain ⟨x2, rfl, rfl, rfl, wx2⟩ := open_int Try.underlying32 (hval 2 32 v2 rfl rfl) h2
  obtain ⟨x3, rfl, rfl, rfl, wx3⟩ := open_int Try.underlying32 (hval 3 32 v3 rfl rfl) h3
  clear hA0
  simp only [List.append_nil] at hW'
  have hlt0 : ∀ y ∈ p0, y.block < W.heap.size := fun y hy => hW'.lt y (by simp [hy])
  obtain ⟨A0, n0, c0, t0, rfl, ht0⟩ := open_term (hval 0 23 v0 rfl rfl) h0 (fun es sp e => sized_slice hsz (j := 0) (t := 23) (e := 53) rfl (by rw [e]; rfl) Try.underlying23) hlt0
  have ha0 : ∀ (W' : World), Below W.heap.size W W' → DataW.Trod enc Try.prog W' 0 (fun b => decide (b < W.heap.size)) true 23 (.slice A0 n0 c0) d0 p0 :=
    fun W' hn => Below.trod Try.laidOut (by kernel_rfl) (of_decide_eq_true (by kernel_rfl)) h0 hn hlt0
  have hx1 : 0 ≤ x1 ∧ x1 ≤ 65535 := by
    have e1 : IntKind.u16.min = 0 := rfl
    have e2 : IntKind.u16.max = 65535 := rfl
    simp only [Lit.wf, Bool.and_eq_true, decide_eq_true_eq] at wx1
    omega
  have hx2 : 0 ≤ x2 ∧ x2 ≤ 65535 := by
    have e1 : IntKind.u16.min = 0 := rfl
    have e2 : IntKind.u16.max = 65535 := rfl
    simp only [Lit.wf, Bool.and_eq_true, decide_eq_true_eq] at wx2
    omega
  have hx3 : 0 ≤ x3 ∧ x3 ≤ 65535 := by
    have e1 : IntKind.u16.min = 0 := rfl
    have e2 : IntKind.u16.max = 65535 := rfl
    simp only [Lit.wf, Bool.and_eq_true, decide_eq_true_eq] at wx3
    omega
  refine (lifted_law ht0 x1 x2 x3 hx1.1 hx1.2 hx2.1 hx2.2 hx3.1 hx3.2).mono fun e W' ⟨he, hn⟩ => ?_
  subst he
  exact ⟨_, rfl, _, _, _, [] ++ [], _, [], hW', trodAll_mk1 shut_true, args_mk4 (ha0 W' hn) (shut_int Try.underlying32 wx1) (shut_int Try.underlying32 wx2) (shut_int Try.underlying32 wx3), rfl, hn.frame _, fun h => by cases h⟩

theorem lifted_holds : Rows.TermLiftedSaid :=
  OpenClaim.holds_of_wide 8 Try.f8 rfl rfl rfl rfl rfl rfl rfl ⟨rfl, rfl, rfl, rfl, rfl⟩ rfl rfl rfl rfl rfl (by kernel_rfl) Try.func8 (by kernel_rfl)
    (of_decide_eq_true (by kernel_rfl)) (by unfold Func.isWrapper; first | (rw [if_pos (by decide +kernel)]; kernel_rfl) | (rw [if_neg (by decide +kernel)]; exact ⟨rfl, rfl⟩))
    (fun os started H enc _ => lifted_lifted os started H enc)

end Go.Proofs.Ytnmeglbamfjcgaa
