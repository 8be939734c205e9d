/- A drawn region whose last operation writes what its loads read: S is asked behind each operation but number l. -/
import Derived.Test.YtnmeglbamfjcgaaOwn3
import Derived.OrdersHeld
namespace Go.Proofs.Ytnmeglbamfjcgaa
open Go Go.RowKit
section
variable {P : Program} {ops : Array Oper} {Q : Exit → Act → World → Prop} {md : Region.Mode} {S : World → Prop} {l : Nat}

def wpAnyE (P : Program) (md : Region.Mode) (ops : Array Oper) (Q : Exit → Act → World → Prop) (S : World → Prop) (l : Nat) : Nat → Array Bool → Act → World → Prop
  | 0, done, a, w => Region.ready md ops done = [] ∧ Q .normal a w
  | fuel + 1, done, a, w =>
    (Region.ready md ops done = [] → Q .normal a w) ∧
    ∀ i ∈ Region.ready md ops done, wpOp P ops Q i (fun a' w' => (i ≠ l → S w') ∧ wpAnyE P md ops Q S l fuel (done.setIfInBounds i true) a' w') a w

theorem wpAny_of_E : ∀ (fuel : Nat) (done : Array Bool) (a : Act) (w : World), wpAnyE P md ops Q S l fuel done a w → wpAny P md ops Q fuel done a w
  | 0, _, _, _, h => h
  | fuel + 1, _, _, _, h => ⟨h.1, fun i hi => wpOp_mono (fun a' w' h' => wpAny_of_E fuel _ a' w' h'.2) (h.2 i hi)⟩

theorem ready_of_mem {i : Nat} {done : Array Bool} (h : i ∈ Region.ready md ops done) {j : Nat} {oj : Oper} (hj : j ∈ Region.ready md ops done) (hoj : ops[j]? = some oj) : ∀ e ∈ oj.after, Region.binds md e = true → e.on ≠ i := fun e he hb heq => by
  obtain ⟨_, oj', hoj', hall⟩ := mem_ready.1 hj
  rw [hoj] at hoj'
  obtain rfl := Option.some.inj hoj'
  have h1 := hall e he hb
  have h0 := (mem_ready.1 h).1
  rw [heq] at h1
  rcases Nat.lt_or_ge i done.size with h' | h'
  · simp [h'] at h0 h1; rw [h0] at h1; cases h1
  · simp [Array.getElem?_eq_none h'] at h1

theorem wpAnyE_first {i : Nat} {oi ol : Oper} {v : Value} (hi : ops[i]? = some oi) (hl : ops[l]? = some ol) (hw : ∃ e ∈ ol.after, Region.binds md e = true ∧ e.on = i) (hsel : ∀ (j : Nat) (o : Oper) cs b, ops[j]? = some o → o.op ≠ .select cs b)
    (hQ : ∀ c a w, Q (.panic c) (a.put oi.dst v) w → Q (.panic c) a w) :
    ∀ (fuel : Nat) (done : Array Bool) (a : Act) (w : World),
      (∀ j oj, ops[j]? = some oj → j ≠ i → done.getD j true = false → (∀ e ∈ oj.after, Region.binds md e = true → e.on ≠ i) → oi.apart ops oj = true) →
      i ∈ Region.ready md ops done → YieldsIf P ops S oi v a → S w →
      wpAnyE P md ops Q S l fuel (done.setIfInBounds i true) (a.put oi.dst v) w → wpAnyE P md ops Q S l (fuel + 1) done a w := by
  intro fuel
  induction fuel with
  | zero =>
    intro done a w _ hr hy hS H
    refine ⟨fun h => (by rw [h] at hr; cases hr), fun j hj => ?_⟩
    by_cases hji : j = i
    · subst hji; exact hy.wpOp hi hS ⟨fun _ => hS, H⟩
    · have := ready_mono hj hji
      rw [H.1] at this
      cases this
  | succ fuel ih =>
    intro done a w hfree hr hy hS H
    refine ⟨fun h => (by rw [h] at hr; cases hr), fun j hj => ?_⟩
    by_cases hji : j = i
    · subst hji; exact hy.wpOp hi hS ⟨fun _ => hS, H⟩
    · have h1 := H.2 j (ready_mono hj hji)
      obtain ⟨hjun, oj, hoj, _⟩ := mem_ready.1 hj
      have hnot := ready_of_mem hr hj hoj
      have hjl : j ≠ l := fun e => by
        subst e
        obtain ⟨x, hx, hb, hon⟩ := hw
        rw [hl] at hoj
        obtain rfl := Option.some.inj hoj
        exact hnot x hx hb hon
      have h2 := wpOp_putIf hoj (hfree j oj hoj hji hjun hnot) (fun cs b => hsel i oi cs b hi) (fun cs b => hsel j oj cs b hoj) hQ hy h1
      refine wpOp_mono (fun a' w' h3 => ?_) h2
      have hS' := h3.2.1 hjl
      refine ⟨fun _ => hS', ih (done.setIfInBounds j true) a' w' (fun k ok hk hki hun hno => hfree k ok hk hki ?_ hno) (ready_mono hr (Ne.symm hji)) h3.1 hS' ?_⟩
      · by_cases hjk : j = k
        · subst hjk; exact hjun
        · rw [getD_set_ne true hjk] at hun; exact hun
      · rw [Array.setIfInBounds_comm _ _ hji]
        exact h3.2.2

theorem wpAnyE_take {i : Nat} {oi ol : Oper} {v : Value} {fuel : Nat} {done : Array Bool} {a : Act} {w : World} (hi : ops[i]? = some oi) (hl : ops[l]? = some ol) (hw : (ol.after.any fun e => Region.binds md e && e.on == i) = true)
    (hs : Region.noSelect ops = true) (hf : Region.free md ops done i = true) (hr : (Region.ready md ops done).contains i = true)
    (hQ : ∀ c a w, Q (.panic c) (a.put oi.dst v) w → Q (.panic c) a w) (hy : YieldsIf P ops S oi v a) (hS : S w)
    (h : wpAnyE P md ops Q S l fuel (done.setIfInBounds i true) (a.put oi.dst v) w) : wpAnyE P md ops Q S l (fuel + 1) done a w := by
  refine wpAnyE_first hi hl ?_ (Region.noSelect_spec hs) hQ fuel done a w (Region.free_spec hi hf) (by simpa using hr) hy hS h
  obtain ⟨k, hk, he⟩ := Array.any_eq_true.1 hw
  simp only [Bool.and_eq_true, beq_iff_eq] at he
  exact ⟨_, Array.getElem_mem hk, he⟩

/-- One alone comes up next. -/
theorem wpAnyE_step {i : Nat} {o : Oper} {fuel : Nat} {done : Array Bool} {a : Act} {w : World} (hr : Region.ready md ops done = [i]) (ho : ops[i]? = some o) (hg : o.guard = none)
    (h : ∀ K' : Act → World → Prop, RowKit.Hid (∀ a w, (i ≠ l → S w) → wpAnyE P md ops Q S l fuel (done.setIfInBounds i true) a w → K' a w) → Oper.wp P o a w K' Q) : wpAnyE P md ops Q S l (fuel + 1) done a w := by
  refine ⟨fun h0 => (by rw [hr] at h0; cases h0), fun j hj => ?_⟩
  rw [hr, List.mem_singleton] at hj
  subst hj
  refine wpOp_step ho fun K' hK => ?_
  rw [if_pos (by simp [Region.wanted, hg])]
  exact h K' fun a w h1 h2 => hK a w ⟨h1, h2⟩

theorem wpAnyE_end {done : Array Bool} {a : Act} {w : World} (hr : Region.ready md ops done = []) (h : Q .normal a w) :
    ∀ fuel, wpAnyE P md ops Q S l fuel done a w
  | 0 => ⟨hr, h⟩
  | _ + 1 => ⟨fun _ => h, by rw [hr]; simp⟩

theorem wp_region_E (l : Nat) (S : World → Prop) {id : Nat} {a : Act} {w : World} (hm : P.follows .mixedOrders = true) (hS : S w.drew)
    (h : S w.drew → wpAnyE P .any ops Q S l ops.size (Array.replicate ops.size false) a w.drew) : (Code.region id ops true).wp P Q a w :=
  wp_region_any hm (wpAny_of_E _ _ _ _ (h hS))

end
end Go.Proofs.Ytnmeglbamfjcgaa
