/- More on a drawn region whose last operation writes: the last operation may wait for another one by way of others. -/
import Derived.Test.YtnmeglbamfjcgaaHeldE
namespace Go.Proofs.Ytnmeglbamfjcgaa
open Go Go.RowKit
section
variable {P : Program} {ops : Array Oper} {Q : Exit → Act → World → Prop} {md : Region.Mode} {S : World → Prop} {l : Nat}

/-- Does operation x wait for i, at once or by way of others? -/
def waits (md : Region.Mode) (ops : Array Oper) (i : Nat) : Nat → Nat → Bool
  | 0, _ => false
  | f + 1, x => match ops[x]? with
    | some o => o.after.any fun e => Region.binds md e && (e.on == i || waits md ops i f e.on)
    | none => false

/-- What is done has all done that it waits for. -/
def Shut (md : Region.Mode) (ops : Array Oper) (done : Array Bool) : Prop :=
  ∀ x o, ops[x]? = some o → done.getD x false = true → ∀ e ∈ o.after, Region.binds md e = true → done.getD e.on false = true
def shutB (md : Region.Mode) (ops : Array Oper) (done : Array Bool) : Bool :=
  (List.range ops.size).all fun x => !done.getD x false || (match ops[x]? with | some o => o.after.all fun e => !Region.binds md e || done.getD e.on false | none => true)
theorem shut_of {done : Array Bool} (h : shutB md ops done = true) : Shut md ops done := by
  intro x o ho hx e he hb
  have hlt : x < ops.size := (Array.getElem?_eq_some_iff.1 ho).1
  unfold shutB at h
  rw [List.all_eq_true] at h
  have h1 := h x (List.mem_range.2 hlt)
  simp only [hx, ho, Bool.not_true, Bool.false_or, Array.all_eq_true] at h1
  obtain ⟨k, hk, hke⟩ := Array.mem_iff_getElem.1 he
  have h2 := h1 k hk
  rw [hke, hb] at h2
  simpa using h2
theorem Shut.step {done : Array Bool} (h : Shut md ops done) {j : Nat} (hj : j ∈ Region.ready md ops done) : Shut md ops (done.setIfInBounds j true) := by
  obtain ⟨hjun, oj, hoj, hall⟩ := mem_ready.1 hj
  have up : ∀ y, done.getD y false = true → (done.setIfInBounds j true).getD y false = true := fun y hy => by
    by_cases hyj : j = y
    · subst hyj
      rcases Nat.lt_or_ge j done.size with h' | h'
      · simp [h']
      · simp [Array.getElem?_eq_none h'] at hy
    · rw [getD_set_ne false hyj]; exact hy
  intro x o ho hx e he hb
  by_cases hxj : j = x
  · subst hxj
    rw [hoj] at ho
    obtain rfl := Option.some.inj ho
    exact up _ (hall e he hb)
  · rw [getD_set_ne false hxj] at hx
    exact up _ (h x o ho hx e he hb)
theorem Shut.undone {done : Array Bool} (h : Shut md ops done) {i : Nat} (hi : done.getD i false = false) : ∀ (f x : Nat), waits md ops i f x = true → ∃ o, ops[x]? = some o ∧ ∃ e ∈ o.after, Region.binds md e = true ∧ done.getD e.on false = false
  | 0, x, hx => by simp [waits] at hx
  | f + 1, x, hx => by
    simp only [waits] at hx
    split at hx
    · rename_i o ho
      obtain ⟨k, hk, he⟩ := Array.any_eq_true.1 hx
      simp only [Bool.and_eq_true, Bool.or_eq_true, beq_iff_eq] at he
      refine ⟨o, ho, _, Array.getElem_mem hk, he.1, ?_⟩
      rcases he.2 with h1 | h1
      · rw [h1]; exact hi
      · obtain ⟨o2, ho2, e2, he2, hb2, hd2⟩ := Shut.undone h hi f _ h1
        cases hd : done.getD (o.after[k]).on false
        · rfl
        · have := h _ o2 ho2 hd e2 he2 hb2
          rw [hd2] at this; cases this
    · cases hx

theorem wpAnyE_first' {i : Nat} {oi : Oper} {v : Value} (hi : ops[i]? = some oi) {f : Nat} (hw : waits md ops i f l = true) (hsel : ∀ (j : Nat) (o : Oper) cs b, ops[j]? = some o → o.op ≠ .select cs b)
    (hQ : ∀ c a w, Q (.panic c) (a.put oi.dst v) w → Q (.panic c) a w) :
    ∀ (fuel : Nat) (done : Array Bool) (a : Act) (w : World),
      (∀ j oj, ops[j]? = some oj → j ≠ i → done.getD j true = false → (∀ e ∈ oj.after, Region.binds md e = true → e.on ≠ i) → oi.apart ops oj = true) →
      Shut md ops done → i ∈ Region.ready md ops done → YieldsIf P ops S oi v a → S w →
      wpAnyE P md ops Q S l fuel (done.setIfInBounds i true) (a.put oi.dst v) w → wpAnyE P md ops Q S l (fuel + 1) done a w := by
  intro fuel
  induction fuel with
  | zero =>
    intro done a w _ _ hr hy hS H
    refine ⟨fun h => (by rw [h] at hr; cases hr), fun j hj => ?_⟩
    by_cases hji : j = i
    · subst hji; exact hy.wpOp hi hS ⟨fun _ => hS, H⟩
    · have := ready_mono hj hji
      rw [H.1] at this
      cases this
  | succ fuel ih =>
    intro done a w hfree hsh hr hy hS H
    refine ⟨fun h => (by rw [h] at hr; cases hr), fun j hj => ?_⟩
    by_cases hji : j = i
    · subst hji; exact hy.wpOp hi hS ⟨fun _ => hS, H⟩
    · have h1 := H.2 j (ready_mono hj hji)
      obtain ⟨hjun, oj, hoj, hjall⟩ := mem_ready.1 hj
      have hnot := ready_of_mem hr hj hoj
      have hjl : j ≠ l := fun e => by
        subst e
        have hi0 : done.getD i false = false := by
          have h0 := (mem_ready.1 hr).1
          rcases Nat.lt_or_ge i done.size with h' | h'
          · simp [h'] at h0 ⊢; exact h0
          · simp [Array.getElem?_eq_none h']
        obtain ⟨o2, ho2, e2, he2, hb2, hd2⟩ := hsh.undone hi0 f j hw
        rw [hoj] at ho2
        obtain rfl := Option.some.inj ho2
        have := hjall e2 he2 hb2
        rw [hd2] at this; cases this
      have h2 := wpOp_putIf hoj (hfree j oj hoj hji hjun hnot) (fun cs b => hsel i oi cs b hi) (fun cs b => hsel j oj cs b hoj) hQ hy h1
      refine wpOp_mono (fun a' w' h3 => ?_) h2
      have hS' := h3.2.1 hjl
      refine ⟨fun _ => hS', ih (done.setIfInBounds j true) a' w' (fun k ok hk hki hun hno => hfree k ok hk hki ?_ hno) (hsh.step hj) (ready_mono hr (Ne.symm hji)) h3.1 hS' ?_⟩
      · by_cases hjk : j = k
        · subst hjk; exact hjun
        · rw [getD_set_ne true hjk] at hun; exact hun
      · rw [Array.setIfInBounds_comm _ _ hji]
        exact h3.2.2

theorem wpAnyE_take' {i : Nat} {oi : Oper} {v : Value} {fuel : Nat} {done : Array Bool} {a : Act} {w : World} (hi : ops[i]? = some oi) (hw : waits md ops i 8 l = true) (hsh : shutB md ops done = true)
    (hs : Region.noSelect ops = true) (hf : Region.free md ops done i = true) (hr : (Region.ready md ops done).contains i = true)
    (hQ : ∀ c a w, Q (.panic c) (a.put oi.dst v) w → Q (.panic c) a w) (hy : YieldsIf P ops S oi v a) (hS : S w)
    (h : wpAnyE P md ops Q S l fuel (done.setIfInBounds i true) (a.put oi.dst v) w) : wpAnyE P md ops Q S l (fuel + 1) done a w :=
  wpAnyE_first' hi hw (Region.noSelect_spec hs) hQ fuel done a w (Region.free_spec hi hf) (shut_of hsh) (by simpa using hr) hy hS h

end
end Go.Proofs.Ytnmeglbamfjcgaa
