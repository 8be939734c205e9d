/- What NatKeeps needs: lists of numbers that are apart; shifts by a little. -/
import Derived.Test.YtgiepikoffaaiaaDoorApart
import Derived.Test.YtgiepikoffaaiaaDoorRefMul
import Derived.Test.YtgiepikoffaaiaaDoorDivNum
namespace Go.Proofs.YtgiepikoffaaiaaDoor
open Go Go.RowKit

theorem nodup_inj : ∀ (es : List Ent), (es.filterMap (·.1)).Nodup → ∀ (i j g L L' : Nat), es[i]? = some (some g, L) → es[j]? = some (some g, L') → i = j
  | [], _, i, _, _, _, _, h, _ => by simp at h
  | e :: es, hn, i, j, g, L, L', h1, h2 => by
    have htail : (es.filterMap (·.1)).Nodup := by
      cases he : e.1 with
      | none => rw [List.filterMap_cons_none he] at hn; exact hn
      | some b => rw [List.filterMap_cons_some he, List.nodup_cons] at hn; exact hn.2
    have hin : ∀ (j L' : Nat), e = (some g, L) ∨ e = (some g, L') → es[j]? = some (some g, L') ∨ es[j]? = some (some g, L) → False := fun j L' he hj => by
      have he1 : e.1 = some g := by rcases he with rfl | rfl <;> rfl
      rw [List.filterMap_cons_some he1, List.nodup_cons] at hn
      refine hn.1 (List.mem_filterMap.2 ?_)
      rcases hj with hj | hj
      · exact ⟨_, List.mem_of_getElem? hj, rfl⟩
      · exact ⟨_, List.mem_of_getElem? hj, rfl⟩
    rcases i with _ | i <;> rcases j with _ | j
    · rfl
    · rw [List.getElem?_cons_zero] at h1
      rw [List.getElem?_cons_succ] at h2
      injection h1 with h1
      exact (hin j L' (.inl h1) (.inl h2)).elim
    · rw [List.getElem?_cons_succ] at h1
      rw [List.getElem?_cons_zero] at h2
      injection h2 with h2
      exact (hin i L' (.inr h2) (.inr h1)).elim
    · rw [List.getElem?_cons_succ] at h1 h2
      rw [nodup_inj es htail i j g L L' h1 h2]
theorem entP_mem {es : List Ent} {b : Nat} (h : EntP es b) : b ∈ es.filterMap (·.1) := by
  obtain ⟨i, L, h⟩ := h
  exact List.mem_filterMap.2 ⟨_, List.mem_of_getElem? h, rfl⟩
/-- A slice that may stand in the list. -/
def EntOk (w : World) (gl : Nat) (e : Ent) : Prop := (e.1 = none → e.2 = 0) ∧ ∀ g, e.1 = some g → g ≠ gl ∧ e.2 ≤ 1000000 ∧ ∃ l, RowB w g l ∧ l.length = e.2
theorem ent_num {w : World} {gl g L x k : Nat} (h : Num w g L x k) (hk : k ≤ 1000000) (hne : g ≠ gl) : EntOk w gl (some g, L) :=
  ⟨fun e => (by cases e), fun g' e => by
    injection e with e
    subst e
    exact ⟨hne, by have := h.le; omega, _, h.row, h.len⟩⟩
theorem ent_nil (w : World) (gl : Nat) : EntOk w gl (none, 0) := ⟨fun _ => rfl, fun g e => (by cases e)⟩
theorem apl_of {w : World} {gl : Nat} {es : List Ent} (hl : Blk w gl 23 (es.map entV).toArray) (h : ∀ e ∈ es, EntOk w gl e) (hn : (es.filterMap (·.1)).Nodup) : ApL w gl es :=
  ⟨hl, fun _ _ hi => (h _ (List.mem_of_getElem? hi)).1 rfl, fun _ g _ hi => (h _ (List.mem_of_getElem? hi)).2 g rfl, nodup_inj es hn⟩
theorem Num.kep {P : Nat → Prop} {w w' : World} {g L x k : Nat} (h : Num w g L x k) (hk : Kep P w w') (hp : ¬ P g) : Num w' g L x k := ⟨h.row.kep hk hp, h.len, h.le⟩
theorem Num.wider {w : World} {g L x k k' : Nat} (h : Num w g L x k) (hk : k ≤ k') : Num w g L x k' := ⟨h.row, h.len, Nat.le_trans h.le hk⟩
theorem shift8_any (a : Nat) (v : Int) (h1 : -128 ≤ v) (h2 : v ≤ 127) : ∃ t, ∀ (w : World) (A : Option Addr) (n c : Nat), Arg w A n c a 80 → Calls Tryd.prog 27 #[.slice A n c, .int .i64 v] w (NumOkPost t 206 w) := by
  by_cases h : 0 ≤ v
  · obtain ⟨s, rfl⟩ : ∃ s : Nat, v = (s : Int) := ⟨v.toNat, by omega⟩
    exact ⟨_, fun w A n c ha => shift_up_num ha (by omega) s (by omega) rfl⟩
  · obtain ⟨s, rfl⟩ : ∃ s : Nat, v = -(s : Int) := ⟨(-v).toNat, by omega⟩
    refine ⟨a / 2 ^ s, fun w A n c ha => (shift_down_num ha (by omega) s (by omega)).mono fun e w' hp => ?_⟩
    obtain ⟨hb, g, L, he, hg, hr⟩ := hp
    exact ⟨hb, g, L, he, hg, hr.wider (by omega)⟩
theorem same_ref2 {A : Option Addr} {n c x y i g L : Nat} {w : World} (hx : Num w g L x i) (hy : NatV w A n c (wds y)) (hi : i ≤ 100000) (he : x = y) : Calls Tryd.prog 16 #[.slice (some ⟨g, 0, none⟩) L L, .slice A n c] w (BoolPost true w) := by
  subst he
  refine (same_any w (hx.natV (by omega)) hy).mono ?_
  rintro e w' ⟨rfl, m, rfl⟩
  exact ⟨by simp, below_drewN (Below.refl _ _) m⟩
theorem compare_some {A B : Option Addr} {n c m d x y i j : Nat} {w : World} (hx : Arg w A n c x i) (hy : Arg w B m d y j) : ∃ v : Int, Calls Tryd.prog 25 #[.slice A n c, .slice B m d] w fun e w' => e = .returned (.int .i64 v) ∧ Below w.heap.size w w' := ⟨_, compare_num hx hy⟩

end Go.Proofs.YtgiepikoffaaiaaDoor
