/- A term is taken just if its kids are: plain laws. -/
import Derived.Test.YtpkldboeohhmpaaLiftG
import Derived.Test.YtpkldboeohhmpaaPutG
import Derived.Test.YtpkldboeohhmpaaKidss
namespace Go.Proofs.Ytpkldboeohhmpaa
open Go.RowKit

theorem rowsL_kid : ∀ (F : Fo), rowsL F = (kidL F).map rowT
  | .nil => rfl
  | .cons p n a k x => by
    rw [kidL_cons, List.map_cons, ← rowsL_kid x]
    simp [rowsL, row, rowT]
theorem kidL_len : ∀ (F : Fo), (kidL F).length = flen F
  | .nil => rfl
  | .cons p n a k x => by rw [kidL_cons, List.length_cons, kidL_len x]; rfl
theorem arL_at (pop pb : Int) : ∀ (F : Fo) (j i : Nat), i < flen F → (arL pop pb j F).getD i 0 = aroundI pop pb ((j + i : Nat) : Int)
  | .nil, _, i, h => by simp [flen] at h
  | .cons p n a k x, j, 0, h => rfl
  | .cons p n a k x, j, i + 1, h => by
    have := arL_at pop pb x (j + 1) i (by simpa [flen] using h)
    rw [show j + (i + 1) = j + 1 + i from by omega, ← this]
    simp [arL]
theorem fixF_all {ca : Int → Nat → Nat} : ∀ (F : Fo), fixF ca F = (kidL F).all (fixT ca)
  | .nil => rfl
  | .cons p n a k x => by rw [fixF_cons, kidL_cons, List.all_cons, fixF_all x]
theorem kid_wf : ∀ {F : Fo} {dl : List Bool}, Wf dl F → ∀ {y : TT}, y ∈ kidL F → OkT y
  | .nil, _, _, y, h => by cases h
  | .cons _ _ _ _ _, [], h, _, _ => h.elim
  | .cons p n a k x, d :: dr, h, y, hy => by
    obtain ⟨_, hok, hat, hk, hx⟩ := h
    rw [kidL_cons] at hy
    rcases List.mem_cons.1 hy with rfl | hy
    · exact ⟨hok, hat, hk⟩
    · exact kid_wf hx hy
theorem kid_row : ∀ {F : Fo} {y : TT}, y ∈ kidL F → ∀ m ∈ rowT y, m ∈ row F := row_kid
theorem kid_chk {b : Bk} {t : List Nd} {free : Int} (h : fitsE b free t = 0) {n : Nd} {a : List Nd} {k : Fo} (hT : Rt t n a k) {i : Nat} {y : TT} (hy : (kidL k)[i]? = some y) :
    chkGE b (free + aroundI n.op n.b (i : Int)) (rowT y) = (if fixT (argsB b) y then 0 else 18) ∧ (rowT y).length ≤ 4096 := by
  obtain ⟨hr, hf0, hrow⟩ := fits_row h
  obtain ⟨hs, hbl, hnd⟩ := row_nodes hrow
  obtain ⟨hok, hat, hk⟩ := hT.wf
  have hmem : y ∈ kidL k := List.mem_of_getElem? hy
  have hoy := kid_wf hk hmem
  have hsz := sz_kid hmem
  have hlen := hT.few
  have hl2 : t.length = 1 + a.length + (row k).length := by rw [hT.eq]; simp; omega
  have h4 : szT y ≤ 4096 := by omega
  have hY : Rt (rowT y) y.1 y.2.1 y.2.2 := rt_make hoy.ok hoy.at_ hoy.wf h4
  have hb0 : n.op = 12 → 0 ≤ n.b := fun _ => by
    simp only [okN, Bool.and_eq_true] at hok
    exact (plainB_b hok.1.1).1
  have har := around_ge hb0 (i : Int)
  have hfy : fitsE b (free + aroundI n.op n.b (i : Int)) (rowT y) = 0 := by
    refine fits_ok hr (by omega) (rowE_ok hY.shape ?_ (fun m hm => hnd m ?_))
    · rw [below_rt hY, Bool.not_eq_true']
      rw [below_rt hT, Bool.not_eq_true'] at hbl
      have e1 := ex_kid (ex_top hbl).2 i y hy
      rw [Nat.zero_add] at e1
      refine exT_shift (p := fun x z => decide (max free 0 ≤ x - z)) (fun v z hh => ?_) e1
      simp only [decide_eq_true_eq] at hh ⊢
      omega
    · rw [hT.eq]
      simp only [List.mem_cons, List.mem_append]
      exact .inr (.inr (row_kid hmem m hm))
  refine ⟨?_, hY.few⟩
  rw [chk_fit hfy, allG_rt hY]
/-- What the parts tell. -/
theorem part_told {b : Bk} {t : List Nd} {free : Int} (h : fitsE b free t = 0) {n : Nd} {a : List Nd} {k : Fo} (hT : Rt t n a k) :
    (n.op ≠ 12 → fixE b free t = 1 ∧ chkGE b free t = (if (kidL k).all (fixT (argsB b)) then 0 else 18)) ∧
    (n.op = 12 → ∃ g : Bool, fixE b free t = (if g then 0 else 18) ∧ chkGE b free t = (if g && (kidL k).all (fixT (argsB b)) then 0 else 18)) := by
  have h0 : nth t 0 = n := by rw [hT.eq]; rfl
  have hfx : fixE b free t = if n.op ≠ 12 then 1 else if guardT (argsB b) t.length (treeAt t) then 0 else 18 := by
    unfold fixE
    rw [h, h0]; rfl
  have hck : chkGE b free t = if (if n.op = 12 then guardN (argsB b) (n, a, k) else true) && (kidL k).all (fixT (argsB b)) then 0 else 18 := by
    have e : fixT (argsB b) (n, a, k) = ((if n.op = 12 then guardN (argsB b) (n, a, k) else true) && (kidL k).all (fixT (argsB b))) := by rw [← fixF_all]; rfl
    rw [chk_fit h, allG_rt hT, e]
  refine ⟨fun h12 => ?_, fun h12 => ?_⟩
  · rw [hfx, hck, if_pos h12, if_neg h12, Bool.true_and]
    exact ⟨rfl, rfl⟩
  · rw [hfx, hck, if_neg (by simp [h12]), if_pos h12, treeAt_rt hT]
    refine ⟨guardN (argsB b) (n, a, k), ?_, rfl⟩
    have : szT (n, a, k) = t.length := by rw [hT.eq]; rfl
    unfold guardN
    rw [this]

end Go.Proofs.Ytpkldboeohhmpaa
