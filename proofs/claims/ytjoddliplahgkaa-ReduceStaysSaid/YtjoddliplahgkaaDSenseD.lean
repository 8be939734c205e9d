/- Merged: WhS, SenseB, SenseV, SenseU, SenseF, SenseC, SenseD. -/
import Derived.Test.YtjoddliplahgkaaDWhR
import Derived.Test.YtjoddliplahgkaaDSenseA
import Derived.Test.YtjoddliplahgkaaDSenseM
import Derived.Test.YtjoddliplahgkaaDGuarded
import Derived.Test.YtjoddliplahgkaaDShort2
import Derived.Test.YtjoddliplahgkaaDKidss
import Derived.Test.YtjoddliplahgkaaDSubst
import Derived.Test.YtjoddliplahgkaaDBooks
import Derived.Test.YtjoddliplahgkaaDWhK
namespace Go.Proofs.Ytjoddliplahgkaa
section
open Go.RowKit
def AtAny (F : Nat → WhR) (n : Nat) (y : Fc) (m : Nat) : Prop := ∀ j, (n ≤ j + m → F j = .done y (j + m - n)) ∧ (j + m < n → F j = .bad 10)
set_option maxRecDepth 20000 in
theorem wh_at {b : Bk} {cv : List (List Nd)} (hr : rightE b = 0) (hc : CtxG b cv) : ∀ (G n : Nat) (f : Fc) (room : Int), FocG b (cv.length : Int) f → (fsz f : Int) ≤ room → room ≤ 4096 → n * 4097 + fsz f < G → ∀ y m, whN b cv n f room = .done y m → AtAny (fun j => whN b cv j f room) n y m
 | 0, n, f, room, _, _, _, h, _, _, _ => absurd h (by omega)
 | G + 1, n, f, room, hf, h1, h2, hG, y, m, h => by
  have key : ∀ (f' : Fc) (n' : Nat), FocG b (cv.length : Int) f' → n' ≤ n → whE b cv n' f' room = .done y m → AtAny (fun j => whE b cv j f' room) n' y m := by
   intro f' n' hf' hn' hh j
   unfold whE at hh ⊢
   by_cases hrd : readyF b cv f' = true
   rotate_left
   · rw [if_neg hrd] at hh
     simp only [if_neg hrd]
     injection hh with e1 e2
     subst e1 e2
     exact ⟨fun _ => by congr 1; omega, fun h => absurd h (by omega)⟩
   rw [if_pos hrd] at hh
   simp only [if_pos hrd]
   by_cases h0 : n' = 0
   · rw [if_pos h0] at hh; cases hh
   rw [if_neg h0] at hh
   cases hz : ownF b cv f' with
   | none => rw [hz] at hh; cases hh
   | some z =>
    rw [hz] at hh
    simp only at hh ⊢
    by_cases hb : room < (fsz z : Int)
    · rw [if_pos hb] at hh; cases hh
    rw [if_neg hb] at hh
    have hz2 := own_fit hr hc hf' hrd hz
    have hmul : (n' - 1 + 1) * 4097 ≤ n * 4097 := Nat.mul_le_mul_right _ (by omega)
    have ih := wh_at hr hc G (n' - 1) z room hz2.1 (by omega) h2 (by omega) y m hh
    by_cases hj : j = 0
    · subst hj
      have hm := (whN_fit hr hc hz2.1 (by omega) h2 hh).2.2
      rw [if_pos rfl]
      exact ⟨fun h => absurd h (by omega), fun _ => rfl⟩
    · rw [if_neg hj, if_neg hb]
      obtain ⟨a1, a2⟩ := ih (j - 1)
      refine ⟨fun h => ?_, fun h => a2 (by omega)⟩
      refine (a1 (by omega)).trans ?_
      congr 1
      omega
  intro j
  cases hp : partF f with
  | none =>
   rw [whN_none hr hc hf h2 hp] at h
   simp only [whN_none hr hc hf h2 hp]
   exact key f n hf (Nat.le_refl _) h j
  | some p =>
   obtain ⟨p1, p2⟩ := part_fit hf hp
   have hsz := foc_sz p1
   rw [whN_part hr hc hf h1 h2 hp] at h
   simp only [whN_part hr hc hf h1 h2 hp]
   cases hw : whN b cv n (hdW p) (room - fsz f + szT p) with
   | bad e => rw [hw] at h; cases h
   | done z k =>
    rw [hw] at h
    simp only at h
    have ih := wh_at hr hc G n (hdW p) (room - fsz f + szT p) (foc p1) (by omega) (by omega) (by omega) z k hw j
    simp only at ih
    obtain ⟨q1, q2, q3⟩ := whN_fit hr hc (foc p1) (by omega) (by omega) hw
    have hz := q1.fit (by omega)
    have hzl := rowF_len z
    obtain ⟨r1, r2⟩ := with_fit hf hp hz (by omega)
    have hk := key _ k r1 q3 h
    have hmk : m ≤ k := by
     unfold whE at h
     split at h
     · rename_i hrd
       split at h
       · cases h
       cases hz : ownF b cv (withF f (rowF z)) with
       | none => rw [hz] at h; cases h
       | some z2 =>
        rw [hz] at h
        simp only at h
        split at h
        · cases h
        · have := (whN_fit hr hc (own_fit hr hc r1 hrd hz).1 (by omega) h2 h).2.2
          omega
     injection h with e1 e2
     omega
    by_cases hj : n ≤ j + k
    · rw [ih.1 hj]
      simp only
      obtain ⟨a1, a2⟩ := hk (j + k - n)
      refine ⟨fun h => ?_, fun h => a2 (by omega)⟩
      refine (a1 (by omega)).trans ?_
      congr 1
      omega
    · rw [ih.2 (by omega)]
      exact ⟨fun h => absurd h (by omega), fun _ => rfl⟩
end
section
open Go.RowKit
theorem own_cellH {w : World} {base j d z g : Nat} {e : TypeId} {xs : List Value} (h : w.ownsRow base e z (.slice (some ⟨g, 0, none⟩) j d) j xs) {i : Nat} {u : Value} (hu : xs[i]? = some u) : w.cell? ⟨g, i, none⟩ = some u := by
 have h1 := World.ownsRow.cells h (g := g) rfl i u hu
 have ea : (⟨g, 0, none⟩ : Addr).add i = ⟨g, i, none⟩ := by unfold Addr.add; split <;> simp_all
 rw [ea] at h1
 exact h1
end
section
open Go.RowKit
end
section
open Go.Lib (hid)
open Go.RowKit
abbrev NewB (w w' : World) (q : Nat) : Prop := w.heap.size ≤ q ∧ q < w'.heap.size
def CloneP (l : List Nd) (w : World) (e : Ending) (w' : World) : Prop := Below w.heap.size w w' ∧ ∃ g c, e = .returned (.slice (some ⟨g, 0, none⟩) l.length c) ∧ OwnN w' w.heap.size (.slice (some ⟨g, 0, none⟩) l.length c) l
set_option maxRecDepth 100000 in
set_option maxHeartbeats 1000000 in
theorem clone_own0 {A : Option Addr} {n c : Nat} {l : List Nd} {w : World} (h : TermV w A n c l) (h0 : 0 < n) :
 Calls Try.prog 88 #[.slice A n c] w (CloneP l w) := by
 have q22 : ∀ (w : World) (a : Option Addr) (n c n' c' : Nat), (binOp .eql 29 (.slice a n c) (.slice none n' c')).run Try.prog w = .ok (.bool a.isNone) w := fun w a n c n' c' => Lib.run_eql_slice_nil w _ _ a n c n' c' Try.underlying29
 cases A with
 | none =>
  have h1 := h.nul rfl
  have h2 := h.cap
  omega
 | some a =>
  obtain ⟨i0, hi, hy0, hy1, hy2⟩ := info_parts infoN'
  have HI0 := hid hi
  have HY0 := hid hy0
  have HY1 := hid hy1
  have HY2 := hid hy2
  clear hi hy0 hy1 hy2
  have hfew := h.few
  have hb0 := below_alloc w (.cells #[] 50)
  have hm : TermV (w.alloc (.cells #[] 50)) (some a) n c l := h.below hb0
  have hown : OwnN (w.alloc (.cells #[] 50)) w.heap.size (.slice (some ⟨w.heap.size, 0, none⟩) 0 0) [] := World.ownsRow_made w #[] 0 (Nat.le_refl _) (Nat.zero_le _) rfl
  have HM := hid hm
  have HOWN := hid hown
  have HB := hid hb0
  have HLN := hid h.len
  clear hm hown hb0 h
  go_in
  go_wp2_with (at_builtin; go_loud (refine wpList_oper rfl (oper_append_row (.tmp 5) (.tmp 6) 29 29 rfl w.heap.size i0 Try.underlying29 Try.underlying29 HI0.out HY0.out HY1.out HY2.out (.slice (some ⟨w.heap.size, 0, none⟩) 0 0) [] l rfl HOWN.out rfl HM.out (by simpa using hfew) (by simp) ?_)); intro A4 c4 w4 hown4 happ4)
  go_ret
  simp only [List.length_nil, Nat.zero_add, List.nil_append] at hown4
  have hown5 : OwnN w4 w.heap.size (.slice A4 l.length c4) l := by rw [HLN.out]; exact hown4
  rcases hown5.2 with ⟨_, h2⟩ | ⟨g, cap', cur, hv, _⟩
  · have := HLN.out; omega
  · injection hv with e1 e2 e3
    subst e1
    exact ⟨HB.out.grown happ4.grown HB.out.size (fun g hg => (ownsRow_block HOWN.out hg).1), g, c4, by rw [HLN.out]; simp, hown5⟩
theorem own_put {w : World} {base g c : Nat} {n0 : Nd} {r : List Nd} (h : OwnN w base (.slice (some ⟨g, 0, none⟩) (n0 :: r).length c) (n0 :: r)) (hf : (n0 :: r).length ≤ 5864062014805) (z : Int) : TermR (fun q => q = g) (w.setCell ⟨g, 1, none⟩ (.int .i64 z)) (some ⟨g, 0, none⟩) (n0 :: r).length c (⟨n0.op, z, n0.b⟩ :: r) := by
 have h0 := h
 rcases h.2 with ⟨hv, _⟩ | ⟨g', cap', cur, hv, hg, hh, hc, _⟩
 · cases hv
 injection hv with e1 e2 e3
 injection e1 with e1
 injection e1 with e1
 subst e1
 have hb : Blk w g 50 cur := hh
 have hs := hb.set_ 1 (.int .i64 z)
 refine ⟨rfl, by omega, hf, (fun e => by cases e), fun _ => ⟨g, 0, rfl, rfl, fun k hk => ?_⟩⟩
 obtain ⟨x1, x2, x3⟩ := flat_at (n0 :: r) k hk
 have c1 := own_cellH h0 x1
 have c2 := own_cellH h0 x2
 have c3 := own_cellH h0 x3
 rw [hb.cell] at c1 c2 c3
 rw [Nat.zero_add, hs.cell, hs.cell, hs.cell]
 have hne : ∀ j : Nat, j ≠ 1 → (cur.setIfInBounds 1 (.int .i64 z))[j]? = cur[j]? := fun j hj => by
  rw [Array.getElem?_setIfInBounds_ne (Ne.symm hj)]
 have h1lt : 1 < cur.size := by
  obtain ⟨y1, y2, _⟩ := flat_at (n0 :: r) 0 (by simp)
  have := own_cellH h0 y2
  rw [hb.cell] at this
  exact (Array.getElem?_eq_some_iff.1 this).1
 cases k with
 | zero =>
  refine ⟨by rw [hne _ (by omega)]; exact c1, ?_, by rw [hne _ (by omega)]; exact c3⟩
  rw [Nat.zero_mul, Nat.zero_add, Array.getElem?_setIfInBounds_self_of_lt h1lt]
  rfl
 | succ k =>
  refine ⟨by rw [hne _ (by omega)]; exact c1, by rw [hne _ (by omega)]; exact c2, by rw [hne _ (by omega)]; exact c3⟩
end
section
open Go.RowKit
end
section
open Go.RowKit
section
variable {w0 w w' w1 : World} {g f n c : Nat} {v : BkVal} {b : Bk} {A : Option Addr} {l : List Nd} {r : RV} {e : Ending}
end
end
section
open Go.RowKit
theorem CtsV.arg_at {w : World} {A : Option Addr} {n c : Nat} {cs : List Ct} (h : CtsV w A n c cs) {k : Nat} (hk : k < n) : ∃ b off A1 n1 c1, A = some ⟨b, off, none⟩ ∧ b < w.heap.size ∧ w.cell? ⟨b, off + k * 2, none⟩ = some (.slice A1 n1 c1) ∧ (cs.getD k default).args.length = n1 := by
 obtain ⟨b, off, e, hb, hm⟩ := h.mem (by omega)
 obtain ⟨A1, n1, c1, A2, n2, c2, h1, _, h3, _⟩ := hm k hk
 exact ⟨b, off, A1, n1, c1, e, hb, h1, h3.len⟩
end
end Go.Proofs.Ytjoddliplahgkaa
