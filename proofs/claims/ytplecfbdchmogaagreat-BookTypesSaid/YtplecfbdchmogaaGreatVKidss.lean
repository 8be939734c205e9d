/- Merged: LiftP, TermP, TermP2, TermP3, TermP4, Parts0, KidsD, Parts1, Clone, Count, Parts, Kids. -/
import Derived.Test.YtplecfbdchmogaaGreatVBase
import Derived.Test.YtplecfbdchmogaaGreatVTermL
import Derived.Test.YtplecfbdchmogaaGreatVFines
import Derived.Test.YtplecfbdchmogaaGreatVCopyD
import Derived.Test.YtplecfbdchmogaaGreatVEnds
import Derived.Test.YtplecfbdchmogaaGreatVLeafs
import Derived.Lib.SliceRun
import Derived.Test.YtplecfbdchmogaaGreatProg
import Derived.WalkKit
import Derived.WalkLawsBesides
import Derived.WalkSpells
import Derived.Lib.Hide
import Derived.Deep.QuietTactic
import Derived.BigQuiet
namespace Go.Proofs.YtplecfbdchmogaaGreat
open Go.Lib (hid)
set_option maxHeartbeats 1000000
set_option maxRecDepth 100000
section
open Go.RowKit
end
section
open Go.RowKit
end
section
open Go.RowKit
end
section
open Go.RowKit
def Vk : Fo → Prop
 | .nil => True
 | .cons _ n ats k x => okN n = true ∧ (n.op = 1 → ats = [] ∧ k = .nil) ∧ Vk k ∧ Vk x
theorem ds_one {n : Nd} (h : n.op = 1) : ds n = [] := by simp [ds, kidsI, h]
theorem vk_node {n : Nd} {ats : List Nd} {k : Fo} (h1 : AtOk n ats) (h2 : Wf (ds n) k) (h : n.op = 1) : ats = [] ∧ k = .nil := by
 rw [ds_one h] at h2
 constructor
 · unfold AtOk at h1
   rw [if_neg (by omega)] at h1
   exact h1
 cases k with
 | nil => rfl
 | cons _ _ _ _ _ => exact h2.elim
theorem vk_of_wf : ∀ (F : Fo) (dl : List Bool), Wf dl F → Vk F
 | .nil, _, _ => trivial
 | .cons _ _ _ _ _, [], h => h.elim
 | .cons p n ats k x, d :: dr, h => by
  obtain ⟨_, hok, hat, hk, hx⟩ := h
  exact ⟨hok, vk_node hat hk, vk_of_wf k _ hk, vk_of_wf x _ hx⟩
theorem pre_all : ∀ (F : Fo), (∀ m i, i % 2 = 0 → Wf ((List.replicate m [true, false]).flatten) F → PreOk true i F) ∧ (∀ m i, i % 2 = 1 → Wf (false :: (List.replicate m [true, false]).flatten) F → PreOk true i F) ∧ (∀ m i, Wf (List.replicate m false) F → PreOk false i F)
 | .nil => ⟨fun _ _ _ _ => trivial, fun _ _ _ _ => trivial, fun _ _ _ => trivial⟩
 | .cons p n ats k x => by
  have hk := pre_all k
  have hx := pre_all x
  have kid : Wf (ds n) k → PreOk (decide (n.op = 12)) 0 k := fun h => by
   unfold ds at h
   by_cases h12 : n.op = 12
   · rw [if_pos h12] at h
     rw [decide_eq_true h12]
     exact hk.1 _ 0 rfl h
   rw [if_neg h12] at h
   rw [decide_eq_false h12]
   exact hk.2.2 _ 0 h
  refine ⟨fun m i hi h => ?_, fun m i hi h => ?_, fun m i h => ?_⟩
  · cases m with
    | zero => exact h.elim
    | succ m =>
     simp only [List.replicate_succ, List.flatten_cons, List.cons_append, List.nil_append] at h
     obtain ⟨⟨f, hp, _⟩, _, _, hkk, hxx⟩ := h
     exact ⟨by rw [hp]; simp [hi], kid hkk, hx.2.1 m (i + 1) (by omega) hxx⟩
  · obtain ⟨hp, _, _, hkk, hxx⟩ := h
    simp only at hp
    exact ⟨by rw [hp]; simp [hi], kid hkk, hx.1 m (i + 1) (by omega) hxx⟩
  · cases m with
    | zero => exact h.elim
    | succ m =>
     rw [List.replicate_succ] at h
     obtain ⟨hp, _, _, hkk, hxx⟩ := h
     simp only at hp
     exact ⟨by rw [hp]; simp, kid hkk, hx.2.2 m (i + 1) hxx⟩
theorem pre_of_wf {n : Nd} {k : Fo} (h : Wf (ds n) k) : PreOk (decide (n.op = 12)) 0 k := by
 have hk := pre_all k
 unfold ds at h
 by_cases h12 : n.op = 12
 · rw [if_pos h12] at h
   rw [decide_eq_true h12]
   exact hk.1 _ 0 rfl h
 rw [if_neg h12] at h
 rw [decide_eq_false h12]
 exact hk.2.2 _ 0 h
theorem le_max_dec (m x y : Int) : decide (m ≤ max x y) = (decide (m ≤ x) || decide (m ≤ y)) := by
 rw [← Bool.decide_or]
 exact decide_eq_decide.2 (by omega)
theorem grtT_of {m a : Int} (hm : 0 ≤ m) {n : Nd} {k : Fo} (h1 : n.op = 1 → k = .nil) (ih : decide (m ≤ grt n.op n.b 0 a k) = exF (fun v z => decide (m ≤ v - z)) n.op n.b 0 a k) : decide (m ≤ grtT n k a) = exT (fun v z => decide (m ≤ v - z)) a n k := by
 unfold grtT exT
 by_cases h : n.op = 1
 · rw [if_pos h, h1 h, decide_eq_true h]
   simp only [exF, Bool.or_false, Bool.true_and]
   exact decide_eq_decide.2 (by omega)
 rw [if_neg h, decide_eq_false h, ih]
 simp
theorem grt_ge {m : Int} (hm : 0 ≤ m) (pop pb : Int) : ∀ (j : Nat) (a : Int) (F : Fo), Vk F → decide (m ≤ grt pop pb j a F) = exF (fun v z => decide (m ≤ v - z)) pop pb j a F
 | _, _, .nil, _ => decide_eq_false (by simp only [grt]; omega)
 | j, a, .cons p n ats k x, h => by
  rw [grt_cons, exF_cons, le_max_dec, grt_ge hm pop pb (j + 1) a x h.2.2.2, grtT_of hm (fun q => (h.2.1 q).2) (grt_ge hm n.op n.b 0 _ k h.2.2.1)]
end
section
open Go.RowKit
section
variable {l : List Nd} {n : Nd} {ats : List Nd} {k : Fo}
theorem right_row (hs : shapeI l = 0) (hpp : pp [false] l = some (.cons [] n ats k .nil, [])) : okN n = true ∧ (n.op = 1 → ats = [] ∧ k = .nil) ∧ Vk k ∧ AllOk k ∧ PreOk (decide (n.op = 12)) 0 k ∧ l = n :: (ats ++ row k) ∧ l.length ≤ 4096 ∧ fsize k ≤ 4096 := by
 obtain ⟨hl, n', ats', k', hpp', hrow, hfs⟩ := shape_ok hs
 rw [hpp] at hpp'
 injection hpp' with e
 injection e with e1 _
 injection e1 with _ e2 e3 e4 _
 subst e2 e3 e4
 have hw := wf_of_pp hpp
 have hal := pp_allok hpp
 obtain ⟨_, hok, hat, hk, _⟩ := hw
 exact ⟨hok, vk_node hat hk, vk_of_wf _ _ hk, hal.2.1, pre_of_wf hk, hrow, hl, hfs⟩
theorem below_told (hs : shapeI l = 0) (hpp : pp [false] l = some (.cons [] n ats k .nil, [])) (v : Int) : belowB l v = (decide (grtT n k 0 < 0) || decide (grtT n k 0 < v)) := by
 obtain ⟨hok, hv, hk, _⟩ := right_row hs hpp
 have h := grtT_of (m := max v 0) (a := 0) (by omega) (fun q => (hv q).2) (grt_ge (by omega) n.op n.b 0 0 k hk)
 unfold belowB exR
 rw [hpp, decide_eq_true hs]
 simp only
 rw [← h, Bool.true_and, ← Bool.decide_or, ← decide_not]
 exact decide_eq_decide.2 (by omega)
end
end
section
open Go.RowKit
end
section
open Go.RowKit
end
section
open Go.RowKit
end
section
open Go.RowKit
theorem own_fresh {w w' : World} {A : Option Addr} {n c : Nat} {l : List Nd} (h : OwnN w' w.heap.size (.slice A n c) l) (hl : l.length ≤ 5864062014805) : TermR (fresh w w') w' A n c l := by
 obtain ⟨A', n', c', e, ht⟩ := OwnN.termS h hl
 injection e with e1 e2 e3
 subst e1 e2 e3
 exact ht.keep fun b hb => ⟨⟨(ownsRow_block h hb).1, (ownsRow_block h hb).2.1⟩, fun _ => rfl⟩
end
section
open Go.RowKit
def CountPost (n : Nd) (w : World) (e : Ending) (w' : World) : Prop := (∃ k : Int, e = .returned (.tuple #[.int .i64 k, .bool (okN n)]) ∧ (okN n = true → k = nkI n.op n.b)) ∧ Below w.heap.size w w'
theorem countPost {n : Nd} {w w' : World} {k : Int} {b : Bool} (hb : b = okN n) (hk : okN n = true → k = nkI n.op n.b) (hw : Below w.heap.size w w') : CountPost n w (.returned (.tuple #[.int .i64 k, .bool b])) w' :=
 ⟨⟨k, by rw [hb], hk⟩, hw⟩
theorem within_q (n lo hi : Int) (w : World) (m : Nat) :
 Calls Tryz.prog 141 #[.int .i64 n, .int .i64 lo, .int .i64 hi] (w.drewN m) fun e w' => e = .returned (.bool (decide (lo ≤ n) && decide (n ≤ hi))) ∧ ∃ k, w' = w.drewN k :=
 (within_any n lo hi (w.drewN m)).mono fun _ _ ⟨h1, h2⟩ => ⟨h1, m, h2.symm⟩
theorem within_qt (n lo hi : Int) (w : World) (m : Nat) (h : lo ≤ n ∧ n ≤ hi) :
 Calls Tryz.prog 141 #[.int .i64 n, .int .i64 lo, .int .i64 hi] (w.drewN m) fun e w' => e = .returned (.bool true) ∧ ∃ k, w' = w.drewN k :=
 (within_q n lo hi w m).mono fun _ _ ⟨h1, h2⟩ => ⟨by rw [h1]; simp [h], h2⟩
theorem within_qf (n lo hi : Int) (w : World) (m : Nat) (h : ¬ (lo ≤ n ∧ n ≤ hi)) :
 Calls Tryz.prog 141 #[.int .i64 n, .int .i64 lo, .int .i64 hi] (w.drewN m) fun e w' => e = .returned (.bool false) ∧ ∃ k, w' = w.drewN k :=
 (within_q n lo hi w m).mono fun _ _ ⟨h1, h2⟩ => ⟨by rw [h1, ← Bool.decide_and, decide_eq_false h], h2⟩
theorem below_box_drewN (w : World) (o : Obj) (m : Nat) : Below w.heap.size w ((w.alloc o).drewN m) := below_drewN (below_alloc w o) m
theorem okN_iff (n : Nd) : okN n = true ↔ plainB n.op n.a n.b = true ∧ n.op ≠ 3 ∧ n.op ≠ 13 := by
 simp only [okN, Bool.and_eq_true, decide_eq_true_eq, and_assoc]
theorem okN_false_iff (n : Nd) : okN n = false ↔ ¬ (plainB n.op n.a n.b = true ∧ n.op ≠ 3 ∧ n.op ≠ 13) := by
 rw [← okN_iff]; simp
theorem count_1 (a b : Int) (w : World) :
 Calls Tryz.prog 140 #[.agg #[.int .i64 1, .int .i64 a, .int .i64 b]] w (CountPost ⟨1, a, b⟩ w) := by
 by_cases a0 : a = 0
 · have a0b : (a == 0) = true := by simp [a0]
   have A0 := hid a0
   clear a0
   by_cases ht : 0 ≤ a ∧ a ≤ 1048576
   · obtain ⟨hl, hh⟩ := ht
     go_in
     go_wp2_with fail
     all_goals
      go_quiet ((go_at_call 141; first | exact within_qt _ _ _ _ _ (by omega) | exact within_qf _ _ _ _ _ (by omega) | exact within_q _ _ _ _ _))
      go_wp2_with fail
     all_goals
      have a0 := A0.out
      refine bodyPost_ret (results_tmp2 rfl _ _ _) rfl ?_
      refine countPost ?_ ?_ (by first | exact below_alloc _ _ | exact below_box_drewN _ _ _)
      · rw [Bool.eq_iff_iff, okN_iff, plainB_iff]; first | (simp; done) | (simp; omega) | (simp [IntKind.wrap_i64]; omega)
      rw [okN_iff, plainB_iff]; first | (simp [nkI]; done) | (simp [nkI]; omega) | (simp [nkI, wrap64]; omega) | (simp [nkI, IntKind.wrap_i64]; omega)
   have htb : (decide ((0 : Int) ≤ a) && decide (a ≤ 1048576)) = false := by rw [Bool.and_eq_false_iff, decide_eq_false_iff_not, decide_eq_false_iff_not]; omega
   have HT := hid ht
   go_in
   go_wp2_with fail
   all_goals
    go_quiet ((go_at_call 141; first | exact within_qt _ _ _ _ _ (by omega) | exact within_qf _ _ _ _ _ (by omega) | exact within_q _ _ _ _ _))
    go_wp2_with fail
   all_goals
    have a0 := A0.out
    refine bodyPost_ret (results_tmp2 rfl _ _ _) rfl ?_
    refine countPost ?_ ?_ (by first | exact below_alloc _ _ | exact below_box_drewN _ _ _)
    · rw [Bool.eq_iff_iff, okN_iff, plainB_iff]; first | (simp; done) | (simp; omega) | (simp [IntKind.wrap_i64]; omega)
    rw [okN_iff, plainB_iff]; first | (simp [nkI]; done) | (simp [nkI]; omega) | (simp [nkI, wrap64]; omega) | (simp [nkI, IntKind.wrap_i64]; omega)
 have a0b : (a == 0) = false := by simp [a0]
 have A0 := hid a0
 clear a0
 by_cases ht : 0 ≤ a ∧ a ≤ 1048576
 · obtain ⟨hl, hh⟩ := ht
   go_in
   go_wp2_with fail
   all_goals
    go_quiet ((go_at_call 141; first | exact within_qt _ _ _ _ _ (by omega) | exact within_qf _ _ _ _ _ (by omega) | exact within_q _ _ _ _ _))
    go_wp2_with fail
   all_goals
    have a0 := A0.out
    refine bodyPost_ret (results_tmp2 rfl _ _ _) rfl ?_
    refine countPost ?_ ?_ (by first | exact below_alloc _ _ | exact below_box_drewN _ _ _)
    · rw [Bool.eq_iff_iff, okN_iff, plainB_iff]; first | (simp; done) | (simp; omega) | (simp [IntKind.wrap_i64]; omega)
    rw [okN_iff, plainB_iff]; first | (simp [nkI]; done) | (simp [nkI]; omega) | (simp [nkI, wrap64]; omega) | (simp [nkI, IntKind.wrap_i64]; omega)
 have htb : (decide ((0 : Int) ≤ a) && decide (a ≤ 1048576)) = false := by rw [Bool.and_eq_false_iff, decide_eq_false_iff_not, decide_eq_false_iff_not]; omega
 have HT := hid ht
 go_in
 go_wp2_with fail
 all_goals
  go_quiet ((go_at_call 141; first | exact within_qt _ _ _ _ _ (by omega) | exact within_qf _ _ _ _ _ (by omega) | exact within_q _ _ _ _ _))
  go_wp2_with fail
 all_goals
  have a0 := A0.out
  refine bodyPost_ret (results_tmp2 rfl _ _ _) rfl ?_
  refine countPost ?_ ?_ (by first | exact below_alloc _ _ | exact below_box_drewN _ _ _)
  · rw [Bool.eq_iff_iff, okN_iff, plainB_iff]; first | (simp; done) | (simp; omega) | (simp [IntKind.wrap_i64]; omega)
  rw [okN_iff, plainB_iff]; first | (simp [nkI]; done) | (simp [nkI]; omega) | (simp [nkI, wrap64]; omega) | (simp [nkI, IntKind.wrap_i64]; omega)
theorem count_2 (a b : Int) (w : World) :
 Calls Tryz.prog 140 #[.agg #[.int .i64 2, .int .i64 a, .int .i64 b]] w (CountPost ⟨2, a, b⟩ w) := by
 by_cases a0 : a = 0
 · have a0b : (a == 0) = true := by simp [a0]
   have A0 := hid a0
   clear a0
   by_cases ht : 0 ≤ a ∧ a ≤ 1
   · obtain ⟨hl, hh⟩ := ht
     go_in
     go_wp2_with (go_at_call 141; refine (within_any _ _ _ _).mono ?_; rintro e w2 ⟨rfl, rfl⟩)
     all_goals
      have a0 := A0.out
      refine bodyPost_ret (results_tmp2 rfl _ _ _) rfl ?_
      refine countPost ?_ ?_ (by first | exact below_alloc _ _ | exact below_box_drewN _ _ _)
      · rw [Bool.eq_iff_iff, okN_iff, plainB_iff]; first | (simp; done) | (simp; omega) | (simp [IntKind.wrap_i64]; omega)
      rw [okN_iff, plainB_iff]; first | (simp [nkI]; done) | (simp [nkI]; omega) | (simp [nkI, wrap64]; omega) | (simp [nkI, IntKind.wrap_i64]; omega)
   have htb : (decide ((0 : Int) ≤ a) && decide (a ≤ 1)) = false := by rw [Bool.and_eq_false_iff, decide_eq_false_iff_not, decide_eq_false_iff_not]; omega
   have HT := hid ht
   clear ht
   go_in
   go_wp2_with (go_at_call 141; refine (within_any _ _ _ _).mono ?_; rintro e w2 ⟨rfl, rfl⟩)
   all_goals
    have a0 := A0.out
    have ht := HT.out
    refine bodyPost_ret (results_tmp2 rfl _ _ _) rfl ?_
    refine countPost ?_ ?_ (by first | exact below_alloc _ _ | exact below_box_drewN _ _ _)
    · rw [Bool.eq_iff_iff, okN_iff, plainB_iff]; first | (simp; done) | (simp; omega) | (simp [IntKind.wrap_i64]; omega)
    rw [okN_iff, plainB_iff]; first | (simp [nkI]; done) | (simp [nkI]; omega) | (simp [nkI, wrap64]; omega) | (simp [nkI, IntKind.wrap_i64]; omega)
 have a0b : (a == 0) = false := by simp [a0]
 have A0 := hid a0
 clear a0
 by_cases ht : 0 ≤ a ∧ a ≤ 1
 · obtain ⟨hl, hh⟩ := ht
   go_in
   go_wp2_with (go_at_call 141; refine (within_any _ _ _ _).mono ?_; rintro e w2 ⟨rfl, rfl⟩)
   all_goals
    have a0 := A0.out
    refine bodyPost_ret (results_tmp2 rfl _ _ _) rfl ?_
    refine countPost ?_ ?_ (by first | exact below_alloc _ _ | exact below_box_drewN _ _ _)
    · rw [Bool.eq_iff_iff, okN_iff, plainB_iff]; first | (simp; done) | (simp; omega) | (simp [IntKind.wrap_i64]; omega)
    rw [okN_iff, plainB_iff]; first | (simp [nkI]; done) | (simp [nkI]; omega) | (simp [nkI, wrap64]; omega) | (simp [nkI, IntKind.wrap_i64]; omega)
 have htb : (decide ((0 : Int) ≤ a) && decide (a ≤ 1)) = false := by rw [Bool.and_eq_false_iff, decide_eq_false_iff_not, decide_eq_false_iff_not]; omega
 have HT := hid ht
 clear ht
 go_in
 go_wp2_with (go_at_call 141; refine (within_any _ _ _ _).mono ?_; rintro e w2 ⟨rfl, rfl⟩)
 all_goals
  have a0 := A0.out
  have ht := HT.out
  refine bodyPost_ret (results_tmp2 rfl _ _ _) rfl ?_
  refine countPost ?_ ?_ (by first | exact below_alloc _ _ | exact below_box_drewN _ _ _)
  · rw [Bool.eq_iff_iff, okN_iff, plainB_iff]; first | (simp; done) | (simp; omega) | (simp [IntKind.wrap_i64]; omega)
  rw [okN_iff, plainB_iff]; first | (simp [nkI]; done) | (simp [nkI]; omega) | (simp [nkI, wrap64]; omega) | (simp [nkI, IntKind.wrap_i64]; omega)
theorem count_4 (a b : Int) (w : World) :
 Calls Tryz.prog 140 #[.agg #[.int .i64 4, .int .i64 a, .int .i64 b]] w (CountPost ⟨4, a, b⟩ w) := by
 by_cases h1 : a = 0
 · have h2 : (a == 0) = true := by simp [h1]
   have H1 := hid h1
   clear h1
   go_in
   go_wp2
   all_goals
    have h1 := H1.out
    refine bodyPost_ret (results_tmp2 rfl _ _ _) rfl ?_
    refine countPost ?_ ?_ (by first | exact below_alloc _ _ | exact below_box_drewN _ _ _)
    · rw [Bool.eq_iff_iff, okN_iff, plainB_iff]; first | (simp; done) | (simp; omega) | (simp [IntKind.wrap_i64]; omega)
    rw [okN_iff, plainB_iff]; first | (simp [nkI]; done) | (simp [nkI]; omega) | (simp [nkI, wrap64]; omega) | (simp [nkI, IntKind.wrap_i64]; omega)
 have h2 : (a == 0) = false := by simp [h1]
 have H1 := hid h1
 clear h1
 go_in
 go_wp2
 all_goals
  have h1 := H1.out
  refine bodyPost_ret (results_tmp2 rfl _ _ _) rfl ?_
  refine countPost ?_ ?_ (by first | exact below_alloc _ _ | exact below_box_drewN _ _ _)
  · rw [Bool.eq_iff_iff, okN_iff, plainB_iff]; first | (simp; done) | (simp; omega) | (simp [IntKind.wrap_i64]; omega)
  rw [okN_iff, plainB_iff]; first | (simp [nkI]; done) | (simp [nkI]; omega) | (simp [nkI, wrap64]; omega) | (simp [nkI, IntKind.wrap_i64]; omega)
theorem count_5 (a b : Int) (w : World) :
 Calls Tryz.prog 140 #[.agg #[.int .i64 5, .int .i64 a, .int .i64 b]] w (CountPost ⟨5, a, b⟩ w) := by
 by_cases h1 : a = 0
 · have h2 : (a == 0) = true := by simp [h1]
   have H1 := hid h1
   clear h1
   go_in
   go_wp2
   all_goals
    have h1 := H1.out
    refine bodyPost_ret (results_tmp2 rfl _ _ _) rfl ?_
    refine countPost ?_ ?_ (by first | exact below_alloc _ _ | exact below_box_drewN _ _ _)
    · rw [Bool.eq_iff_iff, okN_iff, plainB_iff]; first | (simp; done) | (simp; omega) | (simp [IntKind.wrap_i64]; omega)
    rw [okN_iff, plainB_iff]; first | (simp [nkI]; done) | (simp [nkI]; omega) | (simp [nkI, wrap64]; omega) | (simp [nkI, IntKind.wrap_i64]; omega)
 have h2 : (a == 0) = false := by simp [h1]
 have H1 := hid h1
 clear h1
 go_in
 go_wp2
 all_goals
  have h1 := H1.out
  refine bodyPost_ret (results_tmp2 rfl _ _ _) rfl ?_
  refine countPost ?_ ?_ (by first | exact below_alloc _ _ | exact below_box_drewN _ _ _)
  · rw [Bool.eq_iff_iff, okN_iff, plainB_iff]; first | (simp; done) | (simp; omega) | (simp [IntKind.wrap_i64]; omega)
  rw [okN_iff, plainB_iff]; first | (simp [nkI]; done) | (simp [nkI]; omega) | (simp [nkI, wrap64]; omega) | (simp [nkI, IntKind.wrap_i64]; omega)
theorem count_6 (a b : Int) (w : World) :
 Calls Tryz.prog 140 #[.agg #[.int .i64 6, .int .i64 a, .int .i64 b]] w (CountPost ⟨6, a, b⟩ w) := by
 by_cases h1 : a = 0
 · have h2 : (a == 0) = true := by simp [h1]
   have H1 := hid h1
   clear h1
   go_in
   go_wp2
   all_goals
    have h1 := H1.out
    refine bodyPost_ret (results_tmp2 rfl _ _ _) rfl ?_
    refine countPost ?_ ?_ (by first | exact below_alloc _ _ | exact below_box_drewN _ _ _)
    · rw [Bool.eq_iff_iff, okN_iff, plainB_iff]; first | (simp; done) | (simp; omega) | (simp [IntKind.wrap_i64]; omega)
    rw [okN_iff, plainB_iff]; first | (simp [nkI]; done) | (simp [nkI]; omega) | (simp [nkI, wrap64]; omega) | (simp [nkI, IntKind.wrap_i64]; omega)
 have h2 : (a == 0) = false := by simp [h1]
 have H1 := hid h1
 clear h1
 go_in
 go_wp2
 all_goals
  have h1 := H1.out
  refine bodyPost_ret (results_tmp2 rfl _ _ _) rfl ?_
  refine countPost ?_ ?_ (by first | exact below_alloc _ _ | exact below_box_drewN _ _ _)
  · rw [Bool.eq_iff_iff, okN_iff, plainB_iff]; first | (simp; done) | (simp; omega) | (simp [IntKind.wrap_i64]; omega)
  rw [okN_iff, plainB_iff]; first | (simp [nkI]; done) | (simp [nkI]; omega) | (simp [nkI, wrap64]; omega) | (simp [nkI, IntKind.wrap_i64]; omega)
theorem count_7 (a b : Int) (w : World) :
 Calls Tryz.prog 140 #[.agg #[.int .i64 7, .int .i64 a, .int .i64 b]] w (CountPost ⟨7, a, b⟩ w) := by
 by_cases h1 : a = 0
 · have h2 : (a == 0) = true := by simp [h1]
   have H1 := hid h1
   clear h1
   go_in
   go_wp2
   all_goals
    have h1 := H1.out
    refine bodyPost_ret (results_tmp2 rfl _ _ _) rfl ?_
    refine countPost ?_ ?_ (by first | exact below_alloc _ _ | exact below_box_drewN _ _ _)
    · rw [Bool.eq_iff_iff, okN_iff, plainB_iff]; first | (simp; done) | (simp; omega) | (simp [IntKind.wrap_i64]; omega)
    rw [okN_iff, plainB_iff]; first | (simp [nkI]; done) | (simp [nkI]; omega) | (simp [nkI, wrap64]; omega) | (simp [nkI, IntKind.wrap_i64]; omega)
 have h2 : (a == 0) = false := by simp [h1]
 have H1 := hid h1
 clear h1
 go_in
 go_wp2
 all_goals
  have h1 := H1.out
  refine bodyPost_ret (results_tmp2 rfl _ _ _) rfl ?_
  refine countPost ?_ ?_ (by first | exact below_alloc _ _ | exact below_box_drewN _ _ _)
  · rw [Bool.eq_iff_iff, okN_iff, plainB_iff]; first | (simp; done) | (simp; omega) | (simp [IntKind.wrap_i64]; omega)
  rw [okN_iff, plainB_iff]; first | (simp [nkI]; done) | (simp [nkI]; omega) | (simp [nkI, wrap64]; omega) | (simp [nkI, IntKind.wrap_i64]; omega)
theorem count_8 (a b : Int) (w : World) :
 Calls Tryz.prog 140 #[.agg #[.int .i64 8, .int .i64 a, .int .i64 b]] w (CountPost ⟨8, a, b⟩ w) := by
 by_cases a0 : a = 0
 · have a0b : (a == 0) = true := by simp [a0]
   have A0 := hid a0
   clear a0
   by_cases ht : 0 ≤ a ∧ a ≤ 63
   · obtain ⟨hl, hh⟩ := ht
     go_in
     go_wp2_with fail
     all_goals
      go_quiet ((go_at_call 141; first | exact within_qt _ _ _ _ _ (by omega) | exact within_qf _ _ _ _ _ (by omega) | exact within_q _ _ _ _ _))
      go_wp2_with fail
     all_goals
      have a0 := A0.out
      refine bodyPost_ret (results_tmp2 rfl _ _ _) rfl ?_
      refine countPost ?_ ?_ (by first | exact below_alloc _ _ | exact below_box_drewN _ _ _)
      · rw [Bool.eq_iff_iff, okN_iff, plainB_iff]; first | (simp; done) | (simp; omega) | (simp [IntKind.wrap_i64]; omega)
      rw [okN_iff, plainB_iff]; first | (simp [nkI]; done) | (simp [nkI]; omega) | (simp [nkI, wrap64]; omega) | (simp [nkI, IntKind.wrap_i64]; omega)
   have htb : (decide ((0 : Int) ≤ a) && decide (a ≤ 63)) = false := by rw [Bool.and_eq_false_iff, decide_eq_false_iff_not, decide_eq_false_iff_not]; omega
   have HT := hid ht
   go_in
   go_wp2_with fail
   all_goals
    go_quiet ((go_at_call 141; first | exact within_qt _ _ _ _ _ (by omega) | exact within_qf _ _ _ _ _ (by omega) | exact within_q _ _ _ _ _))
    go_wp2_with fail
   all_goals
    have a0 := A0.out
    refine bodyPost_ret (results_tmp2 rfl _ _ _) rfl ?_
    refine countPost ?_ ?_ (by first | exact below_alloc _ _ | exact below_box_drewN _ _ _)
    · rw [Bool.eq_iff_iff, okN_iff, plainB_iff]; first | (simp; done) | (simp; omega) | (simp [IntKind.wrap_i64]; omega)
    rw [okN_iff, plainB_iff]; first | (simp [nkI]; done) | (simp [nkI]; omega) | (simp [nkI, wrap64]; omega) | (simp [nkI, IntKind.wrap_i64]; omega)
 have a0b : (a == 0) = false := by simp [a0]
 have A0 := hid a0
 clear a0
 by_cases ht : 0 ≤ a ∧ a ≤ 63
 · obtain ⟨hl, hh⟩ := ht
   go_in
   go_wp2_with fail
   all_goals
    go_quiet ((go_at_call 141; first | exact within_qt _ _ _ _ _ (by omega) | exact within_qf _ _ _ _ _ (by omega) | exact within_q _ _ _ _ _))
    go_wp2_with fail
   all_goals
    have a0 := A0.out
    refine bodyPost_ret (results_tmp2 rfl _ _ _) rfl ?_
    refine countPost ?_ ?_ (by first | exact below_alloc _ _ | exact below_box_drewN _ _ _)
    · rw [Bool.eq_iff_iff, okN_iff, plainB_iff]; first | (simp; done) | (simp; omega) | (simp [IntKind.wrap_i64]; omega)
    rw [okN_iff, plainB_iff]; first | (simp [nkI]; done) | (simp [nkI]; omega) | (simp [nkI, wrap64]; omega) | (simp [nkI, IntKind.wrap_i64]; omega)
 have htb : (decide ((0 : Int) ≤ a) && decide (a ≤ 63)) = false := by rw [Bool.and_eq_false_iff, decide_eq_false_iff_not, decide_eq_false_iff_not]; omega
 have HT := hid ht
 go_in
 go_wp2_with fail
 all_goals
  go_quiet ((go_at_call 141; first | exact within_qt _ _ _ _ _ (by omega) | exact within_qf _ _ _ _ _ (by omega) | exact within_q _ _ _ _ _))
  go_wp2_with fail
 all_goals
  have a0 := A0.out
  refine bodyPost_ret (results_tmp2 rfl _ _ _) rfl ?_
  refine countPost ?_ ?_ (by first | exact below_alloc _ _ | exact below_box_drewN _ _ _)
  · rw [Bool.eq_iff_iff, okN_iff, plainB_iff]; first | (simp; done) | (simp; omega) | (simp [IntKind.wrap_i64]; omega)
  rw [okN_iff, plainB_iff]; first | (simp [nkI]; done) | (simp [nkI]; omega) | (simp [nkI, wrap64]; omega) | (simp [nkI, IntKind.wrap_i64]; omega)
theorem count_9 (a b : Int) (w : World) :
 Calls Tryz.prog 140 #[.agg #[.int .i64 9, .int .i64 a, .int .i64 b]] w (CountPost ⟨9, a, b⟩ w) := by
 by_cases a0 : a = 0
 · have a0b : (a == 0) = true := by simp [a0]
   have A0 := hid a0
   clear a0
   by_cases ht : 0 ≤ a ∧ a ≤ 63
   · obtain ⟨hl, hh⟩ := ht
     go_in
     go_wp2_with fail
     all_goals
      go_quiet ((go_at_call 141; first | exact within_qt _ _ _ _ _ (by omega) | exact within_qf _ _ _ _ _ (by omega) | exact within_q _ _ _ _ _))
      go_wp2_with fail
     all_goals
      have a0 := A0.out
      refine bodyPost_ret (results_tmp2 rfl _ _ _) rfl ?_
      refine countPost ?_ ?_ (by first | exact below_alloc _ _ | exact below_box_drewN _ _ _)
      · rw [Bool.eq_iff_iff, okN_iff, plainB_iff]; first | (simp; done) | (simp; omega) | (simp [IntKind.wrap_i64]; omega)
      rw [okN_iff, plainB_iff]; first | (simp [nkI]; done) | (simp [nkI]; omega) | (simp [nkI, wrap64]; omega) | (simp [nkI, IntKind.wrap_i64]; omega)
   have htb : (decide ((0 : Int) ≤ a) && decide (a ≤ 63)) = false := by rw [Bool.and_eq_false_iff, decide_eq_false_iff_not, decide_eq_false_iff_not]; omega
   have HT := hid ht
   go_in
   go_wp2_with fail
   all_goals
    go_quiet ((go_at_call 141; first | exact within_qt _ _ _ _ _ (by omega) | exact within_qf _ _ _ _ _ (by omega) | exact within_q _ _ _ _ _))
    go_wp2_with fail
   all_goals
    have a0 := A0.out
    refine bodyPost_ret (results_tmp2 rfl _ _ _) rfl ?_
    refine countPost ?_ ?_ (by first | exact below_alloc _ _ | exact below_box_drewN _ _ _)
    · rw [Bool.eq_iff_iff, okN_iff, plainB_iff]; first | (simp; done) | (simp; omega) | (simp [IntKind.wrap_i64]; omega)
    rw [okN_iff, plainB_iff]; first | (simp [nkI]; done) | (simp [nkI]; omega) | (simp [nkI, wrap64]; omega) | (simp [nkI, IntKind.wrap_i64]; omega)
 have a0b : (a == 0) = false := by simp [a0]
 have A0 := hid a0
 clear a0
 by_cases ht : 0 ≤ a ∧ a ≤ 63
 · obtain ⟨hl, hh⟩ := ht
   go_in
   go_wp2_with fail
   all_goals
    go_quiet ((go_at_call 141; first | exact within_qt _ _ _ _ _ (by omega) | exact within_qf _ _ _ _ _ (by omega) | exact within_q _ _ _ _ _))
    go_wp2_with fail
   all_goals
    have a0 := A0.out
    refine bodyPost_ret (results_tmp2 rfl _ _ _) rfl ?_
    refine countPost ?_ ?_ (by first | exact below_alloc _ _ | exact below_box_drewN _ _ _)
    · rw [Bool.eq_iff_iff, okN_iff, plainB_iff]; first | (simp; done) | (simp; omega) | (simp [IntKind.wrap_i64]; omega)
    rw [okN_iff, plainB_iff]; first | (simp [nkI]; done) | (simp [nkI]; omega) | (simp [nkI, wrap64]; omega) | (simp [nkI, IntKind.wrap_i64]; omega)
 have htb : (decide ((0 : Int) ≤ a) && decide (a ≤ 63)) = false := by rw [Bool.and_eq_false_iff, decide_eq_false_iff_not, decide_eq_false_iff_not]; omega
 have HT := hid ht
 go_in
 go_wp2_with fail
 all_goals
  go_quiet ((go_at_call 141; first | exact within_qt _ _ _ _ _ (by omega) | exact within_qf _ _ _ _ _ (by omega) | exact within_q _ _ _ _ _))
  go_wp2_with fail
 all_goals
  have a0 := A0.out
  refine bodyPost_ret (results_tmp2 rfl _ _ _) rfl ?_
  refine countPost ?_ ?_ (by first | exact below_alloc _ _ | exact below_box_drewN _ _ _)
  · rw [Bool.eq_iff_iff, okN_iff, plainB_iff]; first | (simp; done) | (simp; omega) | (simp [IntKind.wrap_i64]; omega)
  rw [okN_iff, plainB_iff]; first | (simp [nkI]; done) | (simp [nkI]; omega) | (simp [nkI, wrap64]; omega) | (simp [nkI, IntKind.wrap_i64]; omega)
theorem count_10 (a b : Int) (w : World) :
 Calls Tryz.prog 140 #[.agg #[.int .i64 10, .int .i64 a, .int .i64 b]] w (CountPost ⟨10, a, b⟩ w) := by
 by_cases a0 : a = 0
 · have a0b : (a == 0) = true := by simp [a0]
   have A0 := hid a0
   clear a0
   by_cases ht : 0 ≤ a ∧ a ≤ 63
   · obtain ⟨hl, hh⟩ := ht
     go_in
     go_wp2_with (go_at_call 141; refine (within_any _ _ _ _).mono ?_; rintro e w2 ⟨rfl, rfl⟩)
     all_goals
      have a0 := A0.out
      refine bodyPost_ret (results_tmp2 rfl _ _ _) rfl ?_
      refine countPost ?_ ?_ (by first | exact below_alloc _ _ | exact below_box_drewN _ _ _)
      · rw [Bool.eq_iff_iff, okN_iff, plainB_iff]; first | (simp; done) | (simp; omega) | (simp [IntKind.wrap_i64]; omega)
      rw [okN_iff, plainB_iff]; first | (simp [nkI]; done) | (simp [nkI]; omega) | (simp [nkI, wrap64]; omega) | (simp [nkI, IntKind.wrap_i64]; omega)
   have htb : (decide ((0 : Int) ≤ a) && decide (a ≤ 63)) = false := by rw [Bool.and_eq_false_iff, decide_eq_false_iff_not, decide_eq_false_iff_not]; omega
   have HT := hid ht
   clear ht
   go_in
   go_wp2_with (go_at_call 141; refine (within_any _ _ _ _).mono ?_; rintro e w2 ⟨rfl, rfl⟩)
   all_goals
    have a0 := A0.out
    have ht := HT.out
    refine bodyPost_ret (results_tmp2 rfl _ _ _) rfl ?_
    refine countPost ?_ ?_ (by first | exact below_alloc _ _ | exact below_box_drewN _ _ _)
    · rw [Bool.eq_iff_iff, okN_iff, plainB_iff]; first | (simp; done) | (simp; omega) | (simp [IntKind.wrap_i64]; omega)
    rw [okN_iff, plainB_iff]; first | (simp [nkI]; done) | (simp [nkI]; omega) | (simp [nkI, wrap64]; omega) | (simp [nkI, IntKind.wrap_i64]; omega)
 have a0b : (a == 0) = false := by simp [a0]
 have A0 := hid a0
 clear a0
 by_cases ht : 0 ≤ a ∧ a ≤ 63
 · obtain ⟨hl, hh⟩ := ht
   go_in
   go_wp2_with (go_at_call 141; refine (within_any _ _ _ _).mono ?_; rintro e w2 ⟨rfl, rfl⟩)
   all_goals
    have a0 := A0.out
    refine bodyPost_ret (results_tmp2 rfl _ _ _) rfl ?_
    refine countPost ?_ ?_ (by first | exact below_alloc _ _ | exact below_box_drewN _ _ _)
    · rw [Bool.eq_iff_iff, okN_iff, plainB_iff]; first | (simp; done) | (simp; omega) | (simp [IntKind.wrap_i64]; omega)
    rw [okN_iff, plainB_iff]; first | (simp [nkI]; done) | (simp [nkI]; omega) | (simp [nkI, wrap64]; omega) | (simp [nkI, IntKind.wrap_i64]; omega)
 have htb : (decide ((0 : Int) ≤ a) && decide (a ≤ 63)) = false := by rw [Bool.and_eq_false_iff, decide_eq_false_iff_not, decide_eq_false_iff_not]; omega
 have HT := hid ht
 clear ht
 go_in
 go_wp2_with (go_at_call 141; refine (within_any _ _ _ _).mono ?_; rintro e w2 ⟨rfl, rfl⟩)
 all_goals
  have a0 := A0.out
  have ht := HT.out
  refine bodyPost_ret (results_tmp2 rfl _ _ _) rfl ?_
  refine countPost ?_ ?_ (by first | exact below_alloc _ _ | exact below_box_drewN _ _ _)
  · rw [Bool.eq_iff_iff, okN_iff, plainB_iff]; first | (simp; done) | (simp; omega) | (simp [IntKind.wrap_i64]; omega)
  rw [okN_iff, plainB_iff]; first | (simp [nkI]; done) | (simp [nkI]; omega) | (simp [nkI, wrap64]; omega) | (simp [nkI, IntKind.wrap_i64]; omega)
theorem count_11 (a b : Int) (w : World) :
 Calls Tryz.prog 140 #[.agg #[.int .i64 11, .int .i64 a, .int .i64 b]] w (CountPost ⟨11, a, b⟩ w) := by
 by_cases a0 : a = 0
 · have a0b : (a == 0) = true := by simp [a0]
   have A0 := hid a0
   clear a0
   by_cases ht : 0 ≤ a ∧ a ≤ 63
   · obtain ⟨hl, hh⟩ := ht
     go_in
     go_wp2_with fail
     all_goals
      go_quiet ((go_at_call 141; first | exact within_qt _ _ _ _ _ (by omega) | exact within_qf _ _ _ _ _ (by omega) | exact within_q _ _ _ _ _))
      go_wp2_with fail
     all_goals
      have a0 := A0.out
      refine bodyPost_ret (results_tmp2 rfl _ _ _) rfl ?_
      refine countPost ?_ ?_ (by first | exact below_alloc _ _ | exact below_box_drewN _ _ _)
      · rw [Bool.eq_iff_iff, okN_iff, plainB_iff]; first | (simp; done) | (simp; omega) | (simp [IntKind.wrap_i64]; omega)
      rw [okN_iff, plainB_iff]; first | (simp [nkI]; done) | (simp [nkI]; omega) | (simp [nkI, wrap64]; omega) | (simp [nkI, IntKind.wrap_i64]; omega)
   have htb : (decide ((0 : Int) ≤ a) && decide (a ≤ 63)) = false := by rw [Bool.and_eq_false_iff, decide_eq_false_iff_not, decide_eq_false_iff_not]; omega
   have HT := hid ht
   go_in
   go_wp2_with fail
   all_goals
    go_quiet ((go_at_call 141; first | exact within_qt _ _ _ _ _ (by omega) | exact within_qf _ _ _ _ _ (by omega) | exact within_q _ _ _ _ _))
    go_wp2_with fail
   all_goals
    have a0 := A0.out
    refine bodyPost_ret (results_tmp2 rfl _ _ _) rfl ?_
    refine countPost ?_ ?_ (by first | exact below_alloc _ _ | exact below_box_drewN _ _ _)
    · rw [Bool.eq_iff_iff, okN_iff, plainB_iff]; first | (simp; done) | (simp; omega) | (simp [IntKind.wrap_i64]; omega)
    rw [okN_iff, plainB_iff]; first | (simp [nkI]; done) | (simp [nkI]; omega) | (simp [nkI, wrap64]; omega) | (simp [nkI, IntKind.wrap_i64]; omega)
 have a0b : (a == 0) = false := by simp [a0]
 have A0 := hid a0
 clear a0
 by_cases ht : 0 ≤ a ∧ a ≤ 63
 · obtain ⟨hl, hh⟩ := ht
   go_in
   go_wp2_with fail
   all_goals
    go_quiet ((go_at_call 141; first | exact within_qt _ _ _ _ _ (by omega) | exact within_qf _ _ _ _ _ (by omega) | exact within_q _ _ _ _ _))
    go_wp2_with fail
   all_goals
    have a0 := A0.out
    refine bodyPost_ret (results_tmp2 rfl _ _ _) rfl ?_
    refine countPost ?_ ?_ (by first | exact below_alloc _ _ | exact below_box_drewN _ _ _)
    · rw [Bool.eq_iff_iff, okN_iff, plainB_iff]; first | (simp; done) | (simp; omega) | (simp [IntKind.wrap_i64]; omega)
    rw [okN_iff, plainB_iff]; first | (simp [nkI]; done) | (simp [nkI]; omega) | (simp [nkI, wrap64]; omega) | (simp [nkI, IntKind.wrap_i64]; omega)
 have htb : (decide ((0 : Int) ≤ a) && decide (a ≤ 63)) = false := by rw [Bool.and_eq_false_iff, decide_eq_false_iff_not, decide_eq_false_iff_not]; omega
 have HT := hid ht
 go_in
 go_wp2_with fail
 all_goals
  go_quiet ((go_at_call 141; first | exact within_qt _ _ _ _ _ (by omega) | exact within_qf _ _ _ _ _ (by omega) | exact within_q _ _ _ _ _))
  go_wp2_with fail
 all_goals
  have a0 := A0.out
  refine bodyPost_ret (results_tmp2 rfl _ _ _) rfl ?_
  refine countPost ?_ ?_ (by first | exact below_alloc _ _ | exact below_box_drewN _ _ _)
  · rw [Bool.eq_iff_iff, okN_iff, plainB_iff]; first | (simp; done) | (simp; omega) | (simp [IntKind.wrap_i64]; omega)
  rw [okN_iff, plainB_iff]; first | (simp [nkI]; done) | (simp [nkI]; omega) | (simp [nkI, wrap64]; omega) | (simp [nkI, IntKind.wrap_i64]; omega)
theorem count_12 (a b : Int) (w : World) :
 Calls Tryz.prog 140 #[.agg #[.int .i64 12, .int .i64 a, .int .i64 b]] w (CountPost ⟨12, a, b⟩ w) := by
 by_cases a0 : a = 0
 · have a0b : (a == 0) = true := by simp [a0]
   have A0 := hid a0
   clear a0
   by_cases ht : 1 ≤ b ∧ b ≤ 4
   · obtain ⟨hl, hh⟩ := ht
     go_in
     go_wp2_with fail
     all_goals
      go_quiet ((go_at_call 141; first | exact within_qt _ _ _ _ _ (by omega) | exact within_qf _ _ _ _ _ (by omega) | exact within_q _ _ _ _ _))
      go_wp2_with fail
     all_goals
      have a0 := A0.out
      refine bodyPost_ret (results_tmp2 rfl _ _ _) rfl ?_
      refine countPost ?_ ?_ (by first | exact below_alloc _ _ | exact below_box_drewN _ _ _)
      · rw [Bool.eq_iff_iff, okN_iff, plainB_iff]; first | (simp; done) | (simp; omega) | (simp [IntKind.wrap_i64]; omega)
      rw [okN_iff, plainB_iff]; first | (simp [nkI]; done) | (simp [nkI]; omega) | (simp [nkI, wrap64]; omega) | (simp [nkI, IntKind.wrap_i64]; omega)
   have htb : (decide ((1 : Int) ≤ b) && decide (b ≤ 4)) = false := by rw [Bool.and_eq_false_iff, decide_eq_false_iff_not, decide_eq_false_iff_not]; omega
   have HT := hid ht
   go_in
   go_wp2_with fail
   all_goals
    go_quiet ((go_at_call 141; first | exact within_qt _ _ _ _ _ (by omega) | exact within_qf _ _ _ _ _ (by omega) | exact within_q _ _ _ _ _))
    go_wp2_with fail
   all_goals
    have a0 := A0.out
    refine bodyPost_ret (results_tmp2 rfl _ _ _) rfl ?_
    refine countPost ?_ ?_ (by first | exact below_alloc _ _ | exact below_box_drewN _ _ _)
    · rw [Bool.eq_iff_iff, okN_iff, plainB_iff]; first | (simp; done) | (simp; omega) | (simp [IntKind.wrap_i64]; omega)
    rw [okN_iff, plainB_iff]; first | (simp [nkI]; done) | (simp [nkI]; omega) | (simp [nkI, wrap64]; omega) | (simp [nkI, IntKind.wrap_i64]; omega)
 have a0b : (a == 0) = false := by simp [a0]
 have A0 := hid a0
 clear a0
 by_cases ht : 1 ≤ b ∧ b ≤ 4
 · obtain ⟨hl, hh⟩ := ht
   go_in
   go_wp2_with fail
   all_goals
    go_quiet ((go_at_call 141; first | exact within_qt _ _ _ _ _ (by omega) | exact within_qf _ _ _ _ _ (by omega) | exact within_q _ _ _ _ _))
    go_wp2_with fail
   all_goals
    have a0 := A0.out
    refine bodyPost_ret (results_tmp2 rfl _ _ _) rfl ?_
    refine countPost ?_ ?_ (by first | exact below_alloc _ _ | exact below_box_drewN _ _ _)
    · rw [Bool.eq_iff_iff, okN_iff, plainB_iff]; first | (simp; done) | (simp; omega) | (simp [IntKind.wrap_i64]; omega)
    rw [okN_iff, plainB_iff]; first | (simp [nkI]; done) | (simp [nkI]; omega) | (simp [nkI, wrap64]; omega) | (simp [nkI, IntKind.wrap_i64]; omega)
 have htb : (decide ((1 : Int) ≤ b) && decide (b ≤ 4)) = false := by rw [Bool.and_eq_false_iff, decide_eq_false_iff_not, decide_eq_false_iff_not]; omega
 have HT := hid ht
 go_in
 go_wp2_with fail
 all_goals
  go_quiet ((go_at_call 141; first | exact within_qt _ _ _ _ _ (by omega) | exact within_qf _ _ _ _ _ (by omega) | exact within_q _ _ _ _ _))
  go_wp2_with fail
 all_goals
  have a0 := A0.out
  refine bodyPost_ret (results_tmp2 rfl _ _ _) rfl ?_
  refine countPost ?_ ?_ (by first | exact below_alloc _ _ | exact below_box_drewN _ _ _)
  · rw [Bool.eq_iff_iff, okN_iff, plainB_iff]; first | (simp; done) | (simp; omega) | (simp [IntKind.wrap_i64]; omega)
  rw [okN_iff, plainB_iff]; first | (simp [nkI]; done) | (simp [nkI]; omega) | (simp [nkI, wrap64]; omega) | (simp [nkI, IntKind.wrap_i64]; omega)
theorem count_bad (op a b : Int) (w : World) (hop : ¬ (1 ≤ op ∧ op ≤ 12 ∧ op ≠ 3)) :
 Calls Tryz.prog 140 #[.agg #[.int .i64 op, .int .i64 a, .int .i64 b]] w (CountPost ⟨op, a, b⟩ w) := by
 have b1 : (op == 1) = false := beq_eq_false_iff_ne.2 (by omega)
 have b2 : (op == 2) = false := beq_eq_false_iff_ne.2 (by omega)
 have b4 : (op == 4) = false := beq_eq_false_iff_ne.2 (by omega)
 have b5 : (op == 5) = false := beq_eq_false_iff_ne.2 (by omega)
 have b6 : (op == 6) = false := beq_eq_false_iff_ne.2 (by omega)
 have b7 : (op == 7) = false := beq_eq_false_iff_ne.2 (by omega)
 have b8 : (op == 8) = false := beq_eq_false_iff_ne.2 (by omega)
 have b9 : (op == 9) = false := beq_eq_false_iff_ne.2 (by omega)
 have b10 : (op == 10) = false := beq_eq_false_iff_ne.2 (by omega)
 have b11 : (op == 11) = false := beq_eq_false_iff_ne.2 (by omega)
 have b12 : (op == 12) = false := beq_eq_false_iff_ne.2 (by omega)
 have HOP := hid hop
 clear hop
 by_cases a0 : a = 0
 · have a0b : (a == 0) = true := by simp [a0]
   clear a0
   go_in
   go_wp2_with fail
   all_goals
    refine bodyPost_ret (results_tmp2 rfl _ _ _) rfl ?_
    refine countPost ?_ ?_ (below_alloc _ _)
    · have hop := HOP.out
      symm
      rw [okN_false_iff, plainB_iff]; dsimp only; omega
    have hop := HOP.out
    rw [okN_iff, plainB_iff]; dsimp only; omega
 have a0b : (a == 0) = false := by simp [a0]
 clear a0
 go_in
 go_wp2_with fail
 all_goals
  refine bodyPost_ret (results_tmp2 rfl _ _ _) rfl ?_
  refine countPost ?_ ?_ (below_alloc _ _)
  · have hop := HOP.out
    symm
    rw [okN_false_iff, plainB_iff]; dsimp only; omega
  have hop := HOP.out
  rw [okN_iff, plainB_iff]; dsimp only; omega
theorem count_any (op a b : Int) (w : World) :
 Calls Tryz.prog 140 #[.agg #[.int .i64 op, .int .i64 a, .int .i64 b]] w (CountPost ⟨op, a, b⟩ w) := by
 by_cases hop : 1 ≤ op ∧ op ≤ 12 ∧ op ≠ 3
 · have : op = 1 ∨ op = 2 ∨ op = 4 ∨ op = 5 ∨ op = 6 ∨ op = 7 ∨ op = 8 ∨ op = 9 ∨ op = 10 ∨ op = 11 ∨ op = 12 := by omega
   rcases this with rfl | rfl | rfl | rfl | rfl | rfl | rfl | rfl | rfl | rfl | rfl
   · exact count_1 a b w
   · exact count_2 a b w
   · exact count_4 a b w
   · exact count_5 a b w
   · exact count_6 a b w
   · exact count_7 a b w
   · exact count_8 a b w
   · exact count_9 a b w
   · exact count_10 a b w
   · exact count_11 a b w
   exact count_12 a b w
 exact count_bad op a b w hop
theorem count_yes (op a b : Int) (w : World) (h : okN ⟨op, a, b⟩ = true) :
 Calls Tryz.prog 140 #[.agg #[.int .i64 op, .int .i64 a, .int .i64 b]] w fun e w' => e = .returned (.tuple #[.int .i64 (nkI op b), .bool true]) ∧ Below w.heap.size w w' :=
 (count_any op a b w).mono fun _ _ ⟨⟨k, h1, h2⟩, h3⟩ => ⟨by rw [h1, h, h2 h], h3⟩
theorem count_no (op a b : Int) (w : World) (h : okN ⟨op, a, b⟩ = false) :
 Calls Tryz.prog 140 #[.agg #[.int .i64 op, .int .i64 a, .int .i64 b]] w fun e w' => (∃ k : Int, e = .returned (.tuple #[.int .i64 k, .bool false])) ∧ Below w.heap.size w w' :=
 (count_any op a b w).mono fun _ _ ⟨⟨k, h1, _⟩, h3⟩ => ⟨⟨k, by rw [h1, h]⟩, h3⟩
end
section
open Go.RowKit
end
section
open Go.RowKit
end
end Go.Proofs.YtplecfbdchmogaaGreat
