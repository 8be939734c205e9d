/- awake: what the document tells. -/
import Derived.Test.YtnmeglbamfjcgaaLaw0
import Derived.Deep.RegionHeld3
import Derived.Deep.DrawnRows
namespace Go.Proofs.Ytnmeglbamfjcgaa
open Go.RowKit
attribute [local go_sem ↓] Go.wp_at_zero Go.wp_at_succ

def awT : List Nd := [⟨5, 0, 0⟩, ⟨1, 0, 0⟩, ⟨6, 0, 0⟩, ⟨1, 0, 0⟩, ⟨1, 1, 0⟩]
def awU : List Nd := [⟨1, 5, 0⟩]
def awR : List Nd := [⟨5, 0, 0⟩, ⟨1, 5, 0⟩, ⟨6, 0, 0⟩, ⟨1, 0, 0⟩, ⟨1, 6, 0⟩]
theorem aw_subst : substR awT awU 0 = (awR, 0) := by decide
theorem aw_D : substD awT awU (min 0 1048577) := by
  show (puV ⟨⟨1, 5, 0⟩, [], .nil⟩ 0).D1 0 () ⟨5, 0, 0⟩ (.cons [] ⟨1, 0, 0⟩ [] .nil (.cons [] ⟨6, 0, 0⟩ [] (.cons [] ⟨1, 0, 0⟩ [] .nil (.cons [] ⟨1, 1, 0⟩ [] .nil .nil)) .nil))
  exact ⟨fun _ => by decide, ⟨fun _ => by decide, trivial, ⟨fun _ => by decide, ⟨fun _ => by decide, trivial, ⟨fun _ => by decide, trivial, trivial⟩⟩, trivial⟩⟩⟩

/-- A row laid as a literal. -/
def litC (l : List Nd) : Array Value := (flat l).toArray
theorem lit_term {w : World} {g : Nat} {l : List Nd} {n c : Nat} (h : Blk w g 53 (litC l)) (hl : l.length = n) (hc : n ≤ c) (hf : n ≤ 5864062014805) : TermV w (some ⟨g, 0, none⟩) n c l := by
  refine ⟨hl, hc, hf, (fun e => by cases e), fun hn => ⟨g, 0, rfl, h.lt, fun k hk => ?_⟩⟩
  obtain ⟨h1, h2, h3⟩ := flat_at l k hk
  have hcell := h.cell
  rw [Nat.zero_add, hcell, hcell, hcell]
  simp only [litC, List.getElem?_toArray]
  exact ⟨h1, h2, h3⟩

theorem OwnN.termV {w : World} {base : Nat} {A : Option Addr} {n c : Nat} {l : List Nd} (h : OwnN w base (.slice A n c) l) (hl : l.length ≤ 5864062014805) : TermV w A n c l := by
  obtain ⟨A', n', c', e, ht⟩ := OwnN.termS h hl
  injection e with e1 e2 e3
  subst e1 e2 e3
  exact ht.keep fun b hb => ⟨(ownsRow_block h hb).2.1, fun _ => rfl⟩

theorem subst_aw {w : World} {g g' c c' : Nat} (h : Blk w g 53 (litC awT)) (h' : Blk w g' 53 (litC awU)) (hc : 5 ≤ c) (hc' : 1 ≤ c') :
    Calls Try.prog 15 #[.slice (some ⟨g, 0, none⟩) 5 c, .slice (some ⟨g', 0, none⟩) 1 c', .int .i64 0] w fun e w' => Below w.heap.size w w' ∧ ∃ A n c, e = .returned (.tuple #[.slice A n c, .int .i64 0]) ∧ TermV w' A n c awR := by
  refine (subst_any (t := awT) (u := awU) (lit_term h rfl hc (by decide)) (lit_term h' rfl hc' (by decide)) 0 (fun _ _ _ => aw_D)).mono ?_
  rintro e w' ⟨hb, A, n, c, he, hown⟩
  rw [aw_subst] at he hown
  exact ⟨hb, A, n, c, he, OwnN.termV hown (by decide)⟩

theorem Blk.ofDrew {w : World} {g : Nat} {t : TypeId} {cs : Array Value} (h : Blk w g t cs) : Blk w.drew g t cs := h
theorem same_aw {w : World} {g c c' n : Nat} {A : Option Addr} (h : Blk w g 53 (litC awR)) (hc : 5 ≤ c) (ht : TermV w A n c' awR) :
    Calls Try.prog 17 #[.slice A n c', .slice (some ⟨g, 0, none⟩) 5 c] w fun e w' => e = .returned (.bool true) ∧ ∃ m, w.drewN m = w' := by
  refine (same_any w ht (lit_term (l := awR) h rfl hc (by decide))).mono ?_
  rintro e w' ⟨he, m, hm⟩
  exact ⟨by rw [he]; simp, m, hm.symm⟩
theorem shape_aw {w : World} {g c : Nat} (h : Blk w g 53 (litC [⟨3, 0, 0⟩])) (hc : 1 ≤ c) :
    Calls Try.prog 19 #[.slice (some ⟨g, 0, none⟩) 1 c] w fun e w' => e = .returned (.int .i64 8) ∧ Below w.heap.size w w' := by
  refine (shape_any (lit_term (l := [⟨3, 0, 0⟩]) h rfl hc (by decide))).mono ?_
  rintro e w' ⟨he, hb⟩
  exact ⟨by rw [he, show shapeI [⟨3, 0, 0⟩] = 8 by decide], hb⟩

set_option linter.unusedSimpArgs false in
set_option maxRecDepth 100000 in
set_option maxHeartbeats 4000000 in
theorem awake_any {w : World} : Calls Try.prog 13 #[] w (BoolPost true w) := by
  go_enter Try.func13, Try.ntmps13
  go_wp2_with fail
  have hbW := below_alloc2 w (.cells #[.int .i64 5, .int .i64 0, .int .i64 0] 53) (.cells #[.int .i64 6, .int .i64 0, .int .i64 0] 53)
  have hlam : Blk ((w.alloc (.cells #[.int .i64 5, .int .i64 0, .int .i64 0] 53)).alloc (.cells #[.int .i64 6, .int .i64 0, .int .i64 0] 53)) w.heap.size 53 #[.int .i64 5, .int .i64 0, .int .i64 0] := (Blk.new _ _ _).alloc _
  have happ : Blk ((w.alloc (.cells #[.int .i64 5, .int .i64 0, .int .i64 0] 53)).alloc (.cells #[.int .i64 6, .int .i64 0, .int .i64 0] 53)) (w.heap.size + 1) 53 #[.int .i64 6, .int .i64 0, .int .i64 0] := Blk.new' (by simp)
  generalize ((w.alloc (.cells #[.int .i64 5, .int .i64 0, .int .i64 0] 53)).alloc (.cells #[.int .i64 6, .int .i64 0, .int .i64 0] 53)) = W at hbW hlam happ ⊢
  have hl1 := hlam.lt
  have hl2 := happ.lt
  have c0 := hlam.cell
  have c1 := happ.cell
  have HBW := Lib.hid hbW
  have HLAM := Lib.hid hlam
  have HAPP := Lib.hid happ
  have hk : ∀ w' : World, Below W.heap.size W w' → w'.cell? ⟨w.heap.size, 0, none⟩ = some (.int .i64 5) ∧ w'.cell? ⟨w.heap.size, 1, none⟩ = some (.int .i64 0) ∧ w'.cell? ⟨w.heap.size, 2, none⟩ = some (.int .i64 0) ∧ w'.cell? ⟨w.heap.size + 1, 0, none⟩ = some (.int .i64 6) ∧ w'.cell? ⟨w.heap.size + 1, 1, none⟩ = some (.int .i64 0) ∧ w'.cell? ⟨w.heap.size + 1, 2, none⟩ = some (.int .i64 0) := fun w' hb => by
    have h1 := (HLAM.out.below hb HLAM.out.lt).cell
    have h2 := (HAPP.out.below hb HAPP.out.lt).cell
    exact ⟨h1 0, h1 1, h1 2, h2 0, h2 1, h2 2⟩
  have HK := Lib.hid hk
  clear hbW hlam happ hk
  go_region_held3 (fun w' => w'.cell? ⟨w.heap.size, 0, none⟩ = some (.int .i64 5) ∧ w'.cell? ⟨w.heap.size, 1, none⟩ = some (.int .i64 0) ∧ w'.cell? ⟨w.heap.size, 2, none⟩ = some (.int .i64 0) ∧ w'.cell? ⟨w.heap.size + 1, 0, none⟩ = some (.int .i64 6) ∧ w'.cell? ⟨w.heap.size + 1, 1, none⟩ = some (.int .i64 0) ∧ w'.cell? ⟨w.heap.size + 1, 2, none⟩ = some (.int .i64 0))
    (first | exact HK.out _ hbS | (refine HK.out _ ?_; (repeat (first | exact Below.refl _ _ | refine Below.drew ?_ | refine Below.alloc ?_ (by simp <;> omega) _)); done))
    (first | (go_at_call 41; refine (v_any _ _).mono ?_; rintro e w2 ⟨rfl, rfl⟩) | (go_at_call 15; go_loud (refine (subst_aw ?_ ?_ (by omega) (by omega)).mono ?_); go_loud (first | exact Blk.new' (by simp) | (refine Blk.alloc ?_ _; first | exact Blk.new' (by simp) | (refine Blk.alloc ?_ _; first | exact Blk.new' (by simp) | (refine Blk.alloc ?_ _; exact Blk.new' (by simp))))); go_loud (first | exact Blk.new' (by simp) | (refine Blk.alloc ?_ _; first | exact Blk.new' (by simp) | (refine Blk.alloc ?_ _; first | exact Blk.new' (by simp) | (refine Blk.alloc ?_ _; exact Blk.new' (by simp))))); go_loud (rintro e w3 ⟨hb, A, n, c, rfl, ht⟩; have hbS : Below W.heap.size W w3 := by (refine Below.trans ?_ (hb.mono (by simp <;> omega)); (repeat (first | exact Below.refl _ _ | refine Below.drew ?_ | refine Below.alloc ?_ (by simp <;> omega) _))))))
  all_goals
    have hsz := hbS.size
    have hcs := HK.out _ hbS
    obtain ⟨d0, d1, d2, d3, d4, d5⟩ := hcs
    go_wp2_with fail
    go_region_held3 (fun w' => w'.cell? ⟨w.heap.size, 0, none⟩ = some (.int .i64 5) ∧ w'.cell? ⟨w.heap.size, 1, none⟩ = some (.int .i64 0) ∧ w'.cell? ⟨w.heap.size, 2, none⟩ = some (.int .i64 0) ∧ w'.cell? ⟨w.heap.size + 1, 0, none⟩ = some (.int .i64 6) ∧ w'.cell? ⟨w.heap.size + 1, 1, none⟩ = some (.int .i64 0) ∧ w'.cell? ⟨w.heap.size + 1, 2, none⟩ = some (.int .i64 0))
      ((refine HK.out _ ?_; (repeat (first | exact hbS | exact hbZ | refine Below.drew ?_ | refine below_drewN ?_ _ | refine Below.alloc ?_ (by have := hbS.size; simp <;> omega) _)); done))
      (first | (go_at_call 41; refine (v_any _ _).mono ?_; rintro e w2 ⟨rfl, rfl⟩) | (go_at_call 17; go_loud (refine (same_aw ?_ (by omega) (ht.below ?_)).mono ?_); go_loud (first | exact Blk.new' (by simp) | (refine Blk.ofDrew ?_; exact Blk.new' (by simp))); go_loud (repeat (first | exact hbS | exact Below.refl _ _ | refine Below.drew ?_ | refine below_drewN ?_ _ | refine Below.alloc ?_ (by have := hbS.size; simp <;> omega) _)); go_loud (rintro e w4 ⟨rfl, m, rfl⟩)) | (go_at_call 19; go_loud (refine (shape_aw ?_ (by omega)).mono ?_); go_loud (first | exact Blk.new' (by simp) | (refine Blk.ofDrew ?_; exact Blk.new' (by simp))); go_loud (rintro e w5 ⟨rfl, hb5⟩; have hbZ : Below W.heap.size W w5 := by (refine Below.trans ?_ (hb5.mono (by have := hbS.size; simp <;> omega)); (repeat (first | exact hbS | exact Below.refl _ _ | refine Below.drew ?_ | refine below_drewN ?_ _ | refine Below.alloc ?_ (by have := hbS.size; simp <;> omega) _))))))
    all_goals
      go_wp2_with fail
      go_ret
      exact ⟨rfl, HBW.out.trans (hbZ.mono HBW.out.size)⟩

end Go.Proofs.Ytnmeglbamfjcgaa
