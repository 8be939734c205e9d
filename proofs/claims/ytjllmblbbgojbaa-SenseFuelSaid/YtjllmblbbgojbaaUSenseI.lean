/- sense: the evaluator whole; Value; Eval. -/
import Derived.Test.YtjllmblbbgojbaaUSenseH
import Derived.Test.YtjllmblbbgojbaaUWalks
import Derived.Test.YtjllmblbbgojbaaURights
namespace Go.Proofs.Ytjllmblbbgojbaa
set_option linter.unusedSimpArgs false
open Go.RowKit
theorem ev_all {w0 : World} {g : Nat} {v : BkVal} {b : Bk} (hr : rightE b = 0) (hb : BookV w0 v b) : ∀ d, EvH w0 g v b d ∧ GvH w0 g v b d
 | 0 => ⟨fun _ _ _ _ _ _ h => absurd h (by omega), fun _ _ _ _ _ _ _ _ _ _ h => absurd h (by omega)⟩
 | d + 1 => by
  obtain ⟨h1, h2⟩ := ev_all hr hb d
  have e1 := seval_step hr hb h1 h2
  exact ⟨e1, sgive_step hr e1 h2⟩
theorem sassert_fail (er : Int) (w : World) : (Instr.typeAssert (.iface 76 (.agg #[.int .i64 er])) 20 76 true).run Try.prog w = .ok (.tuple #[.agg #[.int .i64 er], .bool true]) w := by kernel_rfl
theorem sassert_nil (w : World) : (Instr.typeAssert .nilIface 20 76 true).run Try.prog w = .ok (.tuple #[.agg #[.int .i64 0], .bool false]) w := by kernel_rfl
def CatchQ (p1 p2 p3 : Nat) (er : Int) (w w' : World) : Prop := Moved (fun k => k = p1 ∨ k = p2 ∨ k = p3) none w w' ∧ Blk w' p1 28 #[.slice none 0 0] ∧ Blk w' p2 3 #[.int .i64 0] ∧ Blk w' p3 35 #[.int .i64 er]
theorem catchQ {p1 p2 p3 : Nat} {x y z : Value} {er : Int} {w : World} (h12 : p1 ≠ p2) (h13 : p1 ≠ p3) (h23 : p2 ≠ p3) (h1 : Blk w p1 28 #[x]) (h2 : Blk w p2 3 #[y]) (h3 : Blk w p3 35 #[z]) (o : Obj) :
 CatchQ p1 p2 p3 er w ((((w.setCell ⟨p1, 0, none⟩ (.slice none 0 0)).setCell ⟨p2, 0, none⟩ (.int .i64 0)).setCell ⟨p3, 0, none⟩ (.int .i64 er)).alloc o).drew := by
 refine ⟨(((((Moved.refl _ _ w).setCell (p := ⟨p1, 0, none⟩) (.inl rfl) _).setCell (p := ⟨p2, 0, none⟩) (.inr (.inl rfl)) _).setCell (p := ⟨p3, 0, none⟩) (.inr (.inr rfl)) _).alloc _).drew, ?_, ?_, ?_⟩
 · have := (((h1.set_ 0 (.slice none 0 0)).far (p := ⟨p2, 0, none⟩) h12 (.int .i64 0)).far (p := ⟨p3, 0, none⟩) h13 (.int .i64 er)).alloc o
   exact (by simpa using this : Blk ((((w.setCell ⟨p1, 0, none⟩ (.slice none 0 0)).setCell ⟨p2, 0, none⟩ (.int .i64 0)).setCell ⟨p3, 0, none⟩ (.int .i64 er)).alloc o) p1 28 #[.slice none 0 0])
 · have := (((h2.far (p := ⟨p1, 0, none⟩) (Ne.symm h12) (.slice none 0 0)).set_ 0 (.int .i64 0)).far (p := ⟨p3, 0, none⟩) h23 (.int .i64 er)).alloc o
   exact (by simpa using this : Blk ((((w.setCell ⟨p1, 0, none⟩ (.slice none 0 0)).setCell ⟨p2, 0, none⟩ (.int .i64 0)).setCell ⟨p3, 0, none⟩ (.int .i64 er)).alloc o) p2 3 #[.int .i64 0])
 have := (((h3.far (p := ⟨p1, 0, none⟩) (Ne.symm h13) (.slice none 0 0)).far (p := ⟨p2, 0, none⟩) (Ne.symm h23) (.int .i64 0)).set_ 0 (.int .i64 er)).alloc o
 exact (by simpa using this : Blk ((((w.setCell ⟨p1, 0, none⟩ (.slice none 0 0)).setCell ⟨p2, 0, none⟩ (.int .i64 0)).setCell ⟨p3, 0, none⟩ (.int .i64 er)).alloc o) p3 35 #[.int .i64 er])
theorem scatch_fail (p1 p2 p3 : Nat) (h12 : p1 ≠ p2) (h13 : p1 ≠ p3) (h23 : p2 ≠ p3) (x y z : Value) (er : Int) (older : List PanicEntry) (w : World) (h1 : Blk w p1 28 #[x]) (h2 : Blk w p2 3 #[y]) (h3 : Blk w p3 35 #[z]) :
 CallsD Try.prog 37 #[.pointer (some ⟨p1, 0, none⟩), .pointer (some ⟨p2, 0, none⟩), .pointer (some ⟨p3, 0, none⟩)] (.panicking ({ v := .iface 76 (.agg #[.int .i64 er]), recovered := false } :: older)) w fun e u' w' =>
  e = .returned (.tuple #[]) ∧ u' = .panicking ({ v := .iface 76 (.agg #[.int .i64 er]), recovered := true } :: older) ∧ CatchQ p1 p2 p3 er w w' := by
 have c1 := h1.cell
 have c2 := h2.cell
 have c3 := h3.cell
 have f1 := h1.frozen
 have f2 := h2.frozen
 have f3 := h3.frozen
 refine callsD_of_wpS Try.func37 rfl fun c₀ cs hu => ?_
 apply wpS_seq
 apply wpS_region
 simp [wpOpsS, go_sem, recoverD, hu, Try.ntmps37, Exit.thenS, sassert_fail]
 apply wpS_seq
 apply wpS_region
 simp [wpOpsS, go_sem, Exit.thenS]
 refine wpS_cond (t := true) (by simp [Act.eval, Array.replicate]) ?_
 simp only [if_true]
 refine wpS_of_wp ?_
 simp only [Array.replicate]
 have hl1 := h1.lt
 have hl2 := h2.lt
 have hl3 := h3.lt
 have h21 : p2 ≠ p1 := Ne.symm h12
 have h31 : p3 ≠ p1 := Ne.symm h13
 have h32 : p3 ≠ p2 := Ne.symm h23
 have hn1 : w.heap.size ≠ p1 := by omega
 have hn2 : w.heap.size ≠ p2 := by omega
 have hn3 : w.heap.size ≠ p3 := by omega
 go_region
 all_goals
  simp [bodyPostS, results, Try.results37, go_sem]
  exact catchQ h12 h13 h23 h1 h2 h3 _
theorem scatch_idle (p1 p2 p3 : Nat) (w : World) :
 CallsD Try.prog 37 #[.pointer (some ⟨p1, 0, none⟩), .pointer (some ⟨p2, 0, none⟩), .pointer (some ⟨p3, 0, none⟩)] .returning w fun e u' w' =>
  e = .returned (.tuple #[]) ∧ u' = .returning ∧ w' = w.alloc (.cells #[.int .i64 0] 76) := by
 refine callsD_of_wpS Try.func37 rfl fun c₀ cs hu => ?_
 apply wpS_seq
 apply wpS_region
 simp [wpOpsS, go_sem, recoverD, hu, Try.ntmps37, Exit.thenS, sassert_nil]
 apply wpS_seq
 apply wpS_region
 simp [wpOpsS, go_sem, Exit.thenS]
 refine wpS_cond (t := false) (by simp [Act.eval, Array.replicate]) ?_
 simp only [Bool.false_eq_true, if_false]
 refine wpS_of_wp (wp_skip ?_)
 cases c₀
 simp_all [bodyPostS, results, Try.results37]
end Go.Proofs.Ytjllmblbbgojbaa
