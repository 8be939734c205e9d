/- core: Step, run, Whnf. -/
import Derived.Test.YtjoddliplahgkaaDWhZ
namespace Go.Proofs.Ytjoddliplahgkaa
open Go.Lib (hid)
set_option linter.unusedSimpArgs false
open Go.RowKit
theorem kstepassert_fail (er : Int) (w : World) : (Instr.typeAssert (.iface 76 (.agg #[.int .i64 er])) 20 76 true).run Try.prog w = .ok (.tuple #[.agg #[.int .i64 er], .bool true]) w := by kernel_rfl
theorem kstepassert_nil (w : World) : (Instr.typeAssert .nilIface 20 76 true).run Try.prog w = .ok (.tuple #[.agg #[.int .i64 0], .bool false]) w := by kernel_rfl
def kstepCatchQ (p1 p2 p3 : Nat) (er : Int) (w w' : World) : Prop := Moved (fun k => k = p1 ∨ k = p2 ∨ k = p3) none w w' ∧ Blk w' p1 29 #[.slice none 0 0] ∧ Blk w' p2 4 #[.bool false] ∧ Blk w' p3 34 #[.int .i64 er]
theorem kstepcatchQ {p1 p2 p3 : Nat} {x y z : Value} {er : Int} {w : World} (h12 : p1 ≠ p2) (h13 : p1 ≠ p3) (h23 : p2 ≠ p3) (h1 : Blk w p1 29 #[x]) (h2 : Blk w p2 4 #[y]) (h3 : Blk w p3 34 #[z]) (o : Obj) :
 kstepCatchQ p1 p2 p3 er w ((((w.setCell ⟨p1, 0, none⟩ (.slice none 0 0)).setCell ⟨p2, 0, none⟩ (.bool false)).setCell ⟨p3, 0, none⟩ (.int .i64 er)).alloc o).drew := by
 refine ⟨(((((Moved.refl _ _ w).setCell (p := ⟨p1, 0, none⟩) (.inl rfl) _).setCell (p := ⟨p2, 0, none⟩) (.inr (.inl rfl)) _).setCell (p := ⟨p3, 0, none⟩) (.inr (.inr rfl)) _).alloc _).drew, ?_, ?_, ?_⟩
 · have := (((h1.set_ 0 (.slice none 0 0)).far (p := ⟨p2, 0, none⟩) h12 (.bool false)).far (p := ⟨p3, 0, none⟩) h13 (.int .i64 er)).alloc o
   exact (by simpa using this : Blk ((((w.setCell ⟨p1, 0, none⟩ (.slice none 0 0)).setCell ⟨p2, 0, none⟩ (.bool false)).setCell ⟨p3, 0, none⟩ (.int .i64 er)).alloc o) p1 29 #[.slice none 0 0])
 · have := (((h2.far (p := ⟨p1, 0, none⟩) (Ne.symm h12) (.slice none 0 0)).set_ 0 (.bool false)).far (p := ⟨p3, 0, none⟩) h23 (.int .i64 er)).alloc o
   exact (by simpa using this : Blk ((((w.setCell ⟨p1, 0, none⟩ (.slice none 0 0)).setCell ⟨p2, 0, none⟩ (.bool false)).setCell ⟨p3, 0, none⟩ (.int .i64 er)).alloc o) p2 4 #[.bool false])
 have := (((h3.far (p := ⟨p1, 0, none⟩) (Ne.symm h13) (.slice none 0 0)).far (p := ⟨p2, 0, none⟩) (Ne.symm h23) (.bool false)).set_ 0 (.int .i64 er)).alloc o
 exact (by simpa using this : Blk ((((w.setCell ⟨p1, 0, none⟩ (.slice none 0 0)).setCell ⟨p2, 0, none⟩ (.bool false)).setCell ⟨p3, 0, none⟩ (.int .i64 er)).alloc o) p3 34 #[.int .i64 er])
theorem kstepcatch_fail (p1 p2 p3 : Nat) (h12 : p1 ≠ p2) (h13 : p1 ≠ p3) (h23 : p2 ≠ p3) (x y z : Value) (er : Int) (older : List PanicEntry) (w : World) (h1 : Blk w p1 29 #[x]) (h2 : Blk w p2 4 #[y]) (h3 : Blk w p3 34 #[z]) :
 CallsD Try.prog 34 #[.pointer (some ⟨p1, 0, none⟩), .pointer (some ⟨p2, 0, none⟩), .pointer (some ⟨p3, 0, none⟩)] (.panicking ({ v := .iface 76 (.agg #[.int .i64 er]), recovered := false } :: older)) w fun e u' w' =>
  e = .returned (.tuple #[]) ∧ u' = .panicking ({ v := .iface 76 (.agg #[.int .i64 er]), recovered := true } :: older) ∧ kstepCatchQ p1 p2 p3 er w w' := by
 have c1 := h1.cell
 have c2 := h2.cell
 have c3 := h3.cell
 have f1 := h1.frozen
 have f2 := h2.frozen
 have f3 := h3.frozen
 refine callsD_of_wpS Try.func34 rfl fun c₀ cs hu => ?_
 apply wpS_seq
 apply wpS_region
 simp [wpOpsS, go_sem, recoverD, hu, Try.ntmps34, Exit.thenS, kstepassert_fail]
 apply wpS_seq
 apply wpS_region
 simp [wpOpsS, go_sem, Exit.thenS]
 refine wpS_cond (t := true) (by simp [Act.eval, Array.replicate]) ?_
 simp only [if_true]
 refine wpS_of_wp ?_
 simp only [Array.replicate]
 have hl1 := h1.lt
 have hl2 := h2.lt
 have hl3 := h3.lt
 have h21 : p2 ≠ p1 := Ne.symm h12
 have h31 : p3 ≠ p1 := Ne.symm h13
 have h32 : p3 ≠ p2 := Ne.symm h23
 have hn1 : w.heap.size ≠ p1 := by omega
 have hn2 : w.heap.size ≠ p2 := by omega
 have hn3 : w.heap.size ≠ p3 := by omega
 go_region
 all_goals
  simp [bodyPostS, results, Try.results34, go_sem]
  exact kstepcatchQ h12 h13 h23 h1 h2 h3 _
theorem kstepcatch_idle (p1 p2 p3 : Nat) (w : World) :
 CallsD Try.prog 34 #[.pointer (some ⟨p1, 0, none⟩), .pointer (some ⟨p2, 0, none⟩), .pointer (some ⟨p3, 0, none⟩)] .returning w fun e u' w' =>
  e = .returned (.tuple #[]) ∧ u' = .returning ∧ w' = w.alloc (.cells #[.int .i64 0] 76) := by
 refine callsD_of_wpS Try.func34 rfl fun c₀ cs hu => ?_
 apply wpS_seq
 apply wpS_region
 simp [wpOpsS, go_sem, recoverD, hu, Try.ntmps34, Exit.thenS, kstepassert_nil]
 apply wpS_seq
 apply wpS_region
 simp [wpOpsS, go_sem, Exit.thenS]
 refine wpS_cond (t := false) (by simp [Act.eval, Array.replicate]) ?_
 simp only [Bool.false_eq_true, if_false]
 refine wpS_of_wp (wp_skip ?_)
 cases c₀
 simp_all [bodyPostS, results, Try.results34]
theorem krunassert_fail (er : Int) (w : World) : (Instr.typeAssert (.iface 76 (.agg #[.int .i64 er])) 20 76 true).run Try.prog w = .ok (.tuple #[.agg #[.int .i64 er], .bool true]) w := by kernel_rfl
theorem krunassert_nil (w : World) : (Instr.typeAssert .nilIface 20 76 true).run Try.prog w = .ok (.tuple #[.agg #[.int .i64 0], .bool false]) w := by kernel_rfl
def krunCatchQ (p1 p2 p3 : Nat) (er : Int) (w w' : World) : Prop := Moved (fun k => k = p1 ∨ k = p2 ∨ k = p3) none w w' ∧ Blk w' p1 29 #[.slice none 0 0] ∧ Blk w' p2 3 #[.int .i64 0] ∧ Blk w' p3 34 #[.int .i64 er]
theorem kruncatchQ {p1 p2 p3 : Nat} {x y z : Value} {er : Int} {w : World} (h12 : p1 ≠ p2) (h13 : p1 ≠ p3) (h23 : p2 ≠ p3) (h1 : Blk w p1 29 #[x]) (h2 : Blk w p2 3 #[y]) (h3 : Blk w p3 34 #[z]) (o : Obj) :
 krunCatchQ p1 p2 p3 er w ((((w.setCell ⟨p1, 0, none⟩ (.slice none 0 0)).setCell ⟨p2, 0, none⟩ (.int .i64 0)).setCell ⟨p3, 0, none⟩ (.int .i64 er)).alloc o).drew := by
 refine ⟨(((((Moved.refl _ _ w).setCell (p := ⟨p1, 0, none⟩) (.inl rfl) _).setCell (p := ⟨p2, 0, none⟩) (.inr (.inl rfl)) _).setCell (p := ⟨p3, 0, none⟩) (.inr (.inr rfl)) _).alloc _).drew, ?_, ?_, ?_⟩
 · have := (((h1.set_ 0 (.slice none 0 0)).far (p := ⟨p2, 0, none⟩) h12 (.int .i64 0)).far (p := ⟨p3, 0, none⟩) h13 (.int .i64 er)).alloc o
   exact (by simpa using this : Blk ((((w.setCell ⟨p1, 0, none⟩ (.slice none 0 0)).setCell ⟨p2, 0, none⟩ (.int .i64 0)).setCell ⟨p3, 0, none⟩ (.int .i64 er)).alloc o) p1 29 #[.slice none 0 0])
 · have := (((h2.far (p := ⟨p1, 0, none⟩) (Ne.symm h12) (.slice none 0 0)).set_ 0 (.int .i64 0)).far (p := ⟨p3, 0, none⟩) h23 (.int .i64 er)).alloc o
   exact (by simpa using this : Blk ((((w.setCell ⟨p1, 0, none⟩ (.slice none 0 0)).setCell ⟨p2, 0, none⟩ (.int .i64 0)).setCell ⟨p3, 0, none⟩ (.int .i64 er)).alloc o) p2 3 #[.int .i64 0])
 have := (((h3.far (p := ⟨p1, 0, none⟩) (Ne.symm h13) (.slice none 0 0)).far (p := ⟨p2, 0, none⟩) (Ne.symm h23) (.int .i64 0)).set_ 0 (.int .i64 er)).alloc o
 exact (by simpa using this : Blk ((((w.setCell ⟨p1, 0, none⟩ (.slice none 0 0)).setCell ⟨p2, 0, none⟩ (.int .i64 0)).setCell ⟨p3, 0, none⟩ (.int .i64 er)).alloc o) p3 34 #[.int .i64 er])
theorem kruncatch_fail (p1 p2 p3 : Nat) (h12 : p1 ≠ p2) (h13 : p1 ≠ p3) (h23 : p2 ≠ p3) (x y z : Value) (er : Int) (older : List PanicEntry) (w : World) (h1 : Blk w p1 29 #[x]) (h2 : Blk w p2 3 #[y]) (h3 : Blk w p3 34 #[z]) :
 CallsD Try.prog 47 #[.pointer (some ⟨p1, 0, none⟩), .pointer (some ⟨p2, 0, none⟩), .pointer (some ⟨p3, 0, none⟩)] (.panicking ({ v := .iface 76 (.agg #[.int .i64 er]), recovered := false } :: older)) w fun e u' w' =>
  e = .returned (.tuple #[]) ∧ u' = .panicking ({ v := .iface 76 (.agg #[.int .i64 er]), recovered := true } :: older) ∧ krunCatchQ p1 p2 p3 er w w' := by
 have c1 := h1.cell
 have c2 := h2.cell
 have c3 := h3.cell
 have f1 := h1.frozen
 have f2 := h2.frozen
 have f3 := h3.frozen
 refine callsD_of_wpS Try.func47 rfl fun c₀ cs hu => ?_
 apply wpS_seq
 apply wpS_region
 simp [wpOpsS, go_sem, recoverD, hu, Try.ntmps47, Exit.thenS, krunassert_fail]
 apply wpS_seq
 apply wpS_region
 simp [wpOpsS, go_sem, Exit.thenS]
 refine wpS_cond (t := true) (by simp [Act.eval, Array.replicate]) ?_
 simp only [if_true]
 refine wpS_of_wp ?_
 simp only [Array.replicate]
 have hl1 := h1.lt
 have hl2 := h2.lt
 have hl3 := h3.lt
 have h21 : p2 ≠ p1 := Ne.symm h12
 have h31 : p3 ≠ p1 := Ne.symm h13
 have h32 : p3 ≠ p2 := Ne.symm h23
 have hn1 : w.heap.size ≠ p1 := by omega
 have hn2 : w.heap.size ≠ p2 := by omega
 have hn3 : w.heap.size ≠ p3 := by omega
 go_region
 all_goals
  simp [bodyPostS, results, Try.results47, go_sem]
  exact kruncatchQ h12 h13 h23 h1 h2 h3 _
theorem kruncatch_idle (p1 p2 p3 : Nat) (w : World) :
 CallsD Try.prog 47 #[.pointer (some ⟨p1, 0, none⟩), .pointer (some ⟨p2, 0, none⟩), .pointer (some ⟨p3, 0, none⟩)] .returning w fun e u' w' =>
  e = .returned (.tuple #[]) ∧ u' = .returning ∧ w' = w.alloc (.cells #[.int .i64 0] 76) := by
 refine callsD_of_wpS Try.func47 rfl fun c₀ cs hu => ?_
 apply wpS_seq
 apply wpS_region
 simp [wpOpsS, go_sem, recoverD, hu, Try.ntmps47, Exit.thenS, krunassert_nil]
 apply wpS_seq
 apply wpS_region
 simp [wpOpsS, go_sem, Exit.thenS]
 refine wpS_cond (t := false) (by simp [Act.eval, Array.replicate]) ?_
 simp only [Bool.false_eq_true, if_false]
 refine wpS_of_wp (wp_skip ?_)
 cases c₀
 simp_all [bodyPostS, results, Try.results47]
def StepA (r : StR) (w : World) (e : Ending) (w' : World) : Prop := Below w.heap.size w w' ∧ ((r = .no ∧ e = .returned (.tuple #[.slice none 0 0, .bool false, .int .i64 0])) ∨ (r = .big ∧ e = .returned (.tuple #[.slice none 0 0, .bool false, .int .i64 9])) ∨ ∃ y, r = .yes y ∧ ∃ A n c, e = .returned (.tuple #[.slice A n c, .bool true, .int .i64 0]) ∧ OwnN w' w.heap.size (.slice A n c) (rowT (rowF y)))
set_option linter.unusedVariables false in
set_option maxRecDepth 100000 in
set_option maxHeartbeats 4000000 in
theorem coreStep_any {w : World} {v : BkVal} {b : Bk} {cA : Option Addr} {cn cc : Nat} {cv : List (List Nd)} (hr : rightE b = 0) (hb : BookV w v b) (hc : CtxG b cv) (hcl : (cv.length : Int) ≤ 990000) (hcw : CtxW (· < w.heap.size) w cA cn cc cv) {A : Option Addr} {n c : Nat} {x : TT} (ht : TermV w A n c (rowT x)) (hx : FitT b (cv.length : Int) x) :
 Calls Try.prog 21 #[.agg #[.int .i64 b.vars, .slice v.Ao v.no v.co, .slice v.Ae v.ne v.ce, .int .i64 b.nat, .slice v.Ap v.np v.cp], .slice cA cn cc, .slice A n c] w (StepA (stF b cv (szT x + 1) (hdW x) 4096) w) := by
 have hmf : ∀ (fn : Fn) (first cap : Array Value) (w : World), (Instr.makeFunc fn first cap).run Try.prog w = .ok (.func fn first cap) w := fun _ _ _ _ => rfl
 obtain ⟨W4, hW4⟩ : ∃ W4 : World, W4 = (((w.alloc (.cells #[.int .i64 b.vars, .slice v.Ao v.no v.co, .slice v.Ae v.ne v.ce, .int .i64 b.nat, .slice v.Ap v.np v.cp] 26)).alloc (.cells #[.slice none 0 0] 29)).alloc (.cells #[.bool false] 4)).alloc (.cells #[.int .i64 0] 34) := ⟨_, rfl⟩
 have hb4 : Below w.heap.size w W4 := by rw [hW4]; exact (((below_alloc w _).alloc (by simp) _).alloc (by simp <;> omega) _).alloc (by simp <;> omega) _
 have hs4 : W4.heap.size = w.heap.size + 4 := by rw [hW4]; simp
 have k0 : Blk W4 w.heap.size 26 #[.int .i64 b.vars, .slice v.Ao v.no v.co, .slice v.Ae v.ne v.ce, .int .i64 b.nat, .slice v.Ap v.np v.cp] := by rw [hW4]; exact (((Blk.new _ _ _).alloc _).alloc _).alloc _
 have k1 : Blk W4 (w.heap.size + 1) 29 #[.slice none 0 0] := by rw [hW4]; exact ((Blk.new' (by simp)).alloc _).alloc _
 have k2 : Blk W4 (w.heap.size + 2) 4 #[.bool false] := by rw [hW4]; exact (Blk.new' (by simp)).alloc _
 have k3 : Blk W4 (w.heap.size + 3) 34 #[.int .i64 0] := by rw [hW4]; exact Blk.new' (by simp)
 have HB4 := hid hb4
 have HW4 := hid hW4.symm
 have HK0 := hid k0
 have HK1 := hid k1
 have HK2 : Hid (Blk W4 (w.heap.size + 1 + 1) 4 #[.bool false]) := hid k2
 have HK3 : Hid (Blk W4 (w.heap.size + 1 + 1 + 1) 34 #[.int .i64 0]) := hid k3
 have hl4 : w.heap.size < W4.heap.size := by omega
 obtain ⟨w6, hw6⟩ : ∃ w6 : World, w6 = W4.alloc (.cells #[.int .i64 b.vars, .slice v.Ao v.no v.co, .slice v.Ae v.ne v.ce, .int .i64 b.nat, .slice v.Ap v.np v.cp, .slice cA cn cc, .int .i64 (0 : Int)] 79) := ⟨_, rfl⟩
 have hb6 : Below W4.heap.size W4 w6 := by rw [hw6]; exact below_alloc _ _
 obtain ⟨g, hg⟩ : ∃ g, g = w.heap.size + 4 := ⟨_, rfl⟩
 have hk6 : Blk w6 g 79 #[.int .i64 b.vars, .slice v.Ao v.no v.co, .slice v.Ae v.ne v.ce, .int .i64 b.nat, .slice v.Ap v.np v.cp, .slice cA cn cc, .int .i64 (0 : Int)] := by rw [hw6]; exact Blk.new' (by omega)
 have hb06 : Below w.heap.size w w6 := hb4.trans (hb6.mono (by omega))
 have HMA : Hid (MaW w g v b cA cn cc cv 0 w6) := hid ⟨hb06, hk6, by omega, hcw.keep fun q hq => ⟨⟨Nat.lt_of_lt_of_le hq hb06.size, by omega⟩, fun o => hb06.cell (p := ⟨q, o, none⟩) hq⟩⟩
 have hs6 : w6.heap.size = w.heap.size + 5 := by rw [hw6]; simp; omega
 have HB06 := hid hb06
 have HB6 := hid hb6
 have HFO := hid (focused_any (ht.below hb06) hx)
 have hsz := foc_sz hx
 have hszx : szT x ≤ 4096 := hx.few
 have HFX := hid (foc hx)
 have HST := hid (fun (W : World) (hB : Below w6.heap.size w6 W) (A4 B4 : Option Addr) (n4 c4 m4 d4 : Nat) (h9 : FocO w6.heap.size W (hdW x) A4 n4 c4 B4 m4 d4) => cstep_any hr hb hc hcl (szT x + 1) W (hdW x) A4 B4 n4 c4 m4 d4 w6.heap.size 4096 (HMA.out.below hB) (by omega) hB.size h9 (foc hx) (by omega) (by omega) (by omega))
 have HSF := hid (fun (y : Fc) (h9 : stF b cv (szT x + 1) (hdW x) 4096 = .yes y) => st_fit hr hc (foc hx) (by omega) (by omega) (by omega) h9)
 generalize stF b cv (szT x + 1) (hdW x) 4096 = res at *
 have hlt1 : w.heap.size + 1 < W4.heap.size := by omega
 have hlt2 : w.heap.size + 1 + 1 < W4.heap.size := by omega
 have hlt3 : w.heap.size + 1 + 1 + 1 < W4.heap.size := by omega
 have L1 := hid (HK1.out.below hb6 hlt1)
 have L2 := hid (HK2.out.below hb6 hlt2)
 have L3 := hid (HK3.out.below hb6 hlt3)
 have l1 : w.heap.size + 1 < w6.heap.size := by omega
 have l2 : w.heap.size + 1 + 1 < w6.heap.size := by omega
 have l3 : w.heap.size + 1 + 1 + 1 < w6.heap.size := by omega
 clear hr hb hc hcl hcw ht hx hb4 hW4 k0 k1 k2 k3 hb6 hk6 hb06 hsz hszx
 go_enter_defers Try.func21, Try.ntmps21
 go_upto_region 2 with fail
 rw [HW4.out]
 have z0 := Blk.cell HK0.out
 go_upto_region 3 with fail
 rw [← hg, ← hw6]
 clear hw6 z0 hs4 hs6 hg
 go_wp2_with fail
 refine (HFO.out).mono ?_
 rintro e w7 ⟨hb7, A4, n4, c4, B4, m4, d4, rfl, hf7⟩
 have HB7 := hid hb7
 have HF7 := hid hf7
 clear hb7 hf7
 go_wp2_with fail
 refine (HST.out w7 HB7.out A4 B4 n4 c4 m4 d4 HF7.out).mono ?_
 rintro e w8 ⟨hb8, h8⟩
 have HB8 : Hid (Below w6.heap.size w6 w8) := bto HB7 hb8
 have K1 := hid (L1.out.below HB8.out l1)
 have K2 := hid (L2.out.below HB8.out l2)
 have K3 := hid (L3.out.below HB8.out l3)
 have hs8 := HB8.out.size
 clear hb8
 rcases h8 with ⟨hbig, rfl⟩ | ⟨A5, n5, c5, B5, m5, d5, bl, rfl, hr8⟩
 · have HBIG := hid hbig
   clear hbig
   go_wp2_with fail
   unfold CFail
   refine leaves_cons (f := 34) (args := #[.pointer (some ⟨w.heap.size + 1, 0, none⟩), .pointer (some ⟨w.heap.size + 1 + 1, 0, none⟩), .pointer (some ⟨w.heap.size + 1 + 1 + 1, 0, none⟩)]) (by simp) (by simp [go_sem]) ?_
   refine (kstepcatch_fail (w.heap.size + 1) (w.heap.size + 1 + 1) (w.heap.size + 1 + 1 + 1) (by omega) (by omega) (by omega) _ _ _ 9 [] w8 K1.out K2.out K3.out).mono ?_
   rintro e u' wf ⟨rfl, rfl, hc1, hc2, hc3, hc4⟩
   have q1 : wf.cell? ⟨w.heap.size + 1, 0, none⟩ = some (.slice none 0 0) := hc2.cell 0
   have q2 : wf.cell? ⟨w.heap.size + 1 + 1, 0, none⟩ = some (.bool false) := hc3.cell 0
   have q3 : wf.cell? ⟨w.heap.size + 1 + 1 + 1, 0, none⟩ = some (.int .i64 9) := hc4.cell 0
   have HP : Hid (StepA res w (.returned (.tuple #[.slice none 0 0, .bool false, .int .i64 9])) wf) := hid ⟨(HB06.out.trans (HB8.out.mono HB06.out.size)).trans (hc1.to_below (by omega) (fun k h => by omega) (fun _ e => by cases e)), .inr (.inl ⟨HBIG.out, rfl⟩)⟩
   simp [Leaves, settle, results, Try.results21, go_sem, q1, q2, q3]
   exact HP.out
 have HR8 := hid hr8
 have c1 := K1.out.cell
 have c2 := K2.out.cell
 have c3 := K3.out.cell
 have f1 := K1.out.frozen
 have f2 := K2.out.frozen
 have f3 := K3.out.frozen
 have t1 : w.heap.size + 1 < w8.heap.size := by omega
 have t2 : w.heap.size + 1 + 1 < w8.heap.size := by omega
 have t3 : w.heap.size + 1 + 1 + 1 < w8.heap.size := by omega
 clear hr8
 cases bl with
 | false =>
  have HNO : Hid (res = .no) := hid (by
   rcases HR8.out with ⟨h, _⟩ | ⟨_, _, h, _⟩
   · exact h
   cases h)
  have WF : ∃ WF : World, WF = (((((w8.setCell ⟨w.heap.size + 1 + 1, 0, none⟩ (.bool false)).setCell ⟨w.heap.size + 1, 0, none⟩ (.slice none 0 0)).setCell ⟨w.heap.size + 1 + 1, 0, none⟩ (.bool false)).setCell ⟨w.heap.size + 1 + 1 + 1, 0, none⟩ (.int .i64 0)).alloc (.cells #[.slice A5 n5 c5, .slice B5 m5 d5] 70)) := ⟨_, rfl⟩
  obtain ⟨WF, hWF⟩ := WF
  have X1 : Hid (Blk WF (w.heap.size + 1) 29 #[.slice none 0 0]) := hid (by rw [hWF]; exact ((((by simpa using (K1.out.far (p := ⟨w.heap.size + 1 + 1, 0, none⟩) (by simp) (.bool false)).set_ 0 (.slice none 0 0) : Blk ((w8.setCell ⟨w.heap.size + 1 + 1, 0, none⟩ (.bool false)).setCell ⟨w.heap.size + 1, 0, none⟩ (.slice none 0 0)) (w.heap.size + 1) 29 #[.slice none 0 0]).far (p := ⟨w.heap.size + 1 + 1, 0, none⟩) (by simp) (.bool false)).far (p := ⟨w.heap.size + 1 + 1 + 1, 0, none⟩) (by simp <;> omega) (.int .i64 0)).alloc _))
  have X2 : Hid (Blk WF (w.heap.size + 1 + 1) 4 #[.bool false]) := hid (by rw [hWF]; exact ((by simpa using (((K2.out.set_ 0 (.bool false)).far (p := ⟨w.heap.size + 1, 0, none⟩) (by simp) (.slice none 0 0)).set_ 0 (.bool false)) : Blk (((w8.setCell ⟨w.heap.size + 1 + 1, 0, none⟩ (.bool false)).setCell ⟨w.heap.size + 1, 0, none⟩ (.slice none 0 0)).setCell ⟨w.heap.size + 1 + 1, 0, none⟩ (.bool false)) (w.heap.size + 1 + 1) 4 #[.bool false]).far (p := ⟨w.heap.size + 1 + 1 + 1, 0, none⟩) (by simp) (.int .i64 0)).alloc _)
  have X3 : Hid (Blk WF (w.heap.size + 1 + 1 + 1) 34 #[.int .i64 0]) := hid (by rw [hWF]; exact (by simpa using ((((K3.out.far (p := ⟨w.heap.size + 1 + 1, 0, none⟩) (by simp) (.bool false)).far (p := ⟨w.heap.size + 1, 0, none⟩) (by simp <;> omega) (.slice none 0 0)).far (p := ⟨w.heap.size + 1 + 1, 0, none⟩) (by simp) (.bool false)).set_ 0 (.int .i64 0)) : Blk ((((w8.setCell ⟨w.heap.size + 1 + 1, 0, none⟩ (.bool false)).setCell ⟨w.heap.size + 1, 0, none⟩ (.slice none 0 0)).setCell ⟨w.heap.size + 1 + 1, 0, none⟩ (.bool false)).setCell ⟨w.heap.size + 1 + 1 + 1, 0, none⟩ (.int .i64 0)) (w.heap.size + 1 + 1 + 1) 34 #[.int .i64 0]).alloc _)
  have XB : Hid (Below w.heap.size w WF) := hid (by rw [hWF]; exact (((((HB06.out.trans (HB8.out.mono HB06.out.size)).setCell (p := ⟨w.heap.size + 1 + 1, 0, none⟩) (by simp <;> omega) _).setCell (p := ⟨w.heap.size + 1, 0, none⟩) (by simp) _).setCell (p := ⟨w.heap.size + 1 + 1, 0, none⟩) (by simp <;> omega) _).setCell (p := ⟨w.heap.size + 1 + 1 + 1, 0, none⟩) (by simp <;> omega) _).alloc (by simp [World.setCell]; omega) _)
  go_wp2_with fail
  rw [← hWF]
  clear hWF
  refine leaves_cons (f := 34) (args := #[.pointer (some ⟨w.heap.size + 1, 0, none⟩), .pointer (some ⟨w.heap.size + 1 + 1, 0, none⟩), .pointer (some ⟨w.heap.size + 1 + 1 + 1, 0, none⟩)]) (by simp) (by simp [go_sem]) ?_
  refine (kstepcatch_idle _ _ _ _).mono ?_
  rintro e u' w'' ⟨rfl, rfl, rfl⟩
  have q1 : (WF.alloc (.cells #[.int .i64 0] 76)).cell? ⟨w.heap.size + 1, 0, none⟩ = some (.slice none 0 0) := (X1.out.alloc _).cell 0
  have q2 : (WF.alloc (.cells #[.int .i64 0] 76)).cell? ⟨w.heap.size + 1 + 1, 0, none⟩ = some (.bool false) := (X2.out.alloc _).cell 0
  have q3 : (WF.alloc (.cells #[.int .i64 0] 76)).cell? ⟨w.heap.size + 1 + 1 + 1, 0, none⟩ = some (.int .i64 0) := (X3.out.alloc _).cell 0
  have HP : Hid (StepA res w (.returned (.tuple #[.slice none 0 0, .bool false, .int .i64 0])) (WF.alloc (.cells #[.int .i64 0] 76))) := hid ⟨XB.out.alloc XB.out.size _, .inl ⟨HNO.out, rfl⟩⟩
  generalize (WF.alloc (.cells #[.int .i64 0] 76)) = wz at HP q1 q2 q3 ⊢
  simp [Leaves, settle, results, Try.results21, go_sem, q1, q2, q3]
  exact HP.out
 | true =>
  have hy8 : ∃ y, res = .yes y ∧ FocO w6.heap.size w8 y A5 n5 c5 B5 m5 d5 := by
   rcases HR8.out with ⟨_, h, _⟩ | ⟨y, h, _, h2⟩
   · cases h
   exact ⟨y, h, h2⟩
  obtain ⟨y, hyes, hfo⟩ := hy8
  have hyf := HSF.out y hyes
  have hyz : fsz y ≤ 4096 := by have := hyf.2; omega
  have HYES := hid hyes
  obtain ⟨W9, hW9⟩ : ∃ W9 : World, W9 = (w8.setCell ⟨w.heap.size + 1 + 1, 0, none⟩ (.bool true)).alloc (.cells #[.slice A5 n5 c5, .slice B5 m5 d5] 70) := ⟨_, rfl⟩
  have hs9 : W9.heap.size = w8.heap.size + 1 := by rw [hW9]; simp [World.setCell]
  have hsz8 : (w8.setCell ⟨w.heap.size + 1 + 1, 0, none⟩ (.bool true)).heap.size = w8.heap.size := size_setT _ _ _ _
  have R1 : Hid (Blk W9 (w.heap.size + 1) 29 #[.slice none 0 0]) := hid (by rw [hW9]; exact (K1.out.far (p := ⟨w.heap.size + 1 + 1, 0, none⟩) (by simp) _).alloc _)
  have R2 : Hid (Blk W9 (w.heap.size + 1 + 1) 4 #[.bool true]) := hid (by rw [hW9]; exact (by simpa using K2.out.set_ 0 (.bool true) : Blk (w8.setCell ⟨w.heap.size + 1 + 1, 0, none⟩ (.bool true)) (w.heap.size + 1 + 1) 4 #[.bool true]).alloc _)
  have R3 : Hid (Blk W9 (w.heap.size + 1 + 1 + 1) 34 #[.int .i64 0]) := hid (by rw [hW9]; exact (K3.out.far (p := ⟨w.heap.size + 1 + 1, 0, none⟩) (by simp) _).alloc _)
  have RF : Hid (Blk W9 w8.heap.size 70 #[.slice A5 n5 c5, .slice B5 m5 d5]) := hid (by rw [hW9]; exact Blk.new' hsz8.symm)
  have RB : Hid (Below w.heap.size w W9) := hid (by rw [hW9]; exact ((HB06.out.trans (HB8.out.mono HB06.out.size)).setCell (p := ⟨w.heap.size + 1 + 1, 0, none⟩) (by simp <;> omega) _).alloc (by rw [hsz8]; omega) _)
  have hfo9 : FocO w6.heap.size W9 y A5 n5 c5 B5 m5 d5 := by rw [hW9]; exact (hfo.set (b := w.heap.size + 1 + 1) (by omega) 0 _).below (below_alloc _ _)
  have hm5 := hfo9.len.2
  have ha5 := FocG.argsLen hyf.1 hyz
  have HI9 := hid (hfo9.read (g := g) (by have := HMA.out.lt; omega) (by omega))
  have HYF := hid hyf
  have HYZ := hid hyz
  have zf9 := RF.out.cell
  have hl8 : w8.heap.size < W9.heap.size := by omega
  have hlw : w.heap.size + 4 ≤ W9.heap.size := by omega
  clear hyes hyf hyz hfo hfo9 hm5 ha5 hsz8 hs9
  go_upto_region 6 with fail
  rw [← hW9]
  clear hW9 c1 c2 c3 f1 f2 f3 t1 t2 t3
  go_wp2_with fail
  refine (frow_any HI9.out HYF.out.1).mono ?_
  rintro e w10 ⟨hb10, h10⟩
  rcases h10 with ⟨_, A7, n7, c7, rfl, _, ho7⟩ | ⟨hbig, rfl⟩
  rotate_left
  · exact absurd hbig (by have := HYZ.out; omega)
  have S1 := hid (R1.out.below hb10 R1.out.lt)
  have S2 := hid (R2.out.below hb10 R2.out.lt)
  have S3 := hid (R3.out.below hb10 R3.out.lt)
  have SB : Hid (Below w.heap.size w w10) := bto RB hb10
  have HO7 := hid ho7
  have c1 := S1.out.cell
  have c2 := S2.out.cell
  have c3 := S3.out.cell
  have f1 := S1.out.frozen
  have f2 := S2.out.frozen
  have f3 := S3.out.frozen
  have t1 : w.heap.size + 1 < w10.heap.size := S1.out.lt
  have t2 : w.heap.size + 1 + 1 < w10.heap.size := S2.out.lt
  have t3 : w.heap.size + 1 + 1 + 1 < w10.heap.size := S3.out.lt
  clear hb10 ho7
  obtain ⟨WF, hWF⟩ : ∃ WF : World, WF = (((w10.setCell ⟨w.heap.size + 1, 0, none⟩ (.slice A7 n7 c7)).setCell ⟨w.heap.size + 1 + 1, 0, none⟩ (.bool true)).setCell ⟨w.heap.size + 1 + 1 + 1, 0, none⟩ (.int .i64 0)) := ⟨_, rfl⟩
  have X1 : Hid (Blk WF (w.heap.size + 1) 29 #[.slice A7 n7 c7]) := hid (by rw [hWF]; exact ((by simpa using (S1.out.set_ 0 (.slice A7 n7 c7)) : Blk (w10.setCell ⟨w.heap.size + 1, 0, none⟩ (.slice A7 n7 c7)) (w.heap.size + 1) 29 #[.slice A7 n7 c7]).far (p := ⟨w.heap.size + 1 + 1, 0, none⟩) (by simp) (.bool true)).far (p := ⟨w.heap.size + 1 + 1 + 1, 0, none⟩) (by simp <;> omega) (.int .i64 0))
  have X2 : Hid (Blk WF (w.heap.size + 1 + 1) 4 #[.bool true]) := hid (by rw [hWF]; exact (by simpa using ((S2.out.far (p := ⟨w.heap.size + 1, 0, none⟩) (by simp) (.slice A7 n7 c7)).set_ 0 (.bool true)) : Blk ((w10.setCell ⟨w.heap.size + 1, 0, none⟩ (.slice A7 n7 c7)).setCell ⟨w.heap.size + 1 + 1, 0, none⟩ (.bool true)) (w.heap.size + 1 + 1) 4 #[.bool true]).far (p := ⟨w.heap.size + 1 + 1 + 1, 0, none⟩) (by simp) (.int .i64 0))
  have X3 : Hid (Blk WF (w.heap.size + 1 + 1 + 1) 34 #[.int .i64 0]) := hid (by rw [hWF]; exact (by simpa using (((S3.out.far (p := ⟨w.heap.size + 1, 0, none⟩) (by simp <;> omega) (.slice A7 n7 c7)).far (p := ⟨w.heap.size + 1 + 1, 0, none⟩) (by simp) (.bool true)).set_ 0 (.int .i64 0)) : Blk (((w10.setCell ⟨w.heap.size + 1, 0, none⟩ (.slice A7 n7 c7)).setCell ⟨w.heap.size + 1 + 1, 0, none⟩ (.bool true)).setCell ⟨w.heap.size + 1 + 1 + 1, 0, none⟩ (.int .i64 0)) (w.heap.size + 1 + 1 + 1) 34 #[.int .i64 0]))
  have XB : Hid (Below w.heap.size w WF) := hid (by rw [hWF]; exact ((SB.out.setCell (p := ⟨w.heap.size + 1, 0, none⟩) (by simp) _).setCell (p := ⟨w.heap.size + 1 + 1, 0, none⟩) (by simp <;> omega) _).setCell (p := ⟨w.heap.size + 1 + 1 + 1, 0, none⟩) (by simp <;> omega) _)
  have XO : Hid (OwnN WF w.heap.size (.slice A7 n7 c7) (rowT (rowF y))) := hid (by rw [hWF]; exact own_baseN (((HO7.out.setCell (a := ⟨w.heap.size + 1, 0, none⟩) (show w.heap.size + 1 < W9.heap.size by omega) _).setCell (a := ⟨w.heap.size + 1 + 1, 0, none⟩) (show w.heap.size + 1 + 1 < W9.heap.size by omega) _).setCell (a := ⟨w.heap.size + 1 + 1 + 1, 0, none⟩) (show w.heap.size + 1 + 1 + 1 < W9.heap.size by omega) _) RB.out.size)
  go_wp2_with fail
  rw [← hWF]
  clear hWF
  refine leaves_cons (f := 34) (args := #[.pointer (some ⟨w.heap.size + 1, 0, none⟩), .pointer (some ⟨w.heap.size + 1 + 1, 0, none⟩), .pointer (some ⟨w.heap.size + 1 + 1 + 1, 0, none⟩)]) (by simp) (by simp [go_sem]) ?_
  refine (kstepcatch_idle _ _ _ _).mono ?_
  rintro e u' w'' ⟨rfl, rfl, rfl⟩
  have q1 : (WF.alloc (.cells #[.int .i64 0] 76)).cell? ⟨w.heap.size + 1, 0, none⟩ = some (.slice A7 n7 c7) := (X1.out.alloc _).cell 0
  have q2 : (WF.alloc (.cells #[.int .i64 0] 76)).cell? ⟨w.heap.size + 1 + 1, 0, none⟩ = some (.bool true) := (X2.out.alloc _).cell 0
  have q3 : (WF.alloc (.cells #[.int .i64 0] 76)).cell? ⟨w.heap.size + 1 + 1 + 1, 0, none⟩ = some (.int .i64 0) := (X3.out.alloc _).cell 0
  have HP : Hid (StepA res w (.returned (.tuple #[.slice A7 n7 c7, .bool true, .int .i64 0])) (WF.alloc (.cells #[.int .i64 0] 76))) := hid ⟨XB.out.alloc XB.out.size _, .inr (.inr ⟨y, HYES.out, A7, n7, c7, rfl, XO.out.alloc _⟩)⟩
  generalize (WF.alloc (.cells #[.int .i64 0] 76)) = wz at HP q1 q2 q3 ⊢
  simp [Leaves, settle, results, Try.results21, go_sem, q1, q2, q3]
  exact HP.out
end Go.Proofs.Ytjoddliplahgkaa
