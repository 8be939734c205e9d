/- Merged: Numbers, Regist. -/
import Derived.Test.YtjoddliplahgkaaGreatPEntries
import Derived.Deep.DeepCutAuto
namespace Go.Proofs.YtjoddliplahgkaaGreat
set_option linter.unusedVariables false
set_option linter.unusedSimpArgs false
section
open Go.Lib (hid)
open Go.RowKit
theorem cF {B : Nat} {w w' : World} (h : Below B w w') : Below B w w'.drew := aT h 1
theorem bY {w w' : World} (h : Below w.heap.size w w') (o : Obj) : Below w.heap.size w (w'.alloc o) := h.alloc h.size o
theorem BN (x y : Nd) (w : World) : (Go.binOp .eql 46 (.agg #[.int .i64 x.op, .int .i64 x.a, .int .i64 x.b]) (.agg #[.int .i64 y.op, .int .i64 y.a, .int .i64 y.b])).run Tryz.prog w = .ok (.bool (decide (x = y))) w := by
 obtain ⟨p, q, r⟩ := x
 obtain ⟨p', q', r'⟩ := y
 simp [go_sem]
 by_cases h1 : p = p' <;> by_cases h2 : q = q' <;> by_cases h3 : r = r' <;> simp [h1, h2, h3]
theorem mP (x y : Nd) (w : World) : (Go.binOp .neq 46 (.agg #[.int .i64 x.op, .int .i64 x.a, .int .i64 x.b]) (.agg #[.int .i64 y.op, .int .i64 y.a, .int .i64 y.b])).run Tryz.prog w = .ok (.bool (!decide (x = y))) w := by
 obtain ⟨p, q, r⟩ := x
 obtain ⟨p', q', r'⟩ := y
 simp [go_sem]
 by_cases h1 : p = p' <;> by_cases h2 : q = q' <;> by_cases h3 : r = r' <;> simp [h1, h2, h3]
set_option maxRecDepth 100000 in
set_option maxHeartbeats 4000000 in
theorem CF {w : World} {v : bO} {b : Bk} (hb : bX w v b) (e : Int) :
 Calls Tryz.prog 96 #[.agg #[.int .i64 b.vars, .slice v.Ao v.no v.co, .slice v.Ae v.ne v.ce, .int .i64 b.nat, .slice v.Ap v.np v.cp], .int .i64 e] w (gC (zJ b e) w) := by
 have b2 := hb.entries.len
 have d2 := hb.entries.few
 have b4 := hid (fun (k : Nat) (h : k < v.ne) => hb.entries.at_ (k := k) h)
 have a0 : Hid (zJ b e = if e < 0 then false
 else if (b.entries.length : Int) ≤ e then false
 else if (bK b e).kind ≠ 1 then false
 else if (bK b e).sort.length ≠ 2 then false
 else if (bD (bK b e).sort 0).a ≠ 1 then false
 else if bD (bK b e).sort 1 ≠ ⟨3, 0, 0⟩ then false
 else if 0 < (bK b e).params.length + (bK b e).indices.length then false
 else if (bK b e).ctors.length ≠ 2 then false
 else if ((bK b e).ctors.getD 0 default).args.length ≠ 0 then false
 else if ((bK b e).ctors.getD 1 default).args.length ≠ 1 then false
 else if (((bK b e).ctors.getD 1 default).args.getD 0 []).length ≠ 1 then false
 else decide (bD (((bK b e).ctors.getD 1 default).args.getD 0 []) 0 = ⟨9, e, 0⟩)) := hid rfl
 have b0 := hid (aP w (.cells #[.int .i64 b.vars, .slice v.Ao v.no v.co, .slice v.Ae v.ne v.ce, .int .i64 b.nat, .slice v.Ap v.np v.cp] 26))
 generalize zJ b e = res at *
 rw [b2] at a0
 obtain ⟨Ao, no, co, Ae, ne, ce, Ap, np, cp⟩ := v
 simp only at b4 b0 a0 d2 ⊢
 clear hb b2
 generalize b.vars = bv at *
 generalize b.nat = bn at *
 by_cases h1 : e < 0
 · have HR : Hid (res = false) := hid (by rw [a0.out, if_pos h1])
   have d1 : decide (e < 0) = true := decide_eq_true h1
   clear h1 a0 b4
   go_in
   go_wp2_with fail
   go_ret
   rw [HR.out]
   exact ⟨rfl, b0.out⟩
 have d1 : decide (e < 0) = false := decide_eq_false h1
 rw [if_neg h1] at a0
 obtain ⟨k, rfl⟩ : ∃ k : Nat, e = (k : Int) := ⟨e.toNat, by omega⟩
 by_cases h2 : (ne : Int) ≤ (k : Int)
 · have HR : Hid (res = false) := hid (by rw [a0.out, if_pos h2])
   have d2' : decide (ne ≤ k) = true := decide_eq_true (by omega)
   clear h1 h2 a0 b4
   go_in
   go_wp2_with fail
   go_ret
   rw [HR.out]
   exact ⟨rfl, b0.out⟩
 have d2' : decide (ne ≤ k) = false := decide_eq_false (by omega)
 rw [if_neg h2] at a0
 obtain ⟨be, oe, rfl, h0, ev, f4, g4, g3, g2, g1, g0, f9, a2⟩ := b4.out k (by omega)
 rw [show b.entries.getD k default = bK b k from by unfold bK; rw [Int.toNat_natCast]] at f4 a2
 have g8 : k < ne := by omega
 generalize bK b k = x at *
 clear h1 h2 b4
 by_cases h3 : x.kind = 1
 case neg =>
  have HR : Hid (res = false) := hid (by rw [a0.out, if_pos h3])
  have d3 : (x.kind != 1) = true := by simpa using h3
  clear h3 a0 a2
  generalize x.kind = kd at *
  go_in
  go_wp2_with fail
  go_ret
  rw [HR.out]
  exact ⟨rfl, b0.out⟩
 rw [h3] at f4
 rw [if_neg (by simp [h3])] at a0
 clear h3
 obtain ⟨As, ns, cs, Ap2, np2, cp2, Ai, ni, ci, Ac, nc, cc, At, nt, ct, Ab, nb, cb⟩ := ev
 have hs := a2.sort
 have a4 := a2.sort.len
 have a5 := a2.params.len
 have a6 := a2.indices.len
 have a8 := a2.ctors.len
 have f5 := a2.params.few
 have f7 := a2.indices.few
 have a7 := a2.ctors
 simp only at g4 g3 g2 g1 g0 f9 hs a4 a5 a6 a8 f5 f7 a7
 clear a2
 rw [a4, a5, a6, a8] at a0
 have a9 := hid (b0.out.alloc b0.out.size (.cells #[.int .i64 1, .slice As ns cs, .slice Ap2 np2 cp2, .slice Ai ni ci, .slice Ac nc cc, .slice At nt ct, .slice Ab nb cb] 61))
 by_cases h4 : ns = 2
 case neg =>
  have HR : Hid (res = false) := hid (by rw [a0.out, if_pos h4])
  have d4 : ((ns : Int) != 2) = true := by rw [bne_iff_ne]; omega
  clear h4 a0 hs a7 a4 a5 a6 a8
  go_in
  go_wp2_with fail
  go_ret
  rw [HR.out]
  exact ⟨rfl, a9.out⟩
 subst h4
 rw [if_neg (by simp)] at a0
 obtain ⟨bs, os, rfl, g9, _, e5, _⟩ := hs.at_ (p := 0) (by omega)
 obtain ⟨d6, e4, e3, e2⟩ := hs.cells (p := 1) (by omega)
 rw [Nat.zero_mul, Nat.add_zero] at e5
 rw [Nat.one_mul] at e4 e3 e2
 clear hs d6
 by_cases h5 : (bD x.sort 0).a = 1
 case neg =>
  have HR : Hid (res = false) := hid (by rw [a0.out, if_pos h5])
  have d5 : ((bD x.sort 0).a != 1) = true := by simpa using h5
  clear h5 a0 a7 a4 a5 a6 a8
  generalize (bD x.sort 0).a = sa at *
  generalize bD x.sort 1 = sn at *
  go_in
  go_wp2_with fail
  go_ret
  rw [HR.out]
  exact ⟨rfl, a9.out⟩
 rw [h5] at e5
 rw [if_neg (by simp [h5])] at a0
 clear h5
 generalize bD x.sort 1 = sn at *
 by_cases h6 : sn = ⟨3, 0, 0⟩
 case neg =>
  have HR : Hid (res = false) := hid (by rw [a0.out, if_pos h6])
  have c6 := fun w => (mP sn ⟨3, 0, 0⟩ w).trans (by simp only [h6, decide_false, Bool.not_false] : _ = Result.ok (Value.bool true) w)
  simp only at c6
  clear h6 a0 a7 a4 a5 a6 a8
  go_in
  go_wp2_with fail
  go_ret
  rw [HR.out]
  exact ⟨rfl, a9.out⟩
 rw [if_neg (by simp [h6])] at a0
 subst h6
 simp only at e4 e3 e2
 have c6 := fun w => (mP ⟨3, 0, 0⟩ ⟨3, 0, 0⟩ w).trans (by simp only [decide_true, Bool.not_true] : _ = Result.ok (Value.bool false) w)
 simp only at c6
 by_cases h7 : 0 < np2 + ni
 · have HR : Hid (res = false) := hid (by rw [a0.out, if_pos h7])
   have d7 : decide ((np2 : Int) + (ni : Int) > 0) = true := decide_eq_true (by omega)
   clear h7 a0 a7 a4 a5 a6 a8
   go_in
   go_wp2_with fail
   go_ret
   rw [HR.out]
   exact ⟨rfl, a9.out⟩
 rw [if_neg h7] at a0
 have d7 : decide ((np2 : Int) + (ni : Int) > 0) = false := decide_eq_false (by omega)
 clear h7
 by_cases h8 : nc = 2
 case neg =>
  have HR : Hid (res = false) := hid (by rw [a0.out, if_pos h8])
  have d8 : ((nc : Int) != 2) = true := by rw [bne_iff_ne]; omega
  clear h8 a0 a7 a4 a5 a6 a8
  go_in
  go_wp2_with fail
  go_ret
  rw [HR.out]
  exact ⟨rfl, a9.out⟩
 subst h8
 rw [if_neg (by simp)] at a0
 obtain ⟨bc, oc, rfl, b8, hm⟩ := a7.mem (by omega)
 obtain ⟨A1, n1, c1, A2, n2, c2, d0, c9, e6, _⟩ := hm 0 (by omega)
 obtain ⟨A3, n3, c3, A4, n4, c4, c8, c7, b1, _⟩ := hm 1 (by omega)
 rw [Nat.zero_mul, Nat.add_zero] at d0 c9
 rw [Nat.one_mul] at c8 c7
 have f2 := e6.len
 have f1 := b1.len
 rw [f2, f1] at a0
 generalize (x.ctors.getD 1 default).args = ar at *
 have hW : ∃ W2, W2 = (w.alloc (.cells #[.int .i64 bv, .slice Ao no co, .slice (some ⟨be, oe, none⟩) ne ce, .int .i64 bn, .slice Ap np cp] 26)).alloc (.cells #[.int .i64 1, .slice (some ⟨bs, os, none⟩) 2 cs, .slice Ap2 np2 cp2, .slice Ai ni ci, .slice (some ⟨bc, oc, none⟩) 2 cc, .slice At nt ct, .slice Ab nb cb] 61) := ⟨_, rfl⟩
 obtain ⟨W2, a3⟩ := hW
 have a1 : Hid (Below w.heap.size w W2) := hid (by rw [a3]; exact a9.out)
 have e1 : W2.cell? ⟨w.heap.size + 1, 4, none⟩ = some (.slice (some ⟨bc, oc, none⟩) 2 cc) := by
  rw [a3]
  have h := aS.cell (aS.new (w.alloc (.cells #[.int .i64 bv, .slice Ao no co, .slice (some ⟨be, oe, none⟩) ne ce, .int .i64 bn, .slice Ap np cp] 26)) 61 #[.int .i64 1, .slice (some ⟨bs, os, none⟩) 2 cs, .slice Ap2 np2 cp2, .slice Ai ni ci, .slice (some ⟨bc, oc, none⟩) 2 cc, .slice At nt ct, .slice Ab nb cb]) 4
  rw [show (w.alloc (.cells #[.int .i64 bv, .slice Ao no co, .slice (some ⟨be, oe, none⟩) ne ce, .int .i64 bn, .slice Ap np cp] 26)).heap.size = w.heap.size + 1 from by simp] at h
  exact h
 have f8 : w.heap.size + 1 < W2.heap.size := by rw [a3]; simp
 have gk1 := (a1.out.cell (p := ⟨bc, oc, none⟩) b8).trans d0
 have gk2 := (a1.out.cell (p := ⟨bc, oc + 1, none⟩) b8).trans c9
 have gk3 := (a1.out.cell (p := ⟨bc, oc + 2, none⟩) b8).trans c8
 have gk4 := (a1.out.cell (p := ⟨bc, oc + 2 + 1, none⟩) b8).trans c7
 clear hm a7 e6 f2 f1 a4 a5 a6 a8 d0 c9 c8 c7
 have c0 : Hid (∀ w', Below W2.heap.size W2 w' → w'.cell? ⟨w.heap.size + 1, 4, none⟩ = some (.slice (some ⟨bc, oc, none⟩) 2 cc) ∧ w'.cell? ⟨bc, oc, none⟩ = some (.slice A1 n1 c1) ∧ w'.cell? ⟨bc, oc + 1, none⟩ = some (.slice A2 n2 c2) ∧ w'.cell? ⟨bc, oc + 2, none⟩ = some (.slice A3 n3 c3) ∧ w'.cell? ⟨bc, oc + 2 + 1, none⟩ = some (.slice A4 n4 c4)) := hid (fun w' h => by
  have b9 : bc < W2.heap.size := by omega
  exact ⟨(h.cell (p := ⟨w.heap.size + 1, 4, none⟩) f8).trans e1, (h.cell (p := ⟨bc, oc, none⟩) b9).trans gk1, (h.cell (p := ⟨bc, oc + 1, none⟩) b9).trans gk2, (h.cell (p := ⟨bc, oc + 2, none⟩) b9).trans gk3, (h.cell (p := ⟨bc, oc + 2 + 1, none⟩) b9).trans gk4⟩)
 have b7 := a1.out.size
 clear e1 gk1 gk2 gk3 gk4
 by_cases h9 : n1 = 0
 case neg =>
  have HR : Hid (res = false) := hid (by rw [a0.out, if_pos h9])
  have d9 : ((n1 : Int) == 0) = false := by rw [beq_eq_false_iff_ne]; omega
  clear h9 a0 b1
  go_in
  go_wp2_with fail
  rw [← a3]
  clear a3
  go_region_held3 (fun w' => w'.cell? ⟨w.heap.size + 1, 4, none⟩ = some (.slice (some ⟨bc, oc, none⟩) 2 cc) ∧ w'.cell? ⟨bc, oc, none⟩ = some (.slice A1 n1 c1) ∧ w'.cell? ⟨bc, oc + 1, none⟩ = some (.slice A2 n2 c2) ∧ w'.cell? ⟨bc, oc + 2, none⟩ = some (.slice A3 n3 c3) ∧ w'.cell? ⟨bc, oc + 2 + 1, none⟩ = some (.slice A4 n4 c4)) (exact c0.out _ (by (first | exact cF (Below.refl _ _) | exact cF (bY (Below.refl _ _) _) | exact cF (bY (bY (Below.refl _ _) _) _)))) (fail)
  all_goals
   go_wp2_with fail
   go_ret
   rw [HR.out]
   exact ⟨rfl, a1.out.trans (Below.mono (show Below W2.heap.size W2 _ from by (first | exact cF (Below.refl _ _) | exact cF (bY (Below.refl _ _) _) | exact cF (bY (bY (Below.refl _ _) _) _))) b7)⟩
 subst h9
 rw [if_neg (by simp)] at a0
 by_cases h10 : n3 = 1
 case neg =>
  have HR : Hid (res = false) := hid (by rw [a0.out, if_pos h10])
  have d10 : ((n3 : Int) == 1) = false := by rw [beq_eq_false_iff_ne]; omega
  clear h10 a0 b1
  go_in
  go_wp2_with fail
  rw [← a3]
  clear a3
  go_region_held3 (fun w' => w'.cell? ⟨w.heap.size + 1, 4, none⟩ = some (.slice (some ⟨bc, oc, none⟩) 2 cc) ∧ w'.cell? ⟨bc, oc, none⟩ = some (.slice A1 0 c1) ∧ w'.cell? ⟨bc, oc + 1, none⟩ = some (.slice A2 n2 c2) ∧ w'.cell? ⟨bc, oc + 2, none⟩ = some (.slice A3 n3 c3) ∧ w'.cell? ⟨bc, oc + 2 + 1, none⟩ = some (.slice A4 n4 c4)) (exact c0.out _ (by (first | exact cF (Below.refl _ _) | exact cF (bY (Below.refl _ _) _) | exact cF (bY (bY (Below.refl _ _) _) _)))) (fail)
  all_goals
   go_wp2_with fail
   go_ret
   rw [HR.out]
   exact ⟨rfl, a1.out.trans (Below.mono (show Below W2.heap.size W2 _ from by (first | exact cF (Below.refl _ _) | exact cF (bY (Below.refl _ _) _) | exact cF (bY (bY (Below.refl _ _) _) _))) b7)⟩
 subst h10
 rw [if_neg (by simp)] at a0
 obtain ⟨b3, o3, A5, n5, c5, rfl, g7, f3, b6⟩ := b1.at_ (k := 0) (by omega)
 rw [Nat.add_zero] at f3
 have f0 := b6.len
 generalize ar.getD 0 [] = l5 at *
 rw [f0] at a0
 have gk5 := (a1.out.cell (p := ⟨b3, o3, none⟩) g7).trans f3
 have g6 : b3 < W2.heap.size := by omega
 clear b1 f0
 by_cases h11 : n5 = 1
 case neg =>
  have HR : Hid (res = false) := hid (by rw [a0.out, if_pos h11])
  have d11 : ((n5 : Int) == 1) = false := by rw [beq_eq_false_iff_ne]; omega
  clear h11 a0 b6
  go_in
  go_wp2_with fail
  rw [← a3]
  clear a3
  go_region_held3 (fun w' => w'.cell? ⟨w.heap.size + 1, 4, none⟩ = some (.slice (some ⟨bc, oc, none⟩) 2 cc) ∧ w'.cell? ⟨bc, oc, none⟩ = some (.slice A1 0 c1) ∧ w'.cell? ⟨bc, oc + 1, none⟩ = some (.slice A2 n2 c2) ∧ w'.cell? ⟨bc, oc + 2, none⟩ = some (.slice (some ⟨b3, o3, none⟩) 1 c3) ∧ w'.cell? ⟨bc, oc + 2 + 1, none⟩ = some (.slice A4 n4 c4)) (exact c0.out _ (by (first | exact cF (Below.refl _ _) | exact cF (bY (Below.refl _ _) _) | exact cF (bY (bY (Below.refl _ _) _) _)))) (fail)
  all_goals
   go_wp2_with fail
   go_ret
   rw [HR.out]
   exact ⟨rfl, a1.out.trans (Below.mono (show Below W2.heap.size W2 _ from by (first | exact cF (Below.refl _ _) | exact cF (bY (Below.refl _ _) _) | exact cF (bY (bY (Below.refl _ _) _) _))) b7)⟩
 subst h11
 rw [if_neg (by simp)] at a0
 obtain ⟨b5, o5, rfl, e0, e9, e8, e7⟩ := b6.at_ (p := 0) (by omega)
 rw [Nat.zero_mul, Nat.add_zero] at e9 e8 e7
 generalize bD l5 0 = m at *
 have gm0 := (a1.out.cell (p := ⟨b5, o5, none⟩) e0).trans e9
 have gm1 := (a1.out.cell (p := ⟨b5, o5 + 1, none⟩) e0).trans e8
 have gm2 := (a1.out.cell (p := ⟨b5, o5 + 2, none⟩) e0).trans e7
 have g5 : b5 < W2.heap.size := by omega
 have f6 := fun w => BN m ⟨9, (k : Int), 0⟩ w
 simp only at f6
 have HR : Hid (res = decide (m = ⟨9, (k : Int), 0⟩)) := a0
 generalize decide (m = ⟨9, (k : Int), 0⟩) = dd at *
 clear b6
 go_in
 go_wp2_with fail
 rw [← a3]
 clear a3
 go_region_held3 (fun w' => w'.cell? ⟨w.heap.size + 1, 4, none⟩ = some (.slice (some ⟨bc, oc, none⟩) 2 cc) ∧ w'.cell? ⟨bc, oc, none⟩ = some (.slice A1 0 c1) ∧ w'.cell? ⟨bc, oc + 1, none⟩ = some (.slice A2 n2 c2) ∧ w'.cell? ⟨bc, oc + 2, none⟩ = some (.slice (some ⟨b3, o3, none⟩) 1 c3) ∧ w'.cell? ⟨bc, oc + 2 + 1, none⟩ = some (.slice A4 n4 c4)) (exact c0.out _ (by (first | exact cF (Below.refl _ _) | exact cF (bY (Below.refl _ _) _) | exact cF (bY (bY (Below.refl _ _) _) _)))) (fail)
 all_goals
  go_wp2_with fail
  go_ret
  rw [HR.out]
  exact ⟨rfl, a1.out.trans (Below.mono (show Below W2.heap.size W2 _ from by (first | exact cF (Below.refl _ _) | exact cF (bY (Below.refl _ _) _) | exact cF (bY (bY (Below.refl _ _) _) _))) b7)⟩
end
section
open Go.Lib (hid)
open Go.RowKit Go.Maps
theorem iH.look {P : Program} {k t e : TypeId} {w : World} {b n : Nat} {g : GF} (h : iH P k e w b n g) (K : kL P k t e) (l r : Int) (hl : (Lit.int .i64 l).wf = true) (hr : (Lit.int .i64 r).wf = true) :
 (Instr.lookup t (.map (some b)) (.agg #[.int .i64 l, .int .i64 r]) false).run P w = .ok (.int .i64 ((g l r).getD 0)) w := by
 obtain ⟨D, h1, h2⟩ := h
 obtain ⟨kl, hk⟩ := K.key l r hl hr
 obtain ⟨e1, e2⟩ := h2 l r kl hk
 obtain ⟨c, a0, hc, _⟩ := h1.lookup_int K.keyed K.ht K.he (K.hz w) hk
 rw [hc] at e2
 injection e2 with e2
 injection e2 with _ e2
 rw [a0, e2]
theorem wY {P : Program} {k t e : TypeId} {w : World} {b n : Nat} {g : GF} {o : Oper} {a : Act} {K' : Act → World → Prop} {Q : Exit → Act → World → Prop}
 (m x v : Operand) (hop : o.op = Op.mapUpdate t m x v) (K : kL P k t e) (hm : a.eval m = .map (some b)) (hown : iH P k e w b n g) (hn : n < 100000000000000) (l r z : Int) (hx : a.eval x = .agg #[.int .i64 l, .int .i64 r]) (hl : (Lit.int .i64 l).wf = true) (hr : (Lit.int .i64 r).wf = true) (hv : a.eval v = .int .i64 z) (hzw : (Lit.int .i64 z).wf = true)
 (hK : ∀ w', iH P k e w' b (n + 1) (gB g l r z) → w.grownBy w' (some b) → K' (a.put o.dst undef) w') : Oper.wp P o a w K' Q := by
 obtain ⟨D, h1, h2⟩ := hown
 obtain ⟨kl, hk⟩ := K.key l r hl hr
 obtain ⟨w', a0, r1, r2⟩ := h1.update K.keyed K.ht (by unfold maxLen; omega) hk (plainElem_int K.he hzw)
 unfold Oper.wp
 simp [execOp, hop, hm, hx, hv, a0, Result.andThen]
 exact hK _ (iH.set_ K h1 h2 hk r1) r2
abbrev DR (w : World) (b n : Nat) (g : GF) : Prop := iH Tryz.prog 69 3 w b n g
def RQ (g : GF) : Prop := ∀ l r, g l r = none ∨ g l r = some 1
theorem RQ.upd {g : GF} (h : RQ g) (l r : Int) : RQ (gB g l r 1) := fun l' r' => by
 unfold gB
 split
 · exact .inr rfl
 exact h l' r'
theorem CO {b : Bk} {p : Int × Int} {r : List (Int × Int)} {g : GF} : iX b (p :: r) g = if p.1 < 0 then false
 else if (b.entries.length : Int) ≤ p.1 then false
 else if (bK b p.1).kind ≠ 2 then false
 else if p.2 < 1 then false
 else if 3 < p.2 then false
 else if 0 < (g p.1 (-1)).getD 0 + (g (-1) p.2).getD 0 then false
 else iX b r (gB (gB g p.1 (-1) 1) (-1) p.2 1) := rfl
theorem tE {W : World} (t t' : TypeId) (cs cs' : Array Value) : aS ((W.alloc (.cells cs t)).alloc (.cells cs' t')).drew (W.heap.size + 1) t' cs' := by
 have h := aS.new (W.alloc (.cells cs t)) t' cs'
 rw [show (W.alloc (.cells cs t)).heap.size = W.heap.size + 1 from by simp] at h
 exact h.drewN 1
set_option maxRecDepth 100000 in
set_option maxHeartbeats 16000000 in
theorem uE {w : World} {v : bO} {b : Bk} (hb : bX w v b) :
 Calls Tryz.prog 50 #[.agg #[.int .i64 b.vars, .slice v.Ao v.no v.co, .slice v.Ae v.ne v.ce, .int .i64 b.nat, .slice v.Ap v.np v.cp]] w (gC (FJ b) w) := by
 have b7 := hb.entries.len
 have a3 := hb.prims.len
 have b6 := hb.prims.few
 have h1 := hid (fun (k : Nat) (h : k < v.ne) => hb.entries.at_ (k := k) h)
 have a5 := hid (fun (w' : World) (h : Below w.heap.size w w') => CF (hb.below h) b.nat)
 have g2 := hid (fun (w' : World) (h : Below w.heap.size w w') => hb.prims.below h)
 have i8 := hid hb.primsw
 have a7 := hid (aP w (.cells #[.int .i64 b.vars, .slice v.Ao v.no v.co, .slice v.Ae v.ne v.ce, .int .i64 b.nat, .slice v.Ap v.np v.cp] 26))
 have g8 := hid (aS.new w 26 #[.int .i64 b.vars, .slice v.Ao v.no v.co, .slice v.Ae v.ne v.ce, .int .i64 b.nat, .slice v.Ap v.np v.cp])
 have a1 : Hid (FJ b = if b.nat ≠ -1 then (if zJ b b.nat then iX b b.prims (fun _ _ => none) else false) else if 0 < b.prims.length then false else true) := hid rfl
 have k0 := @run_makeMap Tryz.prog
 generalize FJ b = res at *
 rw [a3] at a1
 have g5 := hid b7
 have d8 := hid a3
 obtain ⟨Ao, no, co, Ae, ne, ce, Ap, np, cp⟩ := v
 simp only at h1 a5 g2 a7 g8 a1 g5 d8 b6 ⊢
 clear hb b7 a3
 generalize b.vars = bv at *
 generalize b.nat = bn at *
 by_cases hn : bn = -1
 · have d1 : (bn != -1) = false := by simpa using hn
   have d2 : (bn == -1) = true := by simpa using hn
   rw [if_neg (by simpa using hn)] at a1
   clear hn
   by_cases h0 : 0 < np
   · have d3 : decide ((np : Int) > 0) = true := decide_eq_true (by omega)
     have d3' : decide (0 < np) = true := decide_eq_true h0
     rw [if_pos h0] at a1
     clear h0
     go_in
     go_wp2_with fail
     go_ret
     rw [a1.out]
     exact ⟨rfl, a7.out⟩
   have d3 : decide ((np : Int) > 0) = false := decide_eq_false (by omega)
   have d3' : decide (0 < np) = false := decide_eq_false h0
   rw [if_neg h0] at a1
   have j6 := hid (a7.out.alloc a7.out.size (.map #[] 0))
   clear h0
   go_in
   go_wp2_with fail
   go_loopw [33] (fun iv wr => iv = .int .i64 0 ∧ Hid (Below w.heap.size w wr)) (fun i _ => 0)
   case atStart => exact ⟨rfl, j6⟩
   case round =>
    obtain ⟨rfl, b4⟩ := hrel
    go_wp2_with fail
    go_ret
    rw [a1.out]
    exact ⟨rfl, b4.out⟩
 have d1 : (bn != -1) = true := by simpa using hn
 rw [if_pos hn] at a1
 have d2 : (bn == -1) = false := by simpa using hn
 clear hn
 obtain ⟨nb, f3⟩ : ∃ nb, nb = zJ b bn := ⟨_, rfl⟩
 rw [← f3] at a5 a1
 clear f3
 cases nb with
 | false =>
  rw [if_neg (by simp)] at a1
  go_in
  go_wp2_with fail
  refine (a5.out _ a7.out).mono ?_
  rintro e w2 ⟨rfl, b5⟩
  have c2 := bZ a7 b5
  clear b5
  go_wp2_with fail
  go_ret
  rw [a1.out]
  exact ⟨rfl, c2.out⟩
 | true =>
  rw [if_pos rfl] at a1
  go_in
  go_wp2_with fail
  refine (a5.out _ a7.out).mono ?_
  rintro e w2 ⟨rfl, b5⟩
  have c2 := bZ a7 b5
  have e2 := hid (aS.below g8.out b5 (by simp))
  have g3 : Hid (DR (w2.alloc (.map #[] 0)) w2.heap.size 0 (fun _ _ => none)) := hid (iH.made w2 Tryz.prog 69 3)
  have j7 := hid (c2.out.alloc c2.out.size (.map #[] 0))
  have j3 := hid (e2.out.alloc (.map #[] 0))
  have i2 := c2.out.size
  have i0 := e2.out.lt
  have h6 := aS.cell e2.out
  clear b5
  go_wp2_with fail
  clear h6
  obtain ⟨bm, b9⟩ : ∃ bm, bm = w2.heap.size := ⟨_, rfl⟩
  rw [← b9] at g3 i2 i0 ⊢
  clear b9
  go_loopw [33] (fun iv wr => ∃ (i : Nat) (g : GF), iv = .int .i64 (i : Int) ∧ i ≤ np ∧ Hid (iX b (b.prims.drop i) g = res) ∧ Hid (RQ g) ∧ Hid (DR wr bm (2 * i) g) ∧ Hid (aS wr w.heap.size 26 #[.int .i64 bv, .slice Ao no co, .slice Ae ne ce, .int .i64 bn, .slice Ap np cp]) ∧ Hid (Below w.heap.size w wr)) (fun i _ => np - (intOf i).toNat)
  case atStart => exact ⟨0, _, rfl, by omega, hid a1.out.symm, hid (fun _ _ => .inl rfl), g3, j3, j7⟩
  case round =>
   obtain ⟨i, g, rfl, hi, c9, b0, hm, i3, b4⟩ := hrel
   by_cases hlt : i < np
   case neg =>
    have d7 : Hid (res = true) := hid (by
     have := c9.out
     rw [List.drop_of_length_le (by rw [d8.out]; omega)] at this
     exact this.symm)
    go_wp2_with fail
    go_ret
    rw [d7.out]
    exact ⟨rfl, b4.out⟩
   obtain ⟨bp, op, rfl, k1, f4⟩ := (g2.out wr b4.out).mem (by omega)
   obtain ⟨g1, g0⟩ := f4 i hlt
   have f9 : i < b.prims.length := by rw [d8.out]; exact hlt
   obtain ⟨p, hp⟩ : ∃ p, p = b.prims.getD i (0, 0) := ⟨_, rfl⟩
   have d0 : b.prims[i] = p := by rw [hp, List.getD_eq_getElem?_getD, List.getElem?_eq_getElem f9]; rfl
   obtain ⟨a9, a8⟩ := i8.out p (by rw [← d0]; exact List.getElem_mem _)
   rw [← hp] at g1 g0
   have hq := c9.out
   rw [List.drop_eq_getElem_cons f9, d0, CO, g5.out] at hq
   obtain ⟨p1, p2⟩ := p
   simp only at g1 g0 a9 a8 hq
   have HQ := hid hq
   obtain ⟨n0, d5⟩ : ∃ n0, n0 = 2 * i := ⟨_, rfl⟩
   rw [← d5] at hm
   obtain ⟨W5, b2⟩ : ∃ W5, W5 = wr.alloc (.cells #[.int .i64 p1, .int .i64 p2] 69) := ⟨_, rfl⟩
   have h5 : Hid (Below w.heap.size w W5) := hid (by rw [b2]; exact b4.out.alloc b4.out.size _)
   have g4 : Hid (DR W5 bm n0 g) := hid (by rw [b2]; exact hm.out.alloc _)
   have e1 : Hid (aS W5 w.heap.size 26 #[.int .i64 bv, .slice Ao no co, .slice Ae ne ce, .int .i64 bn, .slice (some ⟨bp, op, none⟩) np cp]) := hid (by rw [b2]; exact i3.out.alloc _)
   have z5 : ∀ k, W5.cell? ⟨wr.heap.size, k, none⟩ = (#[.int .i64 p1, .int .i64 p2] : Array Value)[k]? := by rw [b2]; exact aS.cell (aS.new wr 69 #[.int .i64 p1, .int .i64 p2])
   have a0 : wr.heap.size < W5.heap.size := by rw [b2]; simp
   have j9 := aS.cell e1.out
   have i1 := g4.out.lt
   have i7 : Hid (∀ w', Below W5.heap.size W5 w' → w'.cell? ⟨wr.heap.size, 0, none⟩ = some (.int .i64 p1) ∧ w'.cell? ⟨wr.heap.size, 1, none⟩ = some (.int .i64 p2)) := hid (fun w' h => ⟨(h.cell (p := ⟨wr.heap.size, 0, none⟩) a0).trans (z5 0), (h.cell (p := ⟨wr.heap.size, 1, none⟩) a0).trans (z5 1)⟩)
   clear f4 hp d0 hq hm c9
   go_upto_region 7 with fail
   rw [← b2]
   clear b2
   go_cut [6, 7] (fun v6 v7 wx => ∃ g6 g7, v6 = .pointer (some ⟨g6, 0, none⟩) ∧ v7 = .pointer (some ⟨g7, 0, none⟩) ∧ Hid (aS wx g6 69 #[.int .i64 p1, .int .i64 (-1)]) ∧ Hid (aS wx g7 69 #[.int .i64 (-1), .int .i64 p2]) ∧ Hid (Below W5.heap.size W5 wx) ∧ W5.heap.size ≤ g6 ∧ W5.heap.size ≤ g7)
   case first =>
    go_region_held3 (fun w' => w'.cell? ⟨wr.heap.size, 0, none⟩ = some (.int .i64 p1) ∧ w'.cell? ⟨wr.heap.size, 1, none⟩ = some (.int .i64 p2)) (exact i7.out _ (by (first | exact cF (Below.refl _ _) | exact cF (bY (Below.refl _ _) _) | exact cF (bY (bY (Below.refl _ _) _) _)))) (fail)
    · go_wp2_with fail
      go_meet
      exact ⟨W5.heap.size, W5.heap.size + 1, rfl, rfl, hid (((aS.new W5 69 #[.int .i64 p1, .int .i64 (-1)]).alloc _).drewN 1), hid (tE 69 69 #[.int .i64 p1, .int .i64 (-1)] #[.int .i64 (-1), .int .i64 p2]), hid (cF (bY (bY (Below.refl _ _) _) _)), by omega, by omega⟩
    go_wp2_with fail
    go_meet
    exact ⟨W5.heap.size + 1, W5.heap.size, rfl, rfl, hid (tE 69 69 #[.int .i64 (-1), .int .i64 p2] #[.int .i64 p1, .int .i64 (-1)]), hid (((aS.new W5 69 #[.int .i64 (-1), .int .i64 p2]).alloc _).drewN 1), hid (cF (bY (bY (Below.refl _ _) _) _)), by omega, by omega⟩
   case rest =>
   obtain ⟨g6, g7, rfl, rfl, k6, k7, HX, k3, k2⟩ := hcut
   obtain ⟨WX, rfl⟩ : ∃ x : World, x = wc := ⟨_, rfl⟩
   have HW := hid (cF HX.out)
   have c4 := hid (h5.out.trans (HW.out.mono h5.out.size))
   have e0 : Hid (aS WX.drew w.heap.size 26 #[.int .i64 bv, .slice Ao no co, .slice Ae ne ce, .int .i64 bn, .slice (some ⟨bp, op, none⟩) np cp]) := hid (aS.below e1.out HW.out e1.out.lt)
   have d9 : Hid (DR WX bm n0 g) := hid (g4.out.kept (mL HX.out none) (by simp))
   obtain ⟨V1, c0⟩ : ∃ V, V = (g p1 (-1)).getD 0 := ⟨_, rfl⟩
   obtain ⟨V2, c3⟩ : ∃ V, V = (g (-1) p2).getD 0 := ⟨_, rfl⟩
   have e8 : V1 = 0 ∨ V1 = 1 := by rw [c0]; rcases b0.out p1 (-1) with h | h <;> rw [h] <;> simp
   have e7 : V2 = 0 ∨ V2 = 1 := by rw [c3]; rcases b0.out (-1) p2 with h | h <;> rw [h] <;> simp
   have lk1 := (show DR WX.drew bm n0 g from d9.out).look sO p1 (-1) a9 (cG (by omega) (by omega))
   have lk2 := (show DR WX.drew bm n0 g from d9.out).look sO (-1) p2 (cG (by omega) (by omega)) a8
   rw [← c0] at lk1
   rw [← c3] at lk2
   obtain ⟨bad, b1⟩ : ∃ bad, bad = !(decide (0 ≤ p1 ∧ p1 < (ne : Int) ∧ (bK b p1).kind = 2 ∧ 1 ≤ p2 ∧ p2 ≤ 3 ∧ V1 + V2 ≤ 0)) := ⟨_, rfl⟩
   have a2 := hid b1
   have a4 : Hid (res = if bad then false else iX b (b.prims.drop (i + 1)) (gB (gB g p1 (-1) 1) (-1) p2 1)) := hid (by
    rw [← HQ.out, b1, ← c0, ← c3]
    by_cases hk : 0 ≤ p1 ∧ p1 < (ne : Int) ∧ (bK b p1).kind = 2 ∧ 1 ≤ p2 ∧ p2 ≤ 3 ∧ V1 + V2 ≤ 0
    · rw [decide_eq_true hk, if_neg (by omega), if_neg (by omega), if_neg (by simpa using hk.2.2.1), if_neg (by omega), if_neg (by omega), if_neg (by omega)]
      rfl
    rw [decide_eq_false hk]
    repeat' split
    all_goals first | rfl | (exfalso; apply hk; omega) | (exfalso; simp_all; done))
   have i6 := hid c0
   clear c0 c3 b1 HQ
   go_upto_region 8 with fail
   go_cut [83] (fun bv2 wx => bv2 = .bool bad ∧ wx = WX.drew)
   case first =>
    by_cases h0 : 0 ≤ p1 ∧ p1 < (ne : Int)
    case neg =>
     have HT : Hid (bad = true) := hid (by rw [a2.out, decide_eq_false (fun h => h0 ⟨h.1, h.2.1⟩)]; rfl)
     have hc : p1 < 0 ∨ (0 ≤ p1 ∧ (ne : Int) ≤ p1) := by omega
     clear h0 a2
     rcases hc with h | ⟨h, h2⟩
     case' inl =>
      have d3 : decide (p1 < 0) = true := decide_eq_true h
     case' inr =>
      have d3 : decide (p1 < 0) = false := decide_eq_false (by omega)
     all_goals
      refine wp_region_held_drew (S := (fun w' => w'.cell? ⟨wr.heap.size, 0, none⟩ = some (.int .i64 p1) ∧ w'.cell? ⟨wr.heap.size, 1, none⟩ = some (.int .i64 p2) ∧ w'.cell? ⟨w.heap.size, 2, none⟩ = some (.slice Ae ne ce))) (by kernel_rfl) ?_ (fun hHeld => ?_)
      · (try dsimp only); exact ⟨(HW.out.cell (p := ⟨wr.heap.size, 0, none⟩) a0).trans (z5 0), (HW.out.cell (p := ⟨wr.heap.size, 1, none⟩) a0).trans (z5 1), e0.out.cell 2⟩
      first | refine tq 0 hHeld ?_ | refine dk 0 hHeld ?_
      try simp only [p7]
      first | refine tq 1 hHeld ?_ | refine dk 1 hHeld ?_
      try simp only [p7]
      first | refine tq 2 hHeld ?_ | refine dk 2 hHeld ?_
      try simp only [p7]
      first | refine tq 3 hHeld ?_ | refine dk 3 hHeld ?_
      try simp only [p7]
      first | refine tq 4 hHeld ?_ | refine dk 4 hHeld ?_
      try simp only [p7]
      first | refine tq 5 hHeld ?_ | refine dk 5 hHeld ?_
      try simp only [p7]
      first | refine tq 6 hHeld ?_ | refine dk 6 hHeld ?_
      try simp only [p7]
      first | refine tq 7 hHeld ?_ | refine dk 7 hHeld ?_
      try simp only [p7]
      first | refine tq 8 hHeld ?_ | refine dk 8 hHeld ?_
      try simp only [p7]
      first | refine tq 9 hHeld ?_ | refine dk 9 hHeld ?_
      try simp only [p7]
      first | refine tq 10 hHeld ?_ | refine dk 10 hHeld ?_
      try simp only [p7]
      first | refine tq 11 hHeld ?_ | refine dk 11 hHeld ?_
      try simp only [p7]
      first | refine tq 12 hHeld ?_ | refine dk 12 hHeld ?_
      try simp only [p7]
      first | refine tq 13 hHeld ?_ | refine dk 13 hHeld ?_
      try simp only [p7]
      first | refine tq 14 hHeld ?_ | refine dk 14 hHeld ?_
      try simp only [p7]
      first | refine tq 15 hHeld ?_ | refine dk 15 hHeld ?_
      try simp only [p7]
      first | refine tq 16 hHeld ?_ | refine dk 16 hHeld ?_
      try simp only [p7]
      first | refine tq 17 hHeld ?_ | refine dk 17 hHeld ?_
      try simp only [p7]
      first | refine tq 18 hHeld ?_ | refine dk 18 hHeld ?_
      try simp only [p7]
      first | refine tq 19 hHeld ?_ | refine dk 19 hHeld ?_
      try simp only [p7]
      first | refine tq 20 hHeld ?_ | refine dk 20 hHeld ?_
      try simp only [p7]
      first | refine tq 21 hHeld ?_ | refine dk 21 hHeld ?_
      try simp only [p7]
      first | refine tq 22 hHeld ?_ | refine dk 22 hHeld ?_
      try simp only [p7]
      first | refine tq 23 hHeld ?_ | refine dk 23 hHeld ?_
      try simp only [p7]
      first | refine tq 24 hHeld ?_ | refine dk 24 hHeld ?_
      try simp only [p7]
      first | refine tq 25 hHeld ?_ | refine dk 25 hHeld ?_
      try simp only [p7]
      first | refine tq 26 hHeld ?_ | refine dk 26 hHeld ?_
      try simp only [p7]
      first | refine tq 27 hHeld ?_ | refine dk 27 hHeld ?_
      try simp only [p7]
      first | refine tq 28 hHeld ?_ | refine dk 28 hHeld ?_
      try simp only [p7]
      first | refine tq 29 hHeld ?_ | refine dk 29 hHeld ?_
      try simp only [p7]
      first | refine tq 30 hHeld ?_ | refine dk 30 hHeld ?_
      try simp only [p7]
      first | refine tq 31 hHeld ?_ | refine dk 31 hHeld ?_
      try simp only [p7]
      first | refine tq 32 hHeld ?_ | refine dk 32 hHeld ?_
      try simp only [p7]
      first | refine tq 33 hHeld ?_ | refine dk 33 hHeld ?_
      try simp only [p7]
      first | refine tq 34 hHeld ?_ | refine dk 34 hHeld ?_
      try simp only [p7]
      first | refine tq 35 hHeld ?_ | refine dk 35 hHeld ?_
      try simp only [p7]
      first | refine tq 36 hHeld ?_ | refine dk 36 hHeld ?_
      try simp only [p7]
      first | refine tq 37 hHeld ?_ | refine dk 37 hHeld ?_
      try simp only [p7]
      first | refine tq 38 hHeld ?_ | refine dk 38 hHeld ?_
      try simp only [p7]
      first | refine tq 39 hHeld ?_ | refine dk 39 hHeld ?_
      try simp only [p7]
      first | refine tq 40 hHeld ?_ | refine dk 40 hHeld ?_
      try simp only [p7]
      refine wpAnyH_done (by kernel_rfl) ?_ _
      go_wp2_with fail
      go_meet
      exact ⟨by rw [HT.out], rfl⟩
    obtain ⟨h8, d4⟩ := h0
    obtain ⟨ke, f7⟩ : ∃ ke : Nat, p1 = (ke : Int) := ⟨p1.toNat, by omega⟩
    obtain ⟨be, oe, i5, i4, ev, d6, _⟩ := h1.out ke (by omega)
    subst i5
    rw [show b.entries.getD ke default = bK b p1 from by unfold bK; rw [f7, Int.toNat_natCast]] at d6
    obtain ⟨kd, f8⟩ : ∃ kd, kd = (bK b p1).kind := ⟨_, rfl⟩
    rw [← f8] at a2 d6
    subst f7
    have d3 : decide ((ke : Int) < 0) = false := decide_eq_false (by omega)
    have d4' : decide (ne ≤ ke) = false := decide_eq_false (by omega)
    have d4i : (ke : Int) < (ne : Int) := by omega
    have dV : IntKind.i64.wrap (V1 + V2) = V1 + V2 := by rw [IntKind.wrap_i64]; omega
    have a6 : bad = ((kd != 2) || (decide (p2 < 1) || (decide (p2 > 3) || decide (V1 + V2 > 0)))) := by
     rw [a2.out, Bool.eq_iff_iff]
     simp only [Bool.not_eq_true', decide_eq_false_iff_not, Bool.or_eq_true, bne_iff_ne, decide_eq_true_eq, ne_eq]
     omega
    have h3 := hid a6
    obtain ⟨t3, f2⟩ : ∃ t, t = (kd != 2) := ⟨_, rfl⟩
    obtain ⟨t4, f1⟩ : ∃ t, t = decide (p2 < 1) := ⟨_, rfl⟩
    obtain ⟨t5, f0⟩ : ∃ t, t = decide (p2 > 3) := ⟨_, rfl⟩
    obtain ⟨t6, e9⟩ : ∃ t, t = decide (V1 + V2 > 0) := ⟨_, rfl⟩
    have e3 := f2.symm
    have e4 := f1.symm
    have e5 := f0.symm
    have e6 := e9.symm
    rw [e3, e4, e5, e6] at h3
    clear a6 f2 f1 f0 e9 a2 f8 e8 e7 i6 a4 h8 d4
    cases t3 <;> cases t4 <;> cases t5
    all_goals
     refine wp_region_held_drew (S := (fun w' => w'.cell? ⟨wr.heap.size, 0, none⟩ = some (.int .i64 (ke : Int)) ∧ w'.cell? ⟨wr.heap.size, 1, none⟩ = some (.int .i64 p2) ∧ w'.cell? ⟨w.heap.size, 2, none⟩ = some (.slice (some ⟨be, oe, none⟩) ne ce) ∧ w'.cell? ⟨be, oe + ke * 7, none⟩ = some (.int .i64 kd) ∧ w'.cell? ⟨g6, 0, none⟩ = some (.int .i64 (ke : Int)) ∧ w'.cell? ⟨g6, 1, none⟩ = some (.int .i64 (-1)) ∧ w'.cell? ⟨g7, 0, none⟩ = some (.int .i64 (-1)) ∧ w'.cell? ⟨g7, 1, none⟩ = some (.int .i64 p2) ∧ (Instr.lookup 142 (.map (some bm)) (.agg #[.int .i64 (ke : Int), .int .i64 (-1)]) false).run Tryz.prog w' = .ok (.int .i64 V1) w' ∧ (Instr.lookup 142 (.map (some bm)) (.agg #[.int .i64 (-1), .int .i64 p2]) false).run Tryz.prog w' = .ok (.int .i64 V2) w')) (by kernel_rfl) ?_ (fun hHeld => ?_)
     · (try dsimp only); exact ⟨(HW.out.cell (p := ⟨wr.heap.size, 0, none⟩) a0).trans (z5 0), (HW.out.cell (p := ⟨wr.heap.size, 1, none⟩) a0).trans (z5 1), e0.out.cell 2, (c4.out.cell (p := ⟨be, oe + ke * 7, none⟩) i4).trans d6, k6.out.cell 0, k6.out.cell 1, k7.out.cell 0, k7.out.cell 1, lk1, lk2⟩
     first | refine tq 0 hHeld ?_ | refine dk 0 hHeld ?_
     try simp only [p7]
     first | refine tq 1 hHeld ?_ | refine dk 1 hHeld ?_
     try simp only [p7]
     first | refine tq 2 hHeld ?_ | refine dk 2 hHeld ?_
     try simp only [p7]
     first | refine tq 3 hHeld ?_ | refine dk 3 hHeld ?_
     try simp only [p7]
     first | refine tq 4 hHeld ?_ | refine dk 4 hHeld ?_
     try simp only [p7]
     first | refine tq 5 hHeld ?_ | refine dk 5 hHeld ?_
     try simp only [p7]
     first | refine tq 6 hHeld ?_ | refine dk 6 hHeld ?_
     try simp only [p7]
     first | refine tq 7 hHeld ?_ | refine dk 7 hHeld ?_
     try simp only [p7]
     first | refine tq 8 hHeld ?_ | refine dk 8 hHeld ?_
     try simp only [p7]
     first | refine tq 9 hHeld ?_ | refine dk 9 hHeld ?_
     try simp only [p7]
     first | refine tq 10 hHeld ?_ | refine dk 10 hHeld ?_
     try simp only [p7]
     first | refine tq 11 hHeld ?_ | refine dk 11 hHeld ?_
     try simp only [p7]
     first | refine tq 12 hHeld ?_ | refine dk 12 hHeld ?_
     try simp only [p7]
     first | refine tq 13 hHeld ?_ | refine dk 13 hHeld ?_
     try simp only [p7]
     first | refine tq 14 hHeld ?_ | refine dk 14 hHeld ?_
     try simp only [p7]
     first | refine tq 15 hHeld ?_ | refine dk 15 hHeld ?_
     try simp only [p7]
     first | refine tq 16 hHeld ?_ | refine dk 16 hHeld ?_
     try simp only [p7]
     first | refine tq 17 hHeld ?_ | refine dk 17 hHeld ?_
     try simp only [p7]
     first | refine tq 18 hHeld ?_ | refine dk 18 hHeld ?_
     try simp only [p7]
     first | refine tq 19 hHeld ?_ | refine dk 19 hHeld ?_
     try simp only [p7]
     first | refine tq 20 hHeld ?_ | refine dk 20 hHeld ?_
     try simp only [p7]
     first | refine tq 21 hHeld ?_ | refine dk 21 hHeld ?_
     try simp only [p7]
     first | refine tq 22 hHeld ?_ | refine dk 22 hHeld ?_
     try simp only [p7]
     first | refine tq 23 hHeld ?_ | refine dk 23 hHeld ?_
     try simp only [p7]
     first | refine tq 24 hHeld ?_ | refine dk 24 hHeld ?_
     try simp only [p7]
     first | refine tq 25 hHeld ?_ | refine dk 25 hHeld ?_
     try simp only [p7]
     first | refine tq 26 hHeld ?_ | refine dk 26 hHeld ?_
     try simp only [p7]
     first | refine tq 27 hHeld ?_ | refine dk 27 hHeld ?_
     try simp only [p7]
     first | refine tq 28 hHeld ?_ | refine dk 28 hHeld ?_
     try simp only [p7]
     first | refine tq 29 hHeld ?_ | refine dk 29 hHeld ?_
     try simp only [p7]
     first | refine tq 30 hHeld ?_ | refine dk 30 hHeld ?_
     try simp only [p7]
     first | refine tq 31 hHeld ?_ | refine dk 31 hHeld ?_
     try simp only [p7]
     first | refine tq 32 hHeld ?_ | refine dk 32 hHeld ?_
     try simp only [p7]
     first | refine tq 33 hHeld ?_ | refine dk 33 hHeld ?_
     try simp only [p7]
     first | refine tq 34 hHeld ?_ | refine dk 34 hHeld ?_
     try simp only [p7]
     first | refine tq 35 hHeld ?_ | refine dk 35 hHeld ?_
     try simp only [p7]
     first | refine tq 36 hHeld ?_ | refine dk 36 hHeld ?_
     try simp only [p7]
     first | refine tq 37 hHeld ?_ | refine dk 37 hHeld ?_
     try simp only [p7]
     first | refine tq 38 hHeld ?_ | refine dk 38 hHeld ?_
     try simp only [p7]
     first | refine tq 39 hHeld ?_ | refine dk 39 hHeld ?_
     try simp only [p7]
     first | refine tq 40 hHeld ?_ | refine dk 40 hHeld ?_
     try simp only [p7]
     refine wpAnyH_done (by kernel_rfl) ?_ _
     go_wp2_with fail
     go_meet
     exact ⟨by rw [h3.out]; simp, rfl⟩
   case rest =>
   obtain ⟨rfl, h7⟩ := hcut
   subst h7
   cases bad with
   | true =>
    have d7 : Hid (res = false) := hid (by rw [a4.out]; rfl)
    go_wp2_with fail
    go_ret
    rw [d7.out]
    exact ⟨rfl, c4.out⟩
   | false =>
    have i9 : Hid (iX b (b.prims.drop (i + 1)) (gB (gB g p1 (-1) 1) (-1) p2 1) = res) := hid (by rw [a4.out]; rfl)
    have c1 : Hid (RQ (gB (gB g p1 (-1) 1) (-1) p2 1)) := hid ((b0.out.upd _ _).upd _ _)
    have za := aS.cell k6.out
    have zb := aS.cell k7.out
    have h9 : n0 < 50000000000000 := by omega
    have j0 := hid d5
    clear a2 lk1 lk2 e8 e7 a4 d5
    go_wp2_with fail
    refine wp_region_held_drew (S := (fun w' => w'.cell? ⟨g6, 0, none⟩ = some (.int .i64 p1) ∧ w'.cell? ⟨g6, 1, none⟩ = some (.int .i64 (-1)) ∧ w'.cell? ⟨g7, 0, none⟩ = some (.int .i64 (-1)) ∧ w'.cell? ⟨g7, 1, none⟩ = some (.int .i64 p2))) (by kernel_rfl) ?_ (fun hHeld => ?_)
    · (try dsimp only); exact ⟨za 0, za 1, zb 0, zb 1⟩
    refine tq 0 hHeld ?_
    try simp only [p7]
    refine tq 1 hHeld ?_
    try simp only [p7]
    refine tq 2 hHeld ?_
    try simp only [p7]
    refine tq 3 hHeld ?_
    try simp only [p7]
    refine r1 4 fun K hK => ?_
    refine lI rfl (wY (.tmp 84) (.tmp 85) _ rfl sO (by rfl) (show DR WX.drew.drew bm n0 g from d9.out) (by omega) p1 (-1) 1 (by rfl) a9 (cG (by omega) (by omega)) (by rfl) (cG (by omega) (by omega)) ?_)
    intro w8 f6 b3
    have g9 := hid b3
    have c8 := fun i => (aS.cell (aS.grown (show aS WX.drew.drew _ _ _ from k6.out) b3 (by intro e; injection e with e; omega)) i)
    have c6 := fun i => (aS.cell (aS.grown (show aS WX.drew.drew _ _ _ from k7.out) b3 (by intro e; injection e with e; omega)) i)
    have j2 := hid f6
    have h4 := hid ((aT c4.out 1).grown b3 c4.out.size (fun g hg => by injection hg with hg; omega))
    have j5 := hid (aS.grown (show aS WX.drew.drew _ _ _ from e0.out) b3 (by intro e; injection e with e; omega))
    clear f6 b3
    refine hK.out _ _ (by exact ⟨c8 0, c8 1, c6 0, c6 1⟩) fun hHeld => ?_
    clear hK K
    try simp only [p7]
    refine r1 5 fun K hK => ?_
    refine lI rfl (wY (.tmp 86) (.tmp 87) _ rfl sO (by rfl) j2.out (by omega) (-1) p2 1 (by rfl) (cG (by omega) (by omega)) a8 (by rfl) (cG (by omega) (by omega)) ?_)
    intro w9 f5 b8
    have c7 := fun i => (aS.cell (aS.grown (aS.grown (show aS WX.drew.drew _ _ _ from k6.out) g9.out (by intro e; injection e with e; omega)) b8 (by intro e; injection e with e; omega)) i)
    have c5 := fun i => (aS.cell (aS.grown (aS.grown (show aS WX.drew.drew _ _ _ from k7.out) g9.out (by intro e; injection e with e; omega)) b8 (by intro e; injection e with e; omega)) i)
    have j1 := hid f5
    have j8 := hid (h4.out.grown b8 h4.out.size (fun g hg => by injection hg with hg; omega))
    have j4 := hid (aS.grown j5.out b8 (by intro e; injection e with e; omega))
    clear f5 b8
    refine hK.out _ _ (by exact ⟨c7 0, c7 1, c5 0, c5 1⟩) fun hHeld => ?_
    clear hK K
    try simp only [p7]
    refine wpAnyH_done (by kernel_rfl) ?_ _
    clear c8 c6 c7 c5 za zb hHeld
    go_wp2_with fail
    go_roundw
    case rel => exact ⟨i + 1, _, by go_num, by omega, i9, c1, hid (j1.out.mono (by have := j0.out; omega)), j4, j8⟩
    case measure => simp [intOf]; omega
end
end Go.Proofs.YtjoddliplahgkaaGreat
