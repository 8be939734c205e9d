/- The book of numbers. -/
import Derived.Test.YtjoddliplahgkaaDEntries
namespace Go.Proofs.Ytjoddliplahgkaa
open Go.Lib (hid)
open Go.RowKit
theorem bel_drew {B : Nat} {w w' : World} (h : Below B w w') : Below B w w'.drew := below_drewN h 1
theorem bel_alloc {w w' : World} (h : Below w.heap.size w w') (o : Obj) : Below w.heap.size w (w'.alloc o) := h.alloc h.size o
theorem eql_node (x y : Nd) (w : World) : (Go.binOp .eql 50 (.agg #[.int .i64 x.op, .int .i64 x.a, .int .i64 x.b]) (.agg #[.int .i64 y.op, .int .i64 y.a, .int .i64 y.b])).run Try.prog w = .ok (.bool (decide (x = y))) w := by
 obtain ⟨p, q, r⟩ := x
 obtain ⟨p', q', r'⟩ := y
 simp [go_sem]
 by_cases h1 : p = p' <;> by_cases h2 : q = q' <;> by_cases h3 : r = r' <;> simp [h1, h2, h3]
theorem neq_node (x y : Nd) (w : World) : (Go.binOp .neq 50 (.agg #[.int .i64 x.op, .int .i64 x.a, .int .i64 x.b]) (.agg #[.int .i64 y.op, .int .i64 y.a, .int .i64 y.b])).run Try.prog w = .ok (.bool (!decide (x = y))) w := by
 obtain ⟨p, q, r⟩ := x
 obtain ⟨p', q', r'⟩ := y
 simp [go_sem]
 by_cases h1 : p = p' <;> by_cases h2 : q = q' <;> by_cases h3 : r = r' <;> simp [h1, h2, h3]
set_option linter.unusedSimpArgs false in
set_option linter.unusedVariables false in
set_option maxRecDepth 100000 in
set_option maxHeartbeats 4000000 in
theorem numbers_any {w : World} {v : BkVal} {b : Bk} (hb : BookV w v b) (e : Int) :
 Calls Try.prog 67 #[.agg #[.int .i64 b.vars, .slice v.Ao v.no v.co, .slice v.Ae v.ne v.ce, .int .i64 b.nat, .slice v.Ap v.np v.cp], .int .i64 e] w (BoolP (numB b e) w) := by
 have hlen := hb.entries.len
 have hfew := hb.entries.few
 have HEN := hid (fun (k : Nat) (h : k < v.ne) => hb.entries.at_ (k := k) h)
 have HR0 : Hid (numB b e = if e < 0 then false
 else if (b.entries.length : Int) ≤ e then false
 else if (entB b e).kind ≠ 1 then false
 else if (entB b e).sort.length ≠ 2 then false
 else if (nth (entB b e).sort 0).a ≠ 1 then false
 else if nth (entB b e).sort 1 ≠ ⟨3, 0, 0⟩ then false
 else if 0 < (entB b e).params.length + (entB b e).indices.length then false
 else if (entB b e).ctors.length ≠ 2 then false
 else if ((entB b e).ctors.getD 0 default).args.length ≠ 0 then false
 else if ((entB b e).ctors.getD 1 default).args.length ≠ 1 then false
 else if (((entB b e).ctors.getD 1 default).args.getD 0 []).length ≠ 1 then false
 else decide (nth (((entB b e).ctors.getD 1 default).args.getD 0 []) 0 = ⟨9, e, 0⟩)) := hid rfl
 have HB0 := hid (below_alloc w (.cells #[.int .i64 b.vars, .slice v.Ao v.no v.co, .slice v.Ae v.ne v.ce, .int .i64 b.nat, .slice v.Ap v.np v.cp] 26))
 generalize numB b e = res at *
 rw [hlen] at HR0
 obtain ⟨Ao, no, co, Ae, ne, ce, Ap, np, cp⟩ := v
 simp only at HEN HB0 HR0 hfew ⊢
 clear hb hlen
 generalize b.vars = bv at *
 generalize b.nat = bn at *
 by_cases h1 : e < 0
 · have HR : Hid (res = false) := hid (by rw [HR0.out, if_pos h1])
   have d1 : decide (e < 0) = true := decide_eq_true h1
   clear h1 HR0 HEN
   go_in
   go_wp2_with fail
   go_ret
   rw [HR.out]
   exact ⟨rfl, HB0.out⟩
 have d1 : decide (e < 0) = false := decide_eq_false h1
 rw [if_neg h1] at HR0
 obtain ⟨k, rfl⟩ : ∃ k : Nat, e = (k : Int) := ⟨e.toNat, by omega⟩
 by_cases h2 : (ne : Int) ≤ (k : Int)
 · have HR : Hid (res = false) := hid (by rw [HR0.out, if_pos h2])
   have d2 : decide ((k : Int) ≥ (ne : Int)) = true := decide_eq_true h2
   have d2' : decide (ne ≤ k) = true := decide_eq_true (by omega)
   clear h1 h2 HR0 HEN
   go_in
   go_wp2_with fail
   go_ret
   rw [HR.out]
   exact ⟨rfl, HB0.out⟩
 have d2 : decide ((k : Int) ≥ (ne : Int)) = false := decide_eq_false h2
 have d2' : decide (ne ≤ k) = false := decide_eq_false (by omega)
 rw [if_neg h2] at HR0
 obtain ⟨be, oe, rfl, hbe, ev, hc0, hc1, hc2, hc3, hc4, hc5, hc6, hec⟩ := HEN.out k (by omega)
 rw [show b.entries.getD k default = entB b k from by unfold entB; rw [Int.toNat_natCast]] at hc0 hec
 have hkn : k < ne := by omega
 generalize entB b k = x at *
 clear h1 h2 HEN
 by_cases h3 : x.kind = 1
 case neg =>
  have HR : Hid (res = false) := hid (by rw [HR0.out, if_pos h3])
  have d3 : (x.kind != 1) = true := by simpa using h3
  clear h3 HR0 hec
  generalize x.kind = kd at *
  go_in
  go_wp2_with fail
  go_ret
  rw [HR.out]
  exact ⟨rfl, HB0.out⟩
 rw [h3] at hc0
 rw [if_neg (by simp [h3])] at HR0
 clear h3
 obtain ⟨As, ns, cs, Ap2, np2, cp2, Ai, ni, ci, Ac, nc, cc, At, nt, ct, Ab, nb, cb⟩ := ev
 have hs := hec.sort
 have hsl := hec.sort.len
 have hpl := hec.params.len
 have hil := hec.indices.len
 have hcl := hec.ctors.len
 have hpf := hec.params.few
 have hif := hec.indices.few
 have hct := hec.ctors
 simp only at hc1 hc2 hc3 hc4 hc5 hc6 hs hsl hpl hil hcl hpf hif hct
 clear hec
 rw [hsl, hpl, hil, hcl] at HR0
 have HBE := hid (HB0.out.alloc HB0.out.size (.cells #[.int .i64 1, .slice As ns cs, .slice Ap2 np2 cp2, .slice Ai ni ci, .slice Ac nc cc, .slice At nt ct, .slice Ab nb cb] 62))
 by_cases h4 : ns = 2
 case neg =>
  have HR : Hid (res = false) := hid (by rw [HR0.out, if_pos h4])
  have d4 : ((ns : Int) != 2) = true := by rw [bne_iff_ne]; omega
  clear h4 HR0 hs hct hsl hpl hil hcl
  go_in
  go_wp2_with fail
  go_ret
  rw [HR.out]
  exact ⟨rfl, HBE.out⟩
 subst h4
 rw [if_neg (by simp)] at HR0
 obtain ⟨bs, os, rfl, hbs, _, hs1, _⟩ := hs.at_ (p := 0) (by omega)
 obtain ⟨hbs', hsa, hsb, hsc⟩ := hs.cells (p := 1) (by omega)
 rw [Nat.zero_mul, Nat.add_zero] at hs1
 rw [Nat.one_mul] at hsa hsb hsc
 clear hs hbs'
 by_cases h5 : (nth x.sort 0).a = 1
 case neg =>
  have HR : Hid (res = false) := hid (by rw [HR0.out, if_pos h5])
  have d5 : ((nth x.sort 0).a != 1) = true := by simpa using h5
  clear h5 HR0 hct hsl hpl hil hcl
  generalize (nth x.sort 0).a = sa at *
  generalize nth x.sort 1 = sn at *
  go_in
  go_wp2_with fail
  go_ret
  rw [HR.out]
  exact ⟨rfl, HBE.out⟩
 rw [h5] at hs1
 rw [if_neg (by simp [h5])] at HR0
 clear h5
 generalize nth x.sort 1 = sn at *
 by_cases h6 : sn = ⟨3, 0, 0⟩
 case neg =>
  have HR : Hid (res = false) := hid (by rw [HR0.out, if_pos h6])
  have hn1 := fun w => (neq_node sn ⟨3, 0, 0⟩ w).trans (by simp only [h6, decide_false, Bool.not_false] : _ = Result.ok (Value.bool true) w)
  simp only at hn1
  clear h6 HR0 hct hsl hpl hil hcl
  go_in
  go_wp2_with fail
  go_ret
  rw [HR.out]
  exact ⟨rfl, HBE.out⟩
 rw [if_neg (by simp [h6])] at HR0
 subst h6
 simp only at hsa hsb hsc
 have hn1 := fun w => (neq_node ⟨3, 0, 0⟩ ⟨3, 0, 0⟩ w).trans (by simp only [decide_true, Bool.not_true] : _ = Result.ok (Value.bool false) w)
 simp only at hn1
 by_cases h7 : 0 < np2 + ni
 · have HR : Hid (res = false) := hid (by rw [HR0.out, if_pos h7])
   have d7 : decide ((np2 : Int) + (ni : Int) > 0) = true := decide_eq_true (by omega)
   clear h7 HR0 hct hsl hpl hil hcl
   go_in
   go_wp2_with fail
   go_ret
   rw [HR.out]
   exact ⟨rfl, HBE.out⟩
 rw [if_neg h7] at HR0
 have d7 : decide ((np2 : Int) + (ni : Int) > 0) = false := decide_eq_false (by omega)
 clear h7
 by_cases h8 : nc = 2
 case neg =>
  have HR : Hid (res = false) := hid (by rw [HR0.out, if_pos h8])
  have d8 : ((nc : Int) != 2) = true := by rw [bne_iff_ne]; omega
  clear h8 HR0 hct hsl hpl hil hcl
  go_in
  go_wp2_with fail
  go_ret
  rw [HR.out]
  exact ⟨rfl, HBE.out⟩
 subst h8
 rw [if_neg (by simp)] at HR0
 obtain ⟨bc, oc, rfl, hbc, hm⟩ := hct.mem (by omega)
 obtain ⟨A1, n1, c1, A2, n2, c2, hk1, hk2, hr1, _⟩ := hm 0 (by omega)
 obtain ⟨A3, n3, c3, A4, n4, c4, hk3, hk4, hr3, _⟩ := hm 1 (by omega)
 rw [Nat.zero_mul, Nat.add_zero] at hk1 hk2
 rw [Nat.one_mul] at hk3 hk4
 have hl1 := hr1.len
 have hl3 := hr3.len
 rw [hl1, hl3] at HR0
 generalize (x.ctors.getD 1 default).args = ar at *
 have hW : ∃ W2, W2 = (w.alloc (.cells #[.int .i64 bv, .slice Ao no co, .slice (some ⟨be, oe, none⟩) ne ce, .int .i64 bn, .slice Ap np cp] 26)).alloc (.cells #[.int .i64 1, .slice (some ⟨bs, os, none⟩) 2 cs, .slice Ap2 np2 cp2, .slice Ai ni ci, .slice (some ⟨bc, oc, none⟩) 2 cc, .slice At nt ct, .slice Ab nb cb] 62) := ⟨_, rfl⟩
 obtain ⟨W2, hW2⟩ := hW
 have HBW : Hid (Below w.heap.size w W2) := hid (by rw [hW2]; exact HBE.out)
 have hz4 : W2.cell? ⟨w.heap.size + 1, 4, none⟩ = some (.slice (some ⟨bc, oc, none⟩) 2 cc) := by
  rw [hW2]
  have h := Blk.cell (Blk.new (w.alloc (.cells #[.int .i64 bv, .slice Ao no co, .slice (some ⟨be, oe, none⟩) ne ce, .int .i64 bn, .slice Ap np cp] 26)) 62 #[.int .i64 1, .slice (some ⟨bs, os, none⟩) 2 cs, .slice Ap2 np2 cp2, .slice Ai ni ci, .slice (some ⟨bc, oc, none⟩) 2 cc, .slice At nt ct, .slice Ab nb cb]) 4
  rw [show (w.alloc (.cells #[.int .i64 bv, .slice Ao no co, .slice (some ⟨be, oe, none⟩) ne ce, .int .i64 bn, .slice Ap np cp] 26)).heap.size = w.heap.size + 1 from by simp] at h
  exact h
 have hgt : w.heap.size + 1 < W2.heap.size := by rw [hW2]; simp
 have gk1 := (HBW.out.cell (p := ⟨bc, oc, none⟩) hbc).trans hk1
 have gk2 := (HBW.out.cell (p := ⟨bc, oc + 1, none⟩) hbc).trans hk2
 have gk3 := (HBW.out.cell (p := ⟨bc, oc + 2, none⟩) hbc).trans hk3
 have gk4 := (HBW.out.cell (p := ⟨bc, oc + 2 + 1, none⟩) hbc).trans hk4
 clear hm hct hr1 hl1 hl3 hsl hpl hil hcl hk1 hk2 hk3 hk4
 have HSX : Hid (∀ w', Below W2.heap.size W2 w' → w'.cell? ⟨w.heap.size + 1, 4, none⟩ = some (.slice (some ⟨bc, oc, none⟩) 2 cc) ∧ w'.cell? ⟨bc, oc, none⟩ = some (.slice A1 n1 c1) ∧ w'.cell? ⟨bc, oc + 1, none⟩ = some (.slice A2 n2 c2) ∧ w'.cell? ⟨bc, oc + 2, none⟩ = some (.slice A3 n3 c3) ∧ w'.cell? ⟨bc, oc + 2 + 1, none⟩ = some (.slice A4 n4 c4)) := hid (fun w' h => by
  have hb2 : bc < W2.heap.size := by omega
  exact ⟨(h.cell (p := ⟨w.heap.size + 1, 4, none⟩) hgt).trans hz4, (h.cell (p := ⟨bc, oc, none⟩) hb2).trans gk1, (h.cell (p := ⟨bc, oc + 1, none⟩) hb2).trans gk2, (h.cell (p := ⟨bc, oc + 2, none⟩) hb2).trans gk3, (h.cell (p := ⟨bc, oc + 2 + 1, none⟩) hb2).trans gk4⟩)
 have hbw := HBW.out.size
 clear hz4 gk1 gk2 gk3 gk4
 by_cases h9 : n1 = 0
 case neg =>
  have HR : Hid (res = false) := hid (by rw [HR0.out, if_pos h9])
  have d9 : ((n1 : Int) == 0) = false := by rw [beq_eq_false_iff_ne]; omega
  clear h9 HR0 hr3
  go_in
  go_wp2_with fail
  rw [← hW2]
  clear hW2
  go_region_held3 (fun w' => w'.cell? ⟨w.heap.size + 1, 4, none⟩ = some (.slice (some ⟨bc, oc, none⟩) 2 cc) ∧ w'.cell? ⟨bc, oc, none⟩ = some (.slice A1 n1 c1) ∧ w'.cell? ⟨bc, oc + 1, none⟩ = some (.slice A2 n2 c2) ∧ w'.cell? ⟨bc, oc + 2, none⟩ = some (.slice A3 n3 c3) ∧ w'.cell? ⟨bc, oc + 2 + 1, none⟩ = some (.slice A4 n4 c4)) (exact HSX.out _ (by (first | exact bel_drew (Below.refl _ _) | exact bel_drew (bel_alloc (Below.refl _ _) _) | exact bel_drew (bel_alloc (bel_alloc (Below.refl _ _) _) _)))) (fail)
  all_goals
   go_wp2_with fail
   go_ret
   rw [HR.out]
   exact ⟨rfl, HBW.out.trans (Below.mono (show Below W2.heap.size W2 _ from by (first | exact bel_drew (Below.refl _ _) | exact bel_drew (bel_alloc (Below.refl _ _) _) | exact bel_drew (bel_alloc (bel_alloc (Below.refl _ _) _) _))) hbw)⟩
 subst h9
 rw [if_neg (by simp)] at HR0
 by_cases h10 : n3 = 1
 case neg =>
  have HR : Hid (res = false) := hid (by rw [HR0.out, if_pos h10])
  have d10 : ((n3 : Int) == 1) = false := by rw [beq_eq_false_iff_ne]; omega
  clear h10 HR0 hr3
  go_in
  go_wp2_with fail
  rw [← hW2]
  clear hW2
  go_region_held3 (fun w' => w'.cell? ⟨w.heap.size + 1, 4, none⟩ = some (.slice (some ⟨bc, oc, none⟩) 2 cc) ∧ w'.cell? ⟨bc, oc, none⟩ = some (.slice A1 0 c1) ∧ w'.cell? ⟨bc, oc + 1, none⟩ = some (.slice A2 n2 c2) ∧ w'.cell? ⟨bc, oc + 2, none⟩ = some (.slice A3 n3 c3) ∧ w'.cell? ⟨bc, oc + 2 + 1, none⟩ = some (.slice A4 n4 c4)) (exact HSX.out _ (by (first | exact bel_drew (Below.refl _ _) | exact bel_drew (bel_alloc (Below.refl _ _) _) | exact bel_drew (bel_alloc (bel_alloc (Below.refl _ _) _) _)))) (fail)
  all_goals
   go_wp2_with fail
   go_ret
   rw [HR.out]
   exact ⟨rfl, HBW.out.trans (Below.mono (show Below W2.heap.size W2 _ from by (first | exact bel_drew (Below.refl _ _) | exact bel_drew (bel_alloc (Below.refl _ _) _) | exact bel_drew (bel_alloc (bel_alloc (Below.refl _ _) _) _))) hbw)⟩
 subst h10
 rw [if_neg (by simp)] at HR0
 obtain ⟨b3, o3, A5, n5, c5, rfl, hb3, hk5, ht5⟩ := hr3.at_ (k := 0) (by omega)
 rw [Nat.add_zero] at hk5
 have hl5 := ht5.len
 generalize ar.getD 0 [] = l5 at *
 rw [hl5] at HR0
 have gk5 := (HBW.out.cell (p := ⟨b3, o3, none⟩) hb3).trans hk5
 have hb32 : b3 < W2.heap.size := by omega
 clear hr3 hl5
 by_cases h11 : n5 = 1
 case neg =>
  have HR : Hid (res = false) := hid (by rw [HR0.out, if_pos h11])
  have d11 : ((n5 : Int) == 1) = false := by rw [beq_eq_false_iff_ne]; omega
  clear h11 HR0 ht5
  go_in
  go_wp2_with fail
  rw [← hW2]
  clear hW2
  go_region_held3 (fun w' => w'.cell? ⟨w.heap.size + 1, 4, none⟩ = some (.slice (some ⟨bc, oc, none⟩) 2 cc) ∧ w'.cell? ⟨bc, oc, none⟩ = some (.slice A1 0 c1) ∧ w'.cell? ⟨bc, oc + 1, none⟩ = some (.slice A2 n2 c2) ∧ w'.cell? ⟨bc, oc + 2, none⟩ = some (.slice (some ⟨b3, o3, none⟩) 1 c3) ∧ w'.cell? ⟨bc, oc + 2 + 1, none⟩ = some (.slice A4 n4 c4)) (exact HSX.out _ (by (first | exact bel_drew (Below.refl _ _) | exact bel_drew (bel_alloc (Below.refl _ _) _) | exact bel_drew (bel_alloc (bel_alloc (Below.refl _ _) _) _)))) (fail)
  all_goals
   go_wp2_with fail
   go_ret
   rw [HR.out]
   exact ⟨rfl, HBW.out.trans (Below.mono (show Below W2.heap.size W2 _ from by (first | exact bel_drew (Below.refl _ _) | exact bel_drew (bel_alloc (Below.refl _ _) _) | exact bel_drew (bel_alloc (bel_alloc (Below.refl _ _) _) _))) hbw)⟩
 subst h11
 rw [if_neg (by simp)] at HR0
 obtain ⟨b5, o5, rfl, hb5, hm0, hm1, hm2⟩ := ht5.at_ (p := 0) (by omega)
 rw [Nat.zero_mul, Nat.add_zero] at hm0 hm1 hm2
 generalize nth l5 0 = m at *
 have gm0 := (HBW.out.cell (p := ⟨b5, o5, none⟩) hb5).trans hm0
 have gm1 := (HBW.out.cell (p := ⟨b5, o5 + 1, none⟩) hb5).trans hm1
 have gm2 := (HBW.out.cell (p := ⟨b5, o5 + 2, none⟩) hb5).trans hm2
 have hb52 : b5 < W2.heap.size := by omega
 have hn2 := fun w => eql_node m ⟨9, (k : Int), 0⟩ w
 simp only at hn2
 have HR : Hid (res = decide (m = ⟨9, (k : Int), 0⟩)) := HR0
 generalize decide (m = ⟨9, (k : Int), 0⟩) = dd at *
 clear ht5
 go_in
 go_wp2_with fail
 rw [← hW2]
 clear hW2
 go_region_held3 (fun w' => w'.cell? ⟨w.heap.size + 1, 4, none⟩ = some (.slice (some ⟨bc, oc, none⟩) 2 cc) ∧ w'.cell? ⟨bc, oc, none⟩ = some (.slice A1 0 c1) ∧ w'.cell? ⟨bc, oc + 1, none⟩ = some (.slice A2 n2 c2) ∧ w'.cell? ⟨bc, oc + 2, none⟩ = some (.slice (some ⟨b3, o3, none⟩) 1 c3) ∧ w'.cell? ⟨bc, oc + 2 + 1, none⟩ = some (.slice A4 n4 c4)) (exact HSX.out _ (by (first | exact bel_drew (Below.refl _ _) | exact bel_drew (bel_alloc (Below.refl _ _) _) | exact bel_drew (bel_alloc (bel_alloc (Below.refl _ _) _) _)))) (fail)
 all_goals
  go_wp2_with fail
  go_ret
  rw [HR.out]
  exact ⟨rfl, HBW.out.trans (Below.mono (show Below W2.heap.size W2 _ from by (first | exact bel_drew (Below.refl _ _) | exact bel_drew (bel_alloc (Below.refl _ _) _) | exact bel_drew (bel_alloc (bel_alloc (Below.refl _ _) _) _))) hbw)⟩
end Go.Proofs.Ytjoddliplahgkaa
