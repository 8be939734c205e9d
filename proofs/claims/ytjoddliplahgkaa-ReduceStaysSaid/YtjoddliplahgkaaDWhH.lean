/- retortlaw08: SizeCtx, heavy, awake. -/
import Derived.Test.YtjoddliplahgkaaDWhG
import Derived.Test.YtjoddliplahgkaaDSized
import Derived.Test.YtjoddliplahgkaaDDeeps
namespace Go.Proofs.Ytjoddliplahgkaa
open Go.Lib (hid)
set_option maxHeartbeats 4000000
set_option maxRecDepth 100000
set_option linter.unusedVariables false
set_option linter.unusedSimpArgs false
open Go.RowKit
def sizeCl (lid : Int) : Nat → List (List Nd × List Nd) → Nat
 | n, [] => n
 | n, x :: r => if (n : Int) < lid then sizeCl lid (n + 1 + x.1.length + x.2.length) r else n
theorem sizectx_any {w : World} {cA : Option Addr} {cn cc : Nat} {bs : List (List Nd × List Nd)} (hc : CtxB (· < w.heap.size) w cA cn cc bs) (lid : Int) (hlid : lid ≤ 1000000) :
 Calls Try.prog 18 #[.slice cA cn cc, .int .i64 lid] w (fun e w' => e = .returned (.int .i64 (sizeCl lid 0 bs : Int)) ∧ Below w.heap.size w w') := by
 have hlen := hc.len
 have hfew := hc.few
 have HC := hid hc
 have HLEN := hid hlen
 obtain ⟨res, hres⟩ : ∃ r, r = sizeCl lid 0 bs := ⟨_, rfl⟩
 rw [← hres]
 have HRES := hid hres
 clear hc hlen hres
 go_in
 go_wp2_with fail
 go_loopw [5, 6] (fun sv iv wr => ∃ i s : Nat, i ≤ cn ∧ s ≤ 20000000000000 ∧ iv = .int .i64 (i : Int) ∧ sv = .int .i64 (s : Int) ∧ Hid (res = sizeCl lid s (bs.drop i)) ∧ Hid (Below w.heap.size w wr)) (fun _ iv _ => cn - (intOf iv).toNat)
 case atStart => exact ⟨0, 0, by omega, by omega, rfl, rfl, hid HRES.out, hid (Below.refl _ _)⟩
 case round =>
  obtain ⟨i, s, hi, hs, rfl, rfl, hre, hbw⟩ := hrel
  by_cases hlt : i < cn
  rotate_left
  · have e1 : decide ((i : Int) < (cn : Int)) = false := decide_eq_false (by omega)
    have e2 : decide (i < cn) = false := decide_eq_false hlt
    have HR : Hid (res = s) := hid (by
     have h := hre.out
     rw [List.drop_of_length_le (by rw [HLEN.out]; omega)] at h
     exact h)
    have HBW := hid hbw.out
    clear hre hbw hlt
    go_wp2_with fail
    go_ret
    rw [HR.out]
    exact ⟨rfl, HBW.out⟩
  have e1 : decide ((i : Int) < (cn : Int)) = true := decide_eq_true (by omega)
  have e2 : decide (i < cn) = true := decide_eq_true hlt
  have e3 : (i : Int) < (cn : Int) := by omega
  have il : i < bs.length := by rw [HLEN.out]; exact hlt
  have hdr : bs.drop i = bs.getD i ([], []) :: bs.drop (i + 1) := by
   rw [List.drop_eq_getElem_cons il, List.getD_eq_getElem?_getD, List.getElem?_eq_getElem il]
   rfl
  have h9 := hre.out
  rw [hdr] at h9
  simp only [sizeCl] at h9
  by_cases hsl : (s : Int) < lid
  rotate_left
  · have e4 : decide ((s : Int) < lid) = false := decide_eq_false hsl
    have HR : Hid (res = s) := hid (by rw [if_neg hsl] at h9; exact h9)
    have HBW := hid hbw.out
    clear hre hbw hlt h9 hdr il hsl
    go_wp2_with fail
    go_ret
    rw [HR.out]
    exact ⟨rfl, HBW.out⟩
  have e4 : decide ((s : Int) < lid) = true := decide_eq_true hsl
  rw [if_pos hsl] at h9
  obtain ⟨bb, oo, hcA, hbb, hm⟩ := HC.out.mem (by omega)
  obtain ⟨A1, n1, c1, A2, n2, c2, y1, y2, t1, t2⟩ := hm i hlt
  generalize bs.getD i ([], []) = x at *
  have l1 : x.1.length = n1 := t1.len
  have l2 : x.2.length = n2 := t2.len
  have g1 := t1.few
  have g2 := t2.few
  rw [l1, l2] at h9
  have HRE := hid h9
  have u1 := (hbw.out.cell (p := ⟨bb, oo + i * 2, none⟩) hbb).trans y1
  have u2 := (hbw.out.cell (p := ⟨bb, oo + i * 2 + 1, none⟩) hbb).trans y2
  have HBW := hid hbw.out
  obtain ⟨s2, hs2⟩ : ∃ z : Nat, z = s + 1 + n1 + n2 := ⟨_, rfl⟩
  have v1 : IntKind.i64.wrap ((s : Int) + 1) = (s : Int) + 1 := by rw [IntKind.wrap_i64]; omega
  have v2 : IntKind.i64.wrap ((s : Int) + 1 + (n1 : Int)) = (s : Int) + 1 + (n1 : Int) := by rw [IntKind.wrap_i64]; omega
  have v3 : IntKind.i64.wrap ((s : Int) + 1 + (n1 : Int) + (n2 : Int)) = (s2 : Int) := by rw [IntKind.wrap_i64]; omega
  rw [← hs2] at HRE
  have hs3 : s2 ≤ 20000000000000 := by omega
  clear hre hbw hm y1 y2 t1 t2 h9 hdr il l1 l2 hs2 hsl
  subst hcA
  go_upto_region 5 with fail
  go_quiet (fail)
  go_wp2_with fail
  go_roundw
  case rel => exact ⟨i + 1, s2, by omega, hs3, by go_num, rfl, HRE, hid (below_drewN HBW.out _)⟩
  case measure => simp [intOf]; omega
def heavy8 (b : Bk) (bs : List (List Nd × List Nd)) (n : Nat) (fuel lim : Int) : Bool := decide (3000 ≤ sizeB 3000 b) || decide (3000 ≤ sizeCl 3000 0 bs) || decide (300 < bs.length) || decide (4500 < n) || decide (lim < fuel)
theorem heavy8_any {w : World} {v : BkVal} {b : Bk} (hb : BookV w v b) {cA : Option Addr} {cn cc : Nat} {bs : List (List Nd × List Nd)} (hc : CtxB (· < w.heap.size) w cA cn cc bs) {A : Option Addr} {n c : Nat} (fuel lim : Int) :
 Calls Try.prog 8 #[.agg #[.int .i64 b.vars, .slice v.Ao v.no v.co, .slice v.Ae v.ne v.ce, .int .i64 b.nat, .slice v.Ap v.np v.cp, .slice cA cn cc, .slice A n c, .int .i64 fuel], .int .i64 lim] w (BoolP (heavy8 b bs n fuel lim) w) := by
 obtain ⟨w1, hw1⟩ : ∃ w1 : World, w1 = w.alloc (.cells #[.int .i64 b.vars, .slice v.Ao v.no v.co, .slice v.Ae v.ne v.ce, .int .i64 b.nat, .slice v.Ap v.np v.cp, .slice cA cn cc, .slice A n c, .int .i64 fuel] 31) := ⟨_, rfl⟩
 have hb1 : Below w.heap.size w w1 := by rw [hw1]; exact below_alloc _ _
 have hk1 : Blk w1 w.heap.size 31 #[.int .i64 b.vars, .slice v.Ao v.no v.co, .slice v.Ae v.ne v.ce, .int .i64 b.nat, .slice v.Ap v.np v.cp, .slice cA cn cc, .slice A n c, .int .i64 fuel] := by rw [hw1]; exact Blk.new _ _ _
 have HSZ := hid (size_any (hb.below hb1) 3000 (by omega))
 have HSC := hid (fun (W : World) (hB : Below w1.heap.size w1 W) => sizectx_any ((hc.below hb1).below hB) 3000 (by omega))
 have HB1 := hid hb1
 have hl1 : w.heap.size < w1.heap.size := hk1.lt
 have zs1 := hk1.cell
 have hcl := hc.len
 have hcf := hc.few
 have HR : Hid (heavy8 b bs n fuel lim = (decide (3000 ≤ sizeB 3000 b) || decide (3000 ≤ sizeCl 3000 0 bs) || decide (300 < cn) || decide (4500 < n) || decide (lim < fuel))) := hid (by rw [← hcl]; rfl)
 generalize heavy8 b bs n fuel lim = res at *
 generalize sizeB 3000 b = sz at *
 generalize sizeCl 3000 0 bs = sc at *
 clear hb hc hb1 hk1 hcl
 by_cases h1 : 3000 ≤ sz
 · have d1 : decide ((sz : Int) ≥ 3000) = true := decide_eq_true (by omega)
   have d2 : decide ((3000 : Int) ≤ (sz : Int)) = true := decide_eq_true (by omega)
   have HZ : Hid (res = true) := hid (by rw [HR.out, decide_eq_true h1]; simp)
   clear h1
   go_in
   go_upto_region 1 with fail
   rw [← hw1]
   clear hw1
   go_wp2_with fail
   refine (HSZ.out).mono ?_
   rintro e w2 ⟨rfl, hb2⟩
   have HB2 := bto HB1 hb2
   clear hb2
   go_wp2_with fail
   go_ret
   rw [HZ.out]
   exact ⟨rfl, HB2.out⟩
 have d1 : decide ((sz : Int) ≥ 3000) = false := decide_eq_false (by omega)
 have d2 : decide ((3000 : Int) ≤ (sz : Int)) = false := decide_eq_false (by omega)
 have HR1 : Hid (res = (decide (3000 ≤ sc) || decide (300 < cn) || decide (4500 < n) || decide (lim < fuel))) := hid (by rw [HR.out, decide_eq_false h1, Bool.false_or])
 clear h1
 by_cases h2 : 3000 ≤ sc
 · have p1 : decide ((sc : Int) ≥ 3000) = true := decide_eq_true (by omega)
   have p2 : decide ((3000 : Int) ≤ (sc : Int)) = true := decide_eq_true (by omega)
   have p3 : decide (sc ≥ 3000) = true := decide_eq_true (by omega)
   have p4 : decide (3000 ≤ sc) = true := decide_eq_true (by omega)
   have HZ : Hid (res = true) := hid (by rw [HR1.out, decide_eq_true h2]; simp)
   clear h2
   go_in
   go_upto_region 1 with fail
   rw [← hw1]
   clear hw1
   go_wp2_with fail
   refine (HSZ.out).mono ?_
   rintro e w2 ⟨rfl, hb2⟩
   have HB2 := bto HB1 hb2
   have zs2 := fun i => (hb2.cell (p := ⟨w.heap.size, i, none⟩) hl1).trans (zs1 i)
   have hl2 : w.heap.size < w2.heap.size := Nat.lt_of_lt_of_le hl1 hb2.size
   have HSC2 := hid (HSC.out w2 hb2)
   clear hb2
   go_wp2_with fail
   refine (HSC2.out).mono ?_
   rintro e w3 ⟨rfl, hb3⟩
   have HB3 := bto HB2 hb3
   have zs3 := fun i => (hb3.cell (p := ⟨w.heap.size, i, none⟩) hl2).trans (zs2 i)
   clear hb3 zs2
   go_wp2_with fail
   go_ret
   rw [HZ.out]
   exact ⟨rfl, HB3.out⟩
 have p1 : decide ((sc : Int) ≥ 3000) = false := decide_eq_false (by omega)
 have p2 : decide ((3000 : Int) ≤ (sc : Int)) = false := decide_eq_false (by omega)
 have p3 : decide (sc ≥ 3000) = false := decide_eq_false (by omega)
 have p4 : decide (3000 ≤ sc) = false := decide_eq_false (by omega)
 have HR2 : Hid (res = (decide (300 < cn) || decide (4500 < n) || decide (lim < fuel))) := hid (by rw [HR1.out, decide_eq_false h2, Bool.false_or])
 clear h2
 by_cases h3 : 300 < cn
 · have q1 : decide ((cn : Int) > 300) = true := decide_eq_true (by omega)
   have q2 : decide ((300 : Int) < (cn : Int)) = true := decide_eq_true (by omega)
   have q3 : decide (cn > 300) = true := decide_eq_true (by omega)
   have q4 : decide (300 < cn) = true := decide_eq_true (by omega)
   have HZ : Hid (res = true) := hid (by rw [HR2.out, decide_eq_true h3]; simp)
   clear h3
   go_in
   go_upto_region 1 with fail
   rw [← hw1]
   clear hw1
   go_wp2_with fail
   refine (HSZ.out).mono ?_
   rintro e w2 ⟨rfl, hb2⟩
   have HB2 := bto HB1 hb2
   have zs2 := fun i => (hb2.cell (p := ⟨w.heap.size, i, none⟩) hl1).trans (zs1 i)
   have hl2 : w.heap.size < w2.heap.size := Nat.lt_of_lt_of_le hl1 hb2.size
   have HSC2 := hid (HSC.out w2 hb2)
   clear hb2
   go_wp2_with fail
   refine (HSC2.out).mono ?_
   rintro e w3 ⟨rfl, hb3⟩
   have HB3 := bto HB2 hb3
   have zs3 := fun i => (hb3.cell (p := ⟨w.heap.size, i, none⟩) hl2).trans (zs2 i)
   clear hb3 zs2
   go_wp2_with fail
   go_ret
   rw [HZ.out]
   exact ⟨rfl, HB3.out⟩
 have q1 : decide ((cn : Int) > 300) = false := decide_eq_false (by omega)
 have q2 : decide ((300 : Int) < (cn : Int)) = false := decide_eq_false (by omega)
 have q3 : decide (cn > 300) = false := decide_eq_false (by omega)
 have q4 : decide (300 < cn) = false := decide_eq_false (by omega)
 have HR3 : Hid (res = (decide (4500 < n) || decide (lim < fuel))) := hid (by rw [HR2.out, decide_eq_false h3, Bool.false_or])
 clear h3
 by_cases h4 : 4500 < n
 · have r1 : decide ((n : Int) > 4500) = true := decide_eq_true (by omega)
   have r2 : decide ((4500 : Int) < (n : Int)) = true := decide_eq_true (by omega)
   have r3 : decide (n > 4500) = true := decide_eq_true (by omega)
   have r4 : decide (4500 < n) = true := decide_eq_true (by omega)
   have HZ : Hid (res = true) := hid (by rw [HR3.out, decide_eq_true h4]; simp)
   clear h4
   go_in
   go_upto_region 1 with fail
   rw [← hw1]
   clear hw1
   go_wp2_with fail
   refine (HSZ.out).mono ?_
   rintro e w2 ⟨rfl, hb2⟩
   have HB2 := bto HB1 hb2
   have zs2 := fun i => (hb2.cell (p := ⟨w.heap.size, i, none⟩) hl1).trans (zs1 i)
   have hl2 : w.heap.size < w2.heap.size := Nat.lt_of_lt_of_le hl1 hb2.size
   have HSC2 := hid (HSC.out w2 hb2)
   clear hb2
   go_wp2_with fail
   refine (HSC2.out).mono ?_
   rintro e w3 ⟨rfl, hb3⟩
   have HB3 := bto HB2 hb3
   have zs3 := fun i => (hb3.cell (p := ⟨w.heap.size, i, none⟩) hl2).trans (zs2 i)
   clear hb3 zs2
   go_wp2_with fail
   go_ret
   rw [HZ.out]
   exact ⟨rfl, HB3.out⟩
 have r1 : decide ((n : Int) > 4500) = false := decide_eq_false (by omega)
 have r2 : decide ((4500 : Int) < (n : Int)) = false := decide_eq_false (by omega)
 have r3 : decide (n > 4500) = false := decide_eq_false (by omega)
 have r4 : decide (4500 < n) = false := decide_eq_false (by omega)
 have HZ : Hid (res = decide (lim < fuel)) := hid (by rw [HR3.out, decide_eq_false h4, Bool.false_or])
 clear h4
 obtain ⟨fb, hfb⟩ : ∃ q, q = decide (lim < fuel) := ⟨_, rfl⟩
 have d6 : decide (fuel > lim) = fb := hfb.symm
 have d7 : decide (lim < fuel) = fb := hfb.symm
 rw [d7] at HZ
 clear hfb
 go_in
 go_upto_region 1 with fail
 rw [← hw1]
 clear hw1
 go_wp2_with fail
 refine (HSZ.out).mono ?_
 rintro e w2 ⟨rfl, hb2⟩
 have HB2 := bto HB1 hb2
 have zs2 := fun i => (hb2.cell (p := ⟨w.heap.size, i, none⟩) hl1).trans (zs1 i)
 have hl2 : w.heap.size < w2.heap.size := Nat.lt_of_lt_of_le hl1 hb2.size
 have HSC2 := hid (HSC.out w2 hb2)
 clear hb2
 go_wp2_with fail
 refine (HSC2.out).mono ?_
 rintro e w3 ⟨rfl, hb3⟩
 have HB3 := bto HB2 hb3
 have zs3 := fun i => (hb3.cell (p := ⟨w.heap.size, i, none⟩) hl2).trans (zs2 i)
 clear hb3 zs2
 go_wp2_with fail
 go_ret
 rw [HZ.out]
 exact ⟨rfl, HB3.out⟩
theorem heavy8_no {b : Bk} {bs : List (List Nd × List Nd)} {n : Nat} {fuel lim : Int} (h : heavy8 b bs n fuel lim = false) : bs.length ≤ 300 ∧ n ≤ 4500 ∧ fuel ≤ lim := by
 unfold heavy8 at h
 simp only [Bool.or_eq_false_iff, decide_eq_false_iff_not] at h
 omega
end Go.Proofs.Ytjoddliplahgkaa
