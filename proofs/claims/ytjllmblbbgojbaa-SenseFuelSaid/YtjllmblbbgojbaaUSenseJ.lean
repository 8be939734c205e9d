/- sense: Value and Eval. -/
import Derived.Test.YtjllmblbbgojbaaUSenseI
namespace Go.Proofs.Ytjllmblbbgojbaa
open Go.Lib (hid)
set_option maxHeartbeats 8000000
set_option maxRecDepth 100000
set_option linter.unusedVariables false
set_option linter.unusedSimpArgs false
open Go.RowKit
def evalQ (b : Bk) (l : List Nd) (fuel : Int) : List Nd × Int × Int := if fitsE b 0 l ≠ 0 then ([], 0, fitsE b 0 l) else match evD b ((min (max fuel 0) 100000).toNat + 1) (min (max fuel 0) 100000).toNat (treeAt l) with
 | .ok y f => (rowT y, (f : Int), 0)
 | .er z => ([], 0, z)
def EvalP (q : List Nd × Int × Int) (w : World) (e : Ending) (w' : World) : Prop := Below w.heap.size w w' ∧ ∃ A n c, e = .returned (.tuple #[.slice A n c, .int .i64 q.2.1, .int .i64 q.2.2]) ∧ TermR (NewB w w') w' A n c q.1
theorem evalP_nil {q : List Nd × Int × Int} {w w' : World} {z : Int} (hq : q = ([], 0, z)) (hb : Below w.heap.size w w') : EvalP q w (.returned (.tuple #[.slice none 0 0, .int .i64 0, .int .i64 z])) w' := by
 subst hq
 exact ⟨hb, none, 0, 0, rfl, rfl, Nat.le_refl _, by decide, fun _ => rfl, fun h => absurd h (by decide)⟩
theorem svalue_any {w : World} {v : BkVal} {b : Bk} (hb : BookV w v b) {A : Option Addr} {n c : Nat} {l : List Nd} (ht : TermV w A n c l) :
 Calls Try.prog 20 #[.agg #[.int .i64 b.vars, .slice v.Ao v.no v.co, .slice v.Ae v.ne v.ce, .int .i64 b.nat, .slice v.Ap v.np v.cp], .slice A n c] w (fun e w' => e = .returned (.tuple #[.bool (decide (fitsE b 0 l = 0) && valW (treeAt l)), .int .i64 (fitsE b 0 l)]) ∧ Below w.heap.size w w') := by
 have hb0 := below_alloc w (.cells #[.int .i64 b.vars, .slice v.Ao v.no v.co, .slice v.Ae v.ne v.ce, .int .i64 b.nat, .slice v.Ap v.np v.cp] 26)
 have hFI := fits_any (hb.below hb0) 0 (ht.below hb0)
 obtain ⟨z, hz⟩ : ∃ z, z = fitsE b 0 l := ⟨_, rfl⟩
 rw [← hz] at hFI ⊢
 have HFI := hid hFI
 have HB0 := hid hb0
 have hs0 := hb0.size
 by_cases h0 : z = 0
 · subst h0
   obtain ⟨e1, e2⟩ := fit_of hz.symm
   have HIV := hid (fun (w' : World) (h : Below w.heap.size w w') => isVal_any (szT (treeAt l)) w' A n c (treeAt l) (by rw [← e1]; exact ht.below h) e2.rt (Nat.le_refl _))
   clear hFI hb0 hb ht hz e1 e2
   go_in
   go_wp2_with fail
   refine (HFI.out).mono ?_
   rintro e w2 ⟨rfl, hb2⟩
   have HB2 := hid (HB0.out.trans (hb2.mono hs0))
   clear hb2
   go_wp2_with fail
   refine (HIV.out w2 HB2.out).mono ?_
   rintro e w3 ⟨rfl, hb3⟩
   have HB3 := bto HB2 hb3
   clear hb3
   go_wp2_with fail
   go_ret2
   exact ⟨by simp, HB3.out⟩
 have u0 : (z != 0) = true := by simpa using h0
 have hd : decide (z = 0) = false := decide_eq_false h0
 rw [hd, Bool.false_and]
 clear hFI hb0 hb ht hz h0 hd
 go_in
 go_wp2_with fail
 refine (HFI.out).mono ?_
 rintro e w2 ⟨rfl, hb2⟩
 have HB2 := hid (HB0.out.trans (hb2.mono hs0))
 clear hb2
 go_wp2_with fail
 go_ret2
 exact ⟨rfl, HB2.out⟩
theorem seval_any {w : World} {v : BkVal} {b : Bk} (hb : BookV w v b) {A : Option Addr} {n c : Nat} {l : List Nd} (fuel : Int) (ht : TermV w A n c l) :
 Calls Try.prog 19 #[.agg #[.int .i64 b.vars, .slice v.Ao v.no v.co, .slice v.Ae v.ne v.ce, .int .i64 b.nat, .slice v.Ap v.np v.cp], .slice A n c, .int .i64 fuel] w (EvalP (evalQ b l fuel) w) := by
 have hmf : ∀ (fn : Fn) (first cap : Array Value) (w : World), (Instr.makeFunc fn first cap).run Try.prog w = .ok (.func fn first cap) w := fun _ _ _ _ => rfl
 obtain ⟨W4, hW4⟩ : ∃ W4 : World, W4 = (((w.alloc (.cells #[.int .i64 b.vars, .slice v.Ao v.no v.co, .slice v.Ae v.ne v.ce, .int .i64 b.nat, .slice v.Ap v.np v.cp] 26)).alloc (.cells #[.slice none 0 0] 28)).alloc (.cells #[.int .i64 0] 3)).alloc (.cells #[.int .i64 0] 35) := ⟨_, rfl⟩
 have hb4 : Below w.heap.size w W4 := by rw [hW4]; exact (((below_alloc w _).alloc (by simp) _).alloc (by simp; omega) _).alloc (by simp; omega) _
 have hs4 : W4.heap.size = w.heap.size + 4 := by rw [hW4]; simp
 have k0 : Blk W4 w.heap.size 26 #[.int .i64 b.vars, .slice v.Ao v.no v.co, .slice v.Ae v.ne v.ce, .int .i64 b.nat, .slice v.Ap v.np v.cp] := by rw [hW4]; exact (((Blk.new _ _ _).alloc _).alloc _).alloc _
 have k1 : Blk W4 (w.heap.size + 1) 28 #[.slice none 0 0] := by rw [hW4]; exact ((Blk.new' (by simp)).alloc _).alloc _
 have k2 : Blk W4 (w.heap.size + 2) 3 #[.int .i64 0] := by rw [hW4]; exact (Blk.new' (by simp)).alloc _
 have k3 : Blk W4 (w.heap.size + 3) 35 #[.int .i64 0] := by rw [hW4]; exact Blk.new' (by simp)
 have hFI := fits_any (hb.below hb4) 0 (ht.below hb4)
 obtain ⟨z, hz⟩ : ∃ z, z = fitsE b 0 l := ⟨_, rfl⟩
 rw [← hz] at hFI
 have HFI := hid hFI
 have HB4 := hid hb4
 have HW4 := hid hW4.symm
 have HK0 := hid k0
 have HK1 := hid k1
 have HK2 := hid k2
 have HK3 := hid k3
 by_cases h0 : z = 0
 rotate_left
 · have u0 : (z != 0) = true := by simpa using h0
   have HQ : Hid (evalQ b l fuel = ([], 0, z)) := hid (by unfold evalQ; rw [← hz, if_pos h0])
   clear hFI hb ht hz h0 hb4 hW4 k0 k1 k2 k3
   go_enter_defers Try.func19, Try.ntmps19
   go_upto_region 1 with fail
   rw [HW4.out]
   have z0 := Blk.cell HK0.out
   go_wp2_with fail
   refine (HFI.out).mono ?_
   rintro e w5 ⟨rfl, hb5⟩
   have hb5' := HB4.out.trans (hb5.mono (by omega))
   have HB5 := hid hb5'
   have K1 := hid (HK1.out.below hb5 (by omega))
   have K2 : Hid (Blk w5 (w.heap.size + 1 + 1) 3 #[.int .i64 0]) := hid (HK2.out.below hb5 (by omega))
   have K3 : Hid (Blk w5 (w.heap.size + 1 + 1 + 1) 35 #[.int .i64 0]) := hid (HK3.out.below hb5 (by omega))
   have c1 := K1.out.cell
   have c2 := K2.out.cell
   have c3 := K3.out.cell
   have f1 := K1.out.frozen
   have f2 := K2.out.frozen
   have f3 := K3.out.frozen
   clear hb5 hb5' z0 HK0 HK1 HK2 HK3 HFI
   go_wp2_with fail
   have r1 : Blk (((w5.setCell ⟨w.heap.size + 1, 0, none⟩ (.slice none 0 0)).setCell ⟨w.heap.size + 1 + 1, 0, none⟩ (.int .i64 0)).setCell ⟨w.heap.size + 1 + 1 + 1, 0, none⟩ (.int .i64 z)) (w.heap.size + 1) 28 #[.slice none 0 0] := ((K1.out.set_ 0 (.slice none 0 0)).far (p := ⟨w.heap.size + 1 + 1, 0, none⟩) (by simp <;> omega) (.int .i64 0)).far (p := ⟨w.heap.size + 1 + 1 + 1, 0, none⟩) (by simp <;> omega) (.int .i64 z)
   have r2 : Blk (((w5.setCell ⟨w.heap.size + 1, 0, none⟩ (.slice none 0 0)).setCell ⟨w.heap.size + 1 + 1, 0, none⟩ (.int .i64 0)).setCell ⟨w.heap.size + 1 + 1 + 1, 0, none⟩ (.int .i64 z)) (w.heap.size + 1 + 1) 3 #[.int .i64 0] := ((K2.out.far (p := ⟨w.heap.size + 1, 0, none⟩) (by simp <;> omega) (.slice none 0 0)).set_ 0 (.int .i64 0)).far (p := ⟨w.heap.size + 1 + 1 + 1, 0, none⟩) (by simp <;> omega) (.int .i64 z)
   have r3 : Blk (((w5.setCell ⟨w.heap.size + 1, 0, none⟩ (.slice none 0 0)).setCell ⟨w.heap.size + 1 + 1, 0, none⟩ (.int .i64 0)).setCell ⟨w.heap.size + 1 + 1 + 1, 0, none⟩ (.int .i64 z)) (w.heap.size + 1 + 1 + 1) 35 #[.int .i64 z] := ((K3.out.far (p := ⟨w.heap.size + 1, 0, none⟩) (by simp <;> omega) (.slice none 0 0)).far (p := ⟨w.heap.size + 1 + 1, 0, none⟩) (by simp <;> omega) (.int .i64 0)).set_ 0 (.int .i64 z)
   have hbf : Below w.heap.size w (((w5.setCell ⟨w.heap.size + 1, 0, none⟩ (.slice none 0 0)).setCell ⟨w.heap.size + 1 + 1, 0, none⟩ (.int .i64 0)).setCell ⟨w.heap.size + 1 + 1 + 1, 0, none⟩ (.int .i64 z)) := ((HB5.out.setCell (by simp <;> omega) _).setCell (by simp <;> omega) _).setCell (by simp <;> omega) _
   have HP := hid (evalP_nil HQ.out hbf)
   clear hbf c1 c2 c3 f1 f2 f3 K1 K2 K3
   generalize (((w5.setCell ⟨w.heap.size + 1, 0, none⟩ (.slice none 0 0)).setCell ⟨w.heap.size + 1 + 1, 0, none⟩ (.int .i64 0)).setCell ⟨w.heap.size + 1 + 1 + 1, 0, none⟩ (.int .i64 z)) = wf at r1 r2 r3 HP ⊢
   have q1 : wf.cell? ⟨w.heap.size + 1, 0, none⟩ = some (.slice none 0 0) := r1.cell 0
   have q2 : wf.cell? ⟨w.heap.size + 1 + 1, 0, none⟩ = some (.int .i64 0) := r2.cell 0
   have q3 : wf.cell? ⟨w.heap.size + 1 + 1 + 1, 0, none⟩ = some (.int .i64 z) := r3.cell 0
   simp [bodyPostD, Leaves, settle, results, Try.results19, go_sem, q1, q2, q3]
   exact HP.out
 subst h0
 obtain ⟨F, hF⟩ : ∃ F : Nat, F = (min (max fuel 0) 100000).toNat := ⟨_, rfl⟩
 have hFi : min (max fuel 0) 100000 = (F : Int) := by omega
 have hF1 : F ≤ 100000 := by omega
 obtain ⟨e1, e2⟩ := fit_of hz.symm
 have HQ : Hid (evalQ b l fuel = match evD b (F + 1) F (treeAt l) with
  | .ok y f => (rowT y, (f : Int), 0)
  | .er z => ([], 0, z)) := hid (by unfold evalQ; rw [if_neg (by rw [← hz]; simp), ← hF])
 have hrt : rightE b = 0 := (fits_row hz.symm).1
 have HEV := hid (fun (g : Nat) => (ev_all (w0 := w) (g := g) hrt hb (F + 1)).1)
 obtain ⟨mx, hmx⟩ : ∃ mx : Int, mx = (if fuel < 0 then 0 else fuel) := ⟨_, rfl⟩
 have hfx : (if 100000 < mx then 100000 else mx) = (F : Int) := by rw [hmx, ← hFi]; split <;> split <;> omega
 have HMX := hid hmx
 have HFX := hid hfx
 have HTX : Hid (TermV w A n c (rowT (treeAt l))) := hid (by rw [← e1]; exact ht)
 have HE1 := hid e1
 have HE2 := hid e2
 have HTM := hid (fun (w' : World) (h : Below w.heap.size w w') => ht.below h)
 have HRT := hid hrt
 clear hFI hb hz hb4 hW4 k0 k1 k2 k3 hFi hF hfx hmx e1 e2 ht hrt
 go_enter_defers Try.func19, Try.ntmps19
 go_upto_region 1 with fail
 rw [HW4.out]
 have z0 := Blk.cell HK0.out
 go_wp2_with fail
 refine (HFI.out).mono ?_
 rintro e w5 ⟨rfl, hb5⟩
 have hs5 := hb5.size
 have hb5' := HB4.out.trans (hb5.mono (by omega))
 have HB5 := hid hb5'
 have z5 := Blk.cell (HK0.out.below hb5 (by omega))
 have K1 := hid (HK1.out.below hb5 (by omega))
 have K2 : Hid (Blk w5 (w.heap.size + 1 + 1) 3 #[.int .i64 0]) := hid (HK2.out.below hb5 (by omega))
 have K3 : Hid (Blk w5 (w.heap.size + 1 + 1 + 1) 35 #[.int .i64 0]) := hid (HK3.out.below hb5 (by omega))
 clear hb5 hb5' z0 HK0 HK1 HK2 HK3 HFI
 go_upto_region 6 with fail
 rw [← HMX.out, HFX.out]
 clear HMX
 obtain ⟨w6, hw6⟩ : ∃ w6 : World, w6 = w5.alloc (.cells #[.int .i64 b.vars, .slice v.Ao v.no v.co, .slice v.Ae v.ne v.ce, .int .i64 b.nat, .slice v.Ap v.np v.cp, .int .i64 (F : Int)] 80) := ⟨_, rfl⟩
 have hb6 : Below w5.heap.size w5 w6 := by rw [hw6]; exact below_alloc _ _
 have hk6 : Blk w6 w5.heap.size 80 #[.int .i64 b.vars, .slice v.Ao v.no v.co, .slice v.Ae v.ne v.ce, .int .i64 b.nat, .slice v.Ap v.np v.cp, .int .i64 (F : Int)] := by rw [hw6]; exact Blk.new _ _ _
 rw [← hw6]
 have hs6 := hb6.size
 have hw5s : w.heap.size + 4 ≤ w5.heap.size := by omega
 have HW6 : Hid (EvW w w5.heap.size v b F w6) := hid ⟨HB5.out.trans (hb6.mono HB5.out.size), hk6, HB5.out.size⟩
 obtain ⟨g, hg⟩ : ∃ g, g = w5.heap.size := ⟨_, rfl⟩
 rw [← hg] at HW6 hw5s ⊢
 have HX6 := hid (TermR.toG HTX.out HW6.out)
 have HB6 := hid HW6.out.bel
 have K1 := hid (K1.out.below hb6 K1.out.lt)
 have K2 := hid (K2.out.below hb6 K2.out.lt)
 have K3 := hid (K3.out.below hb6 K3.out.lt)
 have hg6 := HW6.out.lt
 generalize treeAt l = x at HX6 HE2 HQ
 have HC := hid (HEV.out g w6 F A n c x (by omega) hF1 HW6.out HX6.out HE2.out)
 clear hw6 hb6 hk6 hg z5 HFX HE1 HTX hs6
 cases hE : evD b (F + 1) F x with
 | er z =>
  rw [hE] at HC HQ
  simp only at HQ
  clear hE
  go_wp2_with fail
  refine (HC.out).mono ?_
  rintro e w7 ⟨hm7, he7⟩
  simp only at he7
  subst he7
  unfold FailP
  have k1 := K1.out.moved hm7 (by omega) (by simp)
  have k2 := K2.out.moved hm7 (by omega) (by simp)
  have k3 := K3.out.moved hm7 (by omega) (by simp)
  have hb7 : Below w.heap.size w w7 := HB6.out.trans (hm7.to_below (by have := HB6.out.size; omega) (fun k h => by omega) (fun _ e => by cases e))
  refine leaves_cons (f := 37) (args := #[.pointer (some ⟨w.heap.size + 1, 0, none⟩), .pointer (some ⟨w.heap.size + 1 + 1, 0, none⟩), .pointer (some ⟨w.heap.size + 1 + 1 + 1, 0, none⟩)]) (by simp) (by simp [go_sem]) ?_
  refine (scatch_fail (w.heap.size + 1) (w.heap.size + 1 + 1) (w.heap.size + 1 + 1 + 1) (by omega) (by omega) (by omega) _ _ _ z [] w7 k1 k2 k3).mono ?_
  rintro e u' wf ⟨rfl, rfl, hc1, hc2, hc3, hc4⟩
  have q1 : wf.cell? ⟨w.heap.size + 1, 0, none⟩ = some (.slice none 0 0) := hc2.cell 0
  have q2 : wf.cell? ⟨w.heap.size + 1 + 1, 0, none⟩ = some (.int .i64 0) := hc3.cell 0
  have q3 : wf.cell? ⟨w.heap.size + 1 + 1 + 1, 0, none⟩ = some (.int .i64 z) := hc4.cell 0
  have HP := hid (evalP_nil HQ.out (hb7.trans (hc1.to_below (by have := hb7.size; omega) (fun k h => by omega) (fun _ e => by cases e))))
  simp [Leaves, settle, results, Try.results19, go_sem, q1, q2, q3]
  exact HP.out
 | ok y f' =>
  rw [hE] at HC HQ
  simp only at HQ
  clear hE
  go_wp2_with fail
  refine (HC.out).mono ?_
  rintro e w7 ⟨hm7, A7, n7, c7, rfl, hw7, ht7⟩
  have hb7 : Below w.heap.size w w7 := HB6.out.trans (hm7.to_below (by have := HB6.out.size; omega) (fun k h => by omega) (fun _ e => by cases e))
  have HCL := hid (clone_any ht7.gv)
  have HW7 := hid hw7
  have hs7 := hm7.size
  have k1 := K1.out.moved hm7 (by omega) (by simp)
  have k2 := K2.out.moved hm7 (by omega) (by simp)
  have k3 := K3.out.moved hm7 (by omega) (by simp)
  have KK1 := hid k1
  have KK2 := hid k2
  have KK3 := hid k3
  have HB7 := hid hb7
  clear hm7 hw7 ht7 k1 k2 k3 hb7
  go_wp2_with fail
  refine (HCL.out).mono ?_
  rintro e w8 ⟨hb8, A8, n8, c8, rfl, ht8⟩
  have R1 := hid (KK1.out.below hb8 KK1.out.lt)
  have R2 := hid (KK2.out.below hb8 KK2.out.lt)
  have R3 := hid (KK3.out.below hb8 KK3.out.lt)
  have RG5 := hid (HW7.out.blk.below hb8 HW7.out.lt)
  have HT8 := hid ht8
  have hs8 := hb8.size
  have HB8 := bto HB7 hb8
  have c1 := R1.out.cell
  have c2 := R2.out.cell
  have c3 := R3.out.cell
  have cg := RG5.out.cell
  have f1 := R1.out.frozen
  have f2 := R2.out.frozen
  have f3 := R3.out.frozen
  have hlt1 := R1.out.lt
  have hne1 : g ≠ w.heap.size + 1 := by omega
  have hne2 : g ≠ w.heap.size + 1 + 1 := by omega
  have hne3 : g ≠ w.heap.size + 1 + 1 + 1 := by omega
  clear hb8 ht8
  go_upto_region 7 with fail
  obtain ⟨w9, hw9⟩ : ∃ w9 : World, w9 = w8.setCell ⟨w.heap.size + 1, 0, none⟩ (.slice A8 n8 c8) := ⟨_, rfl⟩
  have m9 : Below w.heap.size w w9 := by rw [hw9]; exact HB8.out.setCell (by simp <;> omega) _
  have m1 : Blk w9 (w.heap.size + 1) 28 #[.slice A8 n8 c8] := by rw [hw9]; simpa using R1.out.set_ 0 (.slice A8 n8 c8)
  have m2 : Blk w9 (w.heap.size + 1 + 1) 3 #[.int .i64 0] := by rw [hw9]; exact R2.out.far (p := ⟨w.heap.size + 1, 0, none⟩) (by simp) _
  have m3 : Blk w9 (w.heap.size + 1 + 1 + 1) 35 #[.int .i64 0] := by rw [hw9]; exact R3.out.far (p := ⟨w.heap.size + 1, 0, none⟩) (by simp <;> omega) _
  have mg : Blk w9 g 80 #[.int .i64 b.vars, .slice v.Ao v.no v.co, .slice v.Ae v.ne v.ce, .int .i64 b.nat, .slice v.Ap v.np v.cp, .int .i64 (f' : Int)] := by rw [hw9]; exact RG5.out.far (p := ⟨w.heap.size + 1, 0, none⟩) (by simp <;> omega) _
  have mt : TermR (fun q => w7.heap.size ≤ q ∧ q < w9.heap.size) w9 A8 n8 c8 (rowT y) := HT8.out.keep fun q hq => ⟨⟨hq.1, by rw [hw9]; simpa [World.setCell] using hq.2⟩, fun o => by rw [hw9]; exact cell_of_heap (Below.heap_setCell _ _ _ _ (by have := hq.1; simp <;> omega)) o⟩
  have mq : ∀ q o : Nat, q ≠ w.heap.size + 1 → True := fun _ _ _ => trivial
  have MNQ : Hid (∀ q, w7.heap.size ≤ q ∧ q < w9.heap.size → q ≠ w.heap.size + 1 ∧ q ≠ w.heap.size + 1 + 1 ∧ q ≠ w.heap.size + 1 + 1 + 1) := hid (fun q hq => by omega)
  have hw77 : w.heap.size ≤ w7.heap.size := HB7.out.size
  have hn1 : w.heap.size + 1 ≠ g := Ne.symm hne1
  have hn2 : w.heap.size + 1 + 1 ≠ g := Ne.symm hne2
  have hn3 : w.heap.size + 1 + 1 + 1 ≠ g := Ne.symm hne3
  rw [← hw9]
  clear hw9 c1 c2 c3 cg f1 f2 f3
  have c1 := m1.cell
  have c2 := m2.cell
  have c3 := m3.cell
  have cg := mg.cell
  have f1 := m1.frozen
  have f2 := m2.frozen
  have f3 := m3.frozen
  have M1 := hid m1
  have M2 := hid m2
  have M3 := hid m3
  have MT := hid mt
  have M9 := hid m9
  -- LAST
  have x51 : Blk (w9.setCell ⟨w.heap.size + 1, 0, none⟩ (.slice A8 n8 c8)) (w.heap.size + 1) 28 #[.slice A8 n8 c8] := by simpa using m1.set_ 0 (.slice A8 n8 c8)
  have x52 : Blk (w9.setCell ⟨w.heap.size + 1, 0, none⟩ (.slice A8 n8 c8)) (w.heap.size + 1 + 1) 3 #[.int .i64 0] := m2.far (p := ⟨w.heap.size + 1, 0, none⟩) (by simp <;> omega) _
  have x53 : Blk (w9.setCell ⟨w.heap.size + 1, 0, none⟩ (.slice A8 n8 c8)) (w.heap.size + 1 + 1 + 1) 35 #[.int .i64 0] := m3.far (p := ⟨w.heap.size + 1, 0, none⟩) (by simp <;> omega) _
  have x5g : Blk (w9.setCell ⟨w.heap.size + 1, 0, none⟩ (.slice A8 n8 c8)) g 80 #[.int .i64 b.vars, .slice v.Ao v.no v.co, .slice v.Ae v.ne v.ce, .int .i64 b.nat, .slice v.Ap v.np v.cp, .int .i64 (f' : Int)] := mg.far (p := ⟨w.heap.size + 1, 0, none⟩) (by simp <;> omega) _
  have x61 : Blk ((w9.setCell ⟨w.heap.size + 1, 0, none⟩ (.slice A8 n8 c8)).setCell ⟨w.heap.size + 1 + 1, 0, none⟩ (.int .i64 (f' : Int))) (w.heap.size + 1) 28 #[.slice A8 n8 c8] := x51.far (p := ⟨w.heap.size + 1 + 1, 0, none⟩) (by simp <;> omega) _
  have x62 : Blk ((w9.setCell ⟨w.heap.size + 1, 0, none⟩ (.slice A8 n8 c8)).setCell ⟨w.heap.size + 1 + 1, 0, none⟩ (.int .i64 (f' : Int))) (w.heap.size + 1 + 1) 3 #[.int .i64 (f' : Int)] := by simpa using x52.set_ 0 (.int .i64 (f' : Int))
  have x63 : Blk ((w9.setCell ⟨w.heap.size + 1, 0, none⟩ (.slice A8 n8 c8)).setCell ⟨w.heap.size + 1 + 1, 0, none⟩ (.int .i64 (f' : Int))) (w.heap.size + 1 + 1 + 1) 35 #[.int .i64 0] := x53.far (p := ⟨w.heap.size + 1 + 1, 0, none⟩) (by simp <;> omega) _
  have x6g : Blk ((w9.setCell ⟨w.heap.size + 1, 0, none⟩ (.slice A8 n8 c8)).setCell ⟨w.heap.size + 1 + 1, 0, none⟩ (.int .i64 (f' : Int))) g 80 #[.int .i64 b.vars, .slice v.Ao v.no v.co, .slice v.Ae v.ne v.ce, .int .i64 b.nat, .slice v.Ap v.np v.cp, .int .i64 (f' : Int)] := x5g.far (p := ⟨w.heap.size + 1 + 1, 0, none⟩) (by simp <;> omega) _
  have x71 : Blk (((w9.setCell ⟨w.heap.size + 1, 0, none⟩ (.slice A8 n8 c8)).setCell ⟨w.heap.size + 1 + 1, 0, none⟩ (.int .i64 (f' : Int))).setCell ⟨w.heap.size + 1 + 1 + 1, 0, none⟩ (.int .i64 0)) (w.heap.size + 1) 28 #[.slice A8 n8 c8] := x61.far (p := ⟨w.heap.size + 1 + 1 + 1, 0, none⟩) (by simp <;> omega) _
  have x72 : Blk (((w9.setCell ⟨w.heap.size + 1, 0, none⟩ (.slice A8 n8 c8)).setCell ⟨w.heap.size + 1 + 1, 0, none⟩ (.int .i64 (f' : Int))).setCell ⟨w.heap.size + 1 + 1 + 1, 0, none⟩ (.int .i64 0)) (w.heap.size + 1 + 1) 3 #[.int .i64 (f' : Int)] := x62.far (p := ⟨w.heap.size + 1 + 1 + 1, 0, none⟩) (by simp <;> omega) _
  have x73 : Blk (((w9.setCell ⟨w.heap.size + 1, 0, none⟩ (.slice A8 n8 c8)).setCell ⟨w.heap.size + 1 + 1, 0, none⟩ (.int .i64 (f' : Int))).setCell ⟨w.heap.size + 1 + 1 + 1, 0, none⟩ (.int .i64 0)) (w.heap.size + 1 + 1 + 1) 35 #[.int .i64 0] := by simpa using x63.set_ 0 (.int .i64 0)
  have x7g : Blk (((w9.setCell ⟨w.heap.size + 1, 0, none⟩ (.slice A8 n8 c8)).setCell ⟨w.heap.size + 1 + 1, 0, none⟩ (.int .i64 (f' : Int))).setCell ⟨w.heap.size + 1 + 1 + 1, 0, none⟩ (.int .i64 0)) g 80 #[.int .i64 b.vars, .slice v.Ao v.no v.co, .slice v.Ae v.ne v.ce, .int .i64 b.nat, .slice v.Ap v.np v.cp, .int .i64 (f' : Int)] := x6g.far (p := ⟨w.heap.size + 1 + 1 + 1, 0, none⟩) (by simp <;> omega) _
  have hbf : Below w.heap.size w (((w9.setCell ⟨w.heap.size + 1, 0, none⟩ (.slice A8 n8 c8)).setCell ⟨w.heap.size + 1 + 1, 0, none⟩ (.int .i64 (f' : Int))).setCell ⟨w.heap.size + 1 + 1 + 1, 0, none⟩ (.int .i64 0)) := ((m9.setCell (by simp <;> omega) _).setCell (by simp <;> omega) _).setCell (by simp <;> omega) _
  have X51 := hid x51
  have X5g := hid x5g
  have X61 := hid x61
  have X6g := hid x6g
  have X7g := hid x7g
  have X71 := hid x71
  have X72 := hid x72
  have X73 := hid x73
  have HBF := hid hbf
  have hsz : (((w9.setCell ⟨w.heap.size + 1, 0, none⟩ (.slice A8 n8 c8)).setCell ⟨w.heap.size + 1 + 1, 0, none⟩ (.int .i64 (f' : Int))).setCell ⟨w.heap.size + 1 + 1 + 1, 0, none⟩ (.int .i64 0)).heap.size = w9.heap.size := by simp [World.setCell]
  have HT7 : Hid (TermR (NewB w (((w9.setCell ⟨w.heap.size + 1, 0, none⟩ (.slice A8 n8 c8)).setCell ⟨w.heap.size + 1 + 1, 0, none⟩ (.int .i64 (f' : Int))).setCell ⟨w.heap.size + 1 + 1 + 1, 0, none⟩ (.int .i64 0))) (((w9.setCell ⟨w.heap.size + 1, 0, none⟩ (.slice A8 n8 c8)).setCell ⟨w.heap.size + 1 + 1, 0, none⟩ (.int .i64 (f' : Int))).setCell ⟨w.heap.size + 1 + 1 + 1, 0, none⟩ (.int .i64 0)) A8 n8 c8 (rowT y)) := hid (mt.keep fun q hq => ⟨⟨Nat.le_trans hw77 hq.1, by rw [hsz]; exact hq.2⟩, fun o => cell_of_heap ((Below.heap_setCell _ _ _ _ (MNQ.out q hq).2.2).trans ((Below.heap_setCell _ _ _ _ (MNQ.out q hq).2.1).trans (Below.heap_setCell _ _ _ _ (MNQ.out q hq).1))) o⟩)
  clear x51 x52 x53 x5g x61 x62 x63 x6g x71 x72 x73 x7g hbf hsz m1 m2 m3 mt m9 mg mq
  go_region
  go_wp2_with fail
  refine leaves_cons (f := 37) (args := #[.pointer (some ⟨w.heap.size + 1, 0, none⟩), .pointer (some ⟨w.heap.size + 1 + 1, 0, none⟩), .pointer (some ⟨w.heap.size + 1 + 1 + 1, 0, none⟩)]) (by simp) (by simp [go_sem]) ?_
  refine (scatch_idle _ _ _ _).mono ?_
  rintro e u' w'' ⟨rfl, rfl, rfl⟩
  generalize (((w9.setCell ⟨w.heap.size + 1, 0, none⟩ (.slice A8 n8 c8)).setCell ⟨w.heap.size + 1 + 1, 0, none⟩ (.int .i64 (f' : Int))).setCell ⟨w.heap.size + 1 + 1 + 1, 0, none⟩ (.int .i64 0)) = wf at HBF X71 X72 X73 HT7 ⊢
  have r1 := X71.out.alloc (.cells #[.int .i64 0] 76)
  have r2 := X72.out.alloc (.cells #[.int .i64 0] 76)
  have r3 := X73.out.alloc (.cells #[.int .i64 0] 76)
  have hb9 := below_alloc wf (.cells #[.int .i64 0] 76)
  have HP : Hid (EvalP (evalQ b l fuel) w (.returned (.tuple #[.slice A8 n8 c8, .int .i64 (f' : Int), .int .i64 0])) (wf.drew.alloc (.cells #[.int .i64 0] 76))) := hid (by
   rw [HQ.out]
   exact ⟨below_drewN (HBF.out.trans (hb9.mono HBF.out.size)) 1, A8, n8, c8, rfl, (HT7.out.keep fun q hq => ⟨⟨hq.1, Nat.lt_of_lt_of_le hq.2 hb9.size⟩, fun o => hb9.cell (p := ⟨q, o, none⟩) hq.2⟩)⟩)
  have q1 : (wf.drew.alloc (.cells #[.int .i64 0] 76)).cell? ⟨w.heap.size + 1, 0, none⟩ = some (.slice A8 n8 c8) := r1.cell 0
  have q2 : (wf.drew.alloc (.cells #[.int .i64 0] 76)).cell? ⟨w.heap.size + 1 + 1, 0, none⟩ = some (.int .i64 (f' : Int)) := r2.cell 0
  have q3 : (wf.drew.alloc (.cells #[.int .i64 0] 76)).cell? ⟨w.heap.size + 1 + 1 + 1, 0, none⟩ = some (.int .i64 0) := r3.cell 0
  generalize (wf.drew.alloc (.cells #[.int .i64 0] 76)) = wz at HP q1 q2 q3 ⊢
  simp [Leaves, settle, results, Try.results19, go_sem, q1, q2, q3]
  exact HP.out
  -- END
end Go.Proofs.Ytjllmblbbgojbaa
