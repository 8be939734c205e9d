/- Merged: Rig, Join. -/
import Derived.Test.YtplecfbdchmogaaGreatQOctP
import Derived.Test.YtplecfbdchmogaaGreatQAwk
import Derived.Test.YtplecfbdchmogaaGreatQRefRi
import Derived.Test.YtplecfbdchmogaaGreatChecked
import Derived.Test.YtplecfbdchmogaaGreatQBase
import Derived.ProofKit
import Derived.SizedLaws
import Derived.Deep.Slices
import Derived.Deep.Fields
namespace Go.Proofs.YtplecfbdchmogaaGreat
section
open Go.Lib (hid)
open Go.RowKit
set_option linter.unusedSimpArgs false in
set_option linter.unusedVariables false in
set_option maxRecDepth 100000 in
set_option maxHeartbeats 8000000 in
theorem rights_law {w : World} {v : BkVal} {b : Bk} (hb : BookV w v b) (free : Int) {A : Option Addr} {n c : Nat} {t : List Nd} (ht : TermV w A n c t) :
 Calls Tryz.prog 3 #[.agg #[.int .i64 b.vars, .slice v.Ao v.no v.co, .slice v.Ae v.ne v.ce, .int .i64 b.nat, .slice v.Ap v.np v.cp], .int .i64 free, .slice A n c] w (BoolP true w) := by
 have HSZ := hid (fun (w' : World) (h : Below w.heap.size w w') => heavy5_any (hb.below h))
 have HFP := hid (fun (w' : World) (h : Below w.heap.size w w') => right_any (hb.below h))
 have HFR := hid (fun (w' : World) (h : Below w.heap.size w w') => refRight_any (hb.below h))
 have HCP := hid (fun (w' : World) (h : Below w.heap.size w w') => fits_any (hb.below h) free (ht.below h))
 have HCR := hid (fun (w' : World) (h : Below w.heap.size w w') => refFits_any (hb.below h) free (ht.below h))
 have HB0 := hid (below_alloc w (.cells #[.int .i64 b.vars, .slice v.Ao v.no v.co, .slice v.Ae v.ne v.ce, .int .i64 b.nat, .slice v.Ap v.np v.cp] 26))
 have HK0 := hid (Blk.new w 26 #[.int .i64 b.vars, .slice v.Ao v.no v.co, .slice v.Ae v.ne v.ce, .int .i64 b.nat, .slice v.Ap v.np v.cp])
 generalize decide (12000 ≤ sizeB 12000 b) = hv at *
 generalize rightE b = fe at *
 generalize fitsE b free t = ce9 at *
 obtain ⟨Ao, no, co, Ae, ne, ce, Ap, np, cp⟩ := v
 simp only at HSZ HFP HFR HCP HCR HB0 HK0 ⊢
 clear hb ht
 generalize b.vars = bv at *
 generalize b.nat = bn at *
 go_in
 go_wp2_with fail
 refine awake5_any.mono ?_
 rintro e w1 ⟨rfl, hw1⟩
 have HB1 := bto HB0 hw1
 have HK1 := hid (Blk.below HK0.out hw1 (by simp))
 have zk1 := Blk.cell HK1.out
 clear hw1
 go_wp2_with fail
 refine (HSZ.out _ HB1.out).mono ?_
 rintro e w2 ⟨rfl, hw2⟩
 have HB2 := bto HB1 hw2
 have HK2 := bko HK1 hw2
 clear hw2 zk1
 by_cases hbig : hv = true ∨ 5000 < n
 · have hs : hv = true ∨ (hv = false ∧ 5000 < n) := by
    cases hv
    · simp only [Bool.false_eq_true, false_or] at hbig
      exact Or.inr ⟨rfl, hbig⟩
    exact Or.inl rfl
   clear hbig
   rcases hs with rfl | ⟨rfl, h2⟩
   case' inr => have d1 : decide ((n : Int) > 5000) = true := decide_eq_true (by omega)
   all_goals
    go_wp2_with fail
    go_ret
    exact ⟨rfl, HB2.out⟩
 obtain rfl : hv = false := by
  cases hv
  · rfl
  exact absurd (Or.inl rfl) hbig
 have d1 : decide ((n : Int) > 5000) = false := decide_eq_false (by omega)
 clear hbig
 have HBd := hid (below_drewN HB2.out 1)
 have HKd := hid (HK2.out.drewN 1)
 go_wp2_with fail
 refine wp_region_held_drew (S := (fun w' => w'.cell? ⟨w.heap.size, 0, none⟩ = some (.int .i64 bv) ∧ w'.cell? ⟨w.heap.size, 1, none⟩ = some (.slice Ao no co) ∧ w'.cell? ⟨w.heap.size, 2, none⟩ = some (.slice Ae ne ce) ∧ w'.cell? ⟨w.heap.size, 3, none⟩ = some (.int .i64 bn) ∧ w'.cell? ⟨w.heap.size, 4, none⟩ = some (.slice Ap np cp))) (by kernel_rfl) ?_ (fun hHeld => ?_)
 · (try dsimp only); exact ⟨HKd.out.cell 0, HKd.out.cell 1, HKd.out.cell 2, HKd.out.cell 3, HKd.out.cell 4⟩
 refine tq 0 hHeld ?_
 try simp only [p7]
 refine tq 2 hHeld ?_
 try simp only [p7]
 refine r1 1 fun K hK => ?_
 go_simp
 go_at_call 9
 refine (HFP.out w2.drew HBd.out).mono ?_
 rintro e3 w3 ⟨rfl, hd3⟩
 have HB3 := bto HBd hd3
 have HK3 := bko HKd hd3
 clear hd3
 go_wp2_with fail
 refine hK.out _ _ (by exact ⟨HK3.out.cell 0, HK3.out.cell 1, HK3.out.cell 2, HK3.out.cell 3, HK3.out.cell 4⟩) fun hHeld => ?_
 clear hK K
 try simp only [p7]
 refine r1 3 fun K hK => ?_
 go_simp
 go_at_call 10
 refine (HFR.out w3 HB3.out).mono ?_
 rintro e4 w4 ⟨rfl, hd4⟩
 have HB4 := bto HB3 hd4
 have HK4 := bko HK3 hd4
 clear hd4
 go_wp2_with fail
 refine hK.out _ _ (by exact ⟨HK4.out.cell 0, HK4.out.cell 1, HK4.out.cell 2, HK4.out.cell 3, HK4.out.cell 4⟩) fun hHeld => ?_
 clear hK K
 try simp only [p7]
 refine tq 4 hHeld ?_
 try simp only [p7]
 refine tq 5 hHeld ?_
 try simp only [p7]
 refine tq 6 hHeld ?_
 try simp only [p7]
 refine tq 7 hHeld ?_
 try simp only [p7]
 refine tq 8 hHeld ?_
 try simp only [p7]
 refine tq 10 hHeld ?_
 try simp only [p7]
 refine tq 11 hHeld ?_
 try simp only [p7]
 refine tq 12 hHeld ?_
 try simp only [p7]
 refine r1 9 fun K hK => ?_
 go_simp
 go_at_call 11
 refine (HCP.out w4 HB4.out).mono ?_
 rintro e5 w5 ⟨rfl, hd5⟩
 have HB5 := bto HB4 hd5
 have HK5 := bko HK4 hd5
 clear hd5
 go_wp2_with fail
 refine hK.out _ _ (by exact ⟨HK5.out.cell 0, HK5.out.cell 1, HK5.out.cell 2, HK5.out.cell 3, HK5.out.cell 4⟩) fun hHeld => ?_
 clear hK K
 try simp only [p7]
 refine r1 13 fun K hK => ?_
 go_simp
 go_at_call 12
 refine (HCR.out w5 HB5.out).mono ?_
 rintro e6 w6 ⟨rfl, hd6⟩
 have HB6 := bto HB5 hd6
 have HK6 := bko HK5 hd6
 clear hd6
 go_wp2_with fail
 refine hK.out _ _ (by exact ⟨HK6.out.cell 0, HK6.out.cell 1, HK6.out.cell 2, HK6.out.cell 3, HK6.out.cell 4⟩) fun hHeld => ?_
 clear hK K
 try simp only [p7]
 refine tq 14 hHeld ?_
 try simp only [p7]
 refine tq 15 hHeld ?_
 try simp only [p7]
 refine tq 16 hHeld ?_
 try simp only [p7]
 refine wpAnyH_done (by kernel_rfl) ?_ _
 go_wp2_with fail
 go_ret
 exact ⟨rfl, HB6.out⟩
end
section
set_option maxRecDepth 100000
open Go.ChangeShapes Go.WideShapes Go.ChangeAt Go.RowKit Go.Deep
theorem Tryz.own : ownKnob Tryz.prog.godebug = none := by kernel_rfl
theorem Tryz.laidOut : laidOutB Tryz.prog = true := by kernel_rfl
theorem nodeCells : Tryz.prog.cellsOf 53 = 3 := by kernel_rfl
theorem nodeBytes : Tryz.prog.bytesOf 53 = 24 := by kernel_rfl
theorem intCells : Tryz.prog.cellsOf 3 = 1 := by kernel_rfl
section
variable {H : Type} {enc : TypeId × Value → H}
theorem node_at {w : World} {base : Nat} {spare : Nat → Bool} {held : Bool} {n : Nat} {cs : List Value} {x : DataW H × List MemPlace} (h : DataW.trod enc Tryz.prog w base spare held n 53 cs = some x) : ∃ o a b : Int, cs = [.int .i64 o, .int .i64 a, .int .i64 b] := by
 obtain ⟨xs, m, _, _, hlen, hxs, hf⟩ := DataW.trod_struct Tryz.underlying53 h
 rw [nodeCells] at hlen
 have g0 : DataW.trod enc Tryz.prog w base spare held m 3 ((cs.drop 0).take (Tryz.prog.cellsOf 3)) = xs[0]? := hf 0 _ rfl
 have g1 : DataW.trod enc Tryz.prog w base spare held m 3 ((cs.drop 1).take (Tryz.prog.cellsOf 3)) = xs[1]? := hf 1 _ rfl
 have g2 : DataW.trod enc Tryz.prog w base spare held m 3 ((cs.drop 2).take (Tryz.prog.cellsOf 3)) = xs[2]? := hf 2 _ rfl
 have hx3 : xs.length = 3 := hxs
 rw [intCells] at g0 g1 g2
 match cs, hlen with
 | [c0, c1, c2], _ =>
  match xs, hx3 with
  | [y0, y1, y2], _ =>
   obtain ⟨o, ho, _⟩ := DataW.trod_int Tryz.underlying3 g0
   obtain ⟨a, ha, _⟩ := DataW.trod_int Tryz.underlying3 g1
   obtain ⟨b, hb, _⟩ := DataW.trod_int Tryz.underlying3 g2
   simp at ho ha hb
   subst ho ha hb
   exact ⟨o, a, b, rfl⟩
theorem open_term {W : World} {base : Nat} {held : Bool} {v : Value} {d : DataW H} {p : List MemPlace} (hv : Value.okWide Tryz.prog W .any base 28 v) (h : DataW.Trod enc Tryz.prog W 0 (fun _ => true) held 28 v d p)
 (hsz : ∀ es sp, d = .slice es sp → (es.length + sp.length) * Tryz.prog.bytesOf 53 ≤ reachBytes) (hlt : ∀ x ∈ p, x.block < W.heap.size) :
 ∃ A n c l, v = .slice A n c ∧ TermV W A n c l := by
 obtain ⟨a0, len, cap, rfl⟩ := okWide_slice Tryz.underlying28 hv
 obtain ⟨fuel, hf⟩ := h
 rcases open_slice Tryz.underlying28 hf with ⟨hcs, hx⟩ | ⟨a, len', cap', m, n, D, Pl, hcs, _, hl, hm, hmm, hx, hi⟩
 · simp [Value.cells] at hcs
   obtain ⟨rfl, rfl, rfl⟩ := hcs
   exact ⟨none, 0, 0, [], rfl, rfl, Nat.le_refl _, by decide, fun _ => rfl, fun h => absurd h (by decide)⟩
 simp [Value.cells] at hcs
 obtain ⟨rfl, rfl, rfl⟩ := hcs
 simp only [Prod.mk.injEq] at hx
 obtain ⟨rfl, rfl⟩ := hx
 simp only [if_true] at hmm
 subst hmm
 have hreach := hsz _ _ rfl
 rw [nodeBytes] at hreach
 simp only [List.length_map, List.length_range, reachBytes] at hreach
 rw [nodeCells] at hi hlt
 obtain ⟨b, off, spot⟩ := a
 have hc : ∀ i : Nat, ∃ o x y : Int, i < m → W.cell? ((⟨b, off, spot⟩ : Addr).add (i * 3)) = some (.int .i64 o) ∧ W.cell? (((⟨b, off, spot⟩ : Addr).add (i * 3)).add 1) = some (.int .i64 x) ∧ W.cell? (((⟨b, off, spot⟩ : Addr).add (i * 3)).add 2) = some (.int .i64 y) := by
  intro i
  by_cases him : i < m
  · obtain ⟨cs', hc, ht⟩ := hi i him
    obtain ⟨o, x, y, rfl⟩ := node_at ht
    obtain ⟨_, _, hat⟩ := World.cells?_some hc
    refine ⟨o, x, y, fun _ => ⟨?_, hat 1 (by omega), hat 2 (by omega)⟩⟩
    have h0 := hat 0 (by omega)
    rwa [show (((⟨b, off, spot⟩ : Addr).add (i * 3)).add 0) = (⟨b, off, spot⟩ : Addr).add (i * 3) from by simp [Go.Deep.add_add]] at h0
  exact ⟨0, 0, 0, fun h => absurd h him⟩
 have hn : ∃ N : Nat → Nd, ∀ i, i < m → W.cell? ((⟨b, off, spot⟩ : Addr).add (i * 3)) = some (.int .i64 (N i).op) ∧ W.cell? (((⟨b, off, spot⟩ : Addr).add (i * 3)).add 1) = some (.int .i64 (N i).a) ∧ W.cell? (((⟨b, off, spot⟩ : Addr).add (i * 3)).add 2) = some (.int .i64 (N i).b) :=
  ⟨fun i => ⟨(hc i).choose, (hc i).choose_spec.choose, (hc i).choose_spec.choose_spec.choose⟩, fun i him => (hc i).choose_spec.choose_spec.choose_spec him⟩
 obtain ⟨N, hN⟩ := hn
 refine ⟨_, _, _, (List.range len).map N, rfl, by simp, hl, by omega, (fun e => by cases e), fun hpos => ?_⟩
 have hspot : spot = none := by simpa [Addr.add] using World.cell?_spot (hN 0 (by omega)).1
 subst hspot
 have hb : b < W.heap.size := hlt (.cell b off) (List.mem_append.2 (.inl (MemPlace.mem_row.2 ⟨0, by omega, by simp⟩)))
 refine ⟨b, off, rfl, hb, fun k hk => ?_⟩
 simp only [List.length_map, List.length_range] at hk
 have hnk : nth ((List.range len).map N) k = N k := by
  rw [nth_eq (by simpa using hk)]
  simp
 obtain ⟨q0, q1, q2⟩ := hN k (by omega)
 rw [add_plain] at q0 q1 q2
 rw [add_plain] at q1 q2
 rw [hnk]
 exact ⟨q0, q1, q2⟩
theorem shut_true {W : World} {base : Nat} {sp : Nat → Bool} {held : Bool} : DataW.Trod enc Tryz.prog W base sp held 4 (.bool true) (.lit (.bool true)) [] := ⟨1, by simp [DataW.trod, Value.cells, Tryz.underlying4]⟩
end
end
end Go.Proofs.YtplecfbdchmogaaGreat
