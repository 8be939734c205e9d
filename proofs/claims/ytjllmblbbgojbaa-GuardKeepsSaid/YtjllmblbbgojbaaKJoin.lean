/- Merged: Keep7, Join. -/
import Derived.Test.YtjllmblbbgojbaaKShort2
import Derived.Test.YtjllmblbbgojbaaKDeeps
import Derived.Test.YtjllmblbbgojbaaKSmall
import Derived.Test.YtjllmblbbgojbaaKSameB
import Derived.Test.YtjllmblbbgojbaaKRefAll
import Derived.Test.YtjllmblbbgojbaaChecked
import Derived.Test.YtjllmblbbgojbaaKBase
import Derived.ProofKit
import Derived.SizedLaws
import Derived.Deep.Slices
import Derived.Deep.Fields
namespace Go.Proofs.Ytjllmblbbgojbaa
section
open Go.Lib (hid)
open Go.RowKit
set_option linter.unusedSimpArgs false in
set_option linter.unusedVariables false in
set_option maxRecDepth 100000 in
set_option maxHeartbeats 8000000 in
theorem keeps7_law {w : World} {v : BkVal} {b : Bk} (hb : BookV w v b) (hcp : v.Ap = none → v.cp = 0) {A : Option Addr} {n c : Nat} {t : List Nd} (ht : TermV w A n c t) :
 Calls Try.prog 3 #[.agg #[.int .i64 b.vars, .slice v.Ao v.no v.co, .slice v.Ae v.ne v.ce, .int .i64 b.nat, .slice v.Ap v.np v.cp], .slice A n c] w (BoolP true w) := by
 obtain ⟨i0, hi, hy0, hy1, hy2⟩ := info_parts infoN'
 have HI0 := hid hi
 have HY0 := hid hy0
 have HY1 := hid hy1
 have HY2 := hid hy2
 clear hi hy0 hy1 hy2
 have HBV := hid (fun (w' : World) (h : Below w.heap.size w w') => hb.below h)
 have HTV := hid (fun (w' : World) (h : Below w.heap.size w w') => ht.below h)
 have HSZ := hid (fun (w' : World) (h : Below w.heap.size w w') => size_any (hb.below h) 4000 (by omega))
 have HCB := hid (fun (hs : SmallB b) (w' : World) (h : Below w.heap.size w w') => copyBook_any (hb.below h) hs hcp)
 have HCT := hid (fun (w' : World) (h : Below w.heap.size w w') => copy_any (ht.below h))
 have HFR := hid (fun (w' : World) (h : Below w.heap.size w w') => refFix_any (hb.below h) 3 (ht.below h))
 have HCR := hid (fun (w' : World) (h : Below w.heap.size w w') => refCheckG_any (hb.below h) 3 (ht.below h))
 have HFP := hid (fun (w' : World) (u : BkVal) (B : Option Addr) (m d : Nat) (hu : BookV w' u b) (h : TermV w' B m d t) => gfix_any hu 3 h)
 have HCP := hid (fun (w' : World) (u : BkVal) (B : Option Addr) (m d : Nat) (hu : BookV w' u b) (h : TermV w' B m d t) => gcheck_any hu 3 h)
 have HSB := hid (fun (w' : World) (u : BkVal) (hu : BookV w' u b) (h : Below w.heap.size w w') => sameBook_true (hb.below h) hu)
 have HSR := hid (fun (w' : World) (B : Option Addr) (d : Nat) (h1 : TermV w' B n d t) (hh : Below w.heap.size w w') => (same_any w' h1 (ht.below hh)).mono (fun e w'' ⟨h1, m, h2⟩ => (⟨by rw [decide_eq_true rfl] at h1; exact h1, by rw [h2]; exact below_drewN (Below.refl _ _) m⟩ : BoolP true w' e w'')))
 have HSS := hid (fun (h : sizeB 4000 b < 4000) => small_size (by omega) h)
 have hln := ht.len
 have hfn := ht.few
 have HLN := hid hln
 have HB0 := hid (below_alloc w (.cells #[.int .i64 b.vars, .slice v.Ao v.no v.co, .slice v.Ae v.ne v.ce, .int .i64 b.nat, .slice v.Ap v.np v.cp] 26))
 have HK0 := hid (Blk.new w 26 #[.int .i64 b.vars, .slice v.Ao v.no v.co, .slice v.Ae v.ne v.ce, .int .i64 b.nat, .slice v.Ap v.np v.cp])
 generalize sizeB 4000 b = sz at *
 generalize fixE b 3 t = fe at *
 generalize chkGE b 3 t = ce9 at *
 obtain ⟨Ao, no, co, Ae, ne, ce, Ap, np, cp⟩ := v
 simp only at HBV HSZ HCB HCT HFR HCR HFP HCP HSB HB0 HK0 ⊢
 clear hb ht hcp hln
 generalize b.vars = bv at *
 generalize b.nat = bn at *
 go_in
 go_wp2_with fail
 refine gawake_any.mono ?_
 rintro e w1 ⟨rfl, hw1⟩
 have HB1 := bto HB0 hw1
 have HK1 := hid (Blk.below HK0.out hw1 (by simp))
 have zk1 := Blk.cell HK1.out
 clear hw1
 go_wp2_with fail
 refine (HSZ.out _ HB1.out).mono ?_
 rintro e w2 ⟨rfl, hw2⟩
 have HB2 := bto HB1 hw2
 have HK2 := bko HK1 hw2
 clear hw2 zk1
 by_cases h1 : 4000 ≤ sz
 · have d1 : decide (sz ≥ 4000) = true := decide_eq_true h1
   clear h1
   go_wp2_with fail
   go_ret
   exact ⟨rfl, HB2.out⟩
 have d1 : decide (sz ≥ 4000) = false := decide_eq_false h1
 have HSM := hid (HSS.out (by omega))
 clear h1
 by_cases h2 : 4000 < n
 · have d2 : decide ((n : Int) > 4000) = true := decide_eq_true (by omega)
   clear h2
   go_wp2_with fail
   go_ret
   exact ⟨rfl, HB2.out⟩
 have d2 : decide ((n : Int) > 4000) = false := decide_eq_false (by omega)
 have hn4 : n ≤ 4000 := by omega
 have zk2 := Blk.cell HK2.out
 clear h2
 go_wp2_with fail
 refine (HCB.out HSM.out _ HB2.out).mono ?_
 rintro e w3 ⟨hd3, u, rfl, hu3⟩
 obtain ⟨Bo, mo, do_, Be, me, de, Bp, mp, dp⟩ := u
 simp only
 have HB3 := bto HB2 hd3
 have HK3 := bko HK2 hd3
 have HU3 := hid hu3
 clear hd3 hu3 zk2
 go_wp2_with fail
 refine (HCT.out _ HB3.out).mono ?_
 rintro e w4 ⟨hd4, A4, c4, rfl, ho4⟩
 have hs4 := hd4.size
 rw [OwnN, HLN.out] at ho4
 rw [HLN.out]
 have hal4 := below_alloc w4 (.cells #[.int .i64 77, .int .i64 0, .int .i64 0] 34)
 have HOW := hid (own_below ho4 hal4)
 have HBK := hid (Blk.new w4 34 #[.int .i64 77, .int .i64 0, .int .i64 0])
 have HNEW := hid (blk_news HBK.out)
 have HA4 := hid (hd4.trans (hal4.mono hs4))
 clear hd4 ho4 hal4
 go_wp2_with (at_builtin; go_loud (refine wpList_oper rfl (oper_append_mine (.tmp 22) (.tmp 24) 28 rfl w3.heap.size 34 i0 _ 3 24 Try.underlying28 HI0.out HY0.out HY1.out HY2.out rfl (by decide) (.slice A4 n c4) n (flat t) rfl HOW.out (some ⟨w4.heap.size, 0, none⟩) 1 1 [.int .i64 77, .int .i64 0, .int .i64 0] rfl rfl (fun e => by cases e) HNEW.out (by simp [Value.oneCell']) (by unfold maxLen; omega) (by omega) (by simp; omega) ?_)); intro A5 c5 w5 hap; have HAP := hid hap; clear hap)
 have hd5 : Below w3.heap.size w3 w5 := HA4.out.grown HAP.out.grown (by have := HA4.out.size; omega) (fun g e => (ownsRow_block HOW.out e).1)
 have hown5 : OwnN w5 w3.heap.size (.slice A5 (t ++ [(⟨77, 0, 0⟩ : Nd)]).length c5) (t ++ [(⟨77, 0, 0⟩ : Nd)]) := by
  have h1 := HAP.out.own
  unfold OwnN
  rw [List.length_append, HLN.out, flat_append]
  exact h1
 have hal5 := below_alloc w5 (.cells #[.int .i64 bv, .slice Bo mo do_, .slice Be me de, .int .i64 bn, .slice Bp mp dp] 26)
 have HW6 := hid (hal5)
 have htm : TermV (w5.alloc (.cells #[.int .i64 bv, .slice Bo mo do_, .slice Be me de, .int .i64 bn, .slice Bp mp dp] 26)) A5 (t ++ [(⟨77, 0, 0⟩ : Nd)]).length c5 (t ++ [(⟨77, 0, 0⟩ : Nd)]) := by
  obtain ⟨A', n', c', e, ht⟩ := OwnN.termS hown5 (by rw [List.length_append, HLN.out]; simp; omega)
  injection e with e1 e2 e3
  subst e1 e2 e3
  have h2 := ht.keep (R' := (· < w5.heap.size)) (w' := w5) fun b hb => ⟨(ownsRow_block hown5 hb).2.1, fun _ => rfl⟩
  exact TermV.below h2 hal5
 have hlen : (t ++ [(⟨77, 0, 0⟩ : Nd)]).length = n + 1 := by rw [List.length_append, HLN.out]; rfl
 rw [hlen] at htm
 have hc5 := htm.cap
 have hfr := htm.front (k := n) (by omega)
 rw [List.take_append_of_le_length (by rw [HLN.out]; exact Nat.le_refl _), List.take_of_length_le (by rw [HLN.out]; exact Nat.le_refl _)] at hfr
 have HTF : Hid (TermV (w5.alloc (.cells #[.int .i64 bv, .slice Bo mo do_, .slice Be me de, .int .i64 bn, .slice Bp mp dp] 26)) A5 n c5 t) := hid hfr
 have HTM := hid htm
 have HBW := hid ((HB3.out.trans (hd5.mono HB3.out.size)).trans (hal5.mono (by have := HB3.out.size; have := hd5.size; omega)))
 have HKW := hid ((HK3.out.below hd5 HK3.out.lt).alloc (.cells #[.int .i64 bv, .slice Bo mo do_, .slice Be me de, .int .i64 bn, .slice Bp mp dp] 26))
 have HUV := hid ((HU3.out.below hd5).below hal5)
 have HU6 := hid (Blk.new w5 26 #[.int .i64 bv, .slice Bo mo do_, .slice Be me de, .int .i64 bn, .slice Bp mp dp])
 have hcz : (n : Int) ≤ (c5 : Int) := by omega
 have hn0 : (0 : Int) ≤ (n : Int) := by omega
 clear hd5 hown5 htm hlen hfr hal5
 generalize hg : (w5.alloc (.cells #[.int .i64 bv, .slice Bo mo do_, .slice Be me de, .int .i64 bn, .slice Bp mp dp] 26)) = w6 at *
 clear hg
 obtain ⟨bq, oq, rfl, hbq, hq0, _, _⟩ := HTM.out.at_ (p := n) (by omega)
 have e77 : nth (t ++ [(⟨77, 0, 0⟩ : Nd)]) n = ⟨77, 0, 0⟩ := by
  rw [← HLN.out]
  simp [nth]
 rw [e77] at hq0
 have HQ0 := hid hq0
 have HBQ := hid hbq
 clear e77 hq0 hbq
 have HW6 : Hid (Below w6.heap.size w6 w6) := hid (Below.refl _ _)
 have HWd := hid (below_drewN HW6.out 1)
 have HUd := hid (HU6.out.drewN 1)
 refine wp_region_held_drew (S := (fun w' => w'.cell? ⟨w5.heap.size, 0, none⟩ = some (.int .i64 bv) ∧ w'.cell? ⟨w5.heap.size, 1, none⟩ = some (.slice Bo mo do_) ∧ w'.cell? ⟨w5.heap.size, 2, none⟩ = some (.slice Be me de) ∧ w'.cell? ⟨w5.heap.size, 3, none⟩ = some (.int .i64 bn) ∧ w'.cell? ⟨w5.heap.size, 4, none⟩ = some (.slice Bp mp dp))) (by kernel_rfl) ?_ (fun hHeld => ?_)
 · (try dsimp only); exact ⟨HUd.out.cell 0, HUd.out.cell 1, HUd.out.cell 2, HUd.out.cell 3, HUd.out.cell 4⟩
 refine tq 0 hHeld ?_
 try simp only [p7]
 refine tq 1 hHeld ?_
 try simp only [p7]
 refine tq 2 hHeld ?_
 try simp only [p7]
 refine tq 3 hHeld ?_
 try simp only [p7]
 refine tq 4 hHeld ?_
 try simp only [p7]
 refine r1 5 fun K hK => ?_
 go_simp
 go_at_call 11
 refine (HCP.out w6.drew ⟨Bo, mo, do_, Be, me, de, Bp, mp, dp⟩ (some ⟨bq, oq, none⟩) n c5 (HUV.out.below HWd.out) (HTF.out.below HWd.out)).mono ?_
 rintro e7 w7 ⟨rfl, hd7⟩
 have HW7 := bto HWd hd7
 have HU7 := bko HUd hd7
 clear hd7
 go_wp2_with fail
 refine hK.out _ _ (by exact ⟨HU7.out.cell 0, HU7.out.cell 1, HU7.out.cell 2, HU7.out.cell 3, HU7.out.cell 4⟩) fun hHeld => ?_
 clear hK K
 try simp only [p7]
 refine tq 6 hHeld ?_
 try simp only [p7]
 refine wpAnyH_done (by kernel_rfl) ?_ _
 have HWe := hid (below_drewN HW7.out 1)
 have HUe := hid (HU7.out.drewN 1)
 go_wp2_with fail
 refine wp_region_held_drew (S := (fun w' => w'.cell? ⟨w5.heap.size, 0, none⟩ = some (.int .i64 bv) ∧ w'.cell? ⟨w5.heap.size, 1, none⟩ = some (.slice Bo mo do_) ∧ w'.cell? ⟨w5.heap.size, 2, none⟩ = some (.slice Be me de) ∧ w'.cell? ⟨w5.heap.size, 3, none⟩ = some (.int .i64 bn) ∧ w'.cell? ⟨w5.heap.size, 4, none⟩ = some (.slice Bp mp dp))) (by kernel_rfl) ?_ (fun hHeld => ?_)
 · (try dsimp only); exact ⟨HUe.out.cell 0, HUe.out.cell 1, HUe.out.cell 2, HUe.out.cell 3, HUe.out.cell 4⟩
 refine tq 0 hHeld ?_
 try simp only [p7]
 refine tq 1 hHeld ?_
 try simp only [p7]
 refine tq 2 hHeld ?_
 try simp only [p7]
 refine tq 3 hHeld ?_
 try simp only [p7]
 refine tq 4 hHeld ?_
 try simp only [p7]
 refine r1 5 fun K hK => ?_
 go_simp
 go_at_call 12
 refine (HFP.out w7.drew ⟨Bo, mo, do_, Be, me, de, Bp, mp, dp⟩ (some ⟨bq, oq, none⟩) n c5 (HUV.out.below HWe.out) (HTF.out.below HWe.out)).mono ?_
 rintro e8 w8 ⟨rfl, hd8⟩
 have HW8 := bto HWe hd8
 have HU8 := bko HUe hd8
 clear hd8
 go_wp2_with fail
 refine hK.out _ _ (by exact ⟨HU8.out.cell 0, HU8.out.cell 1, HU8.out.cell 2, HU8.out.cell 3, HU8.out.cell 4⟩) fun hHeld => ?_
 clear hK K
 try simp only [p7]
 refine tq 6 hHeld ?_
 try simp only [p7]
 refine wpAnyH_done (by kernel_rfl) ?_ _
 have HB8 := hid (HBW.out.trans (HW8.out.mono HBW.out.size))
 have HK8 := hid (HKW.out.below HW8.out HKW.out.lt)
 have zk8 := Blk.cell HK8.out
 have zu8 := Blk.cell HU8.out
 go_wp2_with fail
 refine (HSB.out w8 ⟨Bo, mo, do_, Be, me, de, Bp, mp, dp⟩ (HUV.out.below HW8.out) HB8.out).mono ?_
 rintro e w9 ⟨rfl, hd9⟩
 have HW9 := bto HW8 hd9
 have HB9 := bto HB8 hd9
 have HK9 := hid (HK8.out.below hd9 HK8.out.lt)
 clear hd9 zk8 zu8
 go_wp2_with fail
 refine (HSR.out w9 (some ⟨bq, oq, none⟩) c5 (HTF.out.below HW9.out) HB9.out).mono ?_
 rintro e w10 ⟨rfl, hd10⟩
 have HW10 := bto HW9 hd10
 have HB10 := bto HB9 hd10
 have HK10 := hid (HK9.out.below hd10 HK9.out.lt)
 have zk10 := Blk.cell HK10.out
 have hq10 := (Below.cell HW10.out (p := ⟨bq, oq + n * 3, none⟩) HBQ.out).trans HQ0.out
 have hn1 : (n : Int) < (n : Int) + 1 := by omega
 clear hd10
 go_wp2_with fail
 refine (HCR.out w10 HB10.out).mono ?_
 rintro e w11 ⟨rfl, hd11⟩
 have HB11 := bto HB10 hd11
 have HK11 := hid (HK10.out.below hd11 HK10.out.lt)
 have zk11 := Blk.cell HK11.out
 clear hd11 zk10 hq10
 go_wp2_with fail
 refine (HFR.out w11 HB11.out).mono ?_
 rintro e w12 ⟨rfl, hd12⟩
 have HB12 := bto HB11 hd12
 clear hd12 zk11
 go_wp2_with fail
 go_ret
 exact ⟨rfl, HB12.out⟩
end
section
set_option maxRecDepth 100000
open Go.ChangeShapes Go.WideShapes Go.ChangeAt Go.RowKit Go.Deep
theorem Try.own : ownKnob Try.prog.godebug = none := by kernel_rfl
theorem Try.laidOut : laidOutB Try.prog = true := by kernel_rfl
theorem nodeCells : Try.prog.cellsOf 34 = 3 := by kernel_rfl
theorem nodeBytes : Try.prog.bytesOf 34 = 24 := by kernel_rfl
theorem intCells : Try.prog.cellsOf 3 = 1 := by kernel_rfl
section
variable {H : Type} {enc : TypeId × Value → H}
theorem node_at {w : World} {base : Nat} {spare : Nat → Bool} {held : Bool} {n : Nat} {cs : List Value} {x : DataW H × List MemPlace} (h : DataW.trod enc Try.prog w base spare held n 34 cs = some x) : ∃ o a b : Int, cs = [.int .i64 o, .int .i64 a, .int .i64 b] := by
 obtain ⟨xs, m, _, _, hlen, hxs, hf⟩ := DataW.trod_struct Try.underlying34 h
 rw [nodeCells] at hlen
 have g0 : DataW.trod enc Try.prog w base spare held m 3 ((cs.drop 0).take (Try.prog.cellsOf 3)) = xs[0]? := hf 0 _ rfl
 have g1 : DataW.trod enc Try.prog w base spare held m 3 ((cs.drop 1).take (Try.prog.cellsOf 3)) = xs[1]? := hf 1 _ rfl
 have g2 : DataW.trod enc Try.prog w base spare held m 3 ((cs.drop 2).take (Try.prog.cellsOf 3)) = xs[2]? := hf 2 _ rfl
 have hx3 : xs.length = 3 := hxs
 rw [intCells] at g0 g1 g2
 match cs, hlen with
 | [c0, c1, c2], _ =>
  match xs, hx3 with
  | [y0, y1, y2], _ =>
   obtain ⟨o, ho, _⟩ := DataW.trod_int Try.underlying3 g0
   obtain ⟨a, ha, _⟩ := DataW.trod_int Try.underlying3 g1
   obtain ⟨b, hb, _⟩ := DataW.trod_int Try.underlying3 g2
   simp at ho ha hb
   subst ho ha hb
   exact ⟨o, a, b, rfl⟩
theorem open_term {W : World} {base : Nat} {held : Bool} {v : Value} {d : DataW H} {p : List MemPlace} (hv : Value.okWide Try.prog W .any base 28 v) (h : DataW.Trod enc Try.prog W 0 (fun _ => true) held 28 v d p)
 (hsz : ∀ es sp, d = .slice es sp → (es.length + sp.length) * Try.prog.bytesOf 34 ≤ reachBytes) (hlt : ∀ x ∈ p, x.block < W.heap.size) :
 ∃ A n c l, v = .slice A n c ∧ TermV W A n c l := by
 obtain ⟨a0, len, cap, rfl⟩ := okWide_slice Try.underlying28 hv
 obtain ⟨fuel, hf⟩ := h
 rcases open_slice Try.underlying28 hf with ⟨hcs, hx⟩ | ⟨a, len', cap', m, n, D, Pl, hcs, _, hl, hm, hmm, hx, hi⟩
 · simp [Value.cells] at hcs
   obtain ⟨rfl, rfl, rfl⟩ := hcs
   exact ⟨none, 0, 0, [], rfl, rfl, Nat.le_refl _, by decide, fun _ => rfl, fun h => absurd h (by decide)⟩
 simp [Value.cells] at hcs
 obtain ⟨rfl, rfl, rfl⟩ := hcs
 simp only [Prod.mk.injEq] at hx
 obtain ⟨rfl, rfl⟩ := hx
 simp only [if_true] at hmm
 subst hmm
 have hreach := hsz _ _ rfl
 rw [nodeBytes] at hreach
 simp only [List.length_map, List.length_range, reachBytes] at hreach
 rw [nodeCells] at hi hlt
 obtain ⟨b, off, spot⟩ := a
 have hc : ∀ i : Nat, ∃ o x y : Int, i < m → W.cell? ((⟨b, off, spot⟩ : Addr).add (i * 3)) = some (.int .i64 o) ∧ W.cell? (((⟨b, off, spot⟩ : Addr).add (i * 3)).add 1) = some (.int .i64 x) ∧ W.cell? (((⟨b, off, spot⟩ : Addr).add (i * 3)).add 2) = some (.int .i64 y) := by
  intro i
  by_cases him : i < m
  · obtain ⟨cs', hc, ht⟩ := hi i him
    obtain ⟨o, x, y, rfl⟩ := node_at ht
    obtain ⟨_, _, hat⟩ := World.cells?_some hc
    refine ⟨o, x, y, fun _ => ⟨?_, hat 1 (by omega), hat 2 (by omega)⟩⟩
    have h0 := hat 0 (by omega)
    rwa [show (((⟨b, off, spot⟩ : Addr).add (i * 3)).add 0) = (⟨b, off, spot⟩ : Addr).add (i * 3) from by simp [Go.Deep.add_add]] at h0
  exact ⟨0, 0, 0, fun h => absurd h him⟩
 have hn : ∃ N : Nat → Nd, ∀ i, i < m → W.cell? ((⟨b, off, spot⟩ : Addr).add (i * 3)) = some (.int .i64 (N i).op) ∧ W.cell? (((⟨b, off, spot⟩ : Addr).add (i * 3)).add 1) = some (.int .i64 (N i).a) ∧ W.cell? (((⟨b, off, spot⟩ : Addr).add (i * 3)).add 2) = some (.int .i64 (N i).b) :=
  ⟨fun i => ⟨(hc i).choose, (hc i).choose_spec.choose, (hc i).choose_spec.choose_spec.choose⟩, fun i him => (hc i).choose_spec.choose_spec.choose_spec him⟩
 obtain ⟨N, hN⟩ := hn
 refine ⟨_, _, _, (List.range len).map N, rfl, by simp, hl, by omega, (fun e => by cases e), fun hpos => ?_⟩
 have hspot : spot = none := by simpa [Addr.add] using World.cell?_spot (hN 0 (by omega)).1
 subst hspot
 have hb : b < W.heap.size := hlt (.cell b off) (List.mem_append.2 (.inl (MemPlace.mem_row.2 ⟨0, by omega, by simp⟩)))
 refine ⟨b, off, rfl, hb, fun k hk => ?_⟩
 simp only [List.length_map, List.length_range] at hk
 have hnk : nth ((List.range len).map N) k = N k := by
  rw [nth_eq (by simpa using hk)]
  simp
 obtain ⟨q0, q1, q2⟩ := hN k (by omega)
 rw [add_plain] at q0 q1 q2
 rw [add_plain] at q1 q2
 rw [hnk]
 exact ⟨q0, q1, q2⟩
theorem shut_true {W : World} {base : Nat} {sp : Nat → Bool} {held : Bool} : DataW.Trod enc Try.prog W base sp held 4 (.bool true) (.lit (.bool true)) [] := ⟨1, by simp [DataW.trod, Value.cells, Try.underlying4]⟩
end
end
end Go.Proofs.Ytjllmblbbgojbaa
