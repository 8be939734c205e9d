/- core: unfolded. -/
import Derived.Test.YtjoddliplahgkaaDShort2
import Derived.Test.YtjoddliplahgkaaDWhC
import Derived.Test.YtjoddliplahgkaaDSenseD
namespace Go.Proofs.Ytjoddliplahgkaa
open Go.Lib (hid)
set_option maxHeartbeats 4000000
set_option maxRecDepth 100000
open Go.RowKit
def UnfC (r : Option TT) (w : World) (e : Ending) (w' : World) : Prop := Below w.heap.size w w' ∧ ((∃ y, r = some y ∧ ∃ A n c, e = .returned (.slice A n c) ∧ TermR (NewB w w') w' A n c (rowT y)) ∨ (r = none ∧ e = .panicked (CFail 9)))
theorem subTT_code {x u : TT} (h : (subTT x u).2 ≠ 0) : (subTT x u).2 = 9 := by
 unfold subTT at h ⊢
 split
 · rfl
 rename_i h9
 rw [if_neg h9] at h
 exact absurd rfl h
theorem liftE9 {r : List Nd × Int} {w w2 w' : World} {A : Option Addr} {m c : Nat} {l : List Nd} (hb : Below w.heap.size w w2) (hm : Moved (fun _ => False) (Value.slice none ([] : List Nd).length 0).ownBlock w2 w') (hr : r = (l, 0)) (hown : OwnN w' w.heap.size (.slice A m c) ([] ++ l)) : RowErr r w (.returned (.tuple #[.slice A m c, .int .i64 0])) w' := by
 subst hr
 exact ⟨hb.trans (hm.to_below hb.size (fun _ h => h.elim) (fun g hg => by simp [Value.ownBlock] at hg)), _, _, _, rfl, hown⟩
theorem liftC_any {A : Option Addr} {nn c : Nat} {l : List Nd} {w : World} (h : TermV w A nn c l) (up fr : Int) (hup : up ≤ 9223372036854775807) :
 Calls Try.prog 85 #[.slice A nn c, .int .i64 up, .int .i64 fr] w (RowErr (liftR l up fr) w) := by
 by_cases hs : shapeI l = 0
 rotate_left
 · have hr : liftR l up fr = ([], shapeI l) := by unfold liftR; rw [if_neg hs]
   have hsb : (shapeI l != 0) = true := by simp [hs]
   have HR := hid hr
   have HS := hid hs
   clear hr hs
   go_in
   go_wp2_with (go_at_call 13; refine (shape_any h).mono ?_; rintro e w2 ⟨rfl, hb2⟩)
   go_ret2
   exact row_err_nil hb2 HR.out
 obtain ⟨hl, n, ats, k, hpp, hrow, hfs⟩ := shape_ok hs
 have hsb : (shapeI l != 0) = false := by simp [hs]
 by_cases h1 : up < 0
 · have hr : liftR l up fr = ([], 1) := by unfold liftR; rw [if_pos hs, if_pos (.inl h1)]
   have HR := hid hr
   have HS := hid hs
   clear hr hs hpp hrow
   go_in
   go_wp2_with (go_at_call 13; refine (shape_any h).mono ?_; rintro e w2 ⟨rfl, hb2⟩)
   go_ret2
   exact row_err_nil hb2 HR.out
 by_cases h2 : fr < 0
 · have hr : liftR l up fr = ([], 1) := by unfold liftR; rw [if_pos hs, if_pos (.inr h2)]
   have h1b : decide (up < 0) = false := by simp; omega
   have HR := hid hr
   have HS := hid hs
   clear hr hs hpp hrow h1
   go_in
   go_wp2_with (go_at_call 13; refine (shape_any h).mono ?_; rintro e w2 ⟨rfl, hb2⟩)
   go_ret2
   exact row_err_nil hb2 HR.out
 have h1b : decide (up < 0) = false := by simp; omega
 have h2b : decide (fr < 0) = false := by simp; omega
 have hup0 : 0 ≤ up := by omega
 have hfr0 : 0 ≤ fr := by omega
 have hr : liftR l up fr = liftT l up fr := by unfold liftR; rw [if_pos hs, if_neg (by omega)]
 have hlt : liftT l up fr = if (raV up (min fr 1048577)).G1 0 () n k = true then ((raV up (min fr 1048577)).E1 0 () n ats k, 0) else ([], 6) := by unfold liftT; rw [hpp]
 have hlen : ∀ f, ((raV up f).E1 0 () n ats k).length ≤ 1000000000000 := fun f => by rw [raV_len1, ← hrow]; omega
 have HR := hid (hr.trans hlt)
 have HS := hid hs
 have HPP := hid hpp
 have HLEN := hid hlen
 have H := hid h
 clear hr hs hpp hrow hlt h1 h2 hlen
 by_cases hm : fr ≤ 1048577
 · have hmf : min fr 1048577 = fr := by omega
   have HR2 := HR.out
   rw [hmf] at HR2
   have HR3 := hid HR2
   clear HR2 hmf
   go_in
   go_wp2_with (go_at_call 13; refine (shape_any H.out).mono ?_; rintro e w2 ⟨rfl, hb2⟩)
   refine (raised_any (base := w.heap.size) (R := (· < w.heap.size)) hb2.size (fun b hb => Nat.lt_of_lt_of_le hb hb2.size) (H.out.keep fun b hb => ⟨hb, fun o => cell_of_heap (hb2.block b hb) o⟩) (OwnN.nil _ _) (fun g hg => by simp [Value.ownBlock] at hg) HPP.out (by omega) (by simpa using HLEN.out fr) hup0 hup hfr0 (by omega)).mono ?_
   rintro e w3 ⟨hm3, (⟨hg, v', rfl, hown, hnr⟩ | ⟨hg, rfl⟩)⟩
   · obtain ⟨A', c', rfl⟩ := hown.slice
     have HOWN := hid hown
     have HG := hid hg
     clear hown hg
     go_wp2_with fail
     go_ret2
     exact liftE9 hb2 hm3 (by rw [HR3.out, if_pos HG.out]) HOWN.out
   have HG := hid hg
   clear hg
   go_wp2_with fail
   go_ret2
   exact row_err_nil (hb2.trans (hm3.to_below hb2.size (fun _ h => h.elim) (fun g hg => by simp [Value.ownBlock] at hg))) (by rw [HR3.out, if_neg (by rw [HG.out]; simp)])
 have hmf : min fr 1048577 = 1048577 := by omega
 have hm' : 1048577 < fr := by omega
 have HR2 := HR.out
 rw [hmf] at HR2
 have HR3 := hid HR2
 clear HR2 hmf hm
 go_in
 go_wp2_with (go_at_call 13; refine (shape_any H.out).mono ?_; rintro e w2 ⟨rfl, hb2⟩)
 refine (raised_any (base := w.heap.size) (R := (· < w.heap.size)) hb2.size (fun b hb => Nat.lt_of_lt_of_le hb hb2.size) (H.out.keep fun b hb => ⟨hb, fun o => cell_of_heap (hb2.block b hb) o⟩) (OwnN.nil _ _) (fun g hg => by simp [Value.ownBlock] at hg) HPP.out (by omega) (by simpa using HLEN.out 1048577) hup0 hup (by omega) (by omega)).mono ?_
 rintro e w3 ⟨hm3, (⟨hg, v', rfl, hown, hnr⟩ | ⟨hg, rfl⟩)⟩
 · obtain ⟨A', c', rfl⟩ := hown.slice
   have HOWN := hid hown
   have HG := hid hg
   clear hown hg
   go_wp2_with fail
   go_ret2
   exact liftE9 hb2 hm3 (by rw [HR3.out, if_pos HG.out]) HOWN.out
 have HG := hid hg
 clear hg
 go_wp2_with fail
 go_ret2
 exact row_err_nil (hb2.trans (hm3.to_below hb2.size (fun _ h => h.elim) (fun g hg => by simp [Value.ownBlock] at hg))) (by rw [HR3.out, if_neg (by rw [HG.out]; simp)])
set_option linter.unusedSimpArgs false in
set_option linter.unusedVariables false in
theorem cunfolded_any {b : Bk} {free : Int} {A : Option Addr} {n c : Nat} {h : TT} {w : World} (h0 : 0 ≤ free) (h1 : free ≤ 990000) (ht : TermV w A n c (rowT h)) (hf : FitT b free h) (h12 : h.1.op = 12) :
 Calls Try.prog 87 #[.slice A n c] w (UnfC (unfR h) w) := by
 obtain ⟨f1, f2, f3, f4, f5⟩ := fix_parts hf.okt h12
 obtain ⟨nb, hnb⟩ : ∃ nb : Nat, h.1.b = (nb : Int) := ⟨h.1.b.toNat, by omega⟩
 obtain ⟨ia, hia⟩ : ∃ ia : Nat, h.1.a = (ia : Int) := ⟨h.1.a.toNat, by omega⟩
 have hk := hf.kid (kid_some (x := h) (i := 2 * ia + 1) (by omega))
 rw [around_fix h12, hnb] at hk
 obtain ⟨y0, hy0⟩ : ∃ y, y = kidN h (2 * ia + 1) := ⟨_, rfl⟩
 rw [← hy0] at hk
 obtain ⟨res, hres⟩ : ∃ r, r = unfR h := ⟨_, rfl⟩
 have hres2 : res = unfG h nb y0 := by rw [hres, hy0]; unfold unfR; rw [hnb, hia, Int.toNat_natCast, Int.toNat_natCast]
 rw [← hres]
 have HFI := hid (fun (i : Nat) (hi : (i : Int) < h.1.b) => fixAt_fit hf h12 hi)
 rw [hnb] at HFI
 have hn0 : 0 < n := by rw [← ht.len]; exact rowT_pos _
 have hn4 : n ≤ 4096 := by rw [← ht.len]; exact hf.few
 have hcap := ht.cap
 have hkid := fun (W : World) (hB : Below w.heap.size w W) => kids7_any (ht.below hB) hf.rt.shape
 rw [top_fit hf] at hkid
 have HK := hid hkid
 have HK1 : Hid (2 * ia + 1 < (kidL h.2.2).length) := hid (by omega)
 have HCL := hid (fun (w' : World) (hb : Below w.heap.size w w') => clone_own0 (ht.below hb) hn0)
 obtain ⟨bf, off, rfl, hbf, _, hc1, hc2⟩ := ht.at_ hn0
 simp only [Nat.zero_mul, Nat.add_zero] at hc1 hc2
 rw [show nth (rowT h) 0 = h.1 from rfl] at hc1 hc2
 rw [hia] at hc1
 rw [hnb] at hc2
 have hin : ia < nb := by omega
 have hnb4 : nb ≤ 4 := by omega
 obtain ⟨j, hj⟩ : ∃ j : Nat, j = 2 * ia + 1 := ⟨_, rfl⟩
 have hw1 : IntKind.i64.wrap (2 * (ia : Int)) = 2 * (ia : Int) := by rw [IntKind.wrap_i64]; omega
 have hw2 : IntKind.i64.wrap (2 * (ia : Int) + 1) = (j : Int) := by rw [IntKind.wrap_i64]; omega
 rw [← hj] at HK1 hy0
 have HY0 := hid hy0
 have HFY := hid hk
 have HLN := hid ht.len
 have HRES := hid hres2
 have HIA := hid hia
 have HNB := hid hnb
 clear ht f1 f2 f3 f4 f5 hk hres hres2 hia hnb hkid hy0 hj
 go_in
 go_upto_region 2 with fail
 refine wp_region_held_drew (S := (fun w' => Below w.heap.size w w')) (by kernel_rfl) ?_ (fun hHeld => ?_)
 · (try dsimp only); exact below_drewN (Below.refl _ _) 1
 have HBD : Hid (Below w.heap.size w w.drew) := hid (below_drewN (Below.refl _ _) 1)
 generalize w.drew = W1 at *
 refine wpAnyH_take (i := 0) (v := ?_) rfl (by kernel_rfl) (by kernel_rfl) (by kernel_rfl) (fun _ _ _ h => h) (Or.inl ⟨by rfl, fun wq hSw => ?_⟩) hHeld ?_
 rotate_left
 · ((try dsimp only at hSw); go_simp; try with_reducible rfl)
 try simp only [p7]
 refine wpAnyH_take (i := 2) (v := ?_) rfl (by kernel_rfl) (by kernel_rfl) (by kernel_rfl) (fun _ _ _ h => h) (Or.inl ⟨by rfl, fun wq hSw => ?_⟩) hHeld ?_
 rotate_left
 · ((try dsimp only at hSw); go_simp; try with_reducible rfl)
 try simp only [p7]
 refine wpAnyH_take (i := 3) (v := ?_) rfl (by kernel_rfl) (by kernel_rfl) (by kernel_rfl) (fun _ _ _ h => h) (Or.inl ⟨by rfl, fun wq hSw => ?_⟩) hHeld ?_
 rotate_left
 · ((try dsimp only at hSw); go_simp; try with_reducible rfl)
 try simp only [p7]
 refine wpAnyH_take (i := 4) (v := ?_) rfl (by kernel_rfl) (by kernel_rfl) (by kernel_rfl) (fun _ _ _ h => h) (Or.inl ⟨by rfl, fun wq hSw => ?_⟩) hHeld ?_
 rotate_left
 · ((try dsimp only at hSw); go_simp; try with_reducible rfl)
 try simp only [p7]
 refine wpAnyH_take (i := 5) (v := ?_) rfl (by kernel_rfl) (by kernel_rfl) (by kernel_rfl) (fun _ _ _ h => h) (Or.inl ⟨by rfl, fun wq hSw => ?_⟩) hHeld ?_
 rotate_left
 · (have f0 := (hSw.cell (p := ⟨bf, off + 1, none⟩) hbf).trans hc1; go_simp; try with_reducible rfl)
 try simp only [p7]
 refine wpAnyH_take (i := 6) (v := ?_) rfl (by kernel_rfl) (by kernel_rfl) (by kernel_rfl) (fun _ _ _ h => h) (Or.inl ⟨by rfl, fun wq hSw => ?_⟩) hHeld ?_
 rotate_left
 · ((try dsimp only at hSw); go_simp; try with_reducible rfl)
 try simp only [p7]
 refine wpAnyH_take (i := 7) (v := ?_) rfl (by kernel_rfl) (by kernel_rfl) (by kernel_rfl) (fun _ _ _ h => h) (Or.inl ⟨by rfl, fun wq hSw => ?_⟩) hHeld ?_
 rotate_left
 · ((try dsimp only at hSw); go_simp; try with_reducible rfl)
 try simp only [p7]
 refine r1 1 fun K hK => ?_
 go_simp
 go_at_call 74
 refine (HK.out _ HBD.out).mono ?_
 rintro en w3 ⟨hb3, A3, n3, c3, xs3, rfl, ho3, hr3⟩
 have HB3 := bto HBD hb3
 obtain ⟨hn3, gk, A4, n4, c4, rfl, hgk, hgk2, hc4, ht4⟩ := kids_at ho3 hr3 HK1.out
 have hn31 : j < n3 := by have := HK1.out; omega
 have hn32 : (j : Int) < (n3 : Int) := by omega
 have HT4 : Hid (TermV w3 A4 n4 c4 (rowT y0)) := hid (by rw [HY0.out]; exact TermR.keep ht4 (R' := (· < w3.heap.size)) (w' := w3) fun q hq => ⟨hq.2.1, fun _ => rfl⟩)
 clear hb3 ho3 hr3 hn3 ht4
 go_wp2_with fail
 refine hK.out _ _ (by exact HB3.out) fun hHeld => ?_
 clear hK K
 try simp only [p7]
 refine wpAnyH_take (i := 8) (v := ?_) rfl (by kernel_rfl) (by kernel_rfl) (by kernel_rfl) (fun _ _ _ h => h) (Or.inl ⟨by rfl, fun wq hSw => ?_⟩) hHeld ?_
 rotate_left
 · ((try dsimp only at hSw); go_simp; try with_reducible rfl)
 try simp only [p7]
 refine r1 9 fun K hK => ?_
 go_simp
 refine hK.out _ _ (by exact HB3.out) fun hHeld => ?_
 clear hK K
 try simp only [p7]
 refine wpAnyH_take (i := 10) (v := ?_) rfl (by kernel_rfl) (by kernel_rfl) (by kernel_rfl) (fun _ _ _ h => h) (Or.inl ⟨by rfl, fun wq hSw => ?_⟩) hHeld ?_
 rotate_left
 · ((try dsimp only at hSw); go_simp; try with_reducible rfl)
 try simp only [p7]
 have hcb3 := (HB3.out.cell (p := ⟨bf, off + 2, none⟩) hbf).trans hc2
 refine wpAnyH_done (by kernel_rfl) ?_ _
 go_wp2_with fail
 obtain ⟨nm, hnm⟩ : ∃ nm, nm = nb - 1 := ⟨_, rfl⟩
 go_loopw [4, 5] (fun bv iv wr => ∃ (r : Nat) (x : TT) (A' : Option Addr) (n' c' : Nat), bv = .slice A' n' c' ∧ iv = .int .i64 ((r : Int) - 1) ∧ r ≤ nb ∧ Hid (FitT b (free + (r : Int)) x) ∧ Hid (res = unfG h r x) ∧ Hid (TermV wr A' n' c' (rowT x)) ∧ Hid (r = nb ∨ TermR (NewB w wr) wr A' n' c' (rowT x)) ∧ Hid (Below w.heap.size w wr)) (fun _ iv _ => (intOf iv + 1).toNat)
 case atStart => exact ⟨nb, y0, A4, n4, c4, rfl, rfl, by omega, HFY, HRES, HT4, hid (.inl rfl), HB3⟩
 case round =>
  obtain ⟨r, x, A', n', c', rfl, rfl, hr, hfx, hun, htx, hnew, hbw⟩ := hrel
  have hbs := hbw.out.size
  cases r with
  | zero =>
   rw [show ((0 : Nat) : Int) - 1 = -1 from by omega]
   have hun2 : res = some x := hun.out
   have HU := hid hun2
   have HNW : Hid (TermR (NewB w wr) wr A' n' c' (rowT x)) := hid (hnew.out.elim (fun e => by omega) id)
   clear hun2 hr hnew hun
   go_wp2_with fail
   go_ret
   exact ⟨hbw.out, .inl ⟨x, HU.out, A', n', c', rfl, HNW.out⟩⟩
  | succ i =>
   rw [show ((i + 1 : Nat) : Int) - 1 = (i : Int) from by omega]
   have hi9 : (0 : Int) ≤ (i : Int) := by omega
   have y1 : decide ((i : Int) ≥ 0) = true := decide_eq_true (by omega)
   have hib : i < nb := by omega
   have hff := HFI.out i (by omega)
   have hup := up_fit hff (up := (i : Int)) (by omega) (by omega)
   have hS := sub_rowG (b := b) (free := free + i) (x := x) (u := upT (fixAt h i) (i : Int)) (by omega) (by omega) (by have e : free + ((i + 1 : Nat) : Int) = free + i + 1 := (by omega); rw [← e]; exact hfx.out) hup.1
   have HS := hid hS
   have hst : res = if (subTT x (upT (fixAt h i) (i : Int))).2 = 0 then unfG h i (subTT x (upT (fixAt h i) (i : Int))).1 else none := hun.out
   have HST := hid hst
   have hlc := hup.2
   have HLC := hid hlc
   have HCODE : Hid ((subTT x (upT (fixAt h i) (i : Int))).2 ≠ 0 → (subTT x (upT (fixAt h i) (i : Int))).2 = 9) := hid subTT_code
   have hri : rowT (fixAt h i) = ⟨h.1.op, (i : Int), h.1.b⟩ :: (h.2.1 ++ row h.2.2) := rfl
   have HRI := hid hri
   have HRL : Hid ((rowT (fixAt h i)).length = n) := hid HLN.out
   have HUL : Hid ((rowT (upT (fixAt h i) (i : Int))).length ≤ 4096) := hid hup.1.few
   have HCW := hid (HCL.out wr hbw.out)
   generalize subTT x (upT (fixAt h i) (i : Int)) = sx at *
   generalize rowT (upT (fixAt h i) (i : Int)) = ru at *
   generalize rowT (fixAt h i) = rf at *
   clear hff hS hst hlc hri hun hup
   go_wp2_with fail
   refine (HCW.out).mono ?_
   rintro e w5 ⟨hd5, gc, cc, rfl, ho5⟩
   have hput := own_put (n0 := h.1) (r := h.2.1 ++ row h.2.2) ho5 (by have := HLN.out; show (rowT h).length ≤ _; omega) (i : Int)
   rw [show (h.1 :: (h.2.1 ++ row h.2.2)).length = n from HLN.out, ← HRI.out] at hput
   have hbl := ownsRow_block ho5 (g := gc) rfl
   obtain ⟨hgc0, hgc1, cur, hcur⟩ := hbl
   have hcb5 : Blk w5 gc 50 cur := hcur
   have hcell := own_cellH ho5 (flat_at (rowT h) 0 (by have := HLN.out; omega)).2.1
   have hcell2 : w5.cell? ⟨gc, 1, none⟩ = some (.int .i64 (nth (rowT h) 0).a) := hcell
   have hfro : w5.frozen? ⟨gc, 1, none⟩ = false := hcb5.frozen 1
   have hg6 := grown_setv w5 gc 1 (.int .i64 (i : Int))
   have hb5 := hbw.out.trans (hd5.mono hbs)
   have hB6 : Below wr.heap.size wr (w5.setCell ⟨gc, 1, none⟩ (.int .i64 (i : Int))) := hd5.grown hg6 (by have := hd5.size; omega) (fun q e => by injection e with e; omega)
   have HB6 := hid (hbw.out.trans (hB6.mono hbs))
   have HTX6 := hid (htx.out.below hB6)
   have htf6 : TermV (w5.setCell ⟨gc, 1, none⟩ (.int .i64 (i : Int))) (some ⟨gc, 0, none⟩) n cc rf := hput.keep fun q hq => ⟨by have := hg6.size; omega, fun _ => rfl⟩
   have HLF := hid (liftC_any htf6 (i : Int) 0 (by omega))
   rw [HLC.out] at HLF
   have hnr : (rowT h).length = n := HLN.out
   rw [hnr]
   have hnn : 0 < (n : Int) := by omega
   clear hput hcur hcb5 hcell hd5 ho5 hg6 hb5 hB6 htf6 hnr
   go_wp2_with fail
   refine (HLF.out).mono ?_
   rintro e w7 ⟨hd7, A7, n7, c7, rfl, ho7⟩
   have HB7 := bto HB6 hd7
   have HTX7 := hid (HTX6.out.below hd7)
   have HO7 := hid ho7
   have hl7 : ru.length = n7 := by
    have h1 := ho7.slice
    obtain ⟨_, _, e⟩ := h1
    injection e with _ e2
    exact e2.symm
   have HL7 := hid hl7
   clear hd7 ho7 hfro hcell2 hl7
   go_wp2_with fail
   refine cmust_ok.mono ?_
   rintro e w8 ⟨rfl, rfl⟩
   have htf7 : TermV w8 A7 n7 c7 ru := by
    have h1 := HO7.out
    rw [← HL7.out] at h1 ⊢
    obtain ⟨Aq, nq, cq, e, hq⟩ := OwnN.termS h1 (by have := HUL.out; show ru.length ≤ _; omega)
    injection e with e1 e2 e3
    subst e1 e2 e3
    exact hq.keep fun q hq => ⟨(ownsRow_block h1 hq).2.1, fun _ => rfl⟩
   have HSB := hid (subst_any HTX7.out htf7 0 (fun _ _ _ => HS.out.1))
   rw [HS.out.2.1] at HSB
   clear htf7
   by_cases h0 : sx.2 = 0
   · rw [if_pos h0, h0] at HSB
     have hst := HST.out
     rw [if_pos h0] at hst
     have HST2 := hid hst
     have HFS := hid (HS.out.2.2 h0)
     clear hst h0
     go_wp2_with fail
     refine (HSB.out).mono ?_
     rintro e w9 ⟨hd9, A9, n9, c9, rfl, ho9⟩
     have HB9 := bto HB7 hd9
     have hl9 : (rowT sx.1).length = n9 := by
      obtain ⟨_, _, e⟩ := ho9.slice
      injection e with _ e2
      exact e2.symm
     have hnew9 : TermR (NewB w w9) w9 A9 n9 c9 (rowT sx.1) := by
      have h1 := ho9
      rw [← hl9] at h1 ⊢
      obtain ⟨Aq, nq, cq, e, hq⟩ := OwnN.termS h1 (by have := HFS.out.few; have h9 : (rowT sx.1).length = szT sx.1 := rfl; show (rowT sx.1).length ≤ _; omega)
      injection e with e1 e2 e3
      subst e1 e2 e3
      exact hq.keep fun q hq => ⟨⟨by have := (ownsRow_block h1 hq).1; have := HB7.out.size; omega, (ownsRow_block h1 hq).2.1⟩, fun _ => rfl⟩
     have HN9 := hid hnew9
     have HT9 : Hid (TermV w9 A9 n9 c9 (rowT sx.1)) := hid (hnew9.keep fun q hq => ⟨hq.2, fun _ => rfl⟩)
     clear hd9 ho9 hl9 hnew9
     go_wp2_with fail
     refine cmust_ok.mono ?_
     rintro e w10 ⟨rfl, rfl⟩
     go_wp2_with fail
     go_roundw
     case rel => exact ⟨i, sx.1, A9, n9, c9, rfl, rfl, by omega, HFS, HST2, HT9, hid (.inr HN9.out), HB9⟩
     case measure => simp [intOf]
   · rw [if_neg h0] at HSB
     have hst := HST.out
     rw [if_neg h0] at hst
     have HST2 := hid hst
     have HZ := hid h0
     clear hst h0
     go_wp2_with fail
     refine (HSB.out).mono ?_
     rintro e w9 ⟨hd9, A9, n9, c9, rfl, ho9⟩
     have HB9 := bto HB7 hd9
     clear hd9 ho9
     go_wp2_with fail
     refine (cmust_er HZ.out).mono ?_
     rintro e w10 ⟨rfl, rfl⟩
     go_wp2_with fail
     rw [HCODE.out HZ.out]
     exact ⟨rfl, HB9.out, .inr ⟨HST2.out, rfl⟩⟩
end Go.Proofs.Ytjoddliplahgkaa
