/- sense: give, one level. -/
import Derived.Test.YtjllmblbbgojbaaUSenseE
namespace Go.Proofs.Ytjllmblbbgojbaa
open Go.Lib (hid)
open Go.RowKit
theorem app_row {b : Bk} {x a : TT} (fx : FitT b 0 x) (fa : FitT b 0 a) : applyR (rowT x) [rowT a] = if 4096 < 1 + szT x + szT a then ([], 9) else (rowT (appTT x a), 0) := by
 have h1 := fx.rt.shape
 have h2 := fa.rt.shape
 have e1 : (rowT x).length = szT x := rfl
 have e2 : (rowT a).length = szT a := rfl
 unfold applyR
 rw [if_neg (by omega), if_neg (by simp [firstBad, h2])]
 simp only [List.flatten_cons, List.flatten_nil, List.append_nil, List.length_cons, List.length_nil, e1, e2]
 by_cases hs : 4096 < 1 + szT x + szT a
 · rw [if_pos hs, if_pos (by omega)]
 rw [if_neg hs, if_neg (by omega)]
 simp [appTT, rowT, row]
theorem lit_rows {w : World} {A : Option Addr} {n c : Nat} {l : List Nd} (h : TermV w A n c l) : RowsR (· < (w.alloc (.cells #[.slice A n c] 28)).heap.size) (w.alloc (.cells #[.slice A n c] 28)) (some ⟨w.heap.size, 0, none⟩) 1 1 [l] := by
 refine ⟨rfl, by decide, fun _ => ⟨w.heap.size, 0, rfl, by simp, fun k hk => ?_⟩⟩
 obtain rfl : k = 0 := by omega
 exact ⟨A, n, c, by simp, h.below (below_alloc _ _)⟩
theorem app1_any {b : Bk} {g : Nat} {w : World} {A B : Option Addr} {n c m k : Nat} {x a : TT} (hg : g < w.heap.size) (hx : TermG g w A n c (rowT x)) (ha : TermG g w B m k (rowT a)) (fx : FitT b 0 x) (fa : FitT b 0 a) :
 Calls Try.prog 23 #[.slice A n c, .slice (some ⟨w.heap.size, 0, none⟩) 1 1] (w.alloc (.cells #[.slice B m k] 28)) (fun e w' => Below w.heap.size w w' ∧ ∃ A' n' c', e = .returned (.tuple #[.slice A' n' c', .int .i64 (if 4096 < 1 + szT x + szT a then 9 else 0)]) ∧ (¬ 4096 < 1 + szT x + szT a → TermG g w' A' n' c' (rowT (appTT x a)))) := by
 have hb := below_alloc w (.cells #[.slice B m k] 28)
 have hs := hb.size
 refine (apply_any (hx.gv.below hb) (lit_rows ha.gv) (fun e => by cases e)).mono ?_
 rintro e w' ⟨hb', A', n', c', rfl, ht⟩
 rw [app_row fx fa] at ht ⊢
 refine ⟨hb.trans (hb'.mono hs), A', n', c', ?_, fun h => ?_⟩
 · split <;> rfl
 rw [if_neg h] at ht
 exact ht.keep fun q hq => ⟨⟨hq.2, by have := hq.1; omega⟩, fun _ => rfl⟩
set_option linter.unusedSimpArgs false in
set_option linter.unusedVariables false in
set_option maxRecDepth 100000 in
set_option maxHeartbeats 8000000 in
theorem sgive_step {w0 : World} {g : Nat} {v : BkVal} {b : Bk} {d : Nat} (hr : rightE b = 0) (E1 : EvH w0 g v b (d + 1)) (HG : GvH w0 g v b d) : GvH w0 g v b (d + 1) := by
 intro w f A n c B m k x a hf hf1 hw hx ha ox oa
 rw [gvD_succ]
 obtain ⟨res, hres⟩ : ∃ r, r = gvStep (evD b (d + 1)) (gvD b d) f x a := ⟨_, rfl⟩
 rw [← hres]
 obtain ⟨⟨F, L⟩, hqq⟩ : ∃ q, q = hdW x := ⟨_, rfl⟩
 have HR0 : Hid (res = if F.1.op = 5 then (match kidL x.2.2 with
  | _ :: bd :: _ => if (subTT bd a).2 = 0 then evD b (d + 1) f (subTT bd a).1 else .er (subTT bd a).2
  | _ => .er 0)
  else if F.1.op = 9 ∨ F.1.op = 10 then (if 4096 < 1 + szT x + szT a then .er 9 else .ok (appTT x a) f)
  else if F.1.op = 12 then
   (if ((L ++ [a]).length : Int) ≤ placeT F then (if 4096 < 1 + szT x + szT a then .er 9 else .ok (appTT x a) f)
    else if (hdW ((L ++ [a]).getD (placeT F).toNat (⟨0, 0, 0⟩, [], .nil))).1.1.op = 10 then
     (if (unfT F).2 = 0 then (evD b (d + 1) f (unfT F).1).bind fun g' f' => givens (gvD b d) (L ++ [a]) g' f' else .er (unfT F).2)
    else .er 24)
  else .er 24) := hid (by rw [hres]; unfold gvStep; rw [← hqq]; rfl)
 have HAP := hid (apart_any hx.gv ox.1.rt)
 obtain ⟨hF, hL⟩ := FitT.hd ox.1
 have HLM : Hid (F.1.op = 5 → L = [] ∧ F = x) := hid (fun h5 => by
  obtain ⟨h1, h2⟩ := val_lam ox.2 (by rw [← hqq]; exact h5)
  rw [← hqq] at h1 h2
  exact ⟨h1, h2⟩)
 have hLv : F.1.op = 12 → ∀ y ∈ L, Okv b y := fun h12 y hy => ⟨hL y (by rw [← hqq]; exact hy), val_args ox.2 (by rw [← hqq]; exact Or.inr (Or.inr h12)) y (by rw [← hqq]; exact hy)⟩
 have hLb : L.length ≤ 4096 := by
  have h3 := hd_len (szT x) x ox.1.rt
  have h4 := ox.1.few
  have h5 : (hdW x).2.length < szT x := h3
  rw [← hqq] at h5
  simp only at h5
  omega
 rw [← hqq] at HAP hF
 simp only at hF
 have HFF := hid hF
 have HLV := hid hLv
 obtain ⟨k1, hk1⟩ : ∃ k1, k1 = L.length := ⟨_, rfl⟩
 have HK := hid hk1
 unfold ApartP at HAP
 simp only at HAP
 rw [← hk1] at HAP hLb
 have hgl := hw.lt
 have HW := hid hw
 have HX := hid hx
 have HA := hid ha
 have HE := hid E1
 have HHG := hid HG
 have HRT := hid hr
 have HFT := hid (ev_fit (b := b) hr (d + 1))
 obtain ⟨xo, hxo⟩ : ∃ z, z = F.1.op := ⟨_, rfl⟩
 have HXO := hid hxo
 have hln := hx.len
 have hcap := hx.cap
 clear hres hqq hF hL hLv hk1 hw hx ha E1 HG hr hxo
 go_in
 go_wp2_with fail
 refine (HAP.out).mono ?_
 rintro e w1 ⟨hd1, A1, n1, c1, B1, d1, vs, rfl, hpc, hown, hps⟩
 have hs1 := hd1.size
 obtain ⟨w2, hw2e⟩ : ∃ w2 : World, w2 = w1.alloc (.cells #[.slice A1 n1 c1, .slice B1 k1 d1] 118) := ⟨_, rfl⟩
 have hb12 : Below w1.heap.size w1 w2 := by rw [hw2e]; exact below_alloc _ _
 have hS2 : Blk w2 w1.heap.size 118 #[.slice A1 n1 c1, .slice B1 k1 d1] := by rw [hw2e]; exact Blk.new _ _ _
 have hb2 : Below w.heap.size w w2 := hd1.trans (hb12.mono hs1)
 have HB2 := hid hb2
 have HW2 := hid (HW.out.below hb2)
 have HX2 := hid (HX.out.belowG hb2)
 have HA2 := hid (HA.out.belowG hb2)
 have HM2 : Hid (Moved (fun q => q = g) none w w2) := hid (Moved.of_below hb2)
 have htf : TermG g w2 A1 n1 c1 (rowT F) := hpc _ _ HX2.out
 have hn1 : 0 < n1 := by rw [← htf.len]; simp [rowT]
 obtain ⟨bf1, of1, rfl, hbf1, hcf⟩ := htf.mem hn1
 obtain ⟨q0, q1, q2⟩ := hcf 0 (by rw [htf.len]; exact hn1)
 simp only [Nat.zero_mul, Nat.add_zero] at q0 q1 q2
 rw [show nth (rowT F) 0 = F.1 from rfl] at q0 q1 q2
 rw [← HXO.out] at q0
 have hi0 : (0 : Int) < (n1 : Int) := by omega
 have HS2 := hid hS2
 have zs2 := Blk.cell hS2
 have hgw2 : g < w2.heap.size := by have := hb2.size; omega
 have HOW := hid (own_below hown hb12)
 have HPC := hid hpc
 have HPS := hid hps
 have hw12 : w1.heap.size < w2.heap.size := hS2.lt
 have hnew : (w1.alloc (.cells #[.slice (some ⟨bf1, of1, none⟩) n1 c1, .slice B1 k1 d1] 118)) = w2 := hw2e.symm
 have HNEW := hid hnew
 have q0' := q0
 have zs2' := zs2
 rw [← hnew] at q0' zs2'
 clear hnew hw2e
 clear q1 q2 hcf htf hbf1 hS2 hb2 hd1 hpc hown hps
 by_cases t5 : xo = 5
 · have u5 : decide (xo = 5) = true := decide_eq_true t5
   have h5 : F.1.op = 5 := by rw [← HXO.out]; exact t5
   obtain ⟨_, hFx⟩ := HLM.out h5
   have h5x : x.1.op = 5 := by rw [← hFx]; exact h5
   obtain ⟨p, q, hk⟩ := kids_two ox.1.okt (Or.inr (Or.inl h5x))
   obtain ⟨e1, he1, h1e, h1n, hp, hq⟩ := two_pieces ox.1.rt (Or.inr h5x) hk
   rw [hln] at h1n
   have HRB : Hid (res = if (subTT q a).2 = 0 then evD b (d + 1) f (subTT q a).1 else .er (subTT q a).2) := hid (by rw [HR0.out, if_pos h5, hk])
   have HFQ : Hid (FitT b (0 + 1) q) := hid (by
    have := ox.1.kid (i := 1) (y := q) (by rw [hk]; rfl)
    rwa [show aroundI x.1.op x.1.b ((1 : Nat) : Int) = 1 from by rw [h5x]; simp [aroundI]] at this)
   have HE1 := hid (end_any HX2.out.gv 1)
   rw [he1] at HE1
   obtain ⟨Af, hf_, hfr⟩ := cut_from A n c e1 h1n
   have HQ := hid (fun (w' : World) (h : TermG g w' A n c (rowT x)) => hfr _ _ _ h)
   rw [hq] at HQ
   have HOA := hid oa.1
   clear he1 h1e hp hq hfr hk h5 h5x hFx HLM HLV HPC HPS HOW HFF HR0
   go_upto_region 4 with fail
   rw [HNEW.out]
   clear q0' zs2'
   go_wp2_with fail
   refine (HE1.out).mono ?_
   rintro e w6 ⟨rfl, hb6⟩
   have HW6 := hid (HW2.out.below hb6)
   have HX6 := hid (HX2.out.belowG hb6)
   have HA6 := hid (HA2.out.belowG hb6)
   have HM6 : Hid (Moved (fun q => q = g) none w w6) := hid (HM2.out.trans (row' := none) (Moved.of_below hb6) (fun _ e => by cases e))
   clear hb6
   have HS7 := hid (sub_any (b := b) HW6.out.lt (HQ.out w6 HX6.out) HA6.out HFQ.out HOA.out)
   have HSF := hid (sub_row (Int.le_refl 0) (by omega) HFQ.out HOA.out).2.2
   obtain ⟨⟨y7, z7⟩, hy7⟩ : ∃ r, r = subTT q a := ⟨_, rfl⟩
   rw [← hy7] at HS7 HSF HRB
   simp only at HS7 HSF HRB
   clear hy7
   by_cases h0 : z7 = 0
   rotate_left
   · have HRZ : Hid (res = .er z7) := hid (by rw [HRB.out, if_neg h0])
     have HZ7 := hid h0
     clear HSF HRB h0
     go_wp2_with fail
     refine (HS7.out).mono ?_
     rintro e w7 ⟨hb7, A7, n7, c7, rfl, ht7⟩
     have HM7 : Hid (Moved (fun q => q = g) none w w7) := hid (HM6.out.trans (row' := none) (Moved.of_below hb7) (fun _ e => by cases e))
     clear hb7 ht7
     go_wp2_with fail
     refine (must_er HZ7.out).mono ?_
     rintro e wm ⟨rfl, hwm⟩
     subst wm
     go_wp2_with fail
     rw [HRZ.out]
     exact ⟨rfl, HM7.out, rfl⟩
   subst h0
   rw [if_pos rfl] at HRB
   have HFS := hid (HSF.out rfl)
   clear HSF
   go_wp2_with fail
   refine (HS7.out).mono ?_
   rintro e w7 ⟨hb7, A7, n7, c7, rfl, ht7⟩
   have HT7 := hid (by first | exact ht7 rfl | exact ht7 trivial)
   have HB7 := hid hb7
   have HW7 := hid (HW6.out.below hb7)
   have HM7 : Hid (Moved (fun q => q = g) none w w7) := hid (HM6.out.trans (row' := none) (Moved.of_below HB7.out) (fun _ e => by cases e))
   clear hb7 ht7
   go_wp2_with fail
   refine (must_ok).mono ?_
   rintro e wm ⟨rfl, hwm⟩
   subst wm
   have HC8 := hid (HE.out w7 f A7 n7 c7 y7 (by omega) (by omega) HW7.out HT7.out HFS.out)
   cases hE8 : evD b (d + 1) f y7 with
   | er z =>
    rw [hE8] at HC8 HRB
    clear hE8
    go_wp2_with fail
    refine (HC8.out).mono ?_
    rintro e w8 ⟨hm8, he8⟩
    simp only at he8
    subst he8
    have HM8 : Hid (Moved (fun q => q = g) none w w8) := hid (HM7.out.trans hm8 (fun _ e => by cases e))
    clear hm8
    go_wp2_with fail
    rw [HRB.out]
    exact ⟨rfl, HM8.out, rfl⟩
   | ok y8 f8 =>
    rw [hE8] at HC8 HRB
    clear hE8
    go_wp2_with fail
    refine (HC8.out).mono ?_
    rintro e w8 ⟨hm8, A8, n8, c8, rfl, hw8, ht8⟩
    have HM8 : Hid (Moved (fun q => q = g) none w w8) := hid (HM7.out.trans hm8 (fun _ e => by cases e))
    have HMQ8 := hid hm8
    have HW8 := hid hw8
    have HT8 := hid ht8
    clear hm8 hw8 ht8
    go_wp2_with fail
    go_ret
    rw [HRB.out]
    exact ⟨HM8.out, A8, n8, c8, rfl, HW8.out, HT8.out⟩
 have u5 : decide (xo = 5) = false := decide_eq_false t5
 by_cases t9 : xo = 9
 · have u9 : decide (xo = 9) = true := decide_eq_true t9
   have HRA : Hid (res = if 4096 < 1 + szT x + szT a then .er 9 else .ok (appTT x a) f) := hid (by rw [HR0.out, if_neg (by rw [← HXO.out]; omega), if_pos (by rw [← HXO.out]; omega)])
   clear HR0 HLM HLV HPC HPS HOW HFF
   go_upto_region 7 with fail
   rw [HNEW.out]
   clear q0' zs2'
   have HAP99 := hid (app1_any (b := b) HW2.out.lt HX2.out HA2.out ox.1 oa.1)
   by_cases hs : 4096 < 1 + szT x + szT a
   · have HRZ : Hid (res = .er 9) := hid (by rw [HRA.out, if_pos hs])
     rw [if_pos hs] at HAP99
     clear hs HRA
     go_wp2_with fail
     refine (HAP99.out).mono ?_
     rintro e w99 ⟨hb99, A99, n99, c99, rfl, ht99⟩
     have HM99 : Hid (Moved (fun q => q = g) none w w99) := hid (HM2.out.trans (row' := none) (Moved.of_below hb99) (fun _ e => by cases e))
     clear hb99 ht99
     go_wp2_with fail
     refine (must_er (by decide)).mono ?_
     rintro e wm ⟨rfl, hwm⟩
     subst wm
     go_wp2_with fail
     rw [HRZ.out]
     exact ⟨rfl, HM99.out, rfl⟩
   have HRZ : Hid (res = .ok (appTT x a) f) := hid (by rw [HRA.out, if_neg hs])
   have HSS := hid hs
   rw [if_neg hs] at HAP99
   clear hs HRA
   go_wp2_with fail
   refine (HAP99.out).mono ?_
   rintro e w99 ⟨hb99, A99, n99, c99, rfl, ht99⟩
   have HM99 : Hid (Moved (fun q => q = g) none w w99) := hid (HM2.out.trans (row' := none) (Moved.of_below hb99) (fun _ e => by cases e))
   have HW99 := hid (HW2.out.below hb99)
   have HT99 := hid (ht99 HSS.out)
   clear hb99 ht99
   go_wp2_with fail
   refine (must_ok).mono ?_
   rintro e wm ⟨rfl, hwm⟩
   subst wm
   go_wp2_with fail
   go_ret
   rw [HRZ.out]
   exact ⟨HM99.out, A99, n99, c99, rfl, HW99.out, HT99.out⟩
 have u9 : decide (xo = 9) = false := decide_eq_false t9
 by_cases t10 : xo = 10
 · have u10 : decide (xo = 10) = true := decide_eq_true t10
   have HRA : Hid (res = if 4096 < 1 + szT x + szT a then .er 9 else .ok (appTT x a) f) := hid (by rw [HR0.out, if_neg (by rw [← HXO.out]; omega), if_pos (by rw [← HXO.out]; omega)])
   clear HR0 HLM HLV HPC HPS HOW HFF
   go_upto_region 7 with fail
   rw [HNEW.out]
   clear q0' zs2'
   have HAP99 := hid (app1_any (b := b) HW2.out.lt HX2.out HA2.out ox.1 oa.1)
   by_cases hs : 4096 < 1 + szT x + szT a
   · have HRZ : Hid (res = .er 9) := hid (by rw [HRA.out, if_pos hs])
     rw [if_pos hs] at HAP99
     clear hs HRA
     go_wp2_with fail
     refine (HAP99.out).mono ?_
     rintro e w99 ⟨hb99, A99, n99, c99, rfl, ht99⟩
     have HM99 : Hid (Moved (fun q => q = g) none w w99) := hid (HM2.out.trans (row' := none) (Moved.of_below hb99) (fun _ e => by cases e))
     clear hb99 ht99
     go_wp2_with fail
     refine (must_er (by decide)).mono ?_
     rintro e wm ⟨rfl, hwm⟩
     subst wm
     go_wp2_with fail
     rw [HRZ.out]
     exact ⟨rfl, HM99.out, rfl⟩
   have HRZ : Hid (res = .ok (appTT x a) f) := hid (by rw [HRA.out, if_neg hs])
   have HSS := hid hs
   rw [if_neg hs] at HAP99
   clear hs HRA
   go_wp2_with fail
   refine (HAP99.out).mono ?_
   rintro e w99 ⟨hb99, A99, n99, c99, rfl, ht99⟩
   have HM99 : Hid (Moved (fun q => q = g) none w w99) := hid (HM2.out.trans (row' := none) (Moved.of_below hb99) (fun _ e => by cases e))
   have HW99 := hid (HW2.out.below hb99)
   have HT99 := hid (ht99 HSS.out)
   clear hb99 ht99
   go_wp2_with fail
   refine (must_ok).mono ?_
   rintro e wm ⟨rfl, hwm⟩
   subst wm
   go_wp2_with fail
   go_ret
   rw [HRZ.out]
   exact ⟨HM99.out, A99, n99, c99, rfl, HW99.out, HT99.out⟩
 have u10 : decide (xo = 10) = false := decide_eq_false t10
 by_cases t12 : xo = 12
 rotate_left
 · have u12 : decide (xo = 12) = false := decide_eq_false t12
   have HRZ : Hid (res = .er 24) := hid (by rw [HR0.out, if_neg (by rw [← HXO.out]; omega), if_neg (by rw [← HXO.out]; omega), if_neg (by rw [← HXO.out]; omega)])
   clear HR0 HLM HLV HPC HPS HOW HFF
   go_upto_region 16 with fail
   rw [HNEW.out]
   clear q0' zs2'
   go_wp2_with fail
   rw [HRZ.out]
   exact ⟨rfl, HM2.out, rfl⟩
 have u12 : decide (xo = 12) = true := decide_eq_true t12
 have h12 : F.1.op = 12 := by rw [← HXO.out]; exact t12
 have hR1 := HR0.out
 rw [if_neg (by omega), if_neg (by omega), if_pos h12] at hR1
 obtain ⟨hp0, hp1⟩ := place_bd HFF.out.okt h12
 have HPL := hid (splaceOf_any (HPC.out _ _ HX2.out).gv HFF.out.rt h12)
 have HLO := hid (HLV.out h12)
 have HUF := hid (fun (w' : World) (h : TermG g w' (some ⟨bf1, of1, none⟩) n1 c1 (rowT F)) => unfolded_any h.gv HFF.out h12)
 have HUN := hid (fun h0 => unfT_fit HFF.out h12 h0)
 obtain ⟨pn, hpn⟩ : ∃ pn : Nat, placeT F = (pn : Int) := ⟨(placeT F).toNat, by omega⟩
 rw [hpn] at hR1 HPL hp1
 rw [show ((pn : Nat) : Int).toNat = pn from Int.toNat_natCast pn, show ((L ++ [a]).length : Int) = ((k1 + 1 : Nat) : Int) from by rw [List.length_append, HK.out]; rfl] at hR1
 have HR1 := hid hR1
 have hcv := HPS.out
 have hone : ∀ u ∈ vs, u.oneCell' = true := fun u hu => by
  obtain ⟨A', n', c', rfl⟩ := PcsP.slices hcv u hu
  rfl
 have HONE := hid hone
 have HVL := hid (by have := PcsP.len hcv; rw [this, HK.out] : vs.length = k1)
 obtain ⟨i1, hi', hy0', hy1', hy2'⟩ := info_parts infoR
 have HI1 := hid hi'
 have HZ0 := hid hy0'
 have HZ1 := hid hy1'
 have HZ2 := hid hy2'
 clear hi' hy0' hy1' hy2' hcv hone hR1 hpn hp0 HR0 HLM HLV h12
 go_upto_region 9 with fail
 rw [HNEW.out]
 clear q0' zs2'
 go_wp2_with fail
 refine (HPL.out).mono ?_
 rintro e w3 ⟨rfl, hb3⟩
 have hs3 := hb3.size
 have HB3 := hid hb3
 have zs3 := Blk.cell (HS2.out.below hb3 hw12)
 have HOW3 := hid (own_below HOW.out hb3)
 have HCL := hid (cloneR_any HOW3.out HONE.out (by omega))
 have HM3 : Hid (Moved (fun q => q = g) none w w3) := hid (HM2.out.trans (row' := none) (Moved.of_below hb3) (fun _ e => by cases e))
 clear hb3
 go_wp2_with fail
 refine (HCL.out).mono ?_
 rintro e w4 ⟨hb4, A4, c4, rfl, ho4⟩
 rw [HVL.out] at ho4 ⊢
 have HO4 := hid ho4
 have HB4 := hid hb4
 have hs4 := hb4.size
 clear ho4 hb4
 go_upto_region 11 with (at_builtin; go_loud (refine wpList_oper rfl (oper_append_one (.tmp 47) (.tmp 49) 49 28 rfl w3.heap.size i1 _ 24 Try.underlying49 HI1.out HZ0.out HZ1.out HZ2.out rfl (by decide) (.slice A4 k1 c4) k1 vs (.slice B m k) rfl w4 rfl rfl HO4.out _ rfl rfl (by omega) (by omega) ?_)); intro A6 c6 w6 happ6)
 have hb36 : Below w3.heap.size w3 w6 := HB4.out.grown happ6.grown HB4.out.size (fun g hg => (ownsRow_block HO4.out hg).1)
 have hb26 : Below w2.heap.size w2 w6 := HB3.out.trans (hb36.mono hs3)
 have zs6 := Blk.cell (HS2.out.below hb26 hw12)
 have HW6 := hid (HW2.out.below hb26)
 have HX6 := hid (HX2.out.belowG hb26)
 have HA6 := hid (HA2.out.belowG hb26)
 have HM6 : Hid (Moved (fun q => q = g) none w w6) := hid (HM2.out.trans (row' := none) (Moved.of_below hb26) (fun _ e => by cases e))
 have hgw3 : g < w3.heap.size := by omega
 have HRW : Hid (RowsR (RG g w6) w6 A6 (k1 + 1) c6 ((L ++ [a]).map rowT)) := hid (own_rowsQ happ6.own (by rw [List.length_map, List.length_append, HK.out]; rfl) (by omega) (by rw [List.map_append]; exact RowsC.add HA6.out (HPS.out.rows HX6.out)) (fun _ h => h) (fun q e => ⟨(ownsRow_block happ6.own e).2.1, by have := (ownsRow_block happ6.own e).1; omega⟩))
 have HS6 := hid (HS2.out.below hb26 hw12)
 have hs6 := hb26.size
 clear happ6 hb36 hb26 HI1 HZ0 HZ1 HZ2 HB4 HO4 HCL HOW3 HOW HPL zs3 HB3 HS2 HM3 zs2
 by_cases tp : k1 + 1 ≤ pn
 · have up : decide (k1 + 1 ≤ pn) = true := decide_eq_true tp
   have up' : decide (((k1 + 1 : Nat) : Int) ≤ (pn : Int)) = true := decide_eq_true (by omega)
   have HRA : Hid (res = if 4096 < 1 + szT x + szT a then .er 9 else .ok (appTT x a) f) := hid (by rw [HR1.out, if_pos (by omega)])
   clear HR1
   go_upto_region 12 with fail
   have HAP99 := hid (app1_any (b := b) HW6.out.lt HX6.out HA6.out ox.1 oa.1)
   by_cases hs : 4096 < 1 + szT x + szT a
   · have HRZ : Hid (res = .er 9) := hid (by rw [HRA.out, if_pos hs])
     rw [if_pos hs] at HAP99
     clear hs HRA
     go_wp2_with fail
     refine (HAP99.out).mono ?_
     rintro e w99 ⟨hb99, A99, n99, c99, rfl, ht99⟩
     have HM99 : Hid (Moved (fun q => q = g) none w w99) := hid (HM6.out.trans (row' := none) (Moved.of_below hb99) (fun _ e => by cases e))
     clear hb99 ht99
     go_wp2_with fail
     refine (must_er (by decide)).mono ?_
     rintro e wm ⟨rfl, hwm⟩
     subst wm
     go_wp2_with fail
     rw [HRZ.out]
     exact ⟨rfl, HM99.out, rfl⟩
   have HRZ : Hid (res = .ok (appTT x a) f) := hid (by rw [HRA.out, if_neg hs])
   have HSS := hid hs
   rw [if_neg hs] at HAP99
   clear hs HRA
   go_wp2_with fail
   refine (HAP99.out).mono ?_
   rintro e w99 ⟨hb99, A99, n99, c99, rfl, ht99⟩
   have HM99 : Hid (Moved (fun q => q = g) none w w99) := hid (HM6.out.trans (row' := none) (Moved.of_below hb99) (fun _ e => by cases e))
   have HW99 := hid (HW6.out.below hb99)
   have HT99 := hid (ht99 HSS.out)
   clear hb99 ht99
   go_wp2_with fail
   refine (must_ok).mono ?_
   rintro e wm ⟨rfl, hwm⟩
   subst wm
   go_wp2_with fail
   go_ret
   rw [HRZ.out]
   exact ⟨HM99.out, A99, n99, c99, rfl, HW99.out, HT99.out⟩
 have up : decide (k1 + 1 ≤ pn) = false := decide_eq_false tp
 have up' : decide (((k1 + 1 : Nat) : Int) ≤ (pn : Int)) = false := decide_eq_false (by omega)
 have up2 : decide ((k1 : Int) + 1 ≤ (pn : Int)) = false := decide_eq_false (by omega)
 have up3 : decide ((k1 : Int) < (pn : Int)) = false := decide_eq_false (by omega)
 have up4 : decide (k1 < pn) = false := decide_eq_false (by omega)
 have up5 : ¬ k1 < pn := by omega
 have hlt : pn < (L ++ [a]).length := by rw [List.length_append, ← HK.out]; simp; omega
 obtain ⟨y, hy⟩ : ∃ y, (L ++ [a])[pn]? = some y := ⟨_, List.getElem?_eq_getElem hlt⟩
 have HOL : Hid (∀ y ∈ L ++ [a], Okv b y) := hid (fun y hy => by
  rcases List.mem_append.1 hy with hy | hy
  · exact HLO.out y hy
  rw [List.mem_singleton] at hy; subst hy; exact oa)
 have HOY := hid (HOL.out y (List.mem_of_getElem? hy))
 have HR2 : Hid (res = if (hdW y).1.1.op = 10 then
        (if (unfT F).2 = 0 then (evD b (d + 1) f (unfT F).1).bind fun g' f' => givens (gvD b d) (L ++ [a]) g' f' else .er (unfT F).2)
      else .er 24) := hid (by rw [HR1.out, if_neg (by omega), List.getD_eq_getElem?_getD, hy]; rfl)
 obtain ⟨bw, ow, rfl, hbw, hmw⟩ := HRW.out.mem (by omega)
 obtain ⟨A7, n7, c7, hc7, ht7⟩ := hmw pn (by omega)
 rw [List.getD_eq_getElem?_getD, List.getElem?_map, hy] at ht7
 have HT7 : Hid (TermG g w6 A7 n7 c7 (rowT y)) := hid ht7
 have HAP7 := hid (apart_any HT7.out.gv HOY.out.1.rt)
 obtain ⟨⟨F8, L8⟩, hq8⟩ : ∃ q, q = hdW y := ⟨_, rfl⟩
 unfold ApartP at HAP7
 rw [← hq8] at HAP7 HR2
 simp only at HAP7 HR2
 obtain ⟨yo, hyo⟩ : ∃ z, z = F8.1.op := ⟨_, rfl⟩
 have HYO := hid hyo
 have p0 : (0 : Int) ≤ (pn : Int) := by omega
 have p1 : (pn : Int) < ((k1 + 1 : Nat) : Int) := by omega
 have p2 : (pn : Int) < (k1 : Int) + 1 := by omega
 have p3 : pn < k1 + 1 := by omega
 clear hlt hy ht7 hmw hq8 hyo HR1 HAP
 go_wp2_with fail
 refine (HAP7.out).mono ?_
 rintro e w7 ⟨hb7, A8, n8, c8, B8, d8, vs8, rfl, hpc8, _, _⟩
 have HT77 := hid (HT7.out.belowG hb7)
 have htf8 : TermG g w7 A8 n8 c8 (rowT F8) := hpc8 _ _ HT77.out
 have hn8 : 0 < n8 := by rw [← htf8.len]; simp [rowT]
 obtain ⟨bf8, of8, rfl, hbf8, hcf8⟩ := htf8.mem hn8
 obtain ⟨r0, _, _⟩ := hcf8 0 (by rw [htf8.len]; exact hn8)
 simp only [Nat.zero_mul, Nat.add_zero] at r0
 rw [show nth (rowT F8) 0 = F8.1 from rfl, ← HYO.out] at r0
 have hi8 : (0 : Int) < (n8 : Int) := by omega
 have HW7 := hid (HW6.out.below hb7)
 have HX7 := hid (HX6.out.belowG hb7)
 have HRW7 := hid (HRW.out.movedG (Moved.of_below hb7))
 have zs7 := Blk.cell (HS6.out.below hb7 (by omega))
 have hs7 := hb7.size
 have HM7 : Hid (Moved (fun q => q = g) none w w7) := hid (HM6.out.trans (row' := none) (Moved.of_below hb7) (fun _ e => by cases e))
 clear hpc8 htf8 hcf8 hbf8 hb7
 have hfld : ∀ (w : World) (p q : Value), (Instr.field 118 (.agg #[p, q]) 0).run Try.prog w = .ok p w := fun w p q => by kernel_rfl
 by_cases t13 : yo = 10
 rotate_left
 · have u13 : (yo != 10) = true := by simpa using t13
   have HRZ : Hid (res = .er 24) := hid (by rw [HR2.out, if_neg (by rw [← HYO.out]; exact t13)])
   clear HR2
   go_wp2_with fail
   rw [HRZ.out]
   exact ⟨rfl, HM7.out, rfl⟩
 have u13 : (yo != 10) = false := by simpa using t13
 have HR3 := hid (HR2.out.trans (if_pos (by rw [← HYO.out]; exact t13)))
 have HU8 := hid (HUF.out w7 (HPC.out _ _ HX7.out))
 obtain ⟨⟨yu, zu⟩, hyu⟩ : ∃ q, q = unfT F := ⟨_, rfl⟩
 rw [← hyu] at HU8 HUN HR3
 unfold UnfP at HU8
 simp only at HU8 HUN HR3
 clear hyu HR2 HUF t13
 by_cases h0 : zu = 0
 rotate_left
 · have HRZ : Hid (res = .er zu) := hid (by rw [HR3.out, if_neg h0])
   have HZU := hid h0
   clear HR3 HUN h0
   go_wp2_with fail
   refine (HU8.out).mono ?_
   rintro e w8 ⟨hb8, h8⟩
   rcases h8 with ⟨hz, _⟩ | ⟨_, rfl⟩
   · exact absurd hz HZU.out
   have HM8 : Hid (Moved (fun q => q = g) none w w8) := hid (HM7.out.trans (row' := none) (Moved.of_below hb8) (fun _ e => by cases e))
   clear hb8
   go_wp2_with fail
   rw [HRZ.out]
   exact ⟨rfl, HM8.out, rfl⟩
 have HFS := hid (HUN.out h0)
 have HR4 := hid (HR3.out.trans (if_pos h0))
 have HZU := hid h0
 have HFU := hid (fun v1 f1 h => HFT.out.1 f yu v1 f1 HFS.out h)
 clear HUN HR3 h0
 go_wp2_with fail
 refine (HU8.out).mono ?_
 rintro e w8 ⟨hb8, h8⟩
 rcases h8 with ⟨_, A8, n88, c88, rfl, ht8⟩ | ⟨hz, _⟩
 rotate_left
 · exact absurd HZU.out hz
 have HT8 : Hid (TermG g w8 A8 n88 c88 (rowT yu)) := hid (ht8.keep fun q hq => ⟨⟨hq.2, by have := hq.1; omega⟩, fun _ => rfl⟩)
 have HW8 := hid (HW7.out.below hb8)
 have HRW8 := hid (HRW7.out.movedG (Moved.of_below hb8))
 have HM8 : Hid (Moved (fun q => q = g) none w w8) := hid (HM7.out.trans (row' := none) (Moved.of_below hb8) (fun _ e => by cases e))
 have HC9 := hid (HE.out w8 f A8 n88 c88 yu hf hf1 HW8.out HT8.out HFS.out)
 clear hb8 ht8
 cases hE9 : evD b (d + 1) f yu with
 | er z =>
  have HRZ : Hid (res = .er z) := hid (by rw [HR4.out, hE9]; rfl)
  rw [hE9] at HC9
  clear hE9 HFU
  go_wp2_with fail
  refine (HC9.out).mono ?_
  rintro e w9 ⟨hm9, he9⟩
  simp only at he9
  subst he9
  have HM9 : Hid (Moved (fun q => q = g) none w w9) := hid (HM8.out.trans hm9 (fun _ e => by cases e))
  clear hm9
  go_wp2_with fail
  rw [HRZ.out]
  exact ⟨rfl, HM9.out, rfl⟩
 | ok gg f9 =>
 have HRB : Hid (res = givens (gvD b d) (L ++ [a]) gg f9) := hid (by rw [HR4.out, hE9]; rfl)
 have HFV := hid (HFU.out gg f9 hE9)
 have hf9 := HFV.out.2
 rw [hE9] at HC9
 clear hE9 HFU
 go_wp2_with fail
 refine (HC9.out).mono ?_
 rintro e w9 ⟨hm9, A9, n9, c9, rfl, hw9, ht9⟩
 have HM9 : Hid (Moved (fun q => q = g) none w w9) := hid (HM8.out.trans hm9 (fun _ e => by cases e))
 have HMQ9 := hid hm9
 have HW9 := hid hw9
 have HT9 := hid ht9
 clear hm9 hw9 ht9
 have HRW9 := hid (HRW8.out.movedG HMQ9.out)
 have HC10 := hid (given_any HRT.out HHG.out (by omega) (by omega) HW9.out HT9.out HRW9.out HFV.out.1 HOL.out)
 cases hE10 : givens (gvD b d) (L ++ [a]) gg f9 with
 | er z =>
  rw [hE10] at HC10 HRB
  clear hE10
  go_wp2_with fail
  refine (HC10.out).mono ?_
  rintro e w10 ⟨hm10, he10⟩
  simp only at he10
  subst he10
  have HM10 : Hid (Moved (fun q => q = g) none w w10) := hid (HM9.out.trans hm10 (fun _ e => by cases e))
  clear hm10
  go_wp2_with fail
  rw [HRB.out]
  exact ⟨rfl, HM10.out, rfl⟩
 | ok y10 f10 =>
  rw [hE10] at HC10 HRB
  clear hE10
  go_wp2_with fail
  refine (HC10.out).mono ?_
  rintro e w10 ⟨hm10, A10, n10, c10, rfl, hw10, ht10⟩
  have HM10 : Hid (Moved (fun q => q = g) none w w10) := hid (HM9.out.trans hm10 (fun _ e => by cases e))
  have HMQ10 := hid hm10
  have HW10 := hid hw10
  have HT10 := hid ht10
  clear hm10 hw10 ht10
  go_wp2_with fail
  go_ret
  rw [HRB.out]
  exact ⟨HM10.out, A10, n10, c10, rfl, HW10.out, HT10.out⟩
end Go.Proofs.Ytjllmblbbgojbaa
