/- core: ready, part. -/
import Derived.Test.YtjoddliplahgkaaDShort2
import Derived.Test.YtjoddliplahgkaaDWhM
namespace Go.Proofs.Ytjoddliplahgkaa
open Go.Lib (hid)
open Go.RowKit
theorem kids_at {lo : Nat} {w : World} {A : Option Addr} {n c : Nat} {xs : List Value} {L : List TT} (h : w.ownsRow lo 29 1 (.slice A n c) n xs) (hr : RowsC (Aside lo w (.slice A n c)) w xs (L.map rowT)) {i : Nat} (hi : i < L.length) : n = L.length ∧ ∃ gk A' n' c', A = some ⟨gk, 0, none⟩ ∧ gk < w.heap.size ∧ lo ≤ gk ∧ w.cell? ⟨gk, i, none⟩ = some (.slice A' n' c') ∧ TermR (Aside lo w (.slice A n c)) w A' n' c' (rowT (L.getD i (default, [], .nil))) := by
 have hl := hr.len
 rw [List.length_map] at hl
 have hxn : xs.length = n := by have := h.1; omega
 refine ⟨by omega, ?_⟩
 obtain ⟨A', n', c', hx, ht⟩ := hr.at_ i (by first | omega | (rw [List.length_map]; exact hi))
 rcases h.2 with ⟨_, h2⟩ | ⟨gk, cap, cur, hv, hg, hh, _⟩
 · have := h.1; omega
 injection hv with e1 e2 e3
 subst e1
 have hc := h.cellAt (g := gk) i (by omega)
 rw [hx] at hc
 refine ⟨gk, A', n', c', rfl, (Array.getElem?_eq_some_iff.1 hh).1, hg, hc, ?_⟩
 have e : (L.map rowT).getD i [] = rowT (L.getD i (default, [], .nil)) := by
  rw [List.getD_eq_getElem?_getD, List.getD_eq_getElem?_getD, List.getElem?_map, List.getElem?_eq_getElem hi]
  rfl
 rwa [e] at ht
theorem FocI.node {g : Nat} {w : World} {f : Fc} {A B : Option Addr} {n c m d : Nat} (h : FocI g w f A n c B m d) : ∃ bs os, A = some ⟨bs, os, none⟩ ∧ 0 < n ∧ bs < w.heap.size ∧ w.cell? ⟨bs, os, none⟩ = some (.int .i64 f.1.1.op) ∧ w.cell? ⟨bs, os + 1, none⟩ = some (.int .i64 f.1.1.a) ∧ w.cell? ⟨bs, os + 2, none⟩ = some (.int .i64 f.1.1.b) := by
 have hn : 0 < n := by have := h.1.len; rw [← this]; exact rowT_pos _
 obtain ⟨bs, os, rfl, hb, h0, h1, h2⟩ := TermV.at_ h.head hn
 rw [Nat.zero_mul, Nat.add_zero] at h0 h1 h2
 exact ⟨bs, os, rfl, hn, hb, h0, h1, h2⟩
theorem FocI.arg {g : Nat} {w : World} {f : Fc} {A B : Option Addr} {n c m d : Nat} (h : FocI g w f A n c B m d) {i : Nat} (hi : i < m) : i < f.2.length ∧ ∃ bb oo A' n' c', B = some ⟨bb, oo, none⟩ ∧ bb < w.heap.size ∧ w.cell? ⟨bb, oo + i, none⟩ = some (.slice A' n' c') ∧ TermR (fun q => q < w.heap.size ∧ q ≠ g) w A' n' c' (rowT (f.2.getD i (default, [], .nil))) := by
 have hl := h.2.1.len
 rw [List.length_map] at hl
 obtain ⟨bb, oo, e, hb, hm⟩ := h.2.1.mem (by omega)
 obtain ⟨A', n', c', h1, h2⟩ := hm i hi
 refine ⟨by omega, bb, oo, A', n', c', e, hb.1, h1, ?_⟩
 have hil : i < f.2.length := by omega
 have e2 : (f.2.map rowT).getD i [] = rowT (f.2.getD i (default, [], .nil)) := by
  rw [List.getD_eq_getElem?_getD, List.getD_eq_getElem?_getD, List.getElem?_map, List.getElem?_eq_getElem hil]
  rfl
 rwa [e2] at h2
theorem run_head (A B : Option Addr) (n c m d : Nat) (w : World) : (Instr.field 70 (.agg #[.slice A n c, .slice B m d]) 0).run Try.prog w = .ok (.slice A n c) w := by kernel_rfl
theorem args_len : ∀ (L : List TT), L.length ≤ argsN L
 | [] => Nat.zero_le _
 | a :: r => by have := args_len r; simp only [List.length_cons, argsN]; omega
theorem FocG.argsLen {b : Bk} {free : Int} {f : Fc} (_h : FocG b free f) (hs : fsz f ≤ 4096) : f.2.length ≤ 4096 := by
 have := args_len f.2
 unfold fsz at hs
 omega
set_option linter.unusedSimpArgs false in
set_option linter.unusedVariables false in
set_option maxRecDepth 100000 in
set_option maxHeartbeats 4000000 in
theorem cready_any {w0 : World} {g : Nat} {v : BkVal} {b : Bk} {cA : Option Addr} {cn cc : Nat} {cv : List (List Nd)} {f : Nat} {w : World} (hr : rightE b = 0) (hb : BookV w0 v b) (hc : CtxG b cv) (hw : MaW w0 g v b cA cn cc cv f w) {s : Fc} {A B : Option Addr} {n c m d : Nat} (hs : FocI g w s A n c B m d) (fs : FocG b (cv.length : Int) s) :
 Calls Try.prog 51 #[.pointer (some ⟨g, 0, none⟩), .agg #[.slice A n c, .slice B m d]] w (BoolP (readyF b cv s) w) := by
 obtain ⟨bs, os, rfl, hn0, hbs, h0, h1, h2⟩ := hs.node
 obtain ⟨so, hso⟩ : ∃ z, z = s.1.1.op := ⟨_, rfl⟩
 obtain ⟨sa, hsa⟩ : ∃ z, z = s.1.1.a := ⟨_, rfl⟩
 obtain ⟨sb, hsb⟩ : ∃ z, z = s.1.1.b := ⟨_, rfl⟩
 rw [← hso] at h0
 rw [← hsa] at h1
 rw [← hsb] at h2
 obtain ⟨res, hres⟩ : ∃ r, r = readyF b cv s := ⟨_, rfl⟩
 rw [← hres]
 have hml : s.2.length = m := by have := hs.2.1.len; simpa using this
 have hmf := hs.2.1.few
 obtain ⟨w1, hw1e⟩ : ∃ w1 : World, w1 = (w.alloc (.cells #[.slice (some ⟨bs, os, none⟩) n c, .slice B m d] 70)).alloc (.cells #[.int .i64 so, .int .i64 sa, .int .i64 sb] 50) := ⟨_, rfl⟩
 have hb1 : Below w.heap.size w w1 := by rw [hw1e]; exact below_alloc2 _ _ _
 have zs : Blk w1 w.heap.size 70 #[.slice (some ⟨bs, os, none⟩) n c, .slice B m d] := by rw [hw1e]; exact (Blk.new _ _ _).alloc _
 have zn : Blk w1 (w.heap.size + 1) 50 #[.int .i64 so, .int .i64 sa, .int .i64 sb] := by rw [hw1e]; exact Blk.new' (by simp)
 have HW := hid (hw.below hb1)
 have HS := hid (hs.below hb1)
 have HB1 := hid hb1
 have HBK := hid hb
 have HR := hid hr
 have HC := hid hc
 have HFS := hid fs
 have HML := hid hml
 have HSO := hid hso
 have HSA := hid hsa
 have HSB := hid hsb
 have HRES := hid hres
 have hns := hw.lt
 have zg := HW.out.blk.cell
 have hgl : g < w1.heap.size := HW.out.lt
 have hsl : w.heap.size < w1.heap.size := zs.lt
 have hnl : w.heap.size + 1 < w1.heap.size := zn.lt
 have zs1 := zs.cell
 have zn1 := zn.cell
 clear hr hb hc hw hs fs hso hsa hsb hres hml hb1 zs zn
 go_in
 go_upto_region 2 with fail
 rw [← hw1e]
 clear hw1e
 by_cases o5 : so = 5
 · have hr2 : res = decide (0 < m) := by rw [HRES.out]; unfold readyF; rw [if_pos (HSO.out.symm.trans o5), HML.out]
   have HR2 := hid hr2
   subst o5
   clear hr2
   by_cases hm0 : 0 < m
   · have d1 : decide ((m : Int) > 0) = true := decide_eq_true (by omega)
     have d2 : decide (0 < m) = true := decide_eq_true hm0
     rw [d2] at HR2
     clear hm0
     go_wp2_with fail
     go_ret
     rw [HR2.out]
     exact ⟨rfl, HB1.out⟩
   have d1 : decide ((m : Int) > 0) = false := decide_eq_false (by omega)
   have d2 : decide (0 < m) = false := decide_eq_false hm0
   rw [d2] at HR2
   clear hm0
   go_wp2_with fail
   go_ret
   rw [HR2.out]
   exact ⟨rfl, HB1.out⟩
 by_cases o7 : so = 7
 · have HR2 : Hid (res = true) := hid (by rw [HRES.out]; unfold readyF; rw [← HSO.out, if_neg o5, if_pos (.inl o7)])
   subst o7
   go_wp2_with fail
   go_ret
   rw [HR2.out]
   exact ⟨rfl, HB1.out⟩
 by_cases o8 : so = 8
 · have HR2 : Hid (res = true) := hid (by rw [HRES.out]; unfold readyF; rw [← HSO.out, if_neg o5, if_pos (.inr o8)])
   subst o8
   go_wp2_with fail
   go_ret
   rw [HR2.out]
   exact ⟨rfl, HB1.out⟩
 by_cases o1 : so = 1
 · have hr2 : res = decide (0 < (valAt cv sa).length) := by rw [HRES.out]; unfold readyF; rw [← HSO.out, if_neg o5, if_neg (by omega), if_pos o1, ← HSA.out]
   obtain ⟨va0, va1, va2⟩ := var_val HFS.out.head (HSO.out.symm.trans o1)
   rw [← HSA.out] at va0 va1 va2
   obtain ⟨ia, hia⟩ : ∃ ia : Nat, sa = (ia : Int) := ⟨sa.toNat, by omega⟩
   have hcl := HW.out.ctx.len
   have hcf := HW.out.ctx.few
   obtain ⟨bc, oc, ec, hbc, hmc⟩ := HW.out.ctx.mem (by omega)
   obtain ⟨ik, hik⟩ : ∃ ik, ik = cn - 1 - ia := ⟨_, rfl⟩
   obtain ⟨A1, n1, c1, A2, n2, c2, k1, k2, kt⟩ := hmc ik (by omega)
   have hvl : (valAt cv sa).length = n2 := by
    unfold valAt
    rw [hcl, hia, show ((ia : Int)).toNat = ia from by omega, ← hik]
    exact kt.len
   rw [hvl] at hr2
   have HR2 := hid hr2
   have d1 : decide ((n2 : Int) > 0) = decide (0 < n2) := decide_eq_decide.2 (by omega)
   have w1' : IntKind.i64.wrap ((cn : Int) - 1) = (cn : Int) - 1 := by rw [IntKind.wrap_i64]; omega
   have w2' : IntKind.i64.wrap ((cn : Int) - 1 - (ia : Int)) = (ik : Int) := by rw [IntKind.wrap_i64]; omega
   have hik2 : (ik : Int) < (cn : Int) := by omega
   have hik3 : (0 : Int) ≤ (ik : Int) := by omega
   rw [ec] at zg
   subst o1
   rw [hia] at zn1
   clear hr2 hvl hmc kt va0 va1 va2 hik hia d1
   by_cases hm0 : 0 < n2
   · have d1 : decide ((n2 : Int) > 0) = true := decide_eq_true (by omega)
     have d2 : decide (0 < n2) = true := decide_eq_true hm0
     rw [d2] at HR2
     clear hm0
     go_upto_region 9 with fail
     go_quiet (fail)
     go_wp2_with fail
     go_ret
     rw [HR2.out]
     exact ⟨rfl, below_drewN HB1.out _⟩
   have d1 : decide ((n2 : Int) > 0) = false := decide_eq_false (by omega)
   have d2 : decide (0 < n2) = false := decide_eq_false hm0
   rw [d2] at HR2
   clear hm0
   go_upto_region 9 with fail
   go_quiet (fail)
   go_wp2_with fail
   go_ret
   rw [HR2.out]
   exact ⟨rfl, below_drewN HB1.out _⟩
 by_cases o11 : so = 11
 · have h11 := HSO.out.symm.trans o11
   obtain ⟨p, q, br, hk, _⟩ := kids_match HFS.out.head.okt h11
   have hr2 : res = fitsM b ⟨11, sa, sb⟩ (hdW (kidN s.1 1)) := by
    rw [HRES.out]; unfold readyF; rw [← HSO.out, if_neg o5, if_neg (by omega), if_neg o1, if_pos o11]
    unfold fitsM
    rw [HSA.out, HSB.out]
   have HR2 := hid hr2
   obtain ⟨na0, na1, _, _⟩ := node_matchC HFS.out.head h11
   have hq : FitT b (cv.length : Int) (kidN s.1 1) := by
    rw [kidN_at (i := 1) (by rw [hk]; rfl)]
    exact HFS.out.head.kid0 (i := 1) (by rw [hk]; rfl) (around_nil (.inr (.inr h11)))
   have hkid := fun (W : World) (hB : Below w1.heap.size w1 W) => kids7_any (HS.out.below hB).head HFS.out.head.rt.shape
   rw [top_fit HFS.out.head] at hkid
   have HK := hid hkid
   have HQ := hid hq
   have HK1 : Hid (1 < (kidL s.1.2.2).length) := hid (by rw [hk]; simp)
   have HNA := hid (show 0 ≤ sa ∧ sa < (b.entries.length : Int) from by rw [HSA.out]; exact ⟨na0, na1⟩)
   subst o11
   clear hr2 hkid hk hq na0 na1
   go_upto_region 11 with fail
   refine wp_region_held_drew (S := (fun w' => Below w1.heap.size w1 w')) (by kernel_rfl) ?_ (fun hHeld => ?_)
   · (try dsimp only); exact below_drewN (Below.refl _ _) 1
   have HBD : Hid (Below w1.heap.size w1 w1.drew) := hid (below_drewN (Below.refl _ _) 1)
   generalize w1.drew = W1 at *
   refine wpAnyH_take (i := 0) (v := ?_) rfl (by kernel_rfl) (by kernel_rfl) (by kernel_rfl) (fun _ _ _ h => h) (Or.inl ⟨by rfl, fun wq hSw => ?_⟩) hHeld ?_
   rotate_left
   · ((try dsimp only at hSw); go_simp; try with_reducible rfl)
   try simp only [p7]
   refine wpAnyH_take (i := 1) (v := ?_) rfl (by kernel_rfl) (by kernel_rfl) (by kernel_rfl) (fun _ _ _ h => h) (Or.inl ⟨by rfl, fun wq hSw => ?_⟩) hHeld ?_
   rotate_left
   · (have f0 := (hSw.cell (p := ⟨w.heap.size + 1, 0, none⟩) hnl).trans (zn1 0); have f1 := (hSw.cell (p := ⟨w.heap.size + 1, 1, none⟩) hnl).trans (zn1 1); have f2 := (hSw.cell (p := ⟨w.heap.size + 1, 2, none⟩) hnl).trans (zn1 2); go_simp; try with_reducible rfl)
   try simp only [p7]
   refine wpAnyH_take (i := 2) (v := ?_) rfl (by kernel_rfl) (by kernel_rfl) (by kernel_rfl) (fun _ _ _ h => h) (Or.inl ⟨by rfl, fun wq hSw => ?_⟩) hHeld ?_
   rotate_left
   · ((try dsimp only at hSw); go_simp; try with_reducible rfl)
   try simp only [p7]
   refine wpAnyH_take (i := 3) (v := ?_) rfl (by kernel_rfl) (by kernel_rfl) (by kernel_rfl) (fun _ _ _ h => h) (Or.inl ⟨by rfl, fun wq hSw => ?_⟩) hHeld ?_
   rotate_left
   · (have f0 := (hSw.cell (p := ⟨w.heap.size, 0, none⟩) hsl).trans (zs1 0); go_simp; try with_reducible rfl)
   try simp only [p7]
   refine r1 4 fun K hK => ?_
   go_simp
   go_at_call 74
   refine (HK.out _ HBD.out).mono ?_
   rintro en w3 ⟨hb3, A3, n3, c3, xs3, rfl, ho3, hr3⟩
   have HB3 := bto HBD hb3
   obtain ⟨hn3, gk, A4, n4, c4, rfl, hgk, hgk2, hc4, ht4⟩ := kids_at ho3 hr3 HK1.out
   have hn31 : 1 < n3 := by have := HK1.out; omega
   have hn32 : (1 : Int) < (n3 : Int) := by omega
   have HT4 : Hid (TermV w3 A4 n4 c4 (rowT (kidN s.1 1))) := hid (TermR.keep ht4 (R' := (· < w3.heap.size)) (w' := w3) fun q hq => ⟨hq.2.1, fun _ => rfl⟩)
   clear hb3 ho3 hr3 hn3 ht4
   go_wp2_with fail
   refine hK.out _ _ (by exact HB3.out) fun hHeld => ?_
   clear hK K
   try simp only [p7]
   refine wpAnyH_take (i := 5) (v := ?_) rfl (by kernel_rfl) (by kernel_rfl) (by kernel_rfl) (fun _ _ _ h => h) (Or.inl ⟨by rfl, fun wq hSw => ?_⟩) hHeld ?_
   rotate_left
   · ((try dsimp only at hSw); go_simp; try with_reducible rfl)
   try simp only [p7]
   refine r1 6 fun K hK => ?_
   go_simp
   refine hK.out _ _ (by exact HB3.out) fun hHeld => ?_
   clear hK K
   try simp only [p7]
   refine r1 7 fun K hK => ?_
   go_simp
   go_at_call 32
   refine (focused_any HT4.out HQ.out).mono ?_
   rintro en w5 ⟨hb5, A6, n6, c6, B6, m6, d6, rfl, hf6⟩
   have HB5 := bto HB3 hb5
   have HF6 := hid (hf6.read (g := g) (Nat.lt_of_lt_of_le hgl HB3.out.size) (by rw [hf6.len.2]; exact Nat.le_trans (FocG.argsLen (foc HQ.out) (by rw [foc_sz HQ.out]; exact HQ.out.few)) (by decide)))
   clear hb5 hf6 hc4
   go_wp2_with fail
   refine hK.out _ _ (by exact HB5.out) fun hHeld => ?_
   clear hK K
   try simp only [p7]
   refine r1 8 fun K hK => ?_
   go_simp
   go_at_call 82
   refine (cfits_any (nd := ⟨11, sa, sb⟩) HR.out HBK.out (HW.out.below HB5.out) HNA.out.1 HNA.out.2 HF6.out (foc HQ.out)).mono ?_
   rintro en w7 ⟨rfl, hb7⟩
   have HB7 := bto HB5 hb7
   have HB9 := hid (HB1.out.trans (HB7.out.mono HB1.out.size))
   clear hb7
   go_wp2_with fail
   refine hK.out _ _ (by exact HB7.out) fun hHeld => ?_
   clear hK K
   try simp only [p7]
   refine wpAnyH_take (i := 9) (v := ?_) rfl (by kernel_rfl) (by kernel_rfl) (by kernel_rfl) (fun _ _ _ h => h) (Or.inl ⟨by rfl, fun wq hSw => ?_⟩) hHeld ?_
   rotate_left
   · ((try dsimp only at hSw); go_simp; try with_reducible rfl)
   try simp only [p7]
   refine wpAnyH_done (by kernel_rfl) ?_ _
   go_wp2_with fail
   go_ret
   rw [HR2.out]
   exact ⟨rfl, HB9.out⟩
 by_cases o12 : so = 12
 · have h12 := HSO.out.symm.trans o12
   obtain ⟨pb0, pb1⟩ := place_bd HFS.out.head.okt h12
   have hpl := fun (W : World) (hB : Below w1.heap.size w1 W) => cplaceOf_any (HS.out.below hB).head HFS.out.head.rt h12
   obtain ⟨ip, hip⟩ : ∃ ip : Nat, placeT s.1 = (ip : Int) := ⟨(placeT s.1).toNat, by omega⟩
   rw [hip] at hpl
   have HPL := hid hpl
   have hr2 : res = (decide (ip < m) && ((hdW (s.2.getD ip (default, [], .nil))).1.1.op == 10)) := by
    rw [HRES.out]; unfold readyF; rw [← HSO.out, if_neg o5, if_neg (by omega), if_neg o1, if_neg o11, if_pos o12, hip, HML.out]
    rfl
   subst o12
   have hip16 : ip < 16 := by omega
   clear hpl hip pb0 pb1
   by_cases hlt : ip < m
   rotate_left
   · have d1 : decide ((ip : Int) < (m : Int)) = false := decide_eq_false (by omega)
     have d2 : decide (ip < m) = false := decide_eq_false hlt
     rw [d2, Bool.false_and] at hr2
     have HR2 := hid hr2
     clear hr2 hlt
     go_wp2_with fail
     refine (HPL.out _ (Below.refl _ _)).mono ?_
     rintro en w3 ⟨rfl, hb3⟩
     have HB3 := hid hb3
     have zs3 := fun i => (hb3.cell (p := ⟨w.heap.size, i, none⟩) hsl).trans (zs1 i)
     clear hb3
     go_wp2_with fail
     go_ret
     rw [HR2.out]
     exact ⟨rfl, HB1.out.trans (HB3.out.mono HB1.out.size)⟩
   have d1 : decide ((ip : Int) < (m : Int)) = true := decide_eq_true (by omega)
   have d2 : decide (ip < m) = true := decide_eq_true hlt
   have d3 : (ip : Int) < (m : Int) := by omega
   rw [d2, Bool.true_and] at hr2
   obtain ⟨hil, bb, oo, A4, n4, c4, rfl, hbb, hc4, ht4⟩ := HS.out.arg hlt
   have hfa := HFS.out.args _ (getD_mem hil (default, [], .nil))
   obtain ⟨xa, hxa⟩ : ∃ y, y = s.2.getD ip (default, [], .nil) := ⟨_, rfl⟩
   rw [← hxa] at hr2 ht4 hfa
   have HT4 := hid (fun (W : World) (hB : Below w1.heap.size w1 W) => (TermR.keep ht4 (R' := (· < W.heap.size)) (w' := W) fun q hq => ⟨Nat.lt_of_lt_of_le hq.1 hB.size, fun o => hB.cell (p := ⟨q, o, none⟩) hq.1⟩))
   have HR2 := hid hr2
   have HFA := hid hfa
   clear hr2 hlt hil ht4 hfa hxa
   go_wp2_with fail
   refine (HPL.out _ (Below.refl _ _)).mono ?_
   rintro en w3 ⟨rfl, hb3⟩
   have HB3 := hid hb3
   have zs3 := fun i => (hb3.cell (p := ⟨w.heap.size, i, none⟩) hsl).trans (zs1 i)
   have hc43 := (hb3.cell (p := ⟨bb, oo + ip, none⟩) hbb).trans hc4
   clear hb3
   go_wp2_with fail
   refine (focused_any (HT4.out _ HB3.out) HFA.out).mono ?_
   rintro en w5 ⟨hb5, A6, n6, c6, B6, m6, d6, rfl, hf6⟩
   have HB5 := bto HB3 hb5
   have hf7 := hf6.read (g := g) (Nat.lt_of_lt_of_le hgl HB3.out.size) (by rw [hf6.len.2]; exact Nat.le_trans (FocG.argsLen (foc HFA.out) (by rw [foc_sz HFA.out]; exact HFA.out.few)) (by decide))
   obtain ⟨b8, o8', rfl, hn8, _, p0, _, _⟩ := hf7.node
   obtain ⟨ho, hho⟩ : ∃ z, z = (hdW xa).1.1.op := ⟨_, rfl⟩
   rw [← hho] at p0
   have HR3 : Hid (res = (ho == 10)) := hid (by rw [HR2.out, hho])
   have hn81 : (0 : Int) < (n6 : Int) := by omega
   have hfld := run_head (some ⟨b8, o8', none⟩) B6 n6 c6 m6 d6
   clear hb5 hf6 hf7 zs3 hc43 hho
   go_wp2_with fail
   go_ret
   rw [HR3.out]
   exact ⟨rfl, HB1.out.trans (HB5.out.mono HB1.out.size)⟩
 have HR2 : Hid (res = false) := hid (by rw [HRES.out]; unfold readyF; rw [← HSO.out, if_neg o5, if_neg (by omega), if_neg o1, if_neg o11, if_neg o12])
 have d5 : (so == 5) = false := by simpa using o5
 have d7 : (so == 7) = false := by simpa using o7
 have d8 : (so == 8) = false := by simpa using o8
 have d1 : (so == 1) = false := by simpa using o1
 have d11 : (so == 11) = false := by simpa using o11
 have d12 : (so == 12) = false := by simpa using o12
 clear o5 o7 o8 o1 o11 o12
 go_wp2_with fail
 go_ret
 rw [HR2.out]
 exact ⟨rfl, HB1.out⟩
end Go.Proofs.Ytjoddliplahgkaa
