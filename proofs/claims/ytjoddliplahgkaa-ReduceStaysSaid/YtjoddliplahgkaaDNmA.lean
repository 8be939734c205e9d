/- core: binds, rebuilt; slices.Clip. -/
import Derived.Test.YtjoddliplahgkaaDWhF
import Derived.Test.YtjoddliplahgkaaDWhI
namespace Go.Proofs.Ytjoddliplahgkaa
open Go.Lib (hid)
set_option maxHeartbeats 4000000
set_option maxRecDepth 100000
set_option linter.unusedVariables false
set_option linter.unusedSimpArgs false
open Go.RowKit
theorem infoBd : (Try.prog.info? 43).map (fun i => (i.zero, i.size, i.bytes)) = some (some (.agg #[.slice none 0 0, .slice none 0 0]), 2, 48) := by kernel_rfl
theorem clipB_any {A : Option Addr} {n c : Nat} {w : World} (hc : n ≤ c) (hnul : A = none → c = 0) :
 Calls Try.prog 77 #[.slice A n c] w (fun e w' => e = .returned (.slice A n n) ∧ w' = w) := by
 have h1 : (n : Int) ≤ (c : Int) := by omega
 have h0 : (0 : Int) ≤ (n : Int) := by omega
 cases A with
 | none =>
  obtain rfl : c = 0 := hnul rfl
  obtain rfl : n = 0 := by omega
  clear hnul
  go_in
  go_wp2_with fail
  go_ret
  exact ⟨rfl, rfl⟩
 | some a =>
  clear hnul
  go_in
  go_wp2_with fail
  go_ret
  exact ⟨rfl, rfl⟩
def pairsB : List Value → List Value
 | [] => []
 | x :: xs => x :: .slice none 0 0 :: pairsB xs
theorem pairsB_len : ∀ xs, (pairsB xs).length = xs.length * 2
 | [] => rfl
 | x :: xs => by simp only [pairsB, List.length_cons, pairsB_len xs]; omega
theorem pairsB_app : ∀ (xs : List Value) (x : Value), pairsB (xs ++ [x]) = pairsB xs ++ [x, .slice none 0 0]
 | [], x => rfl
 | y :: ys, x => by simp only [List.cons_append, pairsB, pairsB_app ys x]
theorem pairsB_at : ∀ (xs : List Value) (k : Nat), k < xs.length → (pairsB xs)[k * 2]? = xs[k]? ∧ (pairsB xs)[k * 2 + 1]? = some (.slice none 0 0)
 | [], k, h => by simp at h
 | x :: xs, 0, _ => ⟨rfl, rfl⟩
 | x :: xs, k + 1, h => by
  have := pairsB_at xs k (by simpa using h)
  rw [show (k + 1) * 2 = k * 2 + 2 from by omega]
  simpa [pairsB] using this
def bindsN (n : Nd) : Nat := if n.op = 4 ∨ n.op = 5 then 1 else if n.op = 12 then n.b.toNat else 0
def BindsP (k : Nat) (w : World) (e : Ending) (w' : World) : Prop := Below w.heap.size w w' ∧ ∃ A c xs, e = .returned (.slice A k c) ∧ xs.length = k ∧ (∀ x ∈ xs, ∃ A1 n1 c1, x = Value.slice A1 n1 c1) ∧ w'.ownsRow w.heap.size 43 2 (.slice A k c) k (pairsB xs)
theorem lit_news {w : World} {g : Nat} {t : TypeId} {x y : Value} (h : Blk w g t #[x, y]) : ∀ ad, some (⟨g, 0, none⟩ : Addr) = some ad → ∀ j u, ([x, y] : List Value)[j]? = some u → w.cell? (ad.add j) = some u := by
 intro ad e j u hu
 injection e with e
 subst e
 have ea : (⟨g, 0, none⟩ : Addr).add j = ⟨g, j, none⟩ := by unfold Addr.add; split <;> simp_all
 rw [ea, h.cell]
 simpa using hu
theorem around_even {b : Int} (i : Nat) : aroundI 12 b ((2 * i : Nat) : Int) = 0 := by
 unfold aroundI
 rw [if_neg (by omega), if_neg (by omega)]
theorem cbinds_any {free : Int} {b : Bk} (h0 : 0 ≤ free) (h1 : free ≤ 990000) {t : TT} {A Ak : Option Addr} {n c nk ck : Nat} {w : World} (ht : TermV w A n c (rowT t)) (ft : FitT b free t) (hk : RowsR (· < w.heap.size) w Ak nk ck ((kidL t.2.2).map rowT)) :
 Calls Try.prog 76 #[.slice A n c, .slice Ak nk ck] w (BindsP (bindsN t.1) w) := by
 obtain ⟨i0, hi, hy0, hy1, hy2⟩ := info_parts infoBd
 have HI0 := hid hi
 have HY0 := hid hy0
 have HY1 := hid hy1
 have HY2 := hid hy2
 clear hi hy0 hy1 hy2
 have hn0 : 0 < n := by rw [← ht.len]; exact rowT_pos t
 obtain ⟨bs, os, rfl, hbs, hc0, hc1, hc2⟩ := ht.at_ hn0
 simp only [Nat.zero_mul, Nat.add_zero] at hc0 hc1 hc2
 rw [show nth (rowT t) 0 = t.1 from rfl] at hc0 hc1 hc2
 have hkl := hk.len
 rw [List.length_map] at hkl
 obtain ⟨so, hso⟩ : ∃ z, z = t.1.op := ⟨_, rfl⟩
 obtain ⟨sb, hsb⟩ : ∃ z, z = t.1.b := ⟨_, rfl⟩
 rw [← hso] at hc0
 rw [← hsb] at hc2
 have HK := hid hk
 have HFT := hid ft
 obtain ⟨res, hres⟩ : ∃ r, r = bindsN t.1 := ⟨_, rfl⟩
 rw [← hres]
 unfold bindsN at hres
 rw [← hso, ← hsb] at hres
 have HRES := hid hres
 have HSO := hid hso
 have HSB := hid hsb
 clear hc1 hres hso hsb ht hk
 by_cases o45 : so = 4 ∨ so = 5
 · have hk2 : nk = 2 := by
    obtain ⟨p, q, hk⟩ := kids_two ft.okt (by rw [← HSO.out]; omega)
    rw [hk] at hkl
    simpa using hkl.symm
   subst hk2
   obtain ⟨bb, oo, rfl, hbb, hm⟩ := HK.out.mem (by omega)
   obtain ⟨A1, n1, c1, hcc, _⟩ := hm 0 (by omega)
   simp only [Nat.add_zero] at hcc
   have HR : Hid (res = 1) := hid (by rw [HRES.out, if_pos o45])
   have HOL : Hid ((w.alloc (.cells #[.slice A1 n1 c1, .slice none 0 0] 43)).ownsRow w.heap.size 43 2 (.slice none 0 0) 0 []) := hid (World.ownsRow_nil _ _ _ _)
   have HKL := hid (Blk.new w 43 #[.slice A1 n1 c1, .slice none 0 0])
   have HNW := hid (lit_news HKL.out)
   clear hm hkl ft
   go_in
   rcases o45 with rfl | rfl
   · go_wp2_with (at_builtin; refine wpList_oper rfl (oper_append_mine (.tmp 14) (.tmp 19) 27 rfl w.heap.size 43 i0 _ 2 48 Try.underlying27 HI0.out HY0.out HY1.out HY2.out rfl (by decide) (.slice none 0 0) 0 [] (by rfl) HOL.out (some ⟨w.heap.size, 0, none⟩) 1 1 [.slice A1 n1 c1, .slice none 0 0] (by rfl) rfl (fun e => by cases e) HNW.out (by simp [Value.oneCell']) (by unfold maxLen; omega) (by omega) (by simp) ?_); intro A4 c4 w4 happ4)
     go_ret
     rw [HR.out]
     exact ⟨(below_alloc w _).grown happ4.grown (by simp) (fun g hg => by cases hg), A4, c4, [.slice A1 n1 c1], rfl, rfl, (fun x hx => by rw [List.mem_singleton.1 hx]; exact ⟨_, _, _, rfl⟩), happ4.own⟩
   go_wp2_with (at_builtin; refine wpList_oper rfl (oper_append_mine (.tmp 14) (.tmp 19) 27 rfl w.heap.size 43 i0 _ 2 48 Try.underlying27 HI0.out HY0.out HY1.out HY2.out rfl (by decide) (.slice none 0 0) 0 [] (by rfl) HOL.out (some ⟨w.heap.size, 0, none⟩) 1 1 [.slice A1 n1 c1, .slice none 0 0] (by rfl) rfl (fun e => by cases e) HNW.out (by simp [Value.oneCell']) (by unfold maxLen; omega) (by omega) (by simp) ?_); intro A4 c4 w4 happ4)
   go_ret
   rw [HR.out]
   exact ⟨(below_alloc w _).grown happ4.grown (by simp) (fun g hg => by cases hg), A4, c4, [.slice A1 n1 c1], rfl, rfl, (fun x hx => by rw [List.mem_singleton.1 hx]; exact ⟨_, _, _, rfl⟩), happ4.own⟩
 have d4 : (so == 4) = false := by rw [beq_eq_false_iff_ne]; omega
 have d5 : (so == 5) = false := by rw [beq_eq_false_iff_ne]; omega
 by_cases o12 : so = 12
 rotate_left
 · have d12 : (so == 12) = false := by rw [beq_eq_false_iff_ne]; omega
   have HR : Hid (res = 0) := hid (by rw [HRES.out, if_neg o45, if_neg o12])
   clear o45 o12 hkl ft
   go_in
   go_wp2_with fail
   go_ret
   rw [HR.out]
   exact ⟨Below.refl _ _, none, 0, [], rfl, rfl, (fun x hx => by cases hx), World.ownsRow_nil _ _ _ _⟩
 have h12 : t.1.op = 12 := HSO.out.symm.trans o12
 obtain ⟨p1, p2, p3, p4, p5⟩ := fix_parts ft.okt h12
 rw [← HSB.out] at p1 p2 p5
 obtain ⟨nb, hnb⟩ : ∃ nb : Nat, sb = (nb : Int) := ⟨sb.toNat, by omega⟩
 have hnb2 : nb ≤ 4 := by omega
 have hnk : nk = 2 * nb := by omega
 have HR : Hid (res = nb) := hid (by rw [HRES.out, if_neg o45, if_pos o12]; omega)
 rw [hnb] at hc2
 have HNK := hid hnk
 have HKID : Hid (∀ (i : Nat), i < nb → ∀ W, Below w.heap.size w W → ∃ A1 n1 c1, (∀ bb oo, Ak = some ⟨bb, oo, none⟩ → W.cell? ⟨bb, oo + 2 * i, none⟩ = some (.slice A1 n1 c1)) ∧ Calls Try.prog 85 #[.slice A1 n1 c1, .int .i64 (i : Int), .int .i64 0] W (RowErr (rowT (upT (kidN t (2 * i)) (i : Int)), 0) W)) := hid (fun i hi W hB => by
  have hkk := kid_some (x := t) (i := 2 * i) (by omega)
  have hfit := HFT.out.kid0 hkk (by rw [h12]; exact around_even i)
  obtain ⟨bb, oo, hA, hbb, hm⟩ := HK.out.mem (by omega)
  obtain ⟨A1, n1, c1, hcc, htt⟩ := hm (2 * i) (by omega)
  have e2 : ((kidL t.2.2).map rowT).getD (2 * i) [] = rowT (kidN t (2 * i)) := by
   rw [List.getD_eq_getElem?_getD, List.getElem?_map, hkk]
   rfl
  rw [e2] at htt
  refine ⟨A1, n1, c1, fun bb' oo' e => ?_, ?_⟩
  · rw [hA] at e
    injection e with e
    injection e with e3 e4
    subst e3 e4
    exact (hB.cell (p := ⟨bb, oo + 2 * i, none⟩) hbb).trans hcc
  have hl := lift_any (TermR.keep htt (R' := (· < W.heap.size)) fun q hq => ⟨Nat.lt_of_lt_of_le hq hB.size, fun o => hB.cell (p := ⟨q, o, none⟩) hq⟩) (i : Int) 0 (by omega)
  rw [(up_fit hfit (up := (i : Int)) (by omega) (by omega)).2] at hl
  exact hl)
 obtain ⟨bb, oo, rfl, hbb, _⟩ := HK.out.mem (by omega)
 subst o12
 clear o45 d4 d5 hkl ft h12 p1 p2 p3 p4 p5 hnb
 go_in
 go_wp2_with fail
 go_loopw [5, 27] (fun ov iv wr => ∃ (i c1 : Nat) (A1 : Option Addr) (xs : List Value), i ≤ nb ∧ iv = .int .i64 (i : Int) ∧ ov = .slice A1 i c1 ∧ Hid (xs.length = i) ∧ Hid (∀ x ∈ xs, ∃ A1 n1 c1, x = Value.slice A1 n1 c1) ∧ Hid (wr.ownsRow w.heap.size 43 2 (.slice A1 i c1) i (pairsB xs)) ∧ Hid (Below w.heap.size w wr)) (fun _ iv _ => nb - (intOf iv).toNat)
 case atStart => exact ⟨0, 0, none, [], by omega, rfl, rfl, hid rfl, hid (fun x hx => by cases hx), hid (World.ownsRow_nil _ _ _ _), hid (Below.refl _ _)⟩
 case round =>
  obtain ⟨i, c1, A1, xs, hi, rfl, rfl, hxl, hxs, hown, hbw⟩ := hrel
  by_cases hlt : i < nb
  rotate_left
  · have hie : i = nb := by omega
    have e1 : decide ((i : Int) < (nb : Int)) = false := decide_eq_false (by omega)
    have e2 : decide (i < nb) = false := decide_eq_false hlt
    have HRI : Hid (res = i) := hid (HR.out.trans hie.symm)
    clear hie hlt
    go_wp2_with fail
    go_ret
    rw [HRI.out]
    exact ⟨hbw.out, A1, c1, xs, rfl, hxl.out, hxs.out, hown.out⟩
  have e1 : decide ((i : Int) < (nb : Int)) = true := decide_eq_true (by omega)
  have e2 : decide (i < nb) = true := decide_eq_true hlt
  obtain ⟨s, hs⟩ : ∃ s, s = 2 * i := ⟨_, rfl⟩
  have hwr : IntKind.i64.wrap (2 * (i : Int)) = (s : Int) := by rw [IntKind.wrap_i64]; omega
  have hsn : s < nk := by have := HNK.out; omega
  have hsn2 : (s : Int) < (nk : Int) := by omega
  obtain ⟨A2, n2, c2, hcl, hlf⟩ := HKID.out i hlt wr hbw.out
  have hc3 := hcl bb oo rfl
  rw [← hs] at hc3
  have HLF := hid hlf
  have HXL := hid hxl.out
  have HXS := hid hxs.out
  have HOW := hid hown.out
  have HBW := hid hbw.out
  clear hcl hlf hxl hxs hown hbw hs
  go_wp2_with fail
  refine (HLF.out).mono ?_
  rintro e w2 ⟨hb2, A3, n3, c3, rfl, _⟩
  have HB2 := bto HBW hb2
  have HO2 := hid (own_below HOW.out hb2)
  clear hb2 hc3
  simp only
  go_wp2_with fail
  refine cmust_ok.mono ?_
  rintro e w3 ⟨rfl, rfl⟩
  have HB3 := hid (HB2.out.alloc HB2.out.size (.cells #[.slice A3 n3 c3, .slice none 0 0] 43))
  have HO3 := hid (own_below HO2.out (below_alloc w3 (.cells #[.slice A3 n3 c3, .slice none 0 0] 43)))
  have HKL := hid (Blk.new w3 43 #[.slice A3 n3 c3, .slice none 0 0])
  have HNW := hid (lit_news HKL.out)
  go_wp2_with (at_builtin; refine wpList_oper rfl (oper_append_mine (.tmp 30) (.tmp 42) 27 rfl w.heap.size 43 i0 _ 2 48 Try.underlying27 HI0.out HY0.out HY1.out HY2.out rfl (by decide) (.slice A1 i c1) i (pairsB xs) (by rfl) HO3.out (some ⟨w3.heap.size, 0, none⟩) 1 1 [.slice A3 n3 c3, .slice none 0 0] (by rfl) rfl (fun e => by cases e) HNW.out (by simp [Value.oneCell']) (by unfold maxLen; omega) (by omega) HB3.out.size ?_); intro A4 c4 w4 happ4)
  have HO4 : Hid (w4.ownsRow w.heap.size 43 2 (.slice A4 (i + 1) c4) (i + 1) (pairsB (xs ++ [.slice A3 n3 c3]))) := hid (by rw [pairsB_app]; exact happ4.own)
  have HB4 : Hid (Below w.heap.size w w4) := hid (HB3.out.grown happ4.grown HB3.out.size (fun g hg => (ownsRow_block HO3.out hg).1))
  have HX4 : Hid ((xs ++ [Value.slice A3 n3 c3]).length = i + 1) := hid (by rw [List.length_append, HXL.out]; rfl)
  have HS4 : Hid (∀ x ∈ xs ++ [Value.slice A3 n3 c3], ∃ A1 n1 c1, x = Value.slice A1 n1 c1) := hid (fun x hx => by
   rcases List.mem_append.1 hx with hx | hx
   · exact HXS.out x hx
   rw [List.mem_singleton.1 hx]; exact ⟨_, _, _, rfl⟩)
  clear happ4
  go_roundw
  case rel => exact ⟨i + 1, c4, A4, xs ++ [.slice A3 n3 c3], by omega, by go_num, rfl, HX4, HS4, HO4, HB4⟩
  case measure => simp [intOf]; omega
end Go.Proofs.Ytjoddliplahgkaa
