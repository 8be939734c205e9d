/- Merged: WhV, WhT, SenseE. -/
import Derived.Test.YtjoddliplahgkaaDWhU
import Derived.Test.YtjoddliplahgkaaDShort2
import Derived.Test.YtjoddliplahgkaaDSenseD
import Derived.Test.YtjoddliplahgkaaDSenseG
namespace Go.Proofs.Ytjoddliplahgkaa
section
open Go.Lib (hid)
open Go.RowKit
def OntoP (lo : Nat) (r : Option Fc) (w : World) (e : Ending) (w' : World) : Prop := Below w.heap.size w w' ∧ ((∃ f, r = some f ∧ ∃ A n c B m d, e = .returned (.agg #[.slice A n c, .slice B m d]) ∧ FocO lo w' f A n c B m d) ∨ (r = none ∧ e = .panicked (CFail 9)))
theorem results_onto {w : World} {g : Nat} {c0 c1 : Value} {tmps : Array Value} (h : Blk w g 70 #[c0, c1]) (ht : tmps.getD 4 undef = .pointer (some ⟨g, 0, none⟩)) :
 (results Try.f83 tmps).run Try.prog w = .ok (.agg #[c0, c1]) w := by
 have hc := h.cell
 have ht' : tmps[4]?.getD undef = .pointer (some ⟨g, 0, none⟩) := by rw [← ht]; simp
 simp [results, Try.results83, go_sem, ht', hc]
set_option linter.unusedSimpArgs false in
set_option linter.unusedVariables false in
set_option maxRecDepth 100000 in
set_option maxHeartbeats 4000000 in
theorem conto_any {b : Bk} {free : Int} {x : TT} {L : List TT} {A B : Option Addr} {n c m d : Nat} {w : World} (h : TermV w A n c (rowT x)) (hx : FitT b free x) (ha : RowsR (· < w.heap.size) w B m d (L.map rowT)) (hL : ∀ a ∈ L, FitT b free a) (hnul : B = none → d = 0) :
 Calls Try.prog 83 #[.slice A n c, .slice B m d] w (OntoP w.heap.size (ontoF x L) w) := by
 obtain ⟨w1, hw1e⟩ : ∃ w1 : World, w1 = w.alloc (.cells #[.slice none 0 0, .slice none 0 0] 70) := ⟨_, rfl⟩
 have hb1 : Below w.heap.size w w1 := by rw [hw1e]; exact below_alloc _ _
 have HK1 : Hid (Blk w1 w.heap.size 70 #[.slice none 0 0, .slice none 0 0]) := hid (by rw [hw1e]; exact Blk.new _ _ _)
 have HB1 := hid hb1
 have hap := apply_any (w := w1) (h.below hb1) (ha.keep fun q hq => ⟨Nat.lt_of_lt_of_le hq hb1.size, fun o => hb1.cell (p := ⟨q, o, none⟩) hq⟩) hnul
 rw [app_rows hx hL] at hap
 have hw1s : w1.heap.size = w.heap.size + 1 := by rw [hw1e]; simp
 by_cases hbig : 4096 < szT x + argsN L
 · rw [if_pos hbig] at hap
   have HAP := hid hap
   have HR : Hid (ontoF x L = none) := hid (by unfold ontoF; rw [if_pos hbig])
   clear hap hb1 h ha hL hx hbig
   go_in
   go_upto_region 1 with fail
   rw [← hw1e]
   clear hw1e
   go_wp2_with fail
   refine (HAP.out).mono ?_
   rintro e w2 ⟨hb2, A2, n2, c2, rfl, ht2⟩
   have HB2 := bto HB1 hb2
   clear hb2 ht2
   go_wp2_with fail
   refine (cmust_er (by decide)).mono ?_
   rintro e w3 ⟨rfl, rfl⟩
   go_wp2_with fail
   exact ⟨rfl, HB2.out, .inr ⟨HR.out, rfl⟩⟩
 rw [if_neg hbig] at hap
 have HAP := hid hap
 have HR : Hid (ontoF x L = some ((hdW x).1, (hdW x).2 ++ L)) := hid (by unfold ontoF; rw [if_neg hbig])
 have HFIT := hid (apps_fits L x hx hL (by omega))
 have HHD : Hid (hdW (apps x L) = ((hdW x).1, (hdW x).2 ++ L)) := hid (hdW_apps L x)
 clear hap hb1 h ha hL hx hbig
 go_in
 go_upto_region 1 with fail
 rw [← hw1e]
 clear hw1e
 go_wp2_with fail
 refine (HAP.out).mono ?_
 rintro e w2 ⟨hb2, A2, n2, c2, rfl, ht2⟩
 have HB2 := bto HB1 hb2
 have HT2 : Hid (TermV w2 A2 n2 c2 (rowT (apps x L))) := hid (ht2.keep (R' := (· < w2.heap.size)) fun q hq => ⟨hq.2, fun _ => rfl⟩)
 have HK2 := hid (HK1.out.below hb2 HK1.out.lt)
 have hs2 := hb2.size
 clear hb2 ht2
 simp only at HT2 ⊢
 go_wp2_with fail
 refine cmust_ok.mono ?_
 rintro e w3 ⟨rfl, rfl⟩
 go_wp2_with fail
 refine (focused_any HT2.out HFIT.out).mono ?_
 rintro e w4 ⟨hb4, A4, n4, c4, B4, m4, d4, rfl, hf4⟩
 rw [HHD.out] at hf4
 have HB4 := bto HB2 hb4
 have HK4 := hid (HK2.out.below hb4 HK2.out.lt)
 have HF4 := hid hf4
 have z4 := HK4.out.cell
 have zf4 := HK4.out.frozen
 have hlt4 : w.heap.size < w4.heap.size := HK4.out.lt
 clear hb4 hf4
 go_wp2_with fail
 refine bodyPost_ret (v := .agg #[.slice A4 n4 c4, .slice B4 m4 d4]) (results_onto (g := w.heap.size) (by have := (HK4.out.set_ 0 (.slice A4 n4 c4)).set_ 1 (.slice B4 m4 d4); simpa using this) (by simp)) rfl ⟨?_, .inl ⟨_, HR.out, A4, n4, c4, B4, m4, d4, rfl, ?_⟩⟩
 · exact (HB4.out.setCell (p := ⟨w.heap.size, 0, none⟩) (Nat.le_refl _) _).setCell (p := ⟨w.heap.size, 1, none⟩) (Nat.le_refl _) _
 exact (((HF4.out.set (b := w.heap.size) (by omega) 0 _).set (b := w.heap.size) (by omega) 1 _)).base (by omega)
end
section
open Go.Lib (hid)
set_option maxHeartbeats 4000000
set_option maxRecDepth 100000
open Go.RowKit
theorem bytesT : Try.t29.bytes = 24 := by kernel_rfl
def GrowR (w : World) (e : Ending) (w' : World) : Prop := Below w.heap.size w w' ∧ ∃ A c, e = .returned (.slice A 0 c) ∧ w'.ownsRow w.heap.size 29 1 (.slice A 0 c) 0 []
theorem growR_any {n : Nat} {w : World} (hn : n ≤ 1000000) :
 Calls Try.prog 99 #[.slice none 0 0, .int .i64 (n : Int)] w (GrowR w) := by
 by_cases h0 : 0 < n
 · have hb := bytesT
   have h1 : (n : Int) * (Try.t29.bytes : Int) ≤ 281474976710656 := by rw [hb]; omega
   have h2 : Builtin.nextslicecap n 0 * Try.t29.bytes ≤ 281474976710656 := by rw [hb]; exact growslice_fits (by omega) (by omega)
   have h3 : (n : Int) ≤ 9223372036854775807 := by omega
   have hc1 := grownCap_ge w n 0 29
   have hc2 := grownCap_le_maxLen w n 0 29 (by unfold maxLen; omega)
   have HC := hid (And.intro hc1 hc2)
   clear hb hc1 hc2
   go_in
   go_wp2_with fail
   go_ret
   obtain ⟨hc1, hc2⟩ := HC.out
   refine ⟨below_drewN (below_alloc w _) 1, some ⟨w.heap.size, 0, none⟩, grownCap w n 0 29, rfl, ?_⟩
   refine World.ownsRow_made w _ _ (Nat.le_refl _) hc2 ?_
   rw [Array.size_append, size_zeroCells, size_zeroCells]
   show n * 1 + (grownCap w n 0 29 - n) * 1 = grownCap w n 0 29 * 1
   omega
 have h9 : n = 0 := by omega
 subst h9
 go_in
 go_wp2_with fail
 go_ret
 exact ⟨Below.refl _ _, none, 0, rfl, World.ownsRow_nil _ _ _ _⟩
structure RVs (w : World) (A : Option Addr) (n : Nat) (vss : List (List Value)) : Prop where
 len : vss.length = n
 few : n ≤ 1000
 mem : 0 < n → ∃ b off, A = some ⟨b, off, none⟩ ∧ b < w.heap.size ∧ ∀ k, k < n → ∃ A' n' c', w.cell? ⟨b, off + k, none⟩ = some (.slice A' n' c') ∧ (vss.getD k []).length = n' ∧ (A' = none → n' = 0 ∧ c' = 0) ∧ (∀ u ∈ vss.getD k [], u.oneCell' = true) ∧ ∀ W, Below w.heap.size w W → ∀ ad, A' = some ad → ∀ j u, (vss.getD k [])[j]? = some u → W.cell? (ad.add j) = some u
def ConR (vs : List Value) (w : World) (e : Ending) (w' : World) : Prop := Below w.heap.size w w' ∧ ∃ A c, e = .returned (.slice A vs.length c) ∧ w'.ownsRow w.heap.size 29 1 (.slice A vs.length c) vs.length vs
theorem concatR_any {A : Option Addr} {n c : Nat} {ls : List (List Value)} {w : World} (h : RVs w A n ls) (hf : ls.flatten.length ≤ 1000000) :
 Calls Try.prog 86 #[.slice A n c] w (ConR ls.flatten w) := by
 obtain ⟨i0, hi, hy0, hy1, hy2⟩ := info_parts infoR
 have HI0 := hid hi
 have HY0 := hid hy0
 have HY1 := hid hy1
 have HY2 := hid hy2
 have hfew := h.few
 have H := hid h
 clear hi hy0 hy1 hy2 h
 go_in
 go_wp2_with fail
 go_loop [3, 11] (fun sv iv => ∃ i : Nat, i ≤ n ∧ iv = .int .i64 (i : Int) ∧ sv = .int .i64 (((ls.take i).flatten.length : Nat) : Int)) (fun _ i => n - (intOf i).toNat)
 case atStart => exact ⟨0, by omega, rfl, by simp⟩
 case round =>
  obtain ⟨i, hi, rfl, rfl⟩ := hrel
  by_cases hlt : i < n
  · obtain ⟨b, off, rfl, _, hm⟩ := H.out.mem (by omega)
    obtain ⟨A', n', c', hc, ht, _, _, _⟩ := hm i hlt
    have hsum : (ls.take (i + 1)).flatten.length = (ls.take i).flatten.length + n' := by
     rw [flat_take ls (by rw [H.out.len]; exact hlt) [], List.length_append, ht]
    have hle := flat_take_le ls (i + 1)
    clear hm ht
    have HSUM := hid hsum
    obtain ⟨sz, hsz⟩ : ∃ sz, sz = (ls.take i).flatten.length := ⟨_, rfl⟩
    rw [← hsz] at hsum
    rw [← hsz]
    have HSZ := hid hsz
    have hszl : sz + n' ≤ 1000000 := by omega
    clear hsum hle hsz
    go_wp2_with fail
    go_round
    case rel => exact ⟨i + 1, by omega, by go_num, by rw [HSUM.out, ← HSZ.out]; go_num⟩
    case measure => simp [intOf]; omega
  have hie : i = n := by omega
  have HF : Hid ((ls.take i).flatten = ls.flatten) := hid (by rw [List.take_of_length_le (by rw [H.out.len]; omega)])
  rw [HF.out]
  obtain ⟨N, hN⟩ : ∃ N, N = ls.flatten.length := ⟨_, rfl⟩
  rw [← hN] at hf
  rw [← hN]
  have HN := hid hN
  have HGROW := hid (fun w => growR_any (w := w) hf)
  clear hN
  go_wp2_with fail
  refine (HGROW.out _).mono ?_
  rintro e w2 ⟨hb2, g, c2, rfl, hown2⟩
  have HB2 := hid hb2
  have HO2 := hid hown2
  clear hb2 hown2
  go_wp2_with fail
  go_loopw [6, 27] (fun sv iv wr => ∃ (i : Nat) (A1 : Option Addr) (k1 : Nat), i ≤ n ∧ iv = .int .i64 (i : Int) ∧ sv = .slice A1 (ls.take i).flatten.length k1 ∧ Hid (wr.ownsRow w.heap.size 29 1 (.slice A1 (ls.take i).flatten.length k1) (ls.take i).flatten.length (ls.take i).flatten) ∧ Hid (Below w.heap.size w wr)) (fun _ i _ => n - (intOf i).toNat)
  case atStart => exact ⟨0, g, c2, by omega, rfl, rfl, by simpa using HO2, HB2⟩
  case round =>
   obtain ⟨i, A1, k1, hi, rfl, rfl, hown, hbw⟩ := hrel
   by_cases hlt : i < n
   rotate_left
   · have hie : i = n := by omega
     have HF2 : Hid ((ls.take i).flatten = ls.flatten) := hid (by rw [List.take_of_length_le (by rw [H.out.len]; omega)])
     rw [HF2.out] at hown
     rw [HF2.out]
     go_wp2_with fail
     go_ret
     exact ⟨hbw.out, A1, k1, rfl, hown.out⟩
   obtain ⟨b, off, rfl, hb, hm⟩ := H.out.mem (by omega)
   obtain ⟨A', n', c', hc, ht, hnn, h1, hx⟩ := hm i hlt
   have hc2 : wr.cell? ⟨b, off + i, none⟩ = some (.slice A' n' c') := (hbw.out.cell (p := ⟨b, off + i, none⟩) hb).trans hc
   have HX := hid (hx wr hbw.out)
   have HNN := hid hnn
   have H1 := hid h1
   have hft := flat_take ls (by rw [H.out.len]; exact hlt) []
   have hle := flat_take_le ls (i + 1)
   rw [hft, List.length_append, ht, ← HN.out] at hle
   have HFT := hid hft
   have HTL := hid ht
   generalize (ls.take i).flatten = l at *
   generalize ls.getD i [] = nl at *
   clear hm hc ht hft hx hnn h1
   have hbs := hbw.out.size
   go_wp2_with (at_builtin; refine wpList_oper rfl (oper_append_mine (.tmp 31) (.tmp 32) 59 rfl w.heap.size 29 i0 _ 1 24 Try.underlying59 HI0.out HY0.out HY1.out HY2.out rfl (by decide) (.slice A1 l.length k1) l.length l rfl hown.out A' n' c' nl rfl (by rw [HTL.out, Nat.mul_one]) HNN.out HX.out H1.out (by unfold maxLen; omega) (by omega) hbs ?_); intro A4 c4 w4 happ4)
   have HO4 := hid happ4.own
   have HB4 := hid (hbw.out.grown happ4.grown hbs (fun g hg => (ownsRow_block hown.out hg).1))
   clear happ4
   go_roundw
   case rel => exact ⟨i + 1, A4, c4, by omega, by go_num, by rw [HFT.out, List.length_append, HTL.out], hid (by rw [HFT.out, List.length_append, HTL.out]; exact HO4.out), HB4⟩
   case measure => simp [intOf]; omega
theorem own_capT {w : World} {base sz n c : Nat} {e : TypeId} {A : Option Addr} {xs : List Value} (h : w.ownsRow base e sz (.slice A n c) n xs) : n ≤ c := by
 rcases h.2 with ⟨hv, h0⟩ | ⟨g, cap, cur, hv, hg, hh, hc, _⟩
 · omega
 injection hv with e1 e2 e3
 omega
theorem RowsC.app {S : Nat → Prop} {w : World} : ∀ {xs ys : List Value} {ls ms : List (List Nd)}, RowsC S w xs ls → RowsC S w ys ms → RowsC S w (xs ++ ys) (ls ++ ms)
 | [], _, [], _, _, h => h
 | [], _, _ :: _, _, h, _ => h.elim
 | _ :: _, _, [], _, h, _ => h.elim
 | _ :: _, _, _ :: _, _, h, h2 => ⟨h.1, RowsC.app h.2 h2⟩
theorem vals_aux {S : Nat → Prop} {w : World} {b : Nat} : ∀ (ls : List (List Nd)) (off : Nat), (∀ k, k < ls.length → ∃ A' n' c', w.cell? ⟨b, off + k, none⟩ = some (.slice A' n' c') ∧ TermR S w A' n' c' (ls.getD k [])) → ∃ vs, RowsC S w vs ls ∧ ∀ j u, vs[j]? = some u → w.cell? ⟨b, off + j, none⟩ = some u
 | [], off, _ => ⟨[], trivial, fun j u h => by simp at h⟩
 | l :: r, off, h => by
  obtain ⟨A', n', c', hc, ht⟩ := h 0 (by simp)
  obtain ⟨vs, h1, h2⟩ := vals_aux r (off + 1) (fun k hk => by
   have h9 := h (k + 1) (by simp only [List.length_cons]; omega)
   rw [show off + (k + 1) = off + 1 + k from by omega] at h9
   exact h9)
  refine ⟨.slice A' n' c' :: vs, ⟨⟨A', n', c', rfl, ht⟩, h1⟩, fun j u hu => ?_⟩
  cases j with
  | zero => injection hu with hu; rw [← hu]; exact hc
  | succ j => rw [show off + (j + 1) = off + 1 + j from by omega]; exact h2 j u hu
theorem rowsR_vals {w : World} {A : Option Addr} {n c : Nat} {ls : List (List Nd)} (h : RowsR (· < w.heap.size) w A n c ls) (hnul : A = none → c = 0) : ∃ vs, vs.length = n ∧ RowsC (· < w.heap.size) w vs ls ∧ (A = none → n = 0 ∧ c = 0) ∧ ∀ W, Below w.heap.size w W → ∀ ad, A = some ad → ∀ j u, vs[j]? = some u → W.cell? (ad.add j) = some u := by
 have hl := h.len
 by_cases hn : 0 < n
 · obtain ⟨b, off, rfl, hb, hm⟩ := h.mem hn
   obtain ⟨vs, h1, h2⟩ := vals_aux (S := (· < w.heap.size)) (w := w) (b := b) ls off (fun k hk => hm k (by omega))
   have h3 := h1.len
   refine ⟨vs, by omega, h1, (fun e => by cases e), fun W hW ad e j u hu => ?_⟩
   injection e with e
   subst e
   have ea : (⟨b, off, none⟩ : Addr).add j = ⟨b, off + j, none⟩ := by unfold Addr.add; split <;> simp_all
   rw [ea]
   exact (hW.cell (p := ⟨b, off + j, none⟩) hb).trans (h2 j u hu)
 have hn0 : n = 0 := by omega
 subst hn0
 have hls := List.eq_nil_of_length_eq_zero hl
 subst hls
 exact ⟨[], rfl, trivial, fun e => ⟨rfl, hnul e⟩, fun W _ ad _ j u hu => by simp at hu⟩
def Con2 (L : List (List Nd)) (w : World) (e : Ending) (w' : World) : Prop := Below w.heap.size w w' ∧ ∃ A n c, e = .returned (.slice A n c) ∧ RowsR (· < w'.heap.size) w' A n c L ∧ (A = none → c = 0)
theorem concat2_any {w : World} {g : Nat} {t : TypeId} {A1 A2 : Option Addr} {n1 c1 n2 c2 : Nat} {L1 L2 : List (List Nd)} (hb : Blk w g t #[.slice A1 n1 c1, .slice A2 n2 c2]) (h1 : RowsR (· < w.heap.size) w A1 n1 c1 L1) (h2 : RowsR (· < w.heap.size) w A2 n2 c2 L2) (u1 : A1 = none → c1 = 0) (u2 : A2 = none → c2 = 0) (hf : n1 + n2 ≤ 1000000) :
 Calls Try.prog 86 #[.slice (some ⟨g, 0, none⟩) 2 2] w (Con2 (L1 ++ L2) w) := by
 obtain ⟨vs1, a1, b1, d1, e1⟩ := rowsR_vals h1 u1
 obtain ⟨vs2, a2, b2, d2, e2⟩ := rowsR_vals h2 u2
 have hrv : RVs w (some ⟨g, 0, none⟩) 2 [vs1, vs2] := ⟨rfl, by decide, fun _ => ⟨g, 0, rfl, hb.lt, fun k hk => by
  have hc := hb.cell (0 + k)
  rcases (by omega : k = 0 ∨ k = 1) with rfl | rfl
  · exact ⟨A1, n1, c1, hc, a1, d1, rows_one b1, e1⟩
  exact ⟨A2, n2, c2, hc, a2, d2, rows_one b2, e2⟩⟩⟩
 have hfl : [vs1, vs2].flatten = vs1 ++ vs2 := by simp
 have h := concatR_any (c := 2) hrv (by rw [hfl, List.length_append]; omega)
 rw [hfl] at h
 refine h.mono ?_
 rintro e w' ⟨hB, A, c, rfl, ho⟩
 have hr : RowsC (· < w'.heap.size) w' (vs1 ++ vs2) (L1 ++ L2) := RowsC.keep (fun q hq => ⟨Nat.lt_of_lt_of_le hq hB.size, fun o => hB.cell (p := ⟨q, o, none⟩) hq⟩) (RowsC.app b1 b2)
 exact ⟨hB, A, _, c, rfl, own_rowsQ ho hr.len (by rw [List.length_append]; omega) hr (fun q hq => hq) (fun q hq => (ownsRow_block ho hq).2.1), own_nulT ho⟩
end
section
open Go.RowKit
theorem two_pieces {x p q : TT} (hrt : RtX x) (h : x.1.op = 6 ∨ x.1.op = 5) (hk : kidL x.2.2 = [p, q]) : ∃ e : Nat, endI (rowT x) 1 = (e : Int) ∧ 1 ≤ e ∧ e ≤ (rowT x).length ∧ ((rowT x).take e).drop 1 = rowT p ∧ (rowT x).drop e = rowT q := by
 have hat : At (rowT x) 1 (ds x.1) x.2.2 := At.first (n := x.1) (a := x.2.1) (k := x.2.2) hrt (by omega)
 have hds : ds x.1 = [false, false] := by unfold ds; rw [if_neg (by omega)]; rcases h with h | h <;> rw [h] <;> rfl
 rw [hds] at hat
 obtain ⟨pre1, n1, a1, k1, nx1, e1, s1⟩ := hat.step
 obtain ⟨pre2, n2, a2, k2, nx2, rfl, s2⟩ := s1.next.step
 obtain rfl := List.eq_nil_of_length_eq_zero (show pre1.length = 0 from s1.plen)
 obtain rfl := List.eq_nil_of_length_eq_zero (show pre2.length = 0 from s2.plen)
 obtain rfl := s2.next.done
 rw [e1] at hk
 simp only [kidL, List.cons.injEq, and_true] at hk
 obtain ⟨rfl, rfl⟩ := hk
 have h1 := s1.end_
 have h2 := s1.cut
 have h3 := s1.le
 have h4 := s1.next.rest
 simp only [List.length_nil, Nat.add_zero] at h1 h2 h3 h4
 refine ⟨_, h1, by omega, h3, h2, ?_⟩
 rw [h4]
 simp [row, rowT]
theorem three_pieces {x p q r : TT} (hrt : RtX x) (h : x.1.op = 7) (hk : kidL x.2.2 = [p, q, r]) : ∃ e1 e2 : Nat, endI (rowT x) 1 = (e1 : Int) ∧ endI (rowT x) (e1 : Int) = (e2 : Int) ∧ 1 ≤ e1 ∧ e1 ≤ e2 ∧ e2 ≤ (rowT x).length ∧ ((rowT x).take e2).drop e1 = rowT q ∧ (rowT x).drop e2 = rowT r := by
 have hat : At (rowT x) 1 (ds x.1) x.2.2 := At.first (n := x.1) (a := x.2.1) (k := x.2.2) hrt (by omega)
 have hds : ds x.1 = [false, false, false] := by unfold ds; rw [if_neg (by omega), h]; rfl
 rw [hds] at hat
 obtain ⟨pre1, n1, a1, k1, nx1, e1, s1⟩ := hat.step
 obtain ⟨pre2, n2, a2, k2, nx2, rfl, s2⟩ := s1.next.step
 obtain ⟨pre3, n3, a3, k3, nx3, rfl, s3⟩ := s2.next.step
 obtain rfl := List.eq_nil_of_length_eq_zero (show pre1.length = 0 from s1.plen)
 obtain rfl := List.eq_nil_of_length_eq_zero (show pre2.length = 0 from s2.plen)
 obtain rfl := List.eq_nil_of_length_eq_zero (show pre3.length = 0 from s3.plen)
 obtain rfl := s3.next.done
 rw [e1] at hk
 simp only [kidL, List.cons.injEq, and_true] at hk
 obtain ⟨rfl, rfl, rfl⟩ := hk
 have h1 := s1.end_
 have h3 := s1.le
 have i1 := s2.end_
 have i2 := s2.cut
 have i3 := s2.le
 have i4 := s2.next.rest
 simp only [List.length_nil, Nat.add_zero] at h1 h3 i1 i2 i3 i4
 refine ⟨_, _, h1, i1, by omega, by omega, i3, i2, ?_⟩
 rw [i4]
 simp [row, rowT]
end
end Go.Proofs.Ytjoddliplahgkaa
