/- core: slices.Concat at rows of rows. -/
import Derived.Test.YtjoddliplahgkaaBWhV
namespace Go.Proofs.Ytjoddliplahgkaa
open Go.Lib (hid)
set_option maxHeartbeats 4000000
set_option maxRecDepth 100000
open Go.RowKit
theorem bytesT : Try.t29.bytes = 24 := by kernel_rfl
def GrowR (w : World) (e : Ending) (w' : World) : Prop := Below w.heap.size w w' ∧ ∃ A c, e = .returned (.slice A 0 c) ∧ w'.ownsRow w.heap.size 29 1 (.slice A 0 c) 0 []
theorem growR_any {n : Nat} {w : World} (hn : n ≤ 1000000) :
 Calls Try.prog 99 #[.slice none 0 0, .int .i64 (n : Int)] w (GrowR w) := by
 by_cases h0 : 0 < n
 · have hb := bytesT
   have h1 : (n : Int) * (Try.t29.bytes : Int) ≤ 281474976710656 := by rw [hb]; omega
   have h2 : Builtin.nextslicecap n 0 * Try.t29.bytes ≤ 281474976710656 := by rw [hb]; exact growslice_fits (by omega) (by omega)
   have h3 : (n : Int) ≤ 9223372036854775807 := by omega
   have hc1 := grownCap_ge w n 0 29
   have hc2 := grownCap_le_maxLen w n 0 29 (by unfold maxLen; omega)
   have HC := hid (And.intro hc1 hc2)
   clear hb hc1 hc2
   go_in
   go_wp2_with fail
   go_ret
   obtain ⟨hc1, hc2⟩ := HC.out
   refine ⟨below_drewN (below_alloc w _) 1, some ⟨w.heap.size, 0, none⟩, grownCap w n 0 29, rfl, ?_⟩
   refine World.ownsRow_made w _ _ (Nat.le_refl _) hc2 ?_
   rw [Array.size_append, size_zeroCells, size_zeroCells]
   show n * 1 + (grownCap w n 0 29 - n) * 1 = grownCap w n 0 29 * 1
   omega
 have h9 : n = 0 := by omega
 subst h9
 go_in
 go_wp2_with fail
 go_ret
 exact ⟨Below.refl _ _, none, 0, rfl, World.ownsRow_nil _ _ _ _⟩
structure RVs (w : World) (A : Option Addr) (n : Nat) (vss : List (List Value)) : Prop where
 len : vss.length = n
 few : n ≤ 1000
 mem : 0 < n → ∃ b off, A = some ⟨b, off, none⟩ ∧ b < w.heap.size ∧ ∀ k, k < n → ∃ A' n' c', w.cell? ⟨b, off + k, none⟩ = some (.slice A' n' c') ∧ (vss.getD k []).length = n' ∧ (A' = none → n' = 0 ∧ c' = 0) ∧ (∀ u ∈ vss.getD k [], u.oneCell' = true) ∧ ∀ W, Below w.heap.size w W → ∀ ad, A' = some ad → ∀ j u, (vss.getD k [])[j]? = some u → W.cell? (ad.add j) = some u
def ConR (vs : List Value) (w : World) (e : Ending) (w' : World) : Prop := Below w.heap.size w w' ∧ ∃ A c, e = .returned (.slice A vs.length c) ∧ w'.ownsRow w.heap.size 29 1 (.slice A vs.length c) vs.length vs
theorem concatR_any {A : Option Addr} {n c : Nat} {ls : List (List Value)} {w : World} (h : RVs w A n ls) (hf : ls.flatten.length ≤ 1000000) :
 Calls Try.prog 86 #[.slice A n c] w (ConR ls.flatten w) := by
 obtain ⟨i0, hi, hy0, hy1, hy2⟩ := info_parts infoR
 have HI0 := hid hi
 have HY0 := hid hy0
 have HY1 := hid hy1
 have HY2 := hid hy2
 have hfew := h.few
 have H := hid h
 clear hi hy0 hy1 hy2 h
 go_in
 go_wp2_with fail
 go_loop [3, 11] (fun sv iv => ∃ i : Nat, i ≤ n ∧ iv = .int .i64 (i : Int) ∧ sv = .int .i64 (((ls.take i).flatten.length : Nat) : Int)) (fun _ i => n - (intOf i).toNat)
 case atStart => exact ⟨0, by omega, rfl, by simp⟩
 case round =>
  obtain ⟨i, hi, rfl, rfl⟩ := hrel
  by_cases hlt : i < n
  · obtain ⟨b, off, rfl, _, hm⟩ := H.out.mem (by omega)
    obtain ⟨A', n', c', hc, ht, _, _, _⟩ := hm i hlt
    have hsum : (ls.take (i + 1)).flatten.length = (ls.take i).flatten.length + n' := by
     rw [flat_take ls (by rw [H.out.len]; exact hlt) [], List.length_append, ht]
    have hle := flat_take_le ls (i + 1)
    clear hm ht
    have HSUM := hid hsum
    obtain ⟨sz, hsz⟩ : ∃ sz, sz = (ls.take i).flatten.length := ⟨_, rfl⟩
    rw [← hsz] at hsum
    rw [← hsz]
    have HSZ := hid hsz
    have hszl : sz + n' ≤ 1000000 := by omega
    clear hsum hle hsz
    go_wp2_with fail
    go_round
    case rel => exact ⟨i + 1, by omega, by go_num, by rw [HSUM.out, ← HSZ.out]; go_num⟩
    case measure => simp [intOf]; omega
  have hie : i = n := by omega
  have HF : Hid ((ls.take i).flatten = ls.flatten) := hid (by rw [List.take_of_length_le (by rw [H.out.len]; omega)])
  rw [HF.out]
  obtain ⟨N, hN⟩ : ∃ N, N = ls.flatten.length := ⟨_, rfl⟩
  rw [← hN] at hf
  rw [← hN]
  have HN := hid hN
  have HGROW := hid (fun w => growR_any (w := w) hf)
  clear hN
  go_wp2_with fail
  refine (HGROW.out _).mono ?_
  rintro e w2 ⟨hb2, g, c2, rfl, hown2⟩
  have HB2 := hid hb2
  have HO2 := hid hown2
  clear hb2 hown2
  go_wp2_with fail
  go_loopw [6, 27] (fun sv iv wr => ∃ (i : Nat) (A1 : Option Addr) (k1 : Nat), i ≤ n ∧ iv = .int .i64 (i : Int) ∧ sv = .slice A1 (ls.take i).flatten.length k1 ∧ Hid (wr.ownsRow w.heap.size 29 1 (.slice A1 (ls.take i).flatten.length k1) (ls.take i).flatten.length (ls.take i).flatten) ∧ Hid (Below w.heap.size w wr)) (fun _ i _ => n - (intOf i).toNat)
  case atStart => exact ⟨0, g, c2, by omega, rfl, rfl, by simpa using HO2, HB2⟩
  case round =>
   obtain ⟨i, A1, k1, hi, rfl, rfl, hown, hbw⟩ := hrel
   by_cases hlt : i < n
   rotate_left
   · have hie : i = n := by omega
     have HF2 : Hid ((ls.take i).flatten = ls.flatten) := hid (by rw [List.take_of_length_le (by rw [H.out.len]; omega)])
     rw [HF2.out] at hown
     rw [HF2.out]
     go_wp2_with fail
     go_ret
     exact ⟨hbw.out, A1, k1, rfl, hown.out⟩
   obtain ⟨b, off, rfl, hb, hm⟩ := H.out.mem (by omega)
   obtain ⟨A', n', c', hc, ht, hnn, h1, hx⟩ := hm i hlt
   have hc2 : wr.cell? ⟨b, off + i, none⟩ = some (.slice A' n' c') := (hbw.out.cell (p := ⟨b, off + i, none⟩) hb).trans hc
   have HX := hid (hx wr hbw.out)
   have HNN := hid hnn
   have H1 := hid h1
   have hft := flat_take ls (by rw [H.out.len]; exact hlt) []
   have hle := flat_take_le ls (i + 1)
   rw [hft, List.length_append, ht, ← HN.out] at hle
   have HFT := hid hft
   have HTL := hid ht
   generalize (ls.take i).flatten = l at *
   generalize ls.getD i [] = nl at *
   clear hm hc ht hft hx hnn h1
   have hbs := hbw.out.size
   go_wp2_with (at_builtin; refine wpList_oper rfl (oper_append_mine (.tmp 31) (.tmp 32) 59 rfl w.heap.size 29 i0 _ 1 24 Try.underlying59 HI0.out HY0.out HY1.out HY2.out rfl (by decide) (.slice A1 l.length k1) l.length l rfl hown.out A' n' c' nl rfl (by rw [HTL.out, Nat.mul_one]) HNN.out HX.out H1.out (by unfold maxLen; omega) (by omega) hbs ?_); intro A4 c4 w4 happ4)
   have HO4 := hid happ4.own
   have HB4 := hid (hbw.out.grown happ4.grown hbs (fun g hg => (ownsRow_block hown.out hg).1))
   clear happ4
   go_roundw
   case rel => exact ⟨i + 1, A4, c4, by omega, by go_num, by rw [HFT.out, List.length_append, HTL.out], hid (by rw [HFT.out, List.length_append, HTL.out]; exact HO4.out), HB4⟩
   case measure => simp [intOf]; omega
theorem own_capT {w : World} {base sz n c : Nat} {e : TypeId} {A : Option Addr} {xs : List Value} (h : w.ownsRow base e sz (.slice A n c) n xs) : n ≤ c := by
 rcases h.2 with ⟨hv, h0⟩ | ⟨g, cap, cur, hv, hg, hh, hc, _⟩
 · omega
 injection hv with e1 e2 e3
 omega
theorem RowsC.app {S : Nat → Prop} {w : World} : ∀ {xs ys : List Value} {ls ms : List (List Nd)}, RowsC S w xs ls → RowsC S w ys ms → RowsC S w (xs ++ ys) (ls ++ ms)
 | [], _, [], _, _, h => h
 | [], _, _ :: _, _, h, _ => h.elim
 | _ :: _, _, [], _, h, _ => h.elim
 | _ :: _, _, _ :: _, _, h, h2 => ⟨h.1, RowsC.app h.2 h2⟩
theorem vals_aux {S : Nat → Prop} {w : World} {b : Nat} : ∀ (ls : List (List Nd)) (off : Nat), (∀ k, k < ls.length → ∃ A' n' c', w.cell? ⟨b, off + k, none⟩ = some (.slice A' n' c') ∧ TermR S w A' n' c' (ls.getD k [])) → ∃ vs, RowsC S w vs ls ∧ ∀ j u, vs[j]? = some u → w.cell? ⟨b, off + j, none⟩ = some u
 | [], off, _ => ⟨[], trivial, fun j u h => by simp at h⟩
 | l :: r, off, h => by
  obtain ⟨A', n', c', hc, ht⟩ := h 0 (by simp)
  obtain ⟨vs, h1, h2⟩ := vals_aux r (off + 1) (fun k hk => by
   have h9 := h (k + 1) (by simp only [List.length_cons]; omega)
   rw [show off + (k + 1) = off + 1 + k from by omega] at h9
   exact h9)
  refine ⟨.slice A' n' c' :: vs, ⟨⟨A', n', c', rfl, ht⟩, h1⟩, fun j u hu => ?_⟩
  cases j with
  | zero => injection hu with hu; rw [← hu]; exact hc
  | succ j => rw [show off + (j + 1) = off + 1 + j from by omega]; exact h2 j u hu
theorem rowsR_vals {w : World} {A : Option Addr} {n c : Nat} {ls : List (List Nd)} (h : RowsR (· < w.heap.size) w A n c ls) (hnul : A = none → c = 0) : ∃ vs, vs.length = n ∧ RowsC (· < w.heap.size) w vs ls ∧ (A = none → n = 0 ∧ c = 0) ∧ ∀ W, Below w.heap.size w W → ∀ ad, A = some ad → ∀ j u, vs[j]? = some u → W.cell? (ad.add j) = some u := by
 have hl := h.len
 by_cases hn : 0 < n
 · obtain ⟨b, off, rfl, hb, hm⟩ := h.mem hn
   obtain ⟨vs, h1, h2⟩ := vals_aux (S := (· < w.heap.size)) (w := w) (b := b) ls off (fun k hk => hm k (by omega))
   have h3 := h1.len
   refine ⟨vs, by omega, h1, (fun e => by cases e), fun W hW ad e j u hu => ?_⟩
   injection e with e
   subst e
   have ea : (⟨b, off, none⟩ : Addr).add j = ⟨b, off + j, none⟩ := by unfold Addr.add; split <;> simp_all
   rw [ea]
   exact (hW.cell (p := ⟨b, off + j, none⟩) hb).trans (h2 j u hu)
 have hn0 : n = 0 := by omega
 subst hn0
 have hls := List.eq_nil_of_length_eq_zero hl
 subst hls
 exact ⟨[], rfl, trivial, fun e => ⟨rfl, hnul e⟩, fun W _ ad _ j u hu => by simp at hu⟩
def Con2 (L : List (List Nd)) (w : World) (e : Ending) (w' : World) : Prop := Below w.heap.size w w' ∧ ∃ A n c, e = .returned (.slice A n c) ∧ RowsR (· < w'.heap.size) w' A n c L ∧ (A = none → c = 0)
theorem concat2_any {w : World} {g : Nat} {t : TypeId} {A1 A2 : Option Addr} {n1 c1 n2 c2 : Nat} {L1 L2 : List (List Nd)} (hb : Blk w g t #[.slice A1 n1 c1, .slice A2 n2 c2]) (h1 : RowsR (· < w.heap.size) w A1 n1 c1 L1) (h2 : RowsR (· < w.heap.size) w A2 n2 c2 L2) (u1 : A1 = none → c1 = 0) (u2 : A2 = none → c2 = 0) (hf : n1 + n2 ≤ 1000000) :
 Calls Try.prog 86 #[.slice (some ⟨g, 0, none⟩) 2 2] w (Con2 (L1 ++ L2) w) := by
 obtain ⟨vs1, a1, b1, d1, e1⟩ := rowsR_vals h1 u1
 obtain ⟨vs2, a2, b2, d2, e2⟩ := rowsR_vals h2 u2
 have hrv : RVs w (some ⟨g, 0, none⟩) 2 [vs1, vs2] := ⟨rfl, by decide, fun _ => ⟨g, 0, rfl, hb.lt, fun k hk => by
  have hc := hb.cell (0 + k)
  rcases (by omega : k = 0 ∨ k = 1) with rfl | rfl
  · exact ⟨A1, n1, c1, hc, a1, d1, rows_one b1, e1⟩
  exact ⟨A2, n2, c2, hc, a2, d2, rows_one b2, e2⟩⟩⟩
 have hfl : [vs1, vs2].flatten = vs1 ++ vs2 := by simp
 have h := concatR_any (c := 2) hrv (by rw [hfl, List.length_append]; omega)
 rw [hfl] at h
 refine h.mono ?_
 rintro e w' ⟨hB, A, c, rfl, ho⟩
 have hr : RowsC (· < w'.heap.size) w' (vs1 ++ vs2) (L1 ++ L2) := RowsC.keep (fun q hq => ⟨Nat.lt_of_lt_of_le hq hB.size, fun o => hB.cell (p := ⟨q, o, none⟩) hq⟩) (RowsC.app b1 b2)
 exact ⟨hB, A, _, c, rfl, own_rowsQ ho hr.len (by rw [List.length_append]; omega) hr (fun q hq => hq) (fun q hq => (ownsRow_block ho hq).2.1), own_nulT ho⟩
end Go.Proofs.Ytjoddliplahgkaa
