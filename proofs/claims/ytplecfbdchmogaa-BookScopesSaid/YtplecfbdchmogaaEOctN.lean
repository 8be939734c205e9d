/- Bytes that are read: a reader's block; what is left; the next number (octet). -/
import Derived.Test.YtplecfbdchmogaaEOctW
import Derived.Deep.QuietTactic
import Derived.BigQuiet
import Derived.WalkLawsBesides
import Derived.WalkSpells
namespace Go.Proofs.Ytplecfbdchmogaa
open Go.Lib (hid)
set_option maxHeartbeats 8000000
set_option maxRecDepth 100000
open Go.RowKit
theorem BytR.cutAt {R : Nat → Prop} {w : World} {A : Option Addr} {n c : Nat} {bs : List Nat} (h : BytR R w A n c bs) {k : Nat} (hk : k ≤ n) :
 BytR R w (if c = k then A else A.map (·.add k)) (n - k) (c - k) (bs.drop k) := by
 refine ⟨by rw [List.length_drop, h.len], by have := h.cap; omega, by have := h.few; omega, fun e => ?_, fun x hx => h.byte x (List.mem_of_mem_drop hx), fun hn => ?_⟩
 · split at e
   · omega
   have := h.nul (by simpa using e); omega
 obtain ⟨b, off, rfl, hb, hc⟩ := h.mem (by omega)
 have := h.cap
 rw [if_neg (by omega)]
 refine ⟨b, off + k, ?_, hb, ?_⟩
 · simp only [Option.map_some, Addr.add]
   split
   · rename_i h0; rw [h0, Nat.add_zero]
   rfl
 intro j hj
 have := hc (k + j) (by omega)
 rw [Nat.add_assoc, this]
 simp [List.getD_eq_getElem?_getD]
theorem size_u8 (w : World) : (sizeOf 5).run Try.prog w = .ok 1 w := by kernel_rfl
theorem cutB (A : Option Addr) (n c k : Nat) (hk : k ≤ n) : ∃ A', (∀ w : World, (Instr.slice 34 (.slice A n c) (some (.int .i64 (k : Int))) none none).run Try.prog w = .ok (.slice A' (n - k) (c - k)) w) ∧
 ∀ (R : Nat → Prop) (w : World) (bs : List Nat), BytR R w A n c bs → BytR R w A' (n - k) (c - k) (bs.drop k) := by
 refine ⟨if c = k then A else A.map (·.add (k * 1)), fun w => ?_, fun R w l h => by rw [Nat.mul_one]; exact h.cutAt hk⟩
 rw [run_slice_l w 34 A n c (by kernel_rfl) .i64 (k : Int) (by omega) (by omega)]
 have e : Try.prog.elem 34 = 5 := by kernel_rfl
 rw [e, size_u8]
 rfl
structure RdS (R : Nat → Prop) (w0 : World) (g : Nat) (A : Option Addr) (n c : Nat) (bs : List Nat) (k : Nat) (z : Int) (w : World) : Prop where
 bel : Below w0.heap.size w0 w
 blk : Blk w g 119 #[.slice A n c, .int .i64 (k : Int), .int .i64 z]
 ge : w0.heap.size ≤ g
 byt : BytR R w A n c bs
 off : ∀ q, R q → q < w.heap.size ∧ q ≠ g
 le : k ≤ n
section
variable {R : Nat → Prop} {w0 w w' : World} {g n c k : Nat} {A : Option Addr} {bs : List Nat} {z : Int}
theorem RdS.lt (h : RdS R w0 g A n c bs k z w) : g < w.heap.size := h.blk.lt
theorem RdS.below (h : RdS R w0 g A n c bs k z w) (hb : Below w.heap.size w w') : RdS R w0 g A n c bs k z w' :=
 ⟨h.bel.trans (hb.mono h.bel.size), h.blk.below hb h.blk.lt, h.ge, h.byt.keep fun q hq => ⟨hq, fun o => hb.cell (p := ⟨q, o, none⟩) (h.off q hq).1⟩, fun q hq => ⟨Nat.lt_of_lt_of_le (h.off q hq).1 hb.size, (h.off q hq).2⟩, h.le⟩
theorem RdS.set_ (h : RdS R w0 g A n c bs k z w) (i : Nat) (u : Value) : BytR R (w.setCell ⟨g, i, none⟩ u) A n c bs ∧ (∀ q, R q → q < (w.setCell ⟨g, i, none⟩ u).heap.size ∧ q ≠ g) ∧ Below w0.heap.size w0 (w.setCell ⟨g, i, none⟩ u) :=
 ⟨h.byt.keep fun q hq => ⟨hq, fun o => cell_of_heap (Below.heap_setCell w ⟨g, i, none⟩ u q (h.off q hq).2) o⟩, fun q hq => ⟨by simpa [World.setCell] using (h.off q hq).1, (h.off q hq).2⟩, h.bel.setCell h.ge u⟩
theorem RdS.at_ (h : RdS R w0 g A n c bs k z w) {k' : Nat} (hk : k' ≤ n) : RdS R w0 g A n c bs k' z (w.setCell ⟨g, 1, none⟩ (.int .i64 (k' : Int))) := by
 obtain ⟨h1, h2, h3⟩ := h.set_ 1 (.int .i64 (k' : Int))
 exact ⟨h3, by simpa using h.blk.set_ 1 (.int .i64 (k' : Int)), h.ge, h1, h2, hk⟩
theorem RdS.err (h : RdS R w0 g A n c bs k z w) (z' : Int) : RdS R w0 g A n c bs k z' (w.setCell ⟨g, 2, none⟩ (.int .i64 z')) := by
 obtain ⟨h1, h2, h3⟩ := h.set_ 2 (.int .i64 z')
 exact ⟨h3, by simpa using h.blk.set_ 2 (.int .i64 z'), h.ge, h1, h2, h.le⟩
theorem moved_set (w : World) (g i : Nat) (u : Value) : Moved (fun q => q = g) none w (w.setCell ⟨g, i, none⟩ u) := Moved.setCell (S := fun q => q = g) (Moved.refl _ _ _) (p := ⟨g, i, none⟩) rfl _
def RdE (R : Nat → Prop) (w0 : World) (g : Nat) (A : Option Addr) (n c : Nat) (bs : List Nat) (q : Rd) (w w' : World) : Prop :=
 Moved (fun q => q = g) none w w' ∧ ∃ k z, RdS R w0 g A n c bs k z w' ∧ q.rest = bs.drop k ∧ q.err = z
end
theorem left_any {R : Nat → Prop} {w0 w : World} {g n c k : Nat} {A : Option Addr} {bs : List Nat} {z : Int} (h : RdS R w0 g A n c bs k z w) :
 Calls Try.prog 72 #[.pointer (some ⟨g, 0, none⟩)] w (fun e w' => Below w.heap.size w w' ∧ ∃ A' c', e = .returned (.slice A' (n - k) c') ∧ BytR R w' A' (n - k) c' (bs.drop k)) := by
 obtain ⟨A', hcut, hread⟩ := cutB A n c k h.le
 have HR := hid hread
 have HY := hid h.byt
 have z0 := h.blk.cell 0
 have z1 := h.blk.cell 1
 have hkn := h.le
 have hcap := h.byt.cap
 have hfew := h.byt.few
 clear hread h
 go_in
 go_wp2_with fail
 go_quiet (fail)
 go_wp2_with fail
 go_ret
 refine ⟨below_drewN (Below.refl _ _) _, A', c - k, rfl, ?_⟩
 exact HR.out R _ _ (HY.out.keep fun q hq => ⟨hq, fun o => rfl⟩)
theorem and127 : ∀ x : Fin 256, bits .and .u8 (x.val : Int) 127 = ((x.val % 128 : Nat) : Int) := by decide +kernel
theorem and_byte {x : Nat} (h : x < 256) : bits .and .u8 (x : Int) 127 = ((x % 128 : Nat) : Int) := and127 ⟨x, h⟩
theorem rdNext_bad {most : Nat} {l : List Nat} {o : Bool} {r : Int} {v j : Nat} (hr : r ≠ 0) (h : nextF most 0 0 l = (r, v, j)) : rdNext most ⟨l, 0, o⟩ = (0, ⟨l, r, o⟩) := by
 unfold rdNext
 simp only [h]
 rw [if_neg (by decide), if_pos hr]
theorem rdNext_good {most : Nat} {l : List Nat} {o : Bool} {v j : Nat} (h : nextF most 0 0 l = (0, v, j)) : rdNext most ⟨l, 0, o⟩ = (v, ⟨l.drop j, 0, o⟩) := by
 unfold rdNext
 simp only [h]
 rw [if_neg (by decide), if_neg (by decide)]
theorem nextF_at {most i N : Nat} {l : List Nat} (h : i < l.length) : nextF most i N (l.drop i) = nextF most i N (l.getD i 0 :: l.drop (i + 1)) := by
 rw [List.drop_eq_getElem_cons h, List.getD_eq_getElem?_getD, List.getElem?_eq_getElem h]
 rfl
theorem rdE_err {R : Nat → Prop} {w0 w w1 : World} {g n c k : Nat} {A : Option Addr} {bs : List Nat} {q : Rd} {e : Int} {o : Bool} (hb : Below w.heap.size w w1) (h : RdS R w0 g A n c bs k 0 w1) (hq : q = ⟨bs.drop k, e, o⟩) : RdE R w0 g A n c bs q w (w1.setCell ⟨g, 2, none⟩ (.int .i64 e)) := by
 subst hq
 exact ⟨(Moved.of_below hb).trans (row' := none) (moved_set _ _ _ _) (fun _ e => by cases e), k, e, h.err e, rfl, rfl⟩
theorem rdE_at {R : Nat → Prop} {w0 w w1 : World} {g n c k j : Nat} {A : Option Addr} {bs : List Nat} {q : Rd} {o : Bool} (hb : Below w.heap.size w w1) (h : RdS R w0 g A n c bs k 0 w1) (hj : k + j ≤ n) (hq : q = ⟨(bs.drop k).drop j, 0, o⟩) : RdE R w0 g A n c bs q w (w1.setCell ⟨g, 1, none⟩ (.int .i64 ((k + j : Nat) : Int))) := by
 subst hq
 exact ⟨(Moved.of_below hb).trans (row' := none) (moved_set _ _ _ _) (fun _ e => by cases e), k + j, 0, h.at_ hj, by rw [List.drop_drop], rfl⟩
theorem pow7 {i P : Nat} (hi : i ≤ 9) (hP : P = 2 ^ (7 * i)) : 1 ≤ P ∧ P ≤ 9223372036854775808 ∧ (i ≤ 8 → P ≤ 72057594037927936) ∧ (i = 9 → P = 9223372036854775808) := by
 subst hP
 refine ⟨Nat.pos_of_ne_zero (by simp), ?_, ?_, ?_⟩
 · exact Nat.le_trans (Nat.pow_le_pow_right (by decide) (show 7 * i ≤ 63 from by omega)) (by decide)
 · intro h
   exact Nat.le_trans (Nat.pow_le_pow_right (by decide) (show 7 * i ≤ 56 from by omega)) (by decide)
 rintro rfl
 rfl
theorem onext_any {R : Nat → Prop} {w0 w : World} {g n c k : Nat} {A : Option Addr} {bs : List Nat} {z : Int} (h : RdS R w0 g A n c bs k z w) (o : Bool) (most : Nat) (hm : most < 18446744073709551616) :
 Calls Try.prog 96 #[.pointer (some ⟨g, 0, none⟩), .int .u64 (most : Int)] w (fun e w' => e = .returned (.int .u64 ((rdNext most ⟨bs.drop k, z, o⟩).1 : Nat)) ∧ RdE R w0 g A n c bs (rdNext most ⟨bs.drop k, z, o⟩).2 w w') := by
 have z0 := h.blk.cell 0
 have z1 := h.blk.cell 1
 have z2 := h.blk.cell 2
 have f0 := h.blk.frozen 1
 have f1 := h.blk.frozen 2
 have hkn := h.le
 have HS := hid h
 have HLT := hid h.lt
 by_cases hz : z = 0
 rotate_left
 · have dz : (z != 0) = true := by simpa using hz
   have e : rdNext most ⟨bs.drop k, z, o⟩ = (0, ⟨bs.drop k, z, o⟩) := rdNext_err hz
   rw [e]
   clear hz h e
   go_in
   go_wp2_with fail
   go_ret
   exact ⟨rfl, Moved.refl _ _ _, k, z, HS.out, rfl, rfl⟩
 subst hz
 obtain ⟨q, hq⟩ : ∃ q, q = rdNext most ⟨bs.drop k, 0, o⟩ := ⟨_, rfl⟩
 rw [← hq]
 have HQ := hid hq
 clear hq
 have HL := hid (left_any h)
 clear h
 go_in
 go_wp2_with fail
 refine (HL.out).mono ?_
 rintro e w1 ⟨hb1, A', c', rfl, hy1⟩
 have HB1 := hid hb1
 have HY1 := hid hy1
 have HS1 := hid (HS.out.below hb1)
 obtain ⟨m, hm0⟩ : ∃ m, m = n - k := ⟨_, rfl⟩
 rw [← hm0] at HY1 ⊢
 have hml := hy1.len
 rw [← hm0] at hml
 obtain ⟨l, hl⟩ : ∃ l, l = bs.drop k := ⟨_, rfl⟩
 rw [← hl] at HY1 HQ hml
 have hmf : m ≤ 140737488355328 := by have := hy1.few; omega
 have hkf : k ≤ 140737488355328 := by have := HS.out.byt.few; omega
 clear z0 z1 z2 f0 f1
 have z1 := HS1.out.blk.cell 1
 have z2 := HS1.out.blk.cell 2
 have f1 := HS1.out.blk.frozen 1
 have f2 := HS1.out.blk.frozen 2
 have HM := hid hm0
 have HLE := hid hl
 have HML := hid hml
 clear hb1 hy1 hm0 hl hml
 go_wp2_with fail
 go_loop [5, 20] (fun nv iv => ∃ i N : Nat, nv = .int .u64 (N : Int) ∧ iv = .int .i64 (i : Int) ∧ i ≤ m ∧ i ≤ 9 ∧ N ≤ most ∧ Hid (N < 2 ^ (7 * i)) ∧ Hid (nextF most 0 0 l = nextF most i N (l.drop i))) (fun _ iv => m - (intOf iv).toNat)
 case atStart => exact ⟨0, 0, rfl, rfl, Nat.zero_le _, by omega, Nat.zero_le _, hid (by decide), hid rfl⟩
 case round =>
  obtain ⟨i, N, rfl, rfl, hi, hi9, hN, HN, HF⟩ := hrel
  by_cases him : i < m
  rotate_left
  · have him2 : i = m := by omega
    have d1 : decide ((i : Int) < (m : Int)) = false := decide_eq_false (by omega)
    have d2 : decide (i < m) = false := decide_eq_false him
    have e0 : l.drop i = [] := List.drop_eq_nil_of_le (by have := HML.out; omega)
    have HF2 : Hid (nextF most 0 0 l = (4, 0, 0)) := hid (by rw [HF.out, e0]; rfl)
    have HQ2 : Hid (q = (0, ⟨l, 4, o⟩)) := hid (HQ.out.trans (rdNext_bad (by decide) HF2.out))
    clear him2 e0
    go_wp2_with fail
    go_ret
    rw [HQ2.out]
    exact ⟨rfl, rdE_err HB1.out HS1.out (by rw [HLE.out])⟩
  have d1 : decide ((i : Int) < (m : Int)) = true := decide_eq_true (by omega)
  have d2 : decide (i < m) = true := decide_eq_true him
  obtain ⟨b, off, e, hR, hc⟩ := HY1.out.mem (by omega)
  subst e
  have hci := hc i him
  clear hc
  have hil : i < l.length := by have := HML.out; omega
  have HF2 := hid (HF.out.trans (nextF_at hil))
  obtain ⟨x, hx⟩ : ∃ x, x = l.getD i 0 := ⟨_, rfl⟩
  have hxb : x < 256 := by
   rw [hx, List.getD_eq_getElem?_getD, List.getElem?_eq_getElem hil]
   exact HY1.out.byte _ (List.getElem_mem hil)
  rw [← hx] at hci HF2
  clear hx hil HF
  obtain ⟨P, hP⟩ : ∃ P : Nat, P = 2 ^ (7 * i) := ⟨_, rfl⟩
  obtain ⟨hP1, hP2, hP3, hP4⟩ := pow7 hi9 hP
  have hNP : N < P := by rw [hP]; exact HN.out
  have hpi : (2 : Int) ^ (7 * (i : Int)).toNat = (P : Int) := by
   rw [hP, show (7 * (i : Int)).toNat = 7 * i from by omega]
   exact_mod_cast rfl
  have hp7 : (2 : Int) ^ (7 * i + 7) = ((128 * P : Nat) : Int) := by
   rw [hP, Int.pow_add]
   norm_cast
   omega
  have HP2 : Hid (2 ^ (7 * i + 7) = 128 * P) := hid (by rw [hP, Nat.pow_add]; omega)
  have HP := hid hP.symm
  clear hP HN
  obtain ⟨y, hy⟩ : ∃ y, y = x % 128 := ⟨_, rfl⟩
  have hand : bits BinOp.and IntKind.u8 (x : Int) 127 = (y : Int) := by rw [hy]; exact and_byte hxb
  have HY := hid hy.symm
  have hy7 : y ≤ 127 := by omega
  have hw0 : IntKind.u64.wrap (y : Int) = (y : Int) := by rw [IntKind.wrap_u64]; omega
  simp only [nextF] at HF2
  rw [HP.out, HP2.out, HY.out] at HF2
  -- the part does not fit
  by_cases hA : i = 9 ∧ 1 < y
  · obtain ⟨T, hT⟩ : ∃ T : Nat, T = y * P % 18446744073709551616 := ⟨_, rfl⟩
    have hmul : IntKind.u64.wrap ((y : Int) * (P : Int)) = (T : Int) := by
     obtain ⟨v, hv⟩ : ∃ v, v = y * P := ⟨_, rfl⟩
     rw [← Int.natCast_mul, hT, ← hv, IntKind.wrap_u64]
     omega
    have hPv := hP4 hA.1
    have hD : T / P ≠ y := by rw [hT, hPv]; omega
    have hdiv : (T : Int) / (P : Int) = ((T / P : Nat) : Int) := by norm_cast
    have dD : (((T / P : Nat) : Int) != (y : Int)) = true := by
     have : ((T / P : Nat) : Int) ≠ (y : Int) := fun h => hD (by exact_mod_cast h)
     simpa using this
    obtain ⟨D, hDD⟩ : ∃ D : Nat, D = T / P := ⟨_, rfl⟩
    rw [← hDD] at hdiv dD
    have HF3 : Hid (nextF most 0 0 l = (3, 0, 0)) := hid (by rw [HF2.out, if_pos (Or.inl hA)])
    have HQ2 : Hid (q = (0, ⟨l, 3, o⟩)) := hid (HQ.out.trans (rdNext_bad (by decide) HF3.out))
    clear hA hPv hD hT hDD hy
    go_wp2_with fail
    go_ret
    rw [HQ2.out]
    exact ⟨rfl, rdE_err HB1.out HS1.out (by rw [HLE.out])⟩
  have hyP : y * P < 18446744073709551616 ∧ y * P ≤ 9223372036854775808 := by
   by_cases h9 : i = 9
   · have : y ≤ 1 := by omega
     have h1 : y * P ≤ 1 * P := Nat.mul_le_mul_right _ this
     omega
   have h1 : y * P ≤ 127 * P := Nat.mul_le_mul_right _ hy7
   have := hP3 (by omega)
   omega
  obtain ⟨T, hT⟩ : ∃ T : Nat, T = y * P := ⟨_, rfl⟩
  rw [← hT] at HF2 hyP
  have hmul : IntKind.u64.wrap ((y : Int) * (P : Int)) = (T : Int) := by
   have e : (y : Int) * (P : Int) = (T : Int) := by rw [hT]; norm_cast
   rw [e, IntKind.wrap_u64]
   omega
  have hdiv : (T : Int) / (P : Int) = (y : Int) := by
   rw [hT]
   norm_cast
   exact Nat.mul_div_cancel _ hP1
  obtain ⟨S, hS⟩ : ∃ S : Nat, S = N + T := ⟨_, rfl⟩
  have hSb : S < 18446744073709551616 := by omega
  have hadd : IntKind.u64.wrap ((N : Int) + (T : Int)) = (S : Int) := by rw [IntKind.wrap_u64]; omega
  have HT : Hid (S < 128 * P ∨ i = 9) := hid (by
   by_cases h9 : i = 9
   · exact .inr h9
   have h1 : y * P ≤ 127 * P := Nat.mul_le_mul_right _ hy7
   left; omega)
  rw [← hS] at HF2
  clear hT hS hyP hy
  by_cases hB : most < S
  · have dB : decide ((most : Int) < (S : Int)) = true := decide_eq_true (by omega)
    have dB2 : decide (most < S) = true := decide_eq_true hB
    have dB3 : decide ((S : Int) > (most : Int)) = true := decide_eq_true (by omega)
    have HF3 : Hid (nextF most 0 0 l = (3, 0, 0)) := hid (by rw [HF2.out, if_pos (Or.inr (Or.inl hB))])
    have HQ2 : Hid (q = (0, ⟨l, 3, o⟩)) := hid (HQ.out.trans (rdNext_bad (by decide) HF3.out))
    clear hA
    go_wp2_with fail
    go_ret
    rw [HQ2.out]
    exact ⟨rfl, rdE_err HB1.out HS1.out (by rw [HLE.out])⟩
  have dB : decide ((most : Int) < (S : Int)) = false := decide_eq_false (by omega)
  have dB2 : decide (most < S) = false := decide_eq_false hB
  have dB3 : decide ((S : Int) > (most : Int)) = false := decide_eq_false (by omega)
  by_cases hC : 0 < i ∧ x = 0
  · have dC : decide ((i : Int) > 0) = true := decide_eq_true (by omega)
    have dC2 : decide (0 < i) = true := decide_eq_true hC.1
    have dC3 : ((x : Int) == 0) = true := by rw [hC.2]; rfl
    have HF3 : Hid (nextF most 0 0 l = (3, 0, 0)) := hid (by rw [HF2.out, if_pos (Or.inr (Or.inr hC))])
    have HQ2 : Hid (q = (0, ⟨l, 3, o⟩)) := hid (HQ.out.trans (rdNext_bad (by decide) HF3.out))
    clear hA hC
    go_wp2_with fail
    go_ret
    rw [HQ2.out]
    exact ⟨rfl, rdE_err HB1.out HS1.out (by rw [HLE.out])⟩
  have HF4 := hid (HF2.out.trans (if_neg (show ¬ ((i = 9 ∧ 1 < y) ∨ most < S ∨ 0 < i ∧ x = 0) from by
   rintro (h | h | h)
   · exact hA h
   · exact hB h
   exact hC h)))
  clear HF2
  by_cases hE : x < 128
  · have dE : decide ((x : Int) < 128) = true := decide_eq_true (by omega)
    have dE2 : decide (x < 128) = true := decide_eq_true hE
    have HF3 : Hid (nextF most 0 0 l = (0, S, i + 1)) := hid (by rw [HF4.out, if_pos hE])
    have HQ2 : Hid (q = (S, ⟨l.drop (i + 1), 0, o⟩)) := hid (HQ.out.trans (rdNext_good HF3.out))
    have HSUM : Hid ((k : Int) + ((i : Int) + 1) = ((k + (i + 1) : Nat) : Int)) := hid (by omega)
    have HKN : Hid (k + (i + 1) ≤ n) := hid (by have := HM.out; omega)
    by_cases hi0 : 0 < i
    case' pos =>
     have dC : decide ((i : Int) > 0) = true := decide_eq_true (by omega)
     have dC2 : decide (0 < i) = true := decide_eq_true hi0
     have dC3 : ((x : Int) == 0) = false := by
      have : x ≠ 0 := fun h => hC ⟨hi0, h⟩
      have : (x : Int) ≠ 0 := by omega
      simpa using this
    case' neg =>
     have dC : decide ((i : Int) > 0) = false := decide_eq_false (by omega)
     have dC2 : decide (0 < i) = false := decide_eq_false hi0
    all_goals
     clear hA hC hi0
     go_wp2_with fail
     go_ret
     rw [HQ2.out]
     refine ⟨rfl, ?_⟩
     rw [HSUM.out]
     exact rdE_at HB1.out HS1.out HKN.out (by rw [HLE.out])
  have dE : decide ((x : Int) < 128) = false := decide_eq_false (by omega)
  have dE2 : decide (x < 128) = false := decide_eq_false hE
  have HF5 := hid (HF4.out.trans (if_neg hE))
  clear HF4
  have hx0 : ¬ x = 0 := by omega
  have dx0 : ((x : Int) == 0) = false := by
   have : (x : Int) ≠ 0 := by omega
   simpa using this
  obtain ⟨d, hd⟩ : ∃ d : Nat, d = most - S := ⟨_, rfl⟩
  have hsub : IntKind.u64.wrap ((most : Int) - (S : Int)) = (d : Int) := by rw [IntKind.wrap_u64]; omega
  have HD := hid hd.symm
  rw [HD.out] at HF5
  clear hd
  by_cases h9 : i = 9
  · have g9 : decide ((7 * (i : Int) + 7) > 63) = true := decide_eq_true (by omega)
    have g92 : decide (63 < (7 * (i : Int) + 7)) = true := decide_eq_true (by omega)
    have HF3 : Hid (nextF most 0 0 l = (3, 0, 0)) := hid (by rw [HF5.out, if_pos (Or.inl (by omega))])
    have HQ2 : Hid (q = (0, ⟨l, 3, o⟩)) := hid (HQ.out.trans (rdNext_bad (by decide) HF3.out))
    have HI0 : decide ((i : Int) > 0) = true := decide_eq_true (by omega)
    have HI1 : decide (0 < i) = true := decide_eq_true (by omega)
    clear hA hC h9
    go_wp2_with fail
    go_ret
    rw [HQ2.out]
    exact ⟨rfl, rdE_err HB1.out HS1.out (by rw [HLE.out])⟩
  have hP56 := hP3 (by omega)
  obtain ⟨P2, hP2e⟩ : ∃ P2 : Nat, P2 = 128 * P := ⟨_, rfl⟩
  rw [← hP2e] at hp7 HF5 HT
  have hwp : IntKind.u64.wrap (P2 : Int) = (P2 : Int) := by rw [IntKind.wrap_u64]; omega
  have HPE := hid hP2e
  have g9 : decide ((7 * (i : Int) + 7) > 63) = false := decide_eq_false (by omega)
  have g92 : decide (63 < (7 * (i : Int) + 7)) = false := decide_eq_false (by omega)
  by_cases hG : d < P2
  · have dG : decide ((d : Int) < (P2 : Int)) = true := decide_eq_true (by omega)
    have dG2 : decide (d < P2) = true := decide_eq_true hG
    have HF3 : Hid (nextF most 0 0 l = (3, 0, 0)) := hid (by rw [HF5.out, if_pos (Or.inr hG)])
    have HQ2 : Hid (q = (0, ⟨l, 3, o⟩)) := hid (HQ.out.trans (rdNext_bad (by decide) HF3.out))
    clear hA hC hP2e
    by_cases hi0 : 0 < i
    case' pos =>
     have dC : decide ((i : Int) > 0) = true := decide_eq_true (by omega)
     have dC2 : decide (0 < i) = true := decide_eq_true hi0
    case' neg =>
     have dC : decide ((i : Int) > 0) = false := decide_eq_false (by omega)
     have dC2 : decide (0 < i) = false := decide_eq_false hi0
    all_goals
     clear hi0
     go_wp2_with fail
     go_ret
     rw [HQ2.out]
     exact ⟨rfl, rdE_err HB1.out HS1.out (by rw [HLE.out])⟩
  have dG : decide ((d : Int) < (P2 : Int)) = false := decide_eq_false (by omega)
  have dG2 : decide (d < P2) = false := decide_eq_false hG
  have HF6 : Hid (nextF most 0 0 l = nextF most (i + 1) S (l.drop (i + 1))) := hid (by rw [HF5.out, if_neg (by rintro (h | h) <;> omega)])
  have HSP : Hid (S < 2 ^ (7 * (i + 1))) := hid (by
   have e : 2 ^ (7 * (i + 1)) = 128 * P := by rw [← HP2.out, show 7 * (i + 1) = 7 * i + 7 from by omega]
   rcases HT.out with h | h <;> omega)
  clear hA hC hP2e hB HT
  by_cases hi0 : 0 < i
  case' pos =>
   have dC : decide ((i : Int) > 0) = true := decide_eq_true (by omega)
   have dC2 : decide (0 < i) = true := decide_eq_true hi0
  case' neg =>
   have dC : decide ((i : Int) > 0) = false := decide_eq_false (by omega)
   have dC2 : decide (0 < i) = false := decide_eq_false hi0
  all_goals
   clear hi0
   go_wp2_with fail
   go_round
   case rel => exact ⟨i + 1, S, rfl, by go_num, by omega, by omega, by have := decide_eq_false_iff_not.1 dB2; omega, HSP, HF6⟩
   case measure => simp [intOf]; omega
end Go.Proofs.Ytplecfbdchmogaa
