/- Merged: RowsD, CopyT. -/
import Derived.Test.YtjllmblbbgojbaaKBase
import Derived.Test.YtjllmblbbgojbaaKBooks
import Derived.Test.YtjllmblbbgojbaaKLeafs
import Derived.Test.YtjllmblbbgojbaaKHeads
namespace Go.Proofs.Ytjllmblbbgojbaa
section
open Go.RowKit
structure RowsR (R : Nat → Prop) (w : World) (A : Option Addr) (n c : Nat) (ls : List (List Nd)) : Prop where
 len : ls.length = n
 few : n ≤ 5864062014805
 mem : 0 < n → ∃ b off, A = some ⟨b, off, none⟩ ∧ R b ∧ ∀ k, k < n → ∃ A' n' c', w.cell? ⟨b, off + k, none⟩ = some (.slice A' n' c') ∧ TermR R w A' n' c' (ls.getD k [])
theorem RowsR.keep {R R' : Nat → Prop} {w w' : World} {A : Option Addr} {n c : Nat} {ls : List (List Nd)} (h : RowsR R w A n c ls) (hR : ∀ b, R b → R' b ∧ ∀ o, w'.cell? ⟨b, o, none⟩ = w.cell? ⟨b, o, none⟩) : RowsR R' w' A n c ls := by
 refine ⟨h.len, h.few, fun hn => ?_⟩
 obtain ⟨b, off, e, hb, hk⟩ := h.mem hn
 refine ⟨b, off, e, (hR b hb).1, fun k hkn => ?_⟩
 obtain ⟨A', n', c', hc, ht⟩ := hk k hkn
 exact ⟨A', n', c', by rw [(hR b hb).2]; exact hc, ht.keep hR⟩
def RowsC (S : Nat → Prop) (w : World) : List Value → List (List Nd) → Prop
 | [], [] => True
 | x :: xs, l :: ls => (∃ A n c, x = .slice A n c ∧ TermR S w A n c l) ∧ RowsC S w xs ls
 | _, _ => False
theorem RowsC.keep {S S' : Nat → Prop} {w w' : World} (hS : ∀ b, S b → S' b ∧ ∀ o, w'.cell? ⟨b, o, none⟩ = w.cell? ⟨b, o, none⟩) : ∀ {xs : List Value} {ls : List (List Nd)}, RowsC S w xs ls → RowsC S' w' xs ls
 | [], [], _ => trivial
 | [], _ :: _, h => h.elim
 | _ :: _, [], h => h.elim
 | x :: xs, l :: ls, h => by
  obtain ⟨⟨A, n, c, e, ht⟩, h2⟩ := h
  exact ⟨⟨A, n, c, e, ht.keep hS⟩, h2.keep hS⟩
theorem RowsC.add {S : Nat → Prop} {w : World} {A : Option Addr} {n c : Nat} {m : List Nd} (ht : TermR S w A n c m) : ∀ {xs : List Value} {ls : List (List Nd)}, RowsC S w xs ls → RowsC S w (xs ++ [.slice A n c]) (ls ++ [m])
 | [], [], _ => ⟨⟨A, n, c, rfl, ht⟩, trivial⟩
 | [], _ :: _, h => h.elim
 | _ :: _, [], h => h.elim
 | _ :: _, _ :: _, h => ⟨h.1, h.2.add ht⟩
theorem RowsC.at_ {S : Nat → Prop} {w : World} : ∀ {xs : List Value} {ls : List (List Nd)} (k : Nat), RowsC S w xs ls → k < ls.length → ∃ A n c, xs[k]? = some (.slice A n c) ∧ TermR S w A n c (ls.getD k [])
 | [], [], _, _, hk => absurd hk (by simp)
 | [], _ :: _, _, h, _ => h.elim
 | _ :: _, [], _, h, _ => h.elim
 | x :: xs, l :: ls, 0, h, _ => by
  obtain ⟨⟨A, n, c, e, ht⟩, _⟩ := h
  exact ⟨A, n, c, by simp [e], ht⟩
 | x :: xs, l :: ls, k + 1, h, hk => by
  obtain ⟨A, n, c, e, ht⟩ := RowsC.at_ k h.2 (by simpa using hk)
  exact ⟨A, n, c, by simpa using e, by simpa using ht⟩
theorem own_rows {w : World} {base n c : Nat} {A : Option Addr} {xs : List Value} {ls : List (List Nd)} {S : Nat → Prop} (h : w.ownsRow base 28 1 (.slice A n c) n xs) (hn : n = ls.length) (hf : n ≤ 5864062014805) (hr : RowsC S w xs ls) (hS : ∀ b, S b → b < w.heap.size) : RowsR (· < w.heap.size) w A n c ls := by
 refine ⟨hn.symm, hf, fun hpos => ?_⟩
 have h0 := h
 obtain ⟨_, hcase⟩ := h
 rcases hcase with ⟨_, h2⟩ | ⟨g, cap', cur, hv, hg, hh, _⟩
 · omega
 injection hv with e1 e2 e3
 subst e1
 refine ⟨g, 0, rfl, (ownsRow_block h0 rfl).2.1, fun k hk => ?_⟩
 obtain ⟨A', n', c', hx, ht⟩ := hr.at_ k (by omega)
 refine ⟨A', n', c', ?_, ht.keep fun b hb => ⟨hS b hb, fun _ => rfl⟩⟩
 rw [Nat.zero_add, h0.cellAt k (by omega)]
 exact hx
def Aside (B : Nat) (w : World) (v : Value) (b : Nat) : Prop := B ≤ b ∧ b < w.heap.size ∧ v.ownBlock ≠ some b
theorem own_rowsQ {w : World} {base n c : Nat} {A : Option Addr} {xs : List Value} {ls : List (List Nd)} {S R : Nat → Prop} (h : w.ownsRow base 28 1 (.slice A n c) n xs) (hn : n = ls.length) (hf : n ≤ 5864062014805) (hr : RowsC S w xs ls) (hS : ∀ b, S b → R b) (hv : ∀ g, (Value.slice A n c).ownBlock = some g → R g) : RowsR R w A n c ls := by
 refine ⟨hn.symm, hf, fun hpos => ?_⟩
 have h0 := h
 obtain ⟨_, hcase⟩ := h
 rcases hcase with ⟨_, h2⟩ | ⟨g, cap', cur, hv2, hg, hh, _⟩
 · omega
 injection hv2 with e1 e2 e3
 subst e1
 refine ⟨g, 0, rfl, hv g rfl, fun k hk => ?_⟩
 obtain ⟨A', n', c', hx, ht⟩ := hr.at_ k (by omega)
 refine ⟨A', n', c', ?_, ht.keep fun b hb => ⟨hS b hb, fun _ => rfl⟩⟩
 rw [Nat.zero_add, h0.cellAt k (by omega)]
 exact hx
end
section
open Go.Lib (hid)
set_option maxHeartbeats 4000000
set_option maxRecDepth 100000
set_option linter.unusedVariables false
set_option linter.unusedSimpArgs false
open Go.RowKit
def CopyP (l : List Nd) (w : World) (e : Ending) (w' : World) : Prop := Below w.heap.size w w' ∧ ∃ A c, e = .returned (.slice A l.length c) ∧ OwnN w' w.heap.size (.slice A l.length c) l
theorem copy_any {A : Option Addr} {n c : Nat} {l : List Nd} {w : World} (h : TermV w A n c l) :
 Calls Try.prog 10 #[.slice A n c] w (CopyP l w) := by
 obtain ⟨i0, hi, hy0, hy1, hy2⟩ := info_parts infoN'
 have HI0 := hid hi
 have HY0 := hid hy0
 have HY1 := hid hy1
 have HY2 := hid hy2
 clear hi hy0 hy1 hy2
 have hfew := h.few
 have hln := h.len
 have hb0 := below_alloc w (.cells #[] 34)
 have HM := hid (show TermV (w.alloc (.cells #[] 34)) A n c l from h.below hb0)
 have HOWN : Hid (OwnN (w.alloc (.cells #[] 34)) w.heap.size (.slice (some ⟨w.heap.size, 0, none⟩) 0 0) []) := hid (World.ownsRow_made w #[] 0 (Nat.le_refl _) (Nat.zero_le _) rfl)
 have HB := hid hb0
 clear hb0 h
 go_in
 go_wp2_with (at_builtin; go_loud (refine wpList_oper rfl (oper_append_row (.tmp 3) (.tmp 4) 28 28 rfl w.heap.size i0 Try.underlying28 Try.underlying28 HI0.out HY0.out HY1.out HY2.out (.slice (some ⟨w.heap.size, 0, none⟩) 0 0) [] l rfl HOWN.out rfl HM.out (by simpa using hfew) (by simp) ?_)); intro A4 c4 w4 hown4 happ4)
 go_ret
 simp only [List.length_nil, Nat.zero_add, List.nil_append] at hown4
 subst hln
 exact ⟨HB.out.grown happ4.grown HB.out.size (fun g hg => (ownsRow_block HOWN.out hg).1), A4, c4, by simp, hown4⟩
theorem own_termF {w w' : World} {A : Option Addr} {n c : Nat} {l : List Nd} (h : OwnN w' w.heap.size (.slice A n c) l) (hl : l.length ≤ 5864062014805) : TermR (fun g => w.heap.size ≤ g ∧ g < w'.heap.size) w' A n c l := by
 obtain ⟨A', n', c', e, ht⟩ := OwnN.termS h hl
 injection e with e1 e2 e3
 subst e1 e2 e3
 exact ht.keep fun b hb => ⟨⟨(ownsRow_block h hb).1, (ownsRow_block h hb).2.1⟩, fun _ => rfl⟩
def CRowsP (ls : List (List Nd)) (w : World) (e : Ending) (w' : World) : Prop := Below w.heap.size w w' ∧ ∃ A n c, e = .returned (.slice A n c) ∧ RowsR (fun g => w.heap.size ≤ g ∧ g < w'.heap.size) w' A n c ls
theorem copyRows_any {A : Option Addr} {n c : Nat} {ls : List (List Nd)} {w : World} (h : RowsV w A n c ls) (hn : n ≤ 1000000) :
 Calls Try.prog 28 #[.slice A n c] w (CRowsP ls w) := by
 obtain ⟨i0, hi, hy0, hy1, hy2⟩ := info_parts infoR
 have HI0 := hid hi
 have HY0 := hid hy0
 have HY1 := hid hy1
 have HY2 := hid hy2
 have HR := hid h
 have HL := hid h.len
 clear hi hy0 hy1 hy2 h
 go_in
 go_wp2_with fail
 go_loopw [3, 4] (fun ov iv wr => ∃ (i d : Nat) (B : Option Addr) (vs : List Value), ov = .slice B i d ∧ iv = .int .i64 (i : Int) ∧ i ≤ n ∧ Hid (wr.ownsRow w.heap.size 28 1 (.slice B i d) i vs) ∧ Hid (RowsC (Aside w.heap.size wr (.slice B i d)) wr vs (ls.take i)) ∧ Hid (Below w.heap.size w wr)) (fun _ iv _ => n - (intOf iv).toNat)
 case atStart => exact ⟨0, 0, none, [], rfl, rfl, by omega, hid (World.ownsRow_nil _ _ _ _), hid trivial, hid (Below.refl _ _)⟩
 case round =>
  obtain ⟨i, d, B, vs, rfl, rfl, hi, hown, hrows, hbw⟩ := hrel
  have hsz := hbw.out.size
  by_cases hlt : i < n
  rotate_left
  · have y1 : decide ((i : Int) < (n : Int)) = false := decide_eq_false (by omega)
    have y2 : decide (i < n) = false := decide_eq_false hlt
    obtain rfl : i = n := by omega
    have HF : Hid (RowsR (fun g => w.heap.size ≤ g ∧ g < wr.heap.size) wr B i d ls) := hid (by
     have h1 := hrows.out
     rw [List.take_of_length_le (by rw [HL.out]; exact Nat.le_refl _)] at h1
     exact own_rowsQ hown.out HL.out.symm (by omega) h1 (fun q hq => ⟨hq.1, hq.2.1⟩) (fun g hg => ⟨(ownsRow_block hown.out hg).1, (ownsRow_block hown.out hg).2.1⟩))
    clear hlt
    go_wp2_with fail
    go_ret
    exact ⟨hbw.out, B, i, d, rfl, HF.out⟩
  have y1 : decide ((i : Int) < (n : Int)) = true := decide_eq_true (by omega)
  have y2 : decide (i < n) = true := decide_eq_true hlt
  obtain ⟨b, off, A1, n1, c1, rfl, hb, g0, t1⟩ := HR.out.at_ hlt
  have g0r := (hbw.out.cell (p := ⟨b, off + i, none⟩) hb).trans g0
  have htk : ls.take (i + 1) = ls.take i ++ [ls.getD i []] := by
   have hil : i < ls.length := by rw [HL.out]; exact hlt
   rw [List.take_succ_eq_append_getElem hil, List.getD_eq_getElem?_getD, List.getElem?_eq_getElem hil]
   rfl
  have HTK := hid htk
  have hl4 : (ls.getD i []).length ≤ 5864062014805 := by have h1 := t1.len; have h2 := t1.few; omega
  have HC := hid (copy_any (t1.below hbw.out))
  generalize ls.getD i [] = l at *
  clear g0 htk t1
  go_wp2_with fail
  refine (HC.out).mono ?_
  rintro e w3 ⟨hd3, A3, c3, rfl, ho3⟩
  have HB3 := hid (hbw.out.trans (hd3.mono hsz))
  have HO3 := hid (own_below hown.out hd3)
  have hs3 := hd3.size
  have HT3 := hid (own_termF ho3 hl4)
  have HR3 : Hid (RowsC (Aside w.heap.size w3 (.slice B i d)) w3 vs (ls.take i)) := hid (RowsC.keep (fun q hq => ⟨⟨hq.1, Nat.lt_of_lt_of_le hq.2.1 hd3.size, hq.2.2⟩, fun o => hd3.cell (p := ⟨q, o, none⟩) hq.2.1⟩) hrows.out)
  have hnb : ∀ g, (Value.slice B i d).ownBlock = some g → g < wr.heap.size := fun g hg => (ownsRow_block hown.out hg).2.1
  clear hd3 ho3
  go_wp2_with (at_builtin; go_loud (refine wpList_oper rfl (oper_append_one (.tmp 11) (.tmp 17) 49 28 rfl w.heap.size i0 _ 24 Try.underlying49 HI0.out HY0.out HY1.out HY2.out rfl (by decide) (.slice B i d) i vs (.slice A3 l.length c3) rfl w3 rfl rfl HO3.out _ rfl rfl (by omega) (by omega) ?_)); intro A5 c5 w5 happ5)
  have HB5 := hid (HB3.out.grown happ5.grown (by omega) (fun g hg => (ownsRow_block HO3.out hg).1))
  have HO5 := hid happ5.own
  have hs5 := happ5.grown.size
  have hnew : ∀ q, q < w3.heap.size → (Value.slice B i d).ownBlock ≠ some q → (Value.slice A5 (i + 1) c5).ownBlock ≠ some q := fun q hq h1 e => by
   rcases happ5.new q e with h2 | h2
   · exact h1 h2
   omega
  have hcell : ∀ q, q < w3.heap.size → (Value.slice B i d).ownBlock ≠ some q → ∀ o, w5.cell? ⟨q, o, none⟩ = w3.cell? ⟨q, o, none⟩ := fun q hq h1 o => cell_of_heap (happ5.grown.block q hq (fun e => h1 e.symm)) o
  have HR5 : Hid (RowsC (Aside w.heap.size w5 (.slice A5 (i + 1) c5)) w5 (vs ++ [.slice A3 l.length c3]) (ls.take (i + 1))) := hid (by
   rw [HTK.out]
   refine RowsC.add (HT3.out.keep fun q hq => ?_) (RowsC.keep (fun q hq => ⟨⟨hq.1, by have := hq.2.1; omega, hnew q hq.2.1 hq.2.2⟩, hcell q hq.2.1 hq.2.2⟩) HR3.out)
   have hne : (Value.slice B i d).ownBlock ≠ some q := fun e => by have := hnb q e; have := hq.1; omega
   exact ⟨⟨by have := hq.1; omega, by have := hq.2; omega, hnew q hq.2 hne⟩, hcell q hq.2 hne⟩)
  clear happ5 hnew hcell
  go_roundw
  case rel => exact ⟨i + 1, c5, A5, vs ++ [.slice A3 l.length c3], rfl, by go_num, by omega, HO5, HR5, HB5⟩
  case measure => simp [intOf]; omega
end
end Go.Proofs.Ytjllmblbbgojbaa
