/- Slices of rows in memory, and rows of rows that a call makes. -/
import Derived.Test.YtjoddliplahgkaaCBase
namespace Go.Proofs.Ytjoddliplahgkaa
open Go.RowKit
structure RowsR (R : Nat → Prop) (w : World) (A : Option Addr) (n c : Nat) (ls : List (List Nd)) : Prop where
 len : ls.length = n
 few : n ≤ 5864062014805
 mem : 0 < n → ∃ b off, A = some ⟨b, off, none⟩ ∧ R b ∧ ∀ k, k < n → ∃ A' n' c', w.cell? ⟨b, off + k, none⟩ = some (.slice A' n' c') ∧ TermR R w A' n' c' (ls.getD k [])
theorem RowsR.keep {R R' : Nat → Prop} {w w' : World} {A : Option Addr} {n c : Nat} {ls : List (List Nd)} (h : RowsR R w A n c ls) (hR : ∀ b, R b → R' b ∧ ∀ o, w'.cell? ⟨b, o, none⟩ = w.cell? ⟨b, o, none⟩) : RowsR R' w' A n c ls := by
 refine ⟨h.len, h.few, fun hn => ?_⟩
 obtain ⟨b, off, e, hb, hk⟩ := h.mem hn
 refine ⟨b, off, e, (hR b hb).1, fun k hkn => ?_⟩
 obtain ⟨A', n', c', hc, ht⟩ := hk k hkn
 exact ⟨A', n', c', by rw [(hR b hb).2]; exact hc, ht.keep hR⟩
def RowsC (S : Nat → Prop) (w : World) : List Value → List (List Nd) → Prop
 | [], [] => True
 | x :: xs, l :: ls => (∃ A n c, x = .slice A n c ∧ TermR S w A n c l) ∧ RowsC S w xs ls
 | _, _ => False
theorem RowsC.keep {S S' : Nat → Prop} {w w' : World} (hS : ∀ b, S b → S' b ∧ ∀ o, w'.cell? ⟨b, o, none⟩ = w.cell? ⟨b, o, none⟩) : ∀ {xs : List Value} {ls : List (List Nd)}, RowsC S w xs ls → RowsC S' w' xs ls
 | [], [], _ => trivial
 | [], _ :: _, h => h.elim
 | _ :: _, [], h => h.elim
 | x :: xs, l :: ls, h => by
  obtain ⟨⟨A, n, c, e, ht⟩, h2⟩ := h
  exact ⟨⟨A, n, c, e, ht.keep hS⟩, h2.keep hS⟩
theorem RowsC.add {S : Nat → Prop} {w : World} {A : Option Addr} {n c : Nat} {m : List Nd} (ht : TermR S w A n c m) : ∀ {xs : List Value} {ls : List (List Nd)}, RowsC S w xs ls → RowsC S w (xs ++ [.slice A n c]) (ls ++ [m])
 | [], [], _ => ⟨⟨A, n, c, rfl, ht⟩, trivial⟩
 | [], _ :: _, h => h.elim
 | _ :: _, [], h => h.elim
 | _ :: _, _ :: _, h => ⟨h.1, h.2.add ht⟩
theorem RowsC.len {S : Nat → Prop} {w : World} : ∀ {xs : List Value} {ls : List (List Nd)}, RowsC S w xs ls → xs.length = ls.length
 | [], [], _ => rfl
 | [], _ :: _, h => h.elim
 | _ :: _, [], h => h.elim
 | x :: xs, l :: ls, h => by simp [RowsC.len h.2]
theorem RowsC.at_ {S : Nat → Prop} {w : World} : ∀ {xs : List Value} {ls : List (List Nd)} (k : Nat), RowsC S w xs ls → k < ls.length → ∃ A n c, xs[k]? = some (.slice A n c) ∧ TermR S w A n c (ls.getD k [])
 | [], [], _, _, hk => absurd hk (by simp)
 | [], _ :: _, _, h, _ => h.elim
 | _ :: _, [], _, h, _ => h.elim
 | x :: xs, l :: ls, 0, h, _ => by
  obtain ⟨⟨A, n, c, e, ht⟩, _⟩ := h
  exact ⟨A, n, c, by simp [e], ht⟩
 | x :: xs, l :: ls, k + 1, h, hk => by
  obtain ⟨A, n, c, e, ht⟩ := RowsC.at_ k h.2 (by simpa using hk)
  exact ⟨A, n, c, by simpa using e, by simpa using ht⟩
theorem own_rows {w : World} {base n c : Nat} {A : Option Addr} {xs : List Value} {ls : List (List Nd)} {S : Nat → Prop} (h : w.ownsRow base 29 1 (.slice A n c) n xs) (hn : n = ls.length) (hf : n ≤ 5864062014805) (hr : RowsC S w xs ls) (hS : ∀ b, S b → b < w.heap.size) : RowsR (· < w.heap.size) w A n c ls := by
 refine ⟨hn.symm, hf, fun hpos => ?_⟩
 have h0 := h
 obtain ⟨_, hcase⟩ := h
 rcases hcase with ⟨_, h2⟩ | ⟨g, cap', cur, hv, hg, hh, _⟩
 · omega
 injection hv with e1 e2 e3
 subst e1
 refine ⟨g, 0, rfl, (ownsRow_block h0 rfl).2.1, fun k hk => ?_⟩
 obtain ⟨A', n', c', hx, ht⟩ := hr.at_ k (by omega)
 refine ⟨A', n', c', ?_, ht.keep fun b hb => ⟨hS b hb, fun _ => rfl⟩⟩
 rw [Nat.zero_add, h0.cellAt k (by omega)]
 exact hx
def Aside (B : Nat) (w : World) (v : Value) (b : Nat) : Prop := B ≤ b ∧ b < w.heap.size ∧ v.ownBlock ≠ some b
theorem own_rowsQ {w : World} {base n c : Nat} {A : Option Addr} {xs : List Value} {ls : List (List Nd)} {S R : Nat → Prop} (h : w.ownsRow base 29 1 (.slice A n c) n xs) (hn : n = ls.length) (hf : n ≤ 5864062014805) (hr : RowsC S w xs ls) (hS : ∀ b, S b → R b) (hv : ∀ g, (Value.slice A n c).ownBlock = some g → R g) : RowsR R w A n c ls := by
 refine ⟨hn.symm, hf, fun hpos => ?_⟩
 have h0 := h
 obtain ⟨_, hcase⟩ := h
 rcases hcase with ⟨_, h2⟩ | ⟨g, cap', cur, hv2, hg, hh, _⟩
 · omega
 injection hv2 with e1 e2 e3
 subst e1
 refine ⟨g, 0, rfl, hv g rfl, fun k hk => ?_⟩
 obtain ⟨A', n', c', hx, ht⟩ := hr.at_ k (by omega)
 refine ⟨A', n', c', ?_, ht.keep fun b hb => ⟨hS b hb, fun _ => rfl⟩⟩
 rw [Nat.zero_add, h0.cellAt k (by omega)]
 exact hx
end Go.Proofs.Ytjoddliplahgkaa
