/- Merged: FineA, GuardP. -/
import Derived.Test.YtjllmblbbgojbaaKFineL
import Derived.Test.YtjllmblbbgojbaaKFineT
import Derived.Test.YtjllmblbbgojbaaKFineX
import Derived.Test.YtjllmblbbgojbaaKHeads
namespace Go.Proofs.Ytjllmblbbgojbaa
section
open Go.RowKit
theorem fine_step {K : LK} {I : World → Prop} {J : TT → Prop} {ca : Int → Nat → Nat} {places : List Int} {f m : Nat} (H : FineH K I (GM places.length) J (fineT places ca f) m) (hI : ∀ w w', I w → Below w.heap.size w w' → I w') (hE : ∀ w, I w → EntR K ca w) (hP : ∀ w, I w → IntsR (· < w.heap.size) w K.Aq K.nq K.cq places) (hp16 : ∀ p ∈ places, 0 ≤ p ∧ p < 16) (hJK : ∀ n a k, J (n, a, k) → ∀ y ∈ kidL k, J y) (hJM : ∀ n a k, J (n, a, k) → n.op = 11 → n.a < (K.ne : Int)) : FineH K I (GM places.length) J (fineT places ca (f + 1)) (m + 1) := by
 intro w x zs A n c B k d hw ht hy hm hJ hz hnul hk hg
 by_cases h1 : (hd (rowT x).length x).1.1.op = 1
 · exact fine_var H hI hE hP hp16 hJK hJM w x zs A n c B k d hw ht hy hm hJ hz hnul hk hg h1
 by_cases h2 : (hd (rowT x).length x).1.1.op = 11
 · exact fine_mat H hI hE hP hp16 hJK hJM w x zs A n c B k d hw ht hy hm hJ hz hnul hk hg h2
 by_cases h3 : (hd (rowT x).length x).1.1.op = 4 ∨ (hd (rowT x).length x).1.1.op = 5
 · exact fine_lam H hI hE hP hp16 hJK hJM w x zs A n c B k d hw ht hy hm hJ hz hnul hk hg h3
 by_cases h4 : (hd (rowT x).length x).1.1.op = 7
 · exact fine_let H hI hE hP hp16 hJK hJM w x zs A n c B k d hw ht hy hm hJ hz hnul hk hg h4
 by_cases h5 : (hd (rowT x).length x).1.1.op = 12
 · exact fine_fix H hI hE hP hp16 hJK hJM w x zs A n c B k d hw ht hy hm hJ hz hnul hk hg h5
 exact fine_oth H hI hE hP hp16 hJK hJM w x zs A n c B k d hw ht hy hm hJ hz hnul hk hg ⟨h1, h2, fun h => h3 (.inl h), fun h => h3 (.inr h), h4, h5⟩
theorem fine_all {K : LK} {I : World → Prop} {J : TT → Prop} {ca : Int → Nat → Nat} {places : List Int} (hI : ∀ w w', I w → Below w.heap.size w w' → I w') (hE : ∀ w, I w → EntR K ca w) (hP : ∀ w, I w → IntsR (· < w.heap.size) w K.Aq K.nq K.cq places) (hp16 : ∀ p ∈ places, 0 ≤ p ∧ p < 16) (hJK : ∀ n a k, J (n, a, k) → ∀ y ∈ kidL k, J y) (hJM : ∀ n a k, J (n, a, k) → n.op = 11 → n.a < (K.ne : Int)) : ∀ m : Nat, FineH K I (GM places.length) J (fineT places ca m) m
 | 0 => fun w x zs A n c B k d hw ht hy hm => by simp [rowT] at hm
 | m + 1 => fine_step (fine_all hI hE hP hp16 hJK hJM m) hI hE hP hp16 hJK hJM
end
section
open Go.RowKit
def tysT : List TT → List TT
 | a :: _ :: r => a :: tysT r
 | _ => []
def bdsT : List TT → List TT
 | _ :: b :: r => b :: bdsT r
 | _ => []
def guardL (rec_ : List Int → TT → Bool) (zs : List Int) : List Int → List TT → List TT → Bool
 | p :: pl, t :: ts, b :: bs => (takenT p.toNat t && bodyT rec_ (p.toNat + 1) zs b) && guardL rec_ zs pl ts bs
 | _, _, _ => true
def placesT (k : Fo) : List Int := (press k).map (·.a)
def marks0 (n : Nat) : List Int := (List.range n).map fun j : Nat => (100 : Int) + (j : Int)
def guardT (ca : Int → Nat → Nat) (m : Nat) (x : TT) : Bool :=
 guardL (fineT (placesT x.2.2) ca m) (marks0 x.1.b.toNat) (placesT x.2.2) (tysT (kidL x.2.2)) (bdsT (kidL x.2.2))
def ErrP (e : Int) (w : World) (en : Ending) (w' : World) : Prop := en = .returned (.int .i64 e) ∧ Below w.heap.size w w'
def JE (ne : Nat) (x : TT) : Prop := ∀ m ∈ rowT x, m.op = 11 → m.a < (ne : Int)
theorem row_kid : ∀ {k : Fo} {y : TT}, y ∈ kidL k → ∀ m ∈ rowT y, m ∈ row k
 | .nil, y, h, _, _ => by cases h
 | .cons p n a k x, y, h, m, hm => by
  rw [show kidL (.cons p n a k x) = (n, a, k) :: kidL x from rfl] at h
  simp only [row]
  rcases List.mem_cons.1 h with rfl | h
  · simp only [rowT, List.mem_cons, List.mem_append] at hm ⊢
    rcases hm with rfl | hm | hm
    · exact .inr (.inl rfl)
    · exact .inr (.inr (.inl hm))
    exact .inr (.inr (.inr (.inl hm)))
  · have := row_kid h m hm
    simp only [List.mem_cons, List.mem_append]
    exact .inr (.inr (.inr (.inr this)))
theorem JE.kid {ne : Nat} {n : Nd} {a : List Nd} {k : Fo} (h : JE ne (n, a, k)) : ∀ y ∈ kidL k, JE ne y := fun y hy m hm => h m (by
 simp only [rowT, List.mem_cons, List.mem_append]
 exact .inr (.inr (row_kid hy m hm)))
theorem JE.node {ne : Nat} {n : Nd} {a : List Nd} {k : Fo} (h : JE ne (n, a, k)) : n.op = 11 → n.a < (ne : Int) := h n (by simp [rowT])
abbrev OwnT (w : World) (base : Nat) (A : Option Addr) (n c : Nat) (vs : List Value) : Prop := w.ownsRow base 28 1 (.slice A n c) n vs
abbrev OwnI (w : World) (base : Nat) (A : Option Addr) (n c : Nat) (zs : List Int) : Prop := w.ownsRow base 3 1 (.slice A n c) n (zs.map (Value.int .i64))
theorem infoI : (Try.prog.info? 3).map (fun i => (i.zero, i.size, i.bytes)) = some (some (.int .i64 0), 1, 8) := by kernel_rfl
theorem OwnI.ints {w : World} {base n c : Nat} {A : Option Addr} {zs : List Int} (h : OwnI w base A n c zs) (hf : n ≤ 5864062014805) : IntsR (· < w.heap.size) w A n c zs := by
 have hn : zs.length = n := by have := h.1; simpa using this
 refine ⟨hn, hf, fun hpos => ?_⟩
 have h0 := h
 obtain ⟨_, hcase⟩ := h
 rcases hcase with ⟨_, h2⟩ | ⟨g, cap', cur, hv, hg, hh, _⟩
 · omega
 injection hv with e1 e2 e3
 subst e1
 refine ⟨g, 0, rfl, (ownsRow_block h0 rfl).2.1, fun k hk => ?_⟩
 rw [Nat.zero_add, h0.cellAt k (by omega)]
 have : k < zs.length := by omega
 simp [List.getElem?_eq_getElem this]
def Sep (v u : Value) : Prop := ∀ g, v.ownBlock = some g → u.ownBlock ≠ some g
theorem Sep.symm {v u : Value} (h : Sep v u) : Sep u v := fun g hu hv => h g hv hu
theorem own_sep {w w' : World} {base : Nat} {e : TypeId} {size n : Nat} {v u : Value} {xs : List Value} (h : w.ownsRow base e size v n xs) (hg : w.grownBy w' u.ownBlock) (hs : Sep v u) : w'.ownsRow base e size v n xs := by
 refine h.kept hg ?_
 cases hv : v.ownBlock with
 | none => exact .inl rfl
 | some g => exact .inr fun e => hs g hv e.symm
theorem Sep.app {w w' : World} {base base' : Nat} {e e' : TypeId} {size size' n n' : Nat} {v u : Value} {xs ys : List Value} {A : Option Addr} {c : Nat} (h : w.ownsRow base e size v n xs) (hs : Sep v u) (ha : Appended w w' base' e' size' u A n' c ys) : Sep v (.slice A n' c) := fun g hv hu => by
 rcases ha.new g hu with h1 | h1
 · exact hs g hv h1
 have := (ownsRow_block h hv).2.1
 omega
theorem own_full (W : World) (base : Nat) (e : TypeId) (xs : List Value) (hb : base ≤ W.heap.size) (hl : xs.length ≤ maxLen) : (W.alloc (.cells xs.toArray e)).ownsRow base e 1 (.slice (some ⟨W.heap.size, 0, none⟩) xs.length xs.length) xs.length xs :=
 ⟨by omega, .inr ⟨W.heap.size, xs.length, xs.toArray, rfl, hb, heap_alloc_new W _, Nat.le_refl _, hl, by simp, by simp⟩⟩
theorem made_marks (n : Nat) : madeCells #[Value.int .i64 0] n = (List.replicate n (Value.int .i64 0)).toArray := by
 apply Array.ext
 · simp [madeCells]
 intro i h1 h2
 simp [madeCells, Nat.mod_one]
theorem make_mark (n : Nat) (hn : n ≤ 1000000) (w : World) : (Instr.makeSlice 99 (.int .i64 (n : Int)) (.int .i64 (n : Int))).run Try.prog w = .ok (.slice (some ⟨w.heap.size, 0, none⟩) n n) (w.alloc (.cells (List.replicate n (Value.int .i64 0)).toArray 100)) := by
 obtain ⟨i, hi, h1, h2, h3⟩ := info_parts infoM
 rw [run_make (P := Try.prog) w 99 100 i (.int .i64 0) Try.underlying99 hi h1 .i64 .i64 n n (by omega) (by omega) (by rw [h3]; omega) (by omega), h2]
 simp only [Int.toNat_natCast, Nat.mul_one]
 show Result.ok _ (w.alloc (.cells (madeCells #[Value.int .i64 0] n) _)) = _
 rw [made_marks]
theorem marks_set (q nb : Nat) (h : q < nb) : (((marks0 q ++ List.replicate (nb - q) 0).map (Value.int .i64)).set q (.int .i64 (100 + (q : Int)))) = (marks0 (q + 1) ++ List.replicate (nb - (q + 1)) 0).map (Value.int .i64) := by
 have hm : (marks0 q).length = q := by simp [marks0]
 rw [show nb - q = (nb - (q + 1)) + 1 from by omega, List.replicate_succ, List.map_append, List.map_cons, List.set_append_right _ _ (by simp [hm])]
 simp only [List.length_map, hm, Nat.sub_self, List.set_cons_zero, List.map_append]
 unfold marks0
 rw [List.range_succ, List.map_append, List.map_append]
 simp
theorem GM_marks0 (n : Nat) : GM n (marks0 n) := fun z hz => by
 simp only [marks0, List.mem_map, List.mem_range] at hz
 obtain ⟨j, hj, rfl⟩ := hz
 exact .inr ⟨by omega, by omega⟩
theorem EntR.below {K : LK} {ca : Int → Nat → Nat} {w w' : World} (h : EntR K ca w) (hb : Below w.heap.size w w') : EntR K ca w' := ⟨fun e he => by
 obtain ⟨b, off, Ac, nc, cc, e1, hlt, hc, h100, hm, h0⟩ := h.ent e he
 refine ⟨b, off, Ac, nc, cc, e1, Nat.lt_of_lt_of_le hlt hb.size, (hb.cell (p := ⟨b, off + e * 7 + 4, none⟩) hlt).trans hc, h100, fun k hk => ?_, h0⟩
 obtain ⟨b2, o2, A, c, e2, hlt2, hc2, h2⟩ := hm k hk
 exact ⟨b2, o2, A, c, e2, Nat.lt_of_lt_of_le hlt2 hb.size, (hb.cell (p := ⟨b2, o2 + k * 2, none⟩) hlt2).trans hc2, h2⟩⟩
theorem EntR.places {vars nat : Int} {Ao Ae Ap Aq Ar : Option Addr} {no co ne ce np cp nq cq nr cr : Nat} {ca : Int → Nat → Nat} {w : World} (h : EntR ⟨vars, nat, Ao, no, co, Ae, ne, ce, Ap, np, cp, Aq, nq, cq⟩ ca w) : EntR ⟨vars, nat, Ao, no, co, Ae, ne, ce, Ap, np, cp, Ar, nr, cr⟩ ca w := ⟨h.ent⟩
end
end Go.Proofs.Ytjllmblbbgojbaa
