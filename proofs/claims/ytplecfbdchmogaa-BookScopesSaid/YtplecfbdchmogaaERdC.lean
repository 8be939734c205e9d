/- Programs that are read: words for what a reading makes (book). -/
import Derived.Test.YtplecfbdchmogaaERdB
import Derived.Test.YtplecfbdchmogaaEProgP
namespace Go.Proofs.Ytplecfbdchmogaa
open Go.RowKit
section
variable {w0 w w1 w' W : World} {κ : Rk} {s s' : Rd} {lo hi b i : Nat} {u : Value}
theorem RqE.refl (h : RqS w0 κ s w) : RqE w0 κ s w w := ⟨Moved.refl _ _ _, h⟩
theorem RqE.below (h : RqE w0 κ s w W) (hb : Below W.heap.size W w') : RqE w0 κ s w w' := ⟨h.1.trans_ (MvK.below hb), h.2.below hb⟩
theorem RqE.call (h : RqE w0 κ s w W) (h2 : RqE w0 κ s' W w') : RqE w0 κ s' w w' := ⟨h.1.trans_ h2.1, h2.2⟩
theorem RqE.set (h : RqE w0 κ s w W) (hb : w.heap.size ≤ b) (hg : κ.g < w.heap.size) (hh : κ.h < w.heap.size) (hR : ∀ q, κ.R q → q < w.heap.size) (h0 : w0.heap.size ≤ w.heap.size) (i : Nat) (u : Value) : RqE w0 κ s w (W.setCell ⟨b, i, none⟩ u) := by
 have hgr : W.grownBy (W.setCell ⟨b, i, none⟩ u) (some b) := grown_setK W b i u
 exact ⟨mvK_grown h.1 hgr (fun q e => by injection e with e; omega), h.2.grown hgr (fun q e => by injection e with e; omega) hR hg hh h0⟩
where grown_setK (w : World) (b i : Nat) (u : Value) : w.grownBy (w.setCell ⟨b, i, none⟩ u) (some b) := ⟨rfl, rfl, rfl, by simp [World.setCell], fun k _ hr => Below.heap_setCell w ⟨b, i, none⟩ u k (fun e => hr (by rw [e]))⟩
theorem Blk.mvk {T : TypeId} {cs : Array Value} (h : Blk W b T cs) (hm : MvK κ W w') (hg : κ.g < b) (hh : κ.h < b) : Blk w' b T cs := h.moved hm (by rintro (e | e) <;> omega) (by simp)
theorem size_set (w : World) (b i : Nat) (u : Value) : (w.setCell ⟨b, i, none⟩ u).heap.size = w.heap.size := by simp [World.setCell]
end
def RqRows (w0 : World) (κ : Rk) (r : List (List Nd) × Rd) (w : World) (e : Ending) (w' : World) : Prop := ∃ A n c, e = .returned (.slice A n c) ∧ RowsR (fresh w w') w' A n c r.1 ∧ RqE w0 κ r.2 w w'
def RqCt (w0 : World) (κ : Rk) (r : Ct × Rd) (w : World) (e : Ending) (w' : World) : Prop := ∃ A1 n1 c1 A2 n2 c2, e = .returned (.agg #[.slice A1 n1 c1, .slice A2 n2 c2]) ∧ RowsR (fresh w w') w' A1 n1 c1 r.1.args ∧ RowsR (fresh w w') w' A2 n2 c2 r.1.outs ∧ RqE w0 κ r.2 w w'
def RqCts (w0 : World) (κ : Rk) (r : List Ct × Rd) (w : World) (e : Ending) (w' : World) : Prop := ∃ A n c, e = .returned (.slice A n c) ∧ CtsQ (fresh w w') w' A n c r.1 ∧ RqE w0 κ r.2 w w'
def RqOrd (w0 : World) (κ : Rk) (r : Nd × Rd) (w : World) (e : Ending) (w' : World) : Prop := e = .returned (.agg #[.int .i64 r.1.op, .int .i64 r.1.a, .int .i64 r.1.b]) ∧ RqE w0 κ r.2 w w'
def RqPrm (w0 : World) (κ : Rk) (r : (Int × Int) × Rd) (w : World) (e : Ending) (w' : World) : Prop := e = .returned (.agg #[.int .i64 r.1.1, .int .i64 r.1.2]) ∧ RqE w0 κ r.2 w w'
structure PrsQ (R : Nat → Prop) (w : World) (A : Option Addr) (n c : Nat) (ps : List (Int × Int)) : Prop where
 len : ps.length = n
 few : n ≤ 8796093021952
 mem : 0 < n → ∃ b off, A = some ⟨b, off, none⟩ ∧ R b ∧ ∀ k, k < n → w.cell? ⟨b, off + k * 2, none⟩ = some (.int .i64 (ps.getD k (0, 0)).1) ∧ w.cell? ⟨b, off + k * 2 + 1, none⟩ = some (.int .i64 (ps.getD k (0, 0)).2)
def RqPrs (w0 : World) (κ : Rk) (r : List (Int × Int) × Rd) (w : World) (e : Ending) (w' : World) : Prop := ∃ A n c, e = .returned (.slice A n c) ∧ PrsQ (fresh w w') w' A n c r.1 ∧ (A = none → c = 0) ∧ RqE w0 κ r.2 w w'
def RqEn (w0 : World) (κ : Rk) (r : En × Rd) (w : World) (e : Ending) (w' : World) : Prop := ∃ v : EnVal, e = .returned (.agg #[.int .i64 r.1.kind, .slice v.As v.ns v.cs, .slice v.Ap v.np v.cp, .slice v.Ai v.ni v.ci, .slice v.Ac v.nc v.cc, .slice v.At v.nt v.ct, .slice v.Ab v.nb v.cb]) ∧ EnQ (fresh w w') w' v r.1 ∧ RqE w0 κ r.2 w w'
structure EnsQ (R : Nat → Prop) (w : World) (A : Option Addr) (n c : Nat) (es : List En) : Prop where
 len : es.length = n
 few : n ≤ 5864062014805
 mem : 0 < n → ∃ b off, A = some ⟨b, off, none⟩ ∧ R b ∧ ∀ k, k < n → ∃ v : EnVal, w.cell? ⟨b, off + k * 7, none⟩ = some (.int .i64 (es.getD k default).kind) ∧ w.cell? ⟨b, off + k * 7 + 1, none⟩ = some (.slice v.As v.ns v.cs) ∧ w.cell? ⟨b, off + k * 7 + 2, none⟩ = some (.slice v.Ap v.np v.cp) ∧ w.cell? ⟨b, off + k * 7 + 3, none⟩ = some (.slice v.Ai v.ni v.ci) ∧ w.cell? ⟨b, off + k * 7 + 4, none⟩ = some (.slice v.Ac v.nc v.cc) ∧ w.cell? ⟨b, off + k * 7 + 5, none⟩ = some (.slice v.At v.nt v.ct) ∧ w.cell? ⟨b, off + k * 7 + 6, none⟩ = some (.slice v.Ab v.nb v.cb) ∧ EnQ R w v (es.getD k default)
def RqEns (w0 : World) (κ : Rk) (r : List En × Rd) (w : World) (e : Ending) (w' : World) : Prop := ∃ A n c, e = .returned (.slice A n c) ∧ EnsQ (fresh w w') w' A n c r.1 ∧ RqE w0 κ r.2 w w'
section
variable {R R' : Nat → Prop} {w w' : World} {A : Option Addr} {n c : Nat}
theorem PrsQ.keep {ps : List (Int × Int)} (h : PrsQ R w A n c ps) (hR : ∀ b, R b → R' b ∧ ∀ o, w'.cell? ⟨b, o, none⟩ = w.cell? ⟨b, o, none⟩) : PrsQ R' w' A n c ps :=
 ⟨h.len, h.few, fun hn => by
  obtain ⟨b, off, e, hb, hm⟩ := h.mem hn
  exact ⟨b, off, e, (hR b hb).1, fun k hk => ⟨((hR b hb).2 _).trans (hm k hk).1, ((hR b hb).2 _).trans (hm k hk).2⟩⟩⟩
theorem PrsQ.prsV {ps : List (Int × Int)} (h : PrsQ R w A n c ps) (hR : ∀ b, R b → b < w.heap.size) : PrsV w A n c ps := by
 have h2 := h.keep (R' := (· < w.heap.size)) (w' := w) fun b hb => ⟨hR b hb, fun _ => rfl⟩
 exact ⟨h2.len, h2.few, h2.mem⟩
theorem EnsQ.keep {es : List En} (h : EnsQ R w A n c es) (hR : ∀ b, R b → R' b ∧ ∀ o, w'.cell? ⟨b, o, none⟩ = w.cell? ⟨b, o, none⟩) : EnsQ R' w' A n c es :=
 ⟨h.len, h.few, fun hn => by
  obtain ⟨b, off, e, hb, hm⟩ := h.mem hn
  refine ⟨b, off, e, (hR b hb).1, fun k hk => ?_⟩
  obtain ⟨v, h0, h1, h2, h3, h4, h5, h6, h7⟩ := hm k hk
  exact ⟨v, ((hR b hb).2 _).trans h0, ((hR b hb).2 _).trans h1, ((hR b hb).2 _).trans h2, ((hR b hb).2 _).trans h3, ((hR b hb).2 _).trans h4, ((hR b hb).2 _).trans h5, ((hR b hb).2 _).trans h6, h7.keep hR⟩⟩
theorem EnsQ.ensV {es : List En} (h : EnsQ R w A n c es) (hR : ∀ b, R b → b < w.heap.size) : EnsV w A n c es :=
 ⟨h.len, h.few, fun hn => by
  obtain ⟨b, off, e, hb, hm⟩ := h.mem hn
  refine ⟨b, off, e, hR b hb, fun k hk => ?_⟩
  obtain ⟨v, h0, h1, h2, h3, h4, h5, h6, h7⟩ := hm k hk
  exact ⟨v, h0, h1, h2, h3, h4, h5, h6, h7.enC hR⟩⟩
theorem own_ord {base : Nat} {l : List Nd} (h : w.ownsRow base 70 3 (.slice A n c) n (flat l)) (hn : l.length = n) (hl : n ≤ 5864062014805) (hv : ∀ g, (Value.slice A n c).ownBlock = some g → R g) : TermR R w A n c l := by
 have h0 := h
 rcases h.2 with ⟨e, h2⟩ | ⟨g, cap', cur, hv2, hg, hh, hcap, _⟩
 · injection e with e1 e2 e3
   subst e1 e3
   exact ⟨hn, by omega, by omega, fun _ => rfl, fun hp => absurd hp (by omega)⟩
 injection hv2 with e1 e2 e3
 subst e1 e3
 refine ⟨hn, hcap, hl, (fun e => by cases e), fun _ => ⟨g, 0, rfl, hv g rfl, fun k hk => ?_⟩⟩
 obtain ⟨h1, h2, h3⟩ := flat_at l k hk
 exact ⟨own_cellG h0 h1, own_cellG h0 h2, own_cellG h0 h3⟩
def flatP (l : List (Int × Int)) : List Value := l.flatMap fun p => [.int .i64 p.1, .int .i64 p.2]
theorem flatP_at : ∀ (l : List (Int × Int)) (k : Nat), k < l.length → (flatP l)[k * 2]? = some (.int .i64 (l.getD k (0, 0)).1) ∧ (flatP l)[k * 2 + 1]? = some (.int .i64 (l.getD k (0, 0)).2)
 | [], k, h => absurd h (by simp)
 | p :: l, 0, _ => ⟨rfl, rfl⟩
 | p :: l, k + 1, h => by
  obtain ⟨h1, h2⟩ := flatP_at l k (by simpa using h)
  rw [show (k + 1) * 2 = k * 2 + 1 + 1 from by omega]
  exact ⟨by simpa [flatP] using h1, by simpa [flatP] using h2⟩
theorem own_prsQ {base : Nat} {l : List (Int × Int)} (h : w.ownsRow base 76 2 (.slice A n c) n (flatP l)) (hn : l.length = n) (hl : n ≤ 1000000) (hv : ∀ g, (Value.slice A n c).ownBlock = some g → R g) : PrsQ R w A n c l := by
 refine ⟨hn, by omega, fun hpos => ?_⟩
 have h0 := h
 rcases h.2 with ⟨_, h2⟩ | ⟨g, cap', cur, hv2, hg, hh, _⟩
 · omega
 injection hv2 with e1 e2 e3
 subst e1
 refine ⟨g, 0, rfl, hv g rfl, fun k hk => ?_⟩
 obtain ⟨h1, h2⟩ := flatP_at l k (by omega)
 exact ⟨own_cellG h0 h1, own_cellG h0 h2⟩
theorem own_nulQ {base sz : Nat} {e : TypeId} {xs : List Value} (h : w.ownsRow base e sz (.slice A n c) n xs) : A = none → c = 0 := fun hA => by
 rcases h.2 with ⟨e, _⟩ | ⟨g, cap', cur, hv2, _⟩
 · injection e with _ _ e3
 injection hv2 with e1 _ _
 rw [hA] at e1
 cases e1
theorem own_ensQ {S : Nat → Prop} {base : Nat} {xs : List Value} {es : List En} (h : w.ownsRow base 49 7 (.slice A n c) n xs) (hn : es.length = n) (hf : n ≤ 5864062014805) (hr : EnL S w es xs) (hS : ∀ b, S b → R b) (hv : ∀ g, (Value.slice A n c).ownBlock = some g → R g) : EnsQ R w A n c es := by
 refine ⟨hn, hf, fun hpos => ?_⟩
 have h0 := h
 rcases h.2 with ⟨_, h2⟩ | ⟨g, cap', cur, hv2, hg, hh, _⟩
 · omega
 injection hv2 with e1 e2 e3
 subst e1
 refine ⟨g, 0, rfl, hv g rfl, fun k hk => ?_⟩
 obtain ⟨v, x0, x1, x2, x3, x4, x5, x6, hq⟩ := EnL.at_ es xs k hr (by omega)
 exact ⟨v, own_cellG h0 x0, own_cellG h0 x1, own_cellG h0 x2, own_cellG h0 x3, own_cellG h0 x4, own_cellG h0 x5, own_cellG h0 x6, hq.keep fun b hb => ⟨hS b hb, fun _ => rfl⟩⟩
end
section
variable {base i d sz : Nat} {e : TypeId} {w w5 W w8 : World} {v : Value} {A8 : Option Addr} {c8 m : Nat} {ys xs : List Value} {κ : Rk}
theorem aside_mv (hm : MvK κ w w5) (hg : κ.g < base) (hh : κ.h < base) : ∀ q, Aside base w v q → Aside base w5 v q ∧ ∀ o, w5.cell? ⟨q, o, none⟩ = w.cell? ⟨q, o, none⟩ := fun q hq =>
 ⟨⟨hq.1, Nat.lt_of_lt_of_le hq.2.1 hm.size, hq.2.2⟩, fun o => cell_of_heap (hm.block q hq.2.1 (by have := hq.1; rintro (e | e) <;> omega) (by simp)) o⟩
theorem aside_next (hb : Below w5.heap.size w5 W) (ha : Appended W w8 base e sz v A8 m c8 ys) : ∀ q, Aside base w5 v q → Aside base w8 (.slice A8 m c8) q ∧ ∀ o, w8.cell? ⟨q, o, none⟩ = w5.cell? ⟨q, o, none⟩ := fun q hq => by
 have h1 := hb.size
 have h2 := ha.grown.size
 have hq2 := hq.2.1
 refine ⟨⟨hq.1, by omega, fun e => ?_⟩, fun o => cell_of_heap ((ha.grown.block q (by omega) (fun e => hq.2.2 e.symm)).trans (hb.block q hq2)) o⟩
 rcases ha.new q e with h | h
 · exact hq.2.2 h
 omega
theorem fresh_aside (ho : w.ownsRow base e sz v m xs) (hb : base ≤ w.heap.size) : ∀ q, fresh w w5 q → Aside base w5 v q := fun q hq => by
 refine ⟨Nat.le_trans hb hq.1, hq.2, fun e => ?_⟩
 have := (ownsRow_block ho e).2.1
 have := hq.1
 omega
end
theorem oper_append_box {P : Program} {o : Oper} {a : Act} {w : World} {K : Act → World → Prop} {Q : Exit → Act → World → Prop}
 (s x : Operand) (t e : TypeId) (hop : o.op = Op.call { callee := Callee.builtin Builtin.append, args := #[s, x], argTypes := #[t, t] })
 (base : Nat) (i : TypeInfo) (z : Value) (size bytes : Nat) (h1 : P.underlying t = some (.slice e)) (h2 : P.info? e = some i) (h3 : i.zero = some z) (h4 : i.size = size) (h5 : i.bytes = bytes) (h6 : z.cells.size = size) (h7 : 0 < size) (hby : bytes ≤ 200)
 (v : Value) (n : Nat) (xs us : List Value) (hus : us.length = size) (hone : ∀ u ∈ us, u.oneCell' = true) (W : World) (hW : w = W.alloc (.cells us.toArray e)) (hs : a.eval s = v) (hown : W.ownsRow base e size v n xs)
 (g : Nat) (hx : a.eval x = .slice (some ⟨g, 0, none⟩) 1 1) (hgW : g = W.heap.size) (b1 : n + 1 ≤ 1000000) (b3 : base ≤ W.heap.size)
 (hK : ∀ A' c' w', Appended W w' base e size v A' (n + 1) c' (xs ++ us) → K (a.put o.dst (.slice A' (n + 1) c')) w') : Oper.wp P o a w K Q := by
 subst hW
 subst hgW
 refine oper_append_mine s x t hop base _ i _ size bytes h1 h2 h3 h4 h5 h6 h7 v n xs hs (World.ownsRow.alloc hown _) _ 1 1 us hx (by omega) (fun e => by cases e) (fun ad e j u' hu => ?_) hone (by unfold maxLen; omega) ?_ (by simp; omega) ?_
 · injection e with e
   subst e
   have ea : (⟨W.heap.size, 0, none⟩ : Addr).add j = ⟨W.heap.size, j, none⟩ := by unfold Addr.add; split <;> simp_all
   rw [ea, World.cell?_alloc_new, ← hu]
   simp
 · exact Nat.le_trans (Nat.mul_le_mul b1 hby) (by decide)
 intro A' c' w' h
 refine hK A' c' w' ⟨h.own, ?_, fun g hg => (h.new g hg).imp id (fun hh => by simp at hh; omega)⟩
 refine ⟨h.grown.os, h.grown.tape, h.grown.output, Nat.le_trans (by simp) h.grown.size, fun k hk hne => ?_⟩
 rw [h.grown.block k (by simp; omega) hne]
 exact Below.heap_alloc _ _ _ hk
end Go.Proofs.Ytplecfbdchmogaa
