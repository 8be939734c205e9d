/- Constructors and entries that a call makes: what their cells read as. -/
import Derived.Test.YtplecfbdchmogaaECopyT
namespace Go.Proofs.Ytplecfbdchmogaa
open Go.RowKit
structure CtsQ (R : Nat → Prop) (w : World) (A : Option Addr) (n c : Nat) (cs : List Ct) : Prop where
 len : cs.length = n
 few : n ≤ 5864062014805
 mem : 0 < n → ∃ b off, A = some ⟨b, off, none⟩ ∧ R b ∧ ∀ k, k < n → ∃ A1 n1 c1 A2 n2 c2, w.cell? ⟨b, off + k * 2, none⟩ = some (.slice A1 n1 c1) ∧ w.cell? ⟨b, off + k * 2 + 1, none⟩ = some (.slice A2 n2 c2) ∧ RowsR R w A1 n1 c1 (cs.getD k default).args ∧ RowsR R w A2 n2 c2 (cs.getD k default).outs
theorem CtsQ.keep {R R' : Nat → Prop} {w w' : World} {A : Option Addr} {n c : Nat} {cs : List Ct} (h : CtsQ R w A n c cs) (hR : ∀ b, R b → R' b ∧ ∀ o, w'.cell? ⟨b, o, none⟩ = w.cell? ⟨b, o, none⟩) : CtsQ R' w' A n c cs :=
 ⟨h.len, h.few, fun hn => by
  obtain ⟨b, off, e, hb, hm⟩ := h.mem hn
  refine ⟨b, off, e, (hR b hb).1, fun k hk => ?_⟩
  obtain ⟨A1, n1, c1, A2, n2, c2, h1, h2, h3, h4⟩ := hm k hk
  exact ⟨A1, n1, c1, A2, n2, c2, ((hR b hb).2 _).trans h1, ((hR b hb).2 _).trans h2, h3.keep hR, h4.keep hR⟩⟩
structure EnQ (R : Nat → Prop) (w : World) (v : EnVal) (x : En) : Prop where
 sort : TermR R w v.As v.ns v.cs x.sort
 params : RowsR R w v.Ap v.np v.cp x.params
 indices : RowsR R w v.Ai v.ni v.ci x.indices
 ctors : CtsQ R w v.Ac v.nc v.cc x.ctors
 type : TermR R w v.At v.nt v.ct x.type
 body : TermR R w v.Ab v.nb v.cb x.body
theorem EnQ.keep {R R' : Nat → Prop} {w w' : World} {v : EnVal} {x : En} (h : EnQ R w v x) (hR : ∀ b, R b → R' b ∧ ∀ o, w'.cell? ⟨b, o, none⟩ = w.cell? ⟨b, o, none⟩) : EnQ R' w' v x :=
 ⟨h.sort.keep hR, h.params.keep hR, h.indices.keep hR, h.ctors.keep hR, h.type.keep hR, h.body.keep hR⟩
theorem RowsR.rowsV {R : Nat → Prop} {w : World} {A : Option Addr} {n c : Nat} {ls : List (List Nd)} (h : RowsR R w A n c ls) (hR : ∀ b, R b → b < w.heap.size) : RowsV w A n c ls := by
 have h2 := h.keep (R' := (· < w.heap.size)) (w' := w) fun b hb => ⟨hR b hb, fun _ => rfl⟩
 exact ⟨h2.len, h2.few, h2.mem⟩
theorem CtsQ.ctsV {R : Nat → Prop} {w : World} {A : Option Addr} {n c : Nat} {cs : List Ct} (h : CtsQ R w A n c cs) (hR : ∀ b, R b → b < w.heap.size) : CtsV w A n c cs :=
 ⟨h.len, h.few, fun hn => by
  obtain ⟨b, off, e, hb, hm⟩ := h.mem hn
  refine ⟨b, off, e, hR b hb, fun k hk => ?_⟩
  obtain ⟨A1, n1, c1, A2, n2, c2, h1, h2, h3, h4⟩ := hm k hk
  exact ⟨A1, n1, c1, A2, n2, c2, h1, h2, h3.rowsV hR, h4.rowsV hR⟩⟩
theorem EnQ.enC {R : Nat → Prop} {w : World} {v : EnVal} {x : En} (h : EnQ R w v x) (hR : ∀ b, R b → b < w.heap.size) : EnC w v x :=
 have hk : ∀ b, R b → b < w.heap.size ∧ ∀ o, w.cell? ⟨b, o, none⟩ = w.cell? ⟨b, o, none⟩ := fun b hb => ⟨hR b hb, fun _ => rfl⟩
 ⟨h.sort.keep hk, h.params.rowsV hR, h.indices.rowsV hR, h.ctors.ctsV hR, h.type.keep hk, h.body.keep hk⟩
def CtL (R : Nat → Prop) (w : World) : List Value → List Ct → Prop
 | [], [] => True
 | v1 :: v2 :: xs, c :: cs => (∃ A1 n1 c1 A2 n2 c2, v1 = .slice A1 n1 c1 ∧ v2 = .slice A2 n2 c2 ∧ RowsR R w A1 n1 c1 c.args ∧ RowsR R w A2 n2 c2 c.outs) ∧ CtL R w xs cs
 | _, _ => False
theorem CtL.keep {R R' : Nat → Prop} {w w' : World} (hR : ∀ b, R b → R' b ∧ ∀ o, w'.cell? ⟨b, o, none⟩ = w.cell? ⟨b, o, none⟩) : ∀ {xs : List Value} {cs : List Ct}, CtL R w xs cs → CtL R' w' xs cs
 | [], [], _ => trivial
 | [], _ :: _, h => h.elim
 | [_], _, h => by cases h
 | _ :: _ :: _, [], h => h.elim
 | v1 :: v2 :: xs, c :: cs, h => by
  obtain ⟨⟨A1, n1, c1, A2, n2, c2, e1, e2, h1, h2⟩, h3⟩ := h
  exact ⟨⟨A1, n1, c1, A2, n2, c2, e1, e2, h1.keep hR, h2.keep hR⟩, h3.keep hR⟩
theorem CtL.add {R : Nat → Prop} {w : World} {A1 A2 : Option Addr} {n1 c1 n2 c2 : Nat} {c : Ct} (h1 : RowsR R w A1 n1 c1 c.args) (h2 : RowsR R w A2 n2 c2 c.outs) : ∀ {xs : List Value} {cs : List Ct}, CtL R w xs cs → CtL R w (xs ++ [.slice A1 n1 c1, .slice A2 n2 c2]) (cs ++ [c])
 | [], [], _ => ⟨⟨A1, n1, c1, A2, n2, c2, rfl, rfl, h1, h2⟩, trivial⟩
 | [], _ :: _, h => h.elim
 | [_], _, h => by cases h
 | _ :: _ :: _, [], h => h.elim
 | _ :: _ :: _, _ :: _, h => ⟨h.1, h.2.add h1 h2⟩
theorem CtL.at_ {R : Nat → Prop} {w : World} : ∀ {xs : List Value} {cs : List Ct} (k : Nat), CtL R w xs cs → k < cs.length → ∃ A1 n1 c1 A2 n2 c2, xs[k * 2]? = some (.slice A1 n1 c1) ∧ xs[k * 2 + 1]? = some (.slice A2 n2 c2) ∧ RowsR R w A1 n1 c1 (cs.getD k default).args ∧ RowsR R w A2 n2 c2 (cs.getD k default).outs
 | [], [], _, _, hk => absurd hk (by simp)
 | [], _ :: _, _, h, _ => h.elim
 | [_], _, _, h, _ => by cases h
 | _ :: _ :: _, [], _, h, _ => h.elim
 | v1 :: v2 :: xs, c :: cs, 0, h, _ => by
  obtain ⟨⟨A1, n1, c1, A2, n2, c2, rfl, rfl, h1, h2⟩, _⟩ := h
  exact ⟨A1, n1, c1, A2, n2, c2, by simp, by simp, by simpa using h1, by simpa using h2⟩
 | v1 :: v2 :: xs, c :: cs, k + 1, h, hk => by
  obtain ⟨A1, n1, c1, A2, n2, c2, e1, e2, h1, h2⟩ := CtL.at_ k h.2 (by simpa using hk)
  rw [show (k + 1) * 2 = k * 2 + 1 + 1 from by omega]
  exact ⟨A1, n1, c1, A2, n2, c2, by simpa using e1, by simpa using e2, by simpa using h1, by simpa using h2⟩
theorem own_cellG {w : World} {base j d z g : Nat} {e : TypeId} {xs : List Value} (h : w.ownsRow base e z (.slice (some ⟨g, 0, none⟩) j d) j xs) {i : Nat} {u : Value} (hu : xs[i]? = some u) : w.cell? ⟨g, 0 + i, none⟩ = some u := by
 have h1 := World.ownsRow.cells h (g := g) rfl i u hu
 have ea : (⟨g, 0, none⟩ : Addr).add i = ⟨g, 0 + i, none⟩ := by unfold Addr.add; split <;> simp_all
 rw [ea] at h1
 exact h1
theorem own_cts {R S : Nat → Prop} {w : World} {base n c : Nat} {A : Option Addr} {xs : List Value} {cs : List Ct} (h : w.ownsRow base 54 2 (.slice A n c) n xs) (hn : cs.length = n) (hf : n ≤ 5864062014805) (hr : CtL S w xs cs) (hS : ∀ b, S b → R b) (hv : ∀ g, (Value.slice A n c).ownBlock = some g → R g) : CtsQ R w A n c cs := by
 refine ⟨hn, hf, fun hpos => ?_⟩
 have h0 := h
 rcases h.2 with ⟨_, h2⟩ | ⟨g, cap', cur, hv2, hg, hh, _⟩
 · omega
 injection hv2 with e1 e2 e3
 subst e1
 refine ⟨g, 0, rfl, hv g rfl, fun k hk => ?_⟩
 obtain ⟨A1, n1, c1, A2, n2, c2, x1, x2, h1, h2⟩ := hr.at_ k (by omega)
 have hk2 : ∀ b, S b → R b ∧ ∀ o, w.cell? ⟨b, o, none⟩ = w.cell? ⟨b, o, none⟩ := fun b hb => ⟨hS b hb, fun _ => rfl⟩
 exact ⟨A1, n1, c1, A2, n2, c2, own_cellG h0 x1, own_cellG h0 x2, h1.keep hk2, h2.keep hk2⟩
def EnL (R : Nat → Prop) (w : World) : List En → List Value → Prop
 | [], xs => xs = []
 | x :: es, xs => ∃ (v : EnVal) (ys : List Value), xs = [.int .i64 x.kind, .slice v.As v.ns v.cs, .slice v.Ap v.np v.cp, .slice v.Ai v.ni v.ci, .slice v.Ac v.nc v.cc, .slice v.At v.nt v.ct, .slice v.Ab v.nb v.cb] ++ ys ∧ EnQ R w v x ∧ EnL R w es ys
set_option linter.unusedVariables false in
theorem EnL.keep {R R' : Nat → Prop} {w w' : World} (hR : ∀ b, R b → R' b ∧ ∀ o, w'.cell? ⟨b, o, none⟩ = w.cell? ⟨b, o, none⟩) : ∀ (es : List En) (xs : List Value), EnL R w es xs → EnL R' w' es xs
 | [], _, h => h
 | x :: es, xs, ⟨v, ys, e, hq, h2⟩ => ⟨v, ys, e, hq.keep hR, EnL.keep hR es ys h2⟩
theorem EnL.add {R : Nat → Prop} {w : World} {v : EnVal} {x : En} (hq : EnQ R w v x) : ∀ (es : List En) (xs : List Value), EnL R w es xs → EnL R w (es ++ [x]) (xs ++ [.int .i64 x.kind, .slice v.As v.ns v.cs, .slice v.Ap v.np v.cp, .slice v.Ai v.ni v.ci, .slice v.Ac v.nc v.cc, .slice v.At v.nt v.ct, .slice v.Ab v.nb v.cb])
 | [], xs, h => by
  have : xs = [] := h
  subst this
  exact ⟨v, [], by simp, hq, rfl⟩
 | y :: es, xs, ⟨u, ys, e, hq2, h2⟩ => ⟨u, ys ++ [.int .i64 x.kind, .slice v.As v.ns v.cs, .slice v.Ap v.np v.cp, .slice v.Ai v.ni v.ci, .slice v.Ac v.nc v.cc, .slice v.At v.nt v.ct, .slice v.Ab v.nb v.cb], by rw [e, List.append_assoc], hq2, EnL.add hq es ys h2⟩
theorem EnL.at_ {R : Nat → Prop} {w : World} : ∀ (es : List En) (xs : List Value) (k : Nat), EnL R w es xs → k < es.length → ∃ v : EnVal, xs[k * 7]? = some (.int .i64 (es.getD k default).kind) ∧ xs[k * 7 + 1]? = some (.slice v.As v.ns v.cs) ∧ xs[k * 7 + 2]? = some (.slice v.Ap v.np v.cp) ∧ xs[k * 7 + 3]? = some (.slice v.Ai v.ni v.ci) ∧ xs[k * 7 + 4]? = some (.slice v.Ac v.nc v.cc) ∧ xs[k * 7 + 5]? = some (.slice v.At v.nt v.ct) ∧ xs[k * 7 + 6]? = some (.slice v.Ab v.nb v.cb) ∧ EnQ R w v (es.getD k default)
 | [], _, _, _, hk => absurd hk (by simp)
 | x :: es, xs, 0, ⟨v, ys, e, hq, h2⟩, hk => by
  subst e
  exact ⟨v, by simp, by simp, by simp, by simp, by simp, by simp, by simp, by simpa using hq⟩
 | x :: es, xs, k + 1, ⟨v, ys, e, hq, h2⟩, hk => by
  obtain ⟨u, e0, e1, e2, e3, e4, e5, e6, hq2⟩ := EnL.at_ es ys k h2 (by simpa using hk)
  subst e
  rw [show (k + 1) * 7 = k * 7 + 1 + 1 + 1 + 1 + 1 + 1 + 1 from by omega]
  exact ⟨u, by simpa using e0, by simpa using e1, by simpa using e2, by simpa using e3, by simpa using e4, by simpa using e5, by simpa using e6, by simpa using hq2⟩
end Go.Proofs.Ytplecfbdchmogaa
