/- CopyBook of the reference: what its loops keep. -/
import Derived.Test.YtjllmblbbgojbaaKCopyB
namespace Go.Proofs.Ytjllmblbbgojbaa
open Go.RowKit
theorem infoE5 : (Try.prog.info? 52).map (fun i => (i.zero, i.size, i.bytes)) = some (some (.agg #[.int .i64 0, .slice none 0 0, .slice none 0 0, .slice none 0 0, .slice none 0 0, .slice none 0 0, .slice none 0 0]), 7, 152) := by kernel_rfl
theorem infoC5 : (Try.prog.info? 62).map (fun i => (i.zero, i.size, i.bytes)) = some (some (.agg #[.slice none 0 0, .slice none 0 0]), 2, 48) := by kernel_rfl
abbrev ZEN : Array Value := #[.int .i64 0, .slice none 0 0, .slice none 0 0, .slice none 0 0, .slice none 0 0, .slice none 0 0, .slice none 0 0]
def enL (x : En) (v : EnVal) : List Value := [.int .i64 x.kind, .slice v.As v.ns v.cs, .slice v.Ap v.np v.cp, .slice v.Ai v.ni v.ci, .slice v.Ac v.nc v.cc, .slice v.At v.nt v.ct, .slice v.Ab v.nb v.cb]
structure CB3 (w : World) (bk : Array Value) (es : List En) (os : List Nd) (np : Nat) (pv : List Value) (x0 x3 : Value) (A1 A2 : Option Addr) (c1 c2 gA i : Nat) (Ae : Option Addr) (ce : Nat) (vs : List Value) (W : World) : Prop where
 bel : Below w.heap.size w W
 box : Blk W w.heap.size 26 bk
 res : Blk W (w.heap.size + 1) 26 ZBK
 out : Blk W gA 26 #[x0, .slice A1 os.length c1, .slice Ae i ce, x3, .slice A2 np c2]
 ge : w.heap.size + 2 ≤ gA
 o : W.ownsRow (w.heap.size + 2) 67 3 (.slice A1 os.length c1) os.length (flat os)
 p : W.ownsRow (w.heap.size + 2) 54 2 (.slice A2 np c2) np pv
 e : W.ownsRow (w.heap.size + 2) 52 7 (.slice Ae i ce) i vs
 oA : (Value.slice A1 os.length c1).ownBlock ≠ some gA
 pA : (Value.slice A2 np c2).ownBlock ≠ some gA
 eA : (Value.slice Ae i ce).ownBlock ≠ some gA
 eo : Sep (.slice Ae i ce) (.slice A1 os.length c1)
 ep : Sep (.slice Ae i ce) (.slice A2 np c2)
 ens : EnL (fun q => w.heap.size + 2 ≤ q ∧ q < W.heap.size ∧ (Value.slice Ae i ce).ownBlock ≠ some q ∧ q ≠ gA) W (es.take i) vs
section
variable {w W W' : World} {bk : Array Value} {es : List En} {os : List Nd} {np : Nat} {pv : List Value} {x0 x3 : Value} {A1 A2 Ae : Option Addr} {c1 c2 gA i ce : Nat} {vs : List Value}
theorem CB2.cb3 (h : CB2 w bk os np pv x0 x3 A1 A2 c1 c2 gA W) : CB3 w bk es os np pv x0 x3 A1 A2 c1 c2 gA 0 none 0 [] W :=
 ⟨h.bel, h.box, h.res, h.out, h.ge, h.o, h.p, World.ownsRow_nil _ _ _ _, h.oA, h.pA, fun e => (by cases e), fun g e => (by cases e), fun g e => (by cases e), rfl⟩
theorem CB3.below (h : CB3 w bk es os np pv x0 x3 A1 A2 c1 c2 gA i Ae ce vs W) (hb : Below W.heap.size W W') : CB3 w bk es os np pv x0 x3 A1 A2 c1 c2 gA i Ae ce vs W' :=
 ⟨h.bel.trans (hb.mono h.bel.size), h.box.below hb h.box.lt, h.res.below hb h.res.lt, h.out.below hb h.out.lt, h.ge, own_below h.o hb, own_below h.p hb, own_below h.e hb, h.oA, h.pA, h.eA, h.eo, h.ep,
  EnL.keep (fun q hq => ⟨⟨hq.1, Nat.lt_of_lt_of_le hq.2.1 hb.size, hq.2.2⟩, fun o => hb.cell (p := ⟨q, o, none⟩) hq.2.1⟩) _ _ h.ens⟩
theorem CB3.eLt (h : CB3 w bk es os np pv x0 x3 A1 A2 c1 c2 gA i Ae ce vs W) {g : Nat} (hg : (Value.slice Ae i ce).ownBlock = some g) : w.heap.size + 2 ≤ g ∧ g < W.heap.size := ⟨(ownsRow_block h.e hg).1, (ownsRow_block h.e hg).2.1⟩
theorem CB3.push (h : CB3 w bk es os np pv x0 x3 A1 A2 c1 c2 gA i Ae ce vs W) {v : EnVal} {x : En} (hx : es.take (i + 1) = es.take i ++ [x]) (hq : EnQ (fun q => w.heap.size + 2 ≤ q ∧ q < W.heap.size ∧ (Value.slice Ae i ce).ownBlock ≠ some q ∧ q ≠ gA) W v x) {B : Option Addr} {d : Nat}
 (ha : Appended W W' (w.heap.size + 2) 52 7 (.slice Ae i ce) B (i + 1) d (vs ++ enL x v)) : CB3 w bk es os np pv x0 x3 A1 A2 c1 c2 gA (i + 1) B d (vs ++ enL x v) (W'.setCell ⟨gA, 2, none⟩ (.slice B (i + 1) d)) := by
 have hbs := h.bel.size
 have hrl := h.res.lt
 have hge := h.ge
 have hol := h.out.lt
 have hnA : ∀ g, g < w.heap.size + 2 → some g ≠ (Value.slice Ae i ce).ownBlock := fun g hg e => by have := (h.eLt e.symm).1; omega
 have hA : (Value.slice B (i + 1) d).ownBlock ≠ some gA := fun e => by
  rcases ha.new _ e with h3 | h3
  · exact h.eA h3
  omega
 have hgA : some gA ≠ (Value.slice Ae i ce).ownBlock := fun e => h.eA e.symm
 have hg2 := grown_setv W' gA 2 (.slice B (i + 1) d)
 have hs0 := ha.grown.size
 have b1 : Below w.heap.size w W' := h.bel.grown ha.grown (by omega) (fun g e => by have := (h.eLt e).1; omega)
 have hout := (h.out.grown ha.grown hgA).set_ 2 (.slice B (i + 1) d)
 have heo : Sep (.slice B (i + 1) d) (.slice A1 os.length c1) := (Sep.app h.o h.eo.symm ha).symm
 have hep : Sep (.slice B (i + 1) d) (.slice A2 np c2) := (Sep.app h.p h.ep.symm ha).symm
 refine ⟨b1.grown hg2 (by omega) (fun g e => by injection e with e; omega), (h.box.grown ha.grown (hnA _ (by omega))).grown hg2 (by intro e; injection e with e; omega), (h.res.grown ha.grown (hnA _ (by omega))).grown hg2 (by intro e; injection e with e; omega), by simpa using hout, h.ge,
  World.ownsRow.kept (own_sep h.o ha.grown h.eo.symm) hg2 (.inr h.oA), World.ownsRow.kept (own_sep h.p ha.grown h.ep.symm) hg2 (.inr h.pA), World.ownsRow.kept ha.own hg2 (.inr hA), h.oA, h.pA, hA, heo, hep, ?_⟩
 rw [hx]
 have key : ∀ q, (w.heap.size + 2 ≤ q ∧ q < W.heap.size ∧ (Value.slice Ae i ce).ownBlock ≠ some q ∧ q ≠ gA) → (w.heap.size + 2 ≤ q ∧ q < (W'.setCell ⟨gA, 2, none⟩ (.slice B (i + 1) d)).heap.size ∧ (Value.slice B (i + 1) d).ownBlock ≠ some q ∧ q ≠ gA) ∧ ∀ o, (W'.setCell ⟨gA, 2, none⟩ (.slice B (i + 1) d)).cell? ⟨q, o, none⟩ = W.cell? ⟨q, o, none⟩ := fun q hq => by
  have hs1 := ha.grown.size
  have hs2 := hg2.size
  refine ⟨⟨hq.1, by omega, fun e => ?_, hq.2.2.2⟩, fun o => ?_⟩
  · rcases ha.new _ e with h3 | h3
    · exact hq.2.2.1 h3
    omega
  rw [cell_of_heap (hg2.block q (by omega) (by intro e; injection e with e; exact hq.2.2.2 e)) o]
  exact cell_of_heap (ha.grown.block q hq.2.1 (fun e => hq.2.2.1 e.symm)) o
 exact EnL.add (hq.keep key) _ _ (EnL.keep key _ _ h.ens)
end
abbrev RNew (W5 : World) (sA g6 : Nat) (W : World) (q : Nat) : Prop := W5.heap.size ≤ q ∧ q < W.heap.size ∧ (sA = 1 → q ≠ g6)
structure CE1 (W5 : World) (c sA g6 : Nat) (v : EnVal) (x : En) (W : World) : Prop where
 bel : Below W5.heap.size W5 W
 al : sA = 1 → Blk W g6 52 ZEN ∧ W5.heap.size ≤ g6
 q1 : 1 ≤ c → TermR (RNew W5 sA g6 W) W v.As v.ns v.cs x.sort
 q2 : 2 ≤ c → RowsR (RNew W5 sA g6 W) W v.Ap v.np v.cp x.params
 q3 : 3 ≤ c → RowsR (RNew W5 sA g6 W) W v.Ai v.ni v.ci x.indices
 q4 : 4 ≤ c → TermR (RNew W5 sA g6 W) W v.At v.nt v.ct x.type
 q5 : 5 ≤ c → TermR (RNew W5 sA g6 W) W v.Ab v.nb v.cb x.body
abbrev New (W W' : World) (q : Nat) : Prop := W.heap.size ≤ q ∧ q < W'.heap.size
section
variable {W5 W W' : World} {c sA g6 : Nat} {v : EnVal} {x : En}
theorem CE1.start (W5 : World) (v : EnVal) (x : En) : CE1 W5 0 0 0 v x W5 :=
 ⟨Below.refl _ _, (fun e => by cases e), fun e => absurd e (by omega), fun e => absurd e (by omega), fun e => absurd e (by omega), fun e => absurd e (by omega), fun e => absurd e (by omega)⟩
theorem CE1.start' (W5 : World) (v : EnVal) (x : En) : CE1 W5 0 0 0 v x W5.drew :=
 ⟨below_drewN (Below.refl _ _) 1, (fun e => by cases e), fun e => absurd e (by omega), fun e => absurd e (by omega), fun e => absurd e (by omega), fun e => absurd e (by omega), fun e => absurd e (by omega)⟩
theorem CE1.a (h : CE1 W5 c 0 g6 v x W) : CE1 W5 c 1 W.heap.size v x (W.alloc (.cells ZEN 52)) := by
 have hs := h.bel.size
 have key : ∀ q, RNew W5 0 g6 W q → RNew W5 1 W.heap.size (W.alloc (.cells ZEN 52)) q ∧ ∀ o, (W.alloc (.cells ZEN 52)).cell? ⟨q, o, none⟩ = W.cell? ⟨q, o, none⟩ := fun q hq => ⟨⟨hq.1, by simp; omega, fun _ => by omega⟩, fun o => (below_alloc W _).cell (p := ⟨q, o, none⟩) hq.2.1⟩
 exact ⟨h.bel.alloc hs _, fun _ => ⟨Blk.new W _ _, hs⟩, fun e => (h.q1 e).keep key, fun e => (h.q2 e).keep key, fun e => (h.q3 e).keep key, fun e => (h.q4 e).keep key, fun e => (h.q5 e).keep key⟩
theorem CE1.key (_h : CE1 W5 c sA g6 v x W) (hb : Below W.heap.size W W') : ∀ q, RNew W5 sA g6 W q → RNew W5 sA g6 W' q ∧ ∀ o, W'.cell? ⟨q, o, none⟩ = W.cell? ⟨q, o, none⟩ :=
 fun q hq => ⟨⟨hq.1, Nat.lt_of_lt_of_le hq.2.1 hb.size, hq.2.2⟩, fun o => hb.cell (p := ⟨q, o, none⟩) hq.2.1⟩
theorem CE1.new (h : CE1 W5 c sA g6 v x W) : ∀ q, New W W' q → RNew W5 sA g6 W' q ∧ ∀ o, W'.cell? ⟨q, o, none⟩ = W'.cell? ⟨q, o, none⟩ :=
 fun q hq => ⟨⟨Nat.le_trans h.bel.size hq.1, hq.2, fun e => by have := (h.al e).1.lt; have := hq.1; omega⟩, fun _ => rfl⟩
theorem CE1.n1 (h : CE1 W5 0 sA g6 v x W) (hb : Below W.heap.size W W') {A : Option Addr} {n d : Nat} (ht : TermR (New W W') W' A n d x.sort) : CE1 W5 1 sA g6 { v with As := A, ns := n, cs := d } x W' :=
 ⟨h.bel.trans (hb.mono h.bel.size), fun e => ⟨(h.al e).1.below hb (h.al e).1.lt, (h.al e).2⟩, fun _ => ht.keep h.new, fun e => absurd e (by omega), fun e => absurd e (by omega), fun e => absurd e (by omega), fun e => absurd e (by omega)⟩
theorem CE1.n2 (h : CE1 W5 1 sA g6 v x W) (hb : Below W.heap.size W W') {A : Option Addr} {n d : Nat} (ht : RowsR (New W W') W' A n d x.params) : CE1 W5 2 sA g6 { v with Ap := A, np := n, cp := d } x W' :=
 ⟨h.bel.trans (hb.mono h.bel.size), fun e => ⟨(h.al e).1.below hb (h.al e).1.lt, (h.al e).2⟩, fun _ => (h.q1 (by omega)).keep (h.key hb), fun _ => ht.keep h.new, fun e => absurd e (by omega), fun e => absurd e (by omega), fun e => absurd e (by omega)⟩
theorem CE1.n3 (h : CE1 W5 2 sA g6 v x W) (hb : Below W.heap.size W W') {A : Option Addr} {n d : Nat} (ht : RowsR (New W W') W' A n d x.indices) : CE1 W5 3 sA g6 { v with Ai := A, ni := n, ci := d } x W' :=
 ⟨h.bel.trans (hb.mono h.bel.size), fun e => ⟨(h.al e).1.below hb (h.al e).1.lt, (h.al e).2⟩, fun _ => (h.q1 (by omega)).keep (h.key hb), fun _ => (h.q2 (by omega)).keep (h.key hb), fun _ => ht.keep h.new, fun e => absurd e (by omega), fun e => absurd e (by omega)⟩
theorem CE1.n4 (h : CE1 W5 3 sA g6 v x W) (hb : Below W.heap.size W W') {A : Option Addr} {n d : Nat} (ht : TermR (New W W') W' A n d x.type) : CE1 W5 4 sA g6 { v with At := A, nt := n, ct := d } x W' :=
 ⟨h.bel.trans (hb.mono h.bel.size), fun e => ⟨(h.al e).1.below hb (h.al e).1.lt, (h.al e).2⟩, fun _ => (h.q1 (by omega)).keep (h.key hb), fun _ => (h.q2 (by omega)).keep (h.key hb), fun _ => (h.q3 (by omega)).keep (h.key hb), fun _ => ht.keep h.new, fun e => absurd e (by omega)⟩
theorem CE1.n5 (h : CE1 W5 4 sA g6 v x W) (hb : Below W.heap.size W W') {A : Option Addr} {n d : Nat} (ht : TermR (New W W') W' A n d x.body) : CE1 W5 5 sA g6 { v with Ab := A, nb := n, cb := d } x W' :=
 ⟨h.bel.trans (hb.mono h.bel.size), fun e => ⟨(h.al e).1.below hb (h.al e).1.lt, (h.al e).2⟩, fun _ => (h.q1 (by omega)).keep (h.key hb), fun _ => (h.q2 (by omega)).keep (h.key hb), fun _ => (h.q3 (by omega)).keep (h.key hb), fun _ => (h.q4 (by omega)).keep (h.key hb), fun _ => ht.keep h.new⟩
structure CE2 (W5 : World) (g6 : Nat) (v : EnVal) (x : En) (W : World) : Prop where
 bel : Below W5.heap.size W5 W
 y : Blk W g6 52 #[.int .i64 x.kind, .slice v.As v.ns v.cs, .slice v.Ap v.np v.cp, .slice v.Ai v.ni v.ci, .slice none 0 0, .slice v.At v.nt v.ct, .slice v.Ab v.nb v.cb]
 ge : W5.heap.size ≤ g6
 q1 : TermR (RNew W5 1 g6 W) W v.As v.ns v.cs x.sort
 q2 : RowsR (RNew W5 1 g6 W) W v.Ap v.np v.cp x.params
 q3 : RowsR (RNew W5 1 g6 W) W v.Ai v.ni v.ci x.indices
 q4 : TermR (RNew W5 1 g6 W) W v.At v.nt v.ct x.type
 q5 : TermR (RNew W5 1 g6 W) W v.Ab v.nb v.cb x.body
theorem CE1.fin (h : CE1 W5 5 1 g6 v x W) : CE2 W5 g6 v x (((((((W.setCell ⟨g6, 0, none⟩ (.int .i64 x.kind)).setCell ⟨g6, 1, none⟩ (.slice v.As v.ns v.cs)).setCell ⟨g6, 2, none⟩ (.slice v.Ap v.np v.cp)).setCell ⟨g6, 3, none⟩ (.slice v.Ai v.ni v.ci)).setCell ⟨g6, 4, none⟩ (.slice none 0 0)).setCell ⟨g6, 5, none⟩ (.slice v.At v.nt v.ct)).setCell ⟨g6, 6, none⟩ (.slice v.Ab v.nb v.cb)) := by
 obtain ⟨ha, hge⟩ := h.al rfl
 have hg := (((((((grown_setv W g6 0 (.int .i64 x.kind)).trans (grown_setv _ g6 1 (.slice v.As v.ns v.cs))).trans (grown_setv _ g6 2 (.slice v.Ap v.np v.cp))).trans (grown_setv _ g6 3 (.slice v.Ai v.ni v.ci))).trans (grown_setv _ g6 4 (.slice none 0 0))).trans (grown_setv _ g6 5 (.slice v.At v.nt v.ct))).trans (grown_setv _ g6 6 (.slice v.Ab v.nb v.cb)))
 have hb := ((((((ha.set_ 0 (.int .i64 x.kind)).set_ 1 (.slice v.As v.ns v.cs)).set_ 2 (.slice v.Ap v.np v.cp)).set_ 3 (.slice v.Ai v.ni v.ci)).set_ 4 (.slice none 0 0)).set_ 5 (.slice v.At v.nt v.ct)).set_ 6 (.slice v.Ab v.nb v.cb)
 generalize (((((((W.setCell ⟨g6, 0, none⟩ (.int .i64 x.kind)).setCell ⟨g6, 1, none⟩ (.slice v.As v.ns v.cs)).setCell ⟨g6, 2, none⟩ (.slice v.Ap v.np v.cp)).setCell ⟨g6, 3, none⟩ (.slice v.Ai v.ni v.ci)).setCell ⟨g6, 4, none⟩ (.slice none 0 0)).setCell ⟨g6, 5, none⟩ (.slice v.At v.nt v.ct)).setCell ⟨g6, 6, none⟩ (.slice v.Ab v.nb v.cb)) = Wz at *
 have hs := h.bel.size
 have key : ∀ q, RNew W5 1 g6 W q → RNew W5 1 g6 Wz q ∧ ∀ o, Wz.cell? ⟨q, o, none⟩ = W.cell? ⟨q, o, none⟩ := fun q hq => ⟨⟨hq.1, Nat.lt_of_lt_of_le hq.2.1 hg.size, hq.2.2⟩, fun o => cell_of_heap (hg.block q hq.2.1 (by intro e; injection e with e; exact hq.2.2 rfl e)) o⟩
 exact ⟨h.bel.grown hg (by omega) (fun g e => by injection e with e; omega), by simpa using hb, hge, (h.q1 (by omega)).keep key, (h.q2 (by omega)).keep key, (h.q3 (by omega)).keep key, (h.q4 (by omega)).keep key, (h.q5 (by omega)).keep key⟩
end
structure CB4 (wm : World) (g6 : Nat) (v : EnVal) (x : En) (k : Nat) (B : Option Addr) (d : Nat) (vs : List Value) (W : World) : Prop where
 mv : Moved (fun q => q = g6) none wm W
 y : Blk W g6 52 #[.int .i64 x.kind, .slice v.As v.ns v.cs, .slice v.Ap v.np v.cp, .slice v.Ai v.ni v.ci, .slice B k d, .slice v.At v.nt v.ct, .slice v.Ab v.nb v.cb]
 own : W.ownsRow wm.heap.size 62 2 (.slice B k d) k vs
 cts : CtL (fun q => wm.heap.size ≤ q ∧ q < W.heap.size ∧ (Value.slice B k d).ownBlock ≠ some q) W vs (x.ctors.take k)
section
variable {W5 wm W W3 W4 : World} {g6 k d : Nat} {v : EnVal} {x : En} {B : Option Addr} {vs : List Value}
theorem CE2.cb4 (h : CE2 W5 g6 v x wm) : CB4 wm g6 v x 0 none 0 [] wm := ⟨Moved.refl _ _ _, h.y, World.ownsRow_nil _ _ _ _, trivial⟩
theorem CB4.drew (h : CB4 wm g6 v x k B d vs W) : CB4 wm g6 v x k B d vs W.drew := ⟨h.mv.drew, h.y.drewN 1, h.own, CtL.keep (R := fun q => wm.heap.size ≤ q ∧ q < W.heap.size ∧ (Value.slice B k d).ownBlock ≠ some q) (R' := fun q => wm.heap.size ≤ q ∧ q < W.drew.heap.size ∧ (Value.slice B k d).ownBlock ≠ some q) (w := W) (w' := W.drew) (fun _ hq => ⟨hq, fun _ => rfl⟩) h.cts⟩
theorem CB4.bel (hc : CE2 W5 g6 v x wm) (h : CB4 wm g6 v x k B d vs W) : Below W5.heap.size W5 W := hc.bel.trans (h.mv.to_below hc.bel.size (fun q e => by subst e; exact hc.ge) (fun g e => by cases e))
theorem CB4.push (h : CB4 wm g6 v x k B d vs W) (hg : g6 < wm.heap.size) {c : Ct} (hx : x.ctors.take (k + 1) = x.ctors.take k ++ [c]) (hb : Below W.heap.size W W3) {B1 B2 : Option Addr} {n1 d1 n2 d2 : Nat} (h1 : RowsR (New W W3) W3 B1 n1 d1 c.args) (h2 : RowsR (New W W3) W3 B2 n2 d2 c.outs) {B' : Option Addr} {d' : Nat}
 (ha : Appended W3 W4 wm.heap.size 62 2 (.slice B k d) B' (k + 1) d' (vs ++ [.slice B1 n1 d1, .slice B2 n2 d2])) : CB4 wm g6 v x (k + 1) B' d' (vs ++ [.slice B1 n1 d1, .slice B2 n2 d2]) (W4.setCell ⟨g6, 4, none⟩ (.slice B' (k + 1) d')) := by
 have hms := h.mv.size
 have hbs := hb.size
 have hol : ∀ g, (Value.slice B k d).ownBlock = some g → wm.heap.size ≤ g ∧ g < W.heap.size := fun g e => ⟨(ownsRow_block h.own e).1, (ownsRow_block h.own e).2.1⟩
 have hg2 := grown_setv W4 g6 4 (.slice B' (k + 1) d')
 have hs4 := ha.grown.size
 have hs5 := hg2.size
 have hn' : (Value.slice B' (k + 1) d').ownBlock ≠ some g6 := fun e => by
  rcases ha.new _ e with h3 | h3
  · have := (hol _ h3).1; omega
  omega
 have hng : some g6 ≠ (Value.slice B k d).ownBlock := fun e => by have := (hol _ e.symm).1; omega
 refine ⟨?_, ?_, World.ownsRow.kept ha.own hg2 (.inr hn'), ?_⟩
 · have m1 : Moved (fun q => q = g6) none wm W3 := h.mv.trans (row' := none) (Moved.of_below hb) (fun _ e => by cases e)
   have m2 : Moved (fun q => q = g6) none wm W4 := m1.trans (Moved.of_grown ha.grown) (fun g e => .inr (hol g e).1)
   exact m2.setCell (p := ⟨g6, 4, none⟩) rfl _
 · have := ((h.y.below hb h.y.lt).grown ha.grown hng).set_ 4 (.slice B' (k + 1) d')
   simpa using this
 rw [hx]
 have key3 : ∀ q, (q < W3.heap.size ∧ (Value.slice B k d).ownBlock ≠ some q ∧ q ≠ g6) → q < (W4.setCell ⟨g6, 4, none⟩ (.slice B' (k + 1) d')).heap.size ∧ (Value.slice B' (k + 1) d').ownBlock ≠ some q ∧ ∀ o, (W4.setCell ⟨g6, 4, none⟩ (.slice B' (k + 1) d')).cell? ⟨q, o, none⟩ = W3.cell? ⟨q, o, none⟩ := fun q hq => by
  refine ⟨by omega, fun e => ?_, fun o => ?_⟩
  · rcases ha.new _ e with h3 | h3
    · exact hq.2.1 h3
    omega
  rw [cell_of_heap (hg2.block q (by omega) (by intro e; injection e with e; exact hq.2.2 e)) o]
  exact cell_of_heap (ha.grown.block q hq.1 (fun e => hq.2.1 e.symm)) o
 have keyN : ∀ q, New W W3 q → (wm.heap.size ≤ q ∧ q < (W4.setCell ⟨g6, 4, none⟩ (.slice B' (k + 1) d')).heap.size ∧ (Value.slice B' (k + 1) d').ownBlock ≠ some q) ∧ ∀ o, (W4.setCell ⟨g6, 4, none⟩ (.slice B' (k + 1) d')).cell? ⟨q, o, none⟩ = W3.cell? ⟨q, o, none⟩ := fun q hq => by
  have h3 := key3 q ⟨hq.2, fun e => by have := (hol _ e).2; have := hq.1; omega, by have := hq.1; omega⟩
  exact ⟨⟨by have := hq.1; omega, h3.1, h3.2.1⟩, h3.2.2⟩
 refine CtL.add (h1.keep keyN) (h2.keep keyN) (CtL.keep (fun q hq => ?_) h.cts)
 have h3 := key3 q ⟨by omega, hq.2.2, by omega⟩
 exact ⟨⟨hq.1, h3.1, h3.2.1⟩, fun o => (h3.2.2 o).trans (hb.cell (p := ⟨q, o, none⟩) hq.2.1)⟩
theorem CB4.fin (hc : CE2 W5 g6 v x wm) (h : CB4 wm g6 v x k B d vs W) (hk : x.ctors.length = k) (hf : k ≤ 5864062014805) : EnQ (New W5 W) W { v with Ac := B, nc := k, cc := d } x ∧ Below W5.heap.size W5 W := by
 have hs := hc.bel.size
 have hms := h.mv.size
 have key : ∀ q, RNew W5 1 g6 wm q → New W5 W q ∧ ∀ o, W.cell? ⟨q, o, none⟩ = wm.cell? ⟨q, o, none⟩ := fun q hq => ⟨⟨hq.1, by omega⟩, fun o => cell_of_heap (h.mv.block q hq.2.1 (hq.2.2 rfl) (by simp)) o⟩
 refine ⟨⟨hc.q1.keep key, hc.q2.keep key, hc.q3.keep key, ?_, hc.q4.keep key, hc.q5.keep key⟩, hc.bel.trans (h.mv.to_below hs (fun q e => by subst e; exact hc.ge) (fun g e => by cases e))⟩
 have hcts := h.cts
 rw [List.take_of_length_le (by omega)] at hcts
 exact own_cts h.own hk hf hcts (fun q hq => ⟨by omega, hq.2.1⟩) (fun g e => ⟨by have := (ownsRow_block h.own e).1; omega, (ownsRow_block h.own e).2.1⟩)
end
theorem blk_news {w : World} {g : Nat} {t : TypeId} {l : List Value} (h : Blk w g t l.toArray) : ∀ ad, some (⟨g, 0, none⟩ : Addr) = some ad → ∀ j u, l[j]? = some u → w.cell? (ad.add j) = some u := by
 intro ad e j u hu
 injection e with e
 subst e
 have ea : (⟨g, 0, none⟩ : Addr).add j = ⟨g, j, none⟩ := by unfold Addr.add; split <;> simp_all
 rw [ea, h.cell]
 simpa using hu
theorem own_term3 {w : World} {base : Nat} {e : TypeId} {A : Option Addr} {c : Nat} {l : List Nd} (h : w.ownsRow base e 3 (.slice A l.length c) l.length (flat l)) (hl : l.length ≤ 5864062014805) (hcap : l.length ≤ c) (hnul : A = none → c = 0) : TermV w A l.length c l := by
 refine ⟨rfl, hcap, hl, hnul, fun hpos => ?_⟩
 have h0 := h
 rcases h.2 with ⟨_, h2⟩ | ⟨g, cap', cur, hv2, hg, hh, _⟩
 · omega
 injection hv2 with e1 e2 e3
 subst e1
 refine ⟨g, 0, rfl, (ownsRow_block h0 rfl).2.1, fun k hk => ?_⟩
 obtain ⟨x1, x2, x3⟩ := flat_at l k hk
 exact ⟨own_cellG h0 x1, own_cellG h0 x2, own_cellG h0 x3⟩
theorem own_cap {w : World} {base z n c : Nat} {e : TypeId} {A : Option Addr} {xs : List Value} (h : w.ownsRow base e z (.slice A n c) n xs) : n ≤ c ∧ (A = none → c = 0) := by
 rcases h.2 with ⟨hv, h2⟩ | ⟨g, cap', cur, hv, hg, hh, hc, _⟩
 · injection hv with e1 e2 e3
   exact ⟨by omega, fun _ => e3⟩
 injection hv with e1 e2 e3
 exact ⟨by omega, fun e => by rw [e1] at e; cases e⟩
theorem own_prs {w : World} {base n c : Nat} {A : Option Addr} {ps : List (Int × Int)} {pv : List Value} (h : w.ownsRow base 54 2 (.slice A n c) n pv) (hn : ps.length = n) (hf : n ≤ 8796093021952) (hr : ∀ k, k < n → pv[k * 2]? = some (.int .i64 (ps.getD k (0, 0)).1) ∧ pv[k * 2 + 1]? = some (.int .i64 (ps.getD k (0, 0)).2)) : PrsV w A n c ps := by
 refine ⟨hn, hf, fun hpos => ?_⟩
 have h0 := h
 rcases h.2 with ⟨_, h2⟩ | ⟨g, cap', cur, hv2, hg, hh, _⟩
 · omega
 injection hv2 with e1 e2 e3
 subst e1
 exact ⟨g, 0, rfl, (ownsRow_block h0 rfl).2.1, fun k hk => ⟨own_cellG h0 (hr k hk).1, own_cellG h0 (hr k hk).2⟩⟩
theorem CB3.fin {w W : World} {bk : Array Value} {b : Bk} {np : Nat} {pv : List Value} {x0 x3 : Value} {A1 A2 Ae : Option Addr} {c1 c2 gA ce : Nat} {vs : List Value} {v : BkVal} (h : CB3 w bk b.entries b.orders np pv x0 x3 A1 A2 c1 c2 gA b.entries.length Ae ce vs W) {W0 : World} (hb : BookV W0 v b) (hnp : b.prims.length = np)
 (hr : ∀ k, k < np → pv[k * 2]? = some (.int .i64 (b.prims.getD k (0, 0)).1) ∧ pv[k * 2 + 1]? = some (.int .i64 (b.prims.getD k (0, 0)).2)) (y0 y1 y2 y3 y4 : Value) :
 BookV (((((W.setCell ⟨w.heap.size + 1, 0, none⟩ y0).setCell ⟨w.heap.size + 1, 1, none⟩ y1).setCell ⟨w.heap.size + 1, 2, none⟩ y2).setCell ⟨w.heap.size + 1, 3, none⟩ y3).setCell ⟨w.heap.size + 1, 4, none⟩ y4) ⟨A1, b.orders.length, c1, Ae, b.entries.length, ce, A2, np, c2⟩ b ∧
 Below w.heap.size w (((((W.setCell ⟨w.heap.size + 1, 0, none⟩ y0).setCell ⟨w.heap.size + 1, 1, none⟩ y1).setCell ⟨w.heap.size + 1, 2, none⟩ y2).setCell ⟨w.heap.size + 1, 3, none⟩ y3).setCell ⟨w.heap.size + 1, 4, none⟩ y4) ∧
 Blk (((((W.setCell ⟨w.heap.size + 1, 0, none⟩ y0).setCell ⟨w.heap.size + 1, 1, none⟩ y1).setCell ⟨w.heap.size + 1, 2, none⟩ y2).setCell ⟨w.heap.size + 1, 3, none⟩ y3).setCell ⟨w.heap.size + 1, 4, none⟩ y4) (w.heap.size + 1) 26 #[y0, y1, y2, y3, y4] := by
 have hg := (((((grown_setv W (w.heap.size + 1) 0 y0).trans (grown_setv _ (w.heap.size + 1) 1 y1)).trans (grown_setv _ (w.heap.size + 1) 2 y2)).trans (grown_setv _ (w.heap.size + 1) 3 y3)).trans (grown_setv _ (w.heap.size + 1) 4 y4))
 have hbl := ((((h.res.set_ 0 y0).set_ 1 y1).set_ 2 y2).set_ 3 y3).set_ 4 y4
 generalize (((((W.setCell ⟨w.heap.size + 1, 0, none⟩ y0).setCell ⟨w.heap.size + 1, 1, none⟩ y1).setCell ⟨w.heap.size + 1, 2, none⟩ y2).setCell ⟨w.heap.size + 1, 3, none⟩ y3).setCell ⟨w.heap.size + 1, 4, none⟩ y4) = Wz at *
 have hbs := h.bel.size
 have hrl := h.res.lt
 have no : ∀ {e : TypeId} {z n : Nat} {u : Value} {xs : List Value}, W.ownsRow (w.heap.size + 2) e z u n xs → u.ownBlock ≠ some (w.heap.size + 1) := fun hh e => by have := (ownsRow_block hh e).1; omega
 have e1 := World.ownsRow.kept h.o hg (.inr (no h.o))
 have e2 := World.ownsRow.kept h.p hg (.inr (no h.p))
 have e3 := World.ownsRow.kept h.e hg (.inr (no h.e))
 refine ⟨⟨?_, ?_, own_prs e2 hnp (by rw [← hnp, hb.prims.len]; exact hb.prims.few) hr, hb.vars, hb.nat, hb.kinds, hb.primsw⟩, h.bel.grown hg (by omega) (fun g e => by injection e with e; omega), by simpa using hbl⟩
 · exact own_term3 e1 (by have := hb.orders.few; have := hb.orders.len; omega) (own_cap e1).1 (own_cap e1).2
 have hens := h.ens
 rw [List.take_of_length_le (Nat.le_refl _)] at hens
 exact own_ens (S := fun q => q < Wz.heap.size) e3 rfl (by have := hb.entries.few; have := hb.entries.len; show b.entries.length ≤ _; omega) (EnL.keep (fun q hq => ⟨Nat.lt_of_lt_of_le hq.2.1 hg.size, fun o => cell_of_heap (hg.block q hq.2.1 (by intro e; injection e with e; omega)) o⟩) _ _ hens) (fun q hq => hq)
end Go.Proofs.Ytjllmblbbgojbaa
