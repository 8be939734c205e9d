/- CopyBook of the reference: its first statement, in whatever order. -/
import Derived.Test.YtjllmblbbgojbaaKCopyD
import Derived.Test.YtjllmblbbgojbaaKFines
namespace Go.Proofs.Ytjllmblbbgojbaa
open Go.RowKit
theorem infoO : (Try.prog.info? 67).map (fun i => (i.zero, i.size, i.bytes)) = some (some (.agg #[.int .i64 0, .int .i64 0, .int .i64 0]), 3, 24) := by kernel_rfl
theorem infoP : (Try.prog.info? 54).map (fun i => (i.zero, i.size, i.bytes)) = some (some (.agg #[.int .i64 0, .int .i64 0]), 2, 16) := by kernel_rfl
abbrev ZBK : Array Value := #[.int .i64 0, .slice none 0 0, .slice none 0 0, .int .i64 0, .slice none 0 0]
structure CB1 (w : World) (bk : Array Value) (os : List Nd) (np : Nat) (pv : List Value) (s1 s2 sA : Nat) (v1 v2 : Value) (gA : Nat) (W : World) : Prop where
 bel : Below w.heap.size w W
 box : Blk W w.heap.size 26 bk
 res : Blk W (w.heap.size + 1) 26 ZBK
 o1 : s1 = 1 → W.ownsRow (w.heap.size + 2) 67 3 v1 0 []
 o2 : s1 = 2 → W.ownsRow (w.heap.size + 2) 67 3 v1 os.length (flat os)
 p1 : s2 = 1 → W.ownsRow (w.heap.size + 2) 54 2 v2 0 []
 p2 : s2 = 2 → W.ownsRow (w.heap.size + 2) 54 2 v2 np pv
 n1 : s1 ≤ 2
 n2 : s2 ≤ 2
 al : sA = 1 → Blk W gA 26 ZBK ∧ w.heap.size + 2 ≤ gA
 s12 : 0 < s1 → 0 < s2 → Sep v1 v2
 s1A : 0 < s1 → sA = 1 → v1.ownBlock ≠ some gA
 s2A : 0 < s2 → sA = 1 → v2.ownBlock ≠ some gA
section
variable {w W : World} {bk : Array Value} {os : List Nd} {np : Nat} {pv : List Value} {s1 s2 sA : Nat} {v1 v2 : Value} {gA : Nat}
theorem CB1.big (h : CB1 w bk os np pv s1 s2 sA v1 v2 gA W) : w.heap.size + 2 ≤ W.heap.size := h.res.lt
theorem CB1.lt1 (h : CB1 w bk os np pv s1 s2 sA v1 v2 gA W) (h1 : 0 < s1) {g : Nat} (hg : v1.ownBlock = some g) : w.heap.size + 2 ≤ g ∧ g < W.heap.size := by
 have := h.n1
 rcases Nat.lt_or_ge s1 2 with h2 | h2
 · obtain ⟨a, b, _⟩ := ownsRow_block (h.o1 (by omega)) hg
   exact ⟨a, b⟩
 obtain ⟨a, b, _⟩ := ownsRow_block (h.o2 (by omega)) hg
 exact ⟨a, b⟩
theorem CB1.lt2 (h : CB1 w bk os np pv s1 s2 sA v1 v2 gA W) (h1 : 0 < s2) {g : Nat} (hg : v2.ownBlock = some g) : w.heap.size + 2 ≤ g ∧ g < W.heap.size := by
 have := h.n2
 rcases Nat.lt_or_ge s2 2 with h2 | h2
 · obtain ⟨a, b, _⟩ := ownsRow_block (h.p1 (by omega)) hg
   exact ⟨a, b⟩
 obtain ⟨a, b, _⟩ := ownsRow_block (h.p2 (by omega)) hg
 exact ⟨a, b⟩
theorem CB1.drew (h : CB1 w bk os np pv s1 s2 sA v1 v2 gA W) : CB1 w bk os np pv s1 s2 sA v1 v2 gA W.drew := ⟨below_drewN h.bel 1, h.box.drewN 1, h.res.drewN 1, h.o1, h.o2, h.p1, h.p2, h.n1, h.n2, fun e => ⟨(h.al e).1.drewN 1, (h.al e).2⟩, h.s12, h.s1A, h.s2A⟩
theorem CB1.b1 (h : CB1 w bk os np pv 0 s2 sA v1 v2 gA W) : CB1 w bk os np pv 1 s2 sA (.slice (some ⟨W.heap.size, 0, none⟩) 0 0) v2 gA (W.alloc (.cells #[] 67)) := by
 have hb := h.big
 have ho : ∀ g, (Value.slice (some ⟨W.heap.size, 0, none⟩) 0 0).ownBlock = some g → g = W.heap.size := fun g e => by injection e with e; exact e.symm
 refine ⟨h.bel.alloc (by omega) _, h.box.alloc _, h.res.alloc _, fun _ => World.ownsRow_made W #[] 0 (by omega) (Nat.zero_le _) rfl, fun e => (by cases e), fun e => World.ownsRow.alloc (h.p1 e) _, fun e => World.ownsRow.alloc (h.p2 e) _, by omega, h.n2, fun e => ⟨(h.al e).1.alloc _, (h.al e).2⟩, fun _ h2 g e1 e2 => ?_, fun _ h2 e => ?_, h.s2A⟩
 · have := ho g e1
   have := (h.lt2 h2 e2).2
   omega
 have := ho _ e
 have := (h.al h2).1.lt
 omega
theorem CB1.b2 (h : CB1 w bk os np pv s1 0 sA v1 v2 gA W) : CB1 w bk os np pv s1 1 sA v1 (.slice (some ⟨W.heap.size, 0, none⟩) 0 0) gA (W.alloc (.cells #[] 54)) := by
 have hb := h.big
 have ho : ∀ g, (Value.slice (some ⟨W.heap.size, 0, none⟩) 0 0).ownBlock = some g → g = W.heap.size := fun g e => by injection e with e; exact e.symm
 refine ⟨h.bel.alloc (by omega) _, h.box.alloc _, h.res.alloc _, fun e => World.ownsRow.alloc (h.o1 e) _, fun e => World.ownsRow.alloc (h.o2 e) _, fun _ => World.ownsRow_made W #[] 0 (by omega) (Nat.zero_le _) rfl, fun e => (by cases e), h.n1, by omega, fun e => ⟨(h.al e).1.alloc _, (h.al e).2⟩, fun h1 _ g e1 e2 => ?_, h.s1A, fun _ h2 e => ?_⟩
 · have := ho g e2
   have := (h.lt1 h1 e1).2
   omega
 have := ho _ e
 have := (h.al h2).1.lt
 omega
theorem CB1.a (h : CB1 w bk os np pv s1 s2 0 v1 v2 gA W) : CB1 w bk os np pv s1 s2 1 v1 v2 W.heap.size (W.alloc (.cells ZBK 26)) := by
 have hb := h.big
 refine ⟨h.bel.alloc (by omega) _, h.box.alloc _, h.res.alloc _, fun e => World.ownsRow.alloc (h.o1 e) _, fun e => World.ownsRow.alloc (h.o2 e) _, fun e => World.ownsRow.alloc (h.p1 e) _, fun e => World.ownsRow.alloc (h.p2 e) _, h.n1, h.n2, fun _ => ⟨Blk.new W _ _, hb⟩, h.s12, fun h1 _ e => ?_, fun h2 _ e => ?_⟩
 · have := (h.lt1 h1 e).2
   omega
 have := (h.lt2 h2 e).2
 omega
theorem CB1.q1 (h : CB1 w bk os np pv 1 s2 sA v1 v2 gA W) {W' : World} {A : Option Addr} {c : Nat} (ha : Appended W W' (w.heap.size + 2) 67 3 v1 A os.length c (flat os)) : CB1 w bk os np pv 2 s2 sA (.slice A os.length c) v2 gA W' := by
 have hb := h.big
 have hne : ∀ g, g < w.heap.size + 2 → some g ≠ v1.ownBlock := fun g hg e => by have := (h.lt1 (by omega) e.symm).1; omega
 refine ⟨h.bel.grown ha.grown (by omega) (fun g e => by have := (h.lt1 (by omega) e).1; omega), h.box.grown ha.grown (hne _ (by omega)), h.res.grown ha.grown (hne _ (by omega)), fun e => (by cases e), fun _ => ha.own, fun e => own_sep (h.p1 e) ha.grown (Sep.symm (h.s12 (by omega) (by omega))), fun e => own_sep (h.p2 e) ha.grown (Sep.symm (h.s12 (by omega) (by omega))), by omega, h.n2, fun e => ⟨(h.al e).1.grown ha.grown (fun e2 => h.s1A (by omega) e e2.symm), (h.al e).2⟩, fun _ h2 g e1 e2 => ?_, fun _ h2 e => ?_, h.s2A⟩
 · rcases ha.new g e1 with h3 | h3
   · exact h.s12 (by omega) h2 g h3 e2
   have := (h.lt2 h2 e2).2
   omega
 rcases ha.new _ e with h3 | h3
 · exact h.s1A (by omega) h2 h3
 have := (h.al h2).1.lt
 omega
theorem CB1.q2 (h : CB1 w bk os np pv s1 1 sA v1 v2 gA W) {W' : World} {A : Option Addr} {c : Nat} (ha : Appended W W' (w.heap.size + 2) 54 2 v2 A np c pv) : CB1 w bk os np pv s1 2 sA v1 (.slice A np c) gA W' := by
 have hb := h.big
 have hne : ∀ g, g < w.heap.size + 2 → some g ≠ v2.ownBlock := fun g hg e => by have := (h.lt2 (by omega) e.symm).1; omega
 refine ⟨h.bel.grown ha.grown (by omega) (fun g e => by have := (h.lt2 (by omega) e).1; omega), h.box.grown ha.grown (hne _ (by omega)), h.res.grown ha.grown (hne _ (by omega)), fun e => own_sep (h.o1 e) ha.grown (h.s12 (by omega) (by omega)), fun e => own_sep (h.o2 e) ha.grown (h.s12 (by omega) (by omega)), fun e => (by cases e), fun _ => ha.own, h.n1, by omega, fun e => ⟨(h.al e).1.grown ha.grown (fun e2 => h.s2A (by omega) e e2.symm), (h.al e).2⟩, fun h1 _ g e1 e2 => ?_, h.s1A, fun _ h2 e => ?_⟩
 · rcases ha.new g e2 with h3 | h3
   · exact h.s12 h1 (by omega) g e1 h3
   have := (h.lt1 h1 e1).2
   omega
 rcases ha.new _ e with h3 | h3
 · exact h.s2A (by omega) h2 h3
 have := (h.al h2).1.lt
 omega
structure CB2 (w : World) (bk : Array Value) (os : List Nd) (np : Nat) (pv : List Value) (x0 x3 : Value) (A1 A2 : Option Addr) (c1 c2 gA : Nat) (W : World) : Prop where
 bel : Below w.heap.size w W
 box : Blk W w.heap.size 26 bk
 res : Blk W (w.heap.size + 1) 26 ZBK
 out : Blk W gA 26 #[x0, .slice A1 os.length c1, .slice none 0 0, x3, .slice A2 np c2]
 ge : w.heap.size + 2 ≤ gA
 o : W.ownsRow (w.heap.size + 2) 67 3 (.slice A1 os.length c1) os.length (flat os)
 p : W.ownsRow (w.heap.size + 2) 54 2 (.slice A2 np c2) np pv
 oA : (Value.slice A1 os.length c1).ownBlock ≠ some gA
 pA : (Value.slice A2 np c2).ownBlock ≠ some gA
theorem CB1.fin {A1 A2 : Option Addr} {c1 c2 : Nat} (h : CB1 w bk os np pv 2 2 1 (.slice A1 os.length c1) (.slice A2 np c2) gA W) (x0 x3 : Value) : CB2 w bk os np pv x0 x3 A1 A2 c1 c2 gA (((((W.setCell ⟨gA, 0, none⟩ x0).setCell ⟨gA, 1, none⟩ (.slice A1 os.length c1)).setCell ⟨gA, 2, none⟩ (.slice none 0 0)).setCell ⟨gA, 3, none⟩ x3).setCell ⟨gA, 4, none⟩ (.slice A2 np c2)) := by
 obtain ⟨ha, hge⟩ := h.al rfl
 have hg := (((((grown_setv W gA 0 x0).trans (grown_setv _ gA 1 (.slice A1 os.length c1))).trans (grown_setv _ gA 2 (.slice none 0 0))).trans (grown_setv _ gA 3 x3)).trans (grown_setv _ gA 4 (.slice A2 np c2)))
 have hb := ((((ha.set_ 0 x0).set_ 1 (.slice A1 os.length c1)).set_ 2 (.slice none 0 0)).set_ 3 x3).set_ 4 (.slice A2 np c2)
 have hbig := h.big
 refine ⟨h.bel.grown hg (by omega) (fun g e => by injection e with e; omega), h.box.grown hg (by intro e; injection e with e; omega), h.res.grown hg (by intro e; injection e with e; omega), by simpa using hb, hge, ?_, ?_, h.s1A (by omega) rfl, h.s2A (by omega) rfl⟩
 · exact World.ownsRow.kept (h.o2 rfl) hg (.inr (h.s1A (by omega) rfl))
 exact World.ownsRow.kept (h.p2 rfl) hg (.inr (h.s2A (by omega) rfl))
end
end Go.Proofs.Ytjllmblbbgojbaa
