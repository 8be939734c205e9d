/- Merged: Mem, Tree, Own, Own2, Own3, Fold, HeldE, HeldF, Ints, Short. -/
import Derived.Deep.RegionHeld
import Derived.WalkKit
import Derived.Lib.Hide
import Derived.Deep.Quiet
import Derived.Deep.RegionLaw
import Derived.OrdersHeld
namespace Go.Proofs.YtplecfbdchmogaaGreat
theorem _root_.Go.RowKit.Hid.o {p : Prop} (h : RowKit.Hid p) : p := RowKit.Hid.out h
theorem _root_.Go.Shut.o {p : Prop} (h : Shut p) : p := Shut.out h
theorem aA {p : Prop} (h : p := by omega) : p := h
open Go.Lib (hid)
section
open Go.RowKit
structure Nd where
 op : Int
 a : Int
 b : Int
deriving DecidableEq
instance : Inhabited Nd := ⟨⟨0, 0, 0⟩⟩
def aL (l : List Nd) (k : Nat) : Nd := l.getD k default
theorem kE {l : List Nd} {k : Nat} (h : k < l.length) : aL l k = l[k] := by simp [aL, h]
theorem oL (l : List Nd) (m k : Nat) : aL (l.drop m) k = aL l (m + k) := by simp [aL]
theorem JA {l m : List Nd} (h : l.length = m.length) (hk : ∀ k, k < l.length → aL l k = aL m k) : l = m := by
 apply List.ext_getElem h
 intro i h1 h2
 have := hk i h1
 rwa [kE h1, kE h2] at this
theorem jR {l : List Nd} {k : Nat} (h : k < l.length) : l.drop k = aL l k :: l.drop (k + 1) := by
 rw [kE h]; exact List.drop_eq_getElem_cons h
def qG (w : World) (b off : Nat) (l : List Nd) : Prop :=
 ∀ k, k < l.length → w.cell? ⟨b, off + k * 3, none⟩ = some (.int .i64 (aL l k).op) ∧ w.cell? ⟨b, off + k * 3 + 1, none⟩ = some (.int .i64 (aL l k).a) ∧ w.cell? ⟨b, off + k * 3 + 2, none⟩ = some (.int .i64 (aL l k).b)
structure bJ (R : Nat → Prop) (w : World) (A : Option Addr) (n c : Nat) (l : List Nd) : Prop where
 len : l.length = n
 cap : n ≤ c
 few : n ≤ 5864062014805
 nul : A = none → c = 0
 mem : 0 < n → ∃ b off, A = some ⟨b, off, none⟩ ∧ R b ∧ qG w b off l
abbrev aQ (w : World) (A : Option Addr) (n cap : Nat) (l : List Nd) : Prop := bJ (· < w.heap.size) w A n cap l
theorem aQ.at_ {w : World} {A : Option Addr} {n c : Nat} {l : List Nd} (h : aQ w A n c l) {p : Nat} (hp : p < n) :
 ∃ b off, A = some ⟨b, off, none⟩ ∧ b < w.heap.size ∧ w.cell? ⟨b, off + p * 3, none⟩ = some (.int .i64 (aL l p).op) ∧ w.cell? ⟨b, off + p * 3 + 1, none⟩ = some (.int .i64 (aL l p).a) ∧ w.cell? ⟨b, off + p * 3 + 2, none⟩ = some (.int .i64 (aL l p).b) := by
 obtain ⟨b, off, e, hb, hm⟩ := h.mem (by omega)
 exact ⟨b, off, e, hb, hm p (by rw [h.len]; exact hp)⟩
theorem aQ.cells {w : World} {b off n c : Nat} {l : List Nd} (h : aQ w (some ⟨b, off, none⟩) n c l) {p : Nat} (hp : p < n) :
 b < w.heap.size ∧ w.cell? ⟨b, off + p * 3, none⟩ = some (.int .i64 (aL l p).op) ∧ w.cell? ⟨b, off + p * 3 + 1, none⟩ = some (.int .i64 (aL l p).a) ∧ w.cell? ⟨b, off + p * 3 + 2, none⟩ = some (.int .i64 (aL l p).b) := by
 obtain ⟨b', off', e, hb, hm⟩ := h.at_ hp
 injection e with e
 injection e with e1 e2
 subst e1 e2
 exact ⟨hb, hm⟩
theorem FL (w : World) (x y z : Value) (t : TypeId) (o : Nat) (v : Value) (h : #[x, y, z][o]? = some v) : (w.alloc (.cells #[x, y, z] t)).cell? ⟨w.heap.size, o, none⟩ = some v := by
 rw [World.cell?_alloc_new]; exact h
theorem aB (w : World) (o : Obj) : Below w.heap.size w (w.alloc o) := (Below.refl _ _).alloc (Nat.le_refl _) _
theorem dS (w : World) (o o' : Obj) : Below w.heap.size w ((w.alloc o).alloc o') := (aB w o).alloc (by simp) _
theorem qG.keep {w w' : World} {b off : Nat} {l : List Nd} (h : qG w b off l) (hk : ∀ o, w'.cell? ⟨b, o, none⟩ = w.cell? ⟨b, o, none⟩) : qG w' b off l := by
 intro k hkl
 rw [hk, hk, hk]
 exact h k hkl
theorem bJ.keep {R R' : Nat → Prop} {w w' : World} {A : Option Addr} {n cap : Nat} {l : List Nd} (h : bJ R w A n cap l) (hR : ∀ b, R b → R' b ∧ ∀ o, w'.cell? ⟨b, o, none⟩ = w.cell? ⟨b, o, none⟩) : bJ R' w' A n cap l :=
 ⟨h.len, h.cap, h.few, h.nul, fun hn => by
  obtain ⟨b, off, e, hb, hm⟩ := h.mem hn
  exact ⟨b, off, e, (hR b hb).1, hm.keep (hR b hb).2⟩⟩
theorem aQ.below {w w' : World} {A : Option Addr} {n cap : Nat} {l : List Nd} (h : aQ w A n cap l) (hb : Below w.heap.size w w') : aQ w' A n cap l :=
 ⟨h.len, h.cap, h.few, h.nul, fun hn => by
  obtain ⟨b, off, e, hlt, hm⟩ := h.mem hn
  exact ⟨b, off, e, Nat.lt_of_lt_of_le hlt hb.size, hm.keep fun o => hb.cell (p := ⟨b, o, none⟩) hlt⟩⟩
theorem aQ.alloc {w : World} {A : Option Addr} {n c : Nat} {l : List Nd} (h : aQ w A n c l) (o : Obj) : aQ (w.alloc o) A n c l := h.below (aB _ _)
theorem aQ.nil (w : World) : aQ w none 0 0 [] := ⟨rfl, Nat.le_refl _, Nat.zero_le _, fun _ => rfl, fun h => absurd h (by omega)⟩
theorem aK {B : Nat} {a w : World} (h : Below B a w) (n : Nat) : Below B a (w.drewN n) := ⟨h.os, h.tape, h.output, h.size, h.block⟩
theorem fX {a b : Bool} (h : a = b) : Ending.returned (.bool a) = .returned (.bool b) := by rw [h]
theorem cH {k : IntKind} {a b : Int} (h : a = b) : Ending.returned (.int k a) = .returned (.int k b) := by rw [h]
theorem lI {W w1 : World} (hb : Below W.heap.size W w1) : (∀ b o, b < W.heap.size → w1.cell? ⟨b, o, none⟩ = W.cell? ⟨b, o, none⟩) ∧ (∀ b o, b < W.heap.size → w1.frozen? ⟨b, o, none⟩ = W.frozen? ⟨b, o, none⟩) :=
 ⟨fun b o h => hb.cell (p := ⟨b, o, none⟩) h, fun b o h => hb.frozen (p := ⟨b, o, none⟩) h⟩
end
section
def bQ (op a b : Int) : Bool :=
 if op = 1 then decide (0 ≤ a ∧ a ≤ 1048576 ∧ b = 0)
 else if op = 2 then decide ((a = 0 ∨ a = 1) ∧ 1 ≤ b ∧ b ≤ 4)
 else if op = 3 then decide (0 ≤ a ∧ a ≤ 16 ∧ 0 ≤ b ∧ b ≤ 1000)
 else if op = 4 then decide (a = 0 ∧ b = 0)
 else if op = 5 then decide (a = 0 ∧ b = 0)
 else if op = 6 then decide (a = 0 ∧ b = 0)
 else if op = 7 then decide (a = 0 ∧ b = 0)
 else if op = 8 then decide (0 ≤ a ∧ a < 64 ∧ b = 0)
 else if op = 9 then decide (0 ≤ a ∧ a < 64 ∧ b = 0)
 else if op = 10 then decide (0 ≤ a ∧ a < 64 ∧ 0 ≤ b ∧ b < 16)
 else if op = 11 then decide (0 ≤ a ∧ a < 64 ∧ 0 ≤ b ∧ b ≤ 16)
 else if op = 12 then decide (1 ≤ b ∧ b ≤ 4 ∧ 0 ≤ a ∧ a < b)
 else if op = 13 then decide (0 ≤ a ∧ a < 16 ∧ b = 0)
 else false
def eI (op b : Int) : Int := if op = 4 then 2 else if op = 5 then 2 else if op = 6 then 2 else if op = 13 then 2 else if op = 7 then 3 else if op = 11 then 2 + b else if op = 12 then b else 0
def eR (op k : Int) : Int := if (op = 4 ∨ op = 5) ∧ k = 1 ∨ op = 7 ∧ k = 2 then 1 else 0
def aS (op b k : Int) : Int := if (op = 4 ∨ op = 5) ∧ k = 1 ∨ op = 7 ∧ k = 2 then 1 else if op = 12 ∧ k % 2 = 1 then b else 0
theorem wR {c : Prop} [Decidable c] {x y : Bool} {q : Prop} (h1 : c → (x = true ↔ q)) (h2 : ¬ c → (y = true ↔ q)) : (if c then x else y) = true ↔ q := by
 split
 · exact h1 ‹_›
 exact h2 ‹_›
def iC (n : Nd) : Bool := bQ n.op n.a n.b && decide (n.op ≠ 3) && decide (n.op ≠ 13)
def tN (n : Nd) : Bool := bQ n.op n.a n.b && decide (n.op = 13)
theorem aD {op a b : Int} : bQ op a b = true ↔ (op = 1 ∧ 0 ≤ a ∧ a ≤ 1048576 ∧ b = 0) ∨ (op = 2 ∧ (a = 0 ∨ a = 1) ∧ 1 ≤ b ∧ b ≤ 4) ∨ (op = 3 ∧ 0 ≤ a ∧ a ≤ 16 ∧ 0 ≤ b ∧ b ≤ 1000) ∨
 ((op = 4 ∨ op = 5 ∨ op = 6 ∨ op = 7) ∧ a = 0 ∧ b = 0) ∨ ((op = 8 ∨ op = 9) ∧ 0 ≤ a ∧ a < 64 ∧ b = 0) ∨ (op = 10 ∧ 0 ≤ a ∧ a < 64 ∧ 0 ≤ b ∧ b < 16) ∨ (op = 11 ∧ 0 ≤ a ∧ a < 64 ∧ 0 ≤ b ∧ b ≤ 16) ∨
 (op = 12 ∧ 1 ≤ b ∧ b ≤ 4 ∧ 0 ≤ a ∧ a < b) ∨ (op = 13 ∧ 0 ≤ a ∧ a < 16 ∧ b = 0) := by
 unfold bQ
 iterate 13
  refine wR ?_ ?_ <;> intro _
  · subst_vars; rw [decide_eq_true_eq]; simp
 constructor
 · intro h; cases h
 intro h; omega
theorem kP {op a b : Int} (h : bQ op a b = true) : 0 ≤ b ∧ b ≤ 1000 := by
 rw [aD] at h; omega
theorem EE {op a b : Int} (h : bQ op a b = true) : 1 ≤ op ∧ op ≤ 13 := by
 rw [aD] at h; omega
theorem oO {op a b : Int} (h : bQ op a b = true) : 0 ≤ a ∧ a ≤ 1048576 := by
 rw [aD] at h; omega
theorem wT {op a b : Int} (h : bQ op a b = true) : 0 ≤ eI op b ∧ eI op b ≤ 18 := by
 rw [aD] at h
 simp only [eI]
 repeat' split
 all_goals omega
def ds (n : Nd) : List Bool := if n.op = 12 then (List.replicate n.b.toNat [true, false]).flatten else List.replicate (eI n.op n.b).toNat false
inductive Fo where
 | nil
 | cons (pre : List Nd) (n : Nd) (atoms : List Nd) (kids next : Fo)
def aU : Nat → Int → List Nd → Option (List Nd × List Nd)
 | 0, _, l => some ([], l)
 | _ + 1, _, [] => none
 | k + 1, last, x :: l => if x.op = 3 ∧ bQ x.op x.a x.b = true ∧ last < x.a then (aU k x.a l).map fun p => (x :: p.1, p.2) else none
def fW : Bool → List Nd → Option (List Nd × List Nd)
 | false, l => some ([], l)
 | true, [] => none
 | true, x :: l => if tN x then some ([x], l) else none
def jG (n : Nd) (l : List Nd) : Option (List Nd × List Nd) := if n.op = 2 then aU n.b.toNat (-1) l else some ([], l)
def kF : Nat → List Bool → List Nd → Option (Fo × List Nd)
 | 0, _, _ => none
 | _ + 1, [], l => some (.nil, l)
 | f + 1, d :: dr, l =>
  (fW d l).bind fun p => match p.2 with
   | [] => none
   | n :: l2 => if iC n then
    (jG n l2).bind fun q => (kF f (ds n) q.2).bind fun k => (kF f dr k.2).bind fun x => some (.cons p.1 n q.1 k.1 x.1, x.2)
    else none
theorem kI : ∀ (k : Nat) (last : Int) (l : List Nd) (p : List Nd × List Nd), aU k last l = some p → l = p.1 ++ p.2 ∧ p.1.length = k
 | 0, _, l, p, h => by simp only [aU, Option.some.injEq] at h; subst h; simp
 | k + 1, _, [], p, h => by simp [aU] at h
 | k + 1, last, x :: l, p, h => by
  simp only [aU] at h
  split at h
  · simp only [Option.map_eq_some_iff] at h
    obtain ⟨q, hq, rfl⟩ := h
    obtain ⟨h1, h2⟩ := kI k x.a l q hq
    simp [← h1, h2]
  · cases h
theorem pI {d : Bool} {l : List Nd} {p : List Nd × List Nd} (h : fW d l = some p) : l = p.1 ++ p.2 := by
 cases d with
 | false => simp only [fW, Option.some.injEq] at h; subst h; simp
 | true =>
  cases l with
  | nil => simp [fW] at h
  | cons x l =>
   simp only [fW] at h
   split at h
   · simp only [Option.some.injEq] at h; subst h; simp
   · cases h
theorem lO {n : Nd} {l : List Nd} {p : List Nd × List Nd} (h : jG n l = some p) : l = p.1 ++ p.2 := by
 simp only [jG] at h
 split at h
 · exact (kI _ _ _ _ h).1
 simp only [Option.some.injEq] at h; subst h; simp
def row : Fo → List Nd
 | .nil => []
 | .cons pre n atoms kids next => pre ++ n :: (atoms ++ (row kids ++ row next))
theorem kO : ∀ (f : Nat) (dl : List Bool) (l : List Nd) (x : Fo × List Nd), kF f dl l = some x → l = row x.1 ++ x.2 ∧ (dl ≠ [] → x.2.length < l.length)
 | 0, _, _, _, h => by simp [kF] at h
 | _ + 1, [], l, x, h => by simp only [kF, Option.some.injEq] at h; subst h; simp [row]
 | f + 1, d :: dr, l, x, h => by
  simp only [kF, Option.bind_eq_some_iff] at h
  obtain ⟨p, hp, h⟩ := h
  have e1 := pI hp
  split at h
  · cases h
  · rename_i n l2 hl2
    split at h
    · simp only [Option.bind_eq_some_iff] at h
      obtain ⟨q, hq, k, hk, y, hy, h⟩ := h
      simp only [Option.some.injEq] at h
      subst h
      have e2 := lO hq
      obtain ⟨e3, _⟩ := kO f _ _ _ hk
      obtain ⟨e4, _⟩ := kO f _ _ _ hy
      have e : l = p.1 ++ n :: (q.1 ++ (row k.1 ++ (row y.1 ++ y.2))) := by rw [e1, hl2, e2, e3, e4]
      refine ⟨by rw [e]; simp [row], fun _ => ?_⟩
      rw [e]
      simp
      omega
    cases h
theorem mP : ∀ (f g : Nat) (dl : List Bool) (l : List Nd), l.length < f → l.length < g → kF f dl l = kF g dl l
 | 0, _, _, _, h, _ => absurd h (by omega)
 | _, 0, _, _, _, h => absurd h (by omega)
 | f + 1, g + 1, [], l, _, _ => by simp [kF]
 | f + 1, g + 1, d :: dr, l, hf, hg => by
  simp only [kF]
  refine Option.bind_congr fun p hp => ?_
  have e1 := pI hp
  split
  · rfl
  · rename_i n l2 hl2
    split
    · refine Option.bind_congr fun q hq => ?_
      have e2 := lO hq
      have hlen : q.2.length < l.length := by rw [e1, hl2, e2]; simp; omega
      rw [mP f g (ds n) q.2 (by omega) (by omega)]
      refine Option.bind_congr fun k hk => ?_
      have e3 := (kO _ _ _ _ hk).1
      have hlen2 : k.2.length ≤ q.2.length := by rw [e3]; simp
      rw [mP f g dr k.2 (by omega) (by omega)]
    rfl
def pp (dl : List Bool) (l : List Nd) : Option (Fo × List Nd) := kF (l.length + 1) dl l
theorem kG (l : List Nd) : pp [] l = some (.nil, l) := by simp [pp, kF]
theorem eG (d : Bool) (dr : List Bool) (l : List Nd) : pp (d :: dr) l =
 (fW d l).bind fun p => match p.2 with
  | [] => none
  | n :: l2 => if iC n then
   (jG n l2).bind fun q => (pp (ds n) q.2).bind fun k => (pp dr k.2).bind fun x => some (.cons p.1 n q.1 k.1 x.1, x.2)
   else none := by
 simp only [pp, kF]
 refine Option.bind_congr fun p hp => ?_
 have e1 := pI hp
 split
 · rfl
 rename_i n l2 hl2
 split
 · refine Option.bind_congr fun q hq => ?_
   have e2 := lO hq
   have hlen : q.2.length < l.length := by rw [e1, hl2, e2]; simp; omega
   rw [mP l.length (q.2.length + 1) (ds n) q.2 (by omega) (by omega)]
   refine Option.bind_congr fun k hk => ?_
   have e3 := (kO _ _ _ _ hk).1
   have hlen2 : k.2.length ≤ q.2.length := by rw [e3]; simp
   rw [mP l.length (k.2.length + 1) dr k.2 (by omega) (by omega)]
 rfl
theorem nN {dl : List Bool} {l : List Nd} {x : Fo × List Nd} (h : pp dl l = some x) : l = row x.1 ++ x.2 := (kO _ _ _ _ h).1
theorem tR {dl : List Bool} {l : List Nd} {x : Fo × List Nd} (h : pp dl l = some x) (hd : dl ≠ []) : x.2.length < l.length := (kO _ _ _ _ h).2 hd
def Fo.app : Fo → Fo → Fo
 | .nil, g => g
 | .cons p n a k x, g => .cons p n a k (x.app g)
theorem pG : ∀ (d1 d2 : List Bool) (l : List Nd), pp (d1 ++ d2) l = (pp d1 l).bind fun x => (pp d2 x.2).map fun y => (x.1.app y.1, y.2)
 | [], d2, l => by simp [kG, Fo.app]
 | d :: d1, d2, l => by
  rw [List.cons_append, eG, eG]
  simp only [Option.bind_assoc]
  refine Option.bind_congr fun p hp => ?_
  split
  · rfl
  · split
    · simp only [Option.bind_assoc]
      refine Option.bind_congr fun q hq => ?_
      refine Option.bind_congr fun k hk => ?_
      rw [pG d1 d2 k.2]
      simp only [Option.bind_assoc]
      refine Option.bind_congr fun x hx => ?_
      cases hy : pp d2 x.2 <;> simp [Fo.app, hy]
    rfl
def ends (dl : List Bool) (t : List Nd) (p : Nat) : Option Nat := (pp dl (t.drop p)).map fun x => t.length - x.2.length
theorem mQ {dl : List Bool} {t : List Nd} {p : Nat} {x : Fo × List Nd} (h : pp dl (t.drop p) = some x) (hp : p ≤ t.length) : x.2 = t.drop (t.length - x.2.length) ∧ p ≤ t.length - x.2.length ∧ x.2.length ≤ t.length - p := by
 have e := nN h
 have hl := congrArg List.length e
 rw [List.length_drop, List.length_append] at hl
 refine ⟨?_, by omega, by omega⟩
 have : t.drop (p + (row x.1).length) = x.2 := by rw [← List.drop_drop, e, List.drop_left]
 rw [show t.length - x.2.length = p + (row x.1).length from by omega, this]
theorem F6 {t : List Nd} {p : Nat} (hp : p ≤ t.length) : ends [] t p = some p := by
 simp only [ends, kG, Option.map_some, List.length_drop, Option.some.injEq]; omega
theorem wD (d1 d2 : List Bool) {t : List Nd} {p : Nat} (hp : p ≤ t.length) : ends (d1 ++ d2) t p = (ends d1 t p).bind (ends d2 t) := by
 unfold ends
 rw [pG, Option.map_bind, Option.bind_map]
 refine Option.bind_congr fun x hx => ?_
 obtain ⟨e, _, _⟩ := mQ hx hp
 simp only [Function.comp]
 rw [← e, Option.map_map]
 rfl
theorem o6 (d : Bool) (dr : List Bool) {t : List Nd} {p : Nat} (hp : p ≤ t.length) : ends (d :: dr) t p = (ends [d] t p).bind (ends dr t) := wD [d] dr hp
theorem qH {dl : List Bool} {t : List Nd} {p q : Nat} (h : ends dl t p = some q) (hp : p ≤ t.length) : p ≤ q ∧ q ≤ t.length ∧ (dl ≠ [] → p < q) := by
 simp only [ends, Option.map_eq_some_iff] at h
 obtain ⟨x, hx, rfl⟩ := h
 obtain ⟨_, h1, h2⟩ := mQ hx hp
 refine ⟨h1, by omega, fun hd => ?_⟩
 have := tR hx hd
 rw [List.length_drop] at this
 omega
theorem nZ (d : Bool) (dr : List Bool) {t : List Nd} {p : Nat} (hp : t.length ≤ p) : ends (d :: dr) t p = none := by
 simp only [ends]
 rw [List.drop_eq_nil_of_le hp, eG]
 cases d <;> simp [fW]
theorem F5 (dr : List Bool) {t : List Nd} {p : Nat} (hp : p < t.length) : ends (true :: dr) t p = if tN (aL t p) then ends (false :: dr) t (p + 1) else none := by
 simp only [ends]
 rw [jR hp, eG, eG]
 simp only [fW]
 by_cases h : tN (aL t p) = true
 · simp only [h, if_true, Option.bind_some]
   split
   · rfl
   split
   · simp only [Option.map_bind]
     refine Option.bind_congr fun q hq => ?_
     simp only [Option.map_bind, Function.comp]
     refine Option.bind_congr fun k hk => ?_
     simp only [Option.map_bind, Function.comp]
     refine Option.bind_congr fun x hx => ?_
     rfl
   rfl
 simp [h]
def jD : Nat → Int → List Nd → Nat → Option Nat
 | 0, _, _, p => some p
 | k + 1, last, t, p => if p < t.length ∧ (aL t p).op = 3 ∧ bQ (aL t p).op (aL t p).a (aL t p).b = true ∧ last < (aL t p).a then jD k (aL t p).a t (p + 1) else none
theorem tA : ∀ (k : Nat) (last : Int) (t : List Nd) (p : Nat), p ≤ t.length → (aU k last (t.drop p)).map (fun x => t.length - x.2.length) = jD k last t p
 | 0, _, t, p, hp => by simp only [aU, jD, Option.map_some, List.length_drop, Option.some.injEq]; omega
 | k + 1, last, t, p, hp => by
  by_cases h : p < t.length
  · rw [jR h]
    simp only [aU, jD, h, true_and]
    split
    · rw [← tA k (aL t p).a t (p + 1) h, Option.map_map]; rfl
    rfl
  · rw [List.drop_eq_nil_of_le (by omega)]
    simp [aU, jD, h]
theorem wE {t : List Nd} {p : Nat} (hp : p < t.length) : ends [false] t p = if iC (aL t p) then (if (aL t p).op = 2 then jD (aL t p).b.toNat (-1) t (p + 1) else ends (ds (aL t p)) t (p + 1)) else none := by
 simp only [ends]
 rw [jR hp, eG]
 simp only [fW, Option.bind_some]
 split
 · simp only [jG]
   split
   · rename_i h2
     have hd : ds (aL t p) = [] := by simp [ds, h2, eI]
     rw [← tA _ _ _ _ hp, hd]
     cases aU (aL t p).b.toNat (-1) (t.drop (p + 1)) <;> simp [kG]
   simp only [Option.bind_some, kG, Option.map_bind]
   cases pp (ds (aL t p)) (t.drop (p + 1)) <;> simp
 rfl
def qD (t : List Nd) (at_ : Int) : Int := if 0 ≤ at_ ∧ at_ < t.length then (match ends [false] t at_.toNat with | some q => (q : Int) | none => -1) else -1
def rN : Option Nat → Int
 | some q => q
 | none => -1
theorem FZ (t : List Nd) (p : Nat) : qD t p = rN (ends [false] t p) := by
 simp only [qD]
 split
 · rw [Int.toNat_natCast]; cases ends [false] t p <;> rfl
 rw [nZ _ _ (by omega)]; rfl
def iB (n : Nd) (i : Nat) : List Bool := if n.op = 12 then (List.replicate (n.b.toNat - i) [true, false]).flatten else List.replicate ((eI n.op n.b).toNat - i) false
theorem tV (n : Nd) : iB n 0 = ds n := by simp [iB, ds]
theorem xX (n : Nd) {i : Nat} (h : eI n.op n.b ≤ i) : iB n i = [] := by
 simp only [iB]
 split
 · rename_i h12
   have : n.b.toNat - i = 0 := by simp [eI, h12] at h; omega
   simp [this]
 have : (eI n.op n.b).toNat - i = 0 := by omega
 simp [this]
theorem xY {n : Nd} {i : Nat} (h : n.op = 12) (hi : (i : Int) < n.b) : iB n i = true :: false :: iB n (i + 1) := by
 simp only [iB, h, if_true]
 rw [show n.b.toNat - i = (n.b.toNat - (i + 1)) + 1 from by omega, List.replicate_succ]
 rfl
theorem xZ {n : Nd} {i : Nat} (h : n.op ≠ 12) (hi : (i : Int) < eI n.op n.b) : iB n i = false :: iB n (i + 1) := by
 simp only [iB, h, if_false]
 rw [show (eI n.op n.b).toNat - i = ((eI n.op n.b).toNat - (i + 1)) + 1 from by omega, List.replicate_succ]
theorem mH {l : List Nd} {p m : Nat} {last : Int} (hp : p < l.length) (h3 : (aL l p).op = 3) (hpl : bQ (aL l p).op (aL l p).a (aL l p).b = true) (hl : last < (aL l p).a) :
 aU (m + 1) last (l.drop p) = (aU m (aL l p).a (l.drop (p + 1))).map fun q => (aL l p :: q.1, q.2) := by
 rw [jR hp]; simp only [aU, h3, true_and]; rw [if_pos ⟨by rw [← h3]; exact hpl, hl⟩]
theorem f7 {l : List Nd} {p m : Nat} {last : Int} (h : p < l.length → (aL l p).op = 3 → bQ (aL l p).op (aL l p).a (aL l p).b = true → last < (aL l p).a → False) :
 aU (m + 1) last (l.drop p) = none := by
 by_cases hp : p < l.length
 · rw [jR hp]; simp only [aU]; rw [if_neg (fun hh => h hp hh.1 hh.2.1 hh.2.2)]
 rw [List.drop_eq_nil_of_le (by omega)]; rfl
theorem CD {l : List Nd} (hp : 0 < l.length) (hok : iC (aL l 0) = true) (h2 : (aL l 0).op = 2) :
 pp [false] l = (aU (aL l 0).b.toNat (-1) (l.drop 1)).map fun q => (.cons [] (aL l 0) q.1 .nil .nil, q.2) := by
 cases l with
 | nil => simp at hp
 | cons n m =>
  have e : aL (n :: m) 0 = n := rfl
  rw [e] at hok h2 ⊢
  have hd : ds n = [] := by simp [ds, h2, eI]
  rw [eG]
  simp only [fW, Option.bind_some, hok, if_true, jG, h2, hd, List.drop_one, List.tail_cons, kG]
  cases aU n.b.toNat (-1) m <;> rfl
theorem G6 {l : List Nd} (d : List Bool) (h : 0 < l.length → iC (aL l 0) = false) : pp (false :: d) l = none := by
 cases l with
 | nil => simp [eG, fW]
 | cons n l =>
  have : iC n = false := h (by simp)
  simp [eG, fW, this]
def cF (op b : Int) : Int := if op = 4 then 2 else if op = 5 then 2 else if op = 6 then 2 else if op = 7 then 3 else if op = 11 then 2 + b else if op = 12 then 2 * b else 0
theorem K0 {n : Nd} (h : iC n = true) : 0 ≤ cF n.op n.b ∧ cF n.op n.b ≤ 18 := by
 simp only [iC, Bool.and_eq_true, decide_eq_true_eq] at h
 have h1 := h.1.1
 rw [aD] at h1
 simp only [cF]
 repeat' split
 all_goals omega
theorem KV {n : Nd} (h : iC n = true) : (ds n).length = (cF n.op n.b).toNat := by
 simp only [iC, Bool.and_eq_true, decide_eq_true_eq] at h
 have h1 := kP h.1.1
 simp only [ds]
 split
 · rename_i h12
   simp [cF, h12, List.length_flatten]
   omega
 rename_i h12
 rw [List.length_replicate]
 simp only [eI, cF]
 repeat' split
 all_goals first | rfl | omega
theorem nC : ∀ (m i : Nat), i < 2 * m → ((List.replicate m [true, false]).flatten).drop i = decide (i % 2 = 0) :: ((List.replicate m [true, false]).flatten).drop (i + 1)
 | 0, i, h => absurd h (by omega)
 | m + 1, 0, _ => by simp [List.replicate_succ]
 | m + 1, 1, _ => by simp [List.replicate_succ]
 | m + 1, i + 2, h => by
  have := nC m i (by omega)
  simp only [List.replicate_succ, List.flatten_cons, List.cons_append, List.nil_append, List.drop_succ_cons]
  rw [this, show (i + 2) % 2 = i % 2 from by omega]
theorem I2 {n : Nd} {i : Nat} (h : i < (ds n).length) : (ds n).drop i = decide (n.op = 12 ∧ i % 2 = 0) :: (ds n).drop (i + 1) := by
 by_cases h12 : n.op = 12
 · have e : ds n = (List.replicate n.b.toNat [true, false]).flatten := by simp [ds, h12]
   rw [e] at h ⊢
   rw [nC _ _ (by simpa [List.length_flatten, Nat.mul_comm] using h)]
   simp [h12]
 have e : ds n = List.replicate (eI n.op n.b).toNat false := by simp [ds, h12]
 rw [e] at h ⊢
 rw [List.length_replicate] at h
 simp only [List.drop_replicate, h12, false_and, decide_false]
 rw [show (eI n.op n.b).toNat - i = ((eI n.op n.b).toNat - (i + 1)) + 1 from by omega, List.replicate_succ]
def Fo.setPre (p : List Nd) : Fo → Fo
 | .nil => .nil
 | .cons _ n a k x => .cons p n a k x
theorem pH {l : List Nd} {x : Fo × List Nd} (h : pp [false] l = some x) : ∃ n a k, x.1 = .cons [] n a k .nil := by
 rw [eG] at h
 simp only [fW, Option.bind_some] at h
 split at h
 · cases h
 split at h
 · simp only [Option.bind_eq_some_iff, kG, Option.some.injEq] at h
   obtain ⟨q, _, k, _, y, rfl, rfl⟩ := h
   exact ⟨_, _, _, rfl⟩
 cases h
theorem oP (dr : List Bool) (l : List Nd) : pp (false :: dr) l = (pp [false] l).bind fun x => (pp dr x.2).map fun y => (x.1.app y.1, y.2) := pG [false] dr l
theorem CE (dr : List Bool) (f : Nd) (l : List Nd) : pp (true :: dr) (f :: l) = if tN f then (pp [false] l).bind fun x => (pp dr x.2).map fun y => ((x.1.setPre [f]).app y.1, y.2) else none := by
 rw [eG, eG]
 simp only [fW]
 by_cases h : tN f = true
 · simp only [h, if_true, Option.bind_some]
   split
   · rfl
   split
   · simp only [Option.bind_assoc, kG, Option.bind_some, Fo.setPre]
     refine Option.bind_congr fun q hq => ?_
     refine Option.bind_congr fun k hk => ?_
     cases pp dr k.2 <;> rfl
   rfl
 simp [h]
theorem CC {l : List Nd} (hp : 0 < l.length) (hok : iC (aL l 0) = true) (h2 : (aL l 0).op ≠ 2) :
 pp [false] l = (pp (ds (aL l 0)) (l.drop 1)).map fun q => (.cons [] (aL l 0) [] q.1 .nil, q.2) := by
 cases l with
 | nil => simp at hp
 | cons n m =>
  have e : aL (n :: m) 0 = n := rfl
  rw [e] at hok h2 ⊢
  rw [eG]
  simp only [fW, Option.bind_some, hok, if_true, jG, if_neg h2, List.drop_one, List.tail_cons, kG]
  cases pp (ds n) m <;> rfl
end
section
open Go.RowKit
def fV (n : Nd) : List Value := [.int .i64 n.op, .int .i64 n.a, .int .i64 n.b]
def gK (l : List Nd) : List Value := l.flatMap fV
theorem tG (n : Nd) (l : List Nd) : gK (n :: l) = fV n ++ gK l := rfl
theorem lR (l m : List Nd) : gK (l ++ m) = gK l ++ gK m := by simp [gK]
theorem wL (l : List Nd) : (gK l).length = l.length * 3 := by
 induction l with
 | nil => rfl
 | cons n l ih => rw [tG, List.length_append, ih]; simp [fV]; omega
theorem oC : ∀ (l : List Nd) (k : Nat), k < l.length → (gK l)[k * 3]? = some (.int .i64 (aL l k).op) ∧ (gK l)[k * 3 + 1]? = some (.int .i64 (aL l k).a) ∧ (gK l)[k * 3 + 2]? = some (.int .i64 (aL l k).b)
 | [], k, h => absurd h (by simp)
 | n :: l, 0, _ => ⟨rfl, rfl, rfl⟩
 | n :: l, k + 1, h => by
  obtain ⟨h1, h2, h3⟩ := oC l k (by simpa using h)
  have e : aL (n :: l) (k + 1) = aL l k := rfl
  rw [e, tG]
  refine ⟨?_, ?_, ?_⟩
  · rw [List.getElem?_append_right (by simp [fV]; omega), ← h1]; congr 1; simp [fV]; omega
  · rw [List.getElem?_append_right (by simp [fV]; omega), ← h2]; congr 1; simp [fV]; omega
  · rw [List.getElem?_append_right (by simp [fV]; omega), ← h3]; congr 1; simp [fV]; omega
theorem GB (l : List Nd) : ∀ u ∈ gK l, u.oneCell' = true := by
 intro u hu
 simp only [gK, fV, List.mem_flatMap] at hu
 obtain ⟨n, _, hu⟩ := hu
 simp at hu
 rcases hu with rfl | rfl | rfl <;> rfl
def kK (R : Nat → Prop) (w : World) (v : Value) (l : List Nd) : Prop := ∃ A n c, v = .slice A n c ∧ bJ R w A n c l
theorem kK.keep {R R' : Nat → Prop} {w w' : World} {v : Value} {l : List Nd} (h : kK R w v l) (hR : ∀ b, R b → R' b ∧ ∀ o, w'.cell? ⟨b, o, none⟩ = w.cell? ⟨b, o, none⟩) : kK R' w' v l := by
 obtain ⟨A, n, c, e, h⟩ := h
 exact ⟨A, n, c, e, h.keep hR⟩
theorem kK.nil (R : Nat → Prop) (w : World) : kK R w (.slice none 0 0) [] := ⟨none, 0, 0, rfl, rfl, Nat.le_refl _, Nat.zero_le _, fun _ => rfl, fun h => absurd h (by omega)⟩
def cI (w : World) (base : Nat) (v : Value) (l : List Nd) : Prop := w.ownsRow base 53 3 v l.length (gK l)
theorem cI.nil (w : World) (base : Nat) : cI w base (.slice none 0 0) [] := World.ownsRow_nil w base _ _
theorem aC {w : World} {base : Nat} {e : TypeId} {size : Nat} {v : Value} {n : Nat} {xs : List Value} (h : w.ownsRow base e size v n xs) {g : Nat} (hg : v.ownBlock = some g) : base ≤ g ∧ g < w.heap.size ∧ ∃ cur, w.heap[g]? = some (.cells cur e (0, 0)) := by
 rcases h.2 with ⟨rfl, _⟩ | ⟨g', cap, cur, rfl, hb, hgg, _⟩
 · simp [Value.ownBlock] at hg
 simp only [Value.ownBlock, Option.some.injEq] at hg
 subst hg
 exact ⟨hb, (Array.getElem?_eq_some_iff.1 hgg).1, cur, hgg⟩
theorem cI.termS {w : World} {base : Nat} {v : Value} {l : List Nd} (h : cI w base v l) (hl : l.length ≤ 5864062014805) : kK (fun b => v.ownBlock = some b) w v l := by
 have hc := fun g hg => World.ownsRow.cells h (g := g) hg
 rcases h.2 with ⟨rfl, h0⟩ | ⟨g, cap, cur, rfl, hb, hgg, hcap, _⟩
 · obtain rfl := List.eq_nil_of_length_eq_zero h0
   exact kK.nil _ _
 refine ⟨_, _, _, rfl, rfl, hcap, hl, (fun e => by cases e), fun _ => ⟨g, 0, rfl, rfl, fun k hk => ?_⟩⟩
 obtain ⟨h1, h2, h3⟩ := oC l k hk
 have h1 := hc g rfl _ _ h1
 have h2 := hc g rfl _ _ h2
 have h3 := hc g rfl _ _ h3
 have ea : ∀ j, (⟨g, 0, none⟩ : Addr).add j = ⟨g, j, none⟩ := fun j => by unfold Addr.add; split <;> simp_all
 rw [ea] at h1 h2 h3
 simp only [Nat.zero_add]
 exact ⟨h1, h2, h3⟩
def aE (w : World) (g : Nat) (t : TypeId) (cs : Array Value) : Prop := w.heap[g]? = some (.cells cs t (0, 0))
section
variable {w w' : World} {g : Nat} {t : TypeId} {cs : Array Value}
theorem aE.lt (h : aE w g t cs) : g < w.heap.size := (Array.getElem?_eq_some_iff.1 h).1
theorem aE.cell (h : aE w g t cs) (i : Nat) : w.cell? ⟨g, i, none⟩ = cs[i]? := by
 unfold aE at h
 simp [World.cell?, h]
theorem aE.frozen (h : aE w g t cs) (i : Nat) : w.frozen? ⟨g, i, none⟩ = false := by
 unfold aE at h
 simp [World.frozen?, h]
theorem aE.new (w : World) (t : TypeId) (cs : Array Value) : aE (w.alloc (.cells cs t)) w.heap.size t cs := heap_alloc_new w _
theorem aE.drewN (h : aE w g t cs) (n : Nat) : aE (w.drewN n) g t cs := h
theorem aE.alloc (h : aE w g t cs) (o : Obj) : aE (w.alloc o) g t cs := (Below.heap_alloc w o g h.lt).trans h
theorem aE.set_ (h : aE w g t cs) (i : Nat) (u : Value) : aE (w.setCell ⟨g, i, none⟩ u) g t (cs.setIfInBounds i u) := by
 unfold aE at h ⊢
 simp [World.setCell, Array.getElem?_modify, h]
theorem aE.far (h : aE w g t cs) {p : Addr} (hp : g ≠ p.block) (u : Value) : aE (w.setCell p u) g t cs := (Below.heap_setCell w p u g hp).trans h
theorem aE.below {B : Nat} (h : aE w g t cs) (hb : Below B w w') (hg : g < B) : aE w' g t cs := (hb.block g hg).trans h
theorem aE.grown {row : Option Nat} (h : aE w g t cs) (hb : w.grownBy w' row) (hg : some g ≠ row) : aE w' g t cs := (hb.block g h.lt hg).trans h
end
structure dQ (w w' : World) (base : Nat) (e : TypeId) (size : Nat) (v : Value) (A : Option Addr) (n c : Nat) (xs : List Value) : Prop where
 own : w'.ownsRow base e size (.slice A n c) n xs
 grown : w.grownBy w' v.ownBlock
 new : ∀ g, (Value.slice A n c).ownBlock = some g → v.ownBlock = some g ∨ w.heap.size ≤ g
theorem lL {P : Program} (w : World) (base : Nat) (t ty e : TypeId) (i : TypeInfo) (z : Value) (size bytes : Nat) (ht : P.underlying t = some (.slice e)) (hi : P.info? e = some i) (hz : i.zero = some z)
 (hsize : i.size = size) (hby : i.bytes = bytes) (hzs : z.cells.size = size) (hsz : 0 < size)
 (v : Value) (n : Nat) (xs : List Value) (hown : w.ownsRow base e size v n xs)
 (A : Option Addr) (m c : Nat) (news : List Value) (hl : news.length = m * size) (hnone : A = none → m = 0 ∧ c = 0) (hnews : ∀ ad, A = some ad → ∀ j u, news[j]? = some u → w.cell? (ad.add j) = some u) (h1 : ∀ u ∈ news, u.oneCell' = true)
 (h63 : n + m ≤ maxLen) (hbytes : (n + m) * bytes ≤ 140737488355328) (hbase : base ≤ w.heap.size) :
 ∃ A' c' w', (Builtin.append_ #[t, t] ty #[v, .slice A m c]).run P w = .ok (.slice A' (n + m) c') w' ∧ dQ w w' base e size v A' (n + m) c' (xs ++ news) := by
 cases A with
 | none =>
  obtain ⟨rfl, rfl⟩ := hnone rfl
  obtain rfl : news = [] := List.eq_nil_of_length_eq_zero (by simpa using hl)
  have hr := run_append_owned_none (P := P) w base t ty e i size ht hi v n xs hown
  obtain ⟨A', c', rfl⟩ : ∃ A' c', v = .slice A' n c' := by
   rcases hown.2 with ⟨rfl, rfl⟩ | ⟨g, cap, cur, rfl, _⟩
   · exact ⟨none, 0, rfl⟩
   exact ⟨_, _, rfl⟩
  exact ⟨A', c', w, hr, by simpa using hown, World.grownBy.refl _ _, fun g hg => .inl hg⟩
 | some ad =>
  have hnews := hnews ad rfl
  obtain ⟨v', w', hr, h2, h3, h4⟩ := run_append_own (P := P) w base t ty e i z size bytes ht hi hz hsize hby hzs hsz v n xs hown ad m c news hl hnews h1 h63 hbytes hbase
  obtain ⟨A', c', rfl⟩ : ∃ A' c', v' = .slice A' (n + m) c' := by
   rcases h2.2 with ⟨rfl, h0⟩ | ⟨g, cap, cur, rfl, _⟩
   · rw [h0]; exact ⟨none, 0, rfl⟩
   exact ⟨_, _, rfl⟩
  refine ⟨A', c', w', hr, h2, h3, fun g hg => ?_⟩
  subst hsize
  subst hby
  rcases hown.2 with ⟨rfl, rfl⟩ | ⟨g0, cap, cur, rfl, hb, hgg, hnc, hcm, hcs, htake⟩
  · by_cases hm : m = 0
    · have := h4.2 ⟨rfl, hm⟩
      rw [this] at hg
      exact .inl hg
    have hr2 := run_append_nil (P := P) w t ty e i z ht hi hz ad m c news hl hnews (by omega) (by unfold maxLen at h63; omega) (by simp only [Nat.zero_add] at hbytes; omega)
    rw [hr] at hr2
    injection hr2 with hv _
    rw [hv] at hg
    simp only [Value.ownBlock, Option.some.injEq] at hg
    exact .inr (by omega)
  · by_cases hroom : n + m ≤ cap
    · have hr2 := run_append_room (P := P) w t ty e i ht hi g0 n cap cur hgg ad m c news hl hnews h1 hroom (by rw [hl, hcs, ← Nat.add_mul]; exact Nat.mul_le_mul_right _ hroom)
      rw [hr] at hr2
      injection hr2 with hv _
      rw [hv] at hg
      exact .inl hg
    have hr2 := run_append_grow (P := P) w t ty e i z ht hi hz ⟨g0, 0, none⟩ n cap xs hown.1 (hown.cells (g := g0) rfl) ad m c news hl hnews (by omega) (by unfold maxLen at h63; omega) (growslice_fits (by omega) hbytes)
    rw [hr] at hr2
    injection hr2 with hv _
    rw [hv] at hg
    simp only [Value.ownBlock, Option.some.injEq] at hg
    exact .inr (by omega)
theorem cR {P : Program} {o : Oper} {a : Act} {w : World} {K : Act → World → Prop} {Q : Exit → Act → World → Prop}
 (s x : Operand) (t : TypeId) (hop : o.op = Op.call { callee := Callee.builtin Builtin.append, args := #[s, x], argTypes := #[t, t] })
 (base : Nat) (e : TypeId) (i : TypeInfo) (z : Value) (size bytes : Nat) (h1 : P.underlying t = some (.slice e)) (h2 : P.info? e = some i) (h3 : i.zero = some z) (h4 : i.size = size) (h5 : i.bytes = bytes) (h6 : z.cells.size = size) (h7 : 0 < size)
 (v : Value) (n : Nat) (xs : List Value) (hs : a.eval s = v) (hown : w.ownsRow base e size v n xs)
 (A : Option Addr) (m c : Nat) (news : List Value) (hx : a.eval x = .slice A m c) (hn : news.length = m * size) (hnone : A = none → m = 0 ∧ c = 0) (hc : ∀ ad, A = some ad → ∀ j u, news[j]? = some u → w.cell? (ad.add j) = some u) (h1c : ∀ u ∈ news, u.oneCell' = true)
 (b1 : n + m ≤ maxLen) (b2 : (n + m) * bytes ≤ 140737488355328) (b3 : base ≤ w.heap.size)
 (hK : ∀ A' c' w', dQ w w' base e size v A' (n + m) c' (xs ++ news) → K (a.put o.dst (.slice A' (n + m) c')) w') : Oper.wp P o a w K Q := by
 obtain ⟨A', c', w', hrun, hap⟩ := lL (P := P) w base t o.type e i z size bytes h1 h2 h3 h4 h5 h6 h7 v n xs hown A m c news hn hnone hc h1c b1 b2 b3
 unfold Oper.wp
 simp [execOp, hop, resolve, invoke, builtin, hs, hx, hrun, Result.andThen]
 exact hK A' c' w' hap
theorem iG {w : World} {base : Nat} {e : TypeId} {size : Nat} {v : Value} {n : Nat} {xs : List Value} (h : w.ownsRow base e size v n xs) {g : Nat} (hg : g < base) : some g ≠ v.ownBlock := by
 intro e
 have := (aC h e.symm).1
 omega
theorem oM {w w' : World} {base base' : Nat} {e e' : TypeId} {size size' : Nat} {v v' : Value} {n n' : Nat} {xs xs' : List Value} (h : w.ownsRow base e size v n xs) (h' : w.ownsRow base' e' size' v' n' xs') (he : e ≠ e') (hg : w.grownBy w' v'.ownBlock) : w'.ownsRow base e size v n xs := by
 refine h.kept hg ?_
 cases hv : v.ownBlock with
 | none => exact .inl rfl
 | some g =>
  refine .inr fun hh => ?_
  obtain ⟨_, _, c1, h1⟩ := aC h hv
  obtain ⟨_, _, c2, h2⟩ := aC h' hh.symm
  rw [h1] at h2
  injection h2 with h2
  injection h2 with _ h3
  exact he h3
theorem lT {w w' : World} (hb : Below w.heap.size w w') (row : Option Nat) : w.grownBy w' row := ⟨hb.os, hb.tape, hb.output, hb.size, fun k hk _ => hb.block k hk⟩
theorem fD {w w' : World} {base : Nat} {e : TypeId} {size : Nat} {v : Value} {n : Nat} {xs : List Value} (h : w.ownsRow base e size v n xs) (hb : Below w.heap.size w w') : w'.ownsRow base e size v n xs :=
 h.kept (lT hb none) (by cases v.ownBlock <;> simp)
theorem cI.below {w w' : World} {base : Nat} {v : Value} {l : List Nd} (h : cI w base v l) (hb : Below w.heap.size w w') : cI w' base v l := fD h hb
theorem cI.alloc {w : World} {base : Nat} {v : Value} {l : List Nd} (h : cI w base v l) (o : Obj) : cI (w.alloc o) base v l := World.ownsRow.alloc h o
theorem cI.setCell {w : World} {base : Nat} {v : Value} {l : List Nd} (h : cI w base v l) {a : Addr} (ha : a.block < base) (u : Value) : cI (w.setCell a u) base v l := ownsRow_setCell_below h ha u
theorem CX (w : World) (n : Nd) : ∀ j u, (fV n)[j]? = some u → (w.alloc (.cells #[.int .i64 n.op, .int .i64 n.a, .int .i64 n.b] 53)).cell? ((⟨w.heap.size, 0, none⟩ : Addr).add j) = some u := by
 intro j u hu
 have ea : (⟨w.heap.size, 0, none⟩ : Addr).add j = ⟨w.heap.size, j, none⟩ := by unfold Addr.add; split <;> simp_all
 rw [ea, World.cell?_alloc_new, ← hu]
 simp [fV]
theorem dQ.ownN {w w' : World} {base : Nat} {v : Value} {A : Option Addr} {n c : Nat} {l m : List Nd} (h : dQ w w' base 53 3 v A n c (gK l ++ gK m)) (hn : n = l.length + m.length) : cI w' base (.slice A n c) (l ++ m) := by
 unfold cI
 rw [List.length_append, lR, ← hn]
 exact h.own
theorem cS {P : Program} {o : Oper} {a : Act} {w : World} {K : Act → World → Prop} {Q : Exit → Act → World → Prop}
 (s x : Operand) (t : TypeId) (hop : o.op = Op.call { callee := Callee.builtin Builtin.append, args := #[s, x], argTypes := #[t, t] })
 (base : Nat) (i : TypeInfo) (h1 : P.underlying t = some (.slice 53)) (h2 : P.info? 53 = some i) (h3 : i.zero = some (.agg #[.int .i64 0, .int .i64 0, .int .i64 0])) (h4 : i.size = 3) (h5 : i.bytes = 24)
 (v : Value) (l : List Nd) (n : Nd) (W : World) (hW : w = W.alloc (.cells #[.int .i64 n.op, .int .i64 n.a, .int .i64 n.b] 53)) (hs : a.eval s = v) (hown : cI W base v l)
 (g : Nat) (hx : a.eval x = .slice (some ⟨g, 0, none⟩) 1 1) (hgW : g = W.heap.size) (b1 : l.length + 1 ≤ 5864062014805) (b3 : base ≤ W.heap.size)
 (hK : ∀ A' c' w', cI w' base (.slice A' (l.length + 1) c') (l ++ [n]) → dQ W w' base 53 3 v A' (l.length + 1) c' (gK l ++ fV n) → K (a.put o.dst (.slice A' (l.length + 1) c')) w') : Oper.wp P o a w K Q := by
 subst hW
 subst hgW
 refine cR s x t hop base _ i _ 3 24 h1 h2 h3 h4 h5 rfl (by decide) v l.length (gK l) hs (World.ownsRow.alloc hown _) _ 1 1 (fV n) hx rfl (fun e => by cases e) (fun ad e => by injection e with e; subst e; exact CX _ _) ?_ (by unfold maxLen; omega) (by omega) (by simp; omega) ?_
 · intro u hu
   simp [fV] at hu
   rcases hu with rfl | rfl | rfl <;> rfl
 intro A' c' w' h
 refine hK A' c' w' ?_ ⟨h.own, ?_, fun g hg => (h.new g hg).imp id (fun hh => by simp at hh; omega)⟩
 · exact dQ.ownN (m := [n]) (by simpa [gK] using h) rfl
 refine ⟨h.grown.os, h.grown.tape, h.grown.output, Nat.le_trans (by simp) h.grown.size, fun k hk hne => ?_⟩
 rw [h.grown.block k (by simp; omega) hne]
 exact Below.heap_alloc _ _ _ hk
theorem JD {l : List Nd} {j : Nat} {u : Value} (h : (gK l)[j]? = some u) : ∃ k, k < l.length ∧ ((j = k * 3 ∧ u = .int .i64 (aL l k).op) ∨ (j = k * 3 + 1 ∧ u = .int .i64 (aL l k).a) ∨ (j = k * 3 + 2 ∧ u = .int .i64 (aL l k).b)) := by
 have hj := (List.getElem?_eq_some_iff.1 h).1
 rw [wL] at hj
 have hk : j / 3 < l.length := by omega
 obtain ⟨h1, h2, h3⟩ := oC l (j / 3) hk
 have hm : j = j / 3 * 3 ∨ j = j / 3 * 3 + 1 ∨ j = j / 3 * 3 + 2 := by omega
 refine ⟨j / 3, hk, ?_⟩
 rcases hm with hm | hm | hm
 · rw [← hm] at h1; rw [h] at h1; exact .inl ⟨hm, Option.some.inj h1⟩
 · rw [← hm] at h2; rw [h] at h2; exact .inr (.inl ⟨hm, Option.some.inj h2⟩)
 rw [← hm] at h3; rw [h] at h3; exact .inr (.inr ⟨hm, Option.some.inj h3⟩)
theorem bJ.flat_cells {R : Nat → Prop} {w : World} {A : Option Addr} {n c : Nat} {l : List Nd} (h : bJ R w A n c l) (ad : Addr) (hA : A = some ad) : ∀ j u, (gK l)[j]? = some u → w.cell? (ad.add j) = some u := by
 intro j u hu
 obtain ⟨k, hk, hh⟩ := JD hu
 obtain ⟨b, off, e, _, hm⟩ := h.mem (by rw [← h.len]; omega)
 rw [hA] at e
 injection e with e
 subst e
 obtain ⟨m1, m2, m3⟩ := hm k hk
 have ea : ∀ j, (⟨b, off, none⟩ : Addr).add j = ⟨b, off + j, none⟩ := fun j => by unfold Addr.add; split <;> simp_all
 rw [ea]
 rcases hh with ⟨rfl, rfl⟩ | ⟨rfl, rfl⟩ | ⟨rfl, rfl⟩
 · exact m1
 · exact m2
 exact m3
theorem uH {P : Program} {t u e : TypeId} (ht : P.underlying t = some (.slice e)) (hu : P.underlying u = some (.slice e)) (ty : TypeId) (B : Option Addr) (m k : Nat) (x : Value) (w : World) :
 (Builtin.append_ #[t, u] ty #[.slice B m k, x]).run P w = (Builtin.append_ #[t, t] ty #[.slice B m k, x]).run P w := by
 simp [Builtin.append_, run_underlying ht, run_underlying hu]
theorem fL {P : Program} {o : Oper} {a : Act} {w : World} {K : Act → World → Prop} {Q : Exit → Act → World → Prop}
 (s x : Operand) (t u : TypeId) (hop : o.op = Op.call { callee := Callee.builtin Builtin.append, args := #[s, x], argTypes := #[t, u] })
 (base : Nat) (i : TypeInfo) (h1 : P.underlying t = some (.slice 53)) (h1u : P.underlying u = some (.slice 53)) (h2 : P.info? 53 = some i) (h3 : i.zero = some (.agg #[.int .i64 0, .int .i64 0, .int .i64 0])) (h4 : i.size = 3) (h5 : i.bytes = 24)
 (v : Value) (l m : List Nd) (hs : a.eval s = v) (hown : cI w base v l) {R : Nat → Prop} {A : Option Addr} {n c : Nat} (hx : a.eval x = .slice A n c) (hm : bJ R w A n c m)
 (b1 : l.length + n ≤ 5864062014805) (b3 : base ≤ w.heap.size)
 (hK : ∀ A' c' w', cI w' base (.slice A' (l.length + n) c') (l ++ m) → dQ w w' base 53 3 v A' (l.length + n) c' (gK l ++ gK m) → K (a.put o.dst (.slice A' (l.length + n) c')) w') : Oper.wp P o a w K Q := by
 obtain ⟨A', c', w', hrun, hap⟩ := lL (P := P) w base t o.type _ i _ 3 24 h1 h2 h3 h4 h5 rfl (by decide) v l.length (gK l) hown A n c (gK m) (by rw [wL, hm.len])
  (fun e => ⟨by
   by_cases h0 : 0 < n
   · obtain ⟨b, off, e2, _⟩ := hm.mem h0
     rw [e] at e2; cases e2
   · omega, hm.nul e⟩) (fun ad e => hm.flat_cells ad e) (GB m) (by unfold maxLen; omega) (by omega) b3
 obtain ⟨B, k0, rfl⟩ : ∃ B k0, v = .slice B l.length k0 := by
  rcases hown.2 with ⟨rfl, h0⟩ | ⟨g, cap, cur, rfl, _⟩
  · rw [h0]; exact ⟨none, 0, rfl⟩
  exact ⟨_, _, rfl⟩
 rw [← uH h1 h1u] at hrun
 unfold Oper.wp
 simp [execOp, hop, resolve, invoke, builtin, hs, hx, hrun, Result.andThen]
 exact hK A' c' w' (dQ.ownN hap (by rw [hm.len])) hap
theorem aN {P : Program} {ops : Array Oper} {rest : List Oper} {o : Oper} {a : Act} {w : World} {Q : Exit → Act → World → Prop} (hg : o.guard = none) (h : Oper.wp P o a w (wpList P ops Q rest) Q) : wpList P ops Q (o :: rest) a w := by
 unfold wpList
 rw [if_pos (by simp [Region.wanted, hg])]
 exact .inl h
theorem kR {P : Program} {ops : Array Oper} {o : Oper} {a : Act} {w : World} {K : Act → World → Prop} {Q : Exit → Act → World → Prop} {E : Prop} (hg : o.guard = none) (h : Oper.wp P o a w K Q) :
 if Region.wanted o (yielded ops a.tmps) = true then Oper.wp P o a w K Q else E := by
 rw [if_pos (by simp [Region.wanted, hg])]; exact h
def dL : Fo → Nat
 | .nil => 0
 | .cons _ _ _ _ x => dL x + 1
def fG : Fo → List Nd
 | .nil => []
 | .cons p _ _ _ x => p ++ fG x
def vN (R : Nat → Prop) (w : World) : Fo → Nat → Nat → Prop
 | .nil, _, _ => True
 | .cons _ n atoms kids next, b, off =>
  (w.cell? ⟨b, off, none⟩ = some (.int .i64 n.op) ∧ w.cell? ⟨b, off + 1, none⟩ = some (.int .i64 n.a) ∧ w.cell? ⟨b, off + 2, none⟩ = some (.int .i64 n.b)) ∧
  (∃ A c, w.cell? ⟨b, off + 3, none⟩ = some (.slice A (dL kids) c) ∧ dL kids ≤ c ∧ (0 < dL kids → ∃ b' off', A = some ⟨b', off', none⟩ ∧ R b' ∧ vN R w kids b' off')) ∧
  (∃ v, w.cell? ⟨b, off + 4, none⟩ = some v ∧ kK R w v atoms) ∧
  (∃ v, w.cell? ⟨b, off + 5, none⟩ = some v ∧ kK R w v (fG kids)) ∧
  vN R w next b (off + 6)
structure pO (R : Nat → Prop) (w : World) (A : Option Addr) (n c : Nat) (F : Fo) : Prop where
 len : dL F = n
 cap : n ≤ c
 mem : 0 < n → ∃ b off, A = some ⟨b, off, none⟩ ∧ R b ∧ vN R w F b off
def pP (R : Nat → Prop) (w : World) (v : Value) (F : Fo) : Prop := ∃ A n c, v = .slice A n c ∧ pO R w A n c F
def iF (R : Nat → Prop) (w : World) (xs : List Value) (n : Nd) (atoms : List Nd) (kids : Fo) : Prop :=
 ∃ sk sa sf, xs = [.int .i64 n.op, .int .i64 n.a, .int .i64 n.b, sk, sa, sf] ∧ pP R w sk kids ∧ kK R w sa atoms ∧ kK R w sf (fG kids)
theorem vN.keep {R R' : Nat → Prop} {w w' : World} (hR : ∀ b, R b → R' b ∧ ∀ o, w'.cell? ⟨b, o, none⟩ = w.cell? ⟨b, o, none⟩) : ∀ (F : Fo) (b off : Nat), vN R w F b off → (∀ o, w'.cell? ⟨b, o, none⟩ = w.cell? ⟨b, o, none⟩) → vN R' w' F b off
 | .nil, _, _, _, _ => trivial
 | .cons p n atoms kids next, b, off, h, hb => by
  obtain ⟨h0, ⟨A, c, h1, h2, h3⟩, ⟨v, h4, h5⟩, ⟨u, h6, h7⟩, h8⟩ := h
  refine ⟨by rw [hb, hb, hb]; exact h0, ⟨A, c, by rw [hb]; exact h1, h2, fun hk => ?_⟩, ⟨v, by rw [hb]; exact h4, h5.keep hR⟩, ⟨u, by rw [hb]; exact h6, h7.keep hR⟩, vN.keep hR next b _ h8 hb⟩
  obtain ⟨b', off', e, hr, hf⟩ := h3 hk
  exact ⟨b', off', e, (hR b' hr).1, vN.keep hR kids b' off' hf (hR b' hr).2⟩
theorem pO.keep {R R' : Nat → Prop} {w w' : World} {A : Option Addr} {n c : Nat} {F : Fo} (h : pO R w A n c F) (hR : ∀ b, R b → R' b ∧ ∀ o, w'.cell? ⟨b, o, none⟩ = w.cell? ⟨b, o, none⟩) : pO R' w' A n c F :=
 ⟨h.len, h.cap, fun hn => by
  obtain ⟨b, off, e, hr, hf⟩ := h.mem hn
  exact ⟨b, off, e, (hR b hr).1, vN.keep hR F b off hf (hR b hr).2⟩⟩
theorem pP.keep {R R' : Nat → Prop} {w w' : World} {v : Value} {F : Fo} (h : pP R w v F) (hR : ∀ b, R b → R' b ∧ ∀ o, w'.cell? ⟨b, o, none⟩ = w.cell? ⟨b, o, none⟩) : pP R' w' v F := by
 obtain ⟨A, n, c, e, h⟩ := h
 exact ⟨A, n, c, e, h.keep hR⟩
theorem pP.nil (R : Nat → Prop) (w : World) : pP R w (.slice none 0 0) .nil := ⟨none, 0, 0, rfl, rfl, Nat.le_refl _, fun h => absurd h (by omega)⟩
theorem iF.keep {R R' : Nat → Prop} {w w' : World} {xs : List Value} {n : Nd} {atoms : List Nd} {kids : Fo} (h : iF R w xs n atoms kids) (hR : ∀ b, R b → R' b ∧ ∀ o, w'.cell? ⟨b, o, none⟩ = w.cell? ⟨b, o, none⟩) : iF R' w' xs n atoms kids := by
 obtain ⟨sk, sa, sf, e, h1, h2, h3⟩ := h
 exact ⟨sk, sa, sf, e, h1.keep hR, h2.keep hR, h3.keep hR⟩
def qO (R : Nat → Prop) (w : World) : Fo → List Value → Prop
 | .nil, xs => xs = []
 | .cons _ n atoms kids next, xs => ∃ ys zs, xs = ys ++ zs ∧ iF R w ys n atoms kids ∧ qO R w next zs
theorem qO.keep {R R' : Nat → Prop} {w w' : World} (hR : ∀ b, R b → R' b ∧ ∀ o, w'.cell? ⟨b, o, none⟩ = w.cell? ⟨b, o, none⟩) : ∀ (F : Fo) (xs : List Value), qO R w F xs → qO R' w' F xs
 | .nil, _, h => h
 | .cons _ n atoms kids next, xs, h => by
  obtain ⟨ys, zs, e, h1, h2⟩ := h
  exact ⟨ys, zs, e, h1.keep hR, qO.keep hR next zs h2⟩
theorem qO.app {R : Nat → Prop} {w : World} : ∀ (F G : Fo) (xs ys : List Value), qO R w F xs → qO R w G ys → qO R w (F.app G) (xs ++ ys)
 | .nil, G, xs, ys, h, hg => by
  have : xs = [] := h
  subst this
  exact hg
 | .cons _ n atoms kids next, G, xs, ys, h, hg => by
  obtain ⟨a, b, e, h1, h2⟩ := h
  exact ⟨a, b ++ ys, by rw [e, List.append_assoc], h1, qO.app next G b ys h2 hg⟩
theorem qO.at_ {R : Nat → Prop} {w : World} : ∀ (F : Fo) (xs : List Value) (b off : Nat), qO R w F xs → (∀ j u, xs[j]? = some u → w.cell? ⟨b, off + j, none⟩ = some u) → vN R w F b off
 | .nil, _, _, _, _, _ => trivial
 | .cons _ n atoms kids next, xs, b, off, h, hc => by
  obtain ⟨ys, zs, e, ⟨sk, sa, sf, e2, h1, h2, h3⟩, h4⟩ := h
  subst e2 e
  obtain ⟨A, m, c, rfl, hk⟩ := h1
  refine ⟨⟨hc 0 _ rfl, hc 1 _ rfl, hc 2 _ rfl⟩, ⟨A, c, ?_, ?_, ?_⟩, ⟨sa, hc 4 _ rfl, h2⟩, ⟨sf, hc 5 _ rfl, h3⟩, qO.at_ next zs b (off + 6) h4 fun j u hu => ?_⟩
  · rw [hk.len]; exact hc 3 _ rfl
  · rw [hk.len]; exact hk.cap
  · rw [hk.len]; exact hk.mem
  · rw [Nat.add_assoc]
    refine hc (6 + j) u ?_
    rw [List.getElem?_append_right (by simp)]
    simpa using hu
theorem wU {R : Nat → Prop} {w : World} {base : Nat} {v : Value} {F : Fo} {xs : List Value} (h : w.ownsRow base 131 6 v (dL F) xs) (hc : qO R w F xs) (hR : ∀ b, v.ownBlock = some b → R b) : pP R w v F := by
 have hcl := fun g hg => World.ownsRow.cells h (g := g) hg
 rcases h.2 with ⟨rfl, h0⟩ | ⟨g, cap, cur, rfl, hb, hgg, hcap, _⟩
 · refine ⟨none, 0, 0, rfl, h0, Nat.le_refl _, fun hn => absurd hn (by omega)⟩
 refine ⟨_, _, _, rfl, rfl, hcap, fun _ => ⟨g, 0, rfl, hR g rfl, qO.at_ F xs g 0 hc fun j u hu => ?_⟩⟩
 have := hcl g rfl j u hu
 have ea : (⟨g, 0, none⟩ : Addr).add j = ⟨g, j, none⟩ := by unfold Addr.add; split <;> simp_all
 rw [ea] at this
 rwa [Nat.zero_add]
theorem vN.app {R : Nat → Prop} {w : World} : ∀ (F G : Fo) (b off : Nat), vN R w (F.app G) b off ↔ vN R w F b off ∧ vN R w G b (off + dL F * 6)
 | .nil, G, b, off => by simp [Fo.app, vN, dL]
 | .cons p n atoms kids next, G, b, off => by
  simp only [Fo.app, vN, dL]
  rw [vN.app next G b (off + 6)]
  rw [show off + 6 + dL next * 6 = off + (dL next + 1) * 6 from by omega]
  simp only [and_assoc]
theorem iR {P : Program} {o : Oper} {a : Act} {w : World} {K : Act → World → Prop} {Q : Exit → Act → World → Prop}
 (s x : Operand) (t : TypeId) (hop : o.op = Op.call { callee := Callee.builtin Builtin.append, args := #[s, x], argTypes := #[t, t] })
 (base : Nat) (i : TypeInfo) (z : Value) (h1 : P.underlying t = some (.slice 131)) (h2 : P.info? 131 = some i) (h3 : i.zero = some z) (h4 : i.size = 6) (h5 : i.bytes = 96) (h6 : z.cells.size = 6)
 (v : Value) (n : Nat) (xs ys : List Value) (hy : ys.length = 6) (hone : ∀ u ∈ ys, u.oneCell' = true) (W : World) (hW : w = W.alloc (.cells ys.toArray 131)) (hs : a.eval s = v) (hown : W.ownsRow base 131 6 v n xs)
 (g : Nat) (hx : a.eval x = .slice (some ⟨g, 0, none⟩) 1 1) (hgW : g = W.heap.size) (b1 : n + 1 ≤ 1000000000000) (b3 : base ≤ W.heap.size)
 (hK : ∀ A' c' w', dQ W w' base 131 6 v A' (n + 1) c' (xs ++ ys) → K (a.put o.dst (.slice A' (n + 1) c')) w') : Oper.wp P o a w K Q := by
 subst hW
 subst hgW
 refine cR s x t hop base _ i _ 6 96 h1 h2 h3 h4 h5 h6 (by decide) v n xs hs (World.ownsRow.alloc hown _) _ 1 1 ys hx (by omega) (fun e => by cases e) (fun ad e j u hu => ?_) hone (by unfold maxLen; omega) (by omega) (by simp; omega) ?_
 · injection e with e
   subst e
   have ea : (⟨W.heap.size, 0, none⟩ : Addr).add j = ⟨W.heap.size, j, none⟩ := by unfold Addr.add; split <;> simp_all
   rw [ea, World.cell?_alloc_new, ← hu]
   simp
 intro A' c' w' h
 refine hK A' c' w' ⟨h.own, ?_, fun g hg => (h.new g hg).imp id (fun hh => by simp at hh; omega)⟩
 refine ⟨h.grown.os, h.grown.tape, h.grown.output, Nat.le_trans (by simp) h.grown.size, fun k hk hne => ?_⟩
 rw [h.grown.block k (by simp; omega) hne]
 exact Below.heap_alloc _ _ _ hk
theorem fC : ∀ (F G : Fo), dL (F.app G) = dL F + dL G
 | .nil, G => by simp [Fo.app, dL]
 | .cons p n a k x, G => by simp only [Fo.app, dL, fC x G]; omega
theorem iT : ∀ (F G : Fo), fG (F.app G) = fG F ++ fG G
 | .nil, G => by simp [Fo.app, fG]
 | .cons p n a k x, G => by simp only [Fo.app, fG, iT x G, List.append_assoc]
theorem uG : ∀ (F : Fo), F.app .nil = F
 | .nil => rfl
 | .cons p n a k x => by simp only [Fo.app, uG x]
theorem gY : ∀ (F G H : Fo), (F.app G).app H = F.app (G.app H)
 | .nil, G, H => rfl
 | .cons p n a k x, G, H => by simp only [Fo.app, gY x G H]
def bN : Fo → Nat
 | .nil => 0
 | .cons _ _ _ k x => bN k + bN x + 1
def pQ (p : Bool) : Nat → Fo → Prop
 | _, .nil => True
 | i, .cons pre n _ k x => pre.length = (if p = true ∧ i % 2 = 0 then 1 else 0) ∧ pQ (decide (n.op = 12)) 0 k ∧ pQ p (i + 1) x
theorem gZ : ∀ (F G : Fo), bN (F.app G) = bN F + bN G
 | .nil, G => by simp [Fo.app, bN]
 | .cons p n a k x, G => by simp only [Fo.app, bN, gZ x G]; omega
theorem pO.at_ {R : Nat → Prop} {w : World} {A : Option Addr} {n c : Nat} {F1 F2 : Fo} {pre : List Nd} {nd : Nd} {ats : List Nd} {ks : Fo} (h : pO R w A n c (F1.app (.cons pre nd ats ks F2))) :
 ∃ b off sk sa sf, A = some ⟨b, off, none⟩ ∧ R b ∧ iF R w [.int .i64 nd.op, .int .i64 nd.a, .int .i64 nd.b, sk, sa, sf] nd ats ks ∧
  w.cell? ⟨b, off + dL F1 * 6, none⟩ = some (.int .i64 nd.op) ∧ w.cell? ⟨b, off + dL F1 * 6 + 1, none⟩ = some (.int .i64 nd.a) ∧ w.cell? ⟨b, off + dL F1 * 6 + 2, none⟩ = some (.int .i64 nd.b) ∧
  w.cell? ⟨b, off + dL F1 * 6 + 3, none⟩ = some sk ∧ w.cell? ⟨b, off + dL F1 * 6 + 4, none⟩ = some sa ∧ w.cell? ⟨b, off + dL F1 * 6 + 5, none⟩ = some sf := by
 obtain ⟨b, off, e, hr, hf⟩ := h.mem (by rw [← h.len, fC]; simp [dL]; omega)
 rw [vN.app] at hf
 obtain ⟨_, ⟨h0, h1, h2⟩, ⟨A', c', h3, h3b, h3c⟩, ⟨v, h4, h4b⟩, ⟨u, h5, h5b⟩, _⟩ := hf
 exact ⟨b, off, _, _, _, e, hr, ⟨_, _, _, rfl, ⟨A', _, c', rfl, ⟨rfl, h3b, h3c⟩⟩, h4b, h5b⟩, h0, h1, h2, h3, h4, h5⟩
end
section
open Go.RowKit
def fresh (w w' : World) (b : Nat) : Prop := w.heap.size ≤ b ∧ b < w'.heap.size
theorem cI.cast {w : World} {base : Nat} {A : Option Addr} {n m c : Nat} {l l' : List Nd} (h : cI w base (.slice A n c) l) (hn : n = m) (hl : l = l') : cI w base (.slice A m c) l' := by
 subst hn hl
 exact h
end
section
open Go.RowKit
theorem yW {B : Nat} {a W w' : World} (hA : Below B a W) (hb : Below W.heap.size W w') (hB : B ≤ a.heap.size) : Below B a w' := hA.trans (hb.mono (Nat.le_trans hB hA.size))
end
section
def gI : Fo → Prop
 | .nil => True
 | .cons _ n _ k x => iC n = true ∧ gI k ∧ gI x
theorem gI.app : ∀ (F G : Fo), gI (F.app G) ↔ gI F ∧ gI G
 | .nil, G => by simp [Fo.app, gI]
 | .cons p n a k x, G => by simp only [Fo.app, gI, gI.app x G, and_assoc]
theorem qT {n : Nd} (h : iC n = true) (k : Int) : 0 ≤ aS n.op n.b k ∧ aS n.op n.b k ≤ 4 := by
 simp only [iC, Bool.and_eq_true] at h
 have h1 := h.1.1
 rw [aD] at h1
 simp only [aS]
 split
 · omega
 split <;> omega
def DL (pop pb : Int) : Nat → Int → Fo → Int
 | _, _, .nil => -1
 | j, u, .cons _ n _ k x => max (if n.op = 1 then max (n.a - (u + aS pop pb j)) (-1) else DL n.op n.b 0 (u + aS pop pb j) k) (DL pop pb (j + 1) u x)
def pB (n : Nd) (k : Fo) (u : Int) : Int := if n.op = 1 then max (n.a - u) (-1) else DL n.op n.b 0 u k
theorem rI (pop pb : Int) (j : Nat) (u : Int) (p : List Nd) (n : Nd) (a : List Nd) (k x : Fo) : DL pop pb j u (.cons p n a k x) = max (pB n k (u + aS pop pb j)) (DL pop pb (j + 1) u x) := rfl
theorem kD : ∀ (F : Fo), dL F ≤ bN F
 | .nil => Nat.le_refl _
 | .cons p n a k x => by
  have := kD x
  simp only [dL, bN]
  omega
theorem BV (pop pb : Int) (j : Nat) (u : Int) : ∀ (F : Fo), max (-1) (DL pop pb j u F) = DL pop pb j u F
 | .nil => rfl
 | .cons p n a k x => by
  have := BV pop pb (j + 1) u x
  rw [rI]
  omega
end
section
open Go Go.RowKit
section
variable {P : Program} {ops : Array Oper} {Q : Exit → Act → World → Prop} {md : Region.Mode} {S : World → Prop} {l : Nat}
def gH (P : Program) (md : Region.Mode) (ops : Array Oper) (Q : Exit → Act → World → Prop) (S : World → Prop) (l : Nat) : Nat → Array Bool → Act → World → Prop
 | 0, done, a, w => Region.ready md ops done = [] ∧ Q .normal a w
 | fuel + 1, done, a, w =>
  (Region.ready md ops done = [] → Q .normal a w) ∧
  ∀ i ∈ Region.ready md ops done, wpOp P ops Q i (fun a' w' => (i ≠ l → S w') ∧ gH P md ops Q S l fuel (done.setIfInBounds i true) a' w') a w
theorem sH : ∀ (fuel : Nat) (done : Array Bool) (a : Act) (w : World), gH P md ops Q S l fuel done a w → wpAny P md ops Q fuel done a w
 | 0, _, _, _, h => h
 | fuel + 1, _, _, _, h => ⟨h.1, fun i hi => wpOp_mono (fun a' w' h' => sH fuel _ a' w' h'.2) (h.2 i hi)⟩
theorem oT {i : Nat} {done : Array Bool} (h : i ∈ Region.ready md ops done) {j : Nat} {oj : Oper} (hj : j ∈ Region.ready md ops done) (hoj : ops[j]? = some oj) : ∀ e ∈ oj.after, Region.binds md e = true → e.on ≠ i := fun e he hb heq => by
 obtain ⟨_, oj', hoj', hall⟩ := mem_ready.1 hj
 rw [hoj] at hoj'
 obtain rfl := Option.some.inj hoj'
 have h1 := hall e he hb
 have h0 := (mem_ready.1 h).1
 rw [heq] at h1
 rcases Nat.lt_or_ge i done.size with h' | h'
 · simp [h'] at h0 h1; rw [h0] at h1; cases h1
 simp [Array.getElem?_eq_none h'] at h1
theorem vL {i : Nat} {oi ol : Oper} {v : Value} (hi : ops[i]? = some oi) (hl : ops[l]? = some ol) (hw : ∃ e ∈ ol.after, Region.binds md e = true ∧ e.on = i) (hsel : ∀ (j : Nat) (o : Oper) cs b, ops[j]? = some o → o.op ≠ .select cs b)
 (hQ : ∀ c a w, Q (.panic c) (a.put oi.dst v) w → Q (.panic c) a w) :
 ∀ (fuel : Nat) (done : Array Bool) (a : Act) (w : World),
  (∀ j oj, ops[j]? = some oj → j ≠ i → done.getD j true = false → (∀ e ∈ oj.after, Region.binds md e = true → e.on ≠ i) → oi.apart ops oj = true) →
  i ∈ Region.ready md ops done → YieldsIf P ops S oi v a → S w →
  gH P md ops Q S l fuel (done.setIfInBounds i true) (a.put oi.dst v) w → gH P md ops Q S l (fuel + 1) done a w := by
 intro fuel
 induction fuel with
 | zero =>
  intro done a w _ hr hy hS H
  refine ⟨fun h => (by rw [h] at hr; cases hr), fun j hj => ?_⟩
  by_cases hji : j = i
  · subst hji; exact hy.wpOp hi hS ⟨fun _ => hS, H⟩
  · have := ready_mono hj hji
    rw [H.1] at this
    cases this
 | succ fuel ih =>
  intro done a w hfree hr hy hS H
  refine ⟨fun h => (by rw [h] at hr; cases hr), fun j hj => ?_⟩
  by_cases hji : j = i
  · subst hji; exact hy.wpOp hi hS ⟨fun _ => hS, H⟩
  · have h1 := H.2 j (ready_mono hj hji)
    obtain ⟨hjun, oj, hoj, _⟩ := mem_ready.1 hj
    have hnot := oT hr hj hoj
    have hjl : j ≠ l := fun e => by
     subst e
     obtain ⟨x, hx, hb, hon⟩ := hw
     rw [hl] at hoj
     obtain rfl := Option.some.inj hoj
     exact hnot x hx hb hon
    have h2 := wpOp_putIf hoj (hfree j oj hoj hji hjun hnot) (fun cs b => hsel i oi cs b hi) (fun cs b => hsel j oj cs b hoj) hQ hy h1
    refine wpOp_mono (fun a' w' h3 => ?_) h2
    have hS' := h3.2.1 hjl
    refine ⟨fun _ => hS', ih (done.setIfInBounds j true) a' w' (fun k ok hk hki hun hno => hfree k ok hk hki ?_ hno) (ready_mono hr (Ne.symm hji)) h3.1 hS' ?_⟩
    · by_cases hjk : j = k
      · subst hjk; exact hjun
      rw [getD_set_ne true hjk] at hun; exact hun
    rw [Array.setIfInBounds_comm _ _ hji]
    exact h3.2.2
theorem KM {i : Nat} {oi ol : Oper} {v : Value} {fuel : Nat} {done : Array Bool} {a : Act} {w : World} (hi : ops[i]? = some oi) (hl : ops[l]? = some ol) (hw : (ol.after.any fun e => Region.binds md e && e.on == i) = true)
 (hs : Region.noSelect ops = true) (hf : Region.free md ops done i = true) (hr : (Region.ready md ops done).contains i = true)
 (hQ : ∀ c a w, Q (.panic c) (a.put oi.dst v) w → Q (.panic c) a w) (hy : YieldsIf P ops S oi v a) (hS : S w)
 (h : gH P md ops Q S l fuel (done.setIfInBounds i true) (a.put oi.dst v) w) : gH P md ops Q S l (fuel + 1) done a w := by
 refine vL hi hl ?_ (Region.noSelect_spec hs) hQ fuel done a w (Region.free_spec hi hf) (by simpa using hr) hy hS h
 obtain ⟨k, hk, he⟩ := Array.any_eq_true.1 hw
 simp only [Bool.and_eq_true, beq_iff_eq] at he
 exact ⟨_, Array.getElem_mem hk, he⟩
theorem eX {i : Nat} {o : Oper} {fuel : Nat} {done : Array Bool} {a : Act} {w : World} (hr : Region.ready md ops done = [i]) (ho : ops[i]? = some o) (hg : o.guard = none)
 (h : ∀ K' : Act → World → Prop, Hid (∀ a w, (i ≠ l → S w) → gH P md ops Q S l fuel (done.setIfInBounds i true) a w → K' a w) → Oper.wp P o a w K' Q) : gH P md ops Q S l (fuel + 1) done a w := by
 refine ⟨fun h0 => (by rw [hr] at h0; cases h0), fun j hj => ?_⟩
 rw [hr, List.mem_singleton] at hj
 subst hj
 refine wpOp_step ho fun K' hK => ?_
 rw [if_pos (by simp [Region.wanted, hg])]
 exact h K' fun a w h1 h2 => hK a w ⟨h1, h2⟩
theorem lF {done : Array Bool} {a : Act} {w : World} (hr : Region.ready md ops done = []) (h : Q .normal a w) :
 ∀ fuel, gH P md ops Q S l fuel done a w
 | 0 => ⟨hr, h⟩
 | _ + 1 => ⟨fun _ => h, by rw [hr]; simp⟩
theorem kA (l : Nat) (S : World → Prop) {id : Nat} {a : Act} {w : World} (hm : P.follows .mixedOrders = true) (hS : S w.drew)
 (h : S w.drew → gH P .any ops Q S l ops.size (Array.replicate ops.size false) a w.drew) : (Code.region id ops true).wp P Q a w :=
 wp_region_any hm (sH _ _ _ _ (h hS))
end
end
section
open Go Go.RowKit
section
variable {P : Program} {ops : Array Oper} {Q : Exit → Act → World → Prop} {md : Region.Mode} {S : World → Prop} {l : Nat}
def sF (md : Region.Mode) (ops : Array Oper) (i : Nat) : Nat → Nat → Bool
 | 0, _ => false
 | f + 1, x => match ops[x]? with
  | some o => o.after.any fun e => Region.binds md e && (e.on == i || sF md ops i f e.on)
  | none => false
def Shut (md : Region.Mode) (ops : Array Oper) (done : Array Bool) : Prop :=
 ∀ x o, ops[x]? = some o → done.getD x false = true → ∀ e ∈ o.after, Region.binds md e = true → done.getD e.on false = true
def CK (md : Region.Mode) (ops : Array Oper) (done : Array Bool) : Bool :=
 (List.range ops.size).all fun x => !done.getD x false || (match ops[x]? with | some o => o.after.all fun e => !Region.binds md e || done.getD e.on false | none => true)
theorem JY {done : Array Bool} (h : CK md ops done = true) : Shut md ops done := by
 intro x o ho hx e he hb
 have hlt : x < ops.size := (Array.getElem?_eq_some_iff.1 ho).1
 unfold CK at h
 rw [List.all_eq_true] at h
 have h1 := h x (List.mem_range.2 hlt)
 simp only [hx, ho, Bool.not_true, Bool.false_or, Array.all_eq_true] at h1
 obtain ⟨k, hk, hke⟩ := Array.mem_iff_getElem.1 he
 have h2 := h1 k hk
 rw [hke, hb] at h2
 simpa using h2
theorem Shut.step {done : Array Bool} (h : Shut md ops done) {j : Nat} (hj : j ∈ Region.ready md ops done) : Shut md ops (done.setIfInBounds j true) := by
 obtain ⟨hjun, oj, hoj, hall⟩ := mem_ready.1 hj
 have up : ∀ y, done.getD y false = true → (done.setIfInBounds j true).getD y false = true := fun y hy => by
  by_cases hyj : j = y
  · subst hyj
    rcases Nat.lt_or_ge j done.size with h' | h'
    · simp [h']
    simp [Array.getElem?_eq_none h'] at hy
  rw [getD_set_ne false hyj]; exact hy
 intro x o ho hx e he hb
 by_cases hxj : j = x
 · subst hxj
   rw [hoj] at ho
   obtain rfl := Option.some.inj ho
   exact up _ (hall e he hb)
 rw [getD_set_ne false hxj] at hx
 exact up _ (h x o ho hx e he hb)
theorem Shut.undone {done : Array Bool} (h : Shut md ops done) {i : Nat} (hi : done.getD i false = false) : ∀ (f x : Nat), sF md ops i f x = true → ∃ o, ops[x]? = some o ∧ ∃ e ∈ o.after, Region.binds md e = true ∧ done.getD e.on false = false
 | 0, x, hx => by simp [sF] at hx
 | f + 1, x, hx => by
  simp only [sF] at hx
  split at hx
  · rename_i o ho
    obtain ⟨k, hk, he⟩ := Array.any_eq_true.1 hx
    simp only [Bool.and_eq_true, Bool.or_eq_true, beq_iff_eq] at he
    refine ⟨o, ho, _, Array.getElem_mem hk, he.1, ?_⟩
    rcases he.2 with h1 | h1
    · rw [h1]; exact hi
    obtain ⟨o2, ho2, e2, he2, hb2, hd2⟩ := Shut.undone h hi f _ h1
    cases hd : done.getD (o.after[k]).on false
    · rfl
    have := h _ o2 ho2 hd e2 he2 hb2
    rw [hd2] at this; cases this
  · cases hx
theorem sY {i : Nat} {oi : Oper} {v : Value} (hi : ops[i]? = some oi) {f : Nat} (hw : sF md ops i f l = true) (hsel : ∀ (j : Nat) (o : Oper) cs b, ops[j]? = some o → o.op ≠ .select cs b)
 (hQ : ∀ c a w, Q (.panic c) (a.put oi.dst v) w → Q (.panic c) a w) :
 ∀ (fuel : Nat) (done : Array Bool) (a : Act) (w : World),
  (∀ j oj, ops[j]? = some oj → j ≠ i → done.getD j true = false → (∀ e ∈ oj.after, Region.binds md e = true → e.on ≠ i) → oi.apart ops oj = true) →
  Shut md ops done → i ∈ Region.ready md ops done → YieldsIf P ops S oi v a → S w →
  gH P md ops Q S l fuel (done.setIfInBounds i true) (a.put oi.dst v) w → gH P md ops Q S l (fuel + 1) done a w := by
 intro fuel
 induction fuel with
 | zero =>
  intro done a w _ _ hr hy hS H
  refine ⟨fun h => (by rw [h] at hr; cases hr), fun j hj => ?_⟩
  by_cases hji : j = i
  · subst hji; exact hy.wpOp hi hS ⟨fun _ => hS, H⟩
  · have := ready_mono hj hji
    rw [H.1] at this
    cases this
 | succ fuel ih =>
  intro done a w hfree hsh hr hy hS H
  refine ⟨fun h => (by rw [h] at hr; cases hr), fun j hj => ?_⟩
  by_cases hji : j = i
  · subst hji; exact hy.wpOp hi hS ⟨fun _ => hS, H⟩
  · have h1 := H.2 j (ready_mono hj hji)
    obtain ⟨hjun, oj, hoj, hjall⟩ := mem_ready.1 hj
    have hnot := oT hr hj hoj
    have hjl : j ≠ l := fun e => by
     subst e
     have hi0 : done.getD i false = false := by
      have h0 := (mem_ready.1 hr).1
      rcases Nat.lt_or_ge i done.size with h' | h'
      · simp [h'] at h0 ⊢; exact h0
      simp [Array.getElem?_eq_none h']
     obtain ⟨o2, ho2, e2, he2, hb2, hd2⟩ := hsh.undone hi0 f j hw
     rw [hoj] at ho2
     obtain rfl := Option.some.inj ho2
     have := hjall e2 he2 hb2
     rw [hd2] at this; cases this
    have h2 := wpOp_putIf hoj (hfree j oj hoj hji hjun hnot) (fun cs b => hsel i oi cs b hi) (fun cs b => hsel j oj cs b hoj) hQ hy h1
    refine wpOp_mono (fun a' w' h3 => ?_) h2
    have hS' := h3.2.1 hjl
    refine ⟨fun _ => hS', ih (done.setIfInBounds j true) a' w' (fun k ok hk hki hun hno => hfree k ok hk hki ?_ hno) (hsh.step hj) (ready_mono hr (Ne.symm hji)) h3.1 hS' ?_⟩
    · by_cases hjk : j = k
      · subst hjk; exact hjun
      rw [getD_set_ne true hjk] at hun; exact hun
    rw [Array.setIfInBounds_comm _ _ hji]
    exact h3.2.2
theorem bE {i : Nat} {oi : Oper} {v : Value} {fuel : Nat} {done : Array Bool} {a : Act} {w : World} (hi : ops[i]? = some oi) (hw : sF md ops i 8 l = true) (hsh : CK md ops done = true)
 (hs : Region.noSelect ops = true) (hf : Region.free md ops done i = true) (hr : (Region.ready md ops done).contains i = true)
 (hQ : ∀ c a w, Q (.panic c) (a.put oi.dst v) w → Q (.panic c) a w) (hy : YieldsIf P ops S oi v a) (hS : S w)
 (h : gH P md ops Q S l fuel (done.setIfInBounds i true) (a.put oi.dst v) w) : gH P md ops Q S l (fuel + 1) done a w :=
 sY hi hw (Region.noSelect_spec hs) hQ fuel done a w (Region.free_spec hi hf) (JY hsh) (by simpa using hr) hy hS h
end
end
section
open Go.RowKit
structure iZ (R : Nat → Prop) (w : World) (A : Option Addr) (n c : Nat) (zs : List Int) : Prop where
 len : zs.length = n
 few : n ≤ 5864062014805
 mem : 0 < n → ∃ b off, A = some ⟨b, off, none⟩ ∧ R b ∧ ∀ k, k < n → w.cell? ⟨b, off + k, none⟩ = some (.int .i64 (zs.getD k 0))
theorem iZ.keep {R R' : Nat → Prop} {w w' : World} {A : Option Addr} {n c : Nat} {zs : List Int} (h : iZ R w A n c zs) (hR : ∀ b, R b → R' b ∧ ∀ o, w'.cell? ⟨b, o, none⟩ = w.cell? ⟨b, o, none⟩) : iZ R' w' A n c zs := by
 refine ⟨h.len, h.few, fun hn => ?_⟩
 obtain ⟨b, off, e, hb, hk⟩ := h.mem hn
 exact ⟨b, off, e, (hR b hb).1, fun k hkn => by rw [(hR b hb).2]; exact hk k hkn⟩
theorem iZ.below {w w' : World} {A : Option Addr} {n c : Nat} {zs : List Int} (h : iZ (· < w.heap.size) w A n c zs) (hb : Below w.heap.size w w') : iZ (· < w'.heap.size) w' A n c zs :=
 h.keep fun b hb' => ⟨Nat.lt_of_lt_of_le hb' hb.size, fun o => hb.cell (p := ⟨b, o, none⟩) hb'⟩
theorem iZ.at_ {w : World} {A : Option Addr} {n c : Nat} {zs : List Int} (h : iZ (· < w.heap.size) w A n c zs) {k : Nat} (hk : k < n) : ∃ b off, A = some ⟨b, off, none⟩ ∧ b < w.heap.size ∧ w.cell? ⟨b, off + k, none⟩ = some (.int .i64 (zs.getD k 0)) := by
 obtain ⟨b, off, e, hb, hm⟩ := h.mem (by omega)
 exact ⟨b, off, e, hb, hm k hk⟩
end
section
open Go.RowKit
section
variable {P : Program} {ops : Array Oper} {Q : Exit → Act → World → Prop} {md : Region.Mode} {S : World → Prop}
theorem tq (i : Nat) {v : Value} {oi : Oper} {fuel : Nat} {listed : Array Bool} {a : Act} {w : World} (hS : S w) (h : wpAnyH P md ops Q S fuel (listed.setIfInBounds i true) (a.put oi.dst v) w)
 (hi : ops[i]? = some oi := by exact rfl) (hy : ∀ w, S w → (execOp a.eval oi).run P w = .ok (.value v) w := by (intro w hSw; (try dsimp only at hSw); go_simp; try with_reducible rfl)) (hs : Region.noSelect ops = true := by kernel_rfl) (hf : Region.free md ops listed i = true := by kernel_rfl) (hr : (Region.ready md ops listed).contains i = true := by kernel_rfl)
 (hQ : ∀ c a w, Q (.panic c) (a.put oi.dst v) w → Q (.panic c) a w := by exact fun _ _ _ h => h) (hw : Region.wanted oi (yielded ops a.tmps) = true := by rfl) : wpAnyH P md ops Q S (fuel + 1) listed a w :=
 wpAnyH_take hi hs hf hr hQ (.inl ⟨hw, hy⟩) hS h
theorem dk (i : Nat) {oi : Oper} {fuel : Nat} {listed : Array Bool} {a : Act} {w : World} (hS : S w) (h : wpAnyH P md ops Q S fuel (listed.setIfInBounds i true) (a.put oi.dst undef) w)
 (hi : ops[i]? = some oi := by exact rfl) (hs : Region.noSelect ops = true := by kernel_rfl) (hf : Region.free md ops listed i = true := by kernel_rfl) (hr : (Region.ready md ops listed).contains i = true := by kernel_rfl)
 (hQ : ∀ c a w, Q (.panic c) (a.put oi.dst undef) w → Q (.panic c) a w := by exact fun _ _ _ h => h) (hw : Region.wanted oi (yielded ops a.tmps) = false := by rfl) : wpAnyH P md ops Q S (fuel + 1) listed a w :=
 wpAnyH_take hi hs hf hr hQ (.inr ⟨hw, rfl⟩) hS h
end
end
section
open Go.RowKit Go.Lib
variable {P : Program} {ops : Array Oper} {Q : Exit → Act → World → Prop} {md : Region.Mode} {S : World → Prop}
theorem r1 (i : Nat) {o : Oper} {fuel : Nat} {listed : Array Bool} {a : Act} {w : World}
 (h : ∀ K' : Act → World → Prop, Go.Shut (∀ a w, S w → (S w → wpAnyH P md ops Q S fuel (listed.setIfInBounds i true) a w) → K' a w) → if Region.wanted o (yielded ops a.tmps) = true then Oper.wp P o a w K' Q else K' (a.put o.dst undef) w)
 (hr : Region.ready md ops listed = [i] := by kernel_rfl) (ho : ops[i]? = some o := by exact rfl) : wpAnyH P md ops Q S (fuel + 1) listed a w :=
 wpAnyH_ready hr (by simp) (AllReadyH.cons ho h AllReadyH.nil)
theorem r2 (i j : Nat) {o o' : Oper} {fuel : Nat} {listed : Array Bool} {a : Act} {w : World}
 (h : ∀ K' : Act → World → Prop, Go.Shut (∀ a w, S w → (S w → wpAnyH P md ops Q S fuel (listed.setIfInBounds i true) a w) → K' a w) → if Region.wanted o (yielded ops a.tmps) = true then Oper.wp P o a w K' Q else K' (a.put o.dst undef) w)
 (h' : ∀ K' : Act → World → Prop, Go.Shut (∀ a w, S w → (S w → wpAnyH P md ops Q S fuel (listed.setIfInBounds j true) a w) → K' a w) → if Region.wanted o' (yielded ops a.tmps) = true then Oper.wp P o' a w K' Q else K' (a.put o'.dst undef) w)
 (hr : Region.ready md ops listed = [i, j] := by kernel_rfl) (ho : ops[i]? = some o := by exact rfl) (ho' : ops[j]? = some o' := by exact rfl) : wpAnyH P md ops Q S (fuel + 1) listed a w :=
 wpAnyH_ready hr (by simp) (AllReadyH.cons ho h (AllReadyH.cons ho' h' AllReadyH.nil))
theorem cN {w w1 w2 : World} (h : RowKit.Hid (Below w.heap.size w w1)) (h2 : Below w1.heap.size w1 w2) : RowKit.Hid (Below w.heap.size w w2) := hid (h.out.trans (h2.mono h.out.size))
theorem gJ {w w1 : World} {g : Nat} {t : TypeId} {cs : Array Value} (h : RowKit.Hid (aE w g t cs)) (h2 : Below w.heap.size w w1) : RowKit.Hid (aE w1 g t cs) := hid (aE.below h.out h2 h.out.lt)
end
end Go.Proofs.YtplecfbdchmogaaGreat
