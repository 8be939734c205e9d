/- Merged: Mem, Tree, Own, Own2, Own3, Fold, HeldE, HeldF, Ints, Short. -/
import Derived.Deep.RegionHeld
import Derived.WalkKit
import Derived.Lib.Hide
import Derived.Deep.Quiet
import Derived.Deep.RegionLaw
import Derived.OrdersHeld
namespace Go.Proofs.YtjoddliplahgkaaGreat
set_option linter.unusedVariables false
set_option linter.unusedSimpArgs false
theorem aC {p : Prop} (h : p := by kernel_rfl) : p := h
theorem aD {p : Prop} (h : p := by simp) : p := h
theorem aE {p : Prop} (h : p := by decide) : p := h
theorem aF {p : Prop} (h : p := by rfl) : p := h
theorem aG {p : Prop} (h : p := by (simp; omega)) : p := h
theorem aH {p : Prop} (h : p := by (simp <;> omega)) : p := h
theorem aI {p : Prop} (h : p := by assumption) : p := h
theorem aJ {p : Prop} (h : p := by (unfold maxLen; omega)) : p := h
theorem aK {p : Prop} (h : p := by (intro e; injection e with e; omega)) : p := h
theorem _root_.Go.RowKit.Hid.o {p : Prop} (h : RowKit.Hid p) : p := RowKit.Hid.out h
theorem _root_.Go.Shut.o {p : Prop} (h : Shut p) : p := Shut.out h
theorem aA {p : Prop} (h : p := by omega) : p := h
open Go.Lib (hid)
section
open Go.RowKit
structure Nd where
 op : Int
 a : Int
 b : Int
deriving DecidableEq
instance : Inhabited Nd := ⟨⟨0, 0, 0⟩⟩
def bD (l : List Nd) (k : Nat) : Nd := l.getD k default
theorem kQ {l : List Nd} {k : Nat} (h : k < l.length) : bD l k = l[k] := by simp [bD, h]
theorem mQ (l : List Nd) (m k : Nat) : bD (l.drop m) k = bD l (m + k) := by simp [bD]
theorem MO {l : List Nd} {m k : Nat} (h : k < m) : bD (l.take m) k = bD l k := by
 simp [bD, h]
theorem OZ {l m : List Nd} (h : l.length = m.length) (hk : ∀ k, k < l.length → bD l k = bD m k) : l = m := by
 apply List.ext_getElem h
 intro i h1 h2
 have := hk i h1
 rwa [kQ h1, kQ h2] at this
theorem jX {l : List Nd} {k : Nat} (h : k < l.length) : l.drop k = bD l k :: l.drop (k + 1) := by
 rw [kQ h]; exact List.drop_eq_getElem_cons h
def sK (w : World) (b off : Nat) (l : List Nd) : Prop :=
 ∀ k, k < l.length → w.cell? ⟨b, off + k * 3, none⟩ = some (.int .i64 (bD l k).op) ∧ w.cell? ⟨b, off + k * 3 + 1, none⟩ = some (.int .i64 (bD l k).a) ∧ w.cell? ⟨b, off + k * 3 + 2, none⟩ = some (.int .i64 (bD l k).b)
structure bJ (R : Nat → Prop) (w : World) (A : Option Addr) (n c : Nat) (l : List Nd) : Prop where
 len : l.length = n
 cap : n ≤ c
 few : n ≤ 5864062014805
 nul : A = none → c = 0
 mem : 0 < n → ∃ b off, A = some ⟨b, off, none⟩ ∧ R b ∧ sK w b off l
abbrev aY (w : World) (A : Option Addr) (n cap : Nat) (l : List Nd) : Prop := bJ (· < w.heap.size) w A n cap l
theorem aY.at_ {w : World} {A : Option Addr} {n c : Nat} {l : List Nd} (h : aY w A n c l) {p : Nat} (hp : p < n) :
 ∃ b off, A = some ⟨b, off, none⟩ ∧ b < w.heap.size ∧ w.cell? ⟨b, off + p * 3, none⟩ = some (.int .i64 (bD l p).op) ∧ w.cell? ⟨b, off + p * 3 + 1, none⟩ = some (.int .i64 (bD l p).a) ∧ w.cell? ⟨b, off + p * 3 + 2, none⟩ = some (.int .i64 (bD l p).b) := by
 obtain ⟨b, off, e, hb, hm⟩ := h.mem (by omega)
 exact ⟨b, off, e, hb, hm p (by rw [h.len]; exact hp)⟩
theorem aY.cells {w : World} {b off n c : Nat} {l : List Nd} (h : aY w (some ⟨b, off, none⟩) n c l) {p : Nat} (hp : p < n) :
 b < w.heap.size ∧ w.cell? ⟨b, off + p * 3, none⟩ = some (.int .i64 (bD l p).op) ∧ w.cell? ⟨b, off + p * 3 + 1, none⟩ = some (.int .i64 (bD l p).a) ∧ w.cell? ⟨b, off + p * 3 + 2, none⟩ = some (.int .i64 (bD l p).b) := by
 obtain ⟨b', off', e, hb, hm⟩ := h.at_ hp
 injection e with e
 injection e with e1 e2
 subst e1 e2
 exact ⟨hb, hm⟩
theorem LH (w : World) (x y z : Value) (t : TypeId) (o : Nat) (v : Value) (h : #[x, y, z][o]? = some v) : (w.alloc (.cells #[x, y, z] t)).cell? ⟨w.heap.size, o, none⟩ = some v := by
 rw [World.cell?_alloc_new]; exact h
theorem aP (w : World) (o : Obj) : Below w.heap.size w (w.alloc o) := (Below.refl _ _).alloc (Nat.le_refl _) _
theorem a7 (w : World) (o o' : Obj) : Below w.heap.size w ((w.alloc o).alloc o') := (aP w o).alloc (by simp) _
theorem sK.keep {w w' : World} {b off : Nat} {l : List Nd} (h : sK w b off l) (hk : ∀ o, w'.cell? ⟨b, o, none⟩ = w.cell? ⟨b, o, none⟩) : sK w' b off l := by
 intro k a0
 rw [hk, hk, hk]
 exact h k a0
theorem bJ.keep {R R' : Nat → Prop} {w w' : World} {A : Option Addr} {n cap : Nat} {l : List Nd} (h : bJ R w A n cap l) (hR : ∀ b, R b → R' b ∧ ∀ o, w'.cell? ⟨b, o, none⟩ = w.cell? ⟨b, o, none⟩) : bJ R' w' A n cap l :=
 ⟨h.len, h.cap, h.few, h.nul, fun hn => by
  obtain ⟨b, off, e, hb, hm⟩ := h.mem hn
  exact ⟨b, off, e, (hR b hb).1, hm.keep (hR b hb).2⟩⟩
theorem aY.below {w w' : World} {A : Option Addr} {n cap : Nat} {l : List Nd} (h : aY w A n cap l) (hb : Below w.heap.size w w') : aY w' A n cap l :=
 ⟨h.len, h.cap, h.few, h.nul, fun hn => by
  obtain ⟨b, off, e, a0, hm⟩ := h.mem hn
  exact ⟨b, off, e, Nat.lt_of_lt_of_le a0 hb.size, hm.keep fun o => hb.cell (p := ⟨b, o, none⟩) a0⟩⟩
theorem aY.alloc {w : World} {A : Option Addr} {n c : Nat} {l : List Nd} (h : aY w A n c l) (o : Obj) : aY (w.alloc o) A n c l := h.below (aP _ _)
theorem aY.nil (w : World) : aY w none 0 0 [] := ⟨rfl, Nat.le_refl _, Nat.zero_le _, fun _ => rfl, fun h => absurd h (by omega)⟩
theorem aT {B : Nat} {a w : World} (h : Below B a w) (n : Nat) : Below B a (w.drewN n) := ⟨h.os, h.tape, h.output, h.size, h.block⟩
theorem fH {a b : Bool} (h : a = b) : Ending.returned (.bool a) = .returned (.bool b) := by rw [h]
theorem cT {k : IntKind} {a b : Int} (h : a = b) : Ending.returned (.int k a) = .returned (.int k b) := by rw [h]
theorem lZ {W w1 : World} (hb : Below W.heap.size W w1) : (∀ b o, b < W.heap.size → w1.cell? ⟨b, o, none⟩ = W.cell? ⟨b, o, none⟩) ∧ (∀ b o, b < W.heap.size → w1.frozen? ⟨b, o, none⟩ = W.frozen? ⟨b, o, none⟩) :=
 ⟨fun b o h => hb.cell (p := ⟨b, o, none⟩) h, fun b o h => hb.frozen (p := ⟨b, o, none⟩) h⟩
end
section
def cD (op a b : Int) : Bool :=
 if op = 1 then decide (0 ≤ a ∧ a ≤ 1048576 ∧ b = 0)
 else if op = 2 then decide ((a = 0 ∨ a = 1) ∧ 1 ≤ b ∧ b ≤ 4)
 else if op = 3 then decide (0 ≤ a ∧ a ≤ 16 ∧ 0 ≤ b ∧ b ≤ 1000)
 else if op = 4 then decide (a = 0 ∧ b = 0)
 else if op = 5 then decide (a = 0 ∧ b = 0)
 else if op = 6 then decide (a = 0 ∧ b = 0)
 else if op = 7 then decide (a = 0 ∧ b = 0)
 else if op = 8 then decide (0 ≤ a ∧ a < 64 ∧ b = 0)
 else if op = 9 then decide (0 ≤ a ∧ a < 64 ∧ b = 0)
 else if op = 10 then decide (0 ≤ a ∧ a < 64 ∧ 0 ≤ b ∧ b < 16)
 else if op = 11 then decide (0 ≤ a ∧ a < 64 ∧ 0 ≤ b ∧ b ≤ 16)
 else if op = 12 then decide (1 ≤ b ∧ b ≤ 4 ∧ 0 ≤ a ∧ a < b)
 else if op = 13 then decide (0 ≤ a ∧ a < 16 ∧ b = 0)
 else false
def dY (op b : Int) : Int := if op = 4 then 2 else if op = 5 then 2 else if op = 6 then 2 else if op = 13 then 2 else if op = 7 then 3 else if op = 11 then 2 + b else if op = 12 then b else 0
def eO (op k : Int) : Int := if (op = 4 ∨ op = 5) ∧ k = 1 ∨ op = 7 ∧ k = 2 then 1 else 0
def aR (op b k : Int) : Int := if (op = 4 ∨ op = 5) ∧ k = 1 ∨ op = 7 ∧ k = 2 then 1 else if op = 12 ∧ k % 2 = 1 then b else 0
theorem BY {c : Prop} [Decidable c] {x y : Bool} {q : Prop} (h1 : c → (x = true ↔ q)) (h2 : ¬ c → (y = true ↔ q)) : (if c then x else y) = true ↔ q := by
 split
 · exact h1 ‹_›
 exact h2 ‹_›
def eN (n : Nd) : Bool := cD n.op n.a n.b && decide (n.op ≠ 3) && decide (n.op ≠ 13)
def vI (n : Nd) : Bool := cD n.op n.a n.b && decide (n.op = 13)
theorem aV {op a b : Int} : cD op a b = true ↔ (op = 1 ∧ 0 ≤ a ∧ a ≤ 1048576 ∧ b = 0) ∨ (op = 2 ∧ (a = 0 ∨ a = 1) ∧ 1 ≤ b ∧ b ≤ 4) ∨ (op = 3 ∧ 0 ≤ a ∧ a ≤ 16 ∧ 0 ≤ b ∧ b ≤ 1000) ∨
 ((op = 4 ∨ op = 5 ∨ op = 6 ∨ op = 7) ∧ a = 0 ∧ b = 0) ∨ ((op = 8 ∨ op = 9) ∧ 0 ≤ a ∧ a < 64 ∧ b = 0) ∨ (op = 10 ∧ 0 ≤ a ∧ a < 64 ∧ 0 ≤ b ∧ b < 16) ∨ (op = 11 ∧ 0 ≤ a ∧ a < 64 ∧ 0 ≤ b ∧ b ≤ 16) ∨
 (op = 12 ∧ 1 ≤ b ∧ b ≤ 4 ∧ 0 ≤ a ∧ a < b) ∨ (op = 13 ∧ 0 ≤ a ∧ a < 16 ∧ b = 0) := by
 unfold cD
 iterate 13
  refine BY ?_ ?_ <;> intro _
  · subst_vars; rw [decide_eq_true_eq]; simp
 constructor
 · intro h; cases h
 intro h; omega
theorem gT {op a b : Int} (h : cD op a b = true) : 0 ≤ b ∧ b ≤ 1000 := by
 rw [aV] at h; omega
theorem fM {op a b : Int} (h : cD op a b = true) : 0 ≤ a ∧ a ≤ 1048576 := by
 rw [aV] at h; omega
theorem CA {op a b : Int} (h : cD op a b = true) : 0 ≤ dY op b ∧ dY op b ≤ 18 := by
 rw [aV] at h
 simp only [dY]
 repeat' split
 all_goals omega
def ds (n : Nd) : List Bool := if n.op = 12 then (List.replicate n.b.toNat [true, false]).flatten else List.replicate (dY n.op n.b).toNat false
inductive Fo where
 | nil
 | cons (pre : List Nd) (n : Nd) (atoms : List Nd) (kids next : Fo)
def bG : Nat → Int → List Nd → Option (List Nd × List Nd)
 | 0, _, l => some ([], l)
 | _ + 1, _, [] => none
 | k + 1, last, x :: l => if x.op = 3 ∧ cD x.op x.a x.b = true ∧ last < x.a then (bG k x.a l).map fun p => (x :: p.1, p.2) else none
def fX : Bool → List Nd → Option (List Nd × List Nd)
 | false, l => some ([], l)
 | true, [] => none
 | true, x :: l => if vI x then some ([x], l) else none
def iK (n : Nd) (l : List Nd) : Option (List Nd × List Nd) := if n.op = 2 then bG n.b.toNat (-1) l else some ([], l)
def kR : Nat → List Bool → List Nd → Option (Fo × List Nd)
 | 0, _, _ => none
 | _ + 1, [], l => some (.nil, l)
 | f + 1, d :: dr, l =>
  (fX d l).bind fun p => match p.2 with
   | [] => none
   | n :: l2 => if eN n then
    (iK n l2).bind fun q => (kR f (ds n) q.2).bind fun k => (kR f dr k.2).bind fun x => some (.cons p.1 n q.1 k.1 x.1, x.2)
    else none
theorem kT : ∀ (k : Nat) (last : Int) (l : List Nd) (p : List Nd × List Nd), bG k last l = some p → l = p.1 ++ p.2 ∧ p.1.length = k
 | 0, _, l, p, h => by simp only [bG, Option.some.injEq] at h; subst h; simp
 | k + 1, _, [], p, h => by simp [bG] at h
 | k + 1, last, x :: l, p, h => by
  simp only [bG] at h
  split at h
  · simp only [Option.map_eq_some_iff] at h
    obtain ⟨q, hq, rfl⟩ := h
    obtain ⟨h1, h2⟩ := kT k x.a l q hq
    simp [← h1, h2]
  · cases h
theorem rE {d : Bool} {l : List Nd} {p : List Nd × List Nd} (h : fX d l = some p) : l = p.1 ++ p.2 := by
 cases d with
 | false => simp only [fX, Option.some.injEq] at h; subst h; simp
 | true =>
  cases l with
  | nil => simp [fX] at h
  | cons x l =>
   simp only [fX] at h
   split at h
   · simp only [Option.some.injEq] at h; subst h; simp
   · cases h
theorem mF {n : Nd} {l : List Nd} {p : List Nd × List Nd} (h : iK n l = some p) : l = p.1 ++ p.2 := by
 simp only [iK] at h
 split at h
 · exact (kT _ _ _ _ h).1
 simp only [Option.some.injEq] at h; subst h; simp
def row : Fo → List Nd
 | .nil => []
 | .cons pre n atoms kids next => pre ++ n :: (atoms ++ (row kids ++ row next))
theorem lD : ∀ (f : Nat) (dl : List Bool) (l : List Nd) (x : Fo × List Nd), kR f dl l = some x → l = row x.1 ++ x.2 ∧ (dl ≠ [] → x.2.length < l.length)
 | 0, _, _, _, h => by simp [kR] at h
 | _ + 1, [], l, x, h => by simp only [kR, Option.some.injEq] at h; subst h; simp [row]
 | f + 1, d :: dr, l, x, h => by
  simp only [kR, Option.bind_eq_some_iff] at h
  obtain ⟨p, hp, h⟩ := h
  have e1 := rE hp
  split at h
  · cases h
  · rename_i n l2 hl2
    split at h
    · simp only [Option.bind_eq_some_iff] at h
      obtain ⟨q, hq, k, hk, y, hy, h⟩ := h
      simp only [Option.some.injEq] at h
      subst h
      have e2 := mF hq
      obtain ⟨e3, _⟩ := lD f _ _ _ hk
      obtain ⟨e4, _⟩ := lD f _ _ _ hy
      have e : l = p.1 ++ n :: (q.1 ++ (row k.1 ++ (row y.1 ++ y.2))) := by rw [e1, hl2, e2, e3, e4]
      refine ⟨by rw [e]; simp [row], fun _ => ?_⟩
      rw [e]
      simp
      omega
    cases h
theorem nO : ∀ (f g : Nat) (dl : List Bool) (l : List Nd), l.length < f → l.length < g → kR f dl l = kR g dl l
 | 0, _, _, _, h, _ => absurd h (by omega)
 | _, 0, _, _, _, h => absurd h (by omega)
 | f + 1, g + 1, [], l, _, _ => by simp [kR]
 | f + 1, g + 1, d :: dr, l, hf, hg => by
  simp only [kR]
  refine Option.bind_congr fun p hp => ?_
  have e1 := rE hp
  split
  · rfl
  · rename_i n l2 hl2
    split
    · refine Option.bind_congr fun q hq => ?_
      have e2 := mF hq
      have a1 : q.2.length < l.length := by rw [e1, hl2, e2]; simp; omega
      rw [nO f g (ds n) q.2 (by omega) (by omega)]
      refine Option.bind_congr fun k hk => ?_
      have e3 := (lD _ _ _ _ hk).1
      have a0 : k.2.length ≤ q.2.length := by rw [e3]; simp
      rw [nO f g dr k.2 (by omega) (by omega)]
    rfl
def pp (dl : List Bool) (l : List Nd) : Option (Fo × List Nd) := kR (l.length + 1) dl l
theorem j9 (l : List Nd) : pp [] l = some (.nil, l) := by simp [pp, kR]
theorem eX (d : Bool) (dr : List Bool) (l : List Nd) : pp (d :: dr) l =
 (fX d l).bind fun p => match p.2 with
  | [] => none
  | n :: l2 => if eN n then
   (iK n l2).bind fun q => (pp (ds n) q.2).bind fun k => (pp dr k.2).bind fun x => some (.cons p.1 n q.1 k.1 x.1, x.2)
   else none := by
 simp only [pp, kR]
 refine Option.bind_congr fun p hp => ?_
 have e1 := rE hp
 split
 · rfl
 rename_i n l2 hl2
 split
 · refine Option.bind_congr fun q hq => ?_
   have e2 := mF hq
   have a1 : q.2.length < l.length := by rw [e1, hl2, e2]; simp; omega
   rw [nO l.length (q.2.length + 1) (ds n) q.2 (by omega) (by omega)]
   refine Option.bind_congr fun k hk => ?_
   have e3 := (lD _ _ _ _ hk).1
   have a0 : k.2.length ≤ q.2.length := by rw [e3]; simp
   rw [nO l.length (k.2.length + 1) dr k.2 (by omega) (by omega)]
 rfl
theorem oX {dl : List Bool} {l : List Nd} {x : Fo × List Nd} (h : pp dl l = some x) : l = row x.1 ++ x.2 := (lD _ _ _ _ h).1
theorem wZ {dl : List Bool} {l : List Nd} {x : Fo × List Nd} (h : pp dl l = some x) (hd : dl ≠ []) : x.2.length < l.length := (lD _ _ _ _ h).2 hd
def Fo.app : Fo → Fo → Fo
 | .nil, g => g
 | .cons p n a k x, g => .cons p n a k (x.app g)
theorem rC : ∀ (d1 d2 : List Bool) (l : List Nd), pp (d1 ++ d2) l = (pp d1 l).bind fun x => (pp d2 x.2).map fun y => (x.1.app y.1, y.2)
 | [], d2, l => by simp [j9, Fo.app]
 | d :: d1, d2, l => by
  rw [List.cons_append, eX, eX]
  simp only [Option.bind_assoc]
  refine Option.bind_congr fun p hp => ?_
  split
  · rfl
  · split
    · simp only [Option.bind_assoc]
      refine Option.bind_congr fun q hq => ?_
      refine Option.bind_congr fun k hk => ?_
      rw [rC d1 d2 k.2]
      simp only [Option.bind_assoc]
      refine Option.bind_congr fun x hx => ?_
      cases hy : pp d2 x.2 <;> simp [Fo.app, hy]
    rfl
def ends (dl : List Bool) (t : List Nd) (p : Nat) : Option Nat := (pp dl (t.drop p)).map fun x => t.length - x.2.length
theorem nQ {dl : List Bool} {t : List Nd} {p : Nat} {x : Fo × List Nd} (h : pp dl (t.drop p) = some x) (hp : p ≤ t.length) : x.2 = t.drop (t.length - x.2.length) ∧ p ≤ t.length - x.2.length ∧ x.2.length ≤ t.length - p := by
 have e := oX h
 have hl := congrArg List.length e
 rw [List.length_drop, List.length_append] at hl
 refine ⟨?_, by omega, by omega⟩
 have : t.drop (p + (row x.1).length) = x.2 := by rw [← List.drop_drop, e, List.drop_left]
 rw [show t.length - x.2.length = p + (row x.1).length from by omega, this]
theorem LX {t : List Nd} {p : Nat} (hp : p ≤ t.length) : ends [] t p = some p := by
 simp only [ends, j9, Option.map_some, List.length_drop, Option.some.injEq]; omega
theorem BL (d1 d2 : List Bool) {t : List Nd} {p : Nat} (hp : p ≤ t.length) : ends (d1 ++ d2) t p = (ends d1 t p).bind (ends d2 t) := by
 unfold ends
 rw [rC, Option.map_bind, Option.bind_map]
 refine Option.bind_congr fun x hx => ?_
 obtain ⟨e, _, _⟩ := nQ hx hp
 simp only [Function.comp]
 rw [← e, Option.map_map]
 rfl
theorem qQ (d : Bool) (dr : List Bool) {t : List Nd} {p : Nat} (hp : p ≤ t.length) : ends (d :: dr) t p = (ends [d] t p).bind (ends dr t) := BL [d] dr hp
theorem sM {dl : List Bool} {t : List Nd} {p q : Nat} (h : ends dl t p = some q) (hp : p ≤ t.length) : p ≤ q ∧ q ≤ t.length ∧ (dl ≠ [] → p < q) := by
 simp only [ends, Option.map_eq_some_iff] at h
 obtain ⟨x, hx, rfl⟩ := h
 obtain ⟨_, h1, h2⟩ := nQ hx hp
 refine ⟨h1, by omega, fun hd => ?_⟩
 have := wZ hx hd
 rw [List.length_drop] at this
 omega
theorem pK (d : Bool) (dr : List Bool) {t : List Nd} {p : Nat} (hp : t.length ≤ p) : ends (d :: dr) t p = none := by
 simp only [ends]
 rw [List.drop_eq_nil_of_le hp, eX]
 cases d <;> simp [fX]
theorem LW (dr : List Bool) {t : List Nd} {p : Nat} (hp : p < t.length) : ends (true :: dr) t p = if vI (bD t p) then ends (false :: dr) t (p + 1) else none := by
 simp only [ends]
 rw [jX hp, eX, eX]
 simp only [fX]
 by_cases h : vI (bD t p) = true
 · simp only [h, if_true, Option.bind_some]
   split
   · rfl
   split
   · simp only [Option.map_bind]
     refine Option.bind_congr fun q hq => ?_
     simp only [Option.map_bind, Function.comp]
     refine Option.bind_congr fun k hk => ?_
     simp only [Option.map_bind, Function.comp]
     refine Option.bind_congr fun x hx => ?_
     rfl
   rfl
 simp [h]
def jA : Nat → Int → List Nd → Nat → Option Nat
 | 0, _, _, p => some p
 | k + 1, last, t, p => if p < t.length ∧ (bD t p).op = 3 ∧ cD (bD t p).op (bD t p).a (bD t p).b = true ∧ last < (bD t p).a then jA k (bD t p).a t (p + 1) else none
theorem wE : ∀ (k : Nat) (last : Int) (t : List Nd) (p : Nat), p ≤ t.length → (bG k last (t.drop p)).map (fun x => t.length - x.2.length) = jA k last t p
 | 0, _, t, p, hp => by simp only [bG, jA, Option.map_some, List.length_drop, Option.some.injEq]; omega
 | k + 1, last, t, p, hp => by
  by_cases h : p < t.length
  · rw [jX h]
    simp only [bG, jA, h, true_and]
    split
    · rw [← wE k (bD t p).a t (p + 1) h, Option.map_map]; rfl
    rfl
  · rw [List.drop_eq_nil_of_le (by omega)]
    simp [bG, jA, h]
theorem BM {t : List Nd} {p : Nat} (hp : p < t.length) : ends [false] t p = if eN (bD t p) then (if (bD t p).op = 2 then jA (bD t p).b.toNat (-1) t (p + 1) else ends (ds (bD t p)) t (p + 1)) else none := by
 simp only [ends]
 rw [jX hp, eX]
 simp only [fX, Option.bind_some]
 split
 · simp only [iK]
   split
   · rename_i h2
     have hd : ds (bD t p) = [] := by simp [ds, h2, dY]
     rw [← wE _ _ _ _ hp, hd]
     cases bG (bD t p).b.toNat (-1) (t.drop (p + 1)) <;> simp [j9]
   simp only [Option.bind_some, j9, Option.map_bind]
   cases pp (ds (bD t p)) (t.drop (p + 1)) <;> simp
 rfl
def mC (t : List Nd) (at_ : Int) : Int := if 0 ≤ at_ ∧ at_ < t.length then (match ends [false] t at_.toNat with | some q => (q : Int) | none => -1) else -1
def pW : Option Nat → Int
 | some q => q
 | none => -1
theorem mH (t : List Nd) (p : Nat) : mC t p = pW (ends [false] t p) := by
 simp only [mC]
 split
 · rw [Int.toNat_natCast]; cases ends [false] t p <;> rfl
 rw [pK _ _ (by omega)]; rfl
def gY (n : Nd) (i : Nat) : List Bool := if n.op = 12 then (List.replicate (n.b.toNat - i) [true, false]).flatten else List.replicate ((dY n.op n.b).toNat - i) false
theorem rI (n : Nd) : gY n 0 = ds n := by simp [gY, ds]
theorem uF (n : Nd) {i : Nat} (h : dY n.op n.b ≤ i) : gY n i = [] := by
 simp only [gY]
 split
 · rename_i h12
   have : n.b.toNat - i = 0 := by simp [dY, h12] at h; omega
   simp [this]
 have : (dY n.op n.b).toNat - i = 0 := by omega
 simp [this]
theorem uG {n : Nd} {i : Nat} (h : n.op = 12) (hi : (i : Int) < n.b) : gY n i = true :: false :: gY n (i + 1) := by
 simp only [gY, h, if_true]
 rw [show n.b.toNat - i = (n.b.toNat - (i + 1)) + 1 from by omega, List.replicate_succ]
 rfl
theorem uH {n : Nd} {i : Nat} (h : n.op ≠ 12) (hi : (i : Int) < dY n.op n.b) : gY n i = false :: gY n (i + 1) := by
 simp only [gY, h, if_false]
 rw [show (dY n.op n.b).toNat - i = ((dY n.op n.b).toNat - (i + 1)) + 1 from by omega, List.replicate_succ]
theorem nA {l : List Nd} {p m : Nat} {last : Int} (hp : p < l.length) (h3 : (bD l p).op = 3) (hpl : cD (bD l p).op (bD l p).a (bD l p).b = true) (hl : last < (bD l p).a) :
 bG (m + 1) last (l.drop p) = (bG m (bD l p).a (l.drop (p + 1))).map fun q => (bD l p :: q.1, q.2) := by
 rw [jX hp]; simp only [bG, h3, true_and]; rw [if_pos ⟨by rw [← h3]; exact hpl, hl⟩]
theorem gJ {l : List Nd} {p m : Nat} {last : Int} (h : p < l.length → (bD l p).op = 3 → cD (bD l p).op (bD l p).a (bD l p).b = true → last < (bD l p).a → False) :
 bG (m + 1) last (l.drop p) = none := by
 by_cases hp : p < l.length
 · rw [jX hp]; simp only [bG]; rw [if_neg (fun hh => h hp hh.1 hh.2.1 hh.2.2)]
 rw [List.drop_eq_nil_of_le (by omega)]; rfl
theorem G4 {l : List Nd} (hp : 0 < l.length) (hok : eN (bD l 0) = true) (h2 : (bD l 0).op = 2) :
 pp [false] l = (bG (bD l 0).b.toNat (-1) (l.drop 1)).map fun q => (.cons [] (bD l 0) q.1 .nil .nil, q.2) := by
 cases l with
 | nil => simp at hp
 | cons n m =>
  have e : bD (n :: m) 0 = n := rfl
  rw [e] at hok h2 ⊢
  have hd : ds n = [] := by simp [ds, h2, dY]
  rw [eX]
  simp only [fX, Option.bind_some, hok, if_true, iK, h2, hd, List.drop_one, List.tail_cons, j9]
  cases bG n.b.toNat (-1) m <;> rfl
theorem MX {l : List Nd} (d : List Bool) (h : 0 < l.length → eN (bD l 0) = false) : pp (false :: d) l = none := by
 cases l with
 | nil => simp [eX, fX]
 | cons n l =>
  have : eN n = false := h (by simp)
  simp [eX, fX, this]
def cX (op b : Int) : Int := if op = 4 then 2 else if op = 5 then 2 else if op = 6 then 2 else if op = 7 then 3 else if op = 11 then 2 + b else if op = 12 then 2 * b else 0
theorem Q5 {n : Nd} (h : eN n = true) : 0 ≤ cX n.op n.b ∧ cX n.op n.b ≤ 18 := by
 simp only [eN, Bool.and_eq_true, decide_eq_true_eq] at h
 have h1 := h.1.1
 rw [aV] at h1
 simp only [cX]
 repeat' split
 all_goals omega
theorem qP {n : Nd} (h : eN n = true) : (ds n).length = (cX n.op n.b).toNat := by
 simp only [eN, Bool.and_eq_true, decide_eq_true_eq] at h
 have h1 := gT h.1.1
 simp only [ds]
 split
 · rename_i h12
   simp [cX, h12, List.length_flatten]
   omega
 rename_i h12
 rw [List.length_replicate]
 simp only [dY, cX]
 repeat' split
 all_goals first | rfl | omega
theorem oJ : ∀ (m i : Nat), i < 2 * m → ((List.replicate m [true, false]).flatten).drop i = decide (i % 2 = 0) :: ((List.replicate m [true, false]).flatten).drop (i + 1)
 | 0, i, h => absurd h (by omega)
 | m + 1, 0, _ => by simp [List.replicate_succ]
 | m + 1, 1, _ => by simp [List.replicate_succ]
 | m + 1, i + 2, h => by
  have := oJ m i (by omega)
  simp only [List.replicate_succ, List.flatten_cons, List.cons_append, List.nil_append, List.drop_succ_cons]
  rw [this, show (i + 2) % 2 = i % 2 from by omega]
theorem OS {n : Nd} {i : Nat} (h : i < (ds n).length) : (ds n).drop i = decide (n.op = 12 ∧ i % 2 = 0) :: (ds n).drop (i + 1) := by
 by_cases h12 : n.op = 12
 · have e : ds n = (List.replicate n.b.toNat [true, false]).flatten := by simp [ds, h12]
   rw [e] at h ⊢
   rw [oJ _ _ (by simpa [List.length_flatten, Nat.mul_comm] using h)]
   simp [h12]
 have e : ds n = List.replicate (dY n.op n.b).toNat false := by simp [ds, h12]
 rw [e] at h ⊢
 rw [List.length_replicate] at h
 simp only [List.drop_replicate, h12, false_and, decide_false]
 rw [show (dY n.op n.b).toNat - i = ((dY n.op n.b).toNat - (i + 1)) + 1 from by omega, List.replicate_succ]
def Fo.setPre (p : List Nd) : Fo → Fo
 | .nil => .nil
 | .cons _ n a k x => .cons p n a k x
theorem rD {l : List Nd} {x : Fo × List Nd} (h : pp [false] l = some x) : ∃ n a k, x.1 = .cons [] n a k .nil := by
 rw [eX] at h
 simp only [fX, Option.bind_some] at h
 split at h
 · cases h
 split at h
 · simp only [Option.bind_eq_some_iff, j9, Option.some.injEq] at h
   obtain ⟨q, _, k, _, y, rfl, rfl⟩ := h
   exact ⟨_, _, _, rfl⟩
 cases h
theorem p8 (dr : List Bool) (l : List Nd) : pp (false :: dr) l = (pp [false] l).bind fun x => (pp dr x.2).map fun y => (x.1.app y.1, y.2) := rC [false] dr l
theorem G5 (dr : List Bool) (f : Nd) (l : List Nd) : pp (true :: dr) (f :: l) = if vI f then (pp [false] l).bind fun x => (pp dr x.2).map fun y => ((x.1.setPre [f]).app y.1, y.2) else none := by
 rw [eX, eX]
 simp only [fX]
 by_cases h : vI f = true
 · simp only [h, if_true, Option.bind_some]
   split
   · rfl
   split
   · simp only [Option.bind_assoc, j9, Option.bind_some, Fo.setPre]
     refine Option.bind_congr fun q hq => ?_
     refine Option.bind_congr fun k hk => ?_
     cases pp dr k.2 <;> rfl
   rfl
 simp [h]
theorem G3 {l : List Nd} (hp : 0 < l.length) (hok : eN (bD l 0) = true) (h2 : (bD l 0).op ≠ 2) :
 pp [false] l = (pp (ds (bD l 0)) (l.drop 1)).map fun q => (.cons [] (bD l 0) [] q.1 .nil, q.2) := by
 cases l with
 | nil => simp at hp
 | cons n m =>
  have e : bD (n :: m) 0 = n := rfl
  rw [e] at hok h2 ⊢
  rw [eX]
  simp only [fX, Option.bind_some, hok, if_true, iK, if_neg h2, List.drop_one, List.tail_cons, j9]
  cases pp (ds n) m <;> rfl
end
section
open Go.RowKit
def gO (n : Nd) : List Value := [.int .i64 n.op, .int .i64 n.a, .int .i64 n.b]
def i6 (l : List Nd) : List Value := l.flatMap gO
theorem wN (n : Nd) (l : List Nd) : i6 (n :: l) = gO n ++ i6 l := rfl
theorem BO (l m : List Nd) : i6 (l ++ m) = i6 l ++ i6 m := by simp [i6]
theorem BP (l : List Nd) : (i6 l).length = l.length * 3 := by
 induction l with
 | nil => rfl
 | cons n l ih => rw [wN, List.length_append, ih]; simp [gO]; omega
theorem lT : ∀ (l : List Nd) (k : Nat), k < l.length → (i6 l)[k * 3]? = some (.int .i64 (bD l k).op) ∧ (i6 l)[k * 3 + 1]? = some (.int .i64 (bD l k).a) ∧ (i6 l)[k * 3 + 2]? = some (.int .i64 (bD l k).b)
 | [], k, h => absurd h (by simp)
 | n :: l, 0, _ => ⟨rfl, rfl, rfl⟩
 | n :: l, k + 1, h => by
  obtain ⟨h1, h2, h3⟩ := lT l k (by simpa using h)
  have e : bD (n :: l) (k + 1) = bD l k := rfl
  rw [e, wN]
  refine ⟨?_, ?_, ?_⟩
  · rw [List.getElem?_append_right (by simp [gO]; omega), ← h1]; congr 1; simp [gO]; omega
  · rw [List.getElem?_append_right (by simp [gO]; omega), ← h2]; congr 1; simp [gO]; omega
  · rw [List.getElem?_append_right (by simp [gO]; omega), ← h3]; congr 1; simp [gO]; omega
theorem L6 (l : List Nd) : ∀ u ∈ i6 l, u.oneCell' = true := by
 intro u hu
 simp only [i6, gO, List.mem_flatMap] at hu
 obtain ⟨n, _, hu⟩ := hu
 simp at hu
 rcases hu with rfl | rfl | rfl <;> rfl
def gE (R : Nat → Prop) (w : World) (v : Value) (l : List Nd) : Prop := ∃ A n c, v = .slice A n c ∧ bJ R w A n c l
theorem gE.keep {R R' : Nat → Prop} {w w' : World} {v : Value} {l : List Nd} (h : gE R w v l) (hR : ∀ b, R b → R' b ∧ ∀ o, w'.cell? ⟨b, o, none⟩ = w.cell? ⟨b, o, none⟩) : gE R' w' v l := by
 obtain ⟨A, n, c, e, h⟩ := h
 exact ⟨A, n, c, e, h.keep hR⟩
theorem gE.nil (R : Nat → Prop) (w : World) : gE R w (.slice none 0 0) [] := ⟨none, 0, 0, rfl, rfl, Nat.le_refl _, Nat.zero_le _, fun _ => rfl, fun h => absurd h (by omega)⟩
def bN (w : World) (base : Nat) (v : Value) (l : List Nd) : Prop := w.ownsRow base 46 3 v l.length (i6 l)
theorem bN.nil (w : World) (base : Nat) : bN w base (.slice none 0 0) [] := World.ownsRow_nil w base _ _
theorem aU {w : World} {base : Nat} {e : TypeId} {size : Nat} {v : Value} {n : Nat} {xs : List Value} (h : w.ownsRow base e size v n xs) {g : Nat} (hg : v.ownBlock = some g) : base ≤ g ∧ g < w.heap.size ∧ ∃ cur, w.heap[g]? = some (.cells cur e (0, 0)) := by
 rcases h.2 with ⟨rfl, _⟩ | ⟨g', cap, cur, rfl, hb, a0, _⟩
 · simp [Value.ownBlock] at hg
 simp only [Value.ownBlock, Option.some.injEq] at hg
 subst hg
 exact ⟨hb, (Array.getElem?_eq_some_iff.1 a0).1, cur, a0⟩
theorem bN.termS {w : World} {base : Nat} {v : Value} {l : List Nd} (h : bN w base v l) (hl : l.length ≤ 5864062014805) : gE (fun b => v.ownBlock = some b) w v l := by
 have hc := fun g hg => World.ownsRow.cells h (g := g) hg
 rcases h.2 with ⟨rfl, h0⟩ | ⟨g, cap, cur, rfl, hb, a1, a0, _⟩
 · obtain rfl := List.eq_nil_of_length_eq_zero h0
   exact gE.nil _ _
 refine ⟨_, _, _, rfl, rfl, a0, hl, (fun e => by cases e), fun _ => ⟨g, 0, rfl, rfl, fun k hk => ?_⟩⟩
 obtain ⟨h1, h2, h3⟩ := lT l k hk
 have h1 := hc g rfl _ _ h1
 have h2 := hc g rfl _ _ h2
 have h3 := hc g rfl _ _ h3
 have ea : ∀ j, (⟨g, 0, none⟩ : Addr).add j = ⟨g, j, none⟩ := fun j => by unfold Addr.add; split <;> simp_all
 rw [ea] at h1 h2 h3
 simp only [Nat.zero_add]
 exact ⟨h1, h2, h3⟩
def aS (w : World) (g : Nat) (t : TypeId) (cs : Array Value) : Prop := w.heap[g]? = some (.cells cs t (0, 0))
section
variable {w w' : World} {g : Nat} {t : TypeId} {cs : Array Value}
theorem aS.lt (h : aS w g t cs) : g < w.heap.size := (Array.getElem?_eq_some_iff.1 h).1
theorem aS.cell (h : aS w g t cs) (i : Nat) : w.cell? ⟨g, i, none⟩ = cs[i]? := by
 unfold aS at h
 simp [World.cell?, h]
theorem aS.frozen (h : aS w g t cs) (i : Nat) : w.frozen? ⟨g, i, none⟩ = false := by
 unfold aS at h
 simp [World.frozen?, h]
theorem aS.new (w : World) (t : TypeId) (cs : Array Value) : aS (w.alloc (.cells cs t)) w.heap.size t cs := heap_alloc_new w _
theorem aS.drewN (h : aS w g t cs) (n : Nat) : aS (w.drewN n) g t cs := h
theorem aS.alloc (h : aS w g t cs) (o : Obj) : aS (w.alloc o) g t cs := (Below.heap_alloc w o g h.lt).trans h
theorem aS.set_ (h : aS w g t cs) (i : Nat) (u : Value) : aS (w.setCell ⟨g, i, none⟩ u) g t (cs.setIfInBounds i u) := by
 unfold aS at h ⊢
 simp [World.setCell, Array.getElem?_modify, h]
theorem aS.far (h : aS w g t cs) {p : Addr} (hp : g ≠ p.block) (u : Value) : aS (w.setCell p u) g t cs := (Below.heap_setCell w p u g hp).trans h
theorem aS.below {B : Nat} (h : aS w g t cs) (hb : Below B w w') (hg : g < B) : aS w' g t cs := (hb.block g hg).trans h
theorem aS.grown {row : Option Nat} (h : aS w g t cs) (hb : w.grownBy w' row) (hg : some g ≠ row) : aS w' g t cs := (hb.block g h.lt hg).trans h
end
structure fD (w w' : World) (base : Nat) (e : TypeId) (size : Nat) (v : Value) (A : Option Addr) (n c : Nat) (xs : List Value) : Prop where
 own : w'.ownsRow base e size (.slice A n c) n xs
 grown : w.grownBy w' v.ownBlock
 new : ∀ g, (Value.slice A n c).ownBlock = some g → v.ownBlock = some g ∨ w.heap.size ≤ g
theorem l9 {P : Program} (w : World) (base : Nat) (t ty e : TypeId) (i : TypeInfo) (z : Value) (size bytes : Nat) (ht : P.underlying t = some (.slice e)) (hi : P.info? e = some i) (hz : i.zero = some z)
 (hsize : i.size = size) (hby : i.bytes = bytes) (hzs : z.cells.size = size) (hsz : 0 < size)
 (v : Value) (n : Nat) (xs : List Value) (hown : w.ownsRow base e size v n xs)
 (A : Option Addr) (m c : Nat) (news : List Value) (hl : news.length = m * size) (hnone : A = none → m = 0 ∧ c = 0) (hnews : ∀ ad, A = some ad → ∀ j u, news[j]? = some u → w.cell? (ad.add j) = some u) (h1 : ∀ u ∈ news, u.oneCell' = true)
 (h63 : n + m ≤ maxLen) (hbytes : (n + m) * bytes ≤ 140737488355328) (hbase : base ≤ w.heap.size) :
 ∃ A' c' w', (Builtin.append_ #[t, t] ty #[v, .slice A m c]).run P w = .ok (.slice A' (n + m) c') w' ∧ fD w w' base e size v A' (n + m) c' (xs ++ news) := by
 cases A with
 | none =>
  obtain ⟨rfl, rfl⟩ := hnone rfl
  obtain rfl : news = [] := List.eq_nil_of_length_eq_zero (by simpa using hl)
  have hr := run_append_owned_none (P := P) w base t ty e i size ht hi v n xs hown
  obtain ⟨A', c', rfl⟩ : ∃ A' c', v = .slice A' n c' := by
   rcases hown.2 with ⟨rfl, rfl⟩ | ⟨g, cap, cur, rfl, _⟩
   · exact ⟨none, 0, rfl⟩
   exact ⟨_, _, rfl⟩
  exact ⟨A', c', w, hr, by simpa using hown, World.grownBy.refl _ _, fun g hg => .inl hg⟩
 | some ad =>
  have hnews := hnews ad rfl
  obtain ⟨v', w', hr, h2, h3, h4⟩ := run_append_own (P := P) w base t ty e i z size bytes ht hi hz hsize hby hzs hsz v n xs hown ad m c news hl hnews h1 h63 hbytes hbase
  obtain ⟨A', c', rfl⟩ : ∃ A' c', v' = .slice A' (n + m) c' := by
   rcases h2.2 with ⟨rfl, h0⟩ | ⟨g, cap, cur, rfl, _⟩
   · rw [h0]; exact ⟨none, 0, rfl⟩
   exact ⟨_, _, rfl⟩
  refine ⟨A', c', w', hr, h2, h3, fun g hg => ?_⟩
  subst hsize
  subst hby
  rcases hown.2 with ⟨rfl, rfl⟩ | ⟨g0, cap, cur, rfl, hb, a2, a4, a5, a3, a1⟩
  · by_cases hm : m = 0
    · have := h4.2 ⟨rfl, hm⟩
      rw [this] at hg
      exact .inl hg
    have a0 := run_append_nil (P := P) w t ty e i z ht hi hz ad m c news hl hnews (by omega) (by unfold maxLen at h63; omega) (by simp only [Nat.zero_add] at hbytes; omega)
    rw [hr] at a0
    injection a0 with hv _
    rw [hv] at hg
    simp only [Value.ownBlock, Option.some.injEq] at hg
    exact .inr (by omega)
  · by_cases hroom : n + m ≤ cap
    · have a0 := run_append_room (P := P) w t ty e i ht hi g0 n cap cur a2 ad m c news hl hnews h1 hroom (by rw [hl, a3, ← Nat.add_mul]; exact Nat.mul_le_mul_right _ hroom)
      rw [hr] at a0
      injection a0 with hv _
      rw [hv] at hg
      exact .inl hg
    have a0 := run_append_grow (P := P) w t ty e i z ht hi hz ⟨g0, 0, none⟩ n cap xs hown.1 (hown.cells (g := g0) rfl) ad m c news hl hnews (by omega) (by unfold maxLen at h63; omega) (growslice_fits (by omega) hbytes)
    rw [hr] at a0
    injection a0 with hv _
    rw [hv] at hg
    simp only [Value.ownBlock, Option.some.injEq] at hg
    exact .inr (by omega)
theorem eE {P : Program} {o : Oper} {a : Act} {w : World} {K : Act → World → Prop} {Q : Exit → Act → World → Prop}
 (s x : Operand) (t : TypeId) (hop : o.op = Op.call { callee := Callee.builtin Builtin.append, args := #[s, x], argTypes := #[t, t] })
 (base : Nat) (e : TypeId) (i : TypeInfo) (z : Value) (size bytes : Nat) (h1 : P.underlying t = some (.slice e)) (h2 : P.info? e = some i) (h3 : i.zero = some z) (h4 : i.size = size) (h5 : i.bytes = bytes) (h6 : z.cells.size = size) (h7 : 0 < size)
 (v : Value) (n : Nat) (xs : List Value) (hs : a.eval s = v) (hown : w.ownsRow base e size v n xs)
 (A : Option Addr) (m c : Nat) (news : List Value) (hx : a.eval x = .slice A m c) (hn : news.length = m * size) (hnone : A = none → m = 0 ∧ c = 0) (hc : ∀ ad, A = some ad → ∀ j u, news[j]? = some u → w.cell? (ad.add j) = some u) (h1c : ∀ u ∈ news, u.oneCell' = true)
 (b1 : n + m ≤ maxLen) (b2 : (n + m) * bytes ≤ 140737488355328) (b3 : base ≤ w.heap.size)
 (hK : ∀ A' c' w', fD w w' base e size v A' (n + m) c' (xs ++ news) → K (a.put o.dst (.slice A' (n + m) c')) w') : Oper.wp P o a w K Q := by
 obtain ⟨A', c', w', a0, a1⟩ := l9 (P := P) w base t o.type e i z size bytes h1 h2 h3 h4 h5 h6 h7 v n xs hown A m c news hn hnone hc h1c b1 b2 b3
 unfold Oper.wp
 simp [execOp, hop, resolve, invoke, builtin, hs, hx, a0, Result.andThen]
 exact hK A' c' w' a1
theorem eY {w : World} {base : Nat} {e : TypeId} {size : Nat} {v : Value} {n : Nat} {xs : List Value} (h : w.ownsRow base e size v n xs) {g : Nat} (hg : g < base) : some g ≠ v.ownBlock := by
 intro e
 have := (aU h e.symm).1
 omega
theorem pX {w w' : World} {base base' : Nat} {e e' : TypeId} {size size' : Nat} {v v' : Value} {n n' : Nat} {xs xs' : List Value} (h : w.ownsRow base e size v n xs) (h' : w.ownsRow base' e' size' v' n' xs') (he : e ≠ e') (hg : w.grownBy w' v'.ownBlock) : w'.ownsRow base e size v n xs := by
 refine h.kept hg ?_
 cases hv : v.ownBlock with
 | none => exact .inl rfl
 | some g =>
  refine .inr fun hh => ?_
  obtain ⟨_, _, c1, h1⟩ := aU h hv
  obtain ⟨_, _, c2, h2⟩ := aU h' hh.symm
  rw [h1] at h2
  injection h2 with h2
  injection h2 with _ h3
  exact he h3
theorem mL {w w' : World} (hb : Below w.heap.size w w') (row : Option Nat) : w.grownBy w' row := ⟨hb.os, hb.tape, hb.output, hb.size, fun k hk _ => hb.block k hk⟩
theorem cB {w w' : World} {base : Nat} {e : TypeId} {size : Nat} {v : Value} {n : Nat} {xs : List Value} (h : w.ownsRow base e size v n xs) (hb : Below w.heap.size w w') : w'.ownsRow base e size v n xs :=
 h.kept (mL hb none) (by cases v.ownBlock <;> simp)
theorem bN.below {w w' : World} {base : Nat} {v : Value} {l : List Nd} (h : bN w base v l) (hb : Below w.heap.size w w') : bN w' base v l := cB h hb
theorem bN.drewN {w : World} {base : Nat} {v : Value} {l : List Nd} (h : bN w base v l) (m : Nat) : bN (w.drewN m) base v l := h
theorem bN.alloc {w : World} {base : Nat} {v : Value} {l : List Nd} (h : bN w base v l) (o : Obj) : bN (w.alloc o) base v l := World.ownsRow.alloc h o
theorem bN.setCell {w : World} {base : Nat} {v : Value} {l : List Nd} (h : bN w base v l) {a : Addr} (ha : a.block < base) (u : Value) : bN (w.setCell a u) base v l := ownsRow_setCell_below h ha u
theorem IV (w : World) (n : Nd) : ∀ j u, (gO n)[j]? = some u → (w.alloc (.cells #[.int .i64 n.op, .int .i64 n.a, .int .i64 n.b] 46)).cell? ((⟨w.heap.size, 0, none⟩ : Addr).add j) = some u := by
 intro j u hu
 have ea : (⟨w.heap.size, 0, none⟩ : Addr).add j = ⟨w.heap.size, j, none⟩ := by unfold Addr.add; split <;> simp_all
 rw [ea, World.cell?_alloc_new, ← hu]
 simp [gO]
theorem fD.ownN {w w' : World} {base : Nat} {v : Value} {A : Option Addr} {n c : Nat} {l m : List Nd} (h : fD w w' base 46 3 v A n c (i6 l ++ i6 m)) (hn : n = l.length + m.length) : bN w' base (.slice A n c) (l ++ m) := by
 unfold bN
 rw [List.length_append, BO, ← hn]
 exact h.own
theorem cQ {P : Program} {o : Oper} {a : Act} {w : World} {K : Act → World → Prop} {Q : Exit → Act → World → Prop}
 (s x : Operand) (t : TypeId) (hop : o.op = Op.call { callee := Callee.builtin Builtin.append, args := #[s, x], argTypes := #[t, t] })
 (base : Nat) (i : TypeInfo) (h1 : P.underlying t = some (.slice 46)) (h2 : P.info? 46 = some i) (h3 : i.zero = some (.agg #[.int .i64 0, .int .i64 0, .int .i64 0])) (h4 : i.size = 3) (h5 : i.bytes = 24)
 (v : Value) (l : List Nd) (n : Nd) (W : World) (hW : w = W.alloc (.cells #[.int .i64 n.op, .int .i64 n.a, .int .i64 n.b] 46)) (hs : a.eval s = v) (hown : bN W base v l)
 (g : Nat) (hx : a.eval x = .slice (some ⟨g, 0, none⟩) 1 1) (hgW : g = W.heap.size) (b1 : l.length + 1 ≤ 5864062014805) (b3 : base ≤ W.heap.size)
 (hK : ∀ A' c' w', bN w' base (.slice A' (l.length + 1) c') (l ++ [n]) → fD W w' base 46 3 v A' (l.length + 1) c' (i6 l ++ gO n) → K (a.put o.dst (.slice A' (l.length + 1) c')) w') : Oper.wp P o a w K Q := by
 subst hW
 subst hgW
 refine eE s x t hop base _ i _ 3 24 h1 h2 h3 h4 h5 rfl (by decide) v l.length (i6 l) hs (World.ownsRow.alloc hown _) _ 1 1 (gO n) hx rfl (fun e => by cases e) (fun ad e => by injection e with e; subst e; exact IV _ _) ?_ (by unfold maxLen; omega) (by omega) (by simp; omega) ?_
 · intro u hu
   simp [gO] at hu
   rcases hu with rfl | rfl | rfl <;> rfl
 intro A' c' w' h
 refine hK A' c' w' ?_ ⟨h.own, ?_, fun g hg => (h.new g hg).imp id (fun hh => by simp at hh; omega)⟩
 · exact fD.ownN (m := [n]) (by simpa [i6] using h) rfl
 refine ⟨h.grown.os, h.grown.tape, h.grown.output, Nat.le_trans (by simp) h.grown.size, fun k hk hne => ?_⟩
 rw [h.grown.block k (by simp; omega) hne]
 exact Below.heap_alloc _ _ _ hk
theorem O2 {l : List Nd} {j : Nat} {u : Value} (h : (i6 l)[j]? = some u) : ∃ k, k < l.length ∧ ((j = k * 3 ∧ u = .int .i64 (bD l k).op) ∨ (j = k * 3 + 1 ∧ u = .int .i64 (bD l k).a) ∨ (j = k * 3 + 2 ∧ u = .int .i64 (bD l k).b)) := by
 have hj := (List.getElem?_eq_some_iff.1 h).1
 rw [BP] at hj
 have hk : j / 3 < l.length := by omega
 obtain ⟨h1, h2, h3⟩ := lT l (j / 3) hk
 have hm : j = j / 3 * 3 ∨ j = j / 3 * 3 + 1 ∨ j = j / 3 * 3 + 2 := by omega
 refine ⟨j / 3, hk, ?_⟩
 rcases hm with hm | hm | hm
 · rw [← hm] at h1; rw [h] at h1; exact .inl ⟨hm, Option.some.inj h1⟩
 · rw [← hm] at h2; rw [h] at h2; exact .inr (.inl ⟨hm, Option.some.inj h2⟩)
 rw [← hm] at h3; rw [h] at h3; exact .inr (.inr ⟨hm, Option.some.inj h3⟩)
theorem bJ.flat_cells {R : Nat → Prop} {w : World} {A : Option Addr} {n c : Nat} {l : List Nd} (h : bJ R w A n c l) (ad : Addr) (hA : A = some ad) : ∀ j u, (i6 l)[j]? = some u → w.cell? (ad.add j) = some u := by
 intro j u hu
 obtain ⟨k, hk, hh⟩ := O2 hu
 obtain ⟨b, off, e, _, hm⟩ := h.mem (by rw [← h.len]; omega)
 rw [hA] at e
 injection e with e
 subst e
 obtain ⟨m1, m2, m3⟩ := hm k hk
 have ea : ∀ j, (⟨b, off, none⟩ : Addr).add j = ⟨b, off + j, none⟩ := fun j => by unfold Addr.add; split <;> simp_all
 rw [ea]
 rcases hh with ⟨rfl, rfl⟩ | ⟨rfl, rfl⟩ | ⟨rfl, rfl⟩
 · exact m1
 · exact m2
 exact m3
theorem yN {P : Program} {t u e : TypeId} (ht : P.underlying t = some (.slice e)) (hu : P.underlying u = some (.slice e)) (ty : TypeId) (B : Option Addr) (m k : Nat) (x : Value) (w : World) :
 (Builtin.append_ #[t, u] ty #[.slice B m k, x]).run P w = (Builtin.append_ #[t, t] ty #[.slice B m k, x]).run P w := by
 simp [Builtin.append_, run_underlying ht, run_underlying hu]
theorem cE {P : Program} {o : Oper} {a : Act} {w : World} {K : Act → World → Prop} {Q : Exit → Act → World → Prop}
 (s x : Operand) (t u : TypeId) (hop : o.op = Op.call { callee := Callee.builtin Builtin.append, args := #[s, x], argTypes := #[t, u] })
 (base : Nat) (i : TypeInfo) (h1 : P.underlying t = some (.slice 46)) (h1u : P.underlying u = some (.slice 46)) (h2 : P.info? 46 = some i) (h3 : i.zero = some (.agg #[.int .i64 0, .int .i64 0, .int .i64 0])) (h4 : i.size = 3) (h5 : i.bytes = 24)
 (v : Value) (l m : List Nd) (hs : a.eval s = v) (hown : bN w base v l) {R : Nat → Prop} {A : Option Addr} {n c : Nat} (hx : a.eval x = .slice A n c) (hm : bJ R w A n c m)
 (b1 : l.length + n ≤ 5864062014805) (b3 : base ≤ w.heap.size)
 (hK : ∀ A' c' w', bN w' base (.slice A' (l.length + n) c') (l ++ m) → fD w w' base 46 3 v A' (l.length + n) c' (i6 l ++ i6 m) → K (a.put o.dst (.slice A' (l.length + n) c')) w') : Oper.wp P o a w K Q := by
 obtain ⟨A', c', w', a0, a1⟩ := l9 (P := P) w base t o.type _ i _ 3 24 h1 h2 h3 h4 h5 rfl (by decide) v l.length (i6 l) hown A n c (i6 m) (by rw [BP, hm.len])
  (fun e => ⟨by
   by_cases h0 : 0 < n
   · obtain ⟨b, off, e2, _⟩ := hm.mem h0
     rw [e] at e2; cases e2
   · omega, hm.nul e⟩) (fun ad e => hm.flat_cells ad e) (L6 m) (by unfold maxLen; omega) (by omega) b3
 obtain ⟨B, k0, rfl⟩ : ∃ B k0, v = .slice B l.length k0 := by
  rcases hown.2 with ⟨rfl, h0⟩ | ⟨g, cap, cur, rfl, _⟩
  · rw [h0]; exact ⟨none, 0, rfl⟩
  exact ⟨_, _, rfl⟩
 rw [← yN h1 h1u] at a0
 unfold Oper.wp
 simp [execOp, hop, resolve, invoke, builtin, hs, hx, a0, Result.andThen]
 exact hK A' c' w' (fD.ownN a1 (by rw [hm.len])) a1
theorem bL {P : Program} {ops : Array Oper} {rest : List Oper} {o : Oper} {a : Act} {w : World} {Q : Exit → Act → World → Prop} (hg : o.guard = none) (h : Oper.wp P o a w (wpList P ops Q rest) Q) : wpList P ops Q (o :: rest) a w := by
 unfold wpList
 rw [if_pos (by simp [Region.wanted, hg])]
 exact .inl h
theorem lI {P : Program} {ops : Array Oper} {o : Oper} {a : Act} {w : World} {K : Act → World → Prop} {Q : Exit → Act → World → Prop} {E : Prop} (hg : o.guard = none) (h : Oper.wp P o a w K Q) :
 if Region.wanted o (yielded ops a.tmps) = true then Oper.wp P o a w K Q else E := by
 rw [if_pos (by simp [Region.wanted, hg])]; exact h
def bF : Fo → Nat
 | .nil => 0
 | .cons _ _ _ _ x => bF x + 1
def cO : Fo → List Nd
 | .nil => []
 | .cons p _ _ _ x => p ++ cO x
def sD (R : Nat → Prop) (w : World) : Fo → Nat → Nat → Prop
 | .nil, _, _ => True
 | .cons _ n atoms kids next, b, off =>
  (w.cell? ⟨b, off, none⟩ = some (.int .i64 n.op) ∧ w.cell? ⟨b, off + 1, none⟩ = some (.int .i64 n.a) ∧ w.cell? ⟨b, off + 2, none⟩ = some (.int .i64 n.b)) ∧
  (∃ A c, w.cell? ⟨b, off + 3, none⟩ = some (.slice A (bF kids) c) ∧ bF kids ≤ c ∧ (0 < bF kids → ∃ b' off', A = some ⟨b', off', none⟩ ∧ R b' ∧ sD R w kids b' off')) ∧
  (∃ v, w.cell? ⟨b, off + 4, none⟩ = some v ∧ gE R w v atoms) ∧
  (∃ v, w.cell? ⟨b, off + 5, none⟩ = some v ∧ gE R w v (cO kids)) ∧
  sD R w next b (off + 6)
structure dM (R : Nat → Prop) (w : World) (A : Option Addr) (n c : Nat) (F : Fo) : Prop where
 len : bF F = n
 cap : n ≤ c
 mem : 0 < n → ∃ b off, A = some ⟨b, off, none⟩ ∧ R b ∧ sD R w F b off
def rS (R : Nat → Prop) (w : World) (v : Value) (F : Fo) : Prop := ∃ A n c, v = .slice A n c ∧ dM R w A n c F
def cR (R : Nat → Prop) (w : World) (xs : List Value) (n : Nd) (atoms : List Nd) (kids : Fo) : Prop :=
 ∃ sk sa sf, xs = [.int .i64 n.op, .int .i64 n.a, .int .i64 n.b, sk, sa, sf] ∧ rS R w sk kids ∧ gE R w sa atoms ∧ gE R w sf (cO kids)
theorem sD.keep {R R' : Nat → Prop} {w w' : World} (hR : ∀ b, R b → R' b ∧ ∀ o, w'.cell? ⟨b, o, none⟩ = w.cell? ⟨b, o, none⟩) : ∀ (F : Fo) (b off : Nat), sD R w F b off → (∀ o, w'.cell? ⟨b, o, none⟩ = w.cell? ⟨b, o, none⟩) → sD R' w' F b off
 | .nil, _, _, _, _ => trivial
 | .cons p n atoms kids next, b, off, h, hb => by
  obtain ⟨h0, ⟨A, c, h1, h2, h3⟩, ⟨v, h4, h5⟩, ⟨u, h6, h7⟩, h8⟩ := h
  refine ⟨by rw [hb, hb, hb]; exact h0, ⟨A, c, by rw [hb]; exact h1, h2, fun hk => ?_⟩, ⟨v, by rw [hb]; exact h4, h5.keep hR⟩, ⟨u, by rw [hb]; exact h6, h7.keep hR⟩, sD.keep hR next b _ h8 hb⟩
  obtain ⟨b', off', e, hr, hf⟩ := h3 hk
  exact ⟨b', off', e, (hR b' hr).1, sD.keep hR kids b' off' hf (hR b' hr).2⟩
theorem dM.keep {R R' : Nat → Prop} {w w' : World} {A : Option Addr} {n c : Nat} {F : Fo} (h : dM R w A n c F) (hR : ∀ b, R b → R' b ∧ ∀ o, w'.cell? ⟨b, o, none⟩ = w.cell? ⟨b, o, none⟩) : dM R' w' A n c F :=
 ⟨h.len, h.cap, fun hn => by
  obtain ⟨b, off, e, hr, hf⟩ := h.mem hn
  exact ⟨b, off, e, (hR b hr).1, sD.keep hR F b off hf (hR b hr).2⟩⟩
theorem rS.keep {R R' : Nat → Prop} {w w' : World} {v : Value} {F : Fo} (h : rS R w v F) (hR : ∀ b, R b → R' b ∧ ∀ o, w'.cell? ⟨b, o, none⟩ = w.cell? ⟨b, o, none⟩) : rS R' w' v F := by
 obtain ⟨A, n, c, e, h⟩ := h
 exact ⟨A, n, c, e, h.keep hR⟩
theorem rS.nil (R : Nat → Prop) (w : World) : rS R w (.slice none 0 0) .nil := ⟨none, 0, 0, rfl, rfl, Nat.le_refl _, fun h => absurd h (by omega)⟩
theorem cR.keep {R R' : Nat → Prop} {w w' : World} {xs : List Value} {n : Nd} {atoms : List Nd} {kids : Fo} (h : cR R w xs n atoms kids) (hR : ∀ b, R b → R' b ∧ ∀ o, w'.cell? ⟨b, o, none⟩ = w.cell? ⟨b, o, none⟩) : cR R' w' xs n atoms kids := by
 obtain ⟨sk, sa, sf, e, h1, h2, h3⟩ := h
 exact ⟨sk, sa, sf, e, h1.keep hR, h2.keep hR, h3.keep hR⟩
def kP (R : Nat → Prop) (w : World) : Fo → List Value → Prop
 | .nil, xs => xs = []
 | .cons _ n atoms kids next, xs => ∃ ys zs, xs = ys ++ zs ∧ cR R w ys n atoms kids ∧ kP R w next zs
theorem kP.keep {R R' : Nat → Prop} {w w' : World} (hR : ∀ b, R b → R' b ∧ ∀ o, w'.cell? ⟨b, o, none⟩ = w.cell? ⟨b, o, none⟩) : ∀ (F : Fo) (xs : List Value), kP R w F xs → kP R' w' F xs
 | .nil, _, h => h
 | .cons _ n atoms kids next, xs, h => by
  obtain ⟨ys, zs, e, h1, h2⟩ := h
  exact ⟨ys, zs, e, h1.keep hR, kP.keep hR next zs h2⟩
theorem kP.app {R : Nat → Prop} {w : World} : ∀ (F G : Fo) (xs ys : List Value), kP R w F xs → kP R w G ys → kP R w (F.app G) (xs ++ ys)
 | .nil, G, xs, ys, h, hg => by
  have : xs = [] := h
  subst this
  exact hg
 | .cons _ n atoms kids next, G, xs, ys, h, hg => by
  obtain ⟨a, b, e, h1, h2⟩ := h
  exact ⟨a, b ++ ys, by rw [e, List.append_assoc], h1, kP.app next G b ys h2 hg⟩
theorem kP.at_ {R : Nat → Prop} {w : World} : ∀ (F : Fo) (xs : List Value) (b off : Nat), kP R w F xs → (∀ j u, xs[j]? = some u → w.cell? ⟨b, off + j, none⟩ = some u) → sD R w F b off
 | .nil, _, _, _, _, _ => trivial
 | .cons _ n atoms kids next, xs, b, off, h, hc => by
  obtain ⟨ys, zs, e, ⟨sk, sa, sf, e2, h1, h2, h3⟩, h4⟩ := h
  subst e2 e
  obtain ⟨A, m, c, rfl, hk⟩ := h1
  refine ⟨⟨hc 0 _ rfl, hc 1 _ rfl, hc 2 _ rfl⟩, ⟨A, c, ?_, ?_, ?_⟩, ⟨sa, hc 4 _ rfl, h2⟩, ⟨sf, hc 5 _ rfl, h3⟩, kP.at_ next zs b (off + 6) h4 fun j u hu => ?_⟩
  · rw [hk.len]; exact hc 3 _ rfl
  · rw [hk.len]; exact hk.cap
  · rw [hk.len]; exact hk.mem
  · rw [Nat.add_assoc]
    refine hc (6 + j) u ?_
    rw [List.getElem?_append_right (by simp)]
    simpa using hu
theorem hP {R : Nat → Prop} {w : World} {base : Nat} {v : Value} {F : Fo} {xs : List Value} (h : w.ownsRow base 85 6 v (bF F) xs) (hc : kP R w F xs) (hR : ∀ b, v.ownBlock = some b → R b) : rS R w v F := by
 have a1 := fun g hg => World.ownsRow.cells h (g := g) hg
 rcases h.2 with ⟨rfl, h0⟩ | ⟨g, cap, cur, rfl, hb, a2, a0, _⟩
 · refine ⟨none, 0, 0, rfl, h0, Nat.le_refl _, fun hn => absurd hn (by omega)⟩
 refine ⟨_, _, _, rfl, rfl, a0, fun _ => ⟨g, 0, rfl, hR g rfl, kP.at_ F xs g 0 hc fun j u hu => ?_⟩⟩
 have := a1 g rfl j u hu
 have ea : (⟨g, 0, none⟩ : Addr).add j = ⟨g, j, none⟩ := by unfold Addr.add; split <;> simp_all
 rw [ea] at this
 rwa [Nat.zero_add]
theorem sD.app {R : Nat → Prop} {w : World} : ∀ (F G : Fo) (b off : Nat), sD R w (F.app G) b off ↔ sD R w F b off ∧ sD R w G b (off + bF F * 6)
 | .nil, G, b, off => by simp [Fo.app, sD, bF]
 | .cons p n atoms kids next, G, b, off => by
  simp only [Fo.app, sD, bF]
  rw [sD.app next G b (off + 6)]
  rw [show off + 6 + bF next * 6 = off + (bF next + 1) * 6 from by omega]
  simp only [and_assoc]
theorem fL {P : Program} {o : Oper} {a : Act} {w : World} {K : Act → World → Prop} {Q : Exit → Act → World → Prop}
 (s x : Operand) (t : TypeId) (hop : o.op = Op.call { callee := Callee.builtin Builtin.append, args := #[s, x], argTypes := #[t, t] })
 (base : Nat) (i : TypeInfo) (z : Value) (h1 : P.underlying t = some (.slice 85)) (h2 : P.info? 85 = some i) (h3 : i.zero = some z) (h4 : i.size = 6) (h5 : i.bytes = 96) (h6 : z.cells.size = 6)
 (v : Value) (n : Nat) (xs ys : List Value) (hy : ys.length = 6) (hone : ∀ u ∈ ys, u.oneCell' = true) (W : World) (hW : w = W.alloc (.cells ys.toArray 85)) (hs : a.eval s = v) (hown : W.ownsRow base 85 6 v n xs)
 (g : Nat) (hx : a.eval x = .slice (some ⟨g, 0, none⟩) 1 1) (hgW : g = W.heap.size) (b1 : n + 1 ≤ 1000000000000) (b3 : base ≤ W.heap.size)
 (hK : ∀ A' c' w', fD W w' base 85 6 v A' (n + 1) c' (xs ++ ys) → K (a.put o.dst (.slice A' (n + 1) c')) w') : Oper.wp P o a w K Q := by
 subst hW
 subst hgW
 refine eE s x t hop base _ i _ 6 96 h1 h2 h3 h4 h5 h6 (by decide) v n xs hs (World.ownsRow.alloc hown _) _ 1 1 ys hx (by omega) (fun e => by cases e) (fun ad e j u hu => ?_) hone (by unfold maxLen; omega) (by omega) (by simp; omega) ?_
 · injection e with e
   subst e
   have ea : (⟨W.heap.size, 0, none⟩ : Addr).add j = ⟨W.heap.size, j, none⟩ := by unfold Addr.add; split <;> simp_all
   rw [ea, World.cell?_alloc_new, ← hu]
   simp
 intro A' c' w' h
 refine hK A' c' w' ⟨h.own, ?_, fun g hg => (h.new g hg).imp id (fun hh => by simp at hh; omega)⟩
 refine ⟨h.grown.os, h.grown.tape, h.grown.output, Nat.le_trans (by simp) h.grown.size, fun k hk hne => ?_⟩
 rw [h.grown.block k (by simp; omega) hne]
 exact Below.heap_alloc _ _ _ hk
theorem bV : ∀ (F G : Fo), bF (F.app G) = bF F + bF G
 | .nil, G => by simp [Fo.app, bF]
 | .cons p n a k x, G => by simp only [Fo.app, bF, bV x G]; omega
theorem iB : ∀ (F G : Fo), cO (F.app G) = cO F ++ cO G
 | .nil, G => by simp [Fo.app, cO]
 | .cons p n a k x, G => by simp only [Fo.app, cO, iB x G, List.append_assoc]
theorem jJ : ∀ (F : Fo), F.app .nil = F
 | .nil => rfl
 | .cons p n a k x => by simp only [Fo.app, jJ x]
theorem dG : ∀ (F G H : Fo), (F.app G).app H = F.app (G.app H)
 | .nil, G, H => rfl
 | .cons p n a k x, G, H => by simp only [Fo.app, dG x G H]
theorem PC {w : World} {base : Nat} (hb : base ≤ w.heap.size) (n : Nd) : bN (w.alloc (.cells #[.int .i64 n.op, .int .i64 n.a, .int .i64 n.b] 46)) base (.slice (some ⟨w.heap.size, 0, none⟩) 1 1) [n] :=
 ⟨rfl, .inr ⟨w.heap.size, 1, _, rfl, hb, heap_alloc_new w _, Nat.le_refl _, by unfold maxLen; omega, rfl, rfl⟩⟩
def aX : Fo → Nat
 | .nil => 0
 | .cons _ _ _ k x => aX k + aX x + 1
def gD (p : Bool) : Nat → Fo → Prop
 | _, .nil => True
 | i, .cons pre n _ k x => pre.length = (if p = true ∧ i % 2 = 0 then 1 else 0) ∧ gD (decide (n.op = 12)) 0 k ∧ gD p (i + 1) x
theorem dO : ∀ (F G : Fo), aX (F.app G) = aX F + aX G
 | .nil, G => by simp [Fo.app, aX]
 | .cons p n a k x, G => by simp only [Fo.app, aX, dO x G]; omega
theorem iO : ∀ (F G : Fo), row (F.app G) = row F ++ row G
 | .nil, G => by simp [Fo.app, row]
 | .cons p n a k x, G => by simp only [Fo.app, row, iO x G, List.append_assoc, List.cons_append]
theorem gD.app {p : Bool} : ∀ (F G : Fo) (i : Nat), gD p i (F.app G) ↔ gD p i F ∧ gD p (i + bF F) G
 | .nil, G, i => by simp [Fo.app, gD, bF]
 | .cons pre n a k x, G, i => by
  simp only [Fo.app, gD, bF]
  rw [gD.app x G (i + 1), show i + 1 + bF x = i + (bF x + 1) from by omega]
  simp only [and_assoc]
theorem xF : ∀ (F : Fo) (i : Nat), gD true i F → (cO F).length = (bF F + 1 - i % 2) / 2
 | .nil, i, _ => by simp only [cO, bF, List.length_nil]; omega
 | .cons pre n a k x, i, h => by
  obtain ⟨h1, _, h3⟩ := h
  have := xF x (i + 1) h3
  simp only [cO, bF, List.length_append, h1, this, true_and]
  split <;> omega
theorem dM.at_ {R : Nat → Prop} {w : World} {A : Option Addr} {n c : Nat} {F1 F2 : Fo} {pre : List Nd} {nd : Nd} {ats : List Nd} {ks : Fo} (h : dM R w A n c (F1.app (.cons pre nd ats ks F2))) :
 ∃ b off sk sa sf, A = some ⟨b, off, none⟩ ∧ R b ∧ cR R w [.int .i64 nd.op, .int .i64 nd.a, .int .i64 nd.b, sk, sa, sf] nd ats ks ∧
  w.cell? ⟨b, off + bF F1 * 6, none⟩ = some (.int .i64 nd.op) ∧ w.cell? ⟨b, off + bF F1 * 6 + 1, none⟩ = some (.int .i64 nd.a) ∧ w.cell? ⟨b, off + bF F1 * 6 + 2, none⟩ = some (.int .i64 nd.b) ∧
  w.cell? ⟨b, off + bF F1 * 6 + 3, none⟩ = some sk ∧ w.cell? ⟨b, off + bF F1 * 6 + 4, none⟩ = some sa ∧ w.cell? ⟨b, off + bF F1 * 6 + 5, none⟩ = some sf := by
 obtain ⟨b, off, e, hr, hf⟩ := h.mem (by rw [← h.len, bV]; simp [bF]; omega)
 rw [sD.app] at hf
 obtain ⟨_, ⟨h0, h1, h2⟩, ⟨A', c', h3, a3, a2⟩, ⟨v, h4, a1⟩, ⟨u, h5, a0⟩, _⟩ := hf
 exact ⟨b, off, _, _, _, e, hr, ⟨_, _, _, rfl, ⟨A', _, c', rfl, ⟨rfl, a3, a2⟩⟩, a1, a0⟩, h0, h1, h2, h3, h4, h5⟩
end
section
open Go.RowKit
def fJ (w w' : World) (b : Nat) : Prop := w.heap.size ≤ b ∧ b < w'.heap.size
theorem t7 {w : World} {base g : Nat} (hg : g = w.heap.size) (hb : base ≤ w.heap.size) (n : Nd) : bN (w.alloc (.cells #[.int .i64 n.op, .int .i64 n.a, .int .i64 n.b] 46)) base (.slice (some ⟨g, 0, none⟩) 1 1) [n] := by
 subst hg
 exact PC hb n
theorem bN.cast {w : World} {base : Nat} {A : Option Addr} {n m c : Nat} {l l' : List Nd} (h : bN w base (.slice A n c) l) (hn : n = m) (hl : l = l') : bN w base (.slice A m c) l' := by
 subst hn hl
 exact h
theorem GN : ∀ (F : Fo), bF F ≤ (row F).length
 | .nil => Nat.le_refl _
 | .cons p n a k x => by
  have := GN x
  simp only [bF, row, List.length_append, List.length_cons]
  omega
end
section
open Go.RowKit
theorem lN {B : Nat} {a W w' : World} (hA : Below B a W) (hb : Below W.heap.size W w') (hB : B ≤ a.heap.size) : Below B a w' := hA.trans (hb.mono (Nat.le_trans hB hA.size))
end
section
def dC : Fo → Prop
 | .nil => True
 | .cons _ n _ k x => eN n = true ∧ dC k ∧ dC x
theorem dC.app : ∀ (F G : Fo), dC (F.app G) ↔ dC F ∧ dC G
 | .nil, G => by simp [Fo.app, dC]
 | .cons p n a k x, G => by simp only [Fo.app, dC, dC.app x G, and_assoc]
theorem eA {n : Nd} (h : eN n = true) (k : Int) : 0 ≤ aR n.op n.b k ∧ aR n.op n.b k ≤ 4 := by
 simp only [eN, Bool.and_eq_true] at h
 have h1 := h.1.1
 rw [aV] at h1
 simp only [aR]
 split
 · omega
 split <;> omega
def JF (pop pb : Int) : Nat → Int → Fo → Int
 | _, _, .nil => -1
 | j, u, .cons _ n _ k x => max (if n.op = 1 then max (n.a - (u + aR pop pb j)) (-1) else JF n.op n.b 0 (u + aR pop pb j) k) (JF pop pb (j + 1) u x)
def qX (n : Nd) (k : Fo) (u : Int) : Int := if n.op = 1 then max (n.a - u) (-1) else JF n.op n.b 0 u k
theorem tK (pop pb : Int) (j : Nat) (u : Int) (p : List Nd) (n : Nd) (a : List Nd) (k x : Fo) : JF pop pb j u (.cons p n a k x) = max (qX n k (u + aR pop pb j)) (JF pop pb (j + 1) u x) := rfl
def MC (pop pb : Int) (up : Int) : Nat → Int → Fo → Int
 | _, _, .nil => -1
 | j, f, .cons _ n _ k x => max (if n.op = 1 then (if f + aR pop pb j ≤ n.a then n.a + up else -1) else MC n.op n.b up 0 (f + aR pop pb j) k) (MC pop pb up (j + 1) f x)
def oT (up : Int) (n : Nd) (k : Fo) (f : Int) : Int := if n.op = 1 then (if f ≤ n.a then n.a + up else -1) else MC n.op n.b up 0 f k
theorem tN (pop pb up : Int) (j : Nat) (f : Int) (p : List Nd) (n : Nd) (a : List Nd) (k x : Fo) : MC pop pb up j f (.cons p n a k x) = max (oT up n k (f + aR pop pb j)) (MC pop pb up (j + 1) f x) := rfl
def sY (pop pb : Int) : Nat → Int → Fo → Int × Int
 | _, _, .nil => (0, 0)
 | j, v, .cons _ n _ k x =>
  let q := if n.op = 1 then (if n.a = v + aR pop pb j then ((1 : Int), (0 : Int)) else (0, 0)) else sY n.op n.b 0 (v + aR pop pb j) k
  let r := sY pop pb (j + 1) v x
  (q.1 + r.1, if 0 < q.1 then max (q.2 + aR pop pb j) r.2 else r.2)
def gV (n : Nd) (k : Fo) (v : Int) : Int × Int := if n.op = 1 then (if n.a = v then ((1 : Int), (0 : Int)) else (0, 0)) else sY n.op n.b 0 v k
theorem lJ (pop pb : Int) (j : Nat) (v : Int) (p : List Nd) (n : Nd) (a : List Nd) (k x : Fo) : sY pop pb j v (.cons p n a k x) =
 ((gV n k (v + aR pop pb j)).1 + (sY pop pb (j + 1) v x).1, if 0 < (gV n k (v + aR pop pb j)).1 then max ((gV n k (v + aR pop pb j)).2 + aR pop pb j) (sY pop pb (j + 1) v x).2 else (sY pop pb (j + 1) v x).2) := rfl
theorem e8 : ∀ (F : Fo), bF F ≤ aX F
 | .nil => Nat.le_refl _
 | .cons p n a k x => by
  have := e8 x
  simp only [bF, aX]
  omega
theorem GV (pop pb : Int) (j : Nat) (u : Int) : ∀ (F : Fo), max (-1) (JF pop pb j u F) = JF pop pb j u F
 | .nil => rfl
 | .cons p n a k x => by
  have := GV pop pb (j + 1) u x
  rw [tK]
  omega
theorem GW (pop pb up : Int) (j : Nat) (u : Int) : ∀ (F : Fo), max (-1) (MC pop pb up j u F) = MC pop pb up j u F
 | .nil => rfl
 | .cons p n a k x => by
  have := GW pop pb up (j + 1) u x
  rw [tN]
  omega
end
section
open Go Go.RowKit
section
variable {P : Program} {ops : Array Oper} {Q : Exit → Act → World → Prop} {md : Region.Mode} {S : World → Prop} {l : Nat}
def gQ (P : Program) (md : Region.Mode) (ops : Array Oper) (Q : Exit → Act → World → Prop) (S : World → Prop) (l : Nat) : Nat → Array Bool → Act → World → Prop
 | 0, done, a, w => Region.ready md ops done = [] ∧ Q .normal a w
 | fuel + 1, done, a, w =>
  (Region.ready md ops done = [] → Q .normal a w) ∧
  ∀ i ∈ Region.ready md ops done, wpOp P ops Q i (fun a' w' => (i ≠ l → S w') ∧ gQ P md ops Q S l fuel (done.setIfInBounds i true) a' w') a w
theorem vH : ∀ (fuel : Nat) (done : Array Bool) (a : Act) (w : World), gQ P md ops Q S l fuel done a w → wpAny P md ops Q fuel done a w
 | 0, _, _, _, h => h
 | fuel + 1, _, _, _, h => ⟨h.1, fun i hi => wpOp_mono (fun a' w' h' => vH fuel _ a' w' h'.2) (h.2 i hi)⟩
theorem qC {i : Nat} {done : Array Bool} (h : i ∈ Region.ready md ops done) {j : Nat} {oj : Oper} (hj : j ∈ Region.ready md ops done) (hoj : ops[j]? = some oj) : ∀ e ∈ oj.after, Region.binds md e = true → e.on ≠ i := fun e he hb heq => by
 obtain ⟨_, oj', a0, a1⟩ := mem_ready.1 hj
 rw [hoj] at a0
 obtain rfl := Option.some.inj a0
 have h1 := a1 e he hb
 have h0 := (mem_ready.1 h).1
 rw [heq] at h1
 rcases Nat.lt_or_ge i done.size with h' | h'
 · simp [h'] at h0 h1; rw [h0] at h1; cases h1
 simp [Array.getElem?_eq_none h'] at h1
theorem AH {i : Nat} {oi ol : Oper} {v : Value} (hi : ops[i]? = some oi) (hl : ops[l]? = some ol) (hw : ∃ e ∈ ol.after, Region.binds md e = true ∧ e.on = i) (hsel : ∀ (j : Nat) (o : Oper) cs b, ops[j]? = some o → o.op ≠ .select cs b)
 (hQ : ∀ c a w, Q (.panic c) (a.put oi.dst v) w → Q (.panic c) a w) :
 ∀ (fuel : Nat) (done : Array Bool) (a : Act) (w : World),
  (∀ j oj, ops[j]? = some oj → j ≠ i → done.getD j true = false → (∀ e ∈ oj.after, Region.binds md e = true → e.on ≠ i) → oi.apart ops oj = true) →
  i ∈ Region.ready md ops done → YieldsIf P ops S oi v a → S w →
  gQ P md ops Q S l fuel (done.setIfInBounds i true) (a.put oi.dst v) w → gQ P md ops Q S l (fuel + 1) done a w := by
 intro fuel
 induction fuel with
 | zero =>
  intro done a w _ hr hy hS H
  refine ⟨fun h => (by rw [h] at hr; cases hr), fun j hj => ?_⟩
  by_cases hji : j = i
  · subst hji; exact hy.wpOp hi hS ⟨fun _ => hS, H⟩
  · have := ready_mono hj hji
    rw [H.1] at this
    cases this
 | succ fuel ih =>
  intro done a w a0 hr hy hS H
  refine ⟨fun h => (by rw [h] at hr; cases hr), fun j hj => ?_⟩
  by_cases hji : j = i
  · subst hji; exact hy.wpOp hi hS ⟨fun _ => hS, H⟩
  · have h1 := H.2 j (ready_mono hj hji)
    obtain ⟨a3, oj, a1, _⟩ := mem_ready.1 hj
    have a2 := qC hr hj a1
    have a6 : j ≠ l := fun e => by
     subst e
     obtain ⟨x, hx, hb, a5⟩ := hw
     rw [hl] at a1
     obtain rfl := Option.some.inj a1
     exact a2 x hx hb a5
    have h2 := wpOp_putIf a1 (a0 j oj a1 hji a3 a2) (fun cs b => hsel i oi cs b hi) (fun cs b => hsel j oj cs b a1) hQ hy h1
    refine wpOp_mono (fun a' w' h3 => ?_) h2
    have a4 := h3.2.1 a6
    refine ⟨fun _ => a4, ih (done.setIfInBounds j true) a' w' (fun k ok hk hki hun hno => a0 k ok hk hki ?_ hno) (ready_mono hr (Ne.symm hji)) h3.1 a4 ?_⟩
    · by_cases hjk : j = k
      · subst hjk; exact a3
      rw [getD_set_ne true hjk] at hun; exact hun
    rw [Array.setIfInBounds_comm _ _ hji]
    exact h3.2.2
theorem dW {i : Nat} {oi ol : Oper} {v : Value} {fuel : Nat} {done : Array Bool} {a : Act} {w : World} (hi : ops[i]? = some oi) (hl : ops[l]? = some ol) (hw : (ol.after.any fun e => Region.binds md e && e.on == i) = true)
 (hs : Region.noSelect ops = true) (hf : Region.free md ops done i = true) (hr : (Region.ready md ops done).contains i = true)
 (hQ : ∀ c a w, Q (.panic c) (a.put oi.dst v) w → Q (.panic c) a w) (hy : YieldsIf P ops S oi v a) (hS : S w)
 (h : gQ P md ops Q S l fuel (done.setIfInBounds i true) (a.put oi.dst v) w) : gQ P md ops Q S l (fuel + 1) done a w := by
 refine AH hi hl ?_ (Region.noSelect_spec hs) hQ fuel done a w (Region.free_spec hi hf) (by simpa using hr) hy hS h
 obtain ⟨k, hk, he⟩ := Array.any_eq_true.1 hw
 simp only [Bool.and_eq_true, beq_iff_eq] at he
 exact ⟨_, Array.getElem_mem hk, he⟩
theorem bQ {i : Nat} {o : Oper} {fuel : Nat} {done : Array Bool} {a : Act} {w : World} (hr : Region.ready md ops done = [i]) (ho : ops[i]? = some o) (hg : o.guard = none)
 (h : ∀ K' : Act → World → Prop, Hid (∀ a w, (i ≠ l → S w) → gQ P md ops Q S l fuel (done.setIfInBounds i true) a w → K' a w) → Oper.wp P o a w K' Q) : gQ P md ops Q S l (fuel + 1) done a w := by
 refine ⟨fun h0 => (by rw [hr] at h0; cases h0), fun j hj => ?_⟩
 rw [hr, List.mem_singleton] at hj
 subst hj
 refine wpOp_step ho fun K' hK => ?_
 rw [if_pos (by simp [Region.wanted, hg])]
 exact h K' fun a w h1 h2 => hK a w ⟨h1, h2⟩
theorem gK {done : Array Bool} {a : Act} {w : World} (hr : Region.ready md ops done = []) (h : Q .normal a w) :
 ∀ fuel, gQ P md ops Q S l fuel done a w
 | 0 => ⟨hr, h⟩
 | _ + 1 => ⟨fun _ => h, by rw [hr]; simp⟩
theorem fQ (l : Nat) (S : World → Prop) {id : Nat} {a : Act} {w : World} (hm : P.follows .mixedOrders = true) (hS : S w.drew)
 (h : S w.drew → gQ P .any ops Q S l ops.size (Array.replicate ops.size false) a w.drew) : (Code.region id ops true).wp P Q a w :=
 wp_region_any hm (vH _ _ _ _ (h hS))
end
end
section
open Go Go.RowKit
section
variable {P : Program} {ops : Array Oper} {Q : Exit → Act → World → Prop} {md : Region.Mode} {S : World → Prop} {l : Nat}
def vC (md : Region.Mode) (ops : Array Oper) (i : Nat) : Nat → Nat → Bool
 | 0, _ => false
 | f + 1, x => match ops[x]? with
  | some o => o.after.any fun e => Region.binds md e && (e.on == i || vC md ops i f e.on)
  | none => false
def Shut (md : Region.Mode) (ops : Array Oper) (done : Array Bool) : Prop :=
 ∀ x o, ops[x]? = some o → done.getD x false = true → ∀ e ∈ o.after, Region.binds md e = true → done.getD e.on false = true
def H8 (md : Region.Mode) (ops : Array Oper) (done : Array Bool) : Bool :=
 (List.range ops.size).all fun x => !done.getD x false || (match ops[x]? with | some o => o.after.all fun e => !Region.binds md e || done.getD e.on false | none => true)
theorem PR {done : Array Bool} (h : H8 md ops done = true) : Shut md ops done := by
 intro x o ho hx e he hb
 have a0 : x < ops.size := (Array.getElem?_eq_some_iff.1 ho).1
 unfold H8 at h
 rw [List.all_eq_true] at h
 have h1 := h x (List.mem_range.2 a0)
 simp only [hx, ho, Bool.not_true, Bool.false_or, Array.all_eq_true] at h1
 obtain ⟨k, hk, a1⟩ := Array.mem_iff_getElem.1 he
 have h2 := h1 k hk
 rw [a1, hb] at h2
 simpa using h2
theorem Shut.step {done : Array Bool} (h : Shut md ops done) {j : Nat} (hj : j ∈ Region.ready md ops done) : Shut md ops (done.setIfInBounds j true) := by
 obtain ⟨a2, oj, a1, a0⟩ := mem_ready.1 hj
 have up : ∀ y, done.getD y false = true → (done.setIfInBounds j true).getD y false = true := fun y hy => by
  by_cases hyj : j = y
  · subst hyj
    rcases Nat.lt_or_ge j done.size with h' | h'
    · simp [h']
    simp [Array.getElem?_eq_none h'] at hy
  rw [getD_set_ne false hyj]; exact hy
 intro x o ho hx e he hb
 by_cases hxj : j = x
 · subst hxj
   rw [a1] at ho
   obtain rfl := Option.some.inj ho
   exact up _ (a0 e he hb)
 rw [getD_set_ne false hxj] at hx
 exact up _ (h x o ho hx e he hb)
theorem Shut.undone {done : Array Bool} (h : Shut md ops done) {i : Nat} (hi : done.getD i false = false) : ∀ (f x : Nat), vC md ops i f x = true → ∃ o, ops[x]? = some o ∧ ∃ e ∈ o.after, Region.binds md e = true ∧ done.getD e.on false = false
 | 0, x, hx => by simp [vC] at hx
 | f + 1, x, hx => by
  simp only [vC] at hx
  split at hx
  · rename_i o ho
    obtain ⟨k, hk, he⟩ := Array.any_eq_true.1 hx
    simp only [Bool.and_eq_true, Bool.or_eq_true, beq_iff_eq] at he
    refine ⟨o, ho, _, Array.getElem_mem hk, he.1, ?_⟩
    rcases he.2 with h1 | h1
    · rw [h1]; exact hi
    obtain ⟨o2, a0, e2, a1, a3, a2⟩ := Shut.undone h hi f _ h1
    cases hd : done.getD (o.after[k]).on false
    · rfl
    have := h _ o2 a0 hd e2 a1 a3
    rw [a2] at this; cases this
  · cases hx
theorem vZ {i : Nat} {oi : Oper} {v : Value} (hi : ops[i]? = some oi) {f : Nat} (hw : vC md ops i f l = true) (hsel : ∀ (j : Nat) (o : Oper) cs b, ops[j]? = some o → o.op ≠ .select cs b)
 (hQ : ∀ c a w, Q (.panic c) (a.put oi.dst v) w → Q (.panic c) a w) :
 ∀ (fuel : Nat) (done : Array Bool) (a : Act) (w : World),
  (∀ j oj, ops[j]? = some oj → j ≠ i → done.getD j true = false → (∀ e ∈ oj.after, Region.binds md e = true → e.on ≠ i) → oi.apart ops oj = true) →
  Shut md ops done → i ∈ Region.ready md ops done → YieldsIf P ops S oi v a → S w →
  gQ P md ops Q S l fuel (done.setIfInBounds i true) (a.put oi.dst v) w → gQ P md ops Q S l (fuel + 1) done a w := by
 intro fuel
 induction fuel with
 | zero =>
  intro done a w _ _ hr hy hS H
  refine ⟨fun h => (by rw [h] at hr; cases hr), fun j hj => ?_⟩
  by_cases hji : j = i
  · subst hji; exact hy.wpOp hi hS ⟨fun _ => hS, H⟩
  · have := ready_mono hj hji
    rw [H.1] at this
    cases this
 | succ fuel ih =>
  intro done a w a0 a5 hr hy hS H
  refine ⟨fun h => (by rw [h] at hr; cases hr), fun j hj => ?_⟩
  by_cases hji : j = i
  · subst hji; exact hy.wpOp hi hS ⟨fun _ => hS, H⟩
  · have h1 := H.2 j (ready_mono hj hji)
    obtain ⟨a2, oj, a1, a3⟩ := mem_ready.1 hj
    have a4 := qC hr hj a1
    have a8 : j ≠ l := fun e => by
     subst e
     have a9 : done.getD i false = false := by
      have h0 := (mem_ready.1 hr).1
      rcases Nat.lt_or_ge i done.size with h' | h'
      · simp [h'] at h0 ⊢; exact h0
      simp [Array.getElem?_eq_none h']
     obtain ⟨o2, a6, e2, b0, b2, b1⟩ := a5.undone a9 f j hw
     rw [a1] at a6
     obtain rfl := Option.some.inj a6
     have := a3 e2 b0 b2
     rw [b1] at this; cases this
    have h2 := wpOp_putIf a1 (a0 j oj a1 hji a2 a4) (fun cs b => hsel i oi cs b hi) (fun cs b => hsel j oj cs b a1) hQ hy h1
    refine wpOp_mono (fun a' w' h3 => ?_) h2
    have a7 := h3.2.1 a8
    refine ⟨fun _ => a7, ih (done.setIfInBounds j true) a' w' (fun k ok hk hki hun hno => a0 k ok hk hki ?_ hno) (a5.step hj) (ready_mono hr (Ne.symm hji)) h3.1 a7 ?_⟩
    · by_cases hjk : j = k
      · subst hjk; exact a2
      rw [getD_set_ne true hjk] at hun; exact hun
    rw [Array.setIfInBounds_comm _ _ hji]
    exact h3.2.2
theorem bA {i : Nat} {oi : Oper} {v : Value} {fuel : Nat} {done : Array Bool} {a : Act} {w : World} (hi : ops[i]? = some oi) (hw : vC md ops i 8 l = true) (hsh : H8 md ops done = true)
 (hs : Region.noSelect ops = true) (hf : Region.free md ops done i = true) (hr : (Region.ready md ops done).contains i = true)
 (hQ : ∀ c a w, Q (.panic c) (a.put oi.dst v) w → Q (.panic c) a w) (hy : YieldsIf P ops S oi v a) (hS : S w)
 (h : gQ P md ops Q S l fuel (done.setIfInBounds i true) (a.put oi.dst v) w) : gQ P md ops Q S l (fuel + 1) done a w :=
 vZ hi hw (Region.noSelect_spec hs) hQ fuel done a w (Region.free_spec hi hf) (PR hsh) (by simpa using hr) hy hS h
end
end
section
open Go.RowKit
structure P2 (R : Nat → Prop) (w : World) (A : Option Addr) (n c : Nat) (zs : List Int) : Prop where
 len : zs.length = n
 few : n ≤ 5864062014805
 mem : 0 < n → ∃ b off, A = some ⟨b, off, none⟩ ∧ R b ∧ ∀ k, k < n → w.cell? ⟨b, off + k, none⟩ = some (.int .i64 (zs.getD k 0))
end
section
open Go.RowKit
section
variable {P : Program} {ops : Array Oper} {Q : Exit → Act → World → Prop} {md : Region.Mode} {S : World → Prop}
theorem tk (i : Nat) (v : Value) {oi : Oper} {fuel : Nat} {listed : Array Bool} {a : Act} {w : World} (hy : ∀ w, S w → (execOp a.eval oi).run P w = .ok (.value v) w) (hS : S w) (h : wpAnyH P md ops Q S fuel (listed.setIfInBounds i true) (a.put oi.dst v) w)
 (hi : ops[i]? = some oi := by exact rfl) (hs : Region.noSelect ops = true := by kernel_rfl) (hf : Region.free md ops listed i = true := by kernel_rfl) (hr : (Region.ready md ops listed).contains i = true := by kernel_rfl)
 (hQ : ∀ c a w, Q (.panic c) (a.put oi.dst v) w → Q (.panic c) a w := by exact fun _ _ _ h => h) (hw : Region.wanted oi (yielded ops a.tmps) = true := by rfl) : wpAnyH P md ops Q S (fuel + 1) listed a w :=
 wpAnyH_take hi hs hf hr hQ (.inl ⟨hw, hy⟩) hS h
theorem tq (i : Nat) {v : Value} {oi : Oper} {fuel : Nat} {listed : Array Bool} {a : Act} {w : World} (hS : S w) (h : wpAnyH P md ops Q S fuel (listed.setIfInBounds i true) (a.put oi.dst v) w)
 (hi : ops[i]? = some oi := by exact rfl) (hy : ∀ w, S w → (execOp a.eval oi).run P w = .ok (.value v) w := by (intro w hSw; (try dsimp only at hSw); go_simp; try with_reducible rfl)) (hs : Region.noSelect ops = true := by kernel_rfl) (hf : Region.free md ops listed i = true := by kernel_rfl) (hr : (Region.ready md ops listed).contains i = true := by kernel_rfl)
 (hQ : ∀ c a w, Q (.panic c) (a.put oi.dst v) w → Q (.panic c) a w := by exact fun _ _ _ h => h) (hw : Region.wanted oi (yielded ops a.tmps) = true := by rfl) : wpAnyH P md ops Q S (fuel + 1) listed a w :=
 wpAnyH_take hi hs hf hr hQ (.inl ⟨hw, hy⟩) hS h
theorem dk (i : Nat) {oi : Oper} {fuel : Nat} {listed : Array Bool} {a : Act} {w : World} (hS : S w) (h : wpAnyH P md ops Q S fuel (listed.setIfInBounds i true) (a.put oi.dst undef) w)
 (hi : ops[i]? = some oi := by exact rfl) (hs : Region.noSelect ops = true := by kernel_rfl) (hf : Region.free md ops listed i = true := by kernel_rfl) (hr : (Region.ready md ops listed).contains i = true := by kernel_rfl)
 (hQ : ∀ c a w, Q (.panic c) (a.put oi.dst undef) w → Q (.panic c) a w := by exact fun _ _ _ h => h) (hw : Region.wanted oi (yielded ops a.tmps) = false := by rfl) : wpAnyH P md ops Q S (fuel + 1) listed a w :=
 wpAnyH_take hi hs hf hr hQ (.inr ⟨hw, rfl⟩) hS h
end
end
section
open Go.RowKit Go.Lib
variable {P : Program} {ops : Array Oper} {Q : Exit → Act → World → Prop} {md : Region.Mode} {S : World → Prop}
theorem r1 (i : Nat) {o : Oper} {fuel : Nat} {listed : Array Bool} {a : Act} {w : World}
 (h : ∀ K' : Act → World → Prop, Go.Shut (∀ a w, S w → (S w → wpAnyH P md ops Q S fuel (listed.setIfInBounds i true) a w) → K' a w) → if Region.wanted o (yielded ops a.tmps) = true then Oper.wp P o a w K' Q else K' (a.put o.dst undef) w)
 (hr : Region.ready md ops listed = [i] := by kernel_rfl) (ho : ops[i]? = some o := by exact rfl) : wpAnyH P md ops Q S (fuel + 1) listed a w :=
 wpAnyH_ready hr (by simp) (AllReadyH.cons ho h AllReadyH.nil)
theorem r2 (i j : Nat) {o o' : Oper} {fuel : Nat} {listed : Array Bool} {a : Act} {w : World}
 (h : ∀ K' : Act → World → Prop, Go.Shut (∀ a w, S w → (S w → wpAnyH P md ops Q S fuel (listed.setIfInBounds i true) a w) → K' a w) → if Region.wanted o (yielded ops a.tmps) = true then Oper.wp P o a w K' Q else K' (a.put o.dst undef) w)
 (h' : ∀ K' : Act → World → Prop, Go.Shut (∀ a w, S w → (S w → wpAnyH P md ops Q S fuel (listed.setIfInBounds j true) a w) → K' a w) → if Region.wanted o' (yielded ops a.tmps) = true then Oper.wp P o' a w K' Q else K' (a.put o'.dst undef) w)
 (hr : Region.ready md ops listed = [i, j] := by kernel_rfl) (ho : ops[i]? = some o := by exact rfl) (ho' : ops[j]? = some o' := by exact rfl) : wpAnyH P md ops Q S (fuel + 1) listed a w :=
 wpAnyH_ready hr (by simp) (AllReadyH.cons ho h (AllReadyH.cons ho' h' AllReadyH.nil))
theorem bZ {w w1 w2 : World} (h : RowKit.Hid (Below w.heap.size w w1)) (h2 : Below w1.heap.size w1 w2) : RowKit.Hid (Below w.heap.size w w2) := hid (h.out.trans (h2.mono h.out.size))
theorem jL {w w1 : World} {g : Nat} {t : TypeId} {cs : Array Value} (h : RowKit.Hid (aS w g t cs)) (h2 : Below w.heap.size w w1) : RowKit.Hid (aS w1 g t cs) := hid (aS.below h.out h2 h.out.lt)
end
section
open Go.RowKit
theorem aO : (∀ (a : Act) (t : Tmp) (v : Value), a.put (some t) v = { a with tmps := a.tmps.setIfInBounds t v }) ∧ (∀ (a : Act) (v : Value), a.put none v = a) ∧ (∀ (α : Type) (l : List α) (i : Nat) (h : i < l.toArray.size), l.toArray[i] = l[i]'(by simpa using h)) ∧ (∀ (α : Type) (x : α) (l : List α) (h : 0 < (x :: l).length), (x :: l)[0] = x) ∧ (∀ (α : Type) (x : α) (l : List α) (i : Nat) (h : i + 1 < (x :: l).length), (x :: l)[i + 1] = l[i]'(by simpa using h)) ∧ (∀ (α : Type) (l : List α) (i : Nat) (x : α), l.toArray.setIfInBounds i x = (l.set i x).toArray) ∧ (∀ (α : Type) (x y : α) (l : List α), (x :: l).set 0 y = y :: l) ∧ (∀ (α : Type) (x y : α) (l : List α) (i : Nat), (x :: l).set (i + 1) y = x :: l.set i y) :=
 ⟨fun _ _ _ => rfl, fun _ _ => rfl, fun _ _ _ _ => by simp, fun _ _ _ _ => rfl, fun _ _ _ _ _ => rfl, fun _ _ _ _ => by simp, fun _ _ _ _ => rfl, fun _ _ _ _ _ => rfl⟩
variable {P : Program} {ops : Array Oper} {Q : Exit → Act → World → Prop} {md : Region.Mode} {S : World → Prop}
theorem aL (i : Nat) {v : Value} {oi : Oper} {fuel : Nat} {listed l' : Array Bool} {a a' : Act} {w : World} (hS : S w) (h : wpAnyH P md ops Q S fuel l' a' w) (hi : ops[i]? = some oi := by exact rfl) (hy : ∀ w, S w → (execOp a.eval oi).run P w = .ok (.value v) w := by (intro w hSw; (try dsimp only at hSw); go_simp; try with_reducible rfl)) (hs : Region.noSelect ops = true := by kernel_rfl) (hf : Region.free md ops listed i = true := by kernel_rfl) (hr : (Region.ready md ops listed).contains i = true := by kernel_rfl) (hQ : ∀ c a w, Q (.panic c) (a.put oi.dst v) w → Q (.panic c) a w := by exact fun _ _ _ h => h) (hw : Region.wanted oi (yielded ops a.tmps) = true := by rfl) (el : listed.setIfInBounds i true = l' := by ((try simp only [aO]); rfl)) (ea : a.put oi.dst v = a' := by ((try simp only [aO]); rfl)) : wpAnyH P md ops Q S (fuel + 1) listed a w := wpAnyH_take hi hs hf hr hQ (.inl ⟨hw, hy⟩) hS (by rw [el, ea]; exact h)
theorem aM (i : Nat) {oi : Oper} {fuel : Nat} {listed l' : Array Bool} {a a' : Act} {w : World} (hS : S w) (h : wpAnyH P md ops Q S fuel l' a' w) (hi : ops[i]? = some oi := by exact rfl) (hs : Region.noSelect ops = true := by kernel_rfl) (hf : Region.free md ops listed i = true := by kernel_rfl) (hr : (Region.ready md ops listed).contains i = true := by kernel_rfl) (hQ : ∀ c a w, Q (.panic c) (a.put oi.dst undef) w → Q (.panic c) a w := by exact fun _ _ _ h => h) (hw : Region.wanted oi (yielded ops a.tmps) = false := by rfl) (el : listed.setIfInBounds i true = l' := by ((try simp only [aO]); rfl)) (ea : a.put oi.dst undef = a' := by ((try simp only [aO]); rfl)) : wpAnyH P md ops Q S (fuel + 1) listed a w := wpAnyH_take hi hs hf hr hQ (.inr ⟨hw, rfl⟩) hS (by rw [el, ea]; exact h)
end
end Go.Proofs.YtjoddliplahgkaaGreat
