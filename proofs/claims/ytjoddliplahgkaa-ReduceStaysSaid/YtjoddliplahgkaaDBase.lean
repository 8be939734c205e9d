/- Merged: Mem, Tree, Own, Own2, Own3, Fold, HeldE, HeldF, Ints, Short. -/
import Derived.Deep.RegionHeld
import Derived.WalkKit
import Derived.Lib.Hide
import Derived.Deep.Quiet
import Derived.Deep.RegionLaw
import Derived.OrdersHeld
namespace Go.Proofs.Ytjoddliplahgkaa
open Go.Lib (hid)
section
open Go.RowKit
structure Nd where
 op : Int
 a : Int
 b : Int
deriving DecidableEq
instance : Inhabited Nd := ⟨⟨0, 0, 0⟩⟩
def nth (l : List Nd) (k : Nat) : Nd := l.getD k default
theorem nth_eq {l : List Nd} {k : Nat} (h : k < l.length) : nth l k = l[k] := by simp [nth, h]
theorem nth_drop (l : List Nd) (m k : Nat) : nth (l.drop m) k = nth l (m + k) := by simp [nth]
theorem nth_take {l : List Nd} {m k : Nat} (h : k < m) : nth (l.take m) k = nth l k := by
 simp [nth, h]
theorem ext_nth {l m : List Nd} (h : l.length = m.length) (hk : ∀ k, k < l.length → nth l k = nth m k) : l = m := by
 apply List.ext_getElem h
 intro i h1 h2
 have := hk i h1
 rwa [nth_eq h1, nth_eq h2] at this
theorem drop_nth {l : List Nd} {k : Nat} (h : k < l.length) : l.drop k = nth l k :: l.drop (k + 1) := by
 rw [nth_eq h]; exact List.drop_eq_getElem_cons h
def NodesAt (w : World) (b off : Nat) (l : List Nd) : Prop :=
 ∀ k, k < l.length → w.cell? ⟨b, off + k * 3, none⟩ = some (.int .i64 (nth l k).op) ∧ w.cell? ⟨b, off + k * 3 + 1, none⟩ = some (.int .i64 (nth l k).a) ∧ w.cell? ⟨b, off + k * 3 + 2, none⟩ = some (.int .i64 (nth l k).b)
structure TermR (R : Nat → Prop) (w : World) (A : Option Addr) (n c : Nat) (l : List Nd) : Prop where
 len : l.length = n
 cap : n ≤ c
 few : n ≤ 5864062014805
 nul : A = none → c = 0
 mem : 0 < n → ∃ b off, A = some ⟨b, off, none⟩ ∧ R b ∧ NodesAt w b off l
abbrev TermV (w : World) (A : Option Addr) (n cap : Nat) (l : List Nd) : Prop := TermR (· < w.heap.size) w A n cap l
theorem TermV.at_ {w : World} {A : Option Addr} {n c : Nat} {l : List Nd} (h : TermV w A n c l) {p : Nat} (hp : p < n) :
 ∃ b off, A = some ⟨b, off, none⟩ ∧ b < w.heap.size ∧ w.cell? ⟨b, off + p * 3, none⟩ = some (.int .i64 (nth l p).op) ∧ w.cell? ⟨b, off + p * 3 + 1, none⟩ = some (.int .i64 (nth l p).a) ∧ w.cell? ⟨b, off + p * 3 + 2, none⟩ = some (.int .i64 (nth l p).b) := by
 obtain ⟨b, off, e, hb, hm⟩ := h.mem (by omega)
 exact ⟨b, off, e, hb, hm p (by rw [h.len]; exact hp)⟩
theorem TermV.cells {w : World} {b off n c : Nat} {l : List Nd} (h : TermV w (some ⟨b, off, none⟩) n c l) {p : Nat} (hp : p < n) :
 b < w.heap.size ∧ w.cell? ⟨b, off + p * 3, none⟩ = some (.int .i64 (nth l p).op) ∧ w.cell? ⟨b, off + p * 3 + 1, none⟩ = some (.int .i64 (nth l p).a) ∧ w.cell? ⟨b, off + p * 3 + 2, none⟩ = some (.int .i64 (nth l p).b) := by
 obtain ⟨b', off', e, hb, hm⟩ := h.at_ hp
 injection e with e
 injection e with e1 e2
 subst e1 e2
 exact ⟨hb, hm⟩
theorem box_cell (w : World) (x y z : Value) (t : TypeId) (o : Nat) (v : Value) (h : #[x, y, z][o]? = some v) : (w.alloc (.cells #[x, y, z] t)).cell? ⟨w.heap.size, o, none⟩ = some v := by
 rw [World.cell?_alloc_new]; exact h
theorem below_alloc (w : World) (o : Obj) : Below w.heap.size w (w.alloc o) := (Below.refl _ _).alloc (Nat.le_refl _) _
theorem below_alloc2 (w : World) (o o' : Obj) : Below w.heap.size w ((w.alloc o).alloc o') := (below_alloc w o).alloc (by simp) _
theorem NodesAt.keep {w w' : World} {b off : Nat} {l : List Nd} (h : NodesAt w b off l) (hk : ∀ o, w'.cell? ⟨b, o, none⟩ = w.cell? ⟨b, o, none⟩) : NodesAt w' b off l := by
 intro k hkl
 rw [hk, hk, hk]
 exact h k hkl
theorem TermR.keep {R R' : Nat → Prop} {w w' : World} {A : Option Addr} {n cap : Nat} {l : List Nd} (h : TermR R w A n cap l) (hR : ∀ b, R b → R' b ∧ ∀ o, w'.cell? ⟨b, o, none⟩ = w.cell? ⟨b, o, none⟩) : TermR R' w' A n cap l :=
 ⟨h.len, h.cap, h.few, h.nul, fun hn => by
  obtain ⟨b, off, e, hb, hm⟩ := h.mem hn
  exact ⟨b, off, e, (hR b hb).1, hm.keep (hR b hb).2⟩⟩
theorem TermV.below {w w' : World} {A : Option Addr} {n cap : Nat} {l : List Nd} (h : TermV w A n cap l) (hb : Below w.heap.size w w') : TermV w' A n cap l :=
 ⟨h.len, h.cap, h.few, h.nul, fun hn => by
  obtain ⟨b, off, e, hlt, hm⟩ := h.mem hn
  exact ⟨b, off, e, Nat.lt_of_lt_of_le hlt hb.size, hm.keep fun o => hb.cell (p := ⟨b, o, none⟩) hlt⟩⟩
theorem TermV.alloc {w : World} {A : Option Addr} {n c : Nat} {l : List Nd} (h : TermV w A n c l) (o : Obj) : TermV (w.alloc o) A n c l := h.below (below_alloc _ _)
theorem TermV.nil (w : World) : TermV w none 0 0 [] := ⟨rfl, Nat.le_refl _, Nat.zero_le _, fun _ => rfl, fun h => absurd h (by omega)⟩
theorem below_drewN {B : Nat} {a w : World} (h : Below B a w) (n : Nat) : Below B a (w.drewN n) := ⟨h.os, h.tape, h.output, h.size, h.block⟩
theorem ret_bool {a b : Bool} (h : a = b) : Ending.returned (.bool a) = .returned (.bool b) := by rw [h]
theorem ret_int {k : IntKind} {a b : Int} (h : a = b) : Ending.returned (.int k a) = .returned (.int k b) := by rw [h]
theorem bcell {W w1 : World} (hb : Below W.heap.size W w1) : (∀ b o, b < W.heap.size → w1.cell? ⟨b, o, none⟩ = W.cell? ⟨b, o, none⟩) ∧ (∀ b o, b < W.heap.size → w1.frozen? ⟨b, o, none⟩ = W.frozen? ⟨b, o, none⟩) :=
 ⟨fun b o h => hb.cell (p := ⟨b, o, none⟩) h, fun b o h => hb.frozen (p := ⟨b, o, none⟩) h⟩
end
section
def plainB (op a b : Int) : Bool :=
 if op = 1 then decide (0 ≤ a ∧ a ≤ 1048576 ∧ b = 0)
 else if op = 2 then decide ((a = 0 ∨ a = 1) ∧ 1 ≤ b ∧ b ≤ 4)
 else if op = 3 then decide (0 ≤ a ∧ a ≤ 16 ∧ 0 ≤ b ∧ b ≤ 1000)
 else if op = 4 then decide (a = 0 ∧ b = 0)
 else if op = 5 then decide (a = 0 ∧ b = 0)
 else if op = 6 then decide (a = 0 ∧ b = 0)
 else if op = 7 then decide (a = 0 ∧ b = 0)
 else if op = 8 then decide (0 ≤ a ∧ a < 64 ∧ b = 0)
 else if op = 9 then decide (0 ≤ a ∧ a < 64 ∧ b = 0)
 else if op = 10 then decide (0 ≤ a ∧ a < 64 ∧ 0 ≤ b ∧ b < 16)
 else if op = 11 then decide (0 ≤ a ∧ a < 64 ∧ 0 ≤ b ∧ b ≤ 16)
 else if op = 12 then decide (1 ≤ b ∧ b ≤ 4 ∧ 0 ≤ a ∧ a < b)
 else if op = 13 then decide (0 ≤ a ∧ a < 16 ∧ b = 0)
 else false
def kidsI (op b : Int) : Int := if op = 4 then 2 else if op = 5 then 2 else if op = 6 then 2 else if op = 13 then 2 else if op = 7 then 3 else if op = 11 then 2 + b else if op = 12 then b else 0
def bindersI (op k : Int) : Int := if (op = 4 ∨ op = 5) ∧ k = 1 ∨ op = 7 ∧ k = 2 then 1 else 0
def aroundI (op b k : Int) : Int := if (op = 4 ∨ op = 5) ∧ k = 1 ∨ op = 7 ∧ k = 2 then 1 else if op = 12 ∧ k % 2 = 1 then b else 0
theorem ite_iff_aux {c : Prop} [Decidable c] {x y : Bool} {q : Prop} (h1 : c → (x = true ↔ q)) (h2 : ¬ c → (y = true ↔ q)) : (if c then x else y) = true ↔ q := by
 split
 · exact h1 ‹_›
 exact h2 ‹_›
def okN (n : Nd) : Bool := plainB n.op n.a n.b && decide (n.op ≠ 3) && decide (n.op ≠ 13)
def okF (n : Nd) : Bool := plainB n.op n.a n.b && decide (n.op = 13)
theorem plainB_iff {op a b : Int} : plainB op a b = true ↔ (op = 1 ∧ 0 ≤ a ∧ a ≤ 1048576 ∧ b = 0) ∨ (op = 2 ∧ (a = 0 ∨ a = 1) ∧ 1 ≤ b ∧ b ≤ 4) ∨ (op = 3 ∧ 0 ≤ a ∧ a ≤ 16 ∧ 0 ≤ b ∧ b ≤ 1000) ∨
 ((op = 4 ∨ op = 5 ∨ op = 6 ∨ op = 7) ∧ a = 0 ∧ b = 0) ∨ ((op = 8 ∨ op = 9) ∧ 0 ≤ a ∧ a < 64 ∧ b = 0) ∨ (op = 10 ∧ 0 ≤ a ∧ a < 64 ∧ 0 ≤ b ∧ b < 16) ∨ (op = 11 ∧ 0 ≤ a ∧ a < 64 ∧ 0 ≤ b ∧ b ≤ 16) ∨
 (op = 12 ∧ 1 ≤ b ∧ b ≤ 4 ∧ 0 ≤ a ∧ a < b) ∨ (op = 13 ∧ 0 ≤ a ∧ a < 16 ∧ b = 0) := by
 unfold plainB
 iterate 13
  refine ite_iff_aux ?_ ?_ <;> intro _
  · subst_vars; rw [decide_eq_true_eq]; simp
 constructor
 · intro h; cases h
 intro h; omega
theorem plainB_b {op a b : Int} (h : plainB op a b = true) : 0 ≤ b ∧ b ≤ 1000 := by
 rw [plainB_iff] at h; omega
theorem plainB_a {op a b : Int} (h : plainB op a b = true) : 0 ≤ a ∧ a ≤ 1048576 := by
 rw [plainB_iff] at h; omega
theorem kidsI_bd {op a b : Int} (h : plainB op a b = true) : 0 ≤ kidsI op b ∧ kidsI op b ≤ 18 := by
 rw [plainB_iff] at h
 simp only [kidsI]
 repeat' split
 all_goals omega
def ds (n : Nd) : List Bool := if n.op = 12 then (List.replicate n.b.toNat [true, false]).flatten else List.replicate (kidsI n.op n.b).toNat false
inductive Fo where
 | nil
 | cons (pre : List Nd) (n : Nd) (atoms : List Nd) (kids next : Fo)
def takeAtoms : Nat → Int → List Nd → Option (List Nd × List Nd)
 | 0, _, l => some ([], l)
 | _ + 1, _, [] => none
 | k + 1, last, x :: l => if x.op = 3 ∧ plainB x.op x.a x.b = true ∧ last < x.a then (takeAtoms k x.a l).map fun p => (x :: p.1, p.2) else none
def preOf : Bool → List Nd → Option (List Nd × List Nd)
 | false, l => some ([], l)
 | true, [] => none
 | true, x :: l => if okF x then some ([x], l) else none
def atomsOf (n : Nd) (l : List Nd) : Option (List Nd × List Nd) := if n.op = 2 then takeAtoms n.b.toNat (-1) l else some ([], l)
def pars : Nat → List Bool → List Nd → Option (Fo × List Nd)
 | 0, _, _ => none
 | _ + 1, [], l => some (.nil, l)
 | f + 1, d :: dr, l =>
  (preOf d l).bind fun p => match p.2 with
   | [] => none
   | n :: l2 => if okN n then
    (atomsOf n l2).bind fun q => (pars f (ds n) q.2).bind fun k => (pars f dr k.2).bind fun x => some (.cons p.1 n q.1 k.1 x.1, x.2)
    else none
theorem takeAtoms_len : ∀ (k : Nat) (last : Int) (l : List Nd) (p : List Nd × List Nd), takeAtoms k last l = some p → l = p.1 ++ p.2 ∧ p.1.length = k
 | 0, _, l, p, h => by simp only [takeAtoms, Option.some.injEq] at h; subst h; simp
 | k + 1, _, [], p, h => by simp [takeAtoms] at h
 | k + 1, last, x :: l, p, h => by
  simp only [takeAtoms] at h
  split at h
  · simp only [Option.map_eq_some_iff] at h
    obtain ⟨q, hq, rfl⟩ := h
    obtain ⟨h1, h2⟩ := takeAtoms_len k x.a l q hq
    simp [← h1, h2]
  · cases h
theorem preOf_app {d : Bool} {l : List Nd} {p : List Nd × List Nd} (h : preOf d l = some p) : l = p.1 ++ p.2 := by
 cases d with
 | false => simp only [preOf, Option.some.injEq] at h; subst h; simp
 | true =>
  cases l with
  | nil => simp [preOf] at h
  | cons x l =>
   simp only [preOf] at h
   split at h
   · simp only [Option.some.injEq] at h; subst h; simp
   · cases h
theorem atomsOf_app {n : Nd} {l : List Nd} {p : List Nd × List Nd} (h : atomsOf n l = some p) : l = p.1 ++ p.2 := by
 simp only [atomsOf] at h
 split at h
 · exact (takeAtoms_len _ _ _ _ h).1
 simp only [Option.some.injEq] at h; subst h; simp
def row : Fo → List Nd
 | .nil => []
 | .cons pre n atoms kids next => pre ++ n :: (atoms ++ (row kids ++ row next))
theorem pars_row : ∀ (f : Nat) (dl : List Bool) (l : List Nd) (x : Fo × List Nd), pars f dl l = some x → l = row x.1 ++ x.2 ∧ (dl ≠ [] → x.2.length < l.length)
 | 0, _, _, _, h => by simp [pars] at h
 | _ + 1, [], l, x, h => by simp only [pars, Option.some.injEq] at h; subst h; simp [row]
 | f + 1, d :: dr, l, x, h => by
  simp only [pars, Option.bind_eq_some_iff] at h
  obtain ⟨p, hp, h⟩ := h
  have e1 := preOf_app hp
  split at h
  · cases h
  · rename_i n l2 hl2
    split at h
    · simp only [Option.bind_eq_some_iff] at h
      obtain ⟨q, hq, k, hk, y, hy, h⟩ := h
      simp only [Option.some.injEq] at h
      subst h
      have e2 := atomsOf_app hq
      obtain ⟨e3, _⟩ := pars_row f _ _ _ hk
      obtain ⟨e4, _⟩ := pars_row f _ _ _ hy
      have e : l = p.1 ++ n :: (q.1 ++ (row k.1 ++ (row y.1 ++ y.2))) := by rw [e1, hl2, e2, e3, e4]
      refine ⟨by rw [e]; simp [row], fun _ => ?_⟩
      rw [e]
      simp
      omega
    cases h
theorem pars_fuel : ∀ (f g : Nat) (dl : List Bool) (l : List Nd), l.length < f → l.length < g → pars f dl l = pars g dl l
 | 0, _, _, _, h, _ => absurd h (by omega)
 | _, 0, _, _, _, h => absurd h (by omega)
 | f + 1, g + 1, [], l, _, _ => by simp [pars]
 | f + 1, g + 1, d :: dr, l, hf, hg => by
  simp only [pars]
  refine Option.bind_congr fun p hp => ?_
  have e1 := preOf_app hp
  split
  · rfl
  · rename_i n l2 hl2
    split
    · refine Option.bind_congr fun q hq => ?_
      have e2 := atomsOf_app hq
      have hlen : q.2.length < l.length := by rw [e1, hl2, e2]; simp; omega
      rw [pars_fuel f g (ds n) q.2 (by omega) (by omega)]
      refine Option.bind_congr fun k hk => ?_
      have e3 := (pars_row _ _ _ _ hk).1
      have hlen2 : k.2.length ≤ q.2.length := by rw [e3]; simp
      rw [pars_fuel f g dr k.2 (by omega) (by omega)]
    rfl
def pp (dl : List Bool) (l : List Nd) : Option (Fo × List Nd) := pars (l.length + 1) dl l
theorem pp_nil (l : List Nd) : pp [] l = some (.nil, l) := by simp [pp, pars]
theorem pp_cons (d : Bool) (dr : List Bool) (l : List Nd) : pp (d :: dr) l =
 (preOf d l).bind fun p => match p.2 with
  | [] => none
  | n :: l2 => if okN n then
   (atomsOf n l2).bind fun q => (pp (ds n) q.2).bind fun k => (pp dr k.2).bind fun x => some (.cons p.1 n q.1 k.1 x.1, x.2)
   else none := by
 simp only [pp, pars]
 refine Option.bind_congr fun p hp => ?_
 have e1 := preOf_app hp
 split
 · rfl
 rename_i n l2 hl2
 split
 · refine Option.bind_congr fun q hq => ?_
   have e2 := atomsOf_app hq
   have hlen : q.2.length < l.length := by rw [e1, hl2, e2]; simp; omega
   rw [pars_fuel l.length (q.2.length + 1) (ds n) q.2 (by omega) (by omega)]
   refine Option.bind_congr fun k hk => ?_
   have e3 := (pars_row _ _ _ _ hk).1
   have hlen2 : k.2.length ≤ q.2.length := by rw [e3]; simp
   rw [pars_fuel l.length (k.2.length + 1) dr k.2 (by omega) (by omega)]
 rfl
theorem pp_row {dl : List Bool} {l : List Nd} {x : Fo × List Nd} (h : pp dl l = some x) : l = row x.1 ++ x.2 := (pars_row _ _ _ _ h).1
theorem pp_lt {dl : List Bool} {l : List Nd} {x : Fo × List Nd} (h : pp dl l = some x) (hd : dl ≠ []) : x.2.length < l.length := (pars_row _ _ _ _ h).2 hd
def Fo.app : Fo → Fo → Fo
 | .nil, g => g
 | .cons p n a k x, g => .cons p n a k (x.app g)
theorem pp_append : ∀ (d1 d2 : List Bool) (l : List Nd), pp (d1 ++ d2) l = (pp d1 l).bind fun x => (pp d2 x.2).map fun y => (x.1.app y.1, y.2)
 | [], d2, l => by simp [pp_nil, Fo.app]
 | d :: d1, d2, l => by
  rw [List.cons_append, pp_cons, pp_cons]
  simp only [Option.bind_assoc]
  refine Option.bind_congr fun p hp => ?_
  split
  · rfl
  · split
    · simp only [Option.bind_assoc]
      refine Option.bind_congr fun q hq => ?_
      refine Option.bind_congr fun k hk => ?_
      rw [pp_append d1 d2 k.2]
      simp only [Option.bind_assoc]
      refine Option.bind_congr fun x hx => ?_
      cases hy : pp d2 x.2 <;> simp [Fo.app, hy]
    rfl
def ends (dl : List Bool) (t : List Nd) (p : Nat) : Option Nat := (pp dl (t.drop p)).map fun x => t.length - x.2.length
theorem pp_drop {dl : List Bool} {t : List Nd} {p : Nat} {x : Fo × List Nd} (h : pp dl (t.drop p) = some x) (hp : p ≤ t.length) : x.2 = t.drop (t.length - x.2.length) ∧ p ≤ t.length - x.2.length ∧ x.2.length ≤ t.length - p := by
 have e := pp_row h
 have hl := congrArg List.length e
 rw [List.length_drop, List.length_append] at hl
 refine ⟨?_, by omega, by omega⟩
 have : t.drop (p + (row x.1).length) = x.2 := by rw [← List.drop_drop, e, List.drop_left]
 rw [show t.length - x.2.length = p + (row x.1).length from by omega, this]
theorem ends_nil {t : List Nd} {p : Nat} (hp : p ≤ t.length) : ends [] t p = some p := by
 simp only [ends, pp_nil, Option.map_some, List.length_drop, Option.some.injEq]; omega
theorem ends_append (d1 d2 : List Bool) {t : List Nd} {p : Nat} (hp : p ≤ t.length) : ends (d1 ++ d2) t p = (ends d1 t p).bind (ends d2 t) := by
 unfold ends
 rw [pp_append, Option.map_bind, Option.bind_map]
 refine Option.bind_congr fun x hx => ?_
 obtain ⟨e, _, _⟩ := pp_drop hx hp
 simp only [Function.comp]
 rw [← e, Option.map_map]
 rfl
theorem ends_cons (d : Bool) (dr : List Bool) {t : List Nd} {p : Nat} (hp : p ≤ t.length) : ends (d :: dr) t p = (ends [d] t p).bind (ends dr t) := ends_append [d] dr hp
theorem ends_bd {dl : List Bool} {t : List Nd} {p q : Nat} (h : ends dl t p = some q) (hp : p ≤ t.length) : p ≤ q ∧ q ≤ t.length ∧ (dl ≠ [] → p < q) := by
 simp only [ends, Option.map_eq_some_iff] at h
 obtain ⟨x, hx, rfl⟩ := h
 obtain ⟨_, h1, h2⟩ := pp_drop hx hp
 refine ⟨h1, by omega, fun hd => ?_⟩
 have := pp_lt hx hd
 rw [List.length_drop] at this
 omega
theorem ends_out (d : Bool) (dr : List Bool) {t : List Nd} {p : Nat} (hp : t.length ≤ p) : ends (d :: dr) t p = none := by
 simp only [ends]
 rw [List.drop_eq_nil_of_le hp, pp_cons]
 cases d <;> simp [preOf]
theorem ends_fun (dr : List Bool) {t : List Nd} {p : Nat} (hp : p < t.length) : ends (true :: dr) t p = if okF (nth t p) then ends (false :: dr) t (p + 1) else none := by
 simp only [ends]
 rw [drop_nth hp, pp_cons, pp_cons]
 simp only [preOf]
 by_cases h : okF (nth t p) = true
 · simp only [h, if_true, Option.bind_some]
   split
   · rfl
   split
   · simp only [Option.map_bind]
     refine Option.bind_congr fun q hq => ?_
     simp only [Option.map_bind, Function.comp]
     refine Option.bind_congr fun k hk => ?_
     simp only [Option.map_bind, Function.comp]
     refine Option.bind_congr fun x hx => ?_
     rfl
   rfl
 simp [h]
def atEnds : Nat → Int → List Nd → Nat → Option Nat
 | 0, _, _, p => some p
 | k + 1, last, t, p => if p < t.length ∧ (nth t p).op = 3 ∧ plainB (nth t p).op (nth t p).a (nth t p).b = true ∧ last < (nth t p).a then atEnds k (nth t p).a t (p + 1) else none
theorem atEnds_eq : ∀ (k : Nat) (last : Int) (t : List Nd) (p : Nat), p ≤ t.length → (takeAtoms k last (t.drop p)).map (fun x => t.length - x.2.length) = atEnds k last t p
 | 0, _, t, p, hp => by simp only [takeAtoms, atEnds, Option.map_some, List.length_drop, Option.some.injEq]; omega
 | k + 1, last, t, p, hp => by
  by_cases h : p < t.length
  · rw [drop_nth h]
    simp only [takeAtoms, atEnds, h, true_and]
    split
    · rw [← atEnds_eq k (nth t p).a t (p + 1) h, Option.map_map]; rfl
    rfl
  · rw [List.drop_eq_nil_of_le (by omega)]
    simp [takeAtoms, atEnds, h]
theorem ends_one {t : List Nd} {p : Nat} (hp : p < t.length) : ends [false] t p = if okN (nth t p) then (if (nth t p).op = 2 then atEnds (nth t p).b.toNat (-1) t (p + 1) else ends (ds (nth t p)) t (p + 1)) else none := by
 simp only [ends]
 rw [drop_nth hp, pp_cons]
 simp only [preOf, Option.bind_some]
 split
 · simp only [atomsOf]
   split
   · rename_i h2
     have hd : ds (nth t p) = [] := by simp [ds, h2, kidsI]
     rw [← atEnds_eq _ _ _ _ hp, hd]
     cases takeAtoms (nth t p).b.toNat (-1) (t.drop (p + 1)) <;> simp [pp_nil]
   simp only [Option.bind_some, pp_nil, Option.map_bind]
   cases pp (ds (nth t p)) (t.drop (p + 1)) <;> simp
 rfl
def endI (t : List Nd) (at_ : Int) : Int := if 0 ≤ at_ ∧ at_ < t.length then (match ends [false] t at_.toNat with | some q => (q : Int) | none => -1) else -1
def optI : Option Nat → Int
 | some q => q
 | none => -1
theorem endI_nat (t : List Nd) (p : Nat) : endI t p = optI (ends [false] t p) := by
 simp only [endI]
 split
 · rw [Int.toNat_natCast]; cases ends [false] t p <;> rfl
 rw [ends_out _ _ (by omega)]; rfl
def remd (n : Nd) (i : Nat) : List Bool := if n.op = 12 then (List.replicate (n.b.toNat - i) [true, false]).flatten else List.replicate ((kidsI n.op n.b).toNat - i) false
theorem remd_zero (n : Nd) : remd n 0 = ds n := by simp [remd, ds]
theorem remd_end (n : Nd) {i : Nat} (h : kidsI n.op n.b ≤ i) : remd n i = [] := by
 simp only [remd]
 split
 · rename_i h12
   have : n.b.toNat - i = 0 := by simp [kidsI, h12] at h; omega
   simp [this]
 have : (kidsI n.op n.b).toNat - i = 0 := by omega
 simp [this]
theorem remd_fix {n : Nd} {i : Nat} (h : n.op = 12) (hi : (i : Int) < n.b) : remd n i = true :: false :: remd n (i + 1) := by
 simp only [remd, h, if_true]
 rw [show n.b.toNat - i = (n.b.toNat - (i + 1)) + 1 from by omega, List.replicate_succ]
 rfl
theorem remd_one {n : Nd} {i : Nat} (h : n.op ≠ 12) (hi : (i : Int) < kidsI n.op n.b) : remd n i = false :: remd n (i + 1) := by
 simp only [remd, h, if_false]
 rw [show (kidsI n.op n.b).toNat - i = ((kidsI n.op n.b).toNat - (i + 1)) + 1 from by omega, List.replicate_succ]
theorem pp_sort {l : List Nd} (hp : 0 < l.length) (hok : okN (nth l 0) = true) (h2 : (nth l 0).op = 2) :
 pp [false] l = (takeAtoms (nth l 0).b.toNat (-1) (l.drop 1)).map fun q => (.cons [] (nth l 0) q.1 .nil .nil, q.2) := by
 cases l with
 | nil => simp at hp
 | cons n m =>
  have e : nth (n :: m) 0 = n := rfl
  rw [e] at hok h2 ⊢
  have hd : ds n = [] := by simp [ds, h2, kidsI]
  rw [pp_cons]
  simp only [preOf, Option.bind_some, hok, if_true, atomsOf, h2, hd, List.drop_one, List.tail_cons, pp_nil]
  cases takeAtoms n.b.toNat (-1) m <;> rfl
def nkI (op b : Int) : Int := if op = 4 then 2 else if op = 5 then 2 else if op = 6 then 2 else if op = 7 then 3 else if op = 11 then 2 + b else if op = 12 then 2 * b else 0
theorem ds_len {n : Nd} (h : okN n = true) : (ds n).length = (nkI n.op n.b).toNat := by
 simp only [okN, Bool.and_eq_true, decide_eq_true_eq] at h
 have h1 := plainB_b h.1.1
 simp only [ds]
 split
 · rename_i h12
   simp [nkI, h12, List.length_flatten]
   omega
 rename_i h12
 rw [List.length_replicate]
 simp only [kidsI, nkI]
 repeat' split
 all_goals first | rfl | omega
def Fo.setPre (p : List Nd) : Fo → Fo
 | .nil => .nil
 | .cons _ n a k x => .cons p n a k x
theorem pp_one {l : List Nd} {x : Fo × List Nd} (h : pp [false] l = some x) : ∃ n a k, x.1 = .cons [] n a k .nil := by
 rw [pp_cons] at h
 simp only [preOf, Option.bind_some] at h
 split at h
 · cases h
 split at h
 · simp only [Option.bind_eq_some_iff, pp_nil, Option.some.injEq] at h
   obtain ⟨q, _, k, _, y, rfl, rfl⟩ := h
   exact ⟨_, _, _, rfl⟩
 cases h
theorem pp_false (dr : List Bool) (l : List Nd) : pp (false :: dr) l = (pp [false] l).bind fun x => (pp dr x.2).map fun y => (x.1.app y.1, y.2) := pp_append [false] dr l
theorem pp_true (dr : List Bool) (f : Nd) (l : List Nd) : pp (true :: dr) (f :: l) = if okF f then (pp [false] l).bind fun x => (pp dr x.2).map fun y => ((x.1.setPre [f]).app y.1, y.2) else none := by
 rw [pp_cons, pp_cons]
 simp only [preOf]
 by_cases h : okF f = true
 · simp only [h, if_true, Option.bind_some]
   split
   · rfl
   split
   · simp only [Option.bind_assoc, pp_nil, Option.bind_some, Fo.setPre]
     refine Option.bind_congr fun q hq => ?_
     refine Option.bind_congr fun k hk => ?_
     cases pp dr k.2 <;> rfl
   rfl
 simp [h]
theorem pp_node {l : List Nd} (hp : 0 < l.length) (hok : okN (nth l 0) = true) (h2 : (nth l 0).op ≠ 2) :
 pp [false] l = (pp (ds (nth l 0)) (l.drop 1)).map fun q => (.cons [] (nth l 0) [] q.1 .nil, q.2) := by
 cases l with
 | nil => simp at hp
 | cons n m =>
  have e : nth (n :: m) 0 = n := rfl
  rw [e] at hok h2 ⊢
  rw [pp_cons]
  simp only [preOf, Option.bind_some, hok, if_true, atomsOf, if_neg h2, List.drop_one, List.tail_cons, pp_nil]
  cases pp (ds n) m <;> rfl
end
section
open Go.RowKit
def cellsN (n : Nd) : List Value := [.int .i64 n.op, .int .i64 n.a, .int .i64 n.b]
def flat (l : List Nd) : List Value := l.flatMap cellsN
theorem flat_cons (n : Nd) (l : List Nd) : flat (n :: l) = cellsN n ++ flat l := rfl
theorem flat_append (l m : List Nd) : flat (l ++ m) = flat l ++ flat m := by simp [flat]
theorem flat_len (l : List Nd) : (flat l).length = l.length * 3 := by
 induction l with
 | nil => rfl
 | cons n l ih => rw [flat_cons, List.length_append, ih]; simp [cellsN]; omega
theorem flat_at : ∀ (l : List Nd) (k : Nat), k < l.length → (flat l)[k * 3]? = some (.int .i64 (nth l k).op) ∧ (flat l)[k * 3 + 1]? = some (.int .i64 (nth l k).a) ∧ (flat l)[k * 3 + 2]? = some (.int .i64 (nth l k).b)
 | [], k, h => absurd h (by simp)
 | n :: l, 0, _ => ⟨rfl, rfl, rfl⟩
 | n :: l, k + 1, h => by
  obtain ⟨h1, h2, h3⟩ := flat_at l k (by simpa using h)
  have e : nth (n :: l) (k + 1) = nth l k := rfl
  rw [e, flat_cons]
  refine ⟨?_, ?_, ?_⟩
  · rw [List.getElem?_append_right (by simp [cellsN]; omega), ← h1]; congr 1; simp [cellsN]; omega
  · rw [List.getElem?_append_right (by simp [cellsN]; omega), ← h2]; congr 1; simp [cellsN]; omega
  · rw [List.getElem?_append_right (by simp [cellsN]; omega), ← h3]; congr 1; simp [cellsN]; omega
theorem flat_one (l : List Nd) : ∀ u ∈ flat l, u.oneCell' = true := by
 intro u hu
 simp only [flat, cellsN, List.mem_flatMap] at hu
 obtain ⟨n, _, hu⟩ := hu
 simp at hu
 rcases hu with rfl | rfl | rfl <;> rfl
def TermS (R : Nat → Prop) (w : World) (v : Value) (l : List Nd) : Prop := ∃ A n c, v = .slice A n c ∧ TermR R w A n c l
theorem TermS.nil (R : Nat → Prop) (w : World) : TermS R w (.slice none 0 0) [] := ⟨none, 0, 0, rfl, rfl, Nat.le_refl _, Nat.zero_le _, fun _ => rfl, fun h => absurd h (by omega)⟩
def OwnN (w : World) (base : Nat) (v : Value) (l : List Nd) : Prop := w.ownsRow base 50 3 v l.length (flat l)
theorem OwnN.nil (w : World) (base : Nat) : OwnN w base (.slice none 0 0) [] := World.ownsRow_nil w base _ _
theorem ownsRow_block {w : World} {base : Nat} {e : TypeId} {size : Nat} {v : Value} {n : Nat} {xs : List Value} (h : w.ownsRow base e size v n xs) {g : Nat} (hg : v.ownBlock = some g) : base ≤ g ∧ g < w.heap.size ∧ ∃ cur, w.heap[g]? = some (.cells cur e (0, 0)) := by
 rcases h.2 with ⟨rfl, _⟩ | ⟨g', cap, cur, rfl, hb, hgg, _⟩
 · simp [Value.ownBlock] at hg
 simp only [Value.ownBlock, Option.some.injEq] at hg
 subst hg
 exact ⟨hb, (Array.getElem?_eq_some_iff.1 hgg).1, cur, hgg⟩
theorem OwnN.termS {w : World} {base : Nat} {v : Value} {l : List Nd} (h : OwnN w base v l) (hl : l.length ≤ 5864062014805) : TermS (fun b => v.ownBlock = some b) w v l := by
 have hc := fun g hg => World.ownsRow.cells h (g := g) hg
 rcases h.2 with ⟨rfl, h0⟩ | ⟨g, cap, cur, rfl, hb, hgg, hcap, _⟩
 · obtain rfl := List.eq_nil_of_length_eq_zero h0
   exact TermS.nil _ _
 refine ⟨_, _, _, rfl, rfl, hcap, hl, (fun e => by cases e), fun _ => ⟨g, 0, rfl, rfl, fun k hk => ?_⟩⟩
 obtain ⟨h1, h2, h3⟩ := flat_at l k hk
 have h1 := hc g rfl _ _ h1
 have h2 := hc g rfl _ _ h2
 have h3 := hc g rfl _ _ h3
 have ea : ∀ j, (⟨g, 0, none⟩ : Addr).add j = ⟨g, j, none⟩ := fun j => by unfold Addr.add; split <;> simp_all
 rw [ea] at h1 h2 h3
 simp only [Nat.zero_add]
 exact ⟨h1, h2, h3⟩
def Blk (w : World) (g : Nat) (t : TypeId) (cs : Array Value) : Prop := w.heap[g]? = some (.cells cs t (0, 0))
section
variable {w w' : World} {g : Nat} {t : TypeId} {cs : Array Value}
theorem Blk.lt (h : Blk w g t cs) : g < w.heap.size := (Array.getElem?_eq_some_iff.1 h).1
theorem Blk.cell (h : Blk w g t cs) (i : Nat) : w.cell? ⟨g, i, none⟩ = cs[i]? := by
 unfold Blk at h
 simp [World.cell?, h]
theorem Blk.frozen (h : Blk w g t cs) (i : Nat) : w.frozen? ⟨g, i, none⟩ = false := by
 unfold Blk at h
 simp [World.frozen?, h]
theorem Blk.new (w : World) (t : TypeId) (cs : Array Value) : Blk (w.alloc (.cells cs t)) w.heap.size t cs := heap_alloc_new w _
theorem Blk.drewN (h : Blk w g t cs) (n : Nat) : Blk (w.drewN n) g t cs := h
theorem Blk.alloc (h : Blk w g t cs) (o : Obj) : Blk (w.alloc o) g t cs := (Below.heap_alloc w o g h.lt).trans h
theorem Blk.set_ (h : Blk w g t cs) (i : Nat) (u : Value) : Blk (w.setCell ⟨g, i, none⟩ u) g t (cs.setIfInBounds i u) := by
 unfold Blk at h ⊢
 simp [World.setCell, Array.getElem?_modify, h]
theorem Blk.far (h : Blk w g t cs) {p : Addr} (hp : g ≠ p.block) (u : Value) : Blk (w.setCell p u) g t cs := (Below.heap_setCell w p u g hp).trans h
theorem Blk.below {B : Nat} (h : Blk w g t cs) (hb : Below B w w') (hg : g < B) : Blk w' g t cs := (hb.block g hg).trans h
theorem Blk.grown {row : Option Nat} (h : Blk w g t cs) (hb : w.grownBy w' row) (hg : some g ≠ row) : Blk w' g t cs := (hb.block g h.lt hg).trans h
end
structure Appended (w w' : World) (base : Nat) (e : TypeId) (size : Nat) (v : Value) (A : Option Addr) (n c : Nat) (xs : List Value) : Prop where
 own : w'.ownsRow base e size (.slice A n c) n xs
 grown : w.grownBy w' v.ownBlock
 new : ∀ g, (Value.slice A n c).ownBlock = some g → v.ownBlock = some g ∨ w.heap.size ≤ g
theorem run_append_mine {P : Program} (w : World) (base : Nat) (t ty e : TypeId) (i : TypeInfo) (z : Value) (size bytes : Nat) (ht : P.underlying t = some (.slice e)) (hi : P.info? e = some i) (hz : i.zero = some z)
 (hsize : i.size = size) (hby : i.bytes = bytes) (hzs : z.cells.size = size) (hsz : 0 < size)
 (v : Value) (n : Nat) (xs : List Value) (hown : w.ownsRow base e size v n xs)
 (A : Option Addr) (m c : Nat) (news : List Value) (hl : news.length = m * size) (hnone : A = none → m = 0 ∧ c = 0) (hnews : ∀ ad, A = some ad → ∀ j u, news[j]? = some u → w.cell? (ad.add j) = some u) (h1 : ∀ u ∈ news, u.oneCell' = true)
 (h63 : n + m ≤ maxLen) (hbytes : (n + m) * bytes ≤ 140737488355328) (hbase : base ≤ w.heap.size) :
 ∃ A' c' w', (Builtin.append_ #[t, t] ty #[v, .slice A m c]).run P w = .ok (.slice A' (n + m) c') w' ∧ Appended w w' base e size v A' (n + m) c' (xs ++ news) := by
 cases A with
 | none =>
  obtain ⟨rfl, rfl⟩ := hnone rfl
  obtain rfl : news = [] := List.eq_nil_of_length_eq_zero (by simpa using hl)
  have hr := run_append_owned_none (P := P) w base t ty e i size ht hi v n xs hown
  obtain ⟨A', c', rfl⟩ : ∃ A' c', v = .slice A' n c' := by
   rcases hown.2 with ⟨rfl, rfl⟩ | ⟨g, cap, cur, rfl, _⟩
   · exact ⟨none, 0, rfl⟩
   exact ⟨_, _, rfl⟩
  exact ⟨A', c', w, hr, by simpa using hown, World.grownBy.refl _ _, fun g hg => .inl hg⟩
 | some ad =>
  have hnews := hnews ad rfl
  obtain ⟨v', w', hr, h2, h3, h4⟩ := run_append_own (P := P) w base t ty e i z size bytes ht hi hz hsize hby hzs hsz v n xs hown ad m c news hl hnews h1 h63 hbytes hbase
  obtain ⟨A', c', rfl⟩ : ∃ A' c', v' = .slice A' (n + m) c' := by
   rcases h2.2 with ⟨rfl, h0⟩ | ⟨g, cap, cur, rfl, _⟩
   · rw [h0]; exact ⟨none, 0, rfl⟩
   exact ⟨_, _, rfl⟩
  refine ⟨A', c', w', hr, h2, h3, fun g hg => ?_⟩
  subst hsize
  subst hby
  rcases hown.2 with ⟨rfl, rfl⟩ | ⟨g0, cap, cur, rfl, hb, hgg, hnc, hcm, hcs, htake⟩
  · by_cases hm : m = 0
    · have := h4.2 ⟨rfl, hm⟩
      rw [this] at hg
      exact .inl hg
    have hr2 := run_append_nil (P := P) w t ty e i z ht hi hz ad m c news hl hnews (by omega) (by unfold maxLen at h63; omega) (by simp only [Nat.zero_add] at hbytes; omega)
    rw [hr] at hr2
    injection hr2 with hv _
    rw [hv] at hg
    simp only [Value.ownBlock, Option.some.injEq] at hg
    exact .inr (by omega)
  · by_cases hroom : n + m ≤ cap
    · have hr2 := run_append_room (P := P) w t ty e i ht hi g0 n cap cur hgg ad m c news hl hnews h1 hroom (by rw [hl, hcs, ← Nat.add_mul]; exact Nat.mul_le_mul_right _ hroom)
      rw [hr] at hr2
      injection hr2 with hv _
      rw [hv] at hg
      exact .inl hg
    have hr2 := run_append_grow (P := P) w t ty e i z ht hi hz ⟨g0, 0, none⟩ n cap xs hown.1 (hown.cells (g := g0) rfl) ad m c news hl hnews (by omega) (by unfold maxLen at h63; omega) (growslice_fits (by omega) hbytes)
    rw [hr] at hr2
    injection hr2 with hv _
    rw [hv] at hg
    simp only [Value.ownBlock, Option.some.injEq] at hg
    exact .inr (by omega)
theorem oper_append_mine {P : Program} {o : Oper} {a : Act} {w : World} {K : Act → World → Prop} {Q : Exit → Act → World → Prop}
 (s x : Operand) (t : TypeId) (hop : o.op = Op.call { callee := Callee.builtin Builtin.append, args := #[s, x], argTypes := #[t, t] })
 (base : Nat) (e : TypeId) (i : TypeInfo) (z : Value) (size bytes : Nat) (h1 : P.underlying t = some (.slice e)) (h2 : P.info? e = some i) (h3 : i.zero = some z) (h4 : i.size = size) (h5 : i.bytes = bytes) (h6 : z.cells.size = size) (h7 : 0 < size)
 (v : Value) (n : Nat) (xs : List Value) (hs : a.eval s = v) (hown : w.ownsRow base e size v n xs)
 (A : Option Addr) (m c : Nat) (news : List Value) (hx : a.eval x = .slice A m c) (hn : news.length = m * size) (hnone : A = none → m = 0 ∧ c = 0) (hc : ∀ ad, A = some ad → ∀ j u, news[j]? = some u → w.cell? (ad.add j) = some u) (h1c : ∀ u ∈ news, u.oneCell' = true)
 (b1 : n + m ≤ maxLen) (b2 : (n + m) * bytes ≤ 140737488355328) (b3 : base ≤ w.heap.size)
 (hK : ∀ A' c' w', Appended w w' base e size v A' (n + m) c' (xs ++ news) → K (a.put o.dst (.slice A' (n + m) c')) w') : Oper.wp P o a w K Q := by
 obtain ⟨A', c', w', hrun, hap⟩ := run_append_mine (P := P) w base t o.type e i z size bytes h1 h2 h3 h4 h5 h6 h7 v n xs hown A m c news hn hnone hc h1c b1 b2 b3
 unfold Oper.wp
 simp [execOp, hop, resolve, invoke, builtin, hs, hx, hrun, Result.andThen]
 exact hK A' c' w' hap
theorem own_ne {w : World} {base : Nat} {e : TypeId} {size : Nat} {v : Value} {n : Nat} {xs : List Value} (h : w.ownsRow base e size v n xs) {g : Nat} (hg : g < base) : some g ≠ v.ownBlock := by
 intro e
 have := (ownsRow_block h e.symm).1
 omega
theorem grown_of_below {w w' : World} (hb : Below w.heap.size w w') (row : Option Nat) : w.grownBy w' row := ⟨hb.os, hb.tape, hb.output, hb.size, fun k hk _ => hb.block k hk⟩
theorem own_below {w w' : World} {base : Nat} {e : TypeId} {size : Nat} {v : Value} {n : Nat} {xs : List Value} (h : w.ownsRow base e size v n xs) (hb : Below w.heap.size w w') : w'.ownsRow base e size v n xs :=
 h.kept (grown_of_below hb none) (by cases v.ownBlock <;> simp)
theorem OwnN.below {w w' : World} {base : Nat} {v : Value} {l : List Nd} (h : OwnN w base v l) (hb : Below w.heap.size w w') : OwnN w' base v l := own_below h hb
theorem OwnN.drewN {w : World} {base : Nat} {v : Value} {l : List Nd} (h : OwnN w base v l) (m : Nat) : OwnN (w.drewN m) base v l := h
theorem OwnN.alloc {w : World} {base : Nat} {v : Value} {l : List Nd} (h : OwnN w base v l) (o : Obj) : OwnN (w.alloc o) base v l := World.ownsRow.alloc h o
theorem OwnN.setCell {w : World} {base : Nat} {v : Value} {l : List Nd} (h : OwnN w base v l) {a : Addr} (ha : a.block < base) (u : Value) : OwnN (w.setCell a u) base v l := ownsRow_setCell_below h ha u
theorem cells_new (w : World) (n : Nd) : ∀ j u, (cellsN n)[j]? = some u → (w.alloc (.cells #[.int .i64 n.op, .int .i64 n.a, .int .i64 n.b] 50)).cell? ((⟨w.heap.size, 0, none⟩ : Addr).add j) = some u := by
 intro j u hu
 have ea : (⟨w.heap.size, 0, none⟩ : Addr).add j = ⟨w.heap.size, j, none⟩ := by unfold Addr.add; split <;> simp_all
 rw [ea, World.cell?_alloc_new, ← hu]
 simp [cellsN]
theorem Appended.ownN {w w' : World} {base : Nat} {v : Value} {A : Option Addr} {n c : Nat} {l m : List Nd} (h : Appended w w' base 50 3 v A n c (flat l ++ flat m)) (hn : n = l.length + m.length) : OwnN w' base (.slice A n c) (l ++ m) := by
 unfold OwnN
 rw [List.length_append, flat_append, ← hn]
 exact h.own
theorem oper_append_node {P : Program} {o : Oper} {a : Act} {w : World} {K : Act → World → Prop} {Q : Exit → Act → World → Prop}
 (s x : Operand) (t : TypeId) (hop : o.op = Op.call { callee := Callee.builtin Builtin.append, args := #[s, x], argTypes := #[t, t] })
 (base : Nat) (i : TypeInfo) (h1 : P.underlying t = some (.slice 50)) (h2 : P.info? 50 = some i) (h3 : i.zero = some (.agg #[.int .i64 0, .int .i64 0, .int .i64 0])) (h4 : i.size = 3) (h5 : i.bytes = 24)
 (v : Value) (l : List Nd) (n : Nd) (W : World) (hW : w = W.alloc (.cells #[.int .i64 n.op, .int .i64 n.a, .int .i64 n.b] 50)) (hs : a.eval s = v) (hown : OwnN W base v l)
 (g : Nat) (hx : a.eval x = .slice (some ⟨g, 0, none⟩) 1 1) (hgW : g = W.heap.size) (b1 : l.length + 1 ≤ 5864062014805) (b3 : base ≤ W.heap.size)
 (hK : ∀ A' c' w', OwnN w' base (.slice A' (l.length + 1) c') (l ++ [n]) → Appended W w' base 50 3 v A' (l.length + 1) c' (flat l ++ cellsN n) → K (a.put o.dst (.slice A' (l.length + 1) c')) w') : Oper.wp P o a w K Q := by
 subst hW
 subst hgW
 refine oper_append_mine s x t hop base _ i _ 3 24 h1 h2 h3 h4 h5 rfl (by decide) v l.length (flat l) hs (World.ownsRow.alloc hown _) _ 1 1 (cellsN n) hx rfl (fun e => by cases e) (fun ad e => by injection e with e; subst e; exact cells_new _ _) ?_ (by unfold maxLen; omega) (by omega) (by simp; omega) ?_
 · intro u hu
   simp [cellsN] at hu
   rcases hu with rfl | rfl | rfl <;> rfl
 intro A' c' w' h
 refine hK A' c' w' ?_ ⟨h.own, ?_, fun g hg => (h.new g hg).imp id (fun hh => by simp at hh; omega)⟩
 · exact Appended.ownN (m := [n]) (by simpa [flat] using h) rfl
 refine ⟨h.grown.os, h.grown.tape, h.grown.output, Nat.le_trans (by simp) h.grown.size, fun k hk hne => ?_⟩
 rw [h.grown.block k (by simp; omega) hne]
 exact Below.heap_alloc _ _ _ hk
theorem flat_in {l : List Nd} {j : Nat} {u : Value} (h : (flat l)[j]? = some u) : ∃ k, k < l.length ∧ ((j = k * 3 ∧ u = .int .i64 (nth l k).op) ∨ (j = k * 3 + 1 ∧ u = .int .i64 (nth l k).a) ∨ (j = k * 3 + 2 ∧ u = .int .i64 (nth l k).b)) := by
 have hj := (List.getElem?_eq_some_iff.1 h).1
 rw [flat_len] at hj
 have hk : j / 3 < l.length := by omega
 obtain ⟨h1, h2, h3⟩ := flat_at l (j / 3) hk
 have hm : j = j / 3 * 3 ∨ j = j / 3 * 3 + 1 ∨ j = j / 3 * 3 + 2 := by omega
 refine ⟨j / 3, hk, ?_⟩
 rcases hm with hm | hm | hm
 · rw [← hm] at h1; rw [h] at h1; exact .inl ⟨hm, Option.some.inj h1⟩
 · rw [← hm] at h2; rw [h] at h2; exact .inr (.inl ⟨hm, Option.some.inj h2⟩)
 rw [← hm] at h3; rw [h] at h3; exact .inr (.inr ⟨hm, Option.some.inj h3⟩)
theorem TermR.flat_cells {R : Nat → Prop} {w : World} {A : Option Addr} {n c : Nat} {l : List Nd} (h : TermR R w A n c l) (ad : Addr) (hA : A = some ad) : ∀ j u, (flat l)[j]? = some u → w.cell? (ad.add j) = some u := by
 intro j u hu
 obtain ⟨k, hk, hh⟩ := flat_in hu
 obtain ⟨b, off, e, _, hm⟩ := h.mem (by rw [← h.len]; omega)
 rw [hA] at e
 injection e with e
 subst e
 obtain ⟨m1, m2, m3⟩ := hm k hk
 have ea : ∀ j, (⟨b, off, none⟩ : Addr).add j = ⟨b, off + j, none⟩ := fun j => by unfold Addr.add; split <;> simp_all
 rw [ea]
 rcases hh with ⟨rfl, rfl⟩ | ⟨rfl, rfl⟩ | ⟨rfl, rfl⟩
 · exact m1
 · exact m2
 exact m3
theorem append_types {P : Program} {t u e : TypeId} (ht : P.underlying t = some (.slice e)) (hu : P.underlying u = some (.slice e)) (ty : TypeId) (B : Option Addr) (m k : Nat) (x : Value) (w : World) :
 (Builtin.append_ #[t, u] ty #[.slice B m k, x]).run P w = (Builtin.append_ #[t, t] ty #[.slice B m k, x]).run P w := by
 simp [Builtin.append_, run_underlying ht, run_underlying hu]
theorem oper_append_row {P : Program} {o : Oper} {a : Act} {w : World} {K : Act → World → Prop} {Q : Exit → Act → World → Prop}
 (s x : Operand) (t u : TypeId) (hop : o.op = Op.call { callee := Callee.builtin Builtin.append, args := #[s, x], argTypes := #[t, u] })
 (base : Nat) (i : TypeInfo) (h1 : P.underlying t = some (.slice 50)) (h1u : P.underlying u = some (.slice 50)) (h2 : P.info? 50 = some i) (h3 : i.zero = some (.agg #[.int .i64 0, .int .i64 0, .int .i64 0])) (h4 : i.size = 3) (h5 : i.bytes = 24)
 (v : Value) (l m : List Nd) (hs : a.eval s = v) (hown : OwnN w base v l) {R : Nat → Prop} {A : Option Addr} {n c : Nat} (hx : a.eval x = .slice A n c) (hm : TermR R w A n c m)
 (b1 : l.length + n ≤ 5864062014805) (b3 : base ≤ w.heap.size)
 (hK : ∀ A' c' w', OwnN w' base (.slice A' (l.length + n) c') (l ++ m) → Appended w w' base 50 3 v A' (l.length + n) c' (flat l ++ flat m) → K (a.put o.dst (.slice A' (l.length + n) c')) w') : Oper.wp P o a w K Q := by
 obtain ⟨A', c', w', hrun, hap⟩ := run_append_mine (P := P) w base t o.type _ i _ 3 24 h1 h2 h3 h4 h5 rfl (by decide) v l.length (flat l) hown A n c (flat m) (by rw [flat_len, hm.len])
  (fun e => ⟨by
   by_cases h0 : 0 < n
   · obtain ⟨b, off, e2, _⟩ := hm.mem h0
     rw [e] at e2; cases e2
   · omega, hm.nul e⟩) (fun ad e => hm.flat_cells ad e) (flat_one m) (by unfold maxLen; omega) (by omega) b3
 obtain ⟨B, k0, rfl⟩ : ∃ B k0, v = .slice B l.length k0 := by
  rcases hown.2 with ⟨rfl, h0⟩ | ⟨g, cap, cur, rfl, _⟩
  · rw [h0]; exact ⟨none, 0, rfl⟩
  exact ⟨_, _, rfl⟩
 rw [← append_types h1 h1u] at hrun
 unfold Oper.wp
 simp [execOp, hop, resolve, invoke, builtin, hs, hx, hrun, Result.andThen]
 exact hK A' c' w' (Appended.ownN hap (by rw [hm.len])) hap
theorem wpList_oper {P : Program} {ops : Array Oper} {rest : List Oper} {o : Oper} {a : Act} {w : World} {Q : Exit → Act → World → Prop} (hg : o.guard = none) (h : Oper.wp P o a w (wpList P ops Q rest) Q) : wpList P ops Q (o :: rest) a w := by
 unfold wpList
 rw [if_pos (by simp [Region.wanted, hg])]
 exact .inl h
theorem step_oper {P : Program} {ops : Array Oper} {o : Oper} {a : Act} {w : World} {K : Act → World → Prop} {Q : Exit → Act → World → Prop} {E : Prop} (hg : o.guard = none) (h : Oper.wp P o a w K Q) :
 if Region.wanted o (yielded ops a.tmps) = true then Oper.wp P o a w K Q else E := by
 rw [if_pos (by simp [Region.wanted, hg])]; exact h
def flen : Fo → Nat
 | .nil => 0
 | .cons _ _ _ _ x => flen x + 1
def press : Fo → List Nd
 | .nil => []
 | .cons p _ _ _ x => p ++ press x
theorem flen_app : ∀ (F G : Fo), flen (F.app G) = flen F + flen G
 | .nil, G => by simp [Fo.app, flen]
 | .cons p n a k x, G => by simp only [Fo.app, flen, flen_app x G]; omega
theorem app_nil : ∀ (F : Fo), F.app .nil = F
 | .nil => rfl
 | .cons p n a k x => by simp only [Fo.app, app_nil x]
theorem app_assoc : ∀ (F G H : Fo), (F.app G).app H = F.app (G.app H)
 | .nil, G, H => rfl
 | .cons p n a k x, G, H => by simp only [Fo.app, app_assoc x G H]
theorem own_new {w : World} {base : Nat} (hb : base ≤ w.heap.size) (n : Nd) : OwnN (w.alloc (.cells #[.int .i64 n.op, .int .i64 n.a, .int .i64 n.b] 50)) base (.slice (some ⟨w.heap.size, 0, none⟩) 1 1) [n] :=
 ⟨rfl, .inr ⟨w.heap.size, 1, _, rfl, hb, heap_alloc_new w _, Nat.le_refl _, by unfold maxLen; omega, rfl, rfl⟩⟩
def fsize : Fo → Nat
 | .nil => 0
 | .cons _ _ _ k x => fsize k + fsize x + 1
def PreOk (p : Bool) : Nat → Fo → Prop
 | _, .nil => True
 | i, .cons pre n _ k x => pre.length = (if p = true ∧ i % 2 = 0 then 1 else 0) ∧ PreOk (decide (n.op = 12)) 0 k ∧ PreOk p (i + 1) x
theorem fsize_app : ∀ (F G : Fo), fsize (F.app G) = fsize F + fsize G
 | .nil, G => by simp [Fo.app, fsize]
 | .cons p n a k x, G => by simp only [Fo.app, fsize, fsize_app x G]; omega
end
section
open Go.RowKit
def fresh (w w' : World) (b : Nat) : Prop := w.heap.size ≤ b ∧ b < w'.heap.size
theorem own_new' {w : World} {base g : Nat} (hg : g = w.heap.size) (hb : base ≤ w.heap.size) (n : Nd) : OwnN (w.alloc (.cells #[.int .i64 n.op, .int .i64 n.a, .int .i64 n.b] 50)) base (.slice (some ⟨g, 0, none⟩) 1 1) [n] := by
 subst hg
 exact own_new hb n
end
section
open Go.RowKit
end
section
def AllOk : Fo → Prop
 | .nil => True
 | .cons _ n _ k x => okN n = true ∧ AllOk k ∧ AllOk x
theorem aroundI_bd {n : Nd} (h : okN n = true) (k : Int) : 0 ≤ aroundI n.op n.b k ∧ aroundI n.op n.b k ≤ 4 := by
 simp only [okN, Bool.and_eq_true] at h
 have h1 := h.1.1
 rw [plainB_iff] at h1
 simp only [aroundI]
 split
 · omega
 split <;> omega
theorem flen_le_fsize : ∀ (F : Fo), flen F ≤ fsize F
 | .nil => Nat.le_refl _
 | .cons p n a k x => by
  have := flen_le_fsize x
  simp only [flen, fsize]
  omega
end
section
open Go Go.RowKit
section
variable {P : Program} {ops : Array Oper} {Q : Exit → Act → World → Prop} {md : Region.Mode} {S : World → Prop} {l : Nat}
def wpAnyE (P : Program) (md : Region.Mode) (ops : Array Oper) (Q : Exit → Act → World → Prop) (S : World → Prop) (l : Nat) : Nat → Array Bool → Act → World → Prop
 | 0, done, a, w => Region.ready md ops done = [] ∧ Q .normal a w
 | fuel + 1, done, a, w =>
  (Region.ready md ops done = [] → Q .normal a w) ∧
  ∀ i ∈ Region.ready md ops done, wpOp P ops Q i (fun a' w' => (i ≠ l → S w') ∧ wpAnyE P md ops Q S l fuel (done.setIfInBounds i true) a' w') a w
theorem wpAny_of_E : ∀ (fuel : Nat) (done : Array Bool) (a : Act) (w : World), wpAnyE P md ops Q S l fuel done a w → wpAny P md ops Q fuel done a w
 | 0, _, _, _, h => h
 | fuel + 1, _, _, _, h => ⟨h.1, fun i hi => wpOp_mono (fun a' w' h' => wpAny_of_E fuel _ a' w' h'.2) (h.2 i hi)⟩
theorem ready_of_mem {i : Nat} {done : Array Bool} (h : i ∈ Region.ready md ops done) {j : Nat} {oj : Oper} (hj : j ∈ Region.ready md ops done) (hoj : ops[j]? = some oj) : ∀ e ∈ oj.after, Region.binds md e = true → e.on ≠ i := fun e he hb heq => by
 obtain ⟨_, oj', hoj', hall⟩ := mem_ready.1 hj
 rw [hoj] at hoj'
 obtain rfl := Option.some.inj hoj'
 have h1 := hall e he hb
 have h0 := (mem_ready.1 h).1
 rw [heq] at h1
 rcases Nat.lt_or_ge i done.size with h' | h'
 · simp [h'] at h0 h1; rw [h0] at h1; cases h1
 simp [Array.getElem?_eq_none h'] at h1
theorem wpAnyE_first {i : Nat} {oi ol : Oper} {v : Value} (hi : ops[i]? = some oi) (hl : ops[l]? = some ol) (hw : ∃ e ∈ ol.after, Region.binds md e = true ∧ e.on = i) (hsel : ∀ (j : Nat) (o : Oper) cs b, ops[j]? = some o → o.op ≠ .select cs b)
 (hQ : ∀ c a w, Q (.panic c) (a.put oi.dst v) w → Q (.panic c) a w) :
 ∀ (fuel : Nat) (done : Array Bool) (a : Act) (w : World),
  (∀ j oj, ops[j]? = some oj → j ≠ i → done.getD j true = false → (∀ e ∈ oj.after, Region.binds md e = true → e.on ≠ i) → oi.apart ops oj = true) →
  i ∈ Region.ready md ops done → YieldsIf P ops S oi v a → S w →
  wpAnyE P md ops Q S l fuel (done.setIfInBounds i true) (a.put oi.dst v) w → wpAnyE P md ops Q S l (fuel + 1) done a w := by
 intro fuel
 induction fuel with
 | zero =>
  intro done a w _ hr hy hS H
  refine ⟨fun h => (by rw [h] at hr; cases hr), fun j hj => ?_⟩
  by_cases hji : j = i
  · subst hji; exact hy.wpOp hi hS ⟨fun _ => hS, H⟩
  · have := ready_mono hj hji
    rw [H.1] at this
    cases this
 | succ fuel ih =>
  intro done a w hfree hr hy hS H
  refine ⟨fun h => (by rw [h] at hr; cases hr), fun j hj => ?_⟩
  by_cases hji : j = i
  · subst hji; exact hy.wpOp hi hS ⟨fun _ => hS, H⟩
  · have h1 := H.2 j (ready_mono hj hji)
    obtain ⟨hjun, oj, hoj, _⟩ := mem_ready.1 hj
    have hnot := ready_of_mem hr hj hoj
    have hjl : j ≠ l := fun e => by
     subst e
     obtain ⟨x, hx, hb, hon⟩ := hw
     rw [hl] at hoj
     obtain rfl := Option.some.inj hoj
     exact hnot x hx hb hon
    have h2 := wpOp_putIf hoj (hfree j oj hoj hji hjun hnot) (fun cs b => hsel i oi cs b hi) (fun cs b => hsel j oj cs b hoj) hQ hy h1
    refine wpOp_mono (fun a' w' h3 => ?_) h2
    have hS' := h3.2.1 hjl
    refine ⟨fun _ => hS', ih (done.setIfInBounds j true) a' w' (fun k ok hk hki hun hno => hfree k ok hk hki ?_ hno) (ready_mono hr (Ne.symm hji)) h3.1 hS' ?_⟩
    · by_cases hjk : j = k
      · subst hjk; exact hjun
      rw [getD_set_ne true hjk] at hun; exact hun
    rw [Array.setIfInBounds_comm _ _ hji]
    exact h3.2.2
theorem wpAnyE_take {i : Nat} {oi ol : Oper} {v : Value} {fuel : Nat} {done : Array Bool} {a : Act} {w : World} (hi : ops[i]? = some oi) (hl : ops[l]? = some ol) (hw : (ol.after.any fun e => Region.binds md e && e.on == i) = true)
 (hs : Region.noSelect ops = true) (hf : Region.free md ops done i = true) (hr : (Region.ready md ops done).contains i = true)
 (hQ : ∀ c a w, Q (.panic c) (a.put oi.dst v) w → Q (.panic c) a w) (hy : YieldsIf P ops S oi v a) (hS : S w)
 (h : wpAnyE P md ops Q S l fuel (done.setIfInBounds i true) (a.put oi.dst v) w) : wpAnyE P md ops Q S l (fuel + 1) done a w := by
 refine wpAnyE_first hi hl ?_ (Region.noSelect_spec hs) hQ fuel done a w (Region.free_spec hi hf) (by simpa using hr) hy hS h
 obtain ⟨k, hk, he⟩ := Array.any_eq_true.1 hw
 simp only [Bool.and_eq_true, beq_iff_eq] at he
 exact ⟨_, Array.getElem_mem hk, he⟩
theorem wpAnyE_step {i : Nat} {o : Oper} {fuel : Nat} {done : Array Bool} {a : Act} {w : World} (hr : Region.ready md ops done = [i]) (ho : ops[i]? = some o) (hg : o.guard = none)
 (h : ∀ K' : Act → World → Prop, Hid (∀ a w, (i ≠ l → S w) → wpAnyE P md ops Q S l fuel (done.setIfInBounds i true) a w → K' a w) → Oper.wp P o a w K' Q) : wpAnyE P md ops Q S l (fuel + 1) done a w := by
 refine ⟨fun h0 => (by rw [hr] at h0; cases h0), fun j hj => ?_⟩
 rw [hr, List.mem_singleton] at hj
 subst hj
 refine wpOp_step ho fun K' hK => ?_
 rw [if_pos (by simp [Region.wanted, hg])]
 exact h K' fun a w h1 h2 => hK a w ⟨h1, h2⟩
theorem wpAnyE_end {done : Array Bool} {a : Act} {w : World} (hr : Region.ready md ops done = []) (h : Q .normal a w) :
 ∀ fuel, wpAnyE P md ops Q S l fuel done a w
 | 0 => ⟨hr, h⟩
 | _ + 1 => ⟨fun _ => h, by rw [hr]; simp⟩
theorem wp_region_E (l : Nat) (S : World → Prop) {id : Nat} {a : Act} {w : World} (hm : P.follows .mixedOrders = true) (hS : S w.drew)
 (h : S w.drew → wpAnyE P .any ops Q S l ops.size (Array.replicate ops.size false) a w.drew) : (Code.region id ops true).wp P Q a w :=
 wp_region_any hm (wpAny_of_E _ _ _ _ (h hS))
end
end
section
open Go Go.RowKit
section
variable {P : Program} {ops : Array Oper} {Q : Exit → Act → World → Prop} {md : Region.Mode} {S : World → Prop} {l : Nat}
def waits (md : Region.Mode) (ops : Array Oper) (i : Nat) : Nat → Nat → Bool
 | 0, _ => false
 | f + 1, x => match ops[x]? with
  | some o => o.after.any fun e => Region.binds md e && (e.on == i || waits md ops i f e.on)
  | none => false
def Shut (md : Region.Mode) (ops : Array Oper) (done : Array Bool) : Prop :=
 ∀ x o, ops[x]? = some o → done.getD x false = true → ∀ e ∈ o.after, Region.binds md e = true → done.getD e.on false = true
def shutB (md : Region.Mode) (ops : Array Oper) (done : Array Bool) : Bool :=
 (List.range ops.size).all fun x => !done.getD x false || (match ops[x]? with | some o => o.after.all fun e => !Region.binds md e || done.getD e.on false | none => true)
theorem shut_of {done : Array Bool} (h : shutB md ops done = true) : Shut md ops done := by
 intro x o ho hx e he hb
 have hlt : x < ops.size := (Array.getElem?_eq_some_iff.1 ho).1
 unfold shutB at h
 rw [List.all_eq_true] at h
 have h1 := h x (List.mem_range.2 hlt)
 simp only [hx, ho, Bool.not_true, Bool.false_or, Array.all_eq_true] at h1
 obtain ⟨k, hk, hke⟩ := Array.mem_iff_getElem.1 he
 have h2 := h1 k hk
 rw [hke, hb] at h2
 simpa using h2
theorem Shut.step {done : Array Bool} (h : Shut md ops done) {j : Nat} (hj : j ∈ Region.ready md ops done) : Shut md ops (done.setIfInBounds j true) := by
 obtain ⟨hjun, oj, hoj, hall⟩ := mem_ready.1 hj
 have up : ∀ y, done.getD y false = true → (done.setIfInBounds j true).getD y false = true := fun y hy => by
  by_cases hyj : j = y
  · subst hyj
    rcases Nat.lt_or_ge j done.size with h' | h'
    · simp [h']
    simp [Array.getElem?_eq_none h'] at hy
  rw [getD_set_ne false hyj]; exact hy
 intro x o ho hx e he hb
 by_cases hxj : j = x
 · subst hxj
   rw [hoj] at ho
   obtain rfl := Option.some.inj ho
   exact up _ (hall e he hb)
 rw [getD_set_ne false hxj] at hx
 exact up _ (h x o ho hx e he hb)
theorem Shut.undone {done : Array Bool} (h : Shut md ops done) {i : Nat} (hi : done.getD i false = false) : ∀ (f x : Nat), waits md ops i f x = true → ∃ o, ops[x]? = some o ∧ ∃ e ∈ o.after, Region.binds md e = true ∧ done.getD e.on false = false
 | 0, x, hx => by simp [waits] at hx
 | f + 1, x, hx => by
  simp only [waits] at hx
  split at hx
  · rename_i o ho
    obtain ⟨k, hk, he⟩ := Array.any_eq_true.1 hx
    simp only [Bool.and_eq_true, Bool.or_eq_true, beq_iff_eq] at he
    refine ⟨o, ho, _, Array.getElem_mem hk, he.1, ?_⟩
    rcases he.2 with h1 | h1
    · rw [h1]; exact hi
    obtain ⟨o2, ho2, e2, he2, hb2, hd2⟩ := Shut.undone h hi f _ h1
    cases hd : done.getD (o.after[k]).on false
    · rfl
    have := h _ o2 ho2 hd e2 he2 hb2
    rw [hd2] at this; cases this
  · cases hx
theorem wpAnyE_first' {i : Nat} {oi : Oper} {v : Value} (hi : ops[i]? = some oi) {f : Nat} (hw : waits md ops i f l = true) (hsel : ∀ (j : Nat) (o : Oper) cs b, ops[j]? = some o → o.op ≠ .select cs b)
 (hQ : ∀ c a w, Q (.panic c) (a.put oi.dst v) w → Q (.panic c) a w) :
 ∀ (fuel : Nat) (done : Array Bool) (a : Act) (w : World),
  (∀ j oj, ops[j]? = some oj → j ≠ i → done.getD j true = false → (∀ e ∈ oj.after, Region.binds md e = true → e.on ≠ i) → oi.apart ops oj = true) →
  Shut md ops done → i ∈ Region.ready md ops done → YieldsIf P ops S oi v a → S w →
  wpAnyE P md ops Q S l fuel (done.setIfInBounds i true) (a.put oi.dst v) w → wpAnyE P md ops Q S l (fuel + 1) done a w := by
 intro fuel
 induction fuel with
 | zero =>
  intro done a w _ _ hr hy hS H
  refine ⟨fun h => (by rw [h] at hr; cases hr), fun j hj => ?_⟩
  by_cases hji : j = i
  · subst hji; exact hy.wpOp hi hS ⟨fun _ => hS, H⟩
  · have := ready_mono hj hji
    rw [H.1] at this
    cases this
 | succ fuel ih =>
  intro done a w hfree hsh hr hy hS H
  refine ⟨fun h => (by rw [h] at hr; cases hr), fun j hj => ?_⟩
  by_cases hji : j = i
  · subst hji; exact hy.wpOp hi hS ⟨fun _ => hS, H⟩
  · have h1 := H.2 j (ready_mono hj hji)
    obtain ⟨hjun, oj, hoj, hjall⟩ := mem_ready.1 hj
    have hnot := ready_of_mem hr hj hoj
    have hjl : j ≠ l := fun e => by
     subst e
     have hi0 : done.getD i false = false := by
      have h0 := (mem_ready.1 hr).1
      rcases Nat.lt_or_ge i done.size with h' | h'
      · simp [h'] at h0 ⊢; exact h0
      simp [Array.getElem?_eq_none h']
     obtain ⟨o2, ho2, e2, he2, hb2, hd2⟩ := hsh.undone hi0 f j hw
     rw [hoj] at ho2
     obtain rfl := Option.some.inj ho2
     have := hjall e2 he2 hb2
     rw [hd2] at this; cases this
    have h2 := wpOp_putIf hoj (hfree j oj hoj hji hjun hnot) (fun cs b => hsel i oi cs b hi) (fun cs b => hsel j oj cs b hoj) hQ hy h1
    refine wpOp_mono (fun a' w' h3 => ?_) h2
    have hS' := h3.2.1 hjl
    refine ⟨fun _ => hS', ih (done.setIfInBounds j true) a' w' (fun k ok hk hki hun hno => hfree k ok hk hki ?_ hno) (hsh.step hj) (ready_mono hr (Ne.symm hji)) h3.1 hS' ?_⟩
    · by_cases hjk : j = k
      · subst hjk; exact hjun
      rw [getD_set_ne true hjk] at hun; exact hun
    rw [Array.setIfInBounds_comm _ _ hji]
    exact h3.2.2
theorem wpAnyE_take' {i : Nat} {oi : Oper} {v : Value} {fuel : Nat} {done : Array Bool} {a : Act} {w : World} (hi : ops[i]? = some oi) (hw : waits md ops i 8 l = true) (hsh : shutB md ops done = true)
 (hs : Region.noSelect ops = true) (hf : Region.free md ops done i = true) (hr : (Region.ready md ops done).contains i = true)
 (hQ : ∀ c a w, Q (.panic c) (a.put oi.dst v) w → Q (.panic c) a w) (hy : YieldsIf P ops S oi v a) (hS : S w)
 (h : wpAnyE P md ops Q S l fuel (done.setIfInBounds i true) (a.put oi.dst v) w) : wpAnyE P md ops Q S l (fuel + 1) done a w :=
 wpAnyE_first' hi hw (Region.noSelect_spec hs) hQ fuel done a w (Region.free_spec hi hf) (shut_of hsh) (by simpa using hr) hy hS h
end
end
section
open Go.RowKit
structure IntsR (R : Nat → Prop) (w : World) (A : Option Addr) (n c : Nat) (zs : List Int) : Prop where
 len : zs.length = n
 few : n ≤ 5864062014805
 mem : 0 < n → ∃ b off, A = some ⟨b, off, none⟩ ∧ R b ∧ ∀ k, k < n → w.cell? ⟨b, off + k, none⟩ = some (.int .i64 (zs.getD k 0))
theorem IntsR.keep {R R' : Nat → Prop} {w w' : World} {A : Option Addr} {n c : Nat} {zs : List Int} (h : IntsR R w A n c zs) (hR : ∀ b, R b → R' b ∧ ∀ o, w'.cell? ⟨b, o, none⟩ = w.cell? ⟨b, o, none⟩) : IntsR R' w' A n c zs := by
 refine ⟨h.len, h.few, fun hn => ?_⟩
 obtain ⟨b, off, e, hb, hk⟩ := h.mem hn
 exact ⟨b, off, e, (hR b hb).1, fun k hkn => by rw [(hR b hb).2]; exact hk k hkn⟩
end
section
open Go.RowKit
section
variable {P : Program} {ops : Array Oper} {Q : Exit → Act → World → Prop} {md : Region.Mode} {S : World → Prop}
theorem tq (i : Nat) {v : Value} {oi : Oper} {fuel : Nat} {listed : Array Bool} {a : Act} {w : World} (hS : S w) (h : wpAnyH P md ops Q S fuel (listed.setIfInBounds i true) (a.put oi.dst v) w)
 (hi : ops[i]? = some oi := by exact rfl) (hy : ∀ w, S w → (execOp a.eval oi).run P w = .ok (.value v) w := by (intro w hSw; (try dsimp only at hSw); go_simp; try with_reducible rfl)) (hs : Region.noSelect ops = true := by kernel_rfl) (hf : Region.free md ops listed i = true := by kernel_rfl) (hr : (Region.ready md ops listed).contains i = true := by kernel_rfl)
 (hQ : ∀ c a w, Q (.panic c) (a.put oi.dst v) w → Q (.panic c) a w := by exact fun _ _ _ h => h) (hw : Region.wanted oi (yielded ops a.tmps) = true := by rfl) : wpAnyH P md ops Q S (fuel + 1) listed a w :=
 wpAnyH_take hi hs hf hr hQ (.inl ⟨hw, hy⟩) hS h
theorem dk (i : Nat) {oi : Oper} {fuel : Nat} {listed : Array Bool} {a : Act} {w : World} (hS : S w) (h : wpAnyH P md ops Q S fuel (listed.setIfInBounds i true) (a.put oi.dst undef) w)
 (hi : ops[i]? = some oi := by exact rfl) (hs : Region.noSelect ops = true := by kernel_rfl) (hf : Region.free md ops listed i = true := by kernel_rfl) (hr : (Region.ready md ops listed).contains i = true := by kernel_rfl)
 (hQ : ∀ c a w, Q (.panic c) (a.put oi.dst undef) w → Q (.panic c) a w := by exact fun _ _ _ h => h) (hw : Region.wanted oi (yielded ops a.tmps) = false := by rfl) : wpAnyH P md ops Q S (fuel + 1) listed a w :=
 wpAnyH_take hi hs hf hr hQ (.inr ⟨hw, rfl⟩) hS h
end
end
section
open Go.RowKit Go.Lib
variable {P : Program} {ops : Array Oper} {Q : Exit → Act → World → Prop} {md : Region.Mode} {S : World → Prop}
theorem r1 (i : Nat) {o : Oper} {fuel : Nat} {listed : Array Bool} {a : Act} {w : World}
 (h : ∀ K' : Act → World → Prop, Go.Shut (∀ a w, S w → (S w → wpAnyH P md ops Q S fuel (listed.setIfInBounds i true) a w) → K' a w) → if Region.wanted o (yielded ops a.tmps) = true then Oper.wp P o a w K' Q else K' (a.put o.dst undef) w)
 (hr : Region.ready md ops listed = [i] := by kernel_rfl) (ho : ops[i]? = some o := by exact rfl) : wpAnyH P md ops Q S (fuel + 1) listed a w :=
 wpAnyH_ready hr (by simp) (AllReadyH.cons ho h AllReadyH.nil)
theorem r2 (i j : Nat) {o o' : Oper} {fuel : Nat} {listed : Array Bool} {a : Act} {w : World}
 (h : ∀ K' : Act → World → Prop, Go.Shut (∀ a w, S w → (S w → wpAnyH P md ops Q S fuel (listed.setIfInBounds i true) a w) → K' a w) → if Region.wanted o (yielded ops a.tmps) = true then Oper.wp P o a w K' Q else K' (a.put o.dst undef) w)
 (h' : ∀ K' : Act → World → Prop, Go.Shut (∀ a w, S w → (S w → wpAnyH P md ops Q S fuel (listed.setIfInBounds j true) a w) → K' a w) → if Region.wanted o' (yielded ops a.tmps) = true then Oper.wp P o' a w K' Q else K' (a.put o'.dst undef) w)
 (hr : Region.ready md ops listed = [i, j] := by kernel_rfl) (ho : ops[i]? = some o := by exact rfl) (ho' : ops[j]? = some o' := by exact rfl) : wpAnyH P md ops Q S (fuel + 1) listed a w :=
 wpAnyH_ready hr (by simp) (AllReadyH.cons ho h (AllReadyH.cons ho' h' AllReadyH.nil))
theorem bto {w w1 w2 : World} (h : RowKit.Hid (Below w.heap.size w w1)) (h2 : Below w1.heap.size w1 w2) : RowKit.Hid (Below w.heap.size w w2) := hid (h.out.trans (h2.mono h.out.size))
theorem bko {w w1 : World} {g : Nat} {t : TypeId} {cs : Array Value} (h : RowKit.Hid (Blk w g t cs)) (h2 : Below w.heap.size w w1) : RowKit.Hid (Blk w1 g t cs) := hid (Blk.below h.out h2 h.out.lt)
end
end Go.Proofs.Ytjoddliplahgkaa
