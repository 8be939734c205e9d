/- Terms as forests: how a row of nodes is read into a forest, in plain Lean. No program. -/
import Derived.Test.YtnmeglbamfjcgaaMem
namespace Go.Proofs.Ytnmeglbamfjcgaa

def plainB (op a b : Int) : Bool :=
  if op = 1 then decide (0 ≤ a ∧ a ≤ 1048576 ∧ b = 0)
  else if op = 2 then decide ((a = 0 ∨ a = 1) ∧ 1 ≤ b ∧ b ≤ 4)
  else if op = 3 then decide (0 ≤ a ∧ a ≤ 16 ∧ 0 ≤ b ∧ b ≤ 1000)
  else if op = 4 then decide (a = 0 ∧ b = 0)
  else if op = 5 then decide (a = 0 ∧ b = 0)
  else if op = 6 then decide (a = 0 ∧ b = 0)
  else if op = 7 then decide (a = 0 ∧ b = 0)
  else if op = 8 then decide (0 ≤ a ∧ a < 64 ∧ b = 0)
  else if op = 9 then decide (0 ≤ a ∧ a < 64 ∧ b = 0)
  else if op = 10 then decide (0 ≤ a ∧ a < 64 ∧ 0 ≤ b ∧ b < 16)
  else if op = 11 then decide (0 ≤ a ∧ a < 64 ∧ 0 ≤ b ∧ b ≤ 16)
  else if op = 12 then decide (1 ≤ b ∧ b ≤ 4 ∧ 0 ≤ a ∧ a < b)
  else if op = 13 then decide (0 ≤ a ∧ a < 16 ∧ b = 0)
  else false

def kidsI (op b : Int) : Int := if op = 4 then 2 else if op = 5 then 2 else if op = 6 then 2 else if op = 13 then 2 else if op = 7 then 3 else if op = 11 then 2 + b else if op = 12 then b else 0
def bindersI (op k : Int) : Int := if (op = 4 ∨ op = 5) ∧ k = 1 ∨ op = 7 ∧ k = 2 then 1 else 0
def aroundI (op b k : Int) : Int := if (op = 4 ∨ op = 5) ∧ k = 1 ∨ op = 7 ∧ k = 2 then 1 else if op = 12 ∧ k % 2 = 1 then b else 0

theorem ite_iff_aux {c : Prop} [Decidable c] {x y : Bool} {q : Prop} (h1 : c → (x = true ↔ q)) (h2 : ¬ c → (y = true ↔ q)) : (if c then x else y) = true ↔ q := by
  split
  · exact h1 ‹_›
  · exact h2 ‹_›

def okN (n : Nd) : Bool := plainB n.op n.a n.b && decide (n.op ≠ 3) && decide (n.op ≠ 13)
def okF (n : Nd) : Bool := plainB n.op n.a n.b && decide (n.op = 13)

theorem plainB_iff {op a b : Int} : plainB op a b = true ↔ (op = 1 ∧ 0 ≤ a ∧ a ≤ 1048576 ∧ b = 0) ∨ (op = 2 ∧ (a = 0 ∨ a = 1) ∧ 1 ≤ b ∧ b ≤ 4) ∨ (op = 3 ∧ 0 ≤ a ∧ a ≤ 16 ∧ 0 ≤ b ∧ b ≤ 1000) ∨
    ((op = 4 ∨ op = 5 ∨ op = 6 ∨ op = 7) ∧ a = 0 ∧ b = 0) ∨ ((op = 8 ∨ op = 9) ∧ 0 ≤ a ∧ a < 64 ∧ b = 0) ∨ (op = 10 ∧ 0 ≤ a ∧ a < 64 ∧ 0 ≤ b ∧ b < 16) ∨ (op = 11 ∧ 0 ≤ a ∧ a < 64 ∧ 0 ≤ b ∧ b ≤ 16) ∨
    (op = 12 ∧ 1 ≤ b ∧ b ≤ 4 ∧ 0 ≤ a ∧ a < b) ∨ (op = 13 ∧ 0 ≤ a ∧ a < 16 ∧ b = 0) := by
  unfold plainB
  iterate 13
    refine ite_iff_aux ?_ ?_ <;> intro _
    · subst_vars; rw [decide_eq_true_eq]; simp
  constructor
  · intro h; cases h
  · intro h; omega
theorem plainB_b {op a b : Int} (h : plainB op a b = true) : 0 ≤ b ∧ b ≤ 1000 := by
  rw [plainB_iff] at h; omega
theorem plainB_op {op a b : Int} (h : plainB op a b = true) : 1 ≤ op ∧ op ≤ 13 := by
  rw [plainB_iff] at h; omega
theorem plainB_a {op a b : Int} (h : plainB op a b = true) : 0 ≤ a ∧ a ≤ 1048576 := by
  rw [plainB_iff] at h; omega
theorem kidsI_bd {op a b : Int} (h : plainB op a b = true) : 0 ≤ kidsI op b ∧ kidsI op b ≤ 18 := by
  rw [plainB_iff] at h
  simp only [kidsI]
  repeat' split
  all_goals omega

/-- The kids of a node: is a node OpFun ahead of the kid? -/
def ds (n : Nd) : List Bool := if n.op = 12 then (List.replicate n.b.toNat [true, false]).flatten else List.replicate (kidsI n.op n.b).toNat false

inductive Fo where
  | nil
  | cons (pre : List Nd) (n : Nd) (atoms : List Nd) (kids next : Fo)

def takeAtoms : Nat → Int → List Nd → Option (List Nd × List Nd)
  | 0, _, l => some ([], l)
  | _ + 1, _, [] => none
  | k + 1, last, x :: l => if x.op = 3 ∧ plainB x.op x.a x.b = true ∧ last < x.a then (takeAtoms k x.a l).map fun p => (x :: p.1, p.2) else none

def preOf : Bool → List Nd → Option (List Nd × List Nd)
  | false, l => some ([], l)
  | true, [] => none
  | true, x :: l => if okF x then some ([x], l) else none

def atomsOf (n : Nd) (l : List Nd) : Option (List Nd × List Nd) := if n.op = 2 then takeAtoms n.b.toNat (-1) l else some ([], l)

def pars : Nat → List Bool → List Nd → Option (Fo × List Nd)
  | 0, _, _ => none
  | _ + 1, [], l => some (.nil, l)
  | f + 1, d :: dr, l =>
    (preOf d l).bind fun p => match p.2 with
      | [] => none
      | n :: l2 => if okN n then
          (atomsOf n l2).bind fun q => (pars f (ds n) q.2).bind fun k => (pars f dr k.2).bind fun x => some (.cons p.1 n q.1 k.1 x.1, x.2)
        else none

theorem takeAtoms_len : ∀ (k : Nat) (last : Int) (l : List Nd) (p : List Nd × List Nd), takeAtoms k last l = some p → l = p.1 ++ p.2 ∧ p.1.length = k
  | 0, _, l, p, h => by simp only [takeAtoms, Option.some.injEq] at h; subst h; simp
  | k + 1, _, [], p, h => by simp [takeAtoms] at h
  | k + 1, last, x :: l, p, h => by
    simp only [takeAtoms] at h
    split at h
    · simp only [Option.map_eq_some_iff] at h
      obtain ⟨q, hq, rfl⟩ := h
      obtain ⟨h1, h2⟩ := takeAtoms_len k x.a l q hq
      simp [← h1, h2]
    · cases h

theorem preOf_app {d : Bool} {l : List Nd} {p : List Nd × List Nd} (h : preOf d l = some p) : l = p.1 ++ p.2 := by
  cases d with
  | false => simp only [preOf, Option.some.injEq] at h; subst h; simp
  | true =>
    cases l with
    | nil => simp [preOf] at h
    | cons x l =>
      simp only [preOf] at h
      split at h
      · simp only [Option.some.injEq] at h; subst h; simp
      · cases h

theorem atomsOf_app {n : Nd} {l : List Nd} {p : List Nd × List Nd} (h : atomsOf n l = some p) : l = p.1 ++ p.2 := by
  simp only [atomsOf] at h
  split at h
  · exact (takeAtoms_len _ _ _ _ h).1
  · simp only [Option.some.injEq] at h; subst h; simp

/-- The row of a forest. -/
def row : Fo → List Nd
  | .nil => []
  | .cons pre n atoms kids next => pre ++ n :: (atoms ++ (row kids ++ row next))

theorem pars_row : ∀ (f : Nat) (dl : List Bool) (l : List Nd) (x : Fo × List Nd), pars f dl l = some x → l = row x.1 ++ x.2 ∧ (dl ≠ [] → x.2.length < l.length)
  | 0, _, _, _, h => by simp [pars] at h
  | _ + 1, [], l, x, h => by simp only [pars, Option.some.injEq] at h; subst h; simp [row]
  | f + 1, d :: dr, l, x, h => by
    simp only [pars, Option.bind_eq_some_iff] at h
    obtain ⟨p, hp, h⟩ := h
    have e1 := preOf_app hp
    split at h
    · cases h
    · rename_i n l2 hl2
      split at h
      · simp only [Option.bind_eq_some_iff] at h
        obtain ⟨q, hq, k, hk, y, hy, h⟩ := h
        simp only [Option.some.injEq] at h
        subst h
        have e2 := atomsOf_app hq
        obtain ⟨e3, _⟩ := pars_row f _ _ _ hk
        obtain ⟨e4, _⟩ := pars_row f _ _ _ hy
        have e : l = p.1 ++ n :: (q.1 ++ (row k.1 ++ (row y.1 ++ y.2))) := by rw [e1, hl2, e2, e3, e4]
        refine ⟨by rw [e]; simp [row], fun _ => ?_⟩
        rw [e]
        simp
        omega
      · cases h

theorem pars_fuel : ∀ (f g : Nat) (dl : List Bool) (l : List Nd), l.length < f → l.length < g → pars f dl l = pars g dl l
  | 0, _, _, _, h, _ => absurd h (by omega)
  | _, 0, _, _, _, h => absurd h (by omega)
  | f + 1, g + 1, [], l, _, _ => by simp [pars]
  | f + 1, g + 1, d :: dr, l, hf, hg => by
    simp only [pars]
    refine Option.bind_congr fun p hp => ?_
    have e1 := preOf_app hp
    split
    · rfl
    · rename_i n l2 hl2
      split
      · refine Option.bind_congr fun q hq => ?_
        have e2 := atomsOf_app hq
        have hlen : q.2.length < l.length := by rw [e1, hl2, e2]; simp; omega
        rw [pars_fuel f g (ds n) q.2 (by omega) (by omega)]
        refine Option.bind_congr fun k hk => ?_
        have e3 := (pars_row _ _ _ _ hk).1
        have hlen2 : k.2.length ≤ q.2.length := by rw [e3]; simp
        rw [pars_fuel f g dr k.2 (by omega) (by omega)]
      · rfl

/-- The forest at the beginning of a row. -/
def pp (dl : List Bool) (l : List Nd) : Option (Fo × List Nd) := pars (l.length + 1) dl l

theorem pp_nil (l : List Nd) : pp [] l = some (.nil, l) := by simp [pp, pars]
theorem pp_cons (d : Bool) (dr : List Bool) (l : List Nd) : pp (d :: dr) l =
    (preOf d l).bind fun p => match p.2 with
      | [] => none
      | n :: l2 => if okN n then
          (atomsOf n l2).bind fun q => (pp (ds n) q.2).bind fun k => (pp dr k.2).bind fun x => some (.cons p.1 n q.1 k.1 x.1, x.2)
        else none := by
  simp only [pp, pars]
  refine Option.bind_congr fun p hp => ?_
  have e1 := preOf_app hp
  split
  · rfl
  · rename_i n l2 hl2
    split
    · refine Option.bind_congr fun q hq => ?_
      have e2 := atomsOf_app hq
      have hlen : q.2.length < l.length := by rw [e1, hl2, e2]; simp; omega
      rw [pars_fuel l.length (q.2.length + 1) (ds n) q.2 (by omega) (by omega)]
      refine Option.bind_congr fun k hk => ?_
      have e3 := (pars_row _ _ _ _ hk).1
      have hlen2 : k.2.length ≤ q.2.length := by rw [e3]; simp
      rw [pars_fuel l.length (k.2.length + 1) dr k.2 (by omega) (by omega)]
    · rfl
theorem pp_row {dl : List Bool} {l : List Nd} {x : Fo × List Nd} (h : pp dl l = some x) : l = row x.1 ++ x.2 := (pars_row _ _ _ _ h).1
theorem pp_lt {dl : List Bool} {l : List Nd} {x : Fo × List Nd} (h : pp dl l = some x) (hd : dl ≠ []) : x.2.length < l.length := (pars_row _ _ _ _ h).2 hd

def Fo.app : Fo → Fo → Fo
  | .nil, g => g
  | .cons p n a k x, g => .cons p n a k (x.app g)

theorem pp_append : ∀ (d1 d2 : List Bool) (l : List Nd), pp (d1 ++ d2) l = (pp d1 l).bind fun x => (pp d2 x.2).map fun y => (x.1.app y.1, y.2)
  | [], d2, l => by simp [pp_nil, Fo.app]
  | d :: d1, d2, l => by
    rw [List.cons_append, pp_cons, pp_cons]
    simp only [Option.bind_assoc]
    refine Option.bind_congr fun p hp => ?_
    split
    · rfl
    · split
      · simp only [Option.bind_assoc]
        refine Option.bind_congr fun q hq => ?_
        refine Option.bind_congr fun k hk => ?_
        rw [pp_append d1 d2 k.2]
        simp only [Option.bind_assoc]
        refine Option.bind_congr fun x hx => ?_
        cases hy : pp d2 x.2 <;> simp [Fo.app, hy]
      · rfl

/-- Where the forest ends that begins at a place. -/
def ends (dl : List Bool) (t : List Nd) (p : Nat) : Option Nat := (pp dl (t.drop p)).map fun x => t.length - x.2.length

theorem pp_drop {dl : List Bool} {t : List Nd} {p : Nat} {x : Fo × List Nd} (h : pp dl (t.drop p) = some x) (hp : p ≤ t.length) : x.2 = t.drop (t.length - x.2.length) ∧ p ≤ t.length - x.2.length ∧ x.2.length ≤ t.length - p := by
  have e := pp_row h
  have hl := congrArg List.length e
  rw [List.length_drop, List.length_append] at hl
  refine ⟨?_, by omega, by omega⟩
  have : t.drop (p + (row x.1).length) = x.2 := by rw [← List.drop_drop, e, List.drop_left]
  rw [show t.length - x.2.length = p + (row x.1).length from by omega, this]

theorem ends_nil {t : List Nd} {p : Nat} (hp : p ≤ t.length) : ends [] t p = some p := by
  simp only [ends, pp_nil, Option.map_some, List.length_drop, Option.some.injEq]; omega
theorem ends_append (d1 d2 : List Bool) {t : List Nd} {p : Nat} (hp : p ≤ t.length) : ends (d1 ++ d2) t p = (ends d1 t p).bind (ends d2 t) := by
  unfold ends
  rw [pp_append, Option.map_bind, Option.bind_map]
  refine Option.bind_congr fun x hx => ?_
  obtain ⟨e, _, _⟩ := pp_drop hx hp
  simp only [Function.comp]
  rw [← e, Option.map_map]
  rfl
theorem ends_cons (d : Bool) (dr : List Bool) {t : List Nd} {p : Nat} (hp : p ≤ t.length) : ends (d :: dr) t p = (ends [d] t p).bind (ends dr t) := ends_append [d] dr hp
theorem ends_bd {dl : List Bool} {t : List Nd} {p q : Nat} (h : ends dl t p = some q) (hp : p ≤ t.length) : p ≤ q ∧ q ≤ t.length ∧ (dl ≠ [] → p < q) := by
  simp only [ends, Option.map_eq_some_iff] at h
  obtain ⟨x, hx, rfl⟩ := h
  obtain ⟨_, h1, h2⟩ := pp_drop hx hp
  refine ⟨h1, by omega, fun hd => ?_⟩
  have := pp_lt hx hd
  rw [List.length_drop] at this
  omega
theorem ends_out (d : Bool) (dr : List Bool) {t : List Nd} {p : Nat} (hp : t.length ≤ p) : ends (d :: dr) t p = none := by
  simp only [ends]
  rw [List.drop_eq_nil_of_le hp, pp_cons]
  cases d <;> simp [preOf]
theorem ends_fun (dr : List Bool) {t : List Nd} {p : Nat} (hp : p < t.length) : ends (true :: dr) t p = if okF (nth t p) then ends (false :: dr) t (p + 1) else none := by
  simp only [ends]
  rw [drop_nth hp, pp_cons, pp_cons]
  simp only [preOf]
  by_cases h : okF (nth t p) = true
  · simp only [h, if_true, Option.bind_some]
    split
    · rfl
    · split
      · simp only [Option.map_bind]
        refine Option.bind_congr fun q hq => ?_
        simp only [Option.map_bind, Function.comp]
        refine Option.bind_congr fun k hk => ?_
        simp only [Option.map_bind, Function.comp]
        refine Option.bind_congr fun x hx => ?_
        rfl
      · rfl
  · simp [h]
/-- Where the atoms end. -/
def atEnds : Nat → Int → List Nd → Nat → Option Nat
  | 0, _, _, p => some p
  | k + 1, last, t, p => if p < t.length ∧ (nth t p).op = 3 ∧ plainB (nth t p).op (nth t p).a (nth t p).b = true ∧ last < (nth t p).a then atEnds k (nth t p).a t (p + 1) else none
theorem atEnds_eq : ∀ (k : Nat) (last : Int) (t : List Nd) (p : Nat), p ≤ t.length → (takeAtoms k last (t.drop p)).map (fun x => t.length - x.2.length) = atEnds k last t p
  | 0, _, t, p, hp => by simp only [takeAtoms, atEnds, Option.map_some, List.length_drop, Option.some.injEq]; omega
  | k + 1, last, t, p, hp => by
    by_cases h : p < t.length
    · rw [drop_nth h]
      simp only [takeAtoms, atEnds, h, true_and]
      split
      · rw [← atEnds_eq k (nth t p).a t (p + 1) h, Option.map_map]; rfl
      · rfl
    · rw [List.drop_eq_nil_of_le (by omega)]
      simp [takeAtoms, atEnds, h]
theorem atEnds_bd : ∀ (k : Nat) (last : Int) (t : List Nd) (p q : Nat), atEnds k last t p = some q → p ≤ t.length → q ≤ t.length ∧ p ≤ q
  | 0, _, _, p, q, h, hp => by simp only [atEnds, Option.some.injEq] at h; omega
  | k + 1, last, t, p, q, h, hp => by
    simp only [atEnds] at h
    split at h
    · have := atEnds_bd k _ t (p + 1) q h (by omega); omega
    · cases h
theorem ends_one {t : List Nd} {p : Nat} (hp : p < t.length) : ends [false] t p = if okN (nth t p) then (if (nth t p).op = 2 then atEnds (nth t p).b.toNat (-1) t (p + 1) else ends (ds (nth t p)) t (p + 1)) else none := by
  simp only [ends]
  rw [drop_nth hp, pp_cons]
  simp only [preOf, Option.bind_some]
  split
  · simp only [atomsOf]
    split
    · rename_i h2
      have hd : ds (nth t p) = [] := by simp [ds, h2, kidsI]
      rw [← atEnds_eq _ _ _ _ hp, hd]
      cases takeAtoms (nth t p).b.toNat (-1) (t.drop (p + 1)) <;> simp [pp_nil]
    · simp only [Option.bind_some, pp_nil, Option.map_bind]
      cases pp (ds (nth t p)) (t.drop (p + 1)) <;> simp
  · rfl

def endI (t : List Nd) (at_ : Int) : Int := if 0 ≤ at_ ∧ at_ < t.length then (match ends [false] t at_.toNat with | some q => (q : Int) | none => -1) else -1
def optI : Option Nat → Int
  | some q => q
  | none => -1
theorem endI_nat (t : List Nd) (p : Nat) : endI t p = optI (ends [false] t p) := by
  simp only [endI]
  split
  · rw [Int.toNat_natCast]; cases ends [false] t p <;> rfl
  · rw [ends_out _ _ (by omega)]; rfl

/-- What is still to come of a node's kids behind i rounds. -/
def remd (n : Nd) (i : Nat) : List Bool := if n.op = 12 then (List.replicate (n.b.toNat - i) [true, false]).flatten else List.replicate ((kidsI n.op n.b).toNat - i) false
theorem remd_zero (n : Nd) : remd n 0 = ds n := by simp [remd, ds]
theorem remd_end (n : Nd) {i : Nat} (h : kidsI n.op n.b ≤ i) : remd n i = [] := by
  simp only [remd]
  split
  · rename_i h12
    have : n.b.toNat - i = 0 := by simp [kidsI, h12] at h; omega
    simp [this]
  · have : (kidsI n.op n.b).toNat - i = 0 := by omega
    simp [this]
theorem remd_fix {n : Nd} {i : Nat} (h : n.op = 12) (hi : (i : Int) < n.b) : remd n i = true :: false :: remd n (i + 1) := by
  simp only [remd, h, if_true]
  rw [show n.b.toNat - i = (n.b.toNat - (i + 1)) + 1 from by omega, List.replicate_succ]
  rfl
theorem remd_one {n : Nd} {i : Nat} (h : n.op ≠ 12) (hi : (i : Int) < kidsI n.op n.b) : remd n i = false :: remd n (i + 1) := by
  simp only [remd, h, if_false]
  rw [show (kidsI n.op n.b).toNat - i = ((kidsI n.op n.b).toNat - (i + 1)) + 1 from by omega, List.replicate_succ]

theorem takeAtoms_step {l : List Nd} {p m : Nat} {last : Int} (hp : p < l.length) (h3 : (nth l p).op = 3) (hpl : plainB (nth l p).op (nth l p).a (nth l p).b = true) (hl : last < (nth l p).a) :
    takeAtoms (m + 1) last (l.drop p) = (takeAtoms m (nth l p).a (l.drop (p + 1))).map fun q => (nth l p :: q.1, q.2) := by
  rw [drop_nth hp]; simp only [takeAtoms, h3, true_and]; rw [if_pos ⟨by rw [← h3]; exact hpl, hl⟩]
theorem takeAtoms_fail {l : List Nd} {p m : Nat} {last : Int} (h : p < l.length → (nth l p).op = 3 → plainB (nth l p).op (nth l p).a (nth l p).b = true → last < (nth l p).a → False) :
    takeAtoms (m + 1) last (l.drop p) = none := by
  by_cases hp : p < l.length
  · rw [drop_nth hp]; simp only [takeAtoms]; rw [if_neg (fun hh => h hp hh.1 hh.2.1 hh.2.2)]
  · rw [List.drop_eq_nil_of_le (by omega)]; rfl
theorem pp_sort {l : List Nd} (hp : 0 < l.length) (hok : okN (nth l 0) = true) (h2 : (nth l 0).op = 2) :
    pp [false] l = (takeAtoms (nth l 0).b.toNat (-1) (l.drop 1)).map fun q => (.cons [] (nth l 0) q.1 .nil .nil, q.2) := by
  cases l with
  | nil => simp at hp
  | cons n m =>
    have e : nth (n :: m) 0 = n := rfl
    rw [e] at hok h2 ⊢
    have hd : ds n = [] := by simp [ds, h2, kidsI]
    rw [pp_cons]
    simp only [preOf, Option.bind_some, hok, if_true, atomsOf, h2, hd, List.drop_one, List.tail_cons, pp_nil]
    cases takeAtoms n.b.toNat (-1) m <;> rfl
theorem pp_bad {l : List Nd} (d : List Bool) (h : 0 < l.length → okN (nth l 0) = false) : pp (false :: d) l = none := by
  cases l with
  | nil => simp [pp_cons, preOf]
  | cons n l =>
    have : okN n = false := h (by simp)
    simp [pp_cons, preOf, this]

def nkI (op b : Int) : Int := if op = 4 then 2 else if op = 5 then 2 else if op = 6 then 2 else if op = 7 then 3 else if op = 11 then 2 + b else if op = 12 then 2 * b else 0
theorem nkI_bd {n : Nd} (h : okN n = true) : 0 ≤ nkI n.op n.b ∧ nkI n.op n.b ≤ 18 := by
  simp only [okN, Bool.and_eq_true, decide_eq_true_eq] at h
  have h1 := h.1.1
  rw [plainB_iff] at h1
  simp only [nkI]
  repeat' split
  all_goals omega
theorem ds_len {n : Nd} (h : okN n = true) : (ds n).length = (nkI n.op n.b).toNat := by
  simp only [okN, Bool.and_eq_true, decide_eq_true_eq] at h
  have h1 := plainB_b h.1.1
  simp only [ds]
  split
  · rename_i h12
    simp [nkI, h12, List.length_flatten]
    omega
  · rename_i h12
    rw [List.length_replicate]
    simp only [kidsI, nkI]
    repeat' split
    all_goals first | rfl | omega
theorem flat_rep_drop : ∀ (m i : Nat), i < 2 * m → ((List.replicate m [true, false]).flatten).drop i = decide (i % 2 = 0) :: ((List.replicate m [true, false]).flatten).drop (i + 1)
  | 0, i, h => absurd h (by omega)
  | m + 1, 0, _ => by simp [List.replicate_succ]
  | m + 1, 1, _ => by simp [List.replicate_succ]
  | m + 1, i + 2, h => by
    have := flat_rep_drop m i (by omega)
    simp only [List.replicate_succ, List.flatten_cons, List.cons_append, List.nil_append, List.drop_succ_cons]
    rw [this, show (i + 2) % 2 = i % 2 from by omega]
theorem ds_drop {n : Nd} {i : Nat} (h : i < (ds n).length) : (ds n).drop i = decide (n.op = 12 ∧ i % 2 = 0) :: (ds n).drop (i + 1) := by
  by_cases h12 : n.op = 12
  · have e : ds n = (List.replicate n.b.toNat [true, false]).flatten := by simp [ds, h12]
    rw [e] at h ⊢
    rw [flat_rep_drop _ _ (by simpa [List.length_flatten, Nat.mul_comm] using h)]
    simp [h12]
  · have e : ds n = List.replicate (kidsI n.op n.b).toNat false := by simp [ds, h12]
    rw [e] at h ⊢
    rw [List.length_replicate] at h
    simp only [List.drop_replicate, h12, false_and, decide_false]
    rw [show (kidsI n.op n.b).toNat - i = ((kidsI n.op n.b).toNat - (i + 1)) + 1 from by omega, List.replicate_succ]
def Fo.setPre (p : List Nd) : Fo → Fo
  | .nil => .nil
  | .cons _ n a k x => .cons p n a k x
theorem pp_one {l : List Nd} {x : Fo × List Nd} (h : pp [false] l = some x) : ∃ n a k, x.1 = .cons [] n a k .nil := by
  rw [pp_cons] at h
  simp only [preOf, Option.bind_some] at h
  split at h
  · cases h
  · split at h
    · simp only [Option.bind_eq_some_iff, pp_nil, Option.some.injEq] at h
      obtain ⟨q, _, k, _, y, rfl, rfl⟩ := h
      exact ⟨_, _, _, rfl⟩
    · cases h
theorem pp_false (dr : List Bool) (l : List Nd) : pp (false :: dr) l = (pp [false] l).bind fun x => (pp dr x.2).map fun y => (x.1.app y.1, y.2) := pp_append [false] dr l
theorem pp_true (dr : List Bool) (f : Nd) (l : List Nd) : pp (true :: dr) (f :: l) = if okF f then (pp [false] l).bind fun x => (pp dr x.2).map fun y => ((x.1.setPre [f]).app y.1, y.2) else none := by
  rw [pp_cons, pp_cons]
  simp only [preOf]
  by_cases h : okF f = true
  · simp only [h, if_true, Option.bind_some]
    split
    · rfl
    · split
      · simp only [Option.bind_assoc, pp_nil, Option.bind_some, Fo.setPre]
        refine Option.bind_congr fun q hq => ?_
        refine Option.bind_congr fun k hk => ?_
        cases pp dr k.2 <;> rfl
      · rfl
  · simp [h]
theorem pp_node {l : List Nd} (hp : 0 < l.length) (hok : okN (nth l 0) = true) (h2 : (nth l 0).op ≠ 2) :
    pp [false] l = (pp (ds (nth l 0)) (l.drop 1)).map fun q => (.cons [] (nth l 0) [] q.1 .nil, q.2) := by
  cases l with
  | nil => simp at hp
  | cons n m =>
    have e : nth (n :: m) 0 = n := rfl
    rw [e] at hok h2 ⊢
    rw [pp_cons]
    simp only [preOf, Option.bind_some, hok, if_true, atomsOf, if_neg h2, List.drop_one, List.tail_cons, pp_nil]
    cases pp (ds n) m <;> rfl

end Go.Proofs.Ytnmeglbamfjcgaa
