/- Merged: Head, Less, FineP, Fine, Branch, Taken, Body, Kid. -/
import Derived.Test.YtjllmblbbgojbaaUEnds
import Derived.Test.YtjllmblbbgojbaaULeafs
import Derived.Test.YtjllmblbbgojbaaUBase
namespace Go.Proofs.Ytjllmblbbgojbaa
section
open Go.RowKit
abbrev TT := Nd × List Nd × Fo
def rowT (x : TT) : List Nd := x.1 :: (x.2.1 ++ row x.2.2)
def RtX (x : TT) : Prop := Rt (rowT x) x.1 x.2.1 x.2.2
def hd : Nat → TT → TT × List TT
 | m + 1, (n, a, .cons p n1 a1 k1 (.cons q n2 a2 k2 r)) => if n.op = 6 then ((hd m (n1, a1, k1)).1, (hd m (n1, a1, k1)).2 ++ [(n2, a2, k2)]) else ((n, a, .cons p n1 a1 k1 (.cons q n2 a2 k2 r)), [])
 | _, x => (x, [])
theorem hd_stop {m : Nat} {x : TT} (h : x.1.op ≠ 6) : hd m x = (x, []) := by
 obtain ⟨n, a, k⟩ := x
 cases m with
 | zero => rfl
 | succ m =>
  match k with
  | .nil => rfl
  | .cons _ _ _ _ .nil => rfl
  | .cons _ n1 a1 k1 (.cons _ n2 a2 k2 x) => simp only [hd]; rw [if_neg h]
theorem hd_app {m : Nat} {n n1 n2 : Nd} {a a1 a2 : List Nd} {k1 k2 : Fo} (h : n.op = 6) : hd (m + 1) (n, a, .cons [] n1 a1 k1 (.cons [] n2 a2 k2 .nil)) = ((hd m (n1, a1, k1)).1, (hd m (n1, a1, k1)).2 ++ [(n2, a2, k2)]) := by
 simp only [hd]
 rw [if_pos h]
theorem hd_right : ∀ (m : Nat) (x : TT), RtX x → (rowT x).length ≤ m → RtX (hd m x).1 ∧ (hd m x).1.1.op ≠ 6 ∧ (rowT (hd m x).1).length ≤ (rowT x).length ∧ (∀ y ∈ (hd m x).2, RtX y ∧ (rowT y).length < (rowT x).length) ∧ ((hd m x).2 ≠ [] → (rowT (hd m x).1).length < (rowT x).length)
 | 0, x, _, hl => by simp [rowT] at hl
 | m + 1, (n, a, k), h, hl => by
  by_cases h6 : n.op = 6
  · obtain ⟨n1, a1, k1, n2, a2, k2, rfl, hs⟩ := app_split h h6
    rw [hd_app h6]
    have hr := congrArg List.length hs.eq
    simp only [rowT, List.length_cons, List.length_append] at hr hl
    obtain ⟨e1, e2, e3, e4, e5⟩ := hd_right m (n1, a1, k1) hs.fst (by simp only [rowT, List.length_cons, List.length_append]; omega)
    simp only [rowT, List.length_cons, List.length_append] at e3 e4 e5 ⊢
    refine ⟨e1, e2, by omega, fun y hy => ?_, fun _ => by omega⟩
    rcases List.mem_append.1 hy with hy | hy
    · have := e4 y hy
      exact ⟨this.1, by omega⟩
    rw [List.mem_singleton] at hy
    subst hy
    exact ⟨hs.snd, by simp only; omega⟩
  · rw [hd_stop (x := (n, a, k)) h6]
    exact ⟨h, h6, Nat.le_refl _, fun y hy => (by cases hy), fun e => absurd rfl e⟩
def PcsC (w : World) : List Value → List TT → Prop
 | [], [] => True
 | v :: vs, x :: xs => (∃ A n c, v = .slice A n c ∧ ∀ w', Below w.heap.size w w' → TermV w' A n c (rowT x)) ∧ PcsC w vs xs
 | _, _ => False
theorem PcsC.len {w : World} : ∀ {vs : List Value} {xs : List TT}, PcsC w vs xs → vs.length = xs.length
 | [], [], _ => rfl
 | [], _ :: _, h => h.elim
 | _ :: _, [], h => h.elim
 | v :: vs, x :: xs, h => by simp [PcsC.len h.2]
theorem PcsC.add {w : World} {A : Option Addr} {n c : Nat} {y : TT} (ht : ∀ w', Below w.heap.size w w' → TermV w' A n c (rowT y)) : ∀ {vs : List Value} {xs : List TT}, PcsC w vs xs → PcsC w (vs ++ [.slice A n c]) (xs ++ [y])
 | [], [], _ => ⟨⟨A, n, c, rfl, ht⟩, trivial⟩
 | [], _ :: _, h => h.elim
 | _ :: _, [], h => h.elim
 | _ :: _, _ :: _, h => ⟨h.1, h.2.add ht⟩
theorem PcsC.rev {w : World} : ∀ {vs : List Value} {xs : List TT}, PcsC w vs xs → PcsC w vs.reverse xs.reverse
 | [], [], _ => trivial
 | [], _ :: _, h => h.elim
 | _ :: _, [], h => h.elim
 | v :: vs, x :: xs, h => by
  obtain ⟨⟨A, n, c, rfl, ht⟩, h2⟩ := h
  rw [List.reverse_cons, List.reverse_cons]
  exact PcsC.add ht h2.rev
theorem PcsC.slices {w : World} : ∀ {vs : List Value} {xs : List TT}, PcsC w vs xs → ∀ v ∈ vs, ∃ A n c, v = .slice A n c
 | [], [], _ => fun v hv => by cases hv
 | [], _ :: _, h => h.elim
 | _ :: _, [], h => h.elim
 | v :: vs, x :: xs, h => fun y hy => by
  obtain ⟨⟨A, n, c, e, _⟩, h2⟩ := h
  rcases List.mem_cons.1 hy with rfl | hy
  · exact ⟨A, n, c, e⟩
  · exact PcsC.slices h2 y hy
theorem PcsC.at_ {w : World} : ∀ {vs : List Value} {xs : List TT} (k : Nat), PcsC w vs xs → (hk : k < xs.length) → ∃ A n c, vs[k]? = some (.slice A n c) ∧ ∀ w', Below w.heap.size w w' → TermV w' A n c (rowT xs[k])
 | [], [], _, _, hk => absurd hk (by simp)
 | [], _ :: _, _, h, _ => h.elim
 | _ :: _, [], _, h, _ => h.elim
 | v :: vs, x :: xs, 0, h, _ => by
  obtain ⟨⟨A, n, c, e, ht⟩, _⟩ := h
  exact ⟨A, n, c, by simp [e], ht⟩
 | v :: vs, x :: xs, k + 1, h, hk => by
  obtain ⟨A, n, c, e, ht⟩ := PcsC.at_ k h.2 (by simpa using hk)
  exact ⟨A, n, c, by simpa using e, by simpa using ht⟩
theorem infoR : (Try.prog.info? 28).map (fun i => (i.zero, i.size, i.bytes)) = some (some (.slice none 0 0), 1, 24) := by kernel_rfl
def lenOf : Value → Nat
 | .slice _ n _ => n
 | _ => 0
end
section
open Go.RowKit
def ofI (zs : List Int) (v : Int) : Int := if (zs.length : Int) ≤ v then 0 else zs.getD (zs.length - 1 - v.toNat) 0
def BoolP (b : Bool) (w : World) (e : Ending) (w' : World) : Prop := e = .returned (.bool b) ∧ Below w.heap.size w w'
end
section
open Go.RowKit
def kidL : Fo → List TT
 | .nil => []
 | .cons _ n a k x => (n, a, k) :: kidL x
end
section
open Go.RowKit
structure PcsR (w : World) (A : Option Addr) (n : Nat) (ys : List TT) : Prop where
 len : ys.length = n
 few : n ≤ 1000000
 mem : 0 < n → ∃ b off, A = some ⟨b, off, none⟩ ∧ b < w.heap.size ∧ ∀ k (hk : k < ys.length), ∃ A' n' c', w.cell? ⟨b, off + k, none⟩ = some (.slice A' n' c') ∧ ∀ w', Below w.heap.size w w' → TermV w' A' n' c' (rowT ys[k])
theorem PcsR.below {w w' : World} {A : Option Addr} {n : Nat} {ys : List TT} (h : PcsR w A n ys) (hb : Below w.heap.size w w') : PcsR w' A n ys :=
 ⟨h.len, h.few, fun hn => by
  obtain ⟨b, off, e, hlt, hm⟩ := h.mem hn
  refine ⟨b, off, e, Nat.lt_of_lt_of_le hlt hb.size, fun k hk => ?_⟩
  obtain ⟨A', n', c', h1, h2⟩ := hm k hk
  exact ⟨A', n', c', (hb.cell (p := ⟨b, off + k, none⟩) hlt).trans h1, fun w2 h3 => h2 w2 (hb.trans (h3.mono hb.size))⟩⟩
structure LK where
 vars : Int
 nat : Int
 Ao : Option Addr
 no : Nat
 co : Nat
 Ae : Option Addr
 ne : Nat
 ce : Nat
 Ap : Option Addr
 np : Nat
 cp : Nat
 Aq : Option Addr
 nq : Nat
 cq : Nat
end
section
open Go.RowKit
end
section
open Go.RowKit
end
section
open Go.RowKit
end
section
open Go.RowKit
structure At (t : List Nd) (p : Nat) (dl : List Bool) (F : Fo) : Prop where
 wf : Wf dl F
 few : t.length ≤ 4096
 le : p ≤ t.length
 rest : t.drop p = row F
structure AtK (t : List Nd) (p : Nat) (d : Bool) (dr : List Bool) (pre : List Nd) (y : TT) (nx : Fo) : Prop where
 plen : pre.length = if d then 1 else 0
 fun_ : d = true → ∃ f, pre = [f] ∧ okF f = true ∧ nth t p = f
 rt : RtX y
 end_ : endI t ((p + pre.length : Nat) : Int) = ((p + pre.length + (rowT y).length : Nat) : Int)
 cut : (t.take (p + pre.length + (rowT y).length)).drop (p + pre.length) = rowT y
 le : p + pre.length + (rowT y).length ≤ t.length
 next : At t (p + pre.length + (rowT y).length) dr nx
theorem At.first {n : Nd} {a : List Nd} {k : Fo} (h : RtX (n, a, k)) (h2 : n.op ≠ 2) : At (rowT (n, a, k)) 1 (ds n) k := by
 obtain ⟨_, hat, hw⟩ := Rt.wf h
 simp only at hat hw
 have ha : a = [] := by
  unfold AtOk at hat
  rwa [if_neg h2] at hat
 subst ha
 exact ⟨hw, Rt.few h, by simp [rowT], by simp [rowT]⟩
theorem nth_zero_drop {t : List Nd} {p : Nat} {f : Nd} {r : List Nd} (h : t.drop p = f :: r) : nth t p = f := by
 have : nth (t.drop p) 0 = f := by rw [h]; rfl
 rwa [nth_drop, Nat.add_zero] at this
theorem At.step {t : List Nd} {p : Nat} {d : Bool} {dr : List Bool} {F : Fo} (h : At t p (d :: dr) F) : ∃ pre n a k nx, F = .cons pre n a k nx ∧ AtK t p d dr pre (n, a, k) nx := by
 obtain ⟨hw, hf, hle, hr⟩ := h
 match F, hw with
 | .cons pre n a k nx, hw =>
  obtain ⟨hp, hok, hat, hk, hx⟩ := hw
  refine ⟨pre, n, a, k, nx, rfl, ?_⟩
  have hrow : t.drop p = pre ++ (rowT (n, a, k) ++ row nx) := by rw [hr]; simp [row, rowT]
  have hl := congrArg List.length hrow
  rw [List.length_drop, List.length_append, List.length_append] at hl
  have hd2 : t.drop (p + pre.length) = rowT (n, a, k) ++ row nx := by rw [← List.drop_drop, hrow, List.drop_left]
  have hd3 : t.drop (p + pre.length + (rowT (n, a, k)).length) = row nx := by rw [← List.drop_drop, hd2, List.drop_left]
  have hpos : 0 < (rowT (n, a, k)).length := by simp [rowT]
  refine ⟨?_, ?_, ?_, ?_, ?_, by omega, ⟨hx, hf, by omega, hd3⟩⟩
  · cases d with
    | false => simp only at hp; subst hp; rfl
    | true => obtain ⟨f, rfl, _⟩ := hp; rfl
  · rintro rfl
    obtain ⟨f, rfl, hf⟩ := hp
    exact ⟨f, rfl, hf, nth_zero_drop hrow⟩
  · exact rt_make hok hat hk (by show (rowT (n, a, k)).length ≤ 4096; omega)
  · rw [endI_nat]
    have hpp := pp_of_wf (.cons [] n a k .nil) [false] (row nx) ⟨rfl, hok, hat, hk, trivial⟩
    unfold ends
    rw [hd2, show rowT (n, a, k) = row (.cons [] n a k .nil) from by simp [row, rowT], hpp]
    simp only [Option.map_some, optI]
    have e : (row (Fo.cons [] n a k .nil)).length = (rowT (n, a, k)).length := by simp [row, rowT]
    rw [e]
    congr 1
    omega
  · rw [List.drop_take, hd2, show p + pre.length + (rowT (n, a, k)).length - (p + pre.length) = (rowT (n, a, k)).length from by omega, List.take_left]
theorem At.done {t : List Nd} {p : Nat} {F : Fo} (h : At t p [] F) : F = .nil := by
 obtain ⟨hw, _⟩ := h
 match F, hw with
 | .nil, _ => rfl
theorem At.kids {t : List Nd} {p : Nat} {dl : List Bool} {F : Fo} (h : At t p dl F) : (kidL F).length = dl.length := by
 have : ∀ (F : Fo) (dl : List Bool), Wf dl F → (kidL F).length = dl.length := by
  intro F
  induction F with
  | nil => intro dl h; cases dl with
   | nil => rfl
   | cons _ _ => exact h.elim
  | cons p n a k x _ ih => intro dl h; cases dl with
   | nil => exact h.elim
   | cons d dr => obtain ⟨_, _, _, _, hx⟩ := h; simp only [kidL, List.length_cons, ih dr hx]
 exact this F dl h.wf
structure EntR (K : LK) (ca : Int → Nat → Nat) (w : World) : Prop where
 ent : ∀ e : Nat, e < K.ne → ∃ b off Ac nc cc, K.Ae = some ⟨b, off, none⟩ ∧ b < w.heap.size ∧ w.cell? ⟨b, off + e * 7 + 4, none⟩ = some (.slice Ac nc cc) ∧ nc ≤ 100 ∧ (∀ k, k < nc → ∃ b2 o2 A c, Ac = some ⟨b2, o2, none⟩ ∧ b2 < w.heap.size ∧ w.cell? ⟨b2, o2 + k * 2, none⟩ = some (.slice A (ca e k) c) ∧ ca e k ≤ 100) ∧ ∀ k, nc ≤ k → ca e k = 0
end
end Go.Proofs.Ytjllmblbbgojbaa
