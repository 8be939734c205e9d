/- Merged: Head, Less, FineP, Fine, Branch, Taken, Body, Kid. -/
import Derived.Test.YtjoddliplahgkaaBEnds
import Derived.Test.YtjoddliplahgkaaBLeafs
import Derived.Test.YtjoddliplahgkaaBBase
namespace Go.Proofs.Ytjoddliplahgkaa
section
open Go.RowKit
abbrev TT := Nd × List Nd × Fo
def rowT (x : TT) : List Nd := x.1 :: (x.2.1 ++ row x.2.2)
def RtX (x : TT) : Prop := Rt (rowT x) x.1 x.2.1 x.2.2
def hd : Nat → TT → TT × List TT
 | m + 1, (n, a, .cons p n1 a1 k1 (.cons q n2 a2 k2 r)) => if n.op = 6 then ((hd m (n1, a1, k1)).1, (hd m (n1, a1, k1)).2 ++ [(n2, a2, k2)]) else ((n, a, .cons p n1 a1 k1 (.cons q n2 a2 k2 r)), [])
 | _, x => (x, [])
theorem hd_stop {m : Nat} {x : TT} (h : x.1.op ≠ 6) : hd m x = (x, []) := by
 obtain ⟨n, a, k⟩ := x
 cases m with
 | zero => rfl
 | succ m =>
  match k with
  | .nil => rfl
  | .cons _ _ _ _ .nil => rfl
  | .cons _ n1 a1 k1 (.cons _ n2 a2 k2 x) => simp only [hd]; rw [if_neg h]
theorem infoR : (Try.prog.info? 29).map (fun i => (i.zero, i.size, i.bytes)) = some (some (.slice none 0 0), 1, 24) := by kernel_rfl
def lenOf : Value → Nat
 | .slice _ n _ => n
 | _ => 0
end
section
open Go.RowKit
def ofI (zs : List Int) (v : Int) : Int := if (zs.length : Int) ≤ v then 0 else zs.getD (zs.length - 1 - v.toNat) 0
def lessT (zs : List Int) (x : TT) : Bool := (hd (rowT x).length x).1.1.op == 1 && ofI zs (hd (rowT x).length x).1.1.a == 2
def BoolP (b : Bool) (w : World) (e : Ending) (w' : World) : Prop := e = .returned (.bool b) ∧ Below w.heap.size w w'
end
section
open Go.RowKit
def kidL : Fo → List TT
 | .nil => []
 | .cons _ n a k x => (n, a, k) :: kidL x
def branchT (rec_ : List Int → TT → Bool) : Nat → List Int → TT → Bool
 | 0, zs, y => rec_ zs y
 | n + 1, zs, (nd, a, .cons p n1 a1 k1 (.cons q n2 a2 k2 r)) => if nd.op = 5 then rec_ zs (n1, a1, k1) && branchT rec_ n (zs ++ [2]) (n2, a2, k2) else rec_ zs (nd, a, .cons p n1 a1 k1 (.cons q n2 a2 k2 r))
 | _ + 1, zs, y => rec_ zs y
def downT (zs : List Int) (x : TT) : Bool :=
 let q := hd (rowT x).length x
 let m := if q.1.1.op = 1 then ofI zs q.1.1.a else 0
 m == 2 || (m == 1 && q.2.isEmpty)
def branchesT (rec_ : List Int → TT → Bool) (ca : Nat → Nat) (zs : List Int) : Nat → List TT → Bool
 | _, [] => true
 | k, y :: ys => branchT rec_ (ca k) zs y && branchesT rec_ ca zs (k + 1) ys
def pairsT (rec_ : List Int → TT → Bool) (zs zu : List Int) : List TT → Bool
 | ty :: bd :: r => rec_ zs ty && (rec_ zu bd && pairsT rec_ zs zu r)
 | _ => true
def fineT (places : List Int) (ca : Int → Nat → Nat) : Nat → List Int → TT → Bool
 | 0, _, _ => true
 | f + 1, zs, x =>
  let q := hd (rowT x).length x
  let n := q.1.1
  q.2.all (fineT places ca f zs) &&
  (if n.op = 1 then (if ofI zs n.a < 100 then true else (match q.2[(places.getD (ofI zs n.a - 100).toNat 0).toNat]? with | some y => lessT zs y | none => false))
   else if n.op = 11 then (match kidL q.1.2.2 with
    | mo :: sc :: br => (fineT places ca f zs mo && fineT places ca f zs sc) && branchesT (fineT places ca f) (fun k => if downT zs sc then ca n.a k else 0) zs 0 br
    | _ => true)
   else if n.op = 4 ∨ n.op = 5 then (match kidL q.1.2.2 with
    | a :: b :: _ => fineT places ca f zs a && fineT places ca f (zs ++ [0]) b
    | _ => true)
   else if n.op = 7 then (match kidL q.1.2.2 with
    | a :: b :: c :: _ => (fineT places ca f zs a && fineT places ca f zs b) && fineT places ca f (zs ++ [0]) c
    | _ => true)
   else if n.op = 12 then pairsT (fineT places ca f) zs (zs ++ List.replicate n.b.toNat 0) (kidL q.1.2.2)
   else true)
end
section
open Go.RowKit
end
section
open Go.RowKit
end
section
open Go.RowKit
def takenT : Nat → TT → Bool
 | 0, (n, _, .cons _ n1 a1 k1 (.cons _ _ _ _ _)) => if n.op = 4 then (hd (rowT (n1, a1, k1)).length (n1, a1, k1)).1.1.op == 9 else false
 | p + 1, (n, _, .cons _ _ _ _ (.cons _ n2 a2 k2 _)) => if n.op = 4 then takenT p (n2, a2, k2) else false
 | _, _ => false
end
section
open Go.RowKit
def bodyT (rec_ : List Int → TT → Bool) : Nat → List Int → TT → Bool
 | 0, zs, y => rec_ zs y
 | r + 1, zs, (n, _, .cons _ n1 a1 k1 (.cons _ n2 a2 k2 _)) => if n.op = 5 then rec_ zs (n1, a1, k1) && bodyT rec_ r (zs ++ [if r = 0 then 1 else 0]) (n2, a2, k2) else false
 | _ + 1, _, _ => false
end
section
open Go.RowKit
structure At (t : List Nd) (p : Nat) (dl : List Bool) (F : Fo) : Prop where
 wf : Wf dl F
 few : t.length ≤ 4096
 le : p ≤ t.length
 rest : t.drop p = row F
structure AtK (t : List Nd) (p : Nat) (d : Bool) (dr : List Bool) (pre : List Nd) (y : TT) (nx : Fo) : Prop where
 plen : pre.length = if d then 1 else 0
 fun_ : d = true → ∃ f, pre = [f] ∧ okF f = true ∧ nth t p = f
 rt : RtX y
 end_ : endI t ((p + pre.length : Nat) : Int) = ((p + pre.length + (rowT y).length : Nat) : Int)
 cut : (t.take (p + pre.length + (rowT y).length)).drop (p + pre.length) = rowT y
 le : p + pre.length + (rowT y).length ≤ t.length
 next : At t (p + pre.length + (rowT y).length) dr nx
theorem At.first {n : Nd} {a : List Nd} {k : Fo} (h : RtX (n, a, k)) (h2 : n.op ≠ 2) : At (rowT (n, a, k)) 1 (ds n) k := by
 obtain ⟨_, hat, hw⟩ := Rt.wf h
 simp only at hat hw
 have ha : a = [] := by
  unfold AtOk at hat
  rwa [if_neg h2] at hat
 subst ha
 exact ⟨hw, Rt.few h, by simp [rowT], by simp [rowT]⟩
theorem nth_zero_drop {t : List Nd} {p : Nat} {f : Nd} {r : List Nd} (h : t.drop p = f :: r) : nth t p = f := by
 have : nth (t.drop p) 0 = f := by rw [h]; rfl
 rwa [nth_drop, Nat.add_zero] at this
theorem At.step {t : List Nd} {p : Nat} {d : Bool} {dr : List Bool} {F : Fo} (h : At t p (d :: dr) F) : ∃ pre n a k nx, F = .cons pre n a k nx ∧ AtK t p d dr pre (n, a, k) nx := by
 obtain ⟨hw, hf, hle, hr⟩ := h
 match F, hw with
 | .cons pre n a k nx, hw =>
  obtain ⟨hp, hok, hat, hk, hx⟩ := hw
  refine ⟨pre, n, a, k, nx, rfl, ?_⟩
  have hrow : t.drop p = pre ++ (rowT (n, a, k) ++ row nx) := by rw [hr]; simp [row, rowT]
  have hl := congrArg List.length hrow
  rw [List.length_drop, List.length_append, List.length_append] at hl
  have hd2 : t.drop (p + pre.length) = rowT (n, a, k) ++ row nx := by rw [← List.drop_drop, hrow, List.drop_left]
  have hd3 : t.drop (p + pre.length + (rowT (n, a, k)).length) = row nx := by rw [← List.drop_drop, hd2, List.drop_left]
  have hpos : 0 < (rowT (n, a, k)).length := by simp [rowT]
  refine ⟨?_, ?_, ?_, ?_, ?_, by omega, ⟨hx, hf, by omega, hd3⟩⟩
  · cases d with
    | false => simp only at hp; subst hp; rfl
    | true => obtain ⟨f, rfl, _⟩ := hp; rfl
  · rintro rfl
    obtain ⟨f, rfl, hf⟩ := hp
    exact ⟨f, rfl, hf, nth_zero_drop hrow⟩
  · exact rt_make hok hat hk (by show (rowT (n, a, k)).length ≤ 4096; omega)
  · rw [endI_nat]
    have hpp := pp_of_wf (.cons [] n a k .nil) [false] (row nx) ⟨rfl, hok, hat, hk, trivial⟩
    unfold ends
    rw [hd2, show rowT (n, a, k) = row (.cons [] n a k .nil) from by simp [row, rowT], hpp]
    simp only [Option.map_some, optI]
    have e : (row (Fo.cons [] n a k .nil)).length = (rowT (n, a, k)).length := by simp [row, rowT]
    rw [e]
    congr 1
    omega
  · rw [List.drop_take, hd2, show p + pre.length + (rowT (n, a, k)).length - (p + pre.length) = (rowT (n, a, k)).length from by omega, List.take_left]
theorem At.done {t : List Nd} {p : Nat} {F : Fo} (h : At t p [] F) : F = .nil := by
 obtain ⟨hw, _⟩ := h
 match F, hw with
 | .nil, _ => rfl
end
end Go.Proofs.Ytjoddliplahgkaa
