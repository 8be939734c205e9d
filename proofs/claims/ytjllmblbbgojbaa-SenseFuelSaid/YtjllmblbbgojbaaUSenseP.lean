/- What closed terms mean: plain functions over trees. -/
import Derived.Test.YtjllmblbbgojbaaUPutG
import Derived.Test.YtjllmblbbgojbaaUPartG
namespace Go.Proofs.Ytjllmblbbgojbaa
open Go.RowKit
inductive RV where
 | ok (x : TT) (f : Nat)
 | er (e : Int)
def RV.bind (r : RV) (k : TT → Nat → RV) : RV := match r with
 | .ok x f => k x f
 | .er e => .er e
def placeT (x : TT) : Int := (placesT x.2.2).getD x.1.a.toNat 0
def valT : Nat → TT → Bool
 | 0, _ => false
 | m + 1, x =>
  let q := hdW x
  if q.1.1.op = 5 ∨ q.1.1.op = 4 ∨ q.1.1.op = 2 then q.2.isEmpty
  else if q.1.1.op = 12 then decide ((q.2.length : Int) ≤ placeT q.1) && q.2.all (valT m)
  else if q.1.1.op = 9 ∨ q.1.1.op = 10 then q.2.all (valT m)
  else false
def valW (x : TT) : Bool := valT (szT x) x
def subTT (x u : TT) : TT × Int := if 4096 < (szT x : Int) + cnT 0 x.1 x.2.2 * ((szT u : Int) - 1) then (x, 9) else (trT (suS u) 0 x, 0)
def appTT (f a : TT) : TT := (⟨6, 0, 0⟩, [], .cons [] f.1 f.2.1 f.2.2 (.cons [] a.1 a.2.1 a.2.2 .nil))
def fixAt (h : TT) (i : Nat) : TT := (⟨h.1.op, (i : Int), h.1.b⟩, h.2.1, h.2.2)
def unfL (h : TT) : Nat → TT → TT × Int
 | 0, x => (x, 0)
 | i + 1, x => let y := subTT x (fixAt h i); if y.2 = 0 then unfL h i y.1 else y
def unfT (h : TT) : TT × Int := unfL h h.1.b.toNat ((bdsT (kidL h.2.2)).getD h.1.a.toNat (⟨0, 0, 0⟩, [], .nil))
def givens (gv : Nat → TT → TT → RV) : List TT → TT → Nat → RV
 | [], g, f => .ok g f
 | a :: r, g, f => (gv f g a).bind fun g' f' => givens gv r g' f'
def evStep (b : Bk) (ev : Nat → TT → RV) (gv : Nat → TT → TT → RV) : Nat → TT → RV
 | 0, _ => .er 10
 | f + 1, x =>
  if valW x = true then .ok x f
  else if x.1.op = 8 then ev f (treeAt (entB b x.1.a).body)
  else if x.1.op = 7 then (match kidL x.2.2 with
   | _ :: v :: bd :: _ => (ev f v).bind fun u f' => if (subTT bd u).2 = 0 then ev f' (subTT bd u).1 else .er (subTT bd u).2
   | _ => .er 0)
  else if x.1.op = 11 then (match kidL x.2.2 with
   | _ :: s :: br => (ev f s).bind fun v f' =>
    let c := hdW v
    if c.1.1.op = 10 ∧ c.1.1.a = x.1.a ∧ c.1.1.b < x.1.b ∧ c.2.length = (entB b x.1.a).params.length + ((entB b x.1.a).ctors.getD c.1.1.b.toNat default).args.length then
     (ev f' (br.getD c.1.1.b.toNat (⟨0, 0, 0⟩, [], .nil))).bind fun g f2 => givens gv (c.2.drop (entB b x.1.a).params.length) g f2
    else .er 24
   | _ => .er 0)
  else (match kidL x.2.2 with
   | p :: q :: _ => (ev f p).bind fun g f1 => (ev f1 q).bind fun a f2 => gv f2 g a
   | _ => .er 0)
def gvStep (ev : Nat → TT → RV) (gv : Nat → TT → TT → RV) (f : Nat) (g a : TT) : RV :=
 let h := hdW g
 if h.1.1.op = 5 then (match kidL g.2.2 with
  | _ :: bd :: _ => if (subTT bd a).2 = 0 then ev f (subTT bd a).1 else .er (subTT bd a).2
  | _ => .er 0)
 else if h.1.1.op = 9 ∨ h.1.1.op = 10 then (if 4096 < 1 + szT g + szT a then .er 9 else .ok (appTT g a) f)
 else if h.1.1.op = 12 then
  (if ((h.2 ++ [a]).length : Int) ≤ placeT h.1 then (if 4096 < 1 + szT g + szT a then .er 9 else .ok (appTT g a) f)
   else if (hdW ((h.2 ++ [a]).getD (placeT h.1).toNat (⟨0, 0, 0⟩, [], .nil))).1.1.op = 10 then
    (if (unfT h.1).2 = 0 then (ev f (unfT h.1).1).bind fun g' f' => givens gv (h.2 ++ [a]) g' f' else .er (unfT h.1).2)
   else .er 24)
 else .er 24
def evG (b : Bk) : Nat → (Nat → TT → RV) × (Nat → TT → TT → RV)
 | 0 => (fun _ _ => .er 10, fun _ _ _ => .er 10)
 | d + 1 => (evStep b (evG b d).1 (evG b d).2, gvStep (evStep b (evG b d).1 (evG b d).2) (evG b d).2)
def evD (b : Bk) (d : Nat) : Nat → TT → RV := (evG b d).1
def gvD (b : Bk) (d : Nat) : Nat → TT → TT → RV := (evG b d).2
theorem evD_succ (b : Bk) (d : Nat) : evD b (d + 1) = evStep b (evD b d) (gvD b d) := rfl
theorem gvD_succ (b : Bk) (d : Nat) : gvD b (d + 1) = gvStep (evD b (d + 1)) (gvD b d) := rfl
end Go.Proofs.Ytjllmblbbgojbaa
