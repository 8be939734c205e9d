/- What the reference reckons over trees, in plain Lean: the greatest variable, the highest one once raised, how often one stands free. -/
import Derived.Test.YtnmeglbamfjcgaaMem
import Derived.Test.YtnmeglbamfjcgaaTree
import Derived.Test.YtnmeglbamfjcgaaOwn
namespace Go.Proofs.Ytnmeglbamfjcgaa

def AllOk : Fo → Prop
  | .nil => True
  | .cons _ n _ k x => okN n = true ∧ AllOk k ∧ AllOk x
theorem AllOk.app : ∀ (F G : Fo), AllOk (F.app G) ↔ AllOk F ∧ AllOk G
  | .nil, G => by simp [Fo.app, AllOk]
  | .cons p n a k x, G => by simp only [Fo.app, AllOk, AllOk.app x G, and_assoc]
theorem aroundI_bd {n : Nd} (h : okN n = true) (k : Int) : 0 ≤ aroundI n.op n.b k ∧ aroundI n.op n.b k ≤ 4 := by
  simp only [okN, Bool.and_eq_true] at h
  have h1 := h.1.1
  rw [plainB_iff] at h1
  simp only [aroundI]
  split
  · omega
  · split <;> omega

/-- the greatest free variable. -/
def grt (pop pb : Int) : Nat → Int → Fo → Int
  | _, _, .nil => -1
  | j, u, .cons _ n _ k x => max (if n.op = 1 then max (n.a - (u + aroundI pop pb j)) (-1) else grt n.op n.b 0 (u + aroundI pop pb j) k) (grt pop pb (j + 1) u x)
def grtT (n : Nd) (k : Fo) (u : Int) : Int := if n.op = 1 then max (n.a - u) (-1) else grt n.op n.b 0 u k
theorem grt_cons (pop pb : Int) (j : Nat) (u : Int) (p : List Nd) (n : Nd) (a : List Nd) (k x : Fo) : grt pop pb j u (.cons p n a k x) = max (grtT n k (u + aroundI pop pb j)) (grt pop pb (j + 1) u x) := rfl

/-- the highest variable, once those from one on are raised. -/
def hig (pop pb : Int) (up : Int) : Nat → Int → Fo → Int
  | _, _, .nil => -1
  | j, f, .cons _ n _ k x => max (if n.op = 1 then (if f + aroundI pop pb j ≤ n.a then n.a + up else -1) else hig n.op n.b up 0 (f + aroundI pop pb j) k) (hig pop pb up (j + 1) f x)
def higT (up : Int) (n : Nd) (k : Fo) (f : Int) : Int := if n.op = 1 then (if f ≤ n.a then n.a + up else -1) else hig n.op n.b up 0 f k
theorem hig_cons (pop pb up : Int) (j : Nat) (f : Int) (p : List Nd) (n : Nd) (a : List Nd) (k x : Fo) : hig pop pb up j f (.cons p n a k x) = max (higT up n k (f + aroundI pop pb j)) (hig pop pb up (j + 1) f x) := rfl

/-- how often a variable stands free; under how many binders at most. -/
def tim (pop pb : Int) : Nat → Int → Fo → Int × Int
  | _, _, .nil => (0, 0)
  | j, v, .cons _ n _ k x =>
    let q := if n.op = 1 then (if n.a = v + aroundI pop pb j then ((1 : Int), (0 : Int)) else (0, 0)) else tim n.op n.b 0 (v + aroundI pop pb j) k
    let r := tim pop pb (j + 1) v x
    (q.1 + r.1, if 0 < q.1 then max (q.2 + aroundI pop pb j) r.2 else r.2)
def timT (n : Nd) (k : Fo) (v : Int) : Int × Int := if n.op = 1 then (if n.a = v then ((1 : Int), (0 : Int)) else (0, 0)) else tim n.op n.b 0 v k
theorem tim_cons (pop pb : Int) (j : Nat) (v : Int) (p : List Nd) (n : Nd) (a : List Nd) (k x : Fo) : tim pop pb j v (.cons p n a k x) =
    ((timT n k (v + aroundI pop pb j)).1 + (tim pop pb (j + 1) v x).1, if 0 < (timT n k (v + aroundI pop pb j)).1 then max ((timT n k (v + aroundI pop pb j)).2 + aroundI pop pb j) (tim pop pb (j + 1) v x).2 else (tim pop pb (j + 1) v x).2) := rfl

theorem flen_le_fsize : ∀ (F : Fo), flen F ≤ fsize F
  | .nil => Nat.le_refl _
  | .cons p n a k x => by
    have := flen_le_fsize x
    simp only [flen, fsize]
    omega
theorem max_grt (pop pb : Int) (j : Nat) (u : Int) : ∀ (F : Fo), max (-1) (grt pop pb j u F) = grt pop pb j u F
  | .nil => rfl
  | .cons p n a k x => by
    have := max_grt pop pb (j + 1) u x
    rw [grt_cons]
    omega

theorem max_hig (pop pb up : Int) (j : Nat) (u : Int) : ∀ (F : Fo), max (-1) (hig pop pb up j u F) = hig pop pb up j u F
  | .nil => rfl
  | .cons p n a k x => by
    have := max_hig pop pb up (j + 1) u x
    rw [hig_cons]
    omega

end Go.Proofs.Ytnmeglbamfjcgaa
