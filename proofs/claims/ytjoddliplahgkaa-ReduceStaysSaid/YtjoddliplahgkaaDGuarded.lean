/- Merged: Heads, Match, FineS, FineL, FineT, FineX, Fines, FineW, Tr, FixF, TermL, Short3, Guarded. -/
import Derived.Test.YtjoddliplahgkaaDEnds
import Derived.Test.YtjoddliplahgkaaDLeafs
import Derived.Test.YtjoddliplahgkaaDBase
import Derived.Test.YtjoddliplahgkaaDShort2
namespace Go.Proofs.Ytjoddliplahgkaa
section
section
open Go.RowKit
abbrev TT := Nd × List Nd × Fo
def rowT (x : TT) : List Nd := x.1 :: (x.2.1 ++ row x.2.2)
def RtX (x : TT) : Prop := Rt (rowT x) x.1 x.2.1 x.2.2
def hd : Nat → TT → TT × List TT
 | m + 1, (n, a, .cons p n1 a1 k1 (.cons q n2 a2 k2 r)) => if n.op = 6 then ((hd m (n1, a1, k1)).1, (hd m (n1, a1, k1)).2 ++ [(n2, a2, k2)]) else ((n, a, .cons p n1 a1 k1 (.cons q n2 a2 k2 r)), [])
 | _, x => (x, [])
theorem hd_stop {m : Nat} {x : TT} (h : x.1.op ≠ 6) : hd m x = (x, []) := by
 obtain ⟨n, a, k⟩ := x
 cases m with
 | zero => rfl
 | succ m =>
  match k with
  | .nil => rfl
  | .cons _ _ _ _ .nil => rfl
  | .cons _ n1 a1 k1 (.cons _ n2 a2 k2 x) => simp only [hd]; rw [if_neg h]
theorem infoR : (Try.prog.info? 29).map (fun i => (i.zero, i.size, i.bytes)) = some (some (.slice none 0 0), 1, 24) := by kernel_rfl
def lenOf : Value → Nat
 | .slice _ n _ => n
 | _ => 0
end
section
open Go.RowKit
def ofI (zs : List Int) (v : Int) : Int := if (zs.length : Int) ≤ v then 0 else zs.getD (zs.length - 1 - v.toNat) 0
def lessT (zs : List Int) (x : TT) : Bool := (hd (rowT x).length x).1.1.op == 1 && ofI zs (hd (rowT x).length x).1.1.a == 2
def BoolP (b : Bool) (w : World) (e : Ending) (w' : World) : Prop := e = .returned (.bool b) ∧ Below w.heap.size w w'
end
section
open Go.RowKit
def kidL : Fo → List TT
 | .nil => []
 | .cons _ n a k x => (n, a, k) :: kidL x
def branchT (rec_ : List Int → TT → Bool) : Nat → List Int → TT → Bool
 | 0, zs, y => rec_ zs y
 | n + 1, zs, (nd, a, .cons p n1 a1 k1 (.cons q n2 a2 k2 r)) => if nd.op = 5 then rec_ zs (n1, a1, k1) && branchT rec_ n (zs ++ [2]) (n2, a2, k2) else rec_ zs (nd, a, .cons p n1 a1 k1 (.cons q n2 a2 k2 r))
 | _ + 1, zs, y => rec_ zs y
def downT (zs : List Int) (x : TT) : Bool :=
 let q := hd (rowT x).length x
 let m := if q.1.1.op = 1 then ofI zs q.1.1.a else 0
 m == 2 || (m == 1 && q.2.isEmpty)
def branchesT (rec_ : List Int → TT → Bool) (ca : Nat → Nat) (zs : List Int) : Nat → List TT → Bool
 | _, [] => true
 | k, y :: ys => branchT rec_ (ca k) zs y && branchesT rec_ ca zs (k + 1) ys
def pairsT (rec_ : List Int → TT → Bool) (zs zu : List Int) : List TT → Bool
 | ty :: bd :: r => rec_ zs ty && (rec_ zu bd && pairsT rec_ zs zu r)
 | _ => true
def fineT (places : List Int) (ca : Int → Nat → Nat) : Nat → List Int → TT → Bool
 | 0, _, _ => true
 | f + 1, zs, x =>
  let q := hd (rowT x).length x
  let n := q.1.1
  q.2.all (fineT places ca f zs) &&
  (if n.op = 1 then (if ofI zs n.a < 100 then true else (match q.2[(places.getD (ofI zs n.a - 100).toNat 0).toNat]? with | some y => lessT zs y | none => false))
   else if n.op = 11 then (match kidL q.1.2.2 with
    | mo :: sc :: br => (fineT places ca f zs mo && fineT places ca f zs sc) && branchesT (fineT places ca f) (fun k => if downT zs sc then ca n.a k else 0) zs 0 br
    | _ => true)
   else if n.op = 4 ∨ n.op = 5 then (match kidL q.1.2.2 with
    | a :: b :: _ => fineT places ca f zs a && fineT places ca f (zs ++ [0]) b
    | _ => true)
   else if n.op = 7 then (match kidL q.1.2.2 with
    | a :: b :: c :: _ => (fineT places ca f zs a && fineT places ca f zs b) && fineT places ca f (zs ++ [0]) c
    | _ => true)
   else if n.op = 12 then pairsT (fineT places ca f) zs (zs ++ List.replicate n.b.toNat 0) (kidL q.1.2.2)
   else true)
end
section
open Go.RowKit
end
section
open Go.RowKit
end
section
open Go.RowKit
def takenT : Nat → TT → Bool
 | 0, (n, _, .cons _ n1 a1 k1 (.cons _ _ _ _ _)) => if n.op = 4 then (hd (rowT (n1, a1, k1)).length (n1, a1, k1)).1.1.op == 9 else false
 | p + 1, (n, _, .cons _ _ _ _ (.cons _ n2 a2 k2 _)) => if n.op = 4 then takenT p (n2, a2, k2) else false
 | _, _ => false
end
section
open Go.RowKit
def bodyT (rec_ : List Int → TT → Bool) : Nat → List Int → TT → Bool
 | 0, zs, y => rec_ zs y
 | r + 1, zs, (n, _, .cons _ n1 a1 k1 (.cons _ n2 a2 k2 _)) => if n.op = 5 then rec_ zs (n1, a1, k1) && bodyT rec_ r (zs ++ [if r = 0 then 1 else 0]) (n2, a2, k2) else false
 | _ + 1, _, _ => false
end
section
open Go.RowKit
structure At (t : List Nd) (p : Nat) (dl : List Bool) (F : Fo) : Prop where
 wf : Wf dl F
 few : t.length ≤ 4096
 le : p ≤ t.length
 rest : t.drop p = row F
structure AtK (t : List Nd) (p : Nat) (d : Bool) (dr : List Bool) (pre : List Nd) (y : TT) (nx : Fo) : Prop where
 plen : pre.length = if d then 1 else 0
 fun_ : d = true → ∃ f, pre = [f] ∧ okF f = true ∧ nth t p = f
 rt : RtX y
 end_ : endI t ((p + pre.length : Nat) : Int) = ((p + pre.length + (rowT y).length : Nat) : Int)
 cut : (t.take (p + pre.length + (rowT y).length)).drop (p + pre.length) = rowT y
 le : p + pre.length + (rowT y).length ≤ t.length
 next : At t (p + pre.length + (rowT y).length) dr nx
theorem At.first {n : Nd} {a : List Nd} {k : Fo} (h : RtX (n, a, k)) (h2 : n.op ≠ 2) : At (rowT (n, a, k)) 1 (ds n) k := by
 obtain ⟨_, hat, hw⟩ := Rt.wf h
 simp only at hat hw
 have ha : a = [] := by
  unfold AtOk at hat
  rwa [if_neg h2] at hat
 subst ha
 exact ⟨hw, Rt.few h, by simp [rowT], by simp [rowT]⟩
theorem nth_zero_drop {t : List Nd} {p : Nat} {f : Nd} {r : List Nd} (h : t.drop p = f :: r) : nth t p = f := by
 have : nth (t.drop p) 0 = f := by rw [h]; rfl
 rwa [nth_drop, Nat.add_zero] at this
theorem At.step {t : List Nd} {p : Nat} {d : Bool} {dr : List Bool} {F : Fo} (h : At t p (d :: dr) F) : ∃ pre n a k nx, F = .cons pre n a k nx ∧ AtK t p d dr pre (n, a, k) nx := by
 obtain ⟨hw, hf, hle, hr⟩ := h
 match F, hw with
 | .cons pre n a k nx, hw =>
  obtain ⟨hp, hok, hat, hk, hx⟩ := hw
  refine ⟨pre, n, a, k, nx, rfl, ?_⟩
  have hrow : t.drop p = pre ++ (rowT (n, a, k) ++ row nx) := by rw [hr]; simp [row, rowT]
  have hl := congrArg List.length hrow
  rw [List.length_drop, List.length_append, List.length_append] at hl
  have hd2 : t.drop (p + pre.length) = rowT (n, a, k) ++ row nx := by rw [← List.drop_drop, hrow, List.drop_left]
  have hd3 : t.drop (p + pre.length + (rowT (n, a, k)).length) = row nx := by rw [← List.drop_drop, hd2, List.drop_left]
  have hpos : 0 < (rowT (n, a, k)).length := by simp [rowT]
  refine ⟨?_, ?_, ?_, ?_, ?_, by omega, ⟨hx, hf, by omega, hd3⟩⟩
  · cases d with
    | false => simp only at hp; subst hp; rfl
    | true => obtain ⟨f, rfl, _⟩ := hp; rfl
  · rintro rfl
    obtain ⟨f, rfl, hf⟩ := hp
    exact ⟨f, rfl, hf, nth_zero_drop hrow⟩
  · exact rt_make hok hat hk (by show (rowT (n, a, k)).length ≤ 4096; omega)
  · rw [endI_nat]
    have hpp := pp_of_wf (.cons [] n a k .nil) [false] (row nx) ⟨rfl, hok, hat, hk, trivial⟩
    unfold ends
    rw [hd2, show rowT (n, a, k) = row (.cons [] n a k .nil) from by simp [row, rowT], hpp]
    simp only [Option.map_some, optI]
    have e : (row (Fo.cons [] n a k .nil)).length = (rowT (n, a, k)).length := by simp [row, rowT]
    rw [e]
    congr 1
    omega
  · rw [List.drop_take, hd2, show p + pre.length + (rowT (n, a, k)).length - (p + pre.length) = (rowT (n, a, k)).length from by omega, List.take_left]
theorem At.done {t : List Nd} {p : Nat} {F : Fo} (h : At t p [] F) : F = .nil := by
 obtain ⟨hw, _⟩ := h
 match F, hw with
 | .nil, _ => rfl
end
end
section
open Go.RowKit
end
section
open Go.RowKit
end
section
open Go.RowKit
end
section
open Go.RowKit
end
section
open Go.RowKit
def dsF : Nat → List Bool
 | 0 => []
 | r + 1 => true :: false :: dsF r
theorem dsF_flat : ∀ r : Nat, (List.replicate r [true, false]).flatten = dsF r
 | 0 => rfl
 | r + 1 => by rw [List.replicate_succ, List.flatten_cons, dsF_flat r]; rfl
theorem ds_fix {n : Nd} {nb : Nat} (h : n.op = 12) (hb : n.b = (nb : Int)) : ds n = dsF nb := by
 unfold ds
 rw [if_pos h, hb, Int.toNat_natCast, dsF_flat]
theorem AtF_len : ∀ (r : Nat) {t : List Nd} {p : Nat} {F : Fo}, At t p (dsF r) F → p + 3 * r ≤ t.length
 | 0, t, p, F, h => by have := h.le; omega
 | r + 1, t, p, F, h => by
  obtain ⟨pre1, n1, a1, k1, nx1, rfl, s1⟩ := h.step
  obtain ⟨pre2, n2, a2, k2, nx2, rfl, s2⟩ := s1.next.step
  have h1 := AtF_len r s2.next
  have e1 : pre1.length = 1 := s1.plen
  have e2 : pre2.length = 0 := s2.plen
  have l1 : 0 < (rowT (n1, a1, k1)).length := by simp [rowT]
  have l2 : 0 < (rowT (n2, a2, k2)).length := by simp [rowT]
  omega
end
section
section
open Go.RowKit
end
section
open Go.RowKit
def tysT : List TT → List TT
 | a :: _ :: r => a :: tysT r
 | _ => []
def bdsT : List TT → List TT
 | _ :: b :: r => b :: bdsT r
 | _ => []
def guardL (rec_ : List Int → TT → Bool) (zs : List Int) : List Int → List TT → List TT → Bool
 | p :: pl, t :: ts, b :: bs => (takenT p.toNat t && bodyT rec_ (p.toNat + 1) zs b) && guardL rec_ zs pl ts bs
 | _, _, _ => true
def placesT (k : Fo) : List Int := (press k).map (·.a)
def marks0 (n : Nat) : List Int := (List.range n).map fun j : Nat => (100 : Int) + (j : Int)
def guardT (ca : Int → Nat → Nat) (m : Nat) (x : TT) : Bool :=
 guardL (fineT (placesT x.2.2) ca m) (marks0 x.1.b.toNat) (placesT x.2.2) (tysT (kidL x.2.2)) (bdsT (kidL x.2.2))
def ErrP (e : Int) (w : World) (en : Ending) (w' : World) : Prop := en = .returned (.int .i64 e) ∧ Below w.heap.size w w'
theorem row_kid : ∀ {k : Fo} {y : TT}, y ∈ kidL k → ∀ m ∈ rowT y, m ∈ row k
 | .nil, y, h, _, _ => by cases h
 | .cons p n a k x, y, h, m, hm => by
  rw [show kidL (.cons p n a k x) = (n, a, k) :: kidL x from rfl] at h
  simp only [row]
  rcases List.mem_cons.1 h with rfl | h
  · simp only [rowT, List.mem_cons, List.mem_append] at hm ⊢
    rcases hm with rfl | hm | hm
    · exact .inr (.inl rfl)
    · exact .inr (.inr (.inl hm))
    exact .inr (.inr (.inr (.inl hm)))
  · have := row_kid h m hm
    simp only [List.mem_cons, List.mem_append]
    exact .inr (.inr (.inr (.inr this)))
theorem infoI : (Try.prog.info? 3).map (fun i => (i.zero, i.size, i.bytes)) = some (some (.int .i64 0), 1, 8) := by kernel_rfl
end
end
section
open Go.RowKit
abbrev szT (x : TT) : Nat := (rowT x).length
theorem szT_eq (n : Nd) (a : List Nd) (k : Fo) : szT (n, a, k) = 1 + a.length + (row k).length := by
 simp only [szT, rowT, List.length_cons, List.length_append]; omega
theorem sz_cons (p : List Nd) (n : Nd) (a : List Nd) (k x : Fo) : (row (.cons p n a k x)).length = p.length + szT (n, a, k) + (row x).length := by
 simp only [row, List.length_append, List.length_cons, szT, rowT]; omega
theorem sz_kid : ∀ {k : Fo} {y : TT}, y ∈ kidL k → szT y ≤ (row k).length
 | .nil, y, h => by cases h
 | .cons p n a k x, y, h => by
  rw [sz_cons]
  rw [show kidL (.cons p n a k x) = (n, a, k) :: kidL x from rfl] at h
  rcases List.mem_cons.1 h with rfl | h
  · omega
  · have := sz_kid h
    omega
def hdW (x : TT) : TT × List TT := hd (szT x) x
theorem hd_fuel : ∀ (m m' : Nat) (x : TT), szT x ≤ m → szT x ≤ m' → hd m x = hd m' x
 | 0, _, (n, a, k), h, _ => by rw [szT_eq] at h; omega
 | _ + 1, 0, (n, a, k), _, h => by rw [szT_eq] at h; omega
 | m + 1, m' + 1, (n, a, .nil), _, _ => rfl
 | m + 1, m' + 1, (n, a, .cons p n1 a1 k1 .nil), _, _ => rfl
 | m + 1, m' + 1, (n, a, .cons p n1 a1 k1 (.cons q n2 a2 k2 r)), h, h' => by
  simp only [hd]
  rw [szT_eq, sz_cons] at h h'
  split
  · rw [hd_fuel m m' (n1, a1, k1) (by omega) (by omega)]
  · rfl
theorem hdW_fuel {m : Nat} {x : TT} (h : szT x ≤ m) : hd m x = hdW x := hd_fuel _ _ _ h (Nat.le_refl _)
theorem hdW_stop {x : TT} (h : x.1.op ≠ 6) : hdW x = (x, []) := hd_stop h
theorem hdW_app {n n1 n2 : Nd} {a a1 a2 p q : List Nd} {k1 k2 r : Fo} (h : n.op = 6) : hdW (n, a, .cons p n1 a1 k1 (.cons q n2 a2 k2 r)) = ((hdW (n1, a1, k1)).1, (hdW (n1, a1, k1)).2 ++ [(n2, a2, k2)]) := by
 have h0 : szT (n, a, .cons p n1 a1 k1 (.cons q n2 a2 k2 r)) = 1 + a.length + (p.length + szT (n1, a1, k1) + (row (.cons q n2 a2 k2 r)).length) := by rw [szT_eq, sz_cons]
 rw [← hdW_fuel (m := szT (n, a, .cons p n1 a1 k1 (.cons q n2 a2 k2 r)) - 1 + 1) (x := (n, a, .cons p n1 a1 k1 (.cons q n2 a2 k2 r))) (by omega)]
 simp only [hd]
 rw [if_pos h, hdW_fuel (by omega)]
end
section
open Go.RowKit
def trF (σ : Int → Nd → TT) (pop pb : Int) : Nat → Int → Fo → Fo
 | _, _, .nil => .nil
 | j, a, .cons p n ats k x =>
  if n.op = 1 then .cons p (σ (a + aroundI pop pb j) n).1 (σ (a + aroundI pop pb j) n).2.1 (σ (a + aroundI pop pb j) n).2.2 (trF σ pop pb (j + 1) a x)
  else .cons p n ats (trF σ n.op n.b 0 (a + aroundI pop pb j) k) (trF σ pop pb (j + 1) a x)
def trT (σ : Int → Nd → TT) (a : Int) (x : TT) : TT := if x.1.op = 1 then σ a x.1 else (x.1, x.2.1, trF σ x.1.op x.1.b 0 a x.2.2)
section
variable {σ : Int → Nd → TT}
theorem trT_var {a : Int} {x : TT} (h : x.1.op = 1) : trT σ a x = σ a x.1 := by unfold trT; rw [if_pos h]
theorem trT_other {a : Int} {x : TT} (h : x.1.op ≠ 1) : trT σ a x = (x.1, x.2.1, trF σ x.1.op x.1.b 0 a x.2.2) := by unfold trT; rw [if_neg h]
theorem trF_cons (pop pb : Int) (j : Nat) (a : Int) (p : List Nd) (n : Nd) (ats : List Nd) (k x : Fo) : trF σ pop pb j a (.cons p n ats k x) = .cons p (trT σ (a + aroundI pop pb j) (n, ats, k)).1 (trT σ (a + aroundI pop pb j) (n, ats, k)).2.1 (trT σ (a + aroundI pop pb j) (n, ats, k)).2.2 (trF σ pop pb (j + 1) a x) := by
 simp only [trF, trT]
 split <;> rfl
theorem kidL_cons (p : List Nd) (n : Nd) (a : List Nd) (k x : Fo) : kidL (.cons p n a k x) = (n, a, k) :: kidL x := rfl
theorem around_plain {op b : Int} (h4 : op ≠ 4) (h5 : op ≠ 5) (h7 : op ≠ 7) (h12 : op ≠ 12) (k : Int) : aroundI op b k = 0 := by
 unfold aroundI
 rw [if_neg (by omega), if_neg (by omega)]
def BOk : Fo → Prop
 | .nil => True
 | .cons _ n _ k x => (n.op = 12 → 0 ≤ n.b) ∧ BOk k ∧ BOk x
variable {places : List Int} {ca : Int → Nat → Nat}
end
end
section
open Go.RowKit
def guardN (ca : Int → Nat → Nat) (x : TT) : Bool := guardT ca (szT x) x
section
variable {σ : Int → Nd → TT} {places : List Int} {ca : Int → Nat → Nat}
def fixF (ca : Int → Nat → Nat) : Fo → Bool
 | .nil => true
 | .cons _ n a k x => ((if n.op = 12 then guardN ca (n, a, k) else true) && fixF ca k) && fixF ca x
def VkF : Fo → Prop
 | .nil => True
 | .cons _ n ats k x => (n.op = 1 → ats = [] ∧ k = .nil) ∧ VkF k ∧ VkF x
theorem around_ge {op b : Int} (h : op = 12 → 0 ≤ b) (k : Int) : 0 ≤ aroundI op b k := by
 unfold aroundI
 split
 · omega
 split
 · rename_i h2; exact h h2.1
 omega
end
end
section
open Go.RowKit
def raN (up fr : Int) (n : Nd) (a : Int) : Nd := if n.op = 1 ∧ fr + a ≤ n.a then ⟨n.op, n.a + up, n.b⟩ else n
def raF (up fr : Int) (pop pb : Int) : Nat → Int → Fo → Fo
 | _, _, .nil => .nil
 | j, a, .cons p n ats k x => .cons p (raN up fr n (a + aroundI pop pb j)) ats (raF up fr n.op n.b 0 (a + aroundI pop pb j) k) (raF up fr pop pb (j + 1) a x)
theorem raN_same (up fr : Int) (n : Nd) (a : Int) : (raN up fr n a).op = n.op ∧ (raN up fr n a).b = n.b := by unfold raN; split <;> exact ⟨rfl, rfl⟩
theorem raV_em (up fr : Int) (n : Nd) (a : Int) : (raV up fr).em () n a = [raN up fr n a] := by
 simp only [raV, raN]; split <;> rfl
theorem raV_row (up fr : Int) (pop pb : Int) : ∀ (j : Nat) (a : Int) (F : Fo), (raV up fr).E pop pb j a () F = row (raF up fr pop pb j a F)
 | _, _, .nil => rfl
 | j, a, .cons p n ats k x => by
  have e : ∀ s : Unit, s = () := fun _ => rfl
  rw [Vis.E_cons, Vis.E1, raV_em, e ((raV up fr).nx () n (a + aroundI pop pb j)), e ((raV up fr).S1 (a + aroundI pop pb j) () n k), raV_row up fr _ _ _ _ k, raV_row up fr pop pb (j + 1) a x]
  simp [raF, row]
theorem raV_row1 (up fr : Int) (a : Int) (n : Nd) (ats : List Nd) (k : Fo) : (raV up fr).E1 a () n ats k = raN up fr n a :: (ats ++ row (raF up fr n.op n.b 0 a k)) := by
 have e : ∀ s : Unit, s = () := fun _ => rfl
 rw [Vis.E1, raV_em, e ((raV up fr).nx () n a), raV_row]; rfl
theorem raN_ok {up fr : Int} {n : Nd} {a : Int} (hok : okN n = true) (h0 : 0 ≤ up) (hg : (raV up fr).ok () n a = true) : okN (raN up fr n a) = true := by
 unfold raN
 split
 · rename_i h
   simp only [raV, if_pos h, decide_eq_true_eq] at hg
   simp only [okN, Bool.and_eq_true, decide_eq_true_eq] at hok ⊢
   obtain ⟨⟨h1, h2⟩, h3⟩ := hok
   refine ⟨⟨?_, h2⟩, h3⟩
   rw [h.1] at h1 ⊢
   simp only [plainB, if_true, decide_eq_true_eq] at h1 ⊢
   omega
 exact hok
theorem raF_wf {up fr : Int} (h0 : 0 ≤ up) (pop pb : Int) : ∀ (F : Fo) (dl : List Bool) (j : Nat) (a : Int), Wf dl F → (raV up fr).G pop pb j a () F = true → Wf dl (raF up fr pop pb j a F)
 | .nil, [], _, _, _, _ => trivial
 | .nil, _ :: _, _, _, h, _ => h.elim
 | .cons _ _ _ _ _, [], _, _, h, _ => h.elim
 | .cons p n ats k x, d :: dr, j, a, h, hg => by
  obtain ⟨hp, hok, hat, hk, hx⟩ := h
  rw [Vis.G_cons, Vis.G1, Bool.and_eq_true, Bool.and_eq_true] at hg
  obtain ⟨⟨hg1, hg2⟩, hg3⟩ := hg
  have hs := raN_same up fr n (a + aroundI pop pb j)
  have hds : ds (raN up fr n (a + aroundI pop pb j)) = ds n := by simp only [ds, hs.1, hs.2]
  refine ⟨hp, raN_ok hok h0 hg1, ?_, ?_, raF_wf h0 pop pb x dr (j + 1) a hx hg3⟩
  · unfold AtOk at hat ⊢
    rw [hs.1, hs.2]; exact hat
  · rw [hds]; exact raF_wf h0 n.op n.b k (ds n) 0 (a + aroundI pop pb j) hk hg2
end
section
open Go.RowKit
section
variable {P : Program} {ops : Array Oper} {Q : Exit → Act → World → Prop} {md : Region.Mode} {S : World → Prop} {l : Nat}
end
end
section
open Go.RowKit
theorem press_cons (p : List Nd) (n : Nd) (a : List Nd) (k x : Fo) : press (.cons p n a k x) = p ++ press x := rfl
end
end Go.Proofs.Ytjoddliplahgkaa
