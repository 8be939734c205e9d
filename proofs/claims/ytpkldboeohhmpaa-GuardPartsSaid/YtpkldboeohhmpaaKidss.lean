/- Merged: LiftP, TermP, TermP2, TermP3, TermP4, Parts0, KidsD, Parts1, Clone, Count, Parts, Kids. -/
import Derived.Test.YtpkldboeohhmpaaBase
import Derived.Test.YtpkldboeohhmpaaSubst
import Derived.Test.YtpkldboeohhmpaaTermL
import Derived.Test.YtpkldboeohhmpaaFines
import Derived.Test.YtpkldboeohhmpaaEnds
import Derived.Test.YtpkldboeohhmpaaLeafs
import Derived.Lib.SliceRun
import Derived.Test.YtpkldboeohhmpaaProg
import Derived.WalkKit
import Derived.WalkLawsBesides
import Derived.WalkSpells
import Derived.Lib.Hide
import Derived.Deep.QuietTactic
import Derived.BigQuiet
namespace Go.Proofs.Ytpkldboeohhmpaa

section
open Go.RowKit

def raiN (up : Int) (n : Nd) (f : Int) : Nd := if n.op = 1 ∧ f ≤ n.a then ⟨1, n.a + up, 0⟩ else n
def raiA (n : Nd) (a : List Nd) (f : Int) : List Nd := if n.op = 1 ∧ f ≤ n.a then [] else a
def rai (pop pb up : Int) : Nat → Int → Fo → Fo
  | _, _, .nil => .nil
  | j, f, .cons p n a k x => .cons p (raiN up n (f + aroundI pop pb j)) (raiA n a (f + aroundI pop pb j)) (if n.op = 1 ∧ f + aroundI pop pb j ≤ n.a then .nil else rai n.op n.b up 0 (f + aroundI pop pb j) k) (rai pop pb up (j + 1) f x)
def raiK (up : Int) (n : Nd) (k : Fo) (f : Int) : Fo := if n.op = 1 ∧ f ≤ n.a then .nil else rai n.op n.b up 0 f k
theorem rai_cons (pop pb up : Int) (j : Nat) (f : Int) (p : List Nd) (n : Nd) (a : List Nd) (k x : Fo) : rai pop pb up j f (.cons p n a k x) = .cons p (raiN up n (f + aroundI pop pb j)) (raiA n a (f + aroundI pop pb j)) (raiK up n k (f + aroundI pop pb j)) (rai pop pb up (j + 1) f x) := rfl
theorem flen_rai (pop pb up : Int) : ∀ (j : Nat) (f : Int) (F : Fo), flen (rai pop pb up j f F) = flen F
  | _, _, .nil => rfl
  | j, f, .cons p n a k x => by rw [rai_cons]; simp only [flen, flen_rai pop pb up (j + 1) f x]
theorem press_rai (pop pb up : Int) : ∀ (j : Nat) (f : Int) (F : Fo), press (rai pop pb up j f F) = press F
  | _, _, .nil => rfl
  | j, f, .cons p n a k x => by rw [rai_cons]; simp only [press, press_rai pop pb up (j + 1) f x]
theorem rai_app (pop pb up : Int) : ∀ (j : Nat) (f : Int) (F G : Fo), rai pop pb up j f (F.app G) = (rai pop pb up j f F).app (rai pop pb up (j + flen F) f G)
  | _, _, .nil, G => by simp [Fo.app, rai, flen]
  | j, f, .cons p n a k x, G => by
    have := rai_app pop pb up (j + 1) f x G
    rw [show (Fo.cons p n a k x).app G = .cons p n a k (x.app G) from rfl, rai_cons, rai_cons, this]
    simp only [Fo.app, flen]
    rw [show j + 1 + flen x = j + (flen x + 1) from by omega]

/-- Blocks of R, and new ones. -/
def Mixed (R : Nat → Prop) (w w' : World) (b : Nat) : Prop := R b ∨ fresh w w' b
/-- A tree comes back, of old and new memory. -/
def TreePost (R : Nat → Prop) (w : World) (n : Nd) (ats : List Nd) (ks : Fo) (e : Ending) (w' : World) : Prop := Below w.heap.size w w' ∧ ∃ ys, e = .returned (.agg ys.toArray) ∧ TreeC (Mixed R w w') w' ys n ats ks

/-- .. while one row of the call's own is still written. -/
def Beside1 (R : Nat → Prop) (B : Nat) (w : World) (u : Value) (b : Nat) : Prop := (R b ∨ (B ≤ b ∧ b < w.heap.size)) ∧ u.ownBlock ≠ some b

theorem foc_step1 {R : Nat → Prop} {B0 B : Nat} {wr V w2 W w' wf : World} {e1 : TypeId} {s1 n1 : Nat} {u : Value} {x1 : List Value} {F : Fo} {xs ys : List Value} {nd : Nd} {ats : List Nd} {ks : Fo} {pre : List Nd} {A' : Option Addr} {m c' : Nat} {zs : List Value}
    (hfc : FoC (Beside1 R B wr u) wr F xs) (ht : TreeC (Mixed R V w2) w2 ys nd ats ks) (hV : wr.heap.size ≤ V.heap.size) (hb : Below wr.heap.size wr w2) (hB : B ≤ wr.heap.size) (hR : ∀ b, R b → b < B0) (hB0 : B0 ≤ B)
    (h1 : wr.ownsRow B e1 s1 u n1 x1) (hW : Below w2.heap.size w2 W) (hap : Appended W w' B e1 s1 u A' m c' zs)
    (hwf : ∀ b, b < B0 ∨ B ≤ b → ∀ o, wf.cell? ⟨b, o, none⟩ = w'.cell? ⟨b, o, none⟩) (hws : wf.heap.size = w'.heap.size) :
    FoC (Beside1 R B wf (.slice A' m c')) wf (F.app (.cons pre nd ats ks .nil)) (xs ++ ys) := by
  have hWs := hW.size
  have hbs := hb.size
  have hgs := hap.grown.size
  have hcell : ∀ b, b < w2.heap.size → (b < B0 ∨ B ≤ b) → u.ownBlock ≠ some b → ∀ o, wf.cell? ⟨b, o, none⟩ = w2.cell? ⟨b, o, none⟩ := fun b hb1 hb2 hb3 o => by
    rw [hwf b hb2 o, World.cell?_of_block (w := W) (hap.grown.block b (by omega) (fun e => hb3 e.symm)), hW.cell (p := ⟨b, o, none⟩) hb1]
  have hnew : ∀ b, b < w2.heap.size → u.ownBlock ≠ some b → (Value.slice A' m c').ownBlock ≠ some b := fun b hb1 hb2 e => by
    rcases hap.new b e with e | e
    · exact hb2 e
    · omega
  refine FoC.app F _ xs ys (FoC.keep ?_ F xs hfc) ?_
  · rintro b ⟨hb1, hb3⟩
    have hlt : b < wr.heap.size := by
      rcases hb1 with h | h
      · have := hR b h; omega
      · exact h.2
    have hor : b < B0 ∨ B ≤ b := by
      rcases hb1 with h | h
      · exact .inl (hR b h)
      · exact .inr h.1
    refine ⟨⟨hb1.imp id (fun h => ⟨h.1, by omega⟩), hnew b (by omega) hb3⟩, fun o => ?_⟩
    rw [hcell b (by omega) hor hb3, hb.cell (p := ⟨b, o, none⟩) hlt]
  · refine ⟨ys, [], by simp, ht.keep ?_, rfl⟩
    intro b hm
    have hu : u.ownBlock ≠ some b := fun e => by
      have h2 := ownsRow_block h1 e
      rcases hm with h | ⟨h, _⟩
      · have := hR b h; omega
      · omega
    have hlt : b < w2.heap.size := by
      rcases hm with h | ⟨_, h⟩
      · have := hR b h; omega
      · exact h
    have hor : b < B0 ∨ B ≤ b := by
      rcases hm with h | ⟨h, _⟩
      · exact .inl (hR b h)
      · exact .inr (by omega)
    refine ⟨⟨?_, hnew b hlt hu⟩, hcell b hlt hor hu⟩
    rcases hm with h | ⟨h, h'⟩
    · exact .inl h
    · exact .inr ⟨by omega, by omega⟩
end

section
open Go.RowKit

/-- What was lifted by one leaves no place. -/
theorem und_cn (x : Int) (pop pb : Int) : ∀ (j : Nat) (a : Int) (F : Fo), cnF x pop pb j a (raF 1 x pop pb j a F) = 0
  | _, _, .nil => rfl
  | j, a, .cons p n ats k y => by
    have hs := raN_same 1 x n (a + aroundI pop pb j)
    simp only [raF, cnF, hs.1, hs.2]
    rw [und_cn x n.op n.b 0 _ k, und_cn x pop pb (j + 1) a y]
    have : ¬ (n.op = 1 ∧ (raN 1 x n (a + aroundI pop pb j)).a - (a + aroundI pop pb j) = x) := by
      unfold raN
      split
      · simp only; omega
      · omega
    rw [if_neg this]; rfl
theorem und_em (u : Put) (x : Int) (n : Nd) (a : Int) : (puV u x).em () (raN 1 x n a) a = [n] ∧ (puV u x).dm () (raN 1 x n a) a := by
  unfold raN
  split
  · rename_i h
    constructor
    · simp only [puV]
      rw [if_neg (by omega), if_pos (by omega)]
      have : n.a + 1 - 1 = n.a := by omega
      rw [this]
    · simp only [puV]; intro h2; omega
  · rename_i h
    constructor
    · simp only [puV]
      rw [if_neg (by omega), if_neg (by omega)]
    · simp only [puV]; intro h2; omega
theorem und_row (u : Put) (x : Int) (pop pb : Int) : ∀ (j : Nat) (a : Int) (F : Fo), (puV u x).E pop pb j a () (raF 1 x pop pb j a F) = row F ∧ (puV u x).D pop pb j a () (raF 1 x pop pb j a F)
  | _, _, .nil => ⟨rfl, trivial⟩
  | j, a, .cons p n ats k y => by
    have e : ∀ s : Unit, s = () := fun _ => rfl
    have hs := raN_same 1 x n (a + aroundI pop pb j)
    have h1 := und_row u x n.op n.b 0 (a + aroundI pop pb j) k
    have h2 := und_row u x pop pb (j + 1) a y
    have h3 := und_em u x n (a + aroundI pop pb j)
    constructor
    · simp only [raF]
      rw [Vis.E_cons, Vis.E1, h3.1, hs.1, hs.2, e ((puV u x).nx () _ _), e ((puV u x).S1 _ () _ _), h1.1, h2.1]
      simp [row]
    · simp only [raF]
      rw [Vis.D_cons, Vis.D1, hs.1, hs.2, e ((puV u x).nx () _ _), e ((puV u x).S1 _ () _ _)]
      exact ⟨⟨h3.2, h1.2⟩, h2.2⟩

/-- Lifted by one at a place, and anything put there: it is as it was. -/
theorem undone {t u : List Nd} {x : Int} (ht : shapeI t = 0) (hu : shapeI u = 0) (h0 : 0 ≤ x) (h1 : x ≤ 1048577) (h : (liftR t 1 x).2 = 0) : substD (liftR t 1 x).1 u (min x 1048577) ∧ shapeI (liftR t 1 x).1 = 0 ∧ substR (liftR t 1 x).1 u x = (t, 0) := by
  obtain ⟨hl, n, ats, k, hpp, hrow, hfs⟩ := shape_ok ht
  obtain ⟨hul, un, ua, uk, hpu, hurow, hufs⟩ := shape_ok hu
  have hm : min x 1048577 = x := by omega
  have hlr : liftR t 1 x = if (raV 1 x).G1 0 () n k = true then ((raV 1 x).E1 0 () n ats k, 0) else ([], 6) := by
    unfold liftR
    rw [if_pos ht, if_neg (by omega)]
    unfold liftT
    rw [hpp, hm]
  by_cases hg : (raV 1 x).G1 0 () n k = true
  · rw [if_pos hg] at hlr
    rw [hlr]
    obtain ⟨hp2, hs2, hl2⟩ := lift_right (up := 1) (fr := x) hpp hl (by omega) hg
    have hs := raN_same 1 x n 0
    have hem := und_em ⟨un, ua, uk⟩ x n 0
    have hro := und_row ⟨un, ua, uk⟩ x n.op n.b 0 0 k
    have e : ∀ s : Unit, s = () := fun _ => rfl
    have hcn : cnT x (raN 1 x n 0) (raF 1 x n.op n.b 0 0 k) = 0 := by
      unfold cnT
      rw [hs.1, hs.2, und_cn]
      have : ¬ (n.op = 1 ∧ (raN 1 x n 0).a = x) := by
        unfold raN
        split
        · simp only; omega
        · omega
      rw [if_neg this]; rfl
    refine ⟨?_, hs2, ?_⟩
    · unfold substD
      rw [hp2, hpu, hm]
      simp only
      rw [Vis.D1, hs.1, hs.2]
      exact ⟨hem.2, hro.2⟩
    · unfold substR
      rw [if_pos hs2, if_pos hu, if_neg (by omega), hm]
      unfold substT
      rw [hp2, hpu]
      simp only
      rw [hcn, if_neg (by omega), if_neg (by rw [hl2]; omega), Vis.E1, hem.1, hs.1, hs.2, e ((puV ⟨un, ua, uk⟩ x).nx () _ _), hro.1, hrow]
      rfl
  · rw [if_neg hg] at hlr
    rw [hlr] at h
    cases h
end

section
open Go.RowKit

theorem ra_twice {a b fr : Int} (ha : 0 ≤ a) (n : Nd) (y : Int) : raN b (fr + a) (raN a fr n y) y = raN (a + b) fr n y := by
  unfold raN
  by_cases h : n.op = 1 ∧ fr + y ≤ n.a
  · rw [if_pos h, if_pos h]
    simp only
    rw [if_pos ⟨h.1, by omega⟩]
    congr 1
    omega
  · rw [if_neg h, if_neg h, if_neg (fun q => h ⟨q.1, by omega⟩)]
theorem ra_twice_ok {a b fr : Int} (ha : 0 ≤ a) (hb : 0 ≤ b) {n : Nd} {y : Int} (h : (raV (a + b) fr).ok () n y = true) : (raV a fr).ok () n y = true ∧ (raV b (fr + a)).ok () (raN a fr n y) y = true := by
  simp only [raV] at h ⊢
  unfold raN
  by_cases h1 : n.op = 1 ∧ fr + y ≤ n.a
  · rw [if_pos h1] at h
    rw [if_pos h1, if_pos h1]
    simp only [decide_eq_true_eq] at h ⊢
    rw [if_pos ⟨h1.1, by omega⟩]
    exact ⟨by omega, by simp only [decide_eq_true_eq]; omega⟩
  · rw [if_neg h1, if_neg h1, if_neg (fun q => h1 ⟨q.1, by omega⟩)]
    exact ⟨rfl, rfl⟩
theorem raF_twice {a b fr : Int} (ha : 0 ≤ a) (pop pb : Int) : ∀ (j : Nat) (y : Int) (F : Fo), raF b (fr + a) pop pb j y (raF a fr pop pb j y F) = raF (a + b) fr pop pb j y F
  | _, _, .nil => rfl
  | j, y, .cons p n ats k x => by
    have hs := raN_same a fr n (y + aroundI pop pb j)
    simp only [raF]
    rw [hs.1, hs.2, ra_twice ha, raF_twice ha n.op n.b 0 _ k, raF_twice ha pop pb (j + 1) y x]
theorem raF_twice_ok {a b fr : Int} (ha : 0 ≤ a) (hb : 0 ≤ b) (pop pb : Int) : ∀ (j : Nat) (y : Int) (F : Fo), (raV (a + b) fr).G pop pb j y () F = true → (raV a fr).G pop pb j y () F = true ∧ (raV b (fr + a)).G pop pb j y () (raF a fr pop pb j y F) = true
  | _, _, .nil, _ => ⟨rfl, rfl⟩
  | j, y, .cons p n ats k x, h => by
    have hs := raN_same a fr n (y + aroundI pop pb j)
    rw [Vis.G_cons, Vis.G1, Bool.and_eq_true, Bool.and_eq_true] at h
    obtain ⟨⟨h1, h2⟩, h3⟩ := h
    have q1 := ra_twice_ok ha hb h1
    have q2 := raF_twice_ok ha hb n.op n.b 0 _ k h2
    have q3 := raF_twice_ok ha hb pop pb (j + 1) y x h3
    simp only [raF]
    rw [Vis.G_cons, Vis.G1, Vis.G_cons, Vis.G1, hs.1, hs.2]
    simp only [Bool.and_eq_true]
    exact ⟨⟨⟨q1.1, q2.1⟩, q3.1⟩, ⟨⟨q1.2, q2.2⟩, q3.2⟩⟩
theorem ra_gone {a fr : Int} (ha : 0 < a) (n : Nd) (y : Int) : (decide ((raN a fr n y).op = 1) && decide ((raN a fr n y).a - y = fr)) = false := by
  unfold raN
  split
  · rename_i h
    simp only [Bool.and_eq_false_iff, decide_eq_false_iff_not]
    right; omega
  · rename_i h
    simp only [Bool.and_eq_false_iff, decide_eq_false_iff_not]
    by_cases h1 : n.op = 1
    · right
      intro h2
      exact h ⟨h1, by omega⟩
    · exact .inl h1
theorem raF_gone {a fr : Int} (ha : 0 < a) (pop pb : Int) : ∀ (j : Nat) (y : Int) (F : Fo), exF (fun v z => decide (v - z = fr)) pop pb j y (raF a fr pop pb j y F) = false
  | _, _, .nil => rfl
  | j, y, .cons p n ats k x => by
    have hs := raN_same a fr n (y + aroundI pop pb j)
    have h1 := ra_gone (fr := fr) ha n (y + aroundI pop pb j)
    have h2 := raF_gone (fr := fr) ha n.op n.b 0 (y + aroundI pop pb j) k
    have h3 := raF_gone (fr := fr) ha pop pb (j + 1) y x
    simp only [raF, exF]
    rw [h1, hs.1, hs.2, h2, h3]
    rfl
theorem ra_low {up fr : Int} {n : Nd} {y : Int} (h : (decide (n.op = 1) && decide (fr ≤ n.a - y)) = false) : raN up fr n y = n := by
  unfold raN
  simp only [Bool.and_eq_false_iff, decide_eq_false_iff_not] at h
  rw [if_neg]
  intro q
  rcases h with h | h
  · exact h q.1
  · exact h (by omega)
theorem raF_low {up fr : Int} (pop pb : Int) : ∀ (j : Nat) (y : Int) (F : Fo), exF (fun v z => decide (fr ≤ v - z)) pop pb j y F = false → raF up fr pop pb j y F = F
  | _, _, .nil, _ => rfl
  | j, y, .cons p n ats k x, h => by
    simp only [exF, Bool.or_eq_false_iff] at h
    obtain ⟨⟨h1, h2⟩, h3⟩ := h
    simp only [raF]
    rw [ra_low h1, raF_low n.op n.b 0 _ k h2, raF_low pop pb (j + 1) y x h3]

theorem liftR_form {t : List Nd} {n : Nd} {ats : List Nd} {k : Fo} {up fr : Int} (ht : shapeI t = 0) (hpp : pp [false] t = some (.cons [] n ats k .nil, [])) (h0 : 0 ≤ up) (h1 : 0 ≤ fr) (h2 : fr ≤ 1048577) :
    liftR t up fr = if (raV up fr).G1 0 () n k = true then ((raV up fr).E1 0 () n ats k, 0) else ([], 6) := by
  have hm : min fr 1048577 = fr := by omega
  unfold liftR
  rw [if_pos ht, if_neg (by omega)]
  unfold liftT
  rw [hpp, hm]

/-- Lifting by a sum is lifting twice; and what is lifted. -/
theorem lifted {t : List Nd} {a b fr : Int} (ht : shapeI t = 0) (ha : 0 ≤ a) (hb : 0 ≤ b) (hf : 0 ≤ fr) (hfa : fr + a ≤ 1048577) (h : (liftR t (a + b) fr).2 = 0) :
    (liftR t a fr).2 = 0 ∧ shapeI (liftR t a fr).1 = 0 ∧ (liftR (liftR t a fr).1 b (fr + a)).2 = 0 ∧ (liftR (liftR t a fr).1 b (fr + a)).1 = (liftR t (a + b) fr).1 ∧ shapeI (liftR t (a + b) fr).1 = 0 ∧
      (0 < a → freeB (liftR t a fr).1 fr = false) ∧ (belowB t fr = true → t = (liftR t (a + b) fr).1) := by
  obtain ⟨hl, n, ats, k, hpp, hrow, hfs⟩ := shape_ok ht
  have e1 := liftR_form (up := a + b) (fr := fr) ht hpp (by omega) hf (by omega)
  have e2 := liftR_form (up := a) (fr := fr) ht hpp ha hf (by omega)
  by_cases hg : (raV (a + b) fr).G1 0 () n k = true
  · rw [if_pos hg] at e1
    have hs := raN_same a fr n 0
    have hg0 := hg
    rw [Vis.G1, Bool.and_eq_true] at hg0
    obtain ⟨g1, g2⟩ := hg0
    have q1 := ra_twice_ok ha hb g1
    have q2 := raF_twice_ok ha hb n.op n.b 0 0 k g2
    have hga : (raV a fr).G1 0 () n k = true := by
      rw [Vis.G1, Bool.and_eq_true]; exact ⟨q1.1, q2.1⟩
    rw [if_pos hga] at e2
    obtain ⟨hp2, hs2, hl2⟩ := lift_right (up := a) (fr := fr) hpp hl ha hga
    have hgb : (raV b (fr + a)).G1 0 () (raN a fr n 0) (raF a fr n.op n.b 0 0 k) = true := by
      rw [Vis.G1, Bool.and_eq_true, hs.1, hs.2]; exact ⟨q1.2, q2.2⟩
    have e3 := liftR_form (up := b) (fr := fr + a) hs2 hp2 hb (by omega) hfa
    rw [if_pos hgb] at e3
    obtain ⟨_, hs1, _⟩ := lift_right (up := a + b) (fr := fr) hpp hl (by omega) hg
    have e4 : (raV b (fr + a)).E1 0 () (raN a fr n 0) ats (raF a fr n.op n.b 0 0 k) = (raV (a + b) fr).E1 0 () n ats k := by
      rw [raV_row1, raV_row1, hs.1, hs.2, ra_twice ha, raF_twice ha]
    rw [e2]
    simp only
    rw [e3, e1]
    refine ⟨by trivial, hs2, by trivial, e4, hs1, fun hpos => ?_, fun hbel => ?_⟩
    · have r1 := ra_gone (fr := fr) hpos n 0
      have r2 := raF_gone (fr := fr) hpos n.op n.b 0 0 k
      unfold freeB exR
      rw [hp2]
      simp only [exT]
      rw [r1, hs.1, hs.2, r2]
      simp
    · unfold belowB exR at hbel
      rw [hpp] at hbel
      have hmx : max fr 0 = fr := by omega
      rw [hmx] at hbel
      simp only [exT, Bool.and_eq_true, Bool.not_eq_true', Bool.or_eq_false_iff] at hbel
      obtain ⟨_, r1, r2⟩ := hbel
      simp only
      rw [raV_row1, ra_low r1, raF_low n.op n.b 0 0 k r2, hrow]
  · rw [if_neg hg] at e1
    rw [e1] at h
    cases h
end

section
open Go.RowKit

/-- Right nodes all the way; variables have nothing below them. -/
def Vk : Fo → Prop
  | .nil => True
  | .cons _ n ats k x => okN n = true ∧ (n.op = 1 → ats = [] ∧ k = .nil) ∧ Vk k ∧ Vk x
theorem ds_one {n : Nd} (h : n.op = 1) : ds n = [] := by simp [ds, kidsI, h]
theorem vk_node {n : Nd} {ats : List Nd} {k : Fo} (h1 : AtOk n ats) (h2 : Wf (ds n) k) (h : n.op = 1) : ats = [] ∧ k = .nil := by
  rw [ds_one h] at h2
  constructor
  · unfold AtOk at h1
    rw [if_neg (by omega)] at h1
    exact h1
  · cases k with
    | nil => rfl
    | cons _ _ _ _ _ => exact h2.elim
theorem vk_of_wf : ∀ (F : Fo) (dl : List Bool), Wf dl F → Vk F
  | .nil, _, _ => trivial
  | .cons _ _ _ _ _, [], h => h.elim
  | .cons p n ats k x, d :: dr, h => by
    obtain ⟨_, hok, hat, hk, hx⟩ := h
    exact ⟨hok, vk_node hat hk, vk_of_wf k _ hk, vk_of_wf x _ hx⟩
theorem var_ok {n : Nd} (hok : okN n = true) (h : n.op = 1) : 0 ≤ n.a ∧ n.a ≤ 1048576 ∧ n.b = 0 := by
  simp only [okN, Bool.and_eq_true] at hok
  have := hok.1.1
  rw [h] at this
  simpa [plainB] using this

theorem pre_all : ∀ (F : Fo), (∀ m i, i % 2 = 0 → Wf ((List.replicate m [true, false]).flatten) F → PreOk true i F) ∧ (∀ m i, i % 2 = 1 → Wf (false :: (List.replicate m [true, false]).flatten) F → PreOk true i F) ∧ (∀ m i, Wf (List.replicate m false) F → PreOk false i F)
  | .nil => ⟨fun _ _ _ _ => trivial, fun _ _ _ _ => trivial, fun _ _ _ => trivial⟩
  | .cons p n ats k x => by
    have hk := pre_all k
    have hx := pre_all x
    have kid : Wf (ds n) k → PreOk (decide (n.op = 12)) 0 k := fun h => by
      unfold ds at h
      by_cases h12 : n.op = 12
      · rw [if_pos h12] at h
        rw [decide_eq_true h12]
        exact hk.1 _ 0 rfl h
      · rw [if_neg h12] at h
        rw [decide_eq_false h12]
        exact hk.2.2 _ 0 h
    refine ⟨fun m i hi h => ?_, fun m i hi h => ?_, fun m i h => ?_⟩
    · cases m with
      | zero => exact h.elim
      | succ m =>
        simp only [List.replicate_succ, List.flatten_cons, List.cons_append, List.nil_append] at h
        obtain ⟨⟨f, hp, _⟩, _, _, hkk, hxx⟩ := h
        exact ⟨by rw [hp]; simp [hi], kid hkk, hx.2.1 m (i + 1) (by omega) hxx⟩
    · obtain ⟨hp, _, _, hkk, hxx⟩ := h
      simp only at hp
      exact ⟨by rw [hp]; simp [hi], kid hkk, hx.1 m (i + 1) (by omega) hxx⟩
    · cases m with
      | zero => exact h.elim
      | succ m =>
        rw [List.replicate_succ] at h
        obtain ⟨hp, _, _, hkk, hxx⟩ := h
        simp only at hp
        exact ⟨by rw [hp]; simp, kid hkk, hx.2.2 m (i + 1) hxx⟩
theorem pre_of_wf {n : Nd} {k : Fo} (h : Wf (ds n) k) : PreOk (decide (n.op = 12)) 0 k := by
  have hk := pre_all k
  unfold ds at h
  by_cases h12 : n.op = 12
  · rw [if_pos h12] at h
    rw [decide_eq_true h12]
    exact hk.1 _ 0 rfl h
  · rw [if_neg h12] at h
    rw [decide_eq_false h12]
    exact hk.2.2 _ 0 h

theorem le_max_dec (m x y : Int) : decide (m ≤ max x y) = (decide (m ≤ x) || decide (m ≤ y)) := by
  rw [← Bool.decide_or]
  exact decide_eq_decide.2 (by omega)
theorem max_le_dec (m x y : Int) : decide (max x y ≤ m) = (decide (x ≤ m) && decide (y ≤ m)) := by
  rw [← Bool.decide_and]
  exact decide_eq_decide.2 (by omega)

/-- The greatest free variable. -/
theorem grtT_of {m a : Int} (hm : 0 ≤ m) {n : Nd} {k : Fo} (h1 : n.op = 1 → k = .nil) (ih : decide (m ≤ grt n.op n.b 0 a k) = exF (fun v z => decide (m ≤ v - z)) n.op n.b 0 a k) : decide (m ≤ grtT n k a) = exT (fun v z => decide (m ≤ v - z)) a n k := by
  unfold grtT exT
  by_cases h : n.op = 1
  · rw [if_pos h, h1 h, decide_eq_true h]
    simp only [exF, Bool.or_false, Bool.true_and]
    exact decide_eq_decide.2 (by omega)
  · rw [if_neg h, decide_eq_false h, ih]
    simp
theorem grt_ge {m : Int} (hm : 0 ≤ m) (pop pb : Int) : ∀ (j : Nat) (a : Int) (F : Fo), Vk F → decide (m ≤ grt pop pb j a F) = exF (fun v z => decide (m ≤ v - z)) pop pb j a F
  | _, _, .nil, _ => decide_eq_false (by simp only [grt]; omega)
  | j, a, .cons p n ats k x, h => by
    rw [grt_cons, exF_cons, le_max_dec, grt_ge hm pop pb (j + 1) a x h.2.2.2, grtT_of hm (fun q => (h.2.1 q).2) (grt_ge hm n.op n.b 0 _ k h.2.2.1)]

/-- How often a variable stands free. -/
theorem timT_of {v a : Int} {n : Nd} {k : Fo} (h1 : n.op = 1 → k = .nil) (ih : 0 ≤ (tim n.op n.b 0 (v + a) k).1 ∧ decide (0 < (tim n.op n.b 0 (v + a) k).1) = exF (fun x z => decide (x - z = v)) n.op n.b 0 a k) : 0 ≤ (timT n k (v + a)).1 ∧ decide (0 < (timT n k (v + a)).1) = exT (fun x z => decide (x - z = v)) a n k := by
  unfold timT exT
  by_cases h : n.op = 1
  · rw [if_pos h, h1 h, decide_eq_true h]
    simp only [exF, Bool.or_false, Bool.true_and]
    by_cases h2 : n.a = v + a
    · rw [if_pos h2]
      exact ⟨by decide, by rw [decide_eq_true (by omega : n.a - a = v)]; decide⟩
    · rw [if_neg h2]
      exact ⟨by decide, by rw [decide_eq_false (by omega : ¬ n.a - a = v)]; decide⟩
  · rw [if_neg h, decide_eq_false h, ih.2]
    exact ⟨ih.1, by simp⟩
theorem tim_ex (v : Int) (pop pb : Int) : ∀ (j : Nat) (a : Int) (F : Fo), Vk F → 0 ≤ (tim pop pb j (v + a) F).1 ∧ decide (0 < (tim pop pb j (v + a) F).1) = exF (fun x z => decide (x - z = v)) pop pb j a F
  | _, _, .nil, _ => ⟨Int.le_refl _, rfl⟩
  | j, a, .cons p n ats k x, h => by
    have h1 := timT_of (v := v) (a := a + aroundI pop pb j) (fun q => (h.2.1 q).2) (tim_ex v n.op n.b 0 _ k h.2.2.1)
    have h2 := tim_ex v pop pb (j + 1) a x h.2.2.2
    rw [tim_cons, exF_cons, Int.add_assoc]
    simp only
    refine ⟨by omega, ?_⟩
    rw [← h1.2, ← h2.2, ← Bool.decide_or]
    exact decide_eq_decide.2 (by omega)

/-- A question that no variable answers with yes. -/
theorem exF_no {p : Int → Int → Bool} (hp : ∀ x z, 0 ≤ x → x ≤ 1048576 → 0 ≤ z → p x z = false) (pop pb : Int) (hpa : ∀ k : Int, 0 ≤ aroundI pop pb k) : ∀ (j : Nat) (a : Int) (F : Fo), Vk F → 0 ≤ a → exF p pop pb j a F = false
  | _, _, .nil, _, _ => rfl
  | j, a, .cons _ n _ k x, h, ha => by
    have h0 := hpa j
    have h1 := exF_no hp n.op n.b (fun i => (aroundI_bd h.1 i).1) 0 (a + aroundI pop pb j) k h.2.2.1 (by omega)
    have h2 := exF_no hp pop pb hpa (j + 1) a x h.2.2.2 ha
    rw [exF_cons, h2, exT, h1]
    by_cases hv : n.op = 1
    · have := var_ok h.1 hv
      rw [hp _ _ this.1 this.2.1 (by omega)]
      simp
    · rw [decide_eq_false hv]; rfl
theorem exT_no {p : Int → Int → Bool} (hp : ∀ x z, 0 ≤ x → x ≤ 1048576 → 0 ≤ z → p x z = false) {n : Nd} {k : Fo} (hok : okN n = true) (hk : Vk k) : exT p 0 n k = false := by
  have h1 := exF_no hp n.op n.b (fun i => (aroundI_bd hok i).1) 0 0 k hk (Int.le_refl _)
  rw [exT, h1]
  by_cases hv : n.op = 1
  · have := var_ok hok hv
    rw [hp _ _ this.1 this.2.1 (Int.le_refl _)]
    simp
  · rw [decide_eq_false hv]; rfl

/-- The highest index, once raised. -/
theorem higT_of {up fr a : Int} {n : Nd} {k : Fo} (h1 : n.op = 1 → k = .nil) (ih : decide (hig n.op n.b up 0 (fr + a) k ≤ 1048576) = (raV up fr).G n.op n.b 0 a () k) : decide (higT up n k (fr + a) ≤ 1048576) = (raV up fr).G1 a () n k := by
  have e : ∀ s : Unit, s = () := fun _ => rfl
  rw [Vis.G1, e ((raV up fr).nx () n a)]
  unfold higT
  by_cases h : n.op = 1
  · rw [if_pos h, h1 h]
    simp only [raV, Vis.G, Bool.and_true]
    by_cases h2 : fr + a ≤ n.a
    · rw [if_pos h2, if_pos ⟨h, h2⟩]
      exact decide_eq_decide.2 (by omega)
    · rw [if_neg h2, if_neg (fun q => h2 q.2)]
      decide
  · rw [if_neg h, ih]
    have : (raV up fr).ok () n a = true := if_neg (fun q => h q.1)
    rw [this, Bool.true_and]
theorem hig_le (up fr : Int) (pop pb : Int) : ∀ (j : Nat) (a : Int) (F : Fo), Vk F → decide (hig pop pb up j (fr + a) F ≤ 1048576) = (raV up fr).G pop pb j a () F
  | _, _, .nil, _ => rfl
  | j, a, .cons p n ats k x, h => by
    have e : ∀ s : Unit, s = () := fun _ => rfl
    rw [hig_cons, Vis.G_cons, max_le_dec, Int.add_assoc, higT_of (fun q => (h.2.1 q).2) (hig_le up fr n.op n.b 0 _ k h.2.2.1), hig_le up fr pop pb (j + 1) a x h.2.2.2, e ((raV up fr).S1 _ () n k)]

/-- What is raised. -/
theorem rai_node {up fr a : Int} {n : Nd} {ats : List Nd} {k : Fo} (hok : okN n = true) (h1 : n.op = 1 → ats = [] ∧ k = .nil) (ih : rai n.op n.b up 0 (fr + a) k = raF up fr n.op n.b 0 a k) : raiN up n (fr + a) = raN up fr n a ∧ raiA n ats (fr + a) = ats ∧ raiK up n k (fr + a) = raF up fr n.op n.b 0 a k := by
  unfold raiN raN raiA raiK
  by_cases h : n.op = 1 ∧ fr + a ≤ n.a
  · rw [if_pos h, if_pos h, if_pos h, if_pos h]
    have := var_ok hok h.1
    refine ⟨by rw [h.1, this.2.2], (h1 h.1).1.symm, by rw [(h1 h.1).2]; rfl⟩
  · rw [if_neg h, if_neg h, if_neg h, if_neg h]
    exact ⟨rfl, rfl, ih⟩
theorem rai_eq (up fr : Int) (pop pb : Int) : ∀ (j : Nat) (a : Int) (F : Fo), Vk F → rai pop pb up j (fr + a) F = raF up fr pop pb j a F
  | _, _, .nil, _ => rfl
  | j, a, .cons p n ats k x, h => by
    have h1 := rai_node (up := up) (fr := fr) (a := a + aroundI pop pb j) h.1 h.2.1 (rai_eq up fr n.op n.b 0 _ k h.2.2.1)
    rw [rai_cons, Int.add_assoc, h1.1, h1.2.1, h1.2.2, rai_eq up fr pop pb (j + 1) a x h.2.2.2]
    rfl

/-- None is raised: all stays, and nothing is too large. -/
theorem raG_low {up fr : Int} (pop pb : Int) : ∀ (j : Nat) (a : Int) (F : Fo), exF (fun v z => decide (fr ≤ v - z)) pop pb j a F = false → (raV up fr).G pop pb j a () F = true
  | _, _, .nil, _ => rfl
  | j, a, .cons p n ats k x, h => by
    have e : ∀ s : Unit, s = () := fun _ => rfl
    rw [exF_cons, exT] at h
    simp only [Bool.or_eq_false_iff] at h
    obtain ⟨⟨h1, h2⟩, h3⟩ := h
    have h0 : (raV up fr).ok () n (a + aroundI pop pb j) = true := by
      refine if_neg fun q => ?_
      simp only [Bool.and_eq_false_iff, decide_eq_false_iff_not] at h1
      rcases h1 with h1 | h1
      · exact h1 q.1
      · exact h1 (by omega)
    rw [Vis.G_cons, Vis.G1, h0, e ((raV up fr).nx () _ _), raG_low n.op n.b 0 _ k h2, e ((raV up fr).S1 _ () n k), raG_low pop pb (j + 1) a x h3]
    rfl
theorem raG1_low {up fr : Int} {n : Nd} {k : Fo} (h : exT (fun v z => decide (fr ≤ v - z)) 0 n k = false) (ats : List Nd) : (raV up fr).G1 0 () n k = true ∧ (raV up fr).E1 0 () n ats k = n :: (ats ++ row k) := by
  have e : ∀ s : Unit, s = () := fun _ => rfl
  rw [exT] at h
  simp only [Bool.or_eq_false_iff] at h
  obtain ⟨h1, h2⟩ := h
  constructor
  · have h0 : (raV up fr).ok () n 0 = true := by
      refine if_neg fun q => ?_
      simp only [Bool.and_eq_false_iff, decide_eq_false_iff_not] at h1
      rcases h1 with h1 | h1
      · exact h1 q.1
      · exact h1 (by omega)
    rw [Vis.G1, h0, e ((raV up fr).nx () _ _), raG_low n.op n.b 0 _ k h2]
    rfl
  · rw [raV_row1, ra_low h1, raF_low n.op n.b 0 _ k h2]
/-- Something is raised by more than the highest index. -/
theorem raG_big {up fr : Int} (hup : 1048576 < up) (pop pb : Int) : ∀ (j : Nat) (a : Int) (F : Fo), Vk F → exF (fun v z => decide (fr ≤ v - z)) pop pb j a F = true → (raV up fr).G pop pb j a () F = false
  | _, _, .nil, _, h => by cases h
  | j, a, .cons p n ats k x, hv, h => by
    have e : ∀ s : Unit, s = () := fun _ => rfl
    rw [exF_cons, exT] at h
    simp only [Bool.or_eq_true, Bool.and_eq_true, decide_eq_true_eq] at h
    rw [Vis.G_cons, Vis.G1, e ((raV up fr).nx () _ _), e ((raV up fr).S1 _ () n k)]
    rcases h with (h | h) | h
    · have := var_ok hv.1 h.1
      have h0 : (raV up fr).ok () n (a + aroundI pop pb j) = false := by
        simp only [raV]
        rw [if_pos ⟨h.1, by omega⟩]
        exact decide_eq_false (by omega)
      rw [h0]; rfl
    · rw [raG_big hup n.op n.b 0 _ k hv.2.2.1 h]; simp
    · rw [raG_big hup pop pb (j + 1) a x hv.2.2.2 h]; simp
theorem raG1_big {up fr : Int} (hup : 1048576 < up) {n : Nd} {k : Fo} (hok : okN n = true) (hk : Vk k) (h : exT (fun v z => decide (fr ≤ v - z)) 0 n k = true) : (raV up fr).G1 0 () n k = false := by
  have e : ∀ s : Unit, s = () := fun _ => rfl
  rw [exT] at h
  simp only [Bool.or_eq_true, Bool.and_eq_true, decide_eq_true_eq] at h
  rw [Vis.G1, e ((raV up fr).nx () _ _)]
  rcases h with h | h
  · have := var_ok hok h.1
    have h0 : (raV up fr).ok () n 0 = false := by
      simp only [raV]
      rw [if_pos ⟨h.1, by omega⟩]
      exact decide_eq_false (by omega)
    rw [h0]; rfl
  · rw [raG_big hup n.op n.b 0 _ k hk h]; simp
end

section
open Go.RowKit

section
variable {l : List Nd} {n : Nd} {ats : List Nd} {k : Fo}

/-- What a right row has. -/
theorem right_row (hs : shapeI l = 0) (hpp : pp [false] l = some (.cons [] n ats k .nil, [])) : okN n = true ∧ (n.op = 1 → ats = [] ∧ k = .nil) ∧ Vk k ∧ AllOk k ∧ PreOk (decide (n.op = 12)) 0 k ∧ l = n :: (ats ++ row k) ∧ l.length ≤ 4096 ∧ fsize k ≤ 4096 := by
  obtain ⟨hl, n', ats', k', hpp', hrow, hfs⟩ := shape_ok hs
  rw [hpp] at hpp'
  injection hpp' with e
  injection e with e1 _
  injection e1 with _ e2 e3 e4 _
  subst e2 e3 e4
  have hw := wf_of_pp hpp
  have hal := pp_allok hpp
  obtain ⟨_, hok, hat, hk, _⟩ := hw
  exact ⟨hok, vk_node hat hk, vk_of_wf _ _ hk, hal.2.1, pre_of_wf hk, hrow, hl, hfs⟩

theorem most_le (hok : okN n = true) (h1 : n.op = 1 → k = .nil) (hk : Vk k) : grtT n k 0 ≤ 1048576 := by
  have h := grtT_of (m := 1048577) (a := 0) (by decide) h1 (grt_ge (by decide) n.op n.b 0 0 k hk)
  rw [exT_no (p := fun v z => decide ((1048577 : Int) ≤ v - z)) (fun x z _ _ _ => decide_eq_false (by omega)) hok hk] at h
  have := of_decide_eq_false h
  omega
theorem liftA (hs : shapeI l = 0) (hpp : pp [false] l = some (.cons [] n ats k .nil, [])) {up fr : Int} (h0 : 0 ≤ up) (h1 : 0 ≤ fr) (h : grtT n k 0 < fr) : liftR l up fr = (l, 0) := by
  obtain ⟨hok, hv, hk, _, _, hrow, _⟩ := right_row hs hpp
  have hm := most_le hok (fun q => (hv q).2) hk
  have hx : exT (fun v z => decide (min fr 1048577 ≤ v - z)) 0 n k = false := by
    rw [← grtT_of (by omega) (fun q => (hv q).2) (grt_ge (by omega) n.op n.b 0 0 k hk)]
    exact decide_eq_false (by omega)
  have hg := raG1_low (up := up) hx ats
  unfold liftR
  rw [if_pos hs, if_neg (by omega)]
  unfold liftT
  rw [hpp]
  simp only
  rw [if_pos hg.1, hg.2, hrow]
theorem lift_fr (hs : shapeI l = 0) (hpp : pp [false] l = some (.cons [] n ats k .nil, [])) {up fr : Int} (h0 : 0 ≤ up) (h1 : 0 ≤ fr) (h : fr ≤ grtT n k 0) : liftR l up fr = if (raV up fr).G1 0 () n k = true then ((raV up fr).E1 0 () n ats k, 0) else ([], 6) := by
  obtain ⟨hok, hv, hk, _⟩ := right_row hs hpp
  have hm := most_le hok (fun q => (hv q).2) hk
  exact liftR_form hs hpp h0 h1 (by omega)
theorem liftB (hs : shapeI l = 0) (hpp : pp [false] l = some (.cons [] n ats k .nil, [])) {up fr : Int} (h1 : 0 ≤ fr) (h : fr ≤ grtT n k 0) (hup : 1048576 < up) : liftR l up fr = ([], 6) := by
  obtain ⟨hok, hv, hk, _⟩ := right_row hs hpp
  have hx : exT (fun v z => decide (fr ≤ v - z)) 0 n k = true := by
    rw [← grtT_of h1 (fun q => (hv q).2) (grt_ge h1 n.op n.b 0 0 k hk)]
    exact decide_eq_true h
  rw [lift_fr hs hpp (by omega) h1 h, raG1_big hup hok hk hx]
  rfl
theorem liftC (hs : shapeI l = 0) (hpp : pp [false] l = some (.cons [] n ats k .nil, [])) {up fr : Int} (h0 : 0 ≤ up) (h1 : 0 ≤ fr) (h : fr ≤ grtT n k 0) (hh : 1048576 < higT up n k fr) : liftR l up fr = ([], 6) := by
  obtain ⟨hok, hv, hk, _⟩ := right_row hs hpp
  have hg := higT_of (up := up) (fr := fr) (a := 0) (fun q => (hv q).2) (hig_le up fr n.op n.b 0 0 k hk)
  rw [Int.add_zero, decide_eq_false (by omega)] at hg
  rw [lift_fr hs hpp h0 h1 h, ← hg]
  rfl
theorem liftD (hs : shapeI l = 0) (hpp : pp [false] l = some (.cons [] n ats k .nil, [])) {up fr : Int} (h0 : 0 ≤ up) (h1 : 0 ≤ fr) (h : fr ≤ grtT n k 0) (hh : higT up n k fr ≤ 1048576) :
    liftR l up fr = (row (.cons [] (raiN up n fr) (raiA n ats fr) (raiK up n k fr) .nil), 0) ∧ PreOk (decide ((raiN up n fr).op = 12)) 0 (raiK up n k fr) ∧ (row (.cons [] (raiN up n fr) (raiA n ats fr) (raiK up n k fr) .nil)).length ≤ 4096 := by
  obtain ⟨hok, hv, hk, _, _, hrow, hl, _⟩ := right_row hs hpp
  have hg := higT_of (up := up) (fr := fr) (a := 0) (fun q => (hv q).2) (hig_le up fr n.op n.b 0 0 k hk)
  rw [Int.add_zero, decide_eq_true hh] at hg
  have hr := rai_node (up := up) (fr := fr) (a := 0) hok hv (rai_eq up fr n.op n.b 0 0 k hk)
  rw [Int.add_zero] at hr
  obtain ⟨hp2, hs2, hl2⟩ := lift_right (up := up) (fr := fr) hpp hl h0 hg.symm
  rw [hr.1, hr.2.1, hr.2.2]
  obtain ⟨_, _, _, _, hpre, hrow2, _⟩ := right_row hs2 hp2
  have e : (raV up fr).E1 0 () n ats k = row (.cons [] (raN up fr n 0) ats (raF up fr n.op n.b 0 0 k) .nil) := by
    rw [raV_row1]; simp [row]
  refine ⟨?_, ?_, by rw [← e, hl2]; exact hl⟩
  · rw [lift_fr hs hpp h0 h1 h, if_pos hg.symm, e]
  · have := (raN_same up fr n 0)
    exact hpre
theorem free_told (hs : shapeI l = 0) (hpp : pp [false] l = some (.cons [] n ats k .nil, [])) {v : Int} (h0 : 0 ≤ v) : freeB l v = decide (0 < (timT n k v).1) := by
  obtain ⟨hok, hv, hk, _⟩ := right_row hs hpp
  have h := timT_of (v := v) (a := 0) (fun q => (hv q).2) (tim_ex v n.op n.b 0 0 k hk)
  rw [Int.add_zero] at h
  unfold freeB exR
  rw [hpp, decide_eq_true h0, decide_eq_true hs, h.2]
  rfl
theorem free_big (hs : shapeI l = 0) (hpp : pp [false] l = some (.cons [] n ats k .nil, [])) {v : Int} (h0 : 1048576 < v) : freeB l v = false := by
  obtain ⟨hok, hv, hk, _⟩ := right_row hs hpp
  unfold freeB exR
  rw [hpp]
  simp only
  rw [exT_no (p := fun x z => decide (x - z = v)) (fun x z _ _ _ => decide_eq_false (by omega)) hok hk]
  simp
theorem below_told (hs : shapeI l = 0) (hpp : pp [false] l = some (.cons [] n ats k .nil, [])) (v : Int) : belowB l v = (decide (grtT n k 0 < 0) || decide (grtT n k 0 < v)) := by
  obtain ⟨hok, hv, hk, _⟩ := right_row hs hpp
  have h := grtT_of (m := max v 0) (a := 0) (by omega) (fun q => (hv q).2) (grt_ge (by omega) n.op n.b 0 0 k hk)
  unfold belowB exR
  rw [hpp, decide_eq_true hs]
  simp only
  rw [← h, Bool.true_and, ← Bool.decide_or, ← decide_not]
  exact decide_eq_decide.2 (by omega)
end
end

section
open Go.RowKit

/-- The first kid of what is still to come. -/
theorem kid_ends {l : List Nd} {p : Nat} {d : Bool} {dr : List Bool} {pre : List Nd} {nd : Nd} {a : List Nd} {ks x : Fo} (hw : Wf (d :: dr) (.cons pre nd a ks x)) (hl : l.drop p = row (.cons pre nd a ks x)) (hp : p ≤ l.length) :
    ∃ q, ends [false] l (p + pre.length) = some q ∧ l.drop q = row x ∧ p + pre.length ≤ q ∧ q ≤ l.length ∧ (l.take q).drop (p + pre.length) = row (.cons [] nd a ks .nil) := by
  obtain ⟨_, hok, hat, hk, hx⟩ := hw
  have hd : l.drop (p + pre.length) = row (.cons [] nd a ks .nil) ++ row x := by
    rw [← List.drop_drop, hl]
    simp [row]
  have hw1 : Wf [false] (.cons [] nd a ks .nil) := ⟨rfl, hok, hat, hk, trivial⟩
  have hpp := pp_of_wf _ _ (row x) hw1
  have hlen := congrArg List.length hl
  rw [List.length_drop] at hlen
  have hlen2 : (row (.cons pre nd a ks x)).length = pre.length + ((row (.cons [] nd a ks .nil)).length + (row x).length) := by
    simp [row]; omega
  rw [hlen2] at hlen
  refine ⟨p + pre.length + (row (.cons [] nd a ks .nil)).length, ?_, ?_, by omega, by omega, ?_⟩
  · unfold ends
    rw [hd, hpp]
    simp only [Option.map_some]
    congr 1
    omega
  · rw [← List.drop_drop, hd]
    simp
  · rw [List.drop_take, hd]
    have : p + pre.length + (row (.cons [] nd a ks .nil)).length - (p + pre.length) = (row (.cons [] nd a ks .nil)).length := by omega
    rw [this]
    simp
end

section
open Go.RowKit

/-- .. as these rows. -/
structure RowsR (R : Nat → Prop) (w : World) (A : Option Addr) (n c : Nat) (ls : List (List Nd)) : Prop where
  len : ls.length = n
  few : n ≤ 5864062014805
  mem : 0 < n → ∃ b off, A = some ⟨b, off, none⟩ ∧ R b ∧ ∀ k, k < n → ∃ A' n' c', w.cell? ⟨b, off + k, none⟩ = some (.slice A' n' c') ∧ TermR R w A' n' c' (ls.getD k [])
theorem RowsR.keep {R R' : Nat → Prop} {w w' : World} {A : Option Addr} {n c : Nat} {ls : List (List Nd)} (h : RowsR R w A n c ls) (hR : ∀ b, R b → R' b ∧ ∀ o, w'.cell? ⟨b, o, none⟩ = w.cell? ⟨b, o, none⟩) : RowsR R' w' A n c ls := by
  refine ⟨h.len, h.few, fun hn => ?_⟩
  obtain ⟨b, off, e, hb, hk⟩ := h.mem hn
  refine ⟨b, off, e, (hR b hb).1, fun k hkn => ?_⟩
  obtain ⟨A', n', c', hc, ht⟩ := hk k hkn
  exact ⟨A', n', c', by rw [(hR b hb).2]; exact hc, ht.keep hR⟩
/-- What stands first in a row, and its kids; of a wrong row none. -/
def topOf (l : List Nd) : Nd × Fo := if shapeI l = 0 then (match pp [false] l with | some (.cons _ n _ k _, _) => (n, k) | _ => (⟨0, 0, 0⟩, .nil)) else (⟨0, 0, 0⟩, .nil)
def arL (pop pb : Int) : Nat → Fo → List Int
  | _, .nil => []
  | j, .cons _ _ _ _ x => aroundI pop pb j :: arL pop pb (j + 1) x
theorem arL_app (pop pb : Int) : ∀ (j : Nat) (F G : Fo), arL pop pb j (F.app G) = arL pop pb j F ++ arL pop pb (j + flen F) G
  | _, .nil, G => by simp [Fo.app, arL, flen]
  | j, .cons p n a k x, G => by
    simp only [Fo.app, arL, flen, List.cons_append]
    rw [arL_app pop pb (j + 1) x G, show j + 1 + flen x = j + (flen x + 1) from by omega]
theorem arL_len (pop pb : Int) : ∀ (j : Nat) (F : Fo), (arL pop pb j F).length = flen F
  | _, .nil => rfl
  | j, .cons p n a k x => by simp only [arL, flen, List.length_cons, arL_len pop pb (j + 1) x]

theorem own_ints {w : World} {base n c : Nat} {A : Option Addr} {zs : List Int} (h : w.ownsRow base 3 1 (.slice A n c) n (zs.map (Value.int .i64))) (hn : n = zs.length) (hf : n ≤ 5864062014805) : IntsR (· < w.heap.size) w A n c zs := by
  refine ⟨hn.symm, hf, fun hpos => ?_⟩
  have h0 := h
  obtain ⟨_, hcase⟩ := h
  rcases hcase with ⟨_, h2⟩ | ⟨g, cap', cur, hv, hg, hh, _⟩
  · omega
  · injection hv with e1 e2 e3
    subst e1
    refine ⟨g, 0, rfl, (ownsRow_block h0 rfl).2.1, fun k hk => ?_⟩
    rw [Nat.zero_add, h0.cellAt k (by omega)]
    have : k < zs.length := by omega
    simp [List.getElem?_eq_getElem this]

def IntsPost (zs : List Int) (w : World) (e : Ending) (w' : World) : Prop := Below w.heap.size w w' ∧ ∃ A n c, e = .returned (.slice A n c) ∧ IntsR (· < w'.heap.size) w' A n c zs

/-- The rows of a forest's trees. -/
def rowsL : Fo → List (List Nd)
  | .nil => []
  | .cons _ n a k x => row (.cons [] n a k .nil) :: rowsL x
theorem rowsL_app : ∀ (F G : Fo), rowsL (F.app G) = rowsL F ++ rowsL G
  | .nil, G => rfl
  | .cons p n a k x, G => by simp only [Fo.app, rowsL, List.cons_append, rowsL_app x G]
theorem rowsL_len : ∀ (F : Fo), (rowsL F).length = flen F
  | .nil => rfl
  | .cons p n a k x => by simp only [rowsL, flen, List.length_cons, rowsL_len x]
theorem topOf_row (l : List Nd) : (row (topOf l).2).length ≤ 4096 := by
  unfold topOf
  split
  · rename_i hs
    obtain ⟨hl, n, ats, k, hpp, hrow, _⟩ := shape_ok hs
    rw [hpp]
    simp only
    have := congrArg List.length hrow
    simp only [List.length_cons, List.length_append] at this
    omega
  · simp [row]
/-- Values that are rows. -/
def RowsC (S : Nat → Prop) (w : World) : List Value → List (List Nd) → Prop
  | [], [] => True
  | x :: xs, l :: ls => (∃ A n c, x = .slice A n c ∧ TermR S w A n c l) ∧ RowsC S w xs ls
  | _, _ => False
theorem RowsC.keep {S S' : Nat → Prop} {w w' : World} (hS : ∀ b, S b → S' b ∧ ∀ o, w'.cell? ⟨b, o, none⟩ = w.cell? ⟨b, o, none⟩) : ∀ {xs : List Value} {ls : List (List Nd)}, RowsC S w xs ls → RowsC S' w' xs ls
  | [], [], _ => trivial
  | [], _ :: _, h => h.elim
  | _ :: _, [], h => h.elim
  | x :: xs, l :: ls, h => by
    obtain ⟨⟨A, n, c, e, ht⟩, h2⟩ := h
    exact ⟨⟨A, n, c, e, ht.keep hS⟩, h2.keep hS⟩
theorem RowsC.add {S : Nat → Prop} {w : World} {A : Option Addr} {n c : Nat} {m : List Nd} (ht : TermR S w A n c m) : ∀ {xs : List Value} {ls : List (List Nd)}, RowsC S w xs ls → RowsC S w (xs ++ [.slice A n c]) (ls ++ [m])
  | [], [], _ => ⟨⟨A, n, c, rfl, ht⟩, trivial⟩
  | [], _ :: _, h => h.elim
  | _ :: _, [], h => h.elim
  | _ :: _, _ :: _, h => ⟨h.1, h.2.add ht⟩
theorem RowsC.len {S : Nat → Prop} {w : World} : ∀ {xs : List Value} {ls : List (List Nd)}, RowsC S w xs ls → xs.length = ls.length
  | [], [], _ => rfl
  | [], _ :: _, h => h.elim
  | _ :: _, [], h => h.elim
  | x :: xs, l :: ls, h => by simp [RowsC.len h.2]
theorem RowsC.at_ {S : Nat → Prop} {w : World} : ∀ {xs : List Value} {ls : List (List Nd)} (k : Nat), RowsC S w xs ls → k < ls.length → ∃ A n c, xs[k]? = some (.slice A n c) ∧ TermR S w A n c (ls.getD k [])
  | [], [], _, _, hk => absurd hk (by simp)
  | [], _ :: _, _, h, _ => h.elim
  | _ :: _, [], _, h, _ => h.elim
  | x :: xs, l :: ls, 0, h, _ => by
    obtain ⟨⟨A, n, c, e, ht⟩, _⟩ := h
    exact ⟨A, n, c, by simp [e], ht⟩
  | x :: xs, l :: ls, k + 1, h, hk => by
    obtain ⟨A, n, c, e, ht⟩ := RowsC.at_ k h.2 (by simpa using hk)
    exact ⟨A, n, c, by simpa using e, by simpa using ht⟩
theorem own_rows {w : World} {base n c : Nat} {A : Option Addr} {xs : List Value} {ls : List (List Nd)} {S : Nat → Prop} (h : w.ownsRow base 33 1 (.slice A n c) n xs) (hn : n = ls.length) (hf : n ≤ 5864062014805) (hr : RowsC S w xs ls) (hS : ∀ b, S b → b < w.heap.size) : RowsR (· < w.heap.size) w A n c ls := by
  refine ⟨hn.symm, hf, fun hpos => ?_⟩
  have h0 := h
  obtain ⟨_, hcase⟩ := h
  rcases hcase with ⟨_, h2⟩ | ⟨g, cap', cur, hv, hg, hh, _⟩
  · omega
  · injection hv with e1 e2 e3
    subst e1
    refine ⟨g, 0, rfl, (ownsRow_block h0 rfl).2.1, fun k hk => ?_⟩
    obtain ⟨A', n', c', hx, ht⟩ := hr.at_ k (by omega)
    refine ⟨A', n', c', ?_, ht.keep fun b hb => ⟨hS b hb, fun _ => rfl⟩⟩
    rw [Nat.zero_add, h0.cellAt k (by omega)]
    exact hx
def RowsPost (ls : List (List Nd)) (w : World) (e : Ending) (w' : World) : Prop := Below w.heap.size w w' ∧ ∃ A n c, e = .returned (.slice A n c) ∧ RowsR (· < w'.heap.size) w' A n c ls
/-- New memory, not the block of the row of rows. -/
def Aside (B : Nat) (w : World) (v : Value) (b : Nat) : Prop := B ≤ b ∧ b < w.heap.size ∧ v.ownBlock ≠ some b
end

section
open Go.RowKit

/-- The memory that parts and its closure share. -/
structure NxS (g : Nat) (A : Option Addr) (n c p j : Nat) (A1 : Option Addr) (k1 : Nat) (A2 : Option Addr) (k2 : Nat) (xs1 xs2 : List Value) (w : World) : Prop where
  bt : Blk w g 33 #[.slice A n c]
  bo : Blk w (g + 2) 48 #[.slice A1 j k1]
  br : Blk w (g + 3) 50 #[.slice A2 j k2]
  ba : Blk w (g + 4) 3 #[.int .i64 (p : Int)]
  own1 : w.ownsRow (g + 5) 33 1 (.slice A1 j k1) j xs1
  own2 : w.ownsRow (g + 5) 3 1 (.slice A2 j k2) j xs2
  off : ∀ b, (Value.slice A1 j k1).ownBlock = some b → (Value.slice A2 j k2).ownBlock ≠ some b

set_option linter.unusedSimpArgs false in
set_option maxRecDepth 100000 in
set_option maxHeartbeats 4000000 in
theorem next_any {g : Nat} {A : Option Addr} {n c p q j : Nat} {A1 : Option Addr} {k1 : Nat} {A2 : Option Addr} {k2 : Nat} {xs1 xs2 : List Value} {w : World} {l : List Nd} (h : NxS g A n c p j A1 k1 A2 k2 xs1 xs2 w) (ht : TermR (· < g) w A n c l) (hq : ends [false] l p = some q) (hpq : p ≤ q) (hqn : q ≤ n) (hj : j ≤ 10000) (b : Int) :
    Calls Try.prog 60 #[.int .i64 b, .pointer (some ⟨g, 0, none⟩), .pointer (some ⟨g + 4, 0, none⟩), .pointer (some ⟨g + 2, 0, none⟩), .pointer (some ⟨g + 3, 0, none⟩)] w fun e w' => e = .returned (.tuple #[]) ∧ Below g w w' ∧ w.heap.size ≤ w'.heap.size ∧ w'.heap[g + 1]? = w.heap[g + 1]? ∧
      ∃ A1' k1' A2' k2' A', NxS g A n c q (j + 1) A1' k1' A2' k2' (xs1 ++ [.slice A' (q - p) (c - p)]) (xs2 ++ [.int .i64 b]) w' ∧ ∀ (R : Nat → Prop) (w : World), TermR R w A n c l → TermR R w A' (q - p) (c - p) ((l.take q).drop p) := by
  obtain ⟨i0, hi, hy0, hy1, hy2⟩ := info_parts infoR
  have HI0 := Lib.hid hi
  have HY0 := Lib.hid hy0
  have HY1 := Lib.hid hy1
  have HY2 := Lib.hid hy2
  obtain ⟨i1, hi', hz0, hz1, hz2⟩ := info_parts infoI
  have HJ0 := Lib.hid hi'
  have HZ0 := Lib.hid hz0
  have HZ1 := Lib.hid hz1
  have HZ2 := Lib.hid hz2
  clear hi hy0 hy1 hy2 hi' hz0 hz1 hz2
  obtain ⟨A', hcut, hcutr⟩ := cut_mid A n c p q hpq hqn ht.cap
  have HCUTR := Lib.hid hcutr
  have hfew := ht.few
  have hcap := ht.cap
  have hs4 := h.ba.lt
  have hend : ∀ w2 : World, TermV w2 A n c l → Calls Try.prog 31 #[.slice A n c, .int .i64 (p : Int)] w2 (IntPost (q : Int) w2) := fun w2 ht2 => by
    have := end_any ht2 (p : Int)
    rwa [endI_nat, hq] at this
  have HEND := Lib.hid (hend w (ht.keep fun b hb => ⟨by omega, fun _ => rfl⟩))
  have z0 := h.bt.cell
  have z2 := h.bo.cell
  have z3 := h.br.cell
  have z4 := h.ba.cell
  have H := Lib.hid h
  clear hcutr hend ht hq h
  go_enter Try.func60, Try.ntmps60
  go_wp2_with fail
  refine (HEND.out).mono ?_
  rintro e w2 ⟨rfl, hb2⟩
  have h2 : NxS g A n c p j A1 k1 A2 k2 xs1 xs2 w2 := ⟨H.out.bt.below hb2 H.out.bt.lt, H.out.bo.below hb2 H.out.bo.lt, H.out.br.below hb2 H.out.br.lt, H.out.ba.below hb2 H.out.ba.lt, own_below H.out.own1 hb2, own_below H.out.own2 hb2, H.out.off⟩
  have e0 := h2.bt.cell
  have e2 := h2.bo.cell
  have e4 := h2.ba.cell
  have l0 := h2.bt.lt
  have l2 := h2.bo.lt
  have l3 := h2.br.lt
  have l4 := h2.ba.lt
  have d0 := e0 0
  have d2 := e2 0
  have d4 := e4 0
  have H2 := Lib.hid h2
  have HB2 := Lib.hid hb2
  clear z0 z2 z3 z4 h2 hb2 e0 e2 e4
  go_wp2_with fail
  refine wp_region_noPanic ?_
  refine wp_region_E 7 (fun w' => w'.cell? ⟨g, 0, none⟩ = some (.slice A n c) ∧ w'.cell? ⟨g + 2, 0, none⟩ = some (.slice A1 j k1) ∧ w'.cell? ⟨g + 4, 0, none⟩ = some (.int .i64 (p : Int))) (by rfl) ⟨d0, d2, d4⟩ (fun hS0 => ?_)
  refine wpAnyE_take' (i := 0) (v := ?_) rfl (by kernel_rfl) (by kernel_rfl) (by kernel_rfl) (by kernel_rfl) (by kernel_rfl) (fun _ _ _ h => h) (Or.inl ⟨by rfl, ?_⟩) (by assumption) ?_
  rotate_left
  · (intro w hSw; (try dsimp only at hSw); go_simp); all_goals with_reducible rfl
  try simp only [Act.put, List.getElem_toArray, List.getElem_cons_zero, List.getElem_cons_succ, List.setIfInBounds_toArray, List.set_cons_zero, List.set_cons_succ]
  refine wpAnyE_take' (i := 1) (v := ?_) rfl (by kernel_rfl) (by kernel_rfl) (by kernel_rfl) (by kernel_rfl) (by kernel_rfl) (fun _ _ _ h => h) (Or.inl ⟨by rfl, ?_⟩) (by assumption) ?_
  rotate_left
  · (intro w hSw; (try dsimp only at hSw); go_simp); all_goals with_reducible rfl
  try simp only [Act.put, List.getElem_toArray, List.getElem_cons_zero, List.getElem_cons_succ, List.setIfInBounds_toArray, List.set_cons_zero, List.set_cons_succ]
  refine wpAnyE_take' (i := 2) (v := ?_) rfl (by kernel_rfl) (by kernel_rfl) (by kernel_rfl) (by kernel_rfl) (by kernel_rfl) (fun _ _ _ h => h) (Or.inl ⟨by rfl, ?_⟩) (by assumption) ?_
  rotate_left
  · (intro w hSw; (try dsimp only at hSw); go_simp); all_goals with_reducible rfl
  try simp only [Act.put, List.getElem_toArray, List.getElem_cons_zero, List.getElem_cons_succ, List.setIfInBounds_toArray, List.set_cons_zero, List.set_cons_succ]
  refine wpAnyE_take' (i := 3) (v := ?_) rfl (by kernel_rfl) (by kernel_rfl) (by kernel_rfl) (by kernel_rfl) (by kernel_rfl) (fun _ _ _ h => h) (Or.inl ⟨by rfl, ?_⟩) (by assumption) ?_
  rotate_left
  · (intro w hSw; (try dsimp only at hSw); go_simp); all_goals with_reducible rfl
  try simp only [Act.put, List.getElem_toArray, List.getElem_cons_zero, List.getElem_cons_succ, List.setIfInBounds_toArray, List.set_cons_zero, List.set_cons_succ]
  refine wpAnyE_take' (i := 4) (v := ?_) rfl (by kernel_rfl) (by kernel_rfl) (by kernel_rfl) (by kernel_rfl) (by kernel_rfl) (fun _ _ _ h => h) (Or.inl ⟨by rfl, ?_⟩) (by assumption) ?_
  rotate_left
  · (intro w hSw; (try dsimp only at hSw); go_simp); all_goals with_reducible rfl
  try simp only [Act.put, List.getElem_toArray, List.getElem_cons_zero, List.getElem_cons_succ, List.setIfInBounds_toArray, List.set_cons_zero, List.set_cons_succ]
  refine wpAnyE_step (i := 5) (by kernel_rfl) rfl rfl (fun K5 hK5 => ?_)
  go_simp
  have hS5 : (w2.drew.alloc (.cells #[.slice A' (q - p) (c - p)] 33)).cell? ⟨g, 0, none⟩ = some (.slice A n c) ∧ (w2.drew.alloc (.cells #[.slice A' (q - p) (c - p)] 33)).cell? ⟨g + 2, 0, none⟩ = some (.slice A1 j k1) ∧ (w2.drew.alloc (.cells #[.slice A' (q - p) (c - p)] 33)).cell? ⟨g + 4, 0, none⟩ = some (.int .i64 (p : Int)) := by
    have hc : ∀ b o, b < w2.heap.size → (w2.drew.alloc (.cells #[.slice A' (q - p) (c - p)] 33)).cell? ⟨b, o, none⟩ = w2.cell? ⟨b, o, none⟩ := fun b o hb => (World.cell?_alloc_lt _ _ _ hb)
    rw [hc _ _ l0, hc _ _ l2, hc _ _ l4]
    exact ⟨d0, d2, d4⟩
  refine hK5.out _ _ (fun _ => hS5) ?_
  try simp only [Act.put, List.getElem_toArray, List.getElem_cons_zero, List.getElem_cons_succ, List.setIfInBounds_toArray, List.set_cons_zero, List.set_cons_succ]
  refine wpAnyE_step (i := 6) (by kernel_rfl) rfl rfl (fun K6 hK6 => ?_)
  refine oper_append_one (.tmp 10) (.tmp 15) 48 33 rfl (g + 5) i0 _ 24 Try.underlying48 HI0.out HY0.out HY1.out HY2.out rfl (by decide) (.slice A1 j k1) j xs1 (.slice A' (q - p) (c - p)) rfl w2.drew (by rfl) (by rfl) (own_below H2.out.own1 (below_drewN (Below.refl _ _) 1)) _ (by rfl) (by simp) (by omega) (by simp; omega) ?_
  intro A4 c4 w4 happ
  have hgk : ∀ b, b < w2.heap.size → (Value.slice A1 j k1).ownBlock ≠ some b → w4.heap[b]? = w2.heap[b]? := fun b hb hne => happ.grown.block b hb (fun e => hne e.symm)
  have hno : ∀ b, b < g + 5 → (Value.slice A1 j k1).ownBlock ≠ some b := fun b hb e => by have := (ownsRow_block H2.out.own1 e).1; omega
  have zb := H2.out.bo.same (hgk _ l2 (hno _ (by omega)))
  have zf := zb.frozen
  have zc := zb.cell
  have hS6 : w4.cell? ⟨g, 0, none⟩ = some (.slice A n c) ∧ w4.cell? ⟨g + 2, 0, none⟩ = some (.slice A1 j k1) ∧ w4.cell? ⟨g + 4, 0, none⟩ = some (.int .i64 (p : Int)) := by
    rw [cell_of_heap (hgk g l0 (hno _ (by omega))), cell_of_heap (hgk (g + 2) l2 (hno _ (by omega))), cell_of_heap (hgk (g + 4) l4 (hno _ (by omega)))]
    exact ⟨d0, d2, d4⟩
  refine hK6.out _ _ (fun _ => hS6) ?_
  try simp only [Act.put, List.getElem_toArray, List.getElem_cons_zero, List.getElem_cons_succ, List.setIfInBounds_toArray, List.set_cons_zero, List.set_cons_succ]
  refine wpAnyE_step (i := 7) (by kernel_rfl) rfl rfl (fun K7 hK7 => ?_)
  go_simp
  refine hK7.out _ _ (fun h => absurd rfl h) ?_
  refine wpAnyE_end (by kernel_rfl) (NoPanic.normal ?_) _
  have hh := H2.out
  have gr : w2.grownBy w4 (Value.slice A1 j k1).ownBlock := ⟨happ.grown.os, happ.grown.tape, happ.grown.output, happ.grown.size, fun b hb hne => happ.grown.block b hb hne⟩
  have own2a : w4.ownsRow (g + 5) 3 1 (.slice A2 j k2) j xs2 := hh.own2.kept gr (by
    cases e2 : (Value.slice A2 j k2).ownBlock with
    | none => exact .inl rfl
    | some b2 => exact .inr fun e => hh.off b2 e.symm e2)
  have hs5 : w2.heap.size ≤ w4.heap.size := happ.grown.size
  have k0 : Blk (w4.setCell ⟨g + 2, 0, none⟩ (.slice A4 (j + 1) c4)) g 33 #[.slice A n c] := (hh.bt.same (hgk g l0 (hno _ (by omega)))).far (by simp) _
  have k2' : Blk (w4.setCell ⟨g + 2, 0, none⟩ (.slice A4 (j + 1) c4)) (g + 2) 48 #[.slice A4 (j + 1) c4] := zb.set_ 0 _
  have k3 : Blk (w4.setCell ⟨g + 2, 0, none⟩ (.slice A4 (j + 1) c4)) (g + 3) 50 #[.slice A2 j k2] := (hh.br.same (hgk (g + 3) l3 (hno _ (by omega)))).far (by simp) _
  have k4 : Blk (w4.setCell ⟨g + 2, 0, none⟩ (.slice A4 (j + 1) c4)) (g + 4) 3 #[.int .i64 (p : Int)] := (hh.ba.same (hgk (g + 4) l4 (hno _ (by omega)))).far (by simp) _
  have k3c := k3.cell
  have own2b := ownsRow_setCell_below (a := ⟨g + 2, 0, none⟩) own2a (by simp) (.slice A4 (j + 1) c4)
  have hsz5 : (w4.setCell ⟨g + 2, 0, none⟩ (.slice A4 (j + 1) c4)).heap.size = w4.heap.size := by simp [World.setCell]
  have HSZ5 := Lib.hid hsz5
  have HB5 : Hid (g + 5 ≤ (w4.setCell ⟨g + 2, 0, none⟩ (.slice A4 (j + 1) c4)).heap.size) := Lib.hid (by rw [hsz5]; omega)
  have OWN2B := Lib.hid own2b
  have K0 := Lib.hid k0
  have K2 := Lib.hid k2'
  have K3 := Lib.hid k3
  have K4 := Lib.hid k4
  have HAPP := Lib.hid happ
  have HGK := Lib.hid hgk
  have HNO := Lib.hid hno
  have hne3 : some (g + 3) ≠ (Value.slice A2 j k2).ownBlock := own_ne hh.own2 (by omega)
  have hne4 : some (g + 4) ≠ (Value.slice A2 j k2).ownBlock := own_ne hh.own2 (by omega)
  clear k0 k2' k3 k4 own2a own2b happ hgk hno gr hh zb zf zc hS6 hsz5
  go_wp2_with (at_builtin; go_loud (refine wpList_oper rfl (oper_append_one (.tmp 17) (.tmp 19) 50 3 rfl (g + 5) i1 _ 8 Try.underlying50 HJ0.out HZ0.out HZ1.out HZ2.out rfl (by decide) (.slice A2 j k2) j xs2 (.int .i64 b) rfl (w4.setCell ⟨g + 2, 0, none⟩ (.slice A4 (j + 1) c4)) rfl rfl OWN2B.out _ rfl HSZ5.out.symm (by omega) HB5.out ?_)); intro A6 c6 w6 happ6; have y3 := K3.out.grown happ6.grown hne3; have y3f := y3.frozen; have y4 := (K4.out.grown happ6.grown hne4).far (p := ⟨g + 3, 0, none⟩) (by simp) (.slice A6 (j + 1) c6); have y4f := y4.frozen; have y3c := y3.cell; have y4c := y4.cell)
  have hoff4 : ∀ b, (Value.slice A4 (j + 1) c4).ownBlock = some b → (Value.slice A2 j k2).ownBlock ≠ some b := fun b hb e2 => by
    rcases HAPP.out.new b hb with h1 | h1
    · exact H2.out.off b h1 e2
    · have := (ownsRow_block H2.out.own2 e2).2.1
      have h1' : w2.heap.size ≤ b := h1
      omega
  have own1b := ownsRow_setCell_below (a := ⟨g + 2, 0, none⟩) HAPP.out.own (by simp) (.slice A4 (j + 1) c4)
  have own1c := own1b.kept happ6.grown (by
    cases e4 : (Value.slice A4 (j + 1) c4).ownBlock with
    | none => exact .inl rfl
    | some b4 => exact .inr fun e => hoff4 b4 e4 e.symm)
  have own1d := ownsRow_setCell_below (a := ⟨g + 4, 0, none⟩) (ownsRow_setCell_below (a := ⟨g + 3, 0, none⟩) own1c (by simp) (.slice A6 (j + 1) c6)) (by simp) (.int .i64 (q : Int))
  have own2d := ownsRow_setCell_below (a := ⟨g + 4, 0, none⟩) (ownsRow_setCell_below (a := ⟨g + 3, 0, none⟩) happ6.own (by simp) (.slice A6 (j + 1) c6)) (by simp) (.int .i64 (q : Int))
  have hlow : ∀ b, b < g + 5 → some b ≠ (Value.slice A2 j k2).ownBlock := fun b hb => own_ne H2.out.own2 hb
  have q0 := ((K0.out.grown happ6.grown (hlow g (by omega))).far (p := ⟨g + 3, 0, none⟩) (by simp) (.slice A6 (j + 1) c6)).far (p := ⟨g + 4, 0, none⟩) (by simp) (.int .i64 (q : Int))
  have q2 := ((K2.out.grown happ6.grown (hlow (g + 2) (by omega))).far (p := ⟨g + 3, 0, none⟩) (by simp) (.slice A6 (j + 1) c6)).far (p := ⟨g + 4, 0, none⟩) (by simp) (.int .i64 (q : Int))
  have q3 := (y3.set_ 0 (.slice A6 (j + 1) c6)).far (p := ⟨g + 4, 0, none⟩) (by simp) (.int .i64 (q : Int))
  have q4 := y4.set_ 0 (.int .i64 (q : Int))
  have hs6 := happ6.grown.size
  have hs64 : w4.heap.size ≤ w6.heap.size := by have := HSZ5.out; omega
  have hs2w := HB2.out.size
  refine bodyPost_end (results_none rfl _ _ _) rfl ⟨rfl, ?_, ?_, ?_, A4, c4, A6, c6, A', ⟨q0, q2, q3, q4, own1d, own2d, fun b hb e6 => ?_⟩, fun R w h => HCUTR.out R w l h⟩
  · refine Below.setCell (Below.setCell (Below.grown (Below.setCell (Below.grown (w := w2.drew) (below_drewN (HB2.out.mono (by omega)) 1) HAPP.out.grown (by show g ≤ w2.heap.size; omega) (fun b hb => ?_)) (p := ⟨g + 2, 0, none⟩) (by simp) _) happ6.grown (by rw [HSZ5.out]; omega) (fun b hb => ?_)) (p := ⟨g + 3, 0, none⟩) (by simp) _) (p := ⟨g + 4, 0, none⟩) (by simp) _
    · have := (ownsRow_block H2.out.own1 hb).1; omega
    · have := (ownsRow_block H2.out.own2 hb).1; omega
  · have e : ((w6.setCell ⟨g + 3, 0, none⟩ (.slice A6 (j + 1) c6)).setCell ⟨g + 4, 0, none⟩ (.int .i64 (q : Int))).heap.size = w6.heap.size := by simp [World.setCell]
    rw [e]; omega
  · rw [Below.heap_setCell _ _ _ _ (by simp), Below.heap_setCell _ _ _ _ (by simp), happ6.grown.block (g + 1) (by rw [HSZ5.out]; omega) (hlow (g + 1) (by omega)), Below.heap_setCell _ _ _ _ (by simp), HGK.out (g + 1) (by omega) (HNO.out (g + 1) (by omega)), HB2.out.block (g + 1) (by omega)]
  · rcases happ6.new b e6 with h1 | h1
    · exact hoff4 b hb h1
    · have := (ownsRow_block HAPP.out.own hb).2.1
      have := HSZ5.out
      omega
end

section
open Go.RowKit

theorem own_fresh {w w' : World} {A : Option Addr} {n c : Nat} {l : List Nd} (h : OwnN w' w.heap.size (.slice A n c) l) (hl : l.length ≤ 5864062014805) : TermR (fresh w w') w' A n c l := by
  obtain ⟨A', n', c', e, ht⟩ := OwnN.termS h hl
  injection e with e1 e2 e3
  subst e1 e2 e3
  exact ht.keep fun b hb => ⟨⟨(ownsRow_block h hb).1, (ownsRow_block h hb).2.1⟩, fun _ => rfl⟩

set_option maxRecDepth 100000 in
set_option maxHeartbeats 1000000 in
theorem clone_any {A : Option Addr} {n c : Nat} {l : List Nd} {w : World} (h : TermV w A n c l) :
    Calls Try.prog 38 #[.slice A n c] w (RowPost l w) := by
  have q22 : ∀ (w : World) (a : Option Addr) (n c n' c' : Nat), (binOp .eql 33 (.slice a n c) (.slice none n' c')).run Try.prog w = .ok (.bool a.isNone) w := fun w a n c n' c' => Lib.run_eql_slice_nil w _ _ a n c n' c' Try.underlying33
  cases A with
  | none =>
    obtain rfl := h.nul rfl
    obtain rfl : n = 0 := by have := h.cap; omega
    have hl : l = [] := List.eq_nil_of_length_eq_zero h.len
    subst hl
    go_enter Try.func38, Try.ntmps38
    go_wp2_with fail
    go_ret
    exact ⟨Below.refl _ _, none, 0, 0, rfl, rfl, Nat.le_refl _, by decide, fun _ => rfl, fun h => absurd h (by decide)⟩
  | some a =>
    obtain ⟨i0, hi, hy0, hy1, hy2⟩ := info_parts infoN'
    have HI0 := Lib.hid hi
    have HY0 := Lib.hid hy0
    have HY1 := Lib.hid hy1
    have HY2 := Lib.hid hy2
    clear hi hy0 hy1 hy2
    have hfew := h.few
    have hb0 := below_alloc w (.cells #[] 41)
    have hm : TermV (w.alloc (.cells #[] 41)) (some a) n c l := h.below hb0
    have hown : OwnN (w.alloc (.cells #[] 41)) w.heap.size (.slice (some ⟨w.heap.size, 0, none⟩) 0 0) [] := World.ownsRow_made w #[] 0 (Nat.le_refl _) (Nat.zero_le _) rfl
    have HM := Lib.hid hm
    have HOWN := Lib.hid hown
    have HB := Lib.hid hb0
    clear hm hown hb0 h
    go_enter Try.func38, Try.ntmps38
    go_wp2_with (at_builtin; go_loud (refine wpList_oper rfl (oper_append_row (.tmp 5) (.tmp 6) 33 33 rfl w.heap.size i0 Try.underlying33 Try.underlying33 HI0.out HY0.out HY1.out HY2.out (.slice (some ⟨w.heap.size, 0, none⟩) 0 0) [] l rfl HOWN.out rfl HM.out (by simpa using hfew) (by simp) ?_)); intro A4 c4 w4 hown4 happ4)
    go_ret
    refine ⟨HB.out.grown happ4.grown HB.out.size (fun g hg => (ownsRow_block HOWN.out hg).1), A4, _, c4, rfl, ?_⟩
    simp only [List.length_nil, Nat.zero_add, List.nil_append] at hown4
    exact own_fresh hown4 (by have := HM.out.len; omega)
end

section
open Go.RowKit

def CountPost (n : Nd) (w : World) (e : Ending) (w' : World) : Prop := (∃ k : Int, e = .returned (.tuple #[.int .i64 k, .bool (okN n)]) ∧ (okN n = true → k = nkI n.op n.b)) ∧ Below w.heap.size w w'
theorem countPost {n : Nd} {w w' : World} {k : Int} {b : Bool} (hb : b = okN n) (hk : okN n = true → k = nkI n.op n.b) (hw : Below w.heap.size w w') : CountPost n w (.returned (.tuple #[.int .i64 k, .bool b])) w' :=
  ⟨⟨k, by rw [hb], hk⟩, hw⟩

theorem within_q (n lo hi : Int) (w : World) (m : Nat) :
    Calls Try.prog 79 #[.int .i64 n, .int .i64 lo, .int .i64 hi] (w.drewN m) fun e w' => e = .returned (.bool (decide (lo ≤ n) && decide (n ≤ hi))) ∧ ∃ k, w' = w.drewN k :=
  (within_any n lo hi (w.drewN m)).mono fun _ _ ⟨h1, h2⟩ => ⟨h1, m, h2.symm⟩
theorem within_qt (n lo hi : Int) (w : World) (m : Nat) (h : lo ≤ n ∧ n ≤ hi) :
    Calls Try.prog 79 #[.int .i64 n, .int .i64 lo, .int .i64 hi] (w.drewN m) fun e w' => e = .returned (.bool true) ∧ ∃ k, w' = w.drewN k :=
  (within_q n lo hi w m).mono fun _ _ ⟨h1, h2⟩ => ⟨by rw [h1]; simp [h], h2⟩
theorem within_qf (n lo hi : Int) (w : World) (m : Nat) (h : ¬ (lo ≤ n ∧ n ≤ hi)) :
    Calls Try.prog 79 #[.int .i64 n, .int .i64 lo, .int .i64 hi] (w.drewN m) fun e w' => e = .returned (.bool false) ∧ ∃ k, w' = w.drewN k :=
  (within_q n lo hi w m).mono fun _ _ ⟨h1, h2⟩ => ⟨by rw [h1, ← Bool.decide_and, decide_eq_false h], h2⟩
theorem below_box_drewN (w : World) (o : Obj) (m : Nat) : Below w.heap.size w ((w.alloc o).drewN m) := below_drewN (below_alloc w o) m

theorem okN_iff (n : Nd) : okN n = true ↔ plainB n.op n.a n.b = true ∧ n.op ≠ 3 ∧ n.op ≠ 13 := by
  simp only [okN, Bool.and_eq_true, decide_eq_true_eq, and_assoc]
theorem okN_false_iff (n : Nd) : okN n = false ↔ ¬ (plainB n.op n.a n.b = true ∧ n.op ≠ 3 ∧ n.op ≠ 13) := by
  rw [← okN_iff]; simp

set_option maxRecDepth 100000 in
set_option maxHeartbeats 1000000 in
theorem count_1 (a b : Int) (w : World) :
    Calls Try.prog 78 #[.agg #[.int .i64 1, .int .i64 a, .int .i64 b]] w (CountPost ⟨1, a, b⟩ w) := by
  by_cases a0 : a = 0
  · have a0b : (a == 0) = true := by simp [a0]
    have A0 := Lib.hid a0
    clear a0
    by_cases ht : 0 ≤ a ∧ a ≤ 1048576
    · obtain ⟨hl, hh⟩ := ht
      go_enter Try.func78, Try.ntmps78
      go_wp2_with fail
      all_goals
        go_quiet ((go_at_call 79; first | exact within_qt _ _ _ _ _ (by omega) | exact within_qf _ _ _ _ _ (by omega) | exact within_q _ _ _ _ _))
        go_wp2_with fail
      all_goals
        have a0 := A0.out
        refine bodyPost_ret (results_tmp2 rfl _ _ _) rfl ?_
        refine countPost ?_ ?_ (by first | exact below_alloc _ _ | exact below_box_drewN _ _ _)
        · rw [Bool.eq_iff_iff, okN_iff, plainB_iff]; first | (simp; done) | (simp; omega) | (simp [IntKind.wrap_i64]; omega)
        · rw [okN_iff, plainB_iff]; first | (simp [nkI]; done) | (simp [nkI]; omega) | (simp [nkI, wrap64]; omega) | (simp [nkI, IntKind.wrap_i64]; omega)
    · have htb : (decide ((0 : Int) ≤ a) && decide (a ≤ 1048576)) = false := by rw [Bool.and_eq_false_iff, decide_eq_false_iff_not, decide_eq_false_iff_not]; omega
      have HT := Lib.hid ht
      go_enter Try.func78, Try.ntmps78
      go_wp2_with fail
      all_goals
        go_quiet ((go_at_call 79; first | exact within_qt _ _ _ _ _ (by omega) | exact within_qf _ _ _ _ _ (by omega) | exact within_q _ _ _ _ _))
        go_wp2_with fail
      all_goals
        have a0 := A0.out
        refine bodyPost_ret (results_tmp2 rfl _ _ _) rfl ?_
        refine countPost ?_ ?_ (by first | exact below_alloc _ _ | exact below_box_drewN _ _ _)
        · rw [Bool.eq_iff_iff, okN_iff, plainB_iff]; first | (simp; done) | (simp; omega) | (simp [IntKind.wrap_i64]; omega)
        · rw [okN_iff, plainB_iff]; first | (simp [nkI]; done) | (simp [nkI]; omega) | (simp [nkI, wrap64]; omega) | (simp [nkI, IntKind.wrap_i64]; omega)
  · have a0b : (a == 0) = false := by simp [a0]
    have A0 := Lib.hid a0
    clear a0
    by_cases ht : 0 ≤ a ∧ a ≤ 1048576
    · obtain ⟨hl, hh⟩ := ht
      go_enter Try.func78, Try.ntmps78
      go_wp2_with fail
      all_goals
        go_quiet ((go_at_call 79; first | exact within_qt _ _ _ _ _ (by omega) | exact within_qf _ _ _ _ _ (by omega) | exact within_q _ _ _ _ _))
        go_wp2_with fail
      all_goals
        have a0 := A0.out
        refine bodyPost_ret (results_tmp2 rfl _ _ _) rfl ?_
        refine countPost ?_ ?_ (by first | exact below_alloc _ _ | exact below_box_drewN _ _ _)
        · rw [Bool.eq_iff_iff, okN_iff, plainB_iff]; first | (simp; done) | (simp; omega) | (simp [IntKind.wrap_i64]; omega)
        · rw [okN_iff, plainB_iff]; first | (simp [nkI]; done) | (simp [nkI]; omega) | (simp [nkI, wrap64]; omega) | (simp [nkI, IntKind.wrap_i64]; omega)
    · have htb : (decide ((0 : Int) ≤ a) && decide (a ≤ 1048576)) = false := by rw [Bool.and_eq_false_iff, decide_eq_false_iff_not, decide_eq_false_iff_not]; omega
      have HT := Lib.hid ht
      go_enter Try.func78, Try.ntmps78
      go_wp2_with fail
      all_goals
        go_quiet ((go_at_call 79; first | exact within_qt _ _ _ _ _ (by omega) | exact within_qf _ _ _ _ _ (by omega) | exact within_q _ _ _ _ _))
        go_wp2_with fail
      all_goals
        have a0 := A0.out
        refine bodyPost_ret (results_tmp2 rfl _ _ _) rfl ?_
        refine countPost ?_ ?_ (by first | exact below_alloc _ _ | exact below_box_drewN _ _ _)
        · rw [Bool.eq_iff_iff, okN_iff, plainB_iff]; first | (simp; done) | (simp; omega) | (simp [IntKind.wrap_i64]; omega)
        · rw [okN_iff, plainB_iff]; first | (simp [nkI]; done) | (simp [nkI]; omega) | (simp [nkI, wrap64]; omega) | (simp [nkI, IntKind.wrap_i64]; omega)
set_option maxRecDepth 100000 in
set_option maxHeartbeats 1000000 in
theorem count_2 (a b : Int) (w : World) :
    Calls Try.prog 78 #[.agg #[.int .i64 2, .int .i64 a, .int .i64 b]] w (CountPost ⟨2, a, b⟩ w) := by
  by_cases a0 : a = 0
  · have a0b : (a == 0) = true := by simp [a0]
    have A0 := Lib.hid a0
    clear a0
    by_cases ht : 0 ≤ a ∧ a ≤ 1
    · obtain ⟨hl, hh⟩ := ht
      go_enter Try.func78, Try.ntmps78
      go_wp2_with (go_at_call 79; refine (within_any _ _ _ _).mono ?_; rintro e w2 ⟨rfl, rfl⟩)
      all_goals
        have a0 := A0.out
        refine bodyPost_ret (results_tmp2 rfl _ _ _) rfl ?_
        refine countPost ?_ ?_ (by first | exact below_alloc _ _ | exact below_box_drewN _ _ _)
        · rw [Bool.eq_iff_iff, okN_iff, plainB_iff]; first | (simp; done) | (simp; omega) | (simp [IntKind.wrap_i64]; omega)
        · rw [okN_iff, plainB_iff]; first | (simp [nkI]; done) | (simp [nkI]; omega) | (simp [nkI, wrap64]; omega) | (simp [nkI, IntKind.wrap_i64]; omega)
    · have htb : (decide ((0 : Int) ≤ a) && decide (a ≤ 1)) = false := by rw [Bool.and_eq_false_iff, decide_eq_false_iff_not, decide_eq_false_iff_not]; omega
      have HT := Lib.hid ht
      clear ht
      go_enter Try.func78, Try.ntmps78
      go_wp2_with (go_at_call 79; refine (within_any _ _ _ _).mono ?_; rintro e w2 ⟨rfl, rfl⟩)
      all_goals
        have a0 := A0.out
        have ht := HT.out
        refine bodyPost_ret (results_tmp2 rfl _ _ _) rfl ?_
        refine countPost ?_ ?_ (by first | exact below_alloc _ _ | exact below_box_drewN _ _ _)
        · rw [Bool.eq_iff_iff, okN_iff, plainB_iff]; first | (simp; done) | (simp; omega) | (simp [IntKind.wrap_i64]; omega)
        · rw [okN_iff, plainB_iff]; first | (simp [nkI]; done) | (simp [nkI]; omega) | (simp [nkI, wrap64]; omega) | (simp [nkI, IntKind.wrap_i64]; omega)
  · have a0b : (a == 0) = false := by simp [a0]
    have A0 := Lib.hid a0
    clear a0
    by_cases ht : 0 ≤ a ∧ a ≤ 1
    · obtain ⟨hl, hh⟩ := ht
      go_enter Try.func78, Try.ntmps78
      go_wp2_with (go_at_call 79; refine (within_any _ _ _ _).mono ?_; rintro e w2 ⟨rfl, rfl⟩)
      all_goals
        have a0 := A0.out
        refine bodyPost_ret (results_tmp2 rfl _ _ _) rfl ?_
        refine countPost ?_ ?_ (by first | exact below_alloc _ _ | exact below_box_drewN _ _ _)
        · rw [Bool.eq_iff_iff, okN_iff, plainB_iff]; first | (simp; done) | (simp; omega) | (simp [IntKind.wrap_i64]; omega)
        · rw [okN_iff, plainB_iff]; first | (simp [nkI]; done) | (simp [nkI]; omega) | (simp [nkI, wrap64]; omega) | (simp [nkI, IntKind.wrap_i64]; omega)
    · have htb : (decide ((0 : Int) ≤ a) && decide (a ≤ 1)) = false := by rw [Bool.and_eq_false_iff, decide_eq_false_iff_not, decide_eq_false_iff_not]; omega
      have HT := Lib.hid ht
      clear ht
      go_enter Try.func78, Try.ntmps78
      go_wp2_with (go_at_call 79; refine (within_any _ _ _ _).mono ?_; rintro e w2 ⟨rfl, rfl⟩)
      all_goals
        have a0 := A0.out
        have ht := HT.out
        refine bodyPost_ret (results_tmp2 rfl _ _ _) rfl ?_
        refine countPost ?_ ?_ (by first | exact below_alloc _ _ | exact below_box_drewN _ _ _)
        · rw [Bool.eq_iff_iff, okN_iff, plainB_iff]; first | (simp; done) | (simp; omega) | (simp [IntKind.wrap_i64]; omega)
        · rw [okN_iff, plainB_iff]; first | (simp [nkI]; done) | (simp [nkI]; omega) | (simp [nkI, wrap64]; omega) | (simp [nkI, IntKind.wrap_i64]; omega)
set_option maxRecDepth 100000 in
set_option maxHeartbeats 1000000 in
theorem count_4 (a b : Int) (w : World) :
    Calls Try.prog 78 #[.agg #[.int .i64 4, .int .i64 a, .int .i64 b]] w (CountPost ⟨4, a, b⟩ w) := by
  by_cases h1 : a = 0
  · have h2 : (a == 0) = true := by simp [h1]
    have H1 := Lib.hid h1
    clear h1
    go_enter Try.func78, Try.ntmps78
    go_wp2
    all_goals
      have h1 := H1.out
      refine bodyPost_ret (results_tmp2 rfl _ _ _) rfl ?_
      refine countPost ?_ ?_ (by first | exact below_alloc _ _ | exact below_box_drewN _ _ _)
      · rw [Bool.eq_iff_iff, okN_iff, plainB_iff]; first | (simp; done) | (simp; omega) | (simp [IntKind.wrap_i64]; omega)
      · rw [okN_iff, plainB_iff]; first | (simp [nkI]; done) | (simp [nkI]; omega) | (simp [nkI, wrap64]; omega) | (simp [nkI, IntKind.wrap_i64]; omega)
  · have h2 : (a == 0) = false := by simp [h1]
    have H1 := Lib.hid h1
    clear h1
    go_enter Try.func78, Try.ntmps78
    go_wp2
    all_goals
      have h1 := H1.out
      refine bodyPost_ret (results_tmp2 rfl _ _ _) rfl ?_
      refine countPost ?_ ?_ (by first | exact below_alloc _ _ | exact below_box_drewN _ _ _)
      · rw [Bool.eq_iff_iff, okN_iff, plainB_iff]; first | (simp; done) | (simp; omega) | (simp [IntKind.wrap_i64]; omega)
      · rw [okN_iff, plainB_iff]; first | (simp [nkI]; done) | (simp [nkI]; omega) | (simp [nkI, wrap64]; omega) | (simp [nkI, IntKind.wrap_i64]; omega)
set_option maxRecDepth 100000 in
set_option maxHeartbeats 1000000 in
theorem count_5 (a b : Int) (w : World) :
    Calls Try.prog 78 #[.agg #[.int .i64 5, .int .i64 a, .int .i64 b]] w (CountPost ⟨5, a, b⟩ w) := by
  by_cases h1 : a = 0
  · have h2 : (a == 0) = true := by simp [h1]
    have H1 := Lib.hid h1
    clear h1
    go_enter Try.func78, Try.ntmps78
    go_wp2
    all_goals
      have h1 := H1.out
      refine bodyPost_ret (results_tmp2 rfl _ _ _) rfl ?_
      refine countPost ?_ ?_ (by first | exact below_alloc _ _ | exact below_box_drewN _ _ _)
      · rw [Bool.eq_iff_iff, okN_iff, plainB_iff]; first | (simp; done) | (simp; omega) | (simp [IntKind.wrap_i64]; omega)
      · rw [okN_iff, plainB_iff]; first | (simp [nkI]; done) | (simp [nkI]; omega) | (simp [nkI, wrap64]; omega) | (simp [nkI, IntKind.wrap_i64]; omega)
  · have h2 : (a == 0) = false := by simp [h1]
    have H1 := Lib.hid h1
    clear h1
    go_enter Try.func78, Try.ntmps78
    go_wp2
    all_goals
      have h1 := H1.out
      refine bodyPost_ret (results_tmp2 rfl _ _ _) rfl ?_
      refine countPost ?_ ?_ (by first | exact below_alloc _ _ | exact below_box_drewN _ _ _)
      · rw [Bool.eq_iff_iff, okN_iff, plainB_iff]; first | (simp; done) | (simp; omega) | (simp [IntKind.wrap_i64]; omega)
      · rw [okN_iff, plainB_iff]; first | (simp [nkI]; done) | (simp [nkI]; omega) | (simp [nkI, wrap64]; omega) | (simp [nkI, IntKind.wrap_i64]; omega)
set_option maxRecDepth 100000 in
set_option maxHeartbeats 1000000 in
theorem count_6 (a b : Int) (w : World) :
    Calls Try.prog 78 #[.agg #[.int .i64 6, .int .i64 a, .int .i64 b]] w (CountPost ⟨6, a, b⟩ w) := by
  by_cases h1 : a = 0
  · have h2 : (a == 0) = true := by simp [h1]
    have H1 := Lib.hid h1
    clear h1
    go_enter Try.func78, Try.ntmps78
    go_wp2
    all_goals
      have h1 := H1.out
      refine bodyPost_ret (results_tmp2 rfl _ _ _) rfl ?_
      refine countPost ?_ ?_ (by first | exact below_alloc _ _ | exact below_box_drewN _ _ _)
      · rw [Bool.eq_iff_iff, okN_iff, plainB_iff]; first | (simp; done) | (simp; omega) | (simp [IntKind.wrap_i64]; omega)
      · rw [okN_iff, plainB_iff]; first | (simp [nkI]; done) | (simp [nkI]; omega) | (simp [nkI, wrap64]; omega) | (simp [nkI, IntKind.wrap_i64]; omega)
  · have h2 : (a == 0) = false := by simp [h1]
    have H1 := Lib.hid h1
    clear h1
    go_enter Try.func78, Try.ntmps78
    go_wp2
    all_goals
      have h1 := H1.out
      refine bodyPost_ret (results_tmp2 rfl _ _ _) rfl ?_
      refine countPost ?_ ?_ (by first | exact below_alloc _ _ | exact below_box_drewN _ _ _)
      · rw [Bool.eq_iff_iff, okN_iff, plainB_iff]; first | (simp; done) | (simp; omega) | (simp [IntKind.wrap_i64]; omega)
      · rw [okN_iff, plainB_iff]; first | (simp [nkI]; done) | (simp [nkI]; omega) | (simp [nkI, wrap64]; omega) | (simp [nkI, IntKind.wrap_i64]; omega)
set_option maxRecDepth 100000 in
set_option maxHeartbeats 1000000 in
theorem count_7 (a b : Int) (w : World) :
    Calls Try.prog 78 #[.agg #[.int .i64 7, .int .i64 a, .int .i64 b]] w (CountPost ⟨7, a, b⟩ w) := by
  by_cases h1 : a = 0
  · have h2 : (a == 0) = true := by simp [h1]
    have H1 := Lib.hid h1
    clear h1
    go_enter Try.func78, Try.ntmps78
    go_wp2
    all_goals
      have h1 := H1.out
      refine bodyPost_ret (results_tmp2 rfl _ _ _) rfl ?_
      refine countPost ?_ ?_ (by first | exact below_alloc _ _ | exact below_box_drewN _ _ _)
      · rw [Bool.eq_iff_iff, okN_iff, plainB_iff]; first | (simp; done) | (simp; omega) | (simp [IntKind.wrap_i64]; omega)
      · rw [okN_iff, plainB_iff]; first | (simp [nkI]; done) | (simp [nkI]; omega) | (simp [nkI, wrap64]; omega) | (simp [nkI, IntKind.wrap_i64]; omega)
  · have h2 : (a == 0) = false := by simp [h1]
    have H1 := Lib.hid h1
    clear h1
    go_enter Try.func78, Try.ntmps78
    go_wp2
    all_goals
      have h1 := H1.out
      refine bodyPost_ret (results_tmp2 rfl _ _ _) rfl ?_
      refine countPost ?_ ?_ (by first | exact below_alloc _ _ | exact below_box_drewN _ _ _)
      · rw [Bool.eq_iff_iff, okN_iff, plainB_iff]; first | (simp; done) | (simp; omega) | (simp [IntKind.wrap_i64]; omega)
      · rw [okN_iff, plainB_iff]; first | (simp [nkI]; done) | (simp [nkI]; omega) | (simp [nkI, wrap64]; omega) | (simp [nkI, IntKind.wrap_i64]; omega)
set_option maxRecDepth 100000 in
set_option maxHeartbeats 1000000 in
theorem count_8 (a b : Int) (w : World) :
    Calls Try.prog 78 #[.agg #[.int .i64 8, .int .i64 a, .int .i64 b]] w (CountPost ⟨8, a, b⟩ w) := by
  by_cases a0 : a = 0
  · have a0b : (a == 0) = true := by simp [a0]
    have A0 := Lib.hid a0
    clear a0
    by_cases ht : 0 ≤ a ∧ a ≤ 63
    · obtain ⟨hl, hh⟩ := ht
      go_enter Try.func78, Try.ntmps78
      go_wp2_with fail
      all_goals
        go_quiet ((go_at_call 79; first | exact within_qt _ _ _ _ _ (by omega) | exact within_qf _ _ _ _ _ (by omega) | exact within_q _ _ _ _ _))
        go_wp2_with fail
      all_goals
        have a0 := A0.out
        refine bodyPost_ret (results_tmp2 rfl _ _ _) rfl ?_
        refine countPost ?_ ?_ (by first | exact below_alloc _ _ | exact below_box_drewN _ _ _)
        · rw [Bool.eq_iff_iff, okN_iff, plainB_iff]; first | (simp; done) | (simp; omega) | (simp [IntKind.wrap_i64]; omega)
        · rw [okN_iff, plainB_iff]; first | (simp [nkI]; done) | (simp [nkI]; omega) | (simp [nkI, wrap64]; omega) | (simp [nkI, IntKind.wrap_i64]; omega)
    · have htb : (decide ((0 : Int) ≤ a) && decide (a ≤ 63)) = false := by rw [Bool.and_eq_false_iff, decide_eq_false_iff_not, decide_eq_false_iff_not]; omega
      have HT := Lib.hid ht
      go_enter Try.func78, Try.ntmps78
      go_wp2_with fail
      all_goals
        go_quiet ((go_at_call 79; first | exact within_qt _ _ _ _ _ (by omega) | exact within_qf _ _ _ _ _ (by omega) | exact within_q _ _ _ _ _))
        go_wp2_with fail
      all_goals
        have a0 := A0.out
        refine bodyPost_ret (results_tmp2 rfl _ _ _) rfl ?_
        refine countPost ?_ ?_ (by first | exact below_alloc _ _ | exact below_box_drewN _ _ _)
        · rw [Bool.eq_iff_iff, okN_iff, plainB_iff]; first | (simp; done) | (simp; omega) | (simp [IntKind.wrap_i64]; omega)
        · rw [okN_iff, plainB_iff]; first | (simp [nkI]; done) | (simp [nkI]; omega) | (simp [nkI, wrap64]; omega) | (simp [nkI, IntKind.wrap_i64]; omega)
  · have a0b : (a == 0) = false := by simp [a0]
    have A0 := Lib.hid a0
    clear a0
    by_cases ht : 0 ≤ a ∧ a ≤ 63
    · obtain ⟨hl, hh⟩ := ht
      go_enter Try.func78, Try.ntmps78
      go_wp2_with fail
      all_goals
        go_quiet ((go_at_call 79; first | exact within_qt _ _ _ _ _ (by omega) | exact within_qf _ _ _ _ _ (by omega) | exact within_q _ _ _ _ _))
        go_wp2_with fail
      all_goals
        have a0 := A0.out
        refine bodyPost_ret (results_tmp2 rfl _ _ _) rfl ?_
        refine countPost ?_ ?_ (by first | exact below_alloc _ _ | exact below_box_drewN _ _ _)
        · rw [Bool.eq_iff_iff, okN_iff, plainB_iff]; first | (simp; done) | (simp; omega) | (simp [IntKind.wrap_i64]; omega)
        · rw [okN_iff, plainB_iff]; first | (simp [nkI]; done) | (simp [nkI]; omega) | (simp [nkI, wrap64]; omega) | (simp [nkI, IntKind.wrap_i64]; omega)
    · have htb : (decide ((0 : Int) ≤ a) && decide (a ≤ 63)) = false := by rw [Bool.and_eq_false_iff, decide_eq_false_iff_not, decide_eq_false_iff_not]; omega
      have HT := Lib.hid ht
      go_enter Try.func78, Try.ntmps78
      go_wp2_with fail
      all_goals
        go_quiet ((go_at_call 79; first | exact within_qt _ _ _ _ _ (by omega) | exact within_qf _ _ _ _ _ (by omega) | exact within_q _ _ _ _ _))
        go_wp2_with fail
      all_goals
        have a0 := A0.out
        refine bodyPost_ret (results_tmp2 rfl _ _ _) rfl ?_
        refine countPost ?_ ?_ (by first | exact below_alloc _ _ | exact below_box_drewN _ _ _)
        · rw [Bool.eq_iff_iff, okN_iff, plainB_iff]; first | (simp; done) | (simp; omega) | (simp [IntKind.wrap_i64]; omega)
        · rw [okN_iff, plainB_iff]; first | (simp [nkI]; done) | (simp [nkI]; omega) | (simp [nkI, wrap64]; omega) | (simp [nkI, IntKind.wrap_i64]; omega)
set_option maxRecDepth 100000 in
set_option maxHeartbeats 1000000 in
theorem count_9 (a b : Int) (w : World) :
    Calls Try.prog 78 #[.agg #[.int .i64 9, .int .i64 a, .int .i64 b]] w (CountPost ⟨9, a, b⟩ w) := by
  by_cases a0 : a = 0
  · have a0b : (a == 0) = true := by simp [a0]
    have A0 := Lib.hid a0
    clear a0
    by_cases ht : 0 ≤ a ∧ a ≤ 63
    · obtain ⟨hl, hh⟩ := ht
      go_enter Try.func78, Try.ntmps78
      go_wp2_with fail
      all_goals
        go_quiet ((go_at_call 79; first | exact within_qt _ _ _ _ _ (by omega) | exact within_qf _ _ _ _ _ (by omega) | exact within_q _ _ _ _ _))
        go_wp2_with fail
      all_goals
        have a0 := A0.out
        refine bodyPost_ret (results_tmp2 rfl _ _ _) rfl ?_
        refine countPost ?_ ?_ (by first | exact below_alloc _ _ | exact below_box_drewN _ _ _)
        · rw [Bool.eq_iff_iff, okN_iff, plainB_iff]; first | (simp; done) | (simp; omega) | (simp [IntKind.wrap_i64]; omega)
        · rw [okN_iff, plainB_iff]; first | (simp [nkI]; done) | (simp [nkI]; omega) | (simp [nkI, wrap64]; omega) | (simp [nkI, IntKind.wrap_i64]; omega)
    · have htb : (decide ((0 : Int) ≤ a) && decide (a ≤ 63)) = false := by rw [Bool.and_eq_false_iff, decide_eq_false_iff_not, decide_eq_false_iff_not]; omega
      have HT := Lib.hid ht
      go_enter Try.func78, Try.ntmps78
      go_wp2_with fail
      all_goals
        go_quiet ((go_at_call 79; first | exact within_qt _ _ _ _ _ (by omega) | exact within_qf _ _ _ _ _ (by omega) | exact within_q _ _ _ _ _))
        go_wp2_with fail
      all_goals
        have a0 := A0.out
        refine bodyPost_ret (results_tmp2 rfl _ _ _) rfl ?_
        refine countPost ?_ ?_ (by first | exact below_alloc _ _ | exact below_box_drewN _ _ _)
        · rw [Bool.eq_iff_iff, okN_iff, plainB_iff]; first | (simp; done) | (simp; omega) | (simp [IntKind.wrap_i64]; omega)
        · rw [okN_iff, plainB_iff]; first | (simp [nkI]; done) | (simp [nkI]; omega) | (simp [nkI, wrap64]; omega) | (simp [nkI, IntKind.wrap_i64]; omega)
  · have a0b : (a == 0) = false := by simp [a0]
    have A0 := Lib.hid a0
    clear a0
    by_cases ht : 0 ≤ a ∧ a ≤ 63
    · obtain ⟨hl, hh⟩ := ht
      go_enter Try.func78, Try.ntmps78
      go_wp2_with fail
      all_goals
        go_quiet ((go_at_call 79; first | exact within_qt _ _ _ _ _ (by omega) | exact within_qf _ _ _ _ _ (by omega) | exact within_q _ _ _ _ _))
        go_wp2_with fail
      all_goals
        have a0 := A0.out
        refine bodyPost_ret (results_tmp2 rfl _ _ _) rfl ?_
        refine countPost ?_ ?_ (by first | exact below_alloc _ _ | exact below_box_drewN _ _ _)
        · rw [Bool.eq_iff_iff, okN_iff, plainB_iff]; first | (simp; done) | (simp; omega) | (simp [IntKind.wrap_i64]; omega)
        · rw [okN_iff, plainB_iff]; first | (simp [nkI]; done) | (simp [nkI]; omega) | (simp [nkI, wrap64]; omega) | (simp [nkI, IntKind.wrap_i64]; omega)
    · have htb : (decide ((0 : Int) ≤ a) && decide (a ≤ 63)) = false := by rw [Bool.and_eq_false_iff, decide_eq_false_iff_not, decide_eq_false_iff_not]; omega
      have HT := Lib.hid ht
      go_enter Try.func78, Try.ntmps78
      go_wp2_with fail
      all_goals
        go_quiet ((go_at_call 79; first | exact within_qt _ _ _ _ _ (by omega) | exact within_qf _ _ _ _ _ (by omega) | exact within_q _ _ _ _ _))
        go_wp2_with fail
      all_goals
        have a0 := A0.out
        refine bodyPost_ret (results_tmp2 rfl _ _ _) rfl ?_
        refine countPost ?_ ?_ (by first | exact below_alloc _ _ | exact below_box_drewN _ _ _)
        · rw [Bool.eq_iff_iff, okN_iff, plainB_iff]; first | (simp; done) | (simp; omega) | (simp [IntKind.wrap_i64]; omega)
        · rw [okN_iff, plainB_iff]; first | (simp [nkI]; done) | (simp [nkI]; omega) | (simp [nkI, wrap64]; omega) | (simp [nkI, IntKind.wrap_i64]; omega)
set_option maxRecDepth 100000 in
set_option maxHeartbeats 1000000 in
theorem count_10 (a b : Int) (w : World) :
    Calls Try.prog 78 #[.agg #[.int .i64 10, .int .i64 a, .int .i64 b]] w (CountPost ⟨10, a, b⟩ w) := by
  by_cases a0 : a = 0
  · have a0b : (a == 0) = true := by simp [a0]
    have A0 := Lib.hid a0
    clear a0
    by_cases ht : 0 ≤ a ∧ a ≤ 63
    · obtain ⟨hl, hh⟩ := ht
      go_enter Try.func78, Try.ntmps78
      go_wp2_with (go_at_call 79; refine (within_any _ _ _ _).mono ?_; rintro e w2 ⟨rfl, rfl⟩)
      all_goals
        have a0 := A0.out
        refine bodyPost_ret (results_tmp2 rfl _ _ _) rfl ?_
        refine countPost ?_ ?_ (by first | exact below_alloc _ _ | exact below_box_drewN _ _ _)
        · rw [Bool.eq_iff_iff, okN_iff, plainB_iff]; first | (simp; done) | (simp; omega) | (simp [IntKind.wrap_i64]; omega)
        · rw [okN_iff, plainB_iff]; first | (simp [nkI]; done) | (simp [nkI]; omega) | (simp [nkI, wrap64]; omega) | (simp [nkI, IntKind.wrap_i64]; omega)
    · have htb : (decide ((0 : Int) ≤ a) && decide (a ≤ 63)) = false := by rw [Bool.and_eq_false_iff, decide_eq_false_iff_not, decide_eq_false_iff_not]; omega
      have HT := Lib.hid ht
      clear ht
      go_enter Try.func78, Try.ntmps78
      go_wp2_with (go_at_call 79; refine (within_any _ _ _ _).mono ?_; rintro e w2 ⟨rfl, rfl⟩)
      all_goals
        have a0 := A0.out
        have ht := HT.out
        refine bodyPost_ret (results_tmp2 rfl _ _ _) rfl ?_
        refine countPost ?_ ?_ (by first | exact below_alloc _ _ | exact below_box_drewN _ _ _)
        · rw [Bool.eq_iff_iff, okN_iff, plainB_iff]; first | (simp; done) | (simp; omega) | (simp [IntKind.wrap_i64]; omega)
        · rw [okN_iff, plainB_iff]; first | (simp [nkI]; done) | (simp [nkI]; omega) | (simp [nkI, wrap64]; omega) | (simp [nkI, IntKind.wrap_i64]; omega)
  · have a0b : (a == 0) = false := by simp [a0]
    have A0 := Lib.hid a0
    clear a0
    by_cases ht : 0 ≤ a ∧ a ≤ 63
    · obtain ⟨hl, hh⟩ := ht
      go_enter Try.func78, Try.ntmps78
      go_wp2_with (go_at_call 79; refine (within_any _ _ _ _).mono ?_; rintro e w2 ⟨rfl, rfl⟩)
      all_goals
        have a0 := A0.out
        refine bodyPost_ret (results_tmp2 rfl _ _ _) rfl ?_
        refine countPost ?_ ?_ (by first | exact below_alloc _ _ | exact below_box_drewN _ _ _)
        · rw [Bool.eq_iff_iff, okN_iff, plainB_iff]; first | (simp; done) | (simp; omega) | (simp [IntKind.wrap_i64]; omega)
        · rw [okN_iff, plainB_iff]; first | (simp [nkI]; done) | (simp [nkI]; omega) | (simp [nkI, wrap64]; omega) | (simp [nkI, IntKind.wrap_i64]; omega)
    · have htb : (decide ((0 : Int) ≤ a) && decide (a ≤ 63)) = false := by rw [Bool.and_eq_false_iff, decide_eq_false_iff_not, decide_eq_false_iff_not]; omega
      have HT := Lib.hid ht
      clear ht
      go_enter Try.func78, Try.ntmps78
      go_wp2_with (go_at_call 79; refine (within_any _ _ _ _).mono ?_; rintro e w2 ⟨rfl, rfl⟩)
      all_goals
        have a0 := A0.out
        have ht := HT.out
        refine bodyPost_ret (results_tmp2 rfl _ _ _) rfl ?_
        refine countPost ?_ ?_ (by first | exact below_alloc _ _ | exact below_box_drewN _ _ _)
        · rw [Bool.eq_iff_iff, okN_iff, plainB_iff]; first | (simp; done) | (simp; omega) | (simp [IntKind.wrap_i64]; omega)
        · rw [okN_iff, plainB_iff]; first | (simp [nkI]; done) | (simp [nkI]; omega) | (simp [nkI, wrap64]; omega) | (simp [nkI, IntKind.wrap_i64]; omega)
set_option maxRecDepth 100000 in
set_option maxHeartbeats 1000000 in
theorem count_11 (a b : Int) (w : World) :
    Calls Try.prog 78 #[.agg #[.int .i64 11, .int .i64 a, .int .i64 b]] w (CountPost ⟨11, a, b⟩ w) := by
  by_cases a0 : a = 0
  · have a0b : (a == 0) = true := by simp [a0]
    have A0 := Lib.hid a0
    clear a0
    by_cases ht : 0 ≤ a ∧ a ≤ 63
    · obtain ⟨hl, hh⟩ := ht
      go_enter Try.func78, Try.ntmps78
      go_wp2_with fail
      all_goals
        go_quiet ((go_at_call 79; first | exact within_qt _ _ _ _ _ (by omega) | exact within_qf _ _ _ _ _ (by omega) | exact within_q _ _ _ _ _))
        go_wp2_with fail
      all_goals
        have a0 := A0.out
        refine bodyPost_ret (results_tmp2 rfl _ _ _) rfl ?_
        refine countPost ?_ ?_ (by first | exact below_alloc _ _ | exact below_box_drewN _ _ _)
        · rw [Bool.eq_iff_iff, okN_iff, plainB_iff]; first | (simp; done) | (simp; omega) | (simp [IntKind.wrap_i64]; omega)
        · rw [okN_iff, plainB_iff]; first | (simp [nkI]; done) | (simp [nkI]; omega) | (simp [nkI, wrap64]; omega) | (simp [nkI, IntKind.wrap_i64]; omega)
    · have htb : (decide ((0 : Int) ≤ a) && decide (a ≤ 63)) = false := by rw [Bool.and_eq_false_iff, decide_eq_false_iff_not, decide_eq_false_iff_not]; omega
      have HT := Lib.hid ht
      go_enter Try.func78, Try.ntmps78
      go_wp2_with fail
      all_goals
        go_quiet ((go_at_call 79; first | exact within_qt _ _ _ _ _ (by omega) | exact within_qf _ _ _ _ _ (by omega) | exact within_q _ _ _ _ _))
        go_wp2_with fail
      all_goals
        have a0 := A0.out
        refine bodyPost_ret (results_tmp2 rfl _ _ _) rfl ?_
        refine countPost ?_ ?_ (by first | exact below_alloc _ _ | exact below_box_drewN _ _ _)
        · rw [Bool.eq_iff_iff, okN_iff, plainB_iff]; first | (simp; done) | (simp; omega) | (simp [IntKind.wrap_i64]; omega)
        · rw [okN_iff, plainB_iff]; first | (simp [nkI]; done) | (simp [nkI]; omega) | (simp [nkI, wrap64]; omega) | (simp [nkI, IntKind.wrap_i64]; omega)
  · have a0b : (a == 0) = false := by simp [a0]
    have A0 := Lib.hid a0
    clear a0
    by_cases ht : 0 ≤ a ∧ a ≤ 63
    · obtain ⟨hl, hh⟩ := ht
      go_enter Try.func78, Try.ntmps78
      go_wp2_with fail
      all_goals
        go_quiet ((go_at_call 79; first | exact within_qt _ _ _ _ _ (by omega) | exact within_qf _ _ _ _ _ (by omega) | exact within_q _ _ _ _ _))
        go_wp2_with fail
      all_goals
        have a0 := A0.out
        refine bodyPost_ret (results_tmp2 rfl _ _ _) rfl ?_
        refine countPost ?_ ?_ (by first | exact below_alloc _ _ | exact below_box_drewN _ _ _)
        · rw [Bool.eq_iff_iff, okN_iff, plainB_iff]; first | (simp; done) | (simp; omega) | (simp [IntKind.wrap_i64]; omega)
        · rw [okN_iff, plainB_iff]; first | (simp [nkI]; done) | (simp [nkI]; omega) | (simp [nkI, wrap64]; omega) | (simp [nkI, IntKind.wrap_i64]; omega)
    · have htb : (decide ((0 : Int) ≤ a) && decide (a ≤ 63)) = false := by rw [Bool.and_eq_false_iff, decide_eq_false_iff_not, decide_eq_false_iff_not]; omega
      have HT := Lib.hid ht
      go_enter Try.func78, Try.ntmps78
      go_wp2_with fail
      all_goals
        go_quiet ((go_at_call 79; first | exact within_qt _ _ _ _ _ (by omega) | exact within_qf _ _ _ _ _ (by omega) | exact within_q _ _ _ _ _))
        go_wp2_with fail
      all_goals
        have a0 := A0.out
        refine bodyPost_ret (results_tmp2 rfl _ _ _) rfl ?_
        refine countPost ?_ ?_ (by first | exact below_alloc _ _ | exact below_box_drewN _ _ _)
        · rw [Bool.eq_iff_iff, okN_iff, plainB_iff]; first | (simp; done) | (simp; omega) | (simp [IntKind.wrap_i64]; omega)
        · rw [okN_iff, plainB_iff]; first | (simp [nkI]; done) | (simp [nkI]; omega) | (simp [nkI, wrap64]; omega) | (simp [nkI, IntKind.wrap_i64]; omega)
set_option maxRecDepth 100000 in
set_option maxHeartbeats 1000000 in
theorem count_12 (a b : Int) (w : World) :
    Calls Try.prog 78 #[.agg #[.int .i64 12, .int .i64 a, .int .i64 b]] w (CountPost ⟨12, a, b⟩ w) := by
  by_cases a0 : a = 0
  · have a0b : (a == 0) = true := by simp [a0]
    have A0 := Lib.hid a0
    clear a0
    by_cases ht : 1 ≤ b ∧ b ≤ 4
    · obtain ⟨hl, hh⟩ := ht
      go_enter Try.func78, Try.ntmps78
      go_wp2_with fail
      all_goals
        go_quiet ((go_at_call 79; first | exact within_qt _ _ _ _ _ (by omega) | exact within_qf _ _ _ _ _ (by omega) | exact within_q _ _ _ _ _))
        go_wp2_with fail
      all_goals
        have a0 := A0.out
        refine bodyPost_ret (results_tmp2 rfl _ _ _) rfl ?_
        refine countPost ?_ ?_ (by first | exact below_alloc _ _ | exact below_box_drewN _ _ _)
        · rw [Bool.eq_iff_iff, okN_iff, plainB_iff]; first | (simp; done) | (simp; omega) | (simp [IntKind.wrap_i64]; omega)
        · rw [okN_iff, plainB_iff]; first | (simp [nkI]; done) | (simp [nkI]; omega) | (simp [nkI, wrap64]; omega) | (simp [nkI, IntKind.wrap_i64]; omega)
    · have htb : (decide ((1 : Int) ≤ b) && decide (b ≤ 4)) = false := by rw [Bool.and_eq_false_iff, decide_eq_false_iff_not, decide_eq_false_iff_not]; omega
      have HT := Lib.hid ht
      go_enter Try.func78, Try.ntmps78
      go_wp2_with fail
      all_goals
        go_quiet ((go_at_call 79; first | exact within_qt _ _ _ _ _ (by omega) | exact within_qf _ _ _ _ _ (by omega) | exact within_q _ _ _ _ _))
        go_wp2_with fail
      all_goals
        have a0 := A0.out
        refine bodyPost_ret (results_tmp2 rfl _ _ _) rfl ?_
        refine countPost ?_ ?_ (by first | exact below_alloc _ _ | exact below_box_drewN _ _ _)
        · rw [Bool.eq_iff_iff, okN_iff, plainB_iff]; first | (simp; done) | (simp; omega) | (simp [IntKind.wrap_i64]; omega)
        · rw [okN_iff, plainB_iff]; first | (simp [nkI]; done) | (simp [nkI]; omega) | (simp [nkI, wrap64]; omega) | (simp [nkI, IntKind.wrap_i64]; omega)
  · have a0b : (a == 0) = false := by simp [a0]
    have A0 := Lib.hid a0
    clear a0
    by_cases ht : 1 ≤ b ∧ b ≤ 4
    · obtain ⟨hl, hh⟩ := ht
      go_enter Try.func78, Try.ntmps78
      go_wp2_with fail
      all_goals
        go_quiet ((go_at_call 79; first | exact within_qt _ _ _ _ _ (by omega) | exact within_qf _ _ _ _ _ (by omega) | exact within_q _ _ _ _ _))
        go_wp2_with fail
      all_goals
        have a0 := A0.out
        refine bodyPost_ret (results_tmp2 rfl _ _ _) rfl ?_
        refine countPost ?_ ?_ (by first | exact below_alloc _ _ | exact below_box_drewN _ _ _)
        · rw [Bool.eq_iff_iff, okN_iff, plainB_iff]; first | (simp; done) | (simp; omega) | (simp [IntKind.wrap_i64]; omega)
        · rw [okN_iff, plainB_iff]; first | (simp [nkI]; done) | (simp [nkI]; omega) | (simp [nkI, wrap64]; omega) | (simp [nkI, IntKind.wrap_i64]; omega)
    · have htb : (decide ((1 : Int) ≤ b) && decide (b ≤ 4)) = false := by rw [Bool.and_eq_false_iff, decide_eq_false_iff_not, decide_eq_false_iff_not]; omega
      have HT := Lib.hid ht
      go_enter Try.func78, Try.ntmps78
      go_wp2_with fail
      all_goals
        go_quiet ((go_at_call 79; first | exact within_qt _ _ _ _ _ (by omega) | exact within_qf _ _ _ _ _ (by omega) | exact within_q _ _ _ _ _))
        go_wp2_with fail
      all_goals
        have a0 := A0.out
        refine bodyPost_ret (results_tmp2 rfl _ _ _) rfl ?_
        refine countPost ?_ ?_ (by first | exact below_alloc _ _ | exact below_box_drewN _ _ _)
        · rw [Bool.eq_iff_iff, okN_iff, plainB_iff]; first | (simp; done) | (simp; omega) | (simp [IntKind.wrap_i64]; omega)
        · rw [okN_iff, plainB_iff]; first | (simp [nkI]; done) | (simp [nkI]; omega) | (simp [nkI, wrap64]; omega) | (simp [nkI, IntKind.wrap_i64]; omega)

set_option maxRecDepth 100000 in
set_option maxHeartbeats 1000000 in
theorem count_bad (op a b : Int) (w : World) (hop : ¬ (1 ≤ op ∧ op ≤ 12 ∧ op ≠ 3)) :
    Calls Try.prog 78 #[.agg #[.int .i64 op, .int .i64 a, .int .i64 b]] w (CountPost ⟨op, a, b⟩ w) := by
  have b1 : (op == 1) = false := beq_eq_false_iff_ne.2 (by omega)
  have b2 : (op == 2) = false := beq_eq_false_iff_ne.2 (by omega)
  have b4 : (op == 4) = false := beq_eq_false_iff_ne.2 (by omega)
  have b5 : (op == 5) = false := beq_eq_false_iff_ne.2 (by omega)
  have b6 : (op == 6) = false := beq_eq_false_iff_ne.2 (by omega)
  have b7 : (op == 7) = false := beq_eq_false_iff_ne.2 (by omega)
  have b8 : (op == 8) = false := beq_eq_false_iff_ne.2 (by omega)
  have b9 : (op == 9) = false := beq_eq_false_iff_ne.2 (by omega)
  have b10 : (op == 10) = false := beq_eq_false_iff_ne.2 (by omega)
  have b11 : (op == 11) = false := beq_eq_false_iff_ne.2 (by omega)
  have b12 : (op == 12) = false := beq_eq_false_iff_ne.2 (by omega)
  have HOP := Lib.hid hop
  clear hop
  by_cases a0 : a = 0
  · have a0b : (a == 0) = true := by simp [a0]
    clear a0
    go_enter Try.func78, Try.ntmps78
    go_wp2_with fail
    all_goals
      refine bodyPost_ret (results_tmp2 rfl _ _ _) rfl ?_
      refine countPost ?_ ?_ (below_alloc _ _)
      · have hop := HOP.out
        symm
        rw [okN_false_iff, plainB_iff]; dsimp only; omega
      · have hop := HOP.out
        rw [okN_iff, plainB_iff]; dsimp only; omega
  · have a0b : (a == 0) = false := by simp [a0]
    clear a0
    go_enter Try.func78, Try.ntmps78
    go_wp2_with fail
    all_goals
      refine bodyPost_ret (results_tmp2 rfl _ _ _) rfl ?_
      refine countPost ?_ ?_ (below_alloc _ _)
      · have hop := HOP.out
        symm
        rw [okN_false_iff, plainB_iff]; dsimp only; omega
      · have hop := HOP.out
        rw [okN_iff, plainB_iff]; dsimp only; omega

theorem count_any (op a b : Int) (w : World) :
    Calls Try.prog 78 #[.agg #[.int .i64 op, .int .i64 a, .int .i64 b]] w (CountPost ⟨op, a, b⟩ w) := by
  by_cases hop : 1 ≤ op ∧ op ≤ 12 ∧ op ≠ 3
  · have : op = 1 ∨ op = 2 ∨ op = 4 ∨ op = 5 ∨ op = 6 ∨ op = 7 ∨ op = 8 ∨ op = 9 ∨ op = 10 ∨ op = 11 ∨ op = 12 := by omega
    rcases this with rfl | rfl | rfl | rfl | rfl | rfl | rfl | rfl | rfl | rfl | rfl
    · exact count_1 a b w
    · exact count_2 a b w
    · exact count_4 a b w
    · exact count_5 a b w
    · exact count_6 a b w
    · exact count_7 a b w
    · exact count_8 a b w
    · exact count_9 a b w
    · exact count_10 a b w
    · exact count_11 a b w
    · exact count_12 a b w
  · exact count_bad op a b w hop


theorem count_yes (op a b : Int) (w : World) (h : okN ⟨op, a, b⟩ = true) :
    Calls Try.prog 78 #[.agg #[.int .i64 op, .int .i64 a, .int .i64 b]] w fun e w' => e = .returned (.tuple #[.int .i64 (nkI op b), .bool true]) ∧ Below w.heap.size w w' :=
  (count_any op a b w).mono fun _ _ ⟨⟨k, h1, h2⟩, h3⟩ => ⟨by rw [h1, h, h2 h], h3⟩
theorem count_no (op a b : Int) (w : World) (h : okN ⟨op, a, b⟩ = false) :
    Calls Try.prog 78 #[.agg #[.int .i64 op, .int .i64 a, .int .i64 b]] w fun e w' => (∃ k : Int, e = .returned (.tuple #[.int .i64 k, .bool false])) ∧ Below w.heap.size w w' :=
  (count_any op a b w).mono fun _ _ ⟨⟨k, h1, _⟩, h3⟩ => ⟨⟨k, by rw [h1, h]⟩, h3⟩
end

section
open Go.RowKit

theorem ar_add (n : Nd) (F1 : Fo) (pre : List Nd) (nd : Nd) (a : List Nd) (ks : Fo) : arL n.op n.b 0 (F1.app (.cons pre nd a ks .nil)) = arL n.op n.b 0 F1 ++ [aroundI n.op n.b (flen F1)] := by
  rw [arL_app, Nat.zero_add]; rfl
theorem rowsL_add (F1 : Fo) (pre : List Nd) (nd : Nd) (a : List Nd) (ks : Fo) : rowsL (F1.app (.cons pre nd a ks .nil)) = rowsL F1 ++ [row (.cons [] nd a ks .nil)] := by
  rw [rowsL_app]; rfl
theorem around_binders {op b k : Int} (h : op ≠ 12) : aroundI op b k = bindersI op k := by
  simp [aroundI, bindersI, h]
theorem NxS.setAt {g : Nat} {A : Option Addr} {n c p j : Nat} {A1 : Option Addr} {k1 : Nat} {A2 : Option Addr} {k2 : Nat} {xs1 xs2 : List Value} {w : World} (h : NxS g A n c p j A1 k1 A2 k2 xs1 xs2 w) (p' : Nat) :
    NxS g A n c p' j A1 k1 A2 k2 xs1 xs2 (w.setCell ⟨g + 4, 0, none⟩ (.int .i64 (p' : Int))) :=
  ⟨h.bt.far (by simp) _, h.bo.far (by simp) _, h.br.far (by simp) _, h.ba.set_ 0 _, ownsRow_setCell_below (a := ⟨g + 4, 0, none⟩) h.own1 (by simp) _, ownsRow_setCell_below (a := ⟨g + 4, 0, none⟩) h.own2 (by simp) _, h.off⟩
theorem NxS.alloc {g : Nat} {A : Option Addr} {n c p j : Nat} {A1 : Option Addr} {k1 : Nat} {A2 : Option Addr} {k2 : Nat} {xs1 xs2 : List Value} {w : World} (h : NxS g A n c p j A1 k1 A2 k2 xs1 xs2 w) (o : Obj) :
    NxS g A n c p j A1 k1 A2 k2 xs1 xs2 (w.alloc o) :=
  ⟨h.bt.alloc _, h.bo.alloc _, h.br.alloc _, h.ba.alloc _, h.own1.alloc _, h.own2.alloc _, h.off⟩
/-- What parts leaves: two rows of its own, the kids as pieces of the row, and the binders around each. -/
def PartsPost (A : Nd) (k : Fo) (w : World) (e : Ending) (w' : World) : Prop := Below w.heap.size w w' ∧ ∃ A1 k1 A2 k2 xs1, e = .returned (.tuple #[.slice A1 (flen k) k1, .slice A2 (flen k) k2]) ∧
  w'.ownsRow (w.heap.size + 5) 33 1 (.slice A1 (flen k) k1) (flen k) xs1 ∧ w'.ownsRow (w.heap.size + 5) 3 1 (.slice A2 (flen k) k2) (flen k) ((arL A.op A.b 0 k).map (Value.int .i64)) ∧ RowsC (· < w.heap.size) w xs1 (rowsL k)

set_option linter.unusedSimpArgs false in
set_option maxRecDepth 100000 in
set_option maxHeartbeats 4000000 in
theorem parts_any {A : Option Addr} {nn c : Nat} {l : List Nd} {w : World} {n : Nd} {ats : List Nd} {k : Fo} (h : TermV w A nn c l) (hs : shapeI l = 0) (hpp : pp [false] l = some (.cons [] n ats k .nil, [])) :
    Calls Try.prog 37 #[.slice A nn c] w (PartsPost n k w) := by
  obtain ⟨hok, hv1, hvk, hall, hpre, hrow, hl4, hfs⟩ := right_row hs hpp
  have hmf : ∀ (fn : Fn) (first cap : Array Value) (w : World), (Instr.makeFunc fn first cap).run Try.prog w = .ok (.func fn first cap) w := fun _ _ _ _ => rfl
  have hlen := h.len
  have hpos : 0 < nn := by rw [← hlen, hrow]; simp
  have hn0 : nth l 0 = n := by rw [hrow]; rfl
  obtain ⟨tb, toff, rfl, htb, g0, g1, g2⟩ := h.at_ hpos
  simp only [Nat.zero_mul, Nat.add_zero] at g0 g1 g2
  rw [hn0] at g0 g1 g2
  have H := Lib.hid h
  clear h
  go_enter Try.func37, Try.ntmps37
  go_wp2_with fail
  have hbk : -1000 ≤ n.b ∧ n.b ≤ 1000 := by
    have h1 := (okN_iff n).1 hok
    have h2 := plainB_iff.1 h1.1
    omega
  refine (kids_any n.op n.a n.b _ hbk).mono ?_
  rintro e w6 ⟨rfl, hw6⟩
  have hb5 : Below w.heap.size w (((((w.alloc (.cells #[.slice (some ⟨tb, toff, none⟩) nn c] 33)).alloc (.cells #[.int .i64 n.op, .int .i64 n.a, .int .i64 n.b] 41)).alloc (.cells #[.slice none 0 0] 48)).alloc (.cells #[.slice none 0 0] 50)).alloc (.cells #[.int .i64 1] 3)) :=
    ((((below_alloc w _).alloc (by simp) _).alloc (by simp <;> omega) _).alloc (by simp <;> omega) _).alloc (by simp <;> omega) _
  have hb6 := hb5.alloc hb5.size (.cells #[.int .i64 n.op, .int .i64 n.a, .int .i64 n.b] 41)
  rw [hw6] at hb6
  have hst : NxS w.heap.size (some ⟨tb, toff, none⟩) nn c 1 0 none 0 none 0 [] [] w6 := by
    subst hw6
    refine ⟨?_, ?_, ?_, ?_, World.ownsRow_nil _ _ _ _, World.ownsRow_nil _ _ _ _, fun b h => by simp [Value.ownBlock] at h⟩
    · exact (((((Blk.new _ _ _).alloc _).alloc _).alloc _).alloc _).alloc _
    · exact (((Blk.new' (by simp)).alloc _).alloc _).alloc _
    · exact ((Blk.new' (by simp)).alloc _).alloc _
    · exact (Blk.new' (by simp)).alloc _
  have hnd : Blk w6 (w.heap.size + 1) 41 #[.int .i64 n.op, .int .i64 n.a, .int .i64 n.b] := by
    subst hw6
    exact ((((Blk.new' (by simp)).alloc _).alloc _).alloc _).alloc _
  clear hw6 hb5
  go_wp2_with fail
  have hkw : Wf (ds n) k := (wf_of_pp hpp).2.2.2.1
  have hats : n.op ≠ 2 → ats = [] := fun h2 => by
    have h3 := (wf_of_pp hpp).2.2.1
    unfold AtOk at h3
    rw [if_neg h2] at h3
    exact h3
  go_loopw [16] (fun i wr => ∃ (F1 F2 : Fo) (j p : Nat) (A1 : Option Addr) (k1 : Nat) (A2 : Option Addr) (k2 : Nat) (xs1 xs2 : List Value), RowKit.Hid (k = F1.app F2) ∧ RowKit.Hid (flen F1 = if n.op = 12 then 2 * j else j) ∧ (j : Int) ≤ kidsI n.op n.b ∧ i = .int .i64 (j : Int) ∧
      RowKit.Hid (F2 = .nil ∨ l.drop p = row F2) ∧ p ≤ l.length ∧ RowKit.Hid (Wf (remd n j) F2) ∧ RowKit.Hid (NxS w.heap.size (some ⟨tb, toff, none⟩) nn c p (flen F1) A1 k1 A2 k2 xs1 xs2 wr) ∧
      RowKit.Hid (Blk wr (w.heap.size + 1) 41 #[.int .i64 n.op, .int .i64 n.a, .int .i64 n.b]) ∧ RowKit.Hid (Below w.heap.size w wr) ∧ RowKit.Hid (RowsC (· < w.heap.size) w xs1 (rowsL F1)) ∧ RowKit.Hid (xs2 = (arL n.op n.b 0 F1).map (Value.int .i64))) (fun i _ => (kidsI n.op n.b).toNat - (intOf i).toNat)
  case atStart =>
    refine ⟨.nil, k, 0, 1, none, 0, none, 0, [], [], Lib.hid rfl, Lib.hid (by simp [flen]), ?_, by go_num, Lib.hid ?_, by omega, Lib.hid (by rw [remd_zero]; exact hkw), Lib.hid hst, Lib.hid hnd, Lib.hid hb6, Lib.hid trivial, Lib.hid rfl⟩
    · have h1 := (okN_iff n).1 hok
      have h2 := plainB_iff.1 h1.1
      simp only [kidsI]
      repeat' split
      all_goals omega
    · by_cases h2 : n.op = 2
      · left
        have h3 : ds n = [] := by simp [ds, kidsI, h2]
        rw [h3] at hkw
        cases k with
        | nil => rfl
        | cons _ _ _ _ _ => exact hkw.elim
      · right
        rw [hrow, hats h2]
        rfl
  case round =>
    obtain ⟨F1, F2, j, p, A1, k1, A2, k2, xs1, xs2, hk, hfl, hjk, rfl, hF2, hp, hwf, hst, hnd, hbw, hrows, hints⟩ := hrel
    have zn := (hnd.out).cell
    have z2 : wr.cell? ⟨w.heap.size + 1 + 1, 0, none⟩ = some (.slice A1 (flen F1) k1) := hst.out.bo.cell 0
    have z3 : wr.cell? ⟨w.heap.size + 1 + 1 + 1, 0, none⟩ = some (.slice A2 (flen F1) k2) := hst.out.br.cell 0
    have hjb : (j : Int) ≤ 1002 := by
      have h1 : kidsI n.op n.b ≤ 1002 := by
        simp only [kidsI]
        repeat' split
        all_goals omega
      omega
    by_cases hlt : (j : Int) < kidsI n.op n.b
    · by_cases h12 : n.op = 12
      · have c12 : (n.op == 12) = true := beq_iff_eq.2 h12
        have H12 := Lib.hid h12
        have z4 : wr.cell? ⟨w.heap.size + 1 + 1 + 1 + 1, 0, none⟩ = some (.int .i64 (p : Int)) := hst.out.ba.cell 0
        have zf4 : wr.frozen? ⟨w.heap.size + 1 + 1 + 1 + 1, 0, none⟩ = false := hst.out.ba.frozen 0
        have zl4 : w.heap.size + 1 + 1 + 1 + 1 < wr.heap.size := hst.out.ba.lt
        clear h12
        have hkb : kidsI n.op n.b = n.b := by simp [kidsI, H12.out]
        have hw2 := hwf.out
        rw [remd_fix H12.out (by omega)] at hw2
        match F2, hw2, hk, hF2 with
        | .cons pre nd a ks F3, hw3, hk, hF2 =>
        obtain ⟨f, rfl, _⟩ := hw3.1
        match F3, hw3, hk, hF2 with
        | .cons pre2 nd2 a2 ks2 F4, hw3, hk, hF2 =>
        have hw4 := hw3.2.2.2.2
        have hp2 : pre2 = [] := hw4.1
        subst hp2
        have hl2 := hF2.out.resolve_left (by simp)
        obtain ⟨q1, he1, hd1, hpq1, hq1, ht1⟩ := kid_ends hw3 hl2 hp
        obtain ⟨q2, he2, hd2, hpq2, hq2, ht2⟩ := kid_ends hw4 hd1 hq1
        simp only [List.length_cons, List.length_nil, Nat.zero_add, Nat.add_zero] at he1 hpq1 ht1 he2 hpq2 ht2
        have HE1 := Lib.hid he1
        have HT1 := Lib.hid ht1
        have HE2 := Lib.hid he2
        have HT2 := Lib.hid ht2
        have HD2 := Lib.hid hd2
        have HW5 := Lib.hid hw4.2.2.2.2
        have HKB := Lib.hid hkb
        have HTW : RowKit.Hid (∀ w1, Below w.heap.size w w1 → TermR (· < w.heap.size) w1 (some ⟨tb, toff, none⟩) nn c l) := Lib.hid fun w1 hb => H.out.keep fun b hb' => ⟨hb', fun o => cell_of_heap (hb.block b hb') o⟩
        have hst1 := hst.out.setAt (p + 1)
        have hb1 : Below w.heap.size w (wr.setCell ⟨w.heap.size + 4, 0, none⟩ (.int .i64 ((p + 1 : Nat) : Int))) := hbw.out.setCell (by simp) _
        have HFL : RowKit.Hid (flen F1 = 2 * j) := Lib.hid (by have := hfl.out; rwa [if_pos H12.out] at this)
        have hf1 : flen F1 ≤ 2004 := by have := HFL.out; omega
        have hnd1 : Blk (wr.setCell ⟨w.heap.size + 4, 0, none⟩ (.int .i64 ((p + 1 : Nat) : Int))) (w.heap.size + 1) 41 #[.int .i64 n.op, .int .i64 n.a, .int .i64 n.b] := hnd.out.far (by simp) _
        have hcall := next_any hst1 (HTW.out _ hb1) HE1.out hpq1 (by omega) (by omega) 0
        have HCALL := Lib.hid hcall
        have HB1 := Lib.hid hb1
        have HND1 := Lib.hid hnd1
        clear hkb hw2 hw3 hw4 hl2 he1 hd1 ht1 he2 hd2 ht2 hst1 hb1 hcall hwf hfl hnd1
        go_wp2_with fail
        have hcast : ((p : Int) + 1) = ((p + 1 : Nat) : Int) := by omega
        rw [hcast]
        refine (HCALL.out).mono ?_
        rintro e w3 ⟨rfl, hb3, hs3, hg3, A1', k1', A2', k2', A', hst3, hpc3⟩
        have hnd3 : Blk w3 (w.heap.size + 1) 41 #[.int .i64 n.op, .int .i64 n.a, .int .i64 n.b] := hg3.trans HND1.out
        have hb4 := HB1.out.trans hb3
        have hcall2 := next_any hst3 (HTW.out _ hb4) HE2.out hpq2 (by omega) (by omega) n.b
        have HCALL2 := Lib.hid hcall2
        have zn3 := hnd3.cell
        have HND3 := Lib.hid hnd3
        have HB4 := Lib.hid hb4
        have HST3 := Lib.hid hst3
        have HPC3 := Lib.hid hpc3
        clear hcall2 hst3 hg3 hb3 hb4 hnd3 z2 z3 z4 zf4 zl4 zn hs3 hcast hpc3
        go_wp2_with fail
        refine (HCALL2.out).mono ?_
        rintro e w5 ⟨rfl, hb5, hs5, hg5, A1'', k1'', A2'', k2'', A'', hst5, hpc5⟩
        have hnd5 := hg5.trans HND3.out
        have hb6' := HB4.out.trans hb5
        have HND5 := Lib.hid hnd5
        have HB6 := Lib.hid hb6'
        have HST5 := Lib.hid hst5
        have HPC5 := Lib.hid hpc5
        clear hnd5 hb6' hst5 hpc5 hg5 hb5 zn3
        go_wp2_with fail
        go_roundw
        case rel =>
          refine ⟨(F1.app (.cons [f] nd a ks .nil)).app (.cons [] nd2 a2 ks2 .nil), F4, j + 1, q2, A1'', k1'', A2'', k2'', (xs1 ++ [.slice A' (q1 - (p + 1)) (c - (p + 1))]) ++ [.slice A'' (q2 - q1) (c - q1)], (xs2 ++ [.int .i64 0]) ++ [.int .i64 n.b], Lib.hid ?_, Lib.hid ?_, by omega, by go_num, Lib.hid (.inr HD2.out), hq2, HW5, ?_, HND5, HB6, Lib.hid ?_, Lib.hid ?_⟩
          rotate_left 2
          · have e : flen ((F1.app (.cons [f] nd a ks .nil)).app (.cons [] nd2 a2 ks2 .nil)) = flen F1 + 1 + 1 := by simp [flen_app, flen]
            rw [e]
            exact HST5
          · rw [rowsL_add, rowsL_add]
            refine RowsC.add ?_ (RowsC.add ?_ hrows.out)
            · rw [← HT2.out]; exact HPC5.out _ _ H.out
            · rw [← HT1.out]; exact HPC3.out _ _ H.out
          · rw [ar_add, ar_add, hints.out]
            have e : flen (F1.app (.cons [f] nd a ks .nil)) = 2 * j + 1 := by have := HFL.out; simp [flen_app, flen, this]
            rw [e, HFL.out]
            simp [aroundI, H12.out]
          · rw [hk.out, app_assoc, app_assoc]; rfl
          · rw [if_pos H12.out]
            have := HFL.out
            simp [flen_app, flen]; omega
        case measure =>
          have := HKB.out
          simp [intOf]; omega
      · have c12 : (n.op == 12) = false := beq_eq_false_iff_ne.2 h12
        have H12 := Lib.hid h12
        clear h12
        have hw2 := hwf.out
        rw [remd_one H12.out hlt] at hw2
        match F2, hw2, hk, hF2 with
        | .cons pre nd a ks F3, hw3, hk, hF2 =>
        have hp2 : pre = [] := hw3.1
        subst hp2
        have hl2 := hF2.out.resolve_left (by simp)
        obtain ⟨q1, he1, hd1, hpq1, hq1, ht1⟩ := kid_ends hw3 hl2 hp
        simp only [List.length_nil, Nat.add_zero] at he1 hpq1 ht1
        have HE1 := Lib.hid he1
        have HT1 := Lib.hid ht1
        have HD1 := Lib.hid hd1
        have HW5 := Lib.hid hw3.2.2.2.2
        have HTW : RowKit.Hid (∀ w1, Below w.heap.size w w1 → TermR (· < w.heap.size) w1 (some ⟨tb, toff, none⟩) nn c l) := Lib.hid fun w1 hb => H.out.keep fun b hb' => ⟨hb', fun o => cell_of_heap (hb.block b hb') o⟩
        have hst1 := hst.out.alloc (.cells #[.int .i64 n.op, .int .i64 n.a, .int .i64 n.b] 41)
        have hb1 : Below w.heap.size w (wr.alloc (.cells #[.int .i64 n.op, .int .i64 n.a, .int .i64 n.b] 41)) := hbw.out.alloc hbw.out.size _
        have HFL : RowKit.Hid (flen F1 = j) := Lib.hid (by have := hfl.out; rwa [if_neg H12.out] at this)
        have hf1 : flen F1 ≤ 2004 := by have := HFL.out; omega
        have hnd1 : Blk (wr.alloc (.cells #[.int .i64 n.op, .int .i64 n.a, .int .i64 n.b] 41)) (w.heap.size + 1) 41 #[.int .i64 n.op, .int .i64 n.a, .int .i64 n.b] := hnd.out.alloc _
        have hcall := next_any hst1 (HTW.out _ hb1) HE1.out hpq1 (by omega) (by omega) (bindersI n.op (j : Int))
        have HCALL := Lib.hid hcall
        have HB1 := Lib.hid hb1
        have HND1 := Lib.hid hnd1
        clear hw2 hw3 hl2 he1 hd1 ht1 hst1 hb1 hcall hwf hfl hnd1
        go_wp2_with (go_at_call 61; refine (binders_any _ _ _ _ _).mono ?_; rintro e w3 ⟨rfl, rfl⟩)
        refine (HCALL.out).mono ?_
        rintro e w3 ⟨rfl, hb3, hs3, hg3, A1', k1', A2', k2', A', hst3, hpc3⟩
        have hnd3 : Blk w3 (w.heap.size + 1) 41 #[.int .i64 n.op, .int .i64 n.a, .int .i64 n.b] := hg3.trans HND1.out
        have hb4 := HB1.out.trans hb3
        have HND3 := Lib.hid hnd3
        have HB4 := Lib.hid hb4
        have HST3 := Lib.hid hst3
        have HPC3 := Lib.hid hpc3
        clear hst3 hg3 hb3 hb4 hnd3 z2 z3 zn hs3 hpc3
        go_wp2_with fail
        go_roundw
        case rel =>
          refine ⟨F1.app (.cons [] nd a ks .nil), F3, j + 1, q1, A1', k1', A2', k2', xs1 ++ [.slice A' (q1 - p) (c - p)], xs2 ++ [.int .i64 (bindersI n.op (j : Int))], Lib.hid ?_, Lib.hid ?_, by omega, by go_num, Lib.hid (.inr HD1.out), hq1, HW5, ?_, HND3, HB4, Lib.hid ?_, Lib.hid ?_⟩
          rotate_left 2
          · have e : flen (F1.app (.cons [] nd a ks .nil)) = flen F1 + 1 := by simp [flen_app, flen]
            rw [e]
            exact HST3
          · rw [rowsL_add]
            refine RowsC.add ?_ hrows.out
            rw [← HT1.out]; exact HPC3.out _ _ H.out
          · rw [ar_add, hints.out, HFL.out, around_binders H12.out]
            simp
          · rw [hk.out, app_assoc]; rfl
          · rw [if_neg H12.out]
            have := HFL.out
            simp [flen_app, flen]; omega
        case measure => simp [intOf]; omega
    · have hkf : RowKit.Hid (k = F1) := by
        have hw2 := hwf.out
        rw [remd_end n (by omega)] at hw2
        match F2, hw2, hk with
        | .nil, _, hk => exact Lib.hid (hk.out.trans (app_nil F1))
      go_wp2_with fail
      go_quiet (fail)
      go_wp2_with fail
      go_ret2
      refine ⟨below_drewN hbw.out _, A1, k1, A2, k2, xs1, by rw [hkf.out]; rfl, ?_, ?_, ?_⟩
      · rw [hkf.out]; exact hst.out.own1
      · rw [hkf.out, ← hints.out]; exact hst.out.own2
      · rw [hkf.out]; exact hrows.out
end

section
open Go.RowKit

theorem own_set {w : World} {base g n c : Nat} {e : TypeId} {xs : List Value} (h : w.ownsRow base e 1 (.slice (some ⟨g, 0, none⟩) n c) n xs) (i : Nat) (u : Value) : (w.setCell ⟨g, i, none⟩ u).ownsRow base e 1 (.slice (some ⟨g, 0, none⟩) n c) n (xs.set i u) := by
  obtain ⟨hl, hc⟩ := h
  refine ⟨by simpa using hl, .inr ?_⟩
  rcases hc with ⟨h1, _⟩ | ⟨g', cap, cur, hv, hg, hh, h1, h2, h3, h4⟩
  · cases h1
  · injection hv with e1 e2 e3
    injection e1 with e1
    injection e1 with e1
    subst e1 e3
    refine ⟨g, c, cur.setIfInBounds i u, rfl, hg, ?_, h1, h2, by simpa using h3, ?_⟩
    · have hb : Blk w g e cur := hh
      exact hb.set_ i u
    · rw [Array.toList_setIfInBounds, List.take_set, h4]

set_option linter.unusedSimpArgs false in
set_option maxRecDepth 100000 in
set_option maxHeartbeats 4000000 in
theorem binders4_any {A : Option Addr} {nn c : Nat} {l : List Nd} {w : World} (h : TermV w A nn c l) :
    Calls Try.prog 23 #[.slice A nn c] w (IntsPost (arL (topOf l).1.op (topOf l).1.b 0 (topOf l).2) w) := by
  by_cases hs : shapeI l = 0
  · obtain ⟨_, n, ats, k, hpp, hrow, hfs⟩ := shape_ok hs
    have htop : topOf l = (n, k) := by
      unfold topOf
      rw [if_pos hs, hpp]
    have hfl : flen k ≤ 4096 := by have := flen_le_fsize k; omega
    have HTOP := Lib.hid htop
    have hsh := shape_any h
    rw [hs] at hsh
    have hparts : ∀ w2, Below w.heap.size w w2 → Calls Try.prog 37 #[.slice A nn c] w2 (PartsPost n k w2) := fun w2 hb => parts_any (h.below hb) hs hpp
    have HSH := Lib.hid hsh
    have HPARTS := Lib.hid hparts
    have HFL := Lib.hid hfl
    clear hsh hparts htop hs hpp hrow hfl h
    go_enter Try.func23, Try.ntmps23
    go_wp2_with fail
    refine (HSH.out).mono ?_
    rintro e w2 ⟨rfl, hb2⟩
    have HB2 := Lib.hid hb2
    clear hb2
    go_wp2_with fail
    refine (HPARTS.out _ HB2.out).mono ?_
    rintro e w3 ⟨hb3, A1, k1, A2, k2, xs1, rfl, ho1, ho2, hr⟩
    go_wp2_with fail
    go_ret
    rw [HTOP.out]
    exact ⟨HB2.out.trans (hb3.mono HB2.out.size), _, _, _, rfl, own_ints ho2 (by rw [arL_len]) (by have := HFL.out; omega)⟩
  · have htop : topOf l = (⟨0, 0, 0⟩, .nil) := by
      unfold topOf
      rw [if_neg hs]
    have HTOP := Lib.hid htop
    have hsb : (shapeI l != 0) = true := by simpa using hs
    have HSH := Lib.hid (shape_any h)
    clear htop hs h
    go_enter Try.func23, Try.ntmps23
    go_wp2_with fail
    refine (HSH.out).mono ?_
    rintro e w2 ⟨rfl, hb2⟩
    have HB2 := Lib.hid hb2
    clear hb2
    go_wp2_with fail
    go_ret
    rw [HTOP.out]
    exact ⟨HB2.out, none, 0, 0, rfl, rfl, by decide, fun h => absurd h (by decide)⟩

set_option linter.unusedSimpArgs false in
set_option maxRecDepth 100000 in
set_option maxHeartbeats 4000000 in
theorem kids4_any {A : Option Addr} {nn c : Nat} {l : List Nd} {w : World} (h : TermV w A nn c l) :
    Calls Try.prog 22 #[.slice A nn c] w (RowsPost (rowsL (topOf l).2) w) := by
  by_cases hs : shapeI l = 0
  · obtain ⟨_, n, ats, k, hpp, hrow, hfs⟩ := shape_ok hs
    have htop : topOf l = (n, k) := by
      unfold topOf
      rw [if_pos hs, hpp]
    have hfl : flen k ≤ 4096 := by have := flen_le_fsize k; omega
    have HTOP := Lib.hid htop
    have hsh := shape_any h
    rw [hs] at hsh
    have hparts : ∀ w2, Below w.heap.size w w2 → Calls Try.prog 37 #[.slice A nn c] w2 (PartsPost n k w2) := fun w2 hb => parts_any (h.below hb) hs hpp
    have HSH := Lib.hid hsh
    have HPARTS := Lib.hid hparts
    clear hsh hparts htop hs hpp hrow h
    go_enter Try.func22, Try.ntmps22
    go_wp2_with fail
    refine (HSH.out).mono ?_
    rintro e w2 ⟨rfl, hb2⟩
    have HB2 := Lib.hid hb2
    clear hb2
    go_wp2_with fail
    refine (HPARTS.out _ HB2.out).mono ?_
    rintro e w3 ⟨hb3, A1, k1, A2, k2, xs1, rfl, ho1, ho2, hr⟩
    have HB3 := Lib.hid hb3
    have HO1 := Lib.hid ho1
    have HR := Lib.hid hr
    clear hb3 ho1 ho2 hr
    go_wp2_with fail
    go_loopw [16] (fun i wr => ∃ (F1 F2 : Fo) (j : Nat) (xa xb : List Value), RowKit.Hid (k = F1.app F2) ∧ RowKit.Hid (flen F1 = j) ∧ i = .int .i64 (j : Int) ∧ RowKit.Hid (wr.ownsRow (w2.heap.size + 5) 33 1 (.slice A1 (flen k) k1) (flen k) (xa ++ xb)) ∧
      RowKit.Hid (RowsC (Aside (w2.heap.size + 5) wr (.slice A1 (flen k) k1)) wr xa (rowsL F1)) ∧ RowKit.Hid (RowsC (· < w2.heap.size) w2 xb (rowsL F2)) ∧ RowKit.Hid (Below w2.heap.size w2 wr)) (fun i _ => flen k - (intOf i).toNat)
    case atStart => exact ⟨.nil, k, 0, [], xs1, Lib.hid rfl, Lib.hid rfl, rfl, HO1, Lib.hid trivial, HR, HB3⟩
    case round =>
      obtain ⟨F1, F2, j, xa, xb, hk, hj, rfl, hown, hra, hrb, hbw⟩ := hrel
      cases F2 with
      | nil =>
        have hkf : k = F1 := hk.out.trans (app_nil F1)
        have hjn : ¬ j < flen k := by rw [hkf, hj.out]; omega
        have HKF := Lib.hid hkf
        clear hkf
        match xb, hrb with
        | _ :: _, hrb => exact hrb.out.elim
        | [], hrb =>
        go_wp2_with fail
        go_ret
        rw [HTOP.out]
        refine ⟨HB2.out.trans (hbw.out.mono HB2.out.size), _, _, _, rfl, own_rows hown.out (by rw [rowsL_len]) (by omega) (ls := rowsL k) (S := Aside (w2.heap.size + 5) wr (.slice A1 (flen k) k1)) ?_ (fun b hb => hb.2.1)⟩
        rw [List.append_nil]
        have := hra.out
        rwa [← HKF.out] at this
      | cons pre nd a ks F3 =>
        have hjn : j < flen k := by rw [hk.out, flen_app, hj.out]; simp [flen]
        match xb, hrb with
        | [], hrb => exact hrb.out.elim
        | x :: xb, hrb =>
        obtain ⟨⟨A', n', c', rfl, ht⟩, hrb2⟩ := hrb.out
        obtain ⟨_, hcase⟩ := hown.out
        rcases hcase with ⟨_, h2⟩ | ⟨g, cap', cur, hv, hg, hh, _⟩
        · omega
        injection hv with e1 e2 e3
        subst e1
        subst e3
        clear e2
        have hxa : xa.length = j := by rw [hra.out.len, rowsL_len, hj.out]
        have hblk : Blk wr g 33 cur := hh
        have hcell : wr.cell? ⟨g, j, none⟩ = some (.slice A' n' c') := by
          have := hown.out.cellAt (g := g) j (by omega)
          rw [this, List.getElem?_append_right (by omega), hxa, Nat.sub_self]
          rfl
        have HCLONE := Lib.hid (clone_any (ht.keep (R' := (· < wr.heap.size)) (w' := wr) fun b hb => ⟨Nat.lt_of_lt_of_le hb hbw.out.size, fun o => cell_of_heap (hbw.out.block b hb) o⟩))
        have HG := Lib.hid hg
        have HBLK := Lib.hid hblk
        have HT := Lib.hid ht
        have HRB2 := Lib.hid hrb2
        have HXA := Lib.hid hxa
        clear hg hh hblk ht hrb2 hxa
        go_wp2_with fail
        refine (HCLONE.out).mono ?_
        rintro e w4 ⟨hb4, A4, n4, c4, rfl, ht4⟩
        have hblk4 : Blk w4 g 33 cur := HBLK.out.below hb4 HBLK.out.lt
        have hcell4 : w4.cell? ⟨g, j, none⟩ = some (.slice A' n' c') := (cell_of_heap (hb4.block g HBLK.out.lt) j).trans hcell
        have hfz4 := hblk4.frozen
        have HB4 := Lib.hid hb4
        have HT4 := Lib.hid ht4
        have HZ := Lib.hid (HBLK.out.lt)
        clear hb4 ht4 hcell hblk4
        go_wp2_with fail
        go_roundw
        case rel =>
          have hown4 := own_set (own_below hown.out HB4.out) j (.slice A4 n4 c4)
          rw [List.set_append_right _ _ (by have := HXA.out; omega), HXA.out, Nat.sub_self, List.set_cons_zero] at hown4
          have hsz : wr.heap.size ≤ w4.heap.size := HB4.out.size
          have hcW : ∀ b, b ≠ g → ∀ o, (w4.setCell ⟨g, j, none⟩ (.slice A4 n4 c4)).cell? ⟨b, o, none⟩ = w4.cell? ⟨b, o, none⟩ := fun b hb o => cell_of_heap (Below.heap_setCell _ _ _ _ hb) o
          have hszW : (w4.setCell ⟨g, j, none⟩ (.slice A4 n4 c4)).heap.size = w4.heap.size := by simp [World.setCell]
          have hgo : (Value.slice (some ⟨g, 0, none⟩) (flen k) k1).ownBlock = some g := rfl
          have hs2 := hbw.out.size
          refine ⟨F1.app (.cons pre nd a ks .nil), F3, j + 1, xa ++ [.slice A4 n4 c4], xb, Lib.hid (by rw [hk.out, app_assoc]; rfl), Lib.hid (by rw [flen_app, hj.out]; rfl), by go_num, Lib.hid ?_, Lib.hid ?_, HRB2, Lib.hid ?_⟩
          · rw [List.append_assoc]; exact hown4
          · rw [rowsL_add]
            refine RowsC.add (HT4.out.keep fun b hb => ?_) (hra.out.keep fun b hb => ?_)
            · obtain ⟨q1, q2⟩ := hb
              have hgz := HZ.out
              have hgb := HG.out
              have hne : b ≠ g := by omega
              exact ⟨⟨by omega, by rw [hszW]; exact q2, by rw [hgo]; intro e; injection e with e; exact hne e.symm⟩, hcW b hne⟩
            · obtain ⟨q1, q2, q3⟩ := hb
              have hne : b ≠ g := fun e => q3 (by rw [hgo, e])
              refine ⟨⟨q1, by rw [hszW]; omega, q3⟩, fun o => ?_⟩
              rw [hcW b hne o]
              exact cell_of_heap (HB4.out.block b q2) o
          · have := HG.out
            exact (hbw.out.trans (HB4.out.mono hs2)).setCell (by simp; omega) _
        case measure => simp [intOf]; omega
  · have htop : topOf l = (⟨0, 0, 0⟩, .nil) := by
      unfold topOf
      rw [if_neg hs]
    have HTOP := Lib.hid htop
    have hsb : (shapeI l != 0) = true := by simpa using hs
    have HSH := Lib.hid (shape_any h)
    clear htop hs h
    go_enter Try.func22, Try.ntmps22
    go_wp2_with fail
    refine (HSH.out).mono ?_
    rintro e w2 ⟨rfl, hb2⟩
    have HB2 := Lib.hid hb2
    clear hb2
    go_wp2_with fail
    go_ret
    rw [HTOP.out]
    exact ⟨HB2.out, none, 0, 0, rfl, rfl, by decide, fun h => absurd h (by decide)⟩
end

end Go.Proofs.Ytpkldboeohhmpaa
