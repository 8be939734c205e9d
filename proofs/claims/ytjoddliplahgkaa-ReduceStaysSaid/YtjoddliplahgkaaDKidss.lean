/- Merged: LiftP, TermP, TermP2, TermP3, TermP4, Parts0, KidsD, Parts1, Clone, Count, Parts, Kids. -/
import Derived.Test.YtjoddliplahgkaaDBase
import Derived.Test.YtjoddliplahgkaaDSubst
import Derived.Test.YtjoddliplahgkaaDGuarded
import Derived.Test.YtjoddliplahgkaaDRowsD
import Derived.Test.YtjoddliplahgkaaDEnds
import Derived.Test.YtjoddliplahgkaaDLeafs
import Derived.Lib.SliceRun
import Derived.Test.YtjoddliplahgkaaProg
import Derived.WalkKit
import Derived.WalkLawsBesides
import Derived.WalkSpells
import Derived.Lib.Hide
import Derived.Deep.QuietTactic
import Derived.BigQuiet
namespace Go.Proofs.Ytjoddliplahgkaa
open Go.Lib (hid)
set_option maxHeartbeats 4000000
set_option maxRecDepth 100000
set_option linter.unusedSimpArgs false
section
open Go.RowKit
def raiN (up : Int) (n : Nd) (f : Int) : Nd := if n.op = 1 ∧ f ≤ n.a then ⟨1, n.a + up, 0⟩ else n
def raiA (n : Nd) (a : List Nd) (f : Int) : List Nd := if n.op = 1 ∧ f ≤ n.a then [] else a
def rai (pop pb up : Int) : Nat → Int → Fo → Fo
 | _, _, .nil => .nil
 | j, f, .cons p n a k x => .cons p (raiN up n (f + aroundI pop pb j)) (raiA n a (f + aroundI pop pb j)) (if n.op = 1 ∧ f + aroundI pop pb j ≤ n.a then .nil else rai n.op n.b up 0 (f + aroundI pop pb j) k) (rai pop pb up (j + 1) f x)
def raiK (up : Int) (n : Nd) (k : Fo) (f : Int) : Fo := if n.op = 1 ∧ f ≤ n.a then .nil else rai n.op n.b up 0 f k
theorem rai_cons (pop pb up : Int) (j : Nat) (f : Int) (p : List Nd) (n : Nd) (a : List Nd) (k x : Fo) : rai pop pb up j f (.cons p n a k x) = .cons p (raiN up n (f + aroundI pop pb j)) (raiA n a (f + aroundI pop pb j)) (raiK up n k (f + aroundI pop pb j)) (rai pop pb up (j + 1) f x) := rfl
theorem rai_app (pop pb up : Int) : ∀ (j : Nat) (f : Int) (F G : Fo), rai pop pb up j f (F.app G) = (rai pop pb up j f F).app (rai pop pb up (j + flen F) f G)
 | _, _, .nil, G => by simp [Fo.app, rai, flen]
 | j, f, .cons p n a k x, G => by
  have := rai_app pop pb up (j + 1) f x G
  rw [show (Fo.cons p n a k x).app G = .cons p n a k (x.app G) from rfl, rai_cons, rai_cons, this]
  simp only [Fo.app, flen]
  rw [show j + 1 + flen x = j + (flen x + 1) from by omega]
end
section
open Go.RowKit
end
section
open Go.RowKit
end
section
open Go.RowKit
def Vk : Fo → Prop
 | .nil => True
 | .cons _ n ats k x => okN n = true ∧ (n.op = 1 → ats = [] ∧ k = .nil) ∧ Vk k ∧ Vk x
theorem ds_one {n : Nd} (h : n.op = 1) : ds n = [] := by simp [ds, kidsI, h]
theorem vk_node {n : Nd} {ats : List Nd} {k : Fo} (h1 : AtOk n ats) (h2 : Wf (ds n) k) (h : n.op = 1) : ats = [] ∧ k = .nil := by
 rw [ds_one h] at h2
 constructor
 · unfold AtOk at h1
   rw [if_neg (by omega)] at h1
   exact h1
 cases k with
 | nil => rfl
 | cons _ _ _ _ _ => exact h2.elim
theorem vk_of_wf : ∀ (F : Fo) (dl : List Bool), Wf dl F → Vk F
 | .nil, _, _ => trivial
 | .cons _ _ _ _ _, [], h => h.elim
 | .cons p n ats k x, d :: dr, h => by
  obtain ⟨_, hok, hat, hk, hx⟩ := h
  exact ⟨hok, vk_node hat hk, vk_of_wf k _ hk, vk_of_wf x _ hx⟩
theorem pre_all : ∀ (F : Fo), (∀ m i, i % 2 = 0 → Wf ((List.replicate m [true, false]).flatten) F → PreOk true i F) ∧ (∀ m i, i % 2 = 1 → Wf (false :: (List.replicate m [true, false]).flatten) F → PreOk true i F) ∧ (∀ m i, Wf (List.replicate m false) F → PreOk false i F)
 | .nil => ⟨fun _ _ _ _ => trivial, fun _ _ _ _ => trivial, fun _ _ _ => trivial⟩
 | .cons p n ats k x => by
  have hk := pre_all k
  have hx := pre_all x
  have kid : Wf (ds n) k → PreOk (decide (n.op = 12)) 0 k := fun h => by
   unfold ds at h
   by_cases h12 : n.op = 12
   · rw [if_pos h12] at h
     rw [decide_eq_true h12]
     exact hk.1 _ 0 rfl h
   rw [if_neg h12] at h
   rw [decide_eq_false h12]
   exact hk.2.2 _ 0 h
  refine ⟨fun m i hi h => ?_, fun m i hi h => ?_, fun m i h => ?_⟩
  · cases m with
    | zero => exact h.elim
    | succ m =>
     simp only [List.replicate_succ, List.flatten_cons, List.cons_append, List.nil_append] at h
     obtain ⟨⟨f, hp, _⟩, _, _, hkk, hxx⟩ := h
     exact ⟨by rw [hp]; simp [hi], kid hkk, hx.2.1 m (i + 1) (by omega) hxx⟩
  · obtain ⟨hp, _, _, hkk, hxx⟩ := h
    simp only at hp
    exact ⟨by rw [hp]; simp [hi], kid hkk, hx.1 m (i + 1) (by omega) hxx⟩
  · cases m with
    | zero => exact h.elim
    | succ m =>
     rw [List.replicate_succ] at h
     obtain ⟨hp, _, _, hkk, hxx⟩ := h
     simp only at hp
     exact ⟨by rw [hp]; simp, kid hkk, hx.2.2 m (i + 1) hxx⟩
theorem pre_of_wf {n : Nd} {k : Fo} (h : Wf (ds n) k) : PreOk (decide (n.op = 12)) 0 k := by
 have hk := pre_all k
 unfold ds at h
 by_cases h12 : n.op = 12
 · rw [if_pos h12] at h
   rw [decide_eq_true h12]
   exact hk.1 _ 0 rfl h
 rw [if_neg h12] at h
 rw [decide_eq_false h12]
 exact hk.2.2 _ 0 h
end
section
open Go.RowKit
section
variable {l : List Nd} {n : Nd} {ats : List Nd} {k : Fo}
theorem right_row (hs : shapeI l = 0) (hpp : pp [false] l = some (.cons [] n ats k .nil, [])) : okN n = true ∧ (n.op = 1 → ats = [] ∧ k = .nil) ∧ Vk k ∧ AllOk k ∧ PreOk (decide (n.op = 12)) 0 k ∧ l = n :: (ats ++ row k) ∧ l.length ≤ 4096 ∧ fsize k ≤ 4096 := by
 obtain ⟨hl, n', ats', k', hpp', hrow, hfs⟩ := shape_ok hs
 rw [hpp] at hpp'
 injection hpp' with e
 injection e with e1 _
 injection e1 with _ e2 e3 e4 _
 subst e2 e3 e4
 have hw := wf_of_pp hpp
 have hal := pp_allok hpp
 obtain ⟨_, hok, hat, hk, _⟩ := hw
 exact ⟨hok, vk_node hat hk, vk_of_wf _ _ hk, hal.2.1, pre_of_wf hk, hrow, hl, hfs⟩
end
end
section
open Go.RowKit
theorem kid_ends {l : List Nd} {p : Nat} {d : Bool} {dr : List Bool} {pre : List Nd} {nd : Nd} {a : List Nd} {ks x : Fo} (hw : Wf (d :: dr) (.cons pre nd a ks x)) (hl : l.drop p = row (.cons pre nd a ks x)) (hp : p ≤ l.length) :
 ∃ q, ends [false] l (p + pre.length) = some q ∧ l.drop q = row x ∧ p + pre.length ≤ q ∧ q ≤ l.length ∧ (l.take q).drop (p + pre.length) = row (.cons [] nd a ks .nil) := by
 obtain ⟨_, hok, hat, hk, hx⟩ := hw
 have hd : l.drop (p + pre.length) = row (.cons [] nd a ks .nil) ++ row x := by
  rw [← List.drop_drop, hl]
  simp [row]
 have hw1 : Wf [false] (.cons [] nd a ks .nil) := ⟨rfl, hok, hat, hk, trivial⟩
 have hpp := pp_of_wf _ _ (row x) hw1
 have hlen := congrArg List.length hl
 rw [List.length_drop] at hlen
 have hlen2 : (row (.cons pre nd a ks x)).length = pre.length + ((row (.cons [] nd a ks .nil)).length + (row x).length) := by
  simp [row]; omega
 rw [hlen2] at hlen
 refine ⟨p + pre.length + (row (.cons [] nd a ks .nil)).length, ?_, ?_, by omega, by omega, ?_⟩
 · unfold ends
   rw [hd, hpp]
   simp only [Option.map_some]
   congr 1
   omega
 · rw [← List.drop_drop, hd]
   simp
 rw [List.drop_take, hd]
 have : p + pre.length + (row (.cons [] nd a ks .nil)).length - (p + pre.length) = (row (.cons [] nd a ks .nil)).length := by omega
 rw [this]
 simp
end
section
open Go.RowKit
def topOf (l : List Nd) : Nd × Fo := if shapeI l = 0 then (match pp [false] l with | some (.cons _ n _ k _, _) => (n, k) | _ => (⟨0, 0, 0⟩, .nil)) else (⟨0, 0, 0⟩, .nil)
def arL (pop pb : Int) : Nat → Fo → List Int
 | _, .nil => []
 | j, .cons _ _ _ _ x => aroundI pop pb j :: arL pop pb (j + 1) x
theorem arL_app (pop pb : Int) : ∀ (j : Nat) (F G : Fo), arL pop pb j (F.app G) = arL pop pb j F ++ arL pop pb (j + flen F) G
 | _, .nil, G => by simp [Fo.app, arL, flen]
 | j, .cons p n a k x, G => by
  simp only [Fo.app, arL, flen, List.cons_append]
  rw [arL_app pop pb (j + 1) x G, show j + 1 + flen x = j + (flen x + 1) from by omega]
theorem arL_len (pop pb : Int) : ∀ (j : Nat) (F : Fo), (arL pop pb j F).length = flen F
 | _, .nil => rfl
 | j, .cons p n a k x => by simp only [arL, flen, List.length_cons, arL_len pop pb (j + 1) x]
theorem own_ints {w : World} {base n c : Nat} {A : Option Addr} {zs : List Int} (h : w.ownsRow base 3 1 (.slice A n c) n (zs.map (Value.int .i64))) (hn : n = zs.length) (hf : n ≤ 5864062014805) : IntsR (· < w.heap.size) w A n c zs := by
 refine ⟨hn.symm, hf, fun hpos => ?_⟩
 have h0 := h
 obtain ⟨_, hcase⟩ := h
 rcases hcase with ⟨_, h2⟩ | ⟨g, cap', cur, hv, hg, hh, _⟩
 · omega
 injection hv with e1 e2 e3
 subst e1
 refine ⟨g, 0, rfl, (ownsRow_block h0 rfl).2.1, fun k hk => ?_⟩
 rw [Nat.zero_add, h0.cellAt k (by omega)]
 have : k < zs.length := by omega
 simp [List.getElem?_eq_getElem this]
def rowsL : Fo → List (List Nd)
 | .nil => []
 | .cons _ n a k x => row (.cons [] n a k .nil) :: rowsL x
theorem rowsL_app : ∀ (F G : Fo), rowsL (F.app G) = rowsL F ++ rowsL G
 | .nil, G => rfl
 | .cons p n a k x, G => by simp only [Fo.app, rowsL, List.cons_append, rowsL_app x G]
theorem rowsL_len : ∀ (F : Fo), (rowsL F).length = flen F
 | .nil => rfl
 | .cons p n a k x => by simp only [rowsL, flen, List.length_cons, rowsL_len x]
end
section
open Go.RowKit
structure NxS (g : Nat) (A : Option Addr) (n c p j : Nat) (A1 : Option Addr) (k1 : Nat) (A2 : Option Addr) (k2 : Nat) (xs1 xs2 : List Value) (w : World) : Prop where
 bt : Blk w g 29 #[.slice A n c]
 bo : Blk w (g + 2) 59 #[.slice A1 j k1]
 br : Blk w (g + 3) 122 #[.slice A2 j k2]
 ba : Blk w (g + 4) 3 #[.int .i64 (p : Int)]
 own1 : w.ownsRow (g + 5) 29 1 (.slice A1 j k1) j xs1
 own2 : w.ownsRow (g + 5) 3 1 (.slice A2 j k2) j xs2
 off : ∀ b, (Value.slice A1 j k1).ownBlock = some b → (Value.slice A2 j k2).ownBlock ≠ some b
theorem next_any {g : Nat} {A : Option Addr} {n c p q j : Nat} {A1 : Option Addr} {k1 : Nat} {A2 : Option Addr} {k2 : Nat} {xs1 xs2 : List Value} {w : World} {l : List Nd} (h : NxS g A n c p j A1 k1 A2 k2 xs1 xs2 w) (ht : TermR (· < g) w A n c l) (hq : ends [false] l p = some q) (hpq : p ≤ q) (hqn : q ≤ n) (hj : j ≤ 10000) (b : Int) :
 Calls Try.prog 100 #[.int .i64 b, .pointer (some ⟨g, 0, none⟩), .pointer (some ⟨g + 4, 0, none⟩), .pointer (some ⟨g + 2, 0, none⟩), .pointer (some ⟨g + 3, 0, none⟩)] w fun e w' => e = .returned (.tuple #[]) ∧ Below g w w' ∧ w.heap.size ≤ w'.heap.size ∧ w'.heap[g + 1]? = w.heap[g + 1]? ∧
  ∃ A1' k1' A2' k2' A', NxS g A n c q (j + 1) A1' k1' A2' k2' (xs1 ++ [.slice A' (q - p) (c - p)]) (xs2 ++ [.int .i64 b]) w' ∧ ∀ (R : Nat → Prop) (w : World), TermR R w A n c l → TermR R w A' (q - p) (c - p) ((l.take q).drop p) := by
 obtain ⟨i0, hi, hy0, hy1, hy2⟩ := info_parts infoR
 have HI0 := hid hi
 have HY0 := hid hy0
 have HY1 := hid hy1
 have HY2 := hid hy2
 obtain ⟨i1, hi', hz0, hz1, hz2⟩ := info_parts infoI
 have HJ0 := hid hi'
 have HZ0 := hid hz0
 have HZ1 := hid hz1
 have HZ2 := hid hz2
 clear hi hy0 hy1 hy2 hi' hz0 hz1 hz2
 obtain ⟨A', hcut, hcutr⟩ := cut_mid A n c p q hpq hqn ht.cap
 have HCUTR := hid hcutr
 have hfew := ht.few
 have hcap := ht.cap
 have hs4 := h.ba.lt
 have hend : ∀ w2 : World, TermV w2 A n c l → Calls Try.prog 24 #[.slice A n c, .int .i64 (p : Int)] w2 (IntPost (q : Int) w2) := fun w2 ht2 => by
  have := end_any ht2 (p : Int)
  rwa [endI_nat, hq] at this
 have HEND := hid (hend w (ht.keep fun b hb => ⟨by omega, fun _ => rfl⟩))
 have z0 := h.bt.cell
 have z2 := h.bo.cell
 have z3 := h.br.cell
 have z4 := h.ba.cell
 have H := hid h
 clear hcutr hend ht hq h
 go_in
 go_wp2_with fail
 refine (HEND.out).mono ?_
 rintro e w2 ⟨rfl, hb2⟩
 have h2 : NxS g A n c p j A1 k1 A2 k2 xs1 xs2 w2 := ⟨H.out.bt.below hb2 H.out.bt.lt, H.out.bo.below hb2 H.out.bo.lt, H.out.br.below hb2 H.out.br.lt, H.out.ba.below hb2 H.out.ba.lt, own_below H.out.own1 hb2, own_below H.out.own2 hb2, H.out.off⟩
 have e0 := h2.bt.cell
 have e2 := h2.bo.cell
 have e4 := h2.ba.cell
 have l0 := h2.bt.lt
 have l2 := h2.bo.lt
 have l3 := h2.br.lt
 have l4 := h2.ba.lt
 have d0 := e0 0
 have d2 := e2 0
 have d4 := e4 0
 have H2 := hid h2
 have HB2 := hid hb2
 clear z0 z2 z3 z4 h2 hb2 e0 e2 e4
 go_wp2_with fail
 refine wp_region_noPanic ?_
 refine wp_region_E 7 (fun w' => w'.cell? ⟨g, 0, none⟩ = some (.slice A n c) ∧ w'.cell? ⟨g + 2, 0, none⟩ = some (.slice A1 j k1) ∧ w'.cell? ⟨g + 4, 0, none⟩ = some (.int .i64 (p : Int))) (by rfl) ⟨d0, d2, d4⟩ (fun hS0 => ?_)
 refine wpAnyE_take' (i := 0) (v := ?_) rfl (by kernel_rfl) (by kernel_rfl) (by kernel_rfl) (by kernel_rfl) (by kernel_rfl) (fun _ _ _ h => h) (Or.inl ⟨by rfl, ?_⟩) (by assumption) ?_
 rotate_left
 · (intro w hSw; (try dsimp only at hSw); go_simp); all_goals with_reducible rfl
 try simp only [Act.put, List.getElem_toArray, List.getElem_cons_zero, List.getElem_cons_succ, List.setIfInBounds_toArray, List.set_cons_zero, List.set_cons_succ]
 refine wpAnyE_take' (i := 1) (v := ?_) rfl (by kernel_rfl) (by kernel_rfl) (by kernel_rfl) (by kernel_rfl) (by kernel_rfl) (fun _ _ _ h => h) (Or.inl ⟨by rfl, ?_⟩) (by assumption) ?_
 rotate_left
 · (intro w hSw; (try dsimp only at hSw); go_simp); all_goals with_reducible rfl
 try simp only [Act.put, List.getElem_toArray, List.getElem_cons_zero, List.getElem_cons_succ, List.setIfInBounds_toArray, List.set_cons_zero, List.set_cons_succ]
 refine wpAnyE_take' (i := 2) (v := ?_) rfl (by kernel_rfl) (by kernel_rfl) (by kernel_rfl) (by kernel_rfl) (by kernel_rfl) (fun _ _ _ h => h) (Or.inl ⟨by rfl, ?_⟩) (by assumption) ?_
 rotate_left
 · (intro w hSw; (try dsimp only at hSw); go_simp); all_goals with_reducible rfl
 try simp only [Act.put, List.getElem_toArray, List.getElem_cons_zero, List.getElem_cons_succ, List.setIfInBounds_toArray, List.set_cons_zero, List.set_cons_succ]
 refine wpAnyE_take' (i := 3) (v := ?_) rfl (by kernel_rfl) (by kernel_rfl) (by kernel_rfl) (by kernel_rfl) (by kernel_rfl) (fun _ _ _ h => h) (Or.inl ⟨by rfl, ?_⟩) (by assumption) ?_
 rotate_left
 · (intro w hSw; (try dsimp only at hSw); go_simp); all_goals with_reducible rfl
 try simp only [Act.put, List.getElem_toArray, List.getElem_cons_zero, List.getElem_cons_succ, List.setIfInBounds_toArray, List.set_cons_zero, List.set_cons_succ]
 refine wpAnyE_take' (i := 4) (v := ?_) rfl (by kernel_rfl) (by kernel_rfl) (by kernel_rfl) (by kernel_rfl) (by kernel_rfl) (fun _ _ _ h => h) (Or.inl ⟨by rfl, ?_⟩) (by assumption) ?_
 rotate_left
 · (intro w hSw; (try dsimp only at hSw); go_simp); all_goals with_reducible rfl
 try simp only [Act.put, List.getElem_toArray, List.getElem_cons_zero, List.getElem_cons_succ, List.setIfInBounds_toArray, List.set_cons_zero, List.set_cons_succ]
 refine wpAnyE_step (i := 5) (by kernel_rfl) rfl rfl (fun K5 hK5 => ?_)
 go_simp
 have hS5 : (w2.drew.alloc (.cells #[.slice A' (q - p) (c - p)] 29)).cell? ⟨g, 0, none⟩ = some (.slice A n c) ∧ (w2.drew.alloc (.cells #[.slice A' (q - p) (c - p)] 29)).cell? ⟨g + 2, 0, none⟩ = some (.slice A1 j k1) ∧ (w2.drew.alloc (.cells #[.slice A' (q - p) (c - p)] 29)).cell? ⟨g + 4, 0, none⟩ = some (.int .i64 (p : Int)) := by
  have hc : ∀ b o, b < w2.heap.size → (w2.drew.alloc (.cells #[.slice A' (q - p) (c - p)] 29)).cell? ⟨b, o, none⟩ = w2.cell? ⟨b, o, none⟩ := fun b o hb => (World.cell?_alloc_lt _ _ _ hb)
  rw [hc _ _ l0, hc _ _ l2, hc _ _ l4]
  exact ⟨d0, d2, d4⟩
 refine hK5.out _ _ (fun _ => hS5) ?_
 try simp only [Act.put, List.getElem_toArray, List.getElem_cons_zero, List.getElem_cons_succ, List.setIfInBounds_toArray, List.set_cons_zero, List.set_cons_succ]
 refine wpAnyE_step (i := 6) (by kernel_rfl) rfl rfl (fun K6 hK6 => ?_)
 refine oper_append_one (.tmp 10) (.tmp 15) 59 29 rfl (g + 5) i0 _ 24 Try.underlying59 HI0.out HY0.out HY1.out HY2.out rfl (by decide) (.slice A1 j k1) j xs1 (.slice A' (q - p) (c - p)) rfl w2.drew (by rfl) (by rfl) (own_below H2.out.own1 (below_drewN (Below.refl _ _) 1)) _ (by rfl) (by simp) (by omega) (by simp; omega) ?_
 intro A4 c4 w4 happ
 have hgk : ∀ b, b < w2.heap.size → (Value.slice A1 j k1).ownBlock ≠ some b → w4.heap[b]? = w2.heap[b]? := fun b hb hne => happ.grown.block b hb (fun e => hne e.symm)
 have hno : ∀ b, b < g + 5 → (Value.slice A1 j k1).ownBlock ≠ some b := fun b hb e => by have := (ownsRow_block H2.out.own1 e).1; omega
 have zb := H2.out.bo.same (hgk _ l2 (hno _ (by omega)))
 have zf := zb.frozen
 have zc := zb.cell
 have hS6 : w4.cell? ⟨g, 0, none⟩ = some (.slice A n c) ∧ w4.cell? ⟨g + 2, 0, none⟩ = some (.slice A1 j k1) ∧ w4.cell? ⟨g + 4, 0, none⟩ = some (.int .i64 (p : Int)) := by
  rw [cell_of_heap (hgk g l0 (hno _ (by omega))), cell_of_heap (hgk (g + 2) l2 (hno _ (by omega))), cell_of_heap (hgk (g + 4) l4 (hno _ (by omega)))]
  exact ⟨d0, d2, d4⟩
 refine hK6.out _ _ (fun _ => hS6) ?_
 try simp only [Act.put, List.getElem_toArray, List.getElem_cons_zero, List.getElem_cons_succ, List.setIfInBounds_toArray, List.set_cons_zero, List.set_cons_succ]
 refine wpAnyE_step (i := 7) (by kernel_rfl) rfl rfl (fun K7 hK7 => ?_)
 go_simp
 refine hK7.out _ _ (fun h => absurd rfl h) ?_
 refine wpAnyE_end (by kernel_rfl) (NoPanic.normal ?_) _
 have hh := H2.out
 have gr : w2.grownBy w4 (Value.slice A1 j k1).ownBlock := ⟨happ.grown.os, happ.grown.tape, happ.grown.output, happ.grown.size, fun b hb hne => happ.grown.block b hb hne⟩
 have own2a : w4.ownsRow (g + 5) 3 1 (.slice A2 j k2) j xs2 := hh.own2.kept gr (by
  cases e2 : (Value.slice A2 j k2).ownBlock with
  | none => exact .inl rfl
  | some b2 => exact .inr fun e => hh.off b2 e.symm e2)
 have hs5 : w2.heap.size ≤ w4.heap.size := happ.grown.size
 have k0 : Blk (w4.setCell ⟨g + 2, 0, none⟩ (.slice A4 (j + 1) c4)) g 29 #[.slice A n c] := (hh.bt.same (hgk g l0 (hno _ (by omega)))).far (by simp) _
 have k2' : Blk (w4.setCell ⟨g + 2, 0, none⟩ (.slice A4 (j + 1) c4)) (g + 2) 59 #[.slice A4 (j + 1) c4] := zb.set_ 0 _
 have k3 : Blk (w4.setCell ⟨g + 2, 0, none⟩ (.slice A4 (j + 1) c4)) (g + 3) 122 #[.slice A2 j k2] := (hh.br.same (hgk (g + 3) l3 (hno _ (by omega)))).far (by simp) _
 have k4 : Blk (w4.setCell ⟨g + 2, 0, none⟩ (.slice A4 (j + 1) c4)) (g + 4) 3 #[.int .i64 (p : Int)] := (hh.ba.same (hgk (g + 4) l4 (hno _ (by omega)))).far (by simp) _
 have k3c := k3.cell
 have own2b := ownsRow_setCell_below (a := ⟨g + 2, 0, none⟩) own2a (by simp) (.slice A4 (j + 1) c4)
 have hsz5 : (w4.setCell ⟨g + 2, 0, none⟩ (.slice A4 (j + 1) c4)).heap.size = w4.heap.size := by simp [World.setCell]
 have HSZ5 := hid hsz5
 have HB5 : Hid (g + 5 ≤ (w4.setCell ⟨g + 2, 0, none⟩ (.slice A4 (j + 1) c4)).heap.size) := hid (by rw [hsz5]; omega)
 have OWN2B := hid own2b
 have K0 := hid k0
 have K2 := hid k2'
 have K3 := hid k3
 have K4 := hid k4
 have HAPP := hid happ
 have HGK := hid hgk
 have HNO := hid hno
 have hne3 : some (g + 3) ≠ (Value.slice A2 j k2).ownBlock := own_ne hh.own2 (by omega)
 have hne4 : some (g + 4) ≠ (Value.slice A2 j k2).ownBlock := own_ne hh.own2 (by omega)
 clear k0 k2' k3 k4 own2a own2b happ hgk hno gr hh zb zf zc hS6 hsz5
 go_wp2_with (at_builtin; go_loud (refine wpList_oper rfl (oper_append_one (.tmp 17) (.tmp 19) 122 3 rfl (g + 5) i1 _ 8 Try.underlying122 HJ0.out HZ0.out HZ1.out HZ2.out rfl (by decide) (.slice A2 j k2) j xs2 (.int .i64 b) rfl (w4.setCell ⟨g + 2, 0, none⟩ (.slice A4 (j + 1) c4)) rfl rfl OWN2B.out _ rfl HSZ5.out.symm (by omega) HB5.out ?_)); intro A6 c6 w6 happ6; have y3 := K3.out.grown happ6.grown hne3; have y3f := y3.frozen; have y4 := (K4.out.grown happ6.grown hne4).far (p := ⟨g + 3, 0, none⟩) (by simp) (.slice A6 (j + 1) c6); have y4f := y4.frozen; have y3c := y3.cell; have y4c := y4.cell)
 have hoff4 : ∀ b, (Value.slice A4 (j + 1) c4).ownBlock = some b → (Value.slice A2 j k2).ownBlock ≠ some b := fun b hb e2 => by
  rcases HAPP.out.new b hb with h1 | h1
  · exact H2.out.off b h1 e2
  have := (ownsRow_block H2.out.own2 e2).2.1
  have h1' : w2.heap.size ≤ b := h1
  omega
 have own1b := ownsRow_setCell_below (a := ⟨g + 2, 0, none⟩) HAPP.out.own (by simp) (.slice A4 (j + 1) c4)
 have own1c := own1b.kept happ6.grown (by
  cases e4 : (Value.slice A4 (j + 1) c4).ownBlock with
  | none => exact .inl rfl
  | some b4 => exact .inr fun e => hoff4 b4 e4 e.symm)
 have own1d := ownsRow_setCell_below (a := ⟨g + 4, 0, none⟩) (ownsRow_setCell_below (a := ⟨g + 3, 0, none⟩) own1c (by simp) (.slice A6 (j + 1) c6)) (by simp) (.int .i64 (q : Int))
 have own2d := ownsRow_setCell_below (a := ⟨g + 4, 0, none⟩) (ownsRow_setCell_below (a := ⟨g + 3, 0, none⟩) happ6.own (by simp) (.slice A6 (j + 1) c6)) (by simp) (.int .i64 (q : Int))
 have hlow : ∀ b, b < g + 5 → some b ≠ (Value.slice A2 j k2).ownBlock := fun b hb => own_ne H2.out.own2 hb
 have q0 := ((K0.out.grown happ6.grown (hlow g (by omega))).far (p := ⟨g + 3, 0, none⟩) (by simp) (.slice A6 (j + 1) c6)).far (p := ⟨g + 4, 0, none⟩) (by simp) (.int .i64 (q : Int))
 have q2 := ((K2.out.grown happ6.grown (hlow (g + 2) (by omega))).far (p := ⟨g + 3, 0, none⟩) (by simp) (.slice A6 (j + 1) c6)).far (p := ⟨g + 4, 0, none⟩) (by simp) (.int .i64 (q : Int))
 have q3 := (y3.set_ 0 (.slice A6 (j + 1) c6)).far (p := ⟨g + 4, 0, none⟩) (by simp) (.int .i64 (q : Int))
 have q4 := y4.set_ 0 (.int .i64 (q : Int))
 have hs6 := happ6.grown.size
 have hs64 : w4.heap.size ≤ w6.heap.size := by have := HSZ5.out; omega
 have hs2w := HB2.out.size
 refine bodyPost_end (results_none rfl _ _ _) rfl ⟨rfl, ?_, ?_, ?_, A4, c4, A6, c6, A', ⟨q0, q2, q3, q4, own1d, own2d, fun b hb e6 => ?_⟩, fun R w h => HCUTR.out R w l h⟩
 · refine Below.setCell (Below.setCell (Below.grown (Below.setCell (Below.grown (w := w2.drew) (below_drewN (HB2.out.mono (by omega)) 1) HAPP.out.grown (by show g ≤ w2.heap.size; omega) (fun b hb => ?_)) (p := ⟨g + 2, 0, none⟩) (by simp) _) happ6.grown (by rw [HSZ5.out]; omega) (fun b hb => ?_)) (p := ⟨g + 3, 0, none⟩) (by simp) _) (p := ⟨g + 4, 0, none⟩) (by simp) _
   · have := (ownsRow_block H2.out.own1 hb).1; omega
   have := (ownsRow_block H2.out.own2 hb).1; omega
 · have e : ((w6.setCell ⟨g + 3, 0, none⟩ (.slice A6 (j + 1) c6)).setCell ⟨g + 4, 0, none⟩ (.int .i64 (q : Int))).heap.size = w6.heap.size := by simp [World.setCell]
   rw [e]; omega
 · rw [Below.heap_setCell _ _ _ _ (by simp), Below.heap_setCell _ _ _ _ (by simp), happ6.grown.block (g + 1) (by rw [HSZ5.out]; omega) (hlow (g + 1) (by omega)), Below.heap_setCell _ _ _ _ (by simp), HGK.out (g + 1) (by omega) (HNO.out (g + 1) (by omega)), HB2.out.block (g + 1) (by omega)]
 rcases happ6.new b e6 with h1 | h1
 · exact hoff4 b hb h1
 have := (ownsRow_block HAPP.out.own hb).2.1
 have := HSZ5.out
 omega
end
section
open Go.RowKit
theorem own_fresh {w w' : World} {A : Option Addr} {n c : Nat} {l : List Nd} (h : OwnN w' w.heap.size (.slice A n c) l) (hl : l.length ≤ 5864062014805) : TermR (fresh w w') w' A n c l := by
 obtain ⟨A', n', c', e, ht⟩ := OwnN.termS h hl
 injection e with e1 e2 e3
 subst e1 e2 e3
 exact ht.keep fun b hb => ⟨⟨(ownsRow_block h hb).1, (ownsRow_block h hb).2.1⟩, fun _ => rfl⟩
theorem clone_own {A : Option Addr} {n c : Nat} {l : List Nd} {w : World} (h : TermV w A n c l) :
 Calls Try.prog 88 #[.slice A n c] w (fun e w' => Below w.heap.size w w' ∧ ∃ A n c, e = .returned (.slice A n c) ∧ OwnN w' w.heap.size (.slice A n c) l ∧ l.length ≤ 5864062014805) := by
 have q22 : ∀ (w : World) (a : Option Addr) (n c n' c' : Nat), (binOp .eql 29 (.slice a n c) (.slice none n' c')).run Try.prog w = .ok (.bool a.isNone) w := fun w a n c n' c' => Lib.run_eql_slice_nil w _ _ a n c n' c' Try.underlying29
 cases A with
 | none =>
  obtain rfl := h.nul rfl
  obtain rfl : n = 0 := by have := h.cap; omega
  have hl : l = [] := List.eq_nil_of_length_eq_zero h.len
  subst hl
  go_in
  go_wp2_with fail
  go_ret
  exact ⟨Below.refl _ _, none, 0, 0, rfl, OwnN.nil _ _, Nat.zero_le _⟩
 | some a =>
  obtain ⟨i0, hi, hy0, hy1, hy2⟩ := info_parts infoN'
  have HI0 := hid hi
  have HY0 := hid hy0
  have HY1 := hid hy1
  have HY2 := hid hy2
  clear hi hy0 hy1 hy2
  have hfew := h.few
  have hb0 := below_alloc w (.cells #[] 50)
  have hm : TermV (w.alloc (.cells #[] 50)) (some a) n c l := h.below hb0
  have hown : OwnN (w.alloc (.cells #[] 50)) w.heap.size (.slice (some ⟨w.heap.size, 0, none⟩) 0 0) [] := World.ownsRow_made w #[] 0 (Nat.le_refl _) (Nat.zero_le _) rfl
  have HM := hid hm
  have HOWN := hid hown
  have HB := hid hb0
  clear hm hown hb0 h
  go_in
  go_wp2_with (at_builtin; go_loud (refine wpList_oper rfl (oper_append_row (.tmp 5) (.tmp 6) 29 29 rfl w.heap.size i0 Try.underlying29 Try.underlying29 HI0.out HY0.out HY1.out HY2.out (.slice (some ⟨w.heap.size, 0, none⟩) 0 0) [] l rfl HOWN.out rfl HM.out (by simpa using hfew) (by simp) ?_)); intro A4 c4 w4 hown4 happ4)
  go_ret
  refine ⟨HB.out.grown happ4.grown HB.out.size (fun g hg => (ownsRow_block HOWN.out hg).1), A4, _, c4, rfl, ?_⟩
  simp only [List.length_nil, Nat.zero_add, List.nil_append] at hown4
  exact ⟨hown4, by have := HM.out.len; omega⟩
theorem clone_any {A : Option Addr} {n c : Nat} {l : List Nd} {w : World} (h : TermV w A n c l) :
 Calls Try.prog 88 #[.slice A n c] w (RowPost l w) :=
 (clone_own h).mono fun _ _ ⟨hb, A, n, c, e, ho, hl⟩ => ⟨hb, A, n, c, e, own_fresh ho hl⟩
end
section
open Go.RowKit
theorem okN_iff (n : Nd) : okN n = true ↔ plainB n.op n.a n.b = true ∧ n.op ≠ 3 ∧ n.op ≠ 13 := by
 simp only [okN, Bool.and_eq_true, decide_eq_true_eq, and_assoc]
end
section
open Go.RowKit
theorem ar_add (n : Nd) (F1 : Fo) (pre : List Nd) (nd : Nd) (a : List Nd) (ks : Fo) : arL n.op n.b 0 (F1.app (.cons pre nd a ks .nil)) = arL n.op n.b 0 F1 ++ [aroundI n.op n.b (flen F1)] := by
 rw [arL_app, Nat.zero_add]; rfl
theorem rowsL_add (F1 : Fo) (pre : List Nd) (nd : Nd) (a : List Nd) (ks : Fo) : rowsL (F1.app (.cons pre nd a ks .nil)) = rowsL F1 ++ [row (.cons [] nd a ks .nil)] := by
 rw [rowsL_app]; rfl
theorem around_binders {op b k : Int} (h : op ≠ 12) : aroundI op b k = bindersI op k := by
 simp [aroundI, bindersI, h]
theorem NxS.setAt {g : Nat} {A : Option Addr} {n c p j : Nat} {A1 : Option Addr} {k1 : Nat} {A2 : Option Addr} {k2 : Nat} {xs1 xs2 : List Value} {w : World} (h : NxS g A n c p j A1 k1 A2 k2 xs1 xs2 w) (p' : Nat) :
 NxS g A n c p' j A1 k1 A2 k2 xs1 xs2 (w.setCell ⟨g + 4, 0, none⟩ (.int .i64 (p' : Int))) :=
 ⟨h.bt.far (by simp) _, h.bo.far (by simp) _, h.br.far (by simp) _, h.ba.set_ 0 _, ownsRow_setCell_below (a := ⟨g + 4, 0, none⟩) h.own1 (by simp) _, ownsRow_setCell_below (a := ⟨g + 4, 0, none⟩) h.own2 (by simp) _, h.off⟩
theorem NxS.alloc {g : Nat} {A : Option Addr} {n c p j : Nat} {A1 : Option Addr} {k1 : Nat} {A2 : Option Addr} {k2 : Nat} {xs1 xs2 : List Value} {w : World} (h : NxS g A n c p j A1 k1 A2 k2 xs1 xs2 w) (o : Obj) :
 NxS g A n c p j A1 k1 A2 k2 xs1 xs2 (w.alloc o) :=
 ⟨h.bt.alloc _, h.bo.alloc _, h.br.alloc _, h.ba.alloc _, h.own1.alloc _, h.own2.alloc _, h.off⟩
def PartsPost (A : Nd) (k : Fo) (w : World) (e : Ending) (w' : World) : Prop := Below w.heap.size w w' ∧ ∃ A1 k1 A2 k2 xs1, e = .returned (.tuple #[.slice A1 (flen k) k1, .slice A2 (flen k) k2]) ∧
 w'.ownsRow (w.heap.size + 5) 29 1 (.slice A1 (flen k) k1) (flen k) xs1 ∧ w'.ownsRow (w.heap.size + 5) 3 1 (.slice A2 (flen k) k2) (flen k) ((arL A.op A.b 0 k).map (Value.int .i64)) ∧ RowsC (· < w.heap.size) w xs1 (rowsL k)
theorem parts_any {A : Option Addr} {nn c : Nat} {l : List Nd} {w : World} {n : Nd} {ats : List Nd} {k : Fo} (h : TermV w A nn c l) (hs : shapeI l = 0) (hpp : pp [false] l = some (.cons [] n ats k .nil, [])) :
 Calls Try.prog 93 #[.slice A nn c] w (PartsPost n k w) := by
 obtain ⟨hok, hv1, hvk, hall, hpre, hrow, hl4, hfs⟩ := right_row hs hpp
 have hmf : ∀ (fn : Fn) (first cap : Array Value) (w : World), (Instr.makeFunc fn first cap).run Try.prog w = .ok (.func fn first cap) w := fun _ _ _ _ => rfl
 have hlen := h.len
 have hpos : 0 < nn := by rw [← hlen, hrow]; simp
 have hn0 : nth l 0 = n := by rw [hrow]; rfl
 obtain ⟨tb, toff, rfl, htb, g0, g1, g2⟩ := h.at_ hpos
 simp only [Nat.zero_mul, Nat.add_zero] at g0 g1 g2
 rw [hn0] at g0 g1 g2
 have H := hid h
 clear h
 go_in
 go_wp2_with fail
 have hbk : -1000 ≤ n.b ∧ n.b ≤ 1000 := by
  have h1 := (okN_iff n).1 hok
  have h2 := plainB_iff.1 h1.1
  omega
 refine (kids_any n.op n.a n.b _ hbk).mono ?_
 rintro e w6 ⟨rfl, hw6⟩
 have hb5 : Below w.heap.size w (((((w.alloc (.cells #[.slice (some ⟨tb, toff, none⟩) nn c] 29)).alloc (.cells #[.int .i64 n.op, .int .i64 n.a, .int .i64 n.b] 50)).alloc (.cells #[.slice none 0 0] 59)).alloc (.cells #[.slice none 0 0] 122)).alloc (.cells #[.int .i64 1] 3)) :=
  ((((below_alloc w _).alloc (by simp) _).alloc (by simp <;> omega) _).alloc (by simp <;> omega) _).alloc (by simp <;> omega) _
 have hb6 := hb5.alloc hb5.size (.cells #[.int .i64 n.op, .int .i64 n.a, .int .i64 n.b] 50)
 rw [hw6] at hb6
 have hst : NxS w.heap.size (some ⟨tb, toff, none⟩) nn c 1 0 none 0 none 0 [] [] w6 := by
  subst hw6
  refine ⟨?_, ?_, ?_, ?_, World.ownsRow_nil _ _ _ _, World.ownsRow_nil _ _ _ _, fun b h => by simp [Value.ownBlock] at h⟩
  · exact (((((Blk.new _ _ _).alloc _).alloc _).alloc _).alloc _).alloc _
  · exact (((Blk.new' (by simp)).alloc _).alloc _).alloc _
  · exact ((Blk.new' (by simp)).alloc _).alloc _
  exact (Blk.new' (by simp)).alloc _
 have hnd : Blk w6 (w.heap.size + 1) 50 #[.int .i64 n.op, .int .i64 n.a, .int .i64 n.b] := by
  subst hw6
  exact ((((Blk.new' (by simp)).alloc _).alloc _).alloc _).alloc _
 clear hw6 hb5
 go_wp2_with fail
 have hkw : Wf (ds n) k := (wf_of_pp hpp).2.2.2.1
 have hats : n.op ≠ 2 → ats = [] := fun h2 => by
  have h3 := (wf_of_pp hpp).2.2.1
  unfold AtOk at h3
  rw [if_neg h2] at h3
  exact h3
 go_loopw [16] (fun i wr => ∃ (F1 F2 : Fo) (j p : Nat) (A1 : Option Addr) (k1 : Nat) (A2 : Option Addr) (k2 : Nat) (xs1 xs2 : List Value), Hid (k = F1.app F2) ∧ Hid (flen F1 = if n.op = 12 then 2 * j else j) ∧ (j : Int) ≤ kidsI n.op n.b ∧ i = .int .i64 (j : Int) ∧
  Hid (F2 = .nil ∨ l.drop p = row F2) ∧ p ≤ l.length ∧ Hid (Wf (remd n j) F2) ∧ Hid (NxS w.heap.size (some ⟨tb, toff, none⟩) nn c p (flen F1) A1 k1 A2 k2 xs1 xs2 wr) ∧
  Hid (Blk wr (w.heap.size + 1) 50 #[.int .i64 n.op, .int .i64 n.a, .int .i64 n.b]) ∧ Hid (Below w.heap.size w wr) ∧ Hid (RowsC (· < w.heap.size) w xs1 (rowsL F1)) ∧ Hid (xs2 = (arL n.op n.b 0 F1).map (Value.int .i64))) (fun i _ => (kidsI n.op n.b).toNat - (intOf i).toNat)
 case atStart =>
  refine ⟨.nil, k, 0, 1, none, 0, none, 0, [], [], hid rfl, hid (by simp [flen]), ?_, by go_num, hid ?_, by omega, hid (by rw [remd_zero]; exact hkw), hid hst, hid hnd, hid hb6, hid trivial, hid rfl⟩
  · have h1 := (okN_iff n).1 hok
    have h2 := plainB_iff.1 h1.1
    simp only [kidsI]
    repeat' split
    all_goals omega
  by_cases h2 : n.op = 2
  · left
    have h3 : ds n = [] := by simp [ds, kidsI, h2]
    rw [h3] at hkw
    cases k with
    | nil => rfl
    | cons _ _ _ _ _ => exact hkw.elim
  right
  rw [hrow, hats h2]
  rfl
 case round =>
  obtain ⟨F1, F2, j, p, A1, k1, A2, k2, xs1, xs2, hk, hfl, hjk, rfl, hF2, hp, hwf, hst, hnd, hbw, hrows, hints⟩ := hrel
  have zn := (hnd.out).cell
  have z2 : wr.cell? ⟨w.heap.size + 1 + 1, 0, none⟩ = some (.slice A1 (flen F1) k1) := hst.out.bo.cell 0
  have z3 : wr.cell? ⟨w.heap.size + 1 + 1 + 1, 0, none⟩ = some (.slice A2 (flen F1) k2) := hst.out.br.cell 0
  have hjb : (j : Int) ≤ 1002 := by
   have h1 : kidsI n.op n.b ≤ 1002 := by
    simp only [kidsI]
    repeat' split
    all_goals omega
   omega
  by_cases hlt : (j : Int) < kidsI n.op n.b
  rotate_left
  · have hkf : Hid (k = F1) := by
     have hw2 := hwf.out
     rw [remd_end n (by omega)] at hw2
     match F2, hw2, hk with
     | .nil, _, hk => exact hid (hk.out.trans (app_nil F1))
    go_wp2_with fail
    go_quiet (fail)
    go_wp2_with fail
    go_ret2
    refine ⟨below_drewN hbw.out _, A1, k1, A2, k2, xs1, by rw [hkf.out]; rfl, ?_, ?_, ?_⟩
    · rw [hkf.out]; exact hst.out.own1
    · rw [hkf.out, ← hints.out]; exact hst.out.own2
    rw [hkf.out]; exact hrows.out
  by_cases h12 : n.op = 12
  · have c12 : (n.op == 12) = true := beq_iff_eq.2 h12
    have H12 := hid h12
    have z4 : wr.cell? ⟨w.heap.size + 1 + 1 + 1 + 1, 0, none⟩ = some (.int .i64 (p : Int)) := hst.out.ba.cell 0
    have zf4 : wr.frozen? ⟨w.heap.size + 1 + 1 + 1 + 1, 0, none⟩ = false := hst.out.ba.frozen 0
    have zl4 : w.heap.size + 1 + 1 + 1 + 1 < wr.heap.size := hst.out.ba.lt
    clear h12
    have hkb : kidsI n.op n.b = n.b := by simp [kidsI, H12.out]
    have hw2 := hwf.out
    rw [remd_fix H12.out (by omega)] at hw2
    match F2, hw2, hk, hF2 with
    | .cons pre nd a ks F3, hw3, hk, hF2 =>
    obtain ⟨f, rfl, _⟩ := hw3.1
    match F3, hw3, hk, hF2 with
    | .cons pre2 nd2 a2 ks2 F4, hw3, hk, hF2 =>
    have hw4 := hw3.2.2.2.2
    have hp2 : pre2 = [] := hw4.1
    subst hp2
    have hl2 := hF2.out.resolve_left (by simp)
    obtain ⟨q1, he1, hd1, hpq1, hq1, ht1⟩ := kid_ends hw3 hl2 hp
    obtain ⟨q2, he2, hd2, hpq2, hq2, ht2⟩ := kid_ends hw4 hd1 hq1
    simp only [List.length_cons, List.length_nil, Nat.zero_add, Nat.add_zero] at he1 hpq1 ht1 he2 hpq2 ht2
    have HE1 := hid he1
    have HT1 := hid ht1
    have HE2 := hid he2
    have HT2 := hid ht2
    have HD2 := hid hd2
    have HW5 := hid hw4.2.2.2.2
    have HKB := hid hkb
    have HTW : Hid (∀ w1, Below w.heap.size w w1 → TermR (· < w.heap.size) w1 (some ⟨tb, toff, none⟩) nn c l) := hid fun w1 hb => H.out.keep fun b hb' => ⟨hb', fun o => cell_of_heap (hb.block b hb') o⟩
    have hst1 := hst.out.setAt (p + 1)
    have hb1 : Below w.heap.size w (wr.setCell ⟨w.heap.size + 4, 0, none⟩ (.int .i64 ((p + 1 : Nat) : Int))) := hbw.out.setCell (by simp) _
    have HFL : Hid (flen F1 = 2 * j) := hid (by have := hfl.out; rwa [if_pos H12.out] at this)
    have hf1 : flen F1 ≤ 2004 := by have := HFL.out; omega
    have hnd1 : Blk (wr.setCell ⟨w.heap.size + 4, 0, none⟩ (.int .i64 ((p + 1 : Nat) : Int))) (w.heap.size + 1) 50 #[.int .i64 n.op, .int .i64 n.a, .int .i64 n.b] := hnd.out.far (by simp) _
    have hcall := next_any hst1 (HTW.out _ hb1) HE1.out hpq1 (by omega) (by omega) 0
    have HCALL := hid hcall
    have HB1 := hid hb1
    have HND1 := hid hnd1
    clear hkb hw2 hw3 hw4 hl2 he1 hd1 ht1 he2 hd2 ht2 hst1 hb1 hcall hwf hfl hnd1
    go_wp2_with fail
    have hcast : ((p : Int) + 1) = ((p + 1 : Nat) : Int) := by omega
    rw [hcast]
    refine (HCALL.out).mono ?_
    rintro e w3 ⟨rfl, hb3, hs3, hg3, A1', k1', A2', k2', A', hst3, hpc3⟩
    have hnd3 : Blk w3 (w.heap.size + 1) 50 #[.int .i64 n.op, .int .i64 n.a, .int .i64 n.b] := hg3.trans HND1.out
    have hb4 := HB1.out.trans hb3
    have hcall2 := next_any hst3 (HTW.out _ hb4) HE2.out hpq2 (by omega) (by omega) n.b
    have HCALL2 := hid hcall2
    have zn3 := hnd3.cell
    have HND3 := hid hnd3
    have HB4 := hid hb4
    have HST3 := hid hst3
    have HPC3 := hid hpc3
    clear hcall2 hst3 hg3 hb3 hb4 hnd3 z2 z3 z4 zf4 zl4 zn hs3 hcast hpc3
    go_wp2_with fail
    refine (HCALL2.out).mono ?_
    rintro e w5 ⟨rfl, hb5, hs5, hg5, A1'', k1'', A2'', k2'', A'', hst5, hpc5⟩
    have hnd5 := hg5.trans HND3.out
    have hb6' := HB4.out.trans hb5
    have HND5 := hid hnd5
    have HB6 := hid hb6'
    have HST5 := hid hst5
    have HPC5 := hid hpc5
    clear hnd5 hb6' hst5 hpc5 hg5 hb5 zn3
    go_wp2_with fail
    go_roundw
    case rel =>
     refine ⟨(F1.app (.cons [f] nd a ks .nil)).app (.cons [] nd2 a2 ks2 .nil), F4, j + 1, q2, A1'', k1'', A2'', k2'', (xs1 ++ [.slice A' (q1 - (p + 1)) (c - (p + 1))]) ++ [.slice A'' (q2 - q1) (c - q1)], (xs2 ++ [.int .i64 0]) ++ [.int .i64 n.b], hid ?_, hid ?_, by omega, by go_num, hid (.inr HD2.out), hq2, HW5, ?_, HND5, HB6, hid ?_, hid ?_⟩
     rotate_left 2
     · have e : flen ((F1.app (.cons [f] nd a ks .nil)).app (.cons [] nd2 a2 ks2 .nil)) = flen F1 + 1 + 1 := by simp [flen_app, flen]
       rw [e]
       exact HST5
     · rw [rowsL_add, rowsL_add]
       refine RowsC.add ?_ (RowsC.add ?_ hrows.out)
       · rw [← HT2.out]; exact HPC5.out _ _ H.out
       rw [← HT1.out]; exact HPC3.out _ _ H.out
     · rw [ar_add, ar_add, hints.out]
       have e : flen (F1.app (.cons [f] nd a ks .nil)) = 2 * j + 1 := by have := HFL.out; simp [flen_app, flen, this]
       rw [e, HFL.out]
       simp [aroundI, H12.out]
     · rw [hk.out, app_assoc, app_assoc]; rfl
     rw [if_pos H12.out]
     have := HFL.out
     simp [flen_app, flen]; omega
    case measure =>
     have := HKB.out
     simp [intOf]; omega
  have c12 : (n.op == 12) = false := beq_eq_false_iff_ne.2 h12
  have H12 := hid h12
  clear h12
  have hw2 := hwf.out
  rw [remd_one H12.out hlt] at hw2
  match F2, hw2, hk, hF2 with
  | .cons pre nd a ks F3, hw3, hk, hF2 =>
  have hp2 : pre = [] := hw3.1
  subst hp2
  have hl2 := hF2.out.resolve_left (by simp)
  obtain ⟨q1, he1, hd1, hpq1, hq1, ht1⟩ := kid_ends hw3 hl2 hp
  simp only [List.length_nil, Nat.add_zero] at he1 hpq1 ht1
  have HE1 := hid he1
  have HT1 := hid ht1
  have HD1 := hid hd1
  have HW5 := hid hw3.2.2.2.2
  have HTW : Hid (∀ w1, Below w.heap.size w w1 → TermR (· < w.heap.size) w1 (some ⟨tb, toff, none⟩) nn c l) := hid fun w1 hb => H.out.keep fun b hb' => ⟨hb', fun o => cell_of_heap (hb.block b hb') o⟩
  have hst1 := hst.out.alloc (.cells #[.int .i64 n.op, .int .i64 n.a, .int .i64 n.b] 50)
  have hb1 : Below w.heap.size w (wr.alloc (.cells #[.int .i64 n.op, .int .i64 n.a, .int .i64 n.b] 50)) := hbw.out.alloc hbw.out.size _
  have HFL : Hid (flen F1 = j) := hid (by have := hfl.out; rwa [if_neg H12.out] at this)
  have hf1 : flen F1 ≤ 2004 := by have := HFL.out; omega
  have hnd1 : Blk (wr.alloc (.cells #[.int .i64 n.op, .int .i64 n.a, .int .i64 n.b] 50)) (w.heap.size + 1) 50 #[.int .i64 n.op, .int .i64 n.a, .int .i64 n.b] := hnd.out.alloc _
  have hcall := next_any hst1 (HTW.out _ hb1) HE1.out hpq1 (by omega) (by omega) (bindersI n.op (j : Int))
  have HCALL := hid hcall
  have HB1 := hid hb1
  have HND1 := hid hnd1
  clear hw2 hw3 hl2 he1 hd1 ht1 hst1 hb1 hcall hwf hfl hnd1
  go_wp2_with (go_at_call 73; refine (binders_any _ _ _ _ _).mono ?_; rintro e w3 ⟨rfl, rfl⟩)
  refine (HCALL.out).mono ?_
  rintro e w3 ⟨rfl, hb3, hs3, hg3, A1', k1', A2', k2', A', hst3, hpc3⟩
  have hnd3 : Blk w3 (w.heap.size + 1) 50 #[.int .i64 n.op, .int .i64 n.a, .int .i64 n.b] := hg3.trans HND1.out
  have hb4 := HB1.out.trans hb3
  have HND3 := hid hnd3
  have HB4 := hid hb4
  have HST3 := hid hst3
  have HPC3 := hid hpc3
  clear hst3 hg3 hb3 hb4 hnd3 z2 z3 zn hs3 hpc3
  go_wp2_with fail
  go_roundw
  case rel =>
   refine ⟨F1.app (.cons [] nd a ks .nil), F3, j + 1, q1, A1', k1', A2', k2', xs1 ++ [.slice A' (q1 - p) (c - p)], xs2 ++ [.int .i64 (bindersI n.op (j : Int))], hid ?_, hid ?_, by omega, by go_num, hid (.inr HD1.out), hq1, HW5, ?_, HND3, HB4, hid ?_, hid ?_⟩
   rotate_left 2
   · have e : flen (F1.app (.cons [] nd a ks .nil)) = flen F1 + 1 := by simp [flen_app, flen]
     rw [e]
     exact HST3
   · rw [rowsL_add]
     refine RowsC.add ?_ hrows.out
     rw [← HT1.out]; exact HPC3.out _ _ H.out
   · rw [ar_add, hints.out, HFL.out, around_binders H12.out]
     simp
   · rw [hk.out, app_assoc]; rfl
   rw [if_neg H12.out]
   have := HFL.out
   simp [flen_app, flen]; omega
  case measure => simp [intOf]; omega
end
section
open Go.RowKit
theorem own_set {w : World} {base g n c : Nat} {e : TypeId} {xs : List Value} (h : w.ownsRow base e 1 (.slice (some ⟨g, 0, none⟩) n c) n xs) (i : Nat) (u : Value) : (w.setCell ⟨g, i, none⟩ u).ownsRow base e 1 (.slice (some ⟨g, 0, none⟩) n c) n (xs.set i u) := by
 obtain ⟨hl, hc⟩ := h
 refine ⟨by simpa using hl, .inr ?_⟩
 rcases hc with ⟨h1, _⟩ | ⟨g', cap, cur, hv, hg, hh, h1, h2, h3, h4⟩
 · cases h1
 injection hv with e1 e2 e3
 injection e1 with e1
 injection e1 with e1
 subst e1 e3
 refine ⟨g, c, cur.setIfInBounds i u, rfl, hg, ?_, h1, h2, by simpa using h3, ?_⟩
 · have hb : Blk w g e cur := hh
   exact hb.set_ i u
 rw [Array.toList_setIfInBounds, List.take_set, h4]
end
end Go.Proofs.Ytjoddliplahgkaa
