/- Merged: Sub, LiftG, Subst1. -/
import Derived.Test.YtjoddliplahgkaaDGuarded
import Derived.Test.YtjoddliplahgkaaDBooks
import Derived.Test.YtjoddliplahgkaaDEnds
namespace Go.Proofs.Ytjoddliplahgkaa
section
open Go.RowKit
def treeAt (l : List Nd) : TT := match pp [false] l with
 | some (.cons _ n a k _, _) => (n, a, k)
 | none => (default, [], .nil)
 | some (.nil, _) => (default, [], .nil)
theorem treeAt_rt {l : List Nd} {n : Nd} {a : List Nd} {k : Fo} (h : Rt l n a k) : treeAt l = (n, a, k) := by
 unfold treeAt
 rw [h.pp]
theorem fits_row {b : Bk} {free : Int} {l : List Nd} (h : fitsE b free l = 0) : rightE b = 0 ∧ 0 ≤ free ∧ rowE b b.entries.length (-1) l free = 0 := by
 unfold fitsE at h
 split at h
 · rename_i h1; exact absurd h h1
 rename_i h1
 split at h
 · cases h
 rename_i h2
 exact ⟨Decidable.not_not.1 h1, by omega, h⟩
theorem row_nodes {b : Bk} {known self below : Int} {l : List Nd} (h : rowE b known self l below = 0) : shapeI l = 0 ∧ belowB l below = true ∧ ∀ m ∈ l, nodeB b known self m = true := by
 unfold rowE at h
 split at h
 · rename_i h1; exact absurd h h1
 rename_i h1
 split at h
 · cases h
 rename_i h2
 split at h
 · rename_i h3
   exact ⟨Decidable.not_not.1 h1, by simpa using h2, List.all_eq_true.1 h3⟩
 cases h
end
section
open Go.RowKit
theorem bok_wf : ∀ (F : Fo) (dl : List Bool), Wf dl F → BOk F
 | .nil, _, _ => trivial
 | .cons _ _ _ _ _, [], h => h.elim
 | .cons p n a k x, d :: dr, h => by
  obtain ⟨_, hok, _, hk, hx⟩ := h
  refine ⟨fun h12 => ?_, bok_wf k _ hk, bok_wf x _ hx⟩
  simp only [okN, Bool.and_eq_true] at hok
  exact (plainB_b hok.1.1).1
theorem ds_one' {n : Nd} (h : n.op = 1) : ds n = [] := by simp [ds, kidsI, h]
theorem vkF_wf : ∀ (F : Fo) (dl : List Bool), Wf dl F → VkF F
 | .nil, _, _ => trivial
 | .cons _ _ _ _ _, [], h => h.elim
 | .cons p n a k x, d :: dr, h => by
  obtain ⟨_, hok, hat, hk, hx⟩ := h
  refine ⟨fun h1 => ?_, vkF_wf k _ hk, vkF_wf x _ hx⟩
  rw [ds_one' h1] at hk
  constructor
  · unfold AtOk at hat
    rw [if_neg (by omega)] at hat
    exact hat
  · cases k with
    | nil => rfl
    | cons _ _ _ _ _ => exact hk.elim
theorem raF_one (up fr : Int) (p : List Nd) (n : Nd) (a : List Nd) (k : Fo) : raF up fr 0 0 0 0 (.cons p n a k .nil) = .cons p (raN up fr n 0) a (raF up fr n.op n.b 0 0 k) .nil := rfl
theorem exF_ra {up fr v : Int} (pop pb : Int) : ∀ (j : Nat) (a : Int) (F : Fo), exF (fun x z => decide (v + up ≤ x - z)) pop pb j a (raF up fr pop pb j a F) = true → 0 ≤ up → exF (fun x z => decide (v ≤ x - z)) pop pb j a F = true
 | _, _, .nil, h, _ => by simp [raF, exF] at h
 | j, a, .cons p n ats k x, h, h0 => by
  have hs := raN_same up fr n (a + aroundI pop pb j)
  simp only [raF, exF, hs.1, hs.2, Bool.or_eq_true, Bool.and_eq_true, decide_eq_true_eq] at h ⊢
  rcases h with (⟨h1, h2⟩ | h) | h
  · refine .inl (.inl ⟨h1, ?_⟩)
    unfold raN at h2
    split at h2
    · simp only at h2; omega
    omega
  · exact .inl (.inr (exF_ra n.op n.b 0 _ k h h0))
  · exact .inr (exF_ra pop pb (j + 1) a x h h0)
theorem row_ra {up fr : Int} (pop pb : Int) : ∀ (j : Nat) (a : Int) (F : Fo), ∀ m ∈ row (raF up fr pop pb j a F), m ∈ row F ∨ m.op = 1
 | _, _, .nil, m, hm => by simp [raF, row] at hm
 | j, a, .cons p n ats k x, m, hm => by
  simp only [raF, row, List.mem_append, List.mem_cons] at hm ⊢
  rcases hm with hm | rfl | hm | hm | hm
  · exact .inl (.inl hm)
  · unfold raN
    split
    · rename_i h; exact .inr h.1
    exact .inl (.inr (.inl rfl))
  · exact .inl (.inr (.inr (.inl hm)))
  · rcases row_ra n.op n.b 0 _ k m hm with h | h
    · exact .inl (.inr (.inr (.inr (.inl h))))
    exact .inr h
  · rcases row_ra pop pb (j + 1) a x m hm with h | h
    · exact .inl (.inr (.inr (.inr (.inr h))))
    exact .inr h
theorem nodeB_var {b : Bk} {known self : Int} {m : Nd} (h : m.op = 1) : nodeB b known self m = true := by
 unfold nodeB
 rw [if_neg (by omega), if_neg (by omega), if_neg (by omega), if_neg (by omega), if_neg (by omega)]
theorem rowE_ok {b : Bk} {known self below : Int} {l : List Nd} (h1 : shapeI l = 0) (h2 : belowB l below = true) (h3 : ∀ m ∈ l, nodeB b known self m = true) : rowE b known self l below = 0 := by
 unfold rowE
 rw [h1, if_neg (by simp), h2, if_neg (by simp), if_pos (List.all_eq_true.2 h3)]
theorem fits_ok {b : Bk} {free : Int} {l : List Nd} (h1 : rightE b = 0) (h2 : 0 ≤ free) (h3 : rowE b b.entries.length (-1) l free = 0) : fitsE b free l = 0 := by
 unfold fitsE
 rw [h1, if_neg (by simp), if_neg (by omega), h3]
theorem below_rt {l : List Nd} {n : Nd} {a : List Nd} {k : Fo} (h : Rt l n a k) (v : Int) : belowB l v = !exT (fun x z => decide (max v 0 ≤ x - z)) 0 n k := by
 unfold belowB exR
 rw [h.shape, h.pp]
 simp
end
section
open Go.Lib (hid)
set_option maxHeartbeats 1000000
set_option maxRecDepth 100000
open Go.RowKit
def tiM (x : Int) : Met (Int × Int) := { an := fun _ _ _ => false, nx := fun t v a => if v - a = x then (wrap64 (t.1 + 1), max t.2 a) else t }
def tiJ (px pt pd : Nat) (x : Int) (w : World) (t : Int × Int) : Prop := Blk w px 3 #[.int .i64 x] ∧ Blk w pt 3 #[.int .i64 t.1] ∧ Blk w pd 3 #[.int .i64 t.2]
theorem ti_close {px pt pd : Nat} {x m d v a m' y : Int} {w : World} (h1 : px ≠ pt) (h2 : px ≠ pd) (h3 : pt ≠ pd) (jx : Blk w px 3 #[.int .i64 x]) (jt : Blk w pt 3 #[.int .i64 m]) (jd : Blk w pd 3 #[.int .i64 d]) (h : v - a = x) (hm : m' = wrap64 (m + 1)) (hy : y = max d a) :
 Moved (fun k => k = pt ∨ k = pd) none w ((w.setCell ⟨pt, 0, none⟩ (.int .i64 m')).setCell ⟨pd, 0, none⟩ (.int .i64 y)) ∧ tiJ px pt pd x ((w.setCell ⟨pt, 0, none⟩ (.int .i64 m')).setCell ⟨pd, 0, none⟩ (.int .i64 y)) ((tiM x).nx (m, d) v a) := by
 subst hm hy
 refine ⟨((Moved.refl _ _ w).setCell (p := ⟨pt, 0, none⟩) (.inl rfl) _).setCell (p := ⟨pd, 0, none⟩) (.inr rfl) _, ?_⟩
 simp only [tiM]
 rw [if_pos h]
 refine ⟨(jx.far (p := ⟨pt, 0, none⟩) h1 _).far (p := ⟨pd, 0, none⟩) h2 _, ?_, ?_⟩
 · have := (jt.set_ 0 (.int .i64 (wrap64 (m + 1)))).far (p := ⟨pd, 0, none⟩) h3 (.int .i64 (max d a))
   simpa using this
 have := (jd.far (p := ⟨pt, 0, none⟩) (Ne.symm h3) (.int .i64 (wrap64 (m + 1)))).set_ 0 (.int .i64 (max d a))
 simpa using this
theorem subst1_ok {px pt pd H : Nat} {x : Int} (hx : px < H) (ht : pt < H) (hd : pd < H) (h1 : px ≠ pt) (h2 : px ≠ pd) (h3 : pt ≠ pd) :
 MetOk Try.prog 95 #[.pointer (some ⟨px, 0, none⟩), .pointer (some ⟨pt, 0, none⟩), .pointer (some ⟨pd, 0, none⟩)] (tiM x) (tiJ px pt pd x) (fun k => k = pt ∨ k = pd) H := by
 rintro w ⟨m, d⟩ v a hH ⟨jx, jt, jd⟩ hv0 hv1 ha0 ha1
 have cx := jx.cell
 have ct := jt.cell
 have ft := jt.frozen
 have cd := jd.cell
 have fd := jd.frozen
 have hlx : px < w.heap.size := by omega
 have hlt : pt < w.heap.size := by omega
 have hld : pd < w.heap.size := by omega
 have h1' := Ne.symm h1
 have h2' := Ne.symm h2
 have h3' := Ne.symm h3
 have JX := hid jx
 have JT := hid jt
 have JD := hid jd
 clear jx jt jd
 simp only at ct cd JT JD
 show Calls Try.prog 95 #[.int .i64 v, .int .i64 a, .pointer (some ⟨px, 0, none⟩), .pointer (some ⟨pt, 0, none⟩), .pointer (some ⟨pd, 0, none⟩)] w _
 by_cases h : v - a = x
 · have hb : (v - a == x) = true := by simp [h]
   have HH := hid h
   clear h
   go_in
   go_wp2_with fail
   all_goals
    go_ret
    first
     | exact ⟨rfl, ti_close (y := a) h1 h2 h3 JX.out JT.out JD.out HH.out rfl (by omega)⟩
     | exact ⟨rfl, ti_close (y := d) h1 h2 h3 JX.out JT.out JD.out HH.out rfl (by omega)⟩
 have hb : (v - a == x) = false := by simp [h]
 have HH := hid h
 clear h
 go_in
 go_wp2_with fail
 go_ret
 refine ⟨rfl, Moved.refl _ _ _, ?_⟩
 simp only [tiM]
 rw [if_neg HH.out]
 exact ⟨JX.out, JT.out, JD.out⟩
def exJ (px pd : Nat) (x d : Int) (w : World) (_ : Unit) : Prop := Blk w px 3 #[.int .i64 x] ∧ Blk w pd 3 #[.int .i64 d]
theorem subst2_ok {px pd H : Nat} {x d : Int} (hx : px < H) (hd : pd < H) (hx0 : 0 ≤ x) (hx1 : x ≤ 1048577) (hd0 : 0 ≤ d) (hd1 : d ≤ 1000000000000) :
 MetOk Try.prog 96 #[.pointer (some ⟨px, 0, none⟩), .pointer (some ⟨pd, 0, none⟩)] (exM fun v a => decide (a ≤ v) && decide (1048576 < v - a + x + d)) (exJ px pd x d) (fun _ => False) H := by
 rintro w t v a hH ⟨jx, jd⟩ hv0 hv1 ha0 ha1
 have cx := jx.cell
 have cd := jd.cell
 have hlx : px < w.heap.size := by omega
 have hld : pd < w.heap.size := by omega
 have JX := hid jx
 have JD := hid jd
 clear jx jd
 show Calls Try.prog 96 #[.int .i64 v, .int .i64 a, .pointer (some ⟨px, 0, none⟩), .pointer (some ⟨pd, 0, none⟩)] w _
 by_cases h : a ≤ v
 · have hw1 : IntKind.i64.wrap (v - a + x) = v - a + x := IntWalk.i64_in _ (by omega)
   have hw2 : IntKind.i64.wrap (v - a + x + d) = v - a + x + d := IntWalk.i64_in _ (by omega)
   go_in
   go_wp2_with fail
   go_ret
   exact ⟨ret_bool (by simp only [exM]; simp [h]), Moved.refl _ _ _, JX.out, JD.out⟩
 have hb : decide (a ≤ v) = false := by simp; omega
 go_in
 go_wp2_with fail
 go_ret
 exact ⟨ret_bool (by simp only [exM]; simp; omega), Moved.refl _ _ _, JX.out, JD.out⟩
structure Put where
 n : Nd
 a : List Nd
 k : Fo
def puV (u : Put) (x : Int) : Vis Unit where
 em := fun _ n a => if n.op = 1 ∧ n.a = x + a then (raV (x + a) 0).E1 0 () u.n u.a u.k else if n.op = 1 ∧ x + a < n.a then [⟨n.op, n.a - 1, n.b⟩] else [n]
 nx := fun _ _ _ => ()
 ok := fun _ _ _ => true
 dm := fun _ n a => n.op = 1 ∧ n.a = x + a → (raV (x + a) 0).G1 0 () u.n u.k = true
def puJ (px pu : Nat) (x : Int) (R : Nat → Prop) (A : Option Addr) (nn c : Nat) (l : List Nd) (w : World) (_ : Unit) : Prop := Blk w px 3 #[.int .i64 x] ∧ Blk w pu 29 #[.slice A nn c] ∧ TermR R w A nn c l
def puK (px pu : Nat) (R : Nat → Prop) (k : Nat) : Prop := k = px ∨ k = pu ∨ R k
theorem puJ_same {px pu : Nat} {x : Int} {R : Nat → Prop} {A : Option Addr} {nn c : Nat} {l : List Nd} {w w' : World} {s : Unit} (h : puJ px pu x R A nn c l w s) (hk : ∀ k, puK px pu R k → w'.heap[k]? = w.heap[k]?) : puJ px pu x R A nn c l w' s :=
 ⟨h.1.same (hk _ (.inl rfl)), h.2.1.same (hk _ (.inr (.inl rfl))), h.2.2.keep fun b hb => ⟨hb, fun o => cell_of_heap (hk b (.inr (.inr hb))) o⟩⟩
theorem pu_close {u : Put} {x : Int} {px pu : Nat} {R : Nat → Prop} {A : Option Addr} {nn c : Nat} {l : List Nd} {base : Nat} {pan : List PanicEntry} {w w' : World} {s : Unit} {v v' : Value} {o l' : List Nd} {n : Nd} {a : Int} (hj : puJ px pu x R A nn c l w s) (hk : ∀ k, v.ownBlock = some k → ¬ puK px pu R k) (hlt : ∀ k, puK px pu R k → k < w.heap.size)
 (hm : Moved (fun _ => False) v.ownBlock w w') (hown : OwnN w' base v' (o ++ l')) (he : (puV u x).em () n a = l') (hn : newRow v v' w) :
 OnePost (puV u x) (puJ px pu x R A nn c l) (fun _ => False) base pan w s v o n a (.returned v') w' := by
 refine .inl ⟨rfl, hm, puJ_same hj (fun k h => hm.block k (hlt k h) (fun h => h) (fun e => hk k e.symm h)), _, rfl, ?_, hn⟩
 show OwnN w' base v' (o ++ (puV u x).em () n a)
 rw [he]; exact hown
set_option linter.unusedSimpArgs false in
theorem subst3_ok {px pu : Nat} {x : Int} {R : Nat → Prop} {A : Option Addr} {nn c : Nat} {l : List Nd} {base H M : Nat} {pan : List PanicEntry} {u : Put} (hpx : px < H) (hpu : pu < H) (hR : ∀ b, R b → b < H) (hb : base ≤ H) (hM : M ≤ 1000000000000) (hx0 : 0 ≤ x) (hx1 : x ≤ 1048577) (hpp : pp [false] l = some (.cons [] u.n u.a u.k .nil, [])) (hsz : 4 * fsize u.k ≤ 1000000000000) :
 OneOk Try.prog 97 #[.pointer (some ⟨px, 0, none⟩), .pointer (some ⟨pu, 0, none⟩)] (puV u x) (puJ px pu x R A nn c l) (puK px pu R) (fun _ => False) base H pan M := by
 intro w s v o n a hH hj hown hkk hok hdm ha0 ha1 hlen
 obtain ⟨Av, cv, rfl⟩ := hown.slice
 have hpl : plainB n.op n.a n.b = true := by simp only [okN, Bool.and_eq_true] at hok; exact hok.1.1
 obtain ⟨hna0, hna1⟩ := plainB_a hpl
 have hlt : ∀ k, puK px pu R k → k < w.heap.size := fun k hk => by
  rcases hk with h | h | h
  · omega
  · omega
  have := hR k h; omega
 have cx := hj.1.cell
 have cu := hj.2.1.cell
 have hlx : px < w.heap.size := by omega
 have hlu : pu < w.heap.size := by omega
 have hbs : base ≤ w.heap.size := by omega
 obtain ⟨i0, hi, hy0, hy1, hy2⟩ := info_parts infoN
 have HI0 := hid hi
 have HY0 := hid hy0
 have HY1 := hid hy1
 have HY2 := hid hy2
 have HOWN := hid hown
 have HJ := hid hj
 have HKK := hid hkk
 have HLEN := hid hlen
 have HLT := hid hlt
 have HDM := hid hdm
 have HPP := hid hpp
 have HSZ := hid hsz
 have HR := hid hR
 clear hi hy0 hy1 hy2 hown hj hkk hok hpl hlen hlt hdm hpp hsz hR
 show Calls Try.prog 97 #[.slice Av o.length cv, .agg #[.int .i64 n.op, .int .i64 n.a, .int .i64 n.b], .int .i64 a, .pointer (some ⟨px, 0, none⟩), .pointer (some ⟨pu, 0, none⟩)] w _
 have hw1 : IntKind.i64.wrap (x + a) = x + a := IntWalk.i64_in _ (by omega)
 by_cases h1 : n.op = 1
 rotate_left
 · have h1b : (n.op == 1) = false := by simp [h1]
   have he : (puV u x).em () n a = [n] := by
    show (if _ then _ else if _ then _ else _) = _
    rw [if_neg (fun h => h1 h.1), if_neg (fun h => h1 h.1)]
   have hl : o.length + 1 ≤ 1000000000000 := by have := HLEN.out; rw [he] at this; simp at this; omega
   have HE := hid he
   clear he h1
   go_in
   go_wp2_with (at_builtin; refine wpList_oper rfl (oper_append_node (.tmp 47) (.tmp 49) 29 rfl base i0 Try.underlying29 HI0.out HY0.out HY1.out HY2.out (.slice Av o.length cv) o n (w.alloc (.cells #[.int .i64 n.op, .int .i64 n.a, .int .i64 n.b] 50)) (by rfl) (by rfl) (HOWN.out.alloc _) _ (by rfl) (by simp) (by omega) (by simp; omega) ?_); intro A' c' w' hown' happ)
   go_ret
   exact pu_close HJ.out HKK.out HLT.out ((Moved.of_below (below_alloc _ _)).trans (Moved.of_grown happ.grown) (fun g hg => .inl hg)) hown' HE.out (fun g hg => (happ.new g hg).imp id (fun h => by simp at h; omega))
 have h1b : (n.op == 1) = true := by simp [h1]
 by_cases h2 : n.a = x + a
 · have h2b : (n.a == x + a) = true := by simp [h2]
   have he : (puV u x).em () n a = (raV (x + a) 0).E1 0 () u.n u.a u.k := if_pos ⟨h1, h2⟩
   have hg : (raV (x + a) 0).G1 0 () u.n u.k = true := HDM.out ⟨h1, h2⟩
   have hl : o.length + ((raV (x + a) 0).E1 0 () u.n u.a u.k).length ≤ 1000000000000 := by have := HLEN.out; rw [he] at this; omega
   have HE := hid he
   have HG := hid hg
   have HL := hid hl
   clear he hg hl h1 h2
   go_in
   go_wp2_with fail
   have hba : Below w.heap.size w (w.alloc (.cells #[.int .i64 n.op, .int .i64 n.a, .int .i64 n.b] 50)) := below_alloc _ _
   refine (raised_any (R := R) (base := base) (by simp; omega) (fun b hb => by have := HR.out b hb; simp; omega) (HJ.out.2.2.keep fun b hb => ⟨hb, fun o => cell_of_heap (hba.block b (by have := HR.out b hb; omega)) o⟩) (HOWN.out.alloc _) (fun g hg hr => HKK.out g hg (.inr (.inr hr))) HPP.out HSZ.out HL.out (by omega) (by omega) (Int.le_refl 0) (by omega)).mono ?_
   rintro e w3 ⟨hm3, (⟨_, v', rfl, hown3, hnr⟩ | ⟨hg, _⟩)⟩
   · have HM3 := hid hm3
     have HO3 := hid hown3
     have HN3 := hid hnr
     clear hm3 hown3 hnr
     go_wp2_with fail
     go_ret
     exact pu_close HJ.out HKK.out HLT.out (Moved.over hba HM3.out (fun _ _ h => h)) HO3.out HE.out (fun g hg => (HN3.out g hg).imp id (fun h => Nat.le_trans hba.size h))
   rw [HG.out] at hg; cases hg
 have h2b : (n.a == x + a) = false := by simp [h2]
 by_cases h3 : x + a < n.a
 · have he : (puV u x).em () n a = [⟨n.op, n.a - 1, n.b⟩] := by
    show (if _ then _ else if _ then _ else _) = _
    rw [if_neg (fun h => h2 h.2), if_pos ⟨h1, h3⟩]
   have hl : o.length + 1 ≤ 1000000000000 := by have := HLEN.out; rw [he] at this; simp at this; omega
   have HE := hid he
   clear he h1 h2
   go_in
   go_wp2_with (at_builtin; refine wpList_oper rfl (oper_append_node (.tmp 47) (.tmp 49) 29 rfl base i0 Try.underlying29 HI0.out HY0.out HY1.out HY2.out (.slice Av o.length cv) o ⟨n.op, n.a - 1, n.b⟩ (w.alloc (.cells #[.int .i64 n.op, .int .i64 (n.a - 1), .int .i64 n.b] 50)) (by rfl) (by rfl) (HOWN.out.alloc _) _ (by rfl) (by simp) (by omega) (by simp; omega) ?_); intro A' c' w' hown' happ)
   go_ret
   exact pu_close HJ.out HKK.out HLT.out ((Moved.of_below (below_alloc _ _)).trans (Moved.of_grown happ.grown) (fun g hg => .inl hg)) hown' HE.out (fun g hg => (happ.new g hg).imp id (fun h => by simp at h; omega))
 have h3b : decide (x + a < n.a) = false := by simp; omega
 have he : (puV u x).em () n a = [n] := by
  show (if _ then _ else if _ then _ else _) = _
  rw [if_neg (fun h => h2 h.2), if_neg (fun h => h3 h.2)]
 have hl : o.length + 1 ≤ 1000000000000 := by have := HLEN.out; rw [he] at this; simp at this; omega
 have HE := hid he
 clear he h1 h2
 go_in
 go_wp2_with (at_builtin; refine wpList_oper rfl (oper_append_node (.tmp 47) (.tmp 49) 29 rfl base i0 Try.underlying29 HI0.out HY0.out HY1.out HY2.out (.slice Av o.length cv) o n (w.alloc (.cells #[.int .i64 n.op, .int .i64 n.a, .int .i64 n.b] 50)) (by rfl) (by rfl) (HOWN.out.alloc _) _ (by rfl) (by simp) (by omega) (by simp; omega) ?_); intro A' c' w' hown' happ)
 go_ret
 exact pu_close HJ.out HKK.out HLT.out ((Moved.of_below (below_alloc _ _)).trans (Moved.of_grown happ.grown) (fun g hg => .inl hg)) hown' HE.out (fun g hg => (happ.new g hg).imp id (fun h => by simp at h; omega))
end
end Go.Proofs.Ytjoddliplahgkaa
