/- slices.Reverse and Spine of the program; plain laws of spines. -/
import Derived.Test.YtnmeglbamfjcgaaTermP
import Derived.Test.YtnmeglbamfjcgaaApps
import Derived.Test.YtnmeglbamfjcgaaOwn3
import Derived.Test.YtnmeglbamfjcgaaProg
import Derived.Test.YtnmeglbamfjcgaaLeaf2
import Derived.Test.YtnmeglbamfjcgaaCut
import Derived.Test.YtnmeglbamfjcgaaEnd
import Derived.Test.YtnmeglbamfjcgaaRefBind
namespace Go.Proofs.Ytnmeglbamfjcgaa
open Go.RowKit

/-- A row is this tree. -/
structure Rt (t : List Nd) (n : Nd) (a : List Nd) (k : Fo) : Prop where
  pp : pp [false] t = some (.cons [] n a k .nil, [])
  few : t.length ≤ 4096
theorem rt_of {t : List Nd} (h : shapeI t = 0) : ∃ n a k, Rt t n a k := by
  obtain ⟨h1, n, a, k, h2, _, _⟩ := shape_ok h
  exact ⟨n, a, k, h2, h1⟩
theorem Rt.shape {t : List Nd} {n : Nd} {a : List Nd} {k : Fo} (h : Rt t n a k) : shapeI t = 0 := shape_of_pp h.pp h.few
theorem Rt.eq {t : List Nd} {n : Nd} {a : List Nd} {k : Fo} (h : Rt t n a k) : t = n :: (a ++ row k) := by
  have := pp_row h.pp
  simpa [row] using this
theorem Rt.wf {t : List Nd} {n : Nd} {a : List Nd} {k : Fo} (h : Rt t n a k) : okN n = true ∧ AtOk n a ∧ Wf (ds n) k := by
  obtain ⟨_, h1, h2, h3, _⟩ := wf_of_pp h.pp
  exact ⟨h1, h2, h3⟩
theorem rt_make {n : Nd} {a : List Nd} {k : Fo} (h1 : okN n = true) (h2 : AtOk n a) (h3 : Wf (ds n) k) (hl : (n :: (a ++ row k)).length ≤ 4096) : Rt (n :: (a ++ row k)) n a k := by
  refine ⟨?_, hl⟩
  have := pp_of_wf (.cons [] n a k .nil) [false] [] ⟨rfl, h1, h2, h3, trivial⟩
  simpa [row] using this
theorem app_node {n : Nd} (h : okN n = true) (h6 : n.op = 6) : n = ⟨6, 0, 0⟩ := by
  obtain ⟨op, a, b⟩ := n
  simp only at h6
  subst h6
  simp only [okN, Bool.and_eq_true] at h
  have h1 := plainB_iff.1 h.1.1
  obtain ⟨rfl, rfl⟩ : a = 0 ∧ b = 0 := by omega
  rfl
/-- An application's two kids. -/
structure AppS (t : List Nd) (n1 : Nd) (a1 : List Nd) (k1 : Fo) (n2 : Nd) (a2 : List Nd) (k2 : Fo) : Prop where
  fst : Rt (n1 :: (a1 ++ row k1)) n1 a1 k1
  snd : Rt (n2 :: (a2 ++ row k2)) n2 a2 k2
  eq : t = ⟨6, 0, 0⟩ :: ((n1 :: (a1 ++ row k1)) ++ (n2 :: (a2 ++ row k2)))
  end_ : endI t 1 = ((1 + (n1 :: (a1 ++ row k1)).length : Nat) : Int)
theorem app_split {t : List Nd} {n : Nd} {a : List Nd} {k : Fo} (h : Rt t n a k) (h6 : n.op = 6) : ∃ n1 a1 k1 n2 a2 k2, k = .cons [] n1 a1 k1 (.cons [] n2 a2 k2 .nil) ∧ AppS t n1 a1 k1 n2 a2 k2 := by
  obtain ⟨hok, hat, hw⟩ := h.wf
  have hrow := h.eq
  have hn := app_node hok h6
  have ha : a = [] := by
    unfold AtOk at hat
    rwa [if_neg (by omega)] at hat
  have hds : ds n = [false, false] := by rw [hn]; rfl
  rw [hds] at hw
  match k, hw with
  | .cons p1 n1 a1 k1 (.cons p2 n2 a2 k2 .nil), hw =>
    obtain ⟨hp1, o1, t1, w1, hp2, o2, t2, w2, _⟩ := hw
    simp only at hp1 hp2
    subst hp1 hp2
    have hr : t = ⟨6, 0, 0⟩ :: ((n1 :: (a1 ++ row k1)) ++ (n2 :: (a2 ++ row k2))) := by
      rw [hrow, ha, hn]
      simp [row]
    have hl := h.few
    rw [hr] at hl
    simp only [List.length_cons, List.length_append] at hl
    have f1 := rt_make o1 t1 w1 (by simp; omega)
    have f2 := rt_make o2 t2 w2 (by simp; omega)
    refine ⟨n1, a1, k1, n2, a2, k2, rfl, f1, f2, hr, ?_⟩
    have he := endI_nat t 1
    rw [show ((1 : Nat) : Int) = 1 from rfl] at he
    rw [he]
    have hpp := pp_of_wf (.cons [] n1 a1 k1 .nil) [false] (n2 :: (a2 ++ row k2)) ⟨rfl, o1, t1, w1, trivial⟩
    have hd : t.drop 1 = row (.cons [] n1 a1 k1 .nil) ++ (n2 :: (a2 ++ row k2)) := by rw [hr]; simp [row]
    unfold ends
    rw [hd, hpp]
    simp only [Option.map_some, optI]
    rw [hr]
    simp only [List.length_cons, List.length_append]
    omega

/-- What is applied, and the arguments. -/
def spT : Nat → List Nd → Nd → Fo → List Nd × List (List Nd)
  | 0, t, _, _ => (t, [])
  | m + 1, t, n, .cons _ n1 a1 k1 (.cons _ n2 a2 k2 _) => if n.op = 6 then ((spT m (n1 :: (a1 ++ row k1)) n1 k1).1, (spT m (n1 :: (a1 ++ row k1)) n1 k1).2 ++ [n2 :: (a2 ++ row k2)]) else (t, [])
  | _ + 1, t, _, _ => (t, [])
theorem spT_stop {m : Nat} {t : List Nd} {n : Nd} {k : Fo} (h : n.op ≠ 6) : spT m t n k = (t, []) := by
  cases m with
  | zero => rfl
  | succ m =>
    match k with
    | .nil => rfl
    | .cons _ _ _ _ .nil => rfl
    | .cons _ n1 a1 k1 (.cons _ n2 a2 k2 x) => simp only [spT]; rw [if_neg h]
theorem spT_app {m : Nat} {t : List Nd} {n n1 n2 : Nd} {a1 a2 : List Nd} {k1 k2 : Fo} (h : n.op = 6) : spT (m + 1) t n (.cons [] n1 a1 k1 (.cons [] n2 a2 k2 .nil)) = ((spT m (n1 :: (a1 ++ row k1)) n1 k1).1, (spT m (n1 :: (a1 ++ row k1)) n1 k1).2 ++ [n2 :: (a2 ++ row k2)]) := by
  simp only [spT]
  rw [if_pos h]
/-- A spine put together again. -/
theorem spT_back : ∀ (m : Nat) (t : List Nd) (n : Nd) (a : List Nd) (k : Fo), Rt t n a k → t.length ≤ m → t = List.replicate (spT m t n k).2.length ⟨6, 0, 0⟩ ++ ((spT m t n k).1 ++ (spT m t n k).2.flatten) ∧ shapeI (spT m t n k).1 = 0 ∧ firstBad (spT m t n k).2 = 0 ∧ (nth (spT m t n k).1 0).op ≠ 6 ∧ (spT m t n k).1 ≠ []
  | 0, t, n, a, k, h, hl => by
    have := h.eq
    rw [this] at hl
    simp at hl
  | m + 1, t, n, a, k, h, hl => by
    by_cases h6 : n.op = 6
    · obtain ⟨n1, a1, k1, n2, a2, k2, rfl, hs⟩ := app_split h h6
      rw [spT_app h6]
      have hr := hs.eq
      have hl2 := hl
      rw [hr] at hl2
      simp only [List.length_cons, List.length_append] at hl2
      obtain ⟨e1, e2, e3, e4, e5⟩ := spT_back m _ n1 a1 k1 hs.fst (by simp only [List.length_cons, List.length_append]; omega)
      refine ⟨?_, e2, ?_, e4, e5⟩
      · simp only [List.length_append, List.flatten_append, List.length_singleton]
        rw [List.replicate_succ]
        conv => lhs; rw [hr]
        conv => lhs; rw [e1]
        simp
      · simp only
        rw [firstBad_app, if_pos e3]
        simp only [firstBad, hs.snd.shape, if_true]
    · rw [spT_stop h6]
      refine ⟨by simp, h.shape, rfl, ?_, ?_⟩
      · rw [h.eq]; exact h6
      · rw [h.eq]; simp

theorem own_setv {w : World} {base g n c : Nat} {e : TypeId} {xs : List Value} (h : w.ownsRow base e 1 (.slice (some ⟨g, 0, none⟩) n c) n xs) (i : Nat) (u : Value) : (w.setCell ⟨g, i, none⟩ u).ownsRow base e 1 (.slice (some ⟨g, 0, none⟩) n c) n (xs.set i u) := by
  obtain ⟨hl, hc⟩ := h
  refine ⟨by simpa using hl, .inr ?_⟩
  rcases hc with ⟨h1, _⟩ | ⟨g', cap, cur, hv, hg, hh, h1, h2, h3, h4⟩
  · cases h1
  · injection hv with e1 e2 e3
    injection e1 with e1
    injection e1 with e1
    subst e1 e3
    refine ⟨g, c, cur.setIfInBounds i u, rfl, hg, ?_, h1, h2, by simpa using h3, ?_⟩
    · have hb : Blk w g e cur := hh
      exact hb.set_ i u
    · rw [Array.toList_setIfInBounds, List.take_set, h4]
/-- xs, the first i and the last i of them turned. -/
structure RvS (xs l : List Value) (i : Nat) : Prop where
  len : l.length = xs.length
  at_ : ∀ p, p < xs.length → l[p]? = if p < i ∨ xs.length ≤ p + i then xs[xs.length - 1 - p]? else xs[p]?
theorem RvS.start (xs : List Value) : RvS xs xs 0 := ⟨rfl, fun p hp => by rw [if_neg (by omega)]⟩
theorem RvS.step {xs l : List Value} {i j : Nat} {u v : Value} (h : RvS xs l i) (hij : i < j) (hj : j + i + 1 = xs.length) (hu : l[i]? = some u) (hv : l[j]? = some v) : RvS xs ((l.set i v).set j u) (i + 1) := by
  have hl := h.len
  refine ⟨by simpa using hl, fun p hp => ?_⟩
  have hi := h.at_ i (by omega)
  have hjj := h.at_ j (by omega)
  rw [if_neg (by omega)] at hi hjj
  rw [hu] at hi
  rw [hv] at hjj
  rw [List.getElem?_set, List.getElem?_set]
  by_cases e1 : j = p
  · subst e1
    rw [if_pos rfl, if_pos (by simp; omega), if_pos (by omega), show xs.length - 1 - j = i from by omega, ← hi]
  · rw [if_neg e1]
    by_cases e2 : i = p
    · subst e2
      rw [if_pos rfl, if_pos (by omega), if_pos (by omega), show xs.length - 1 - i = j from by omega, ← hjj]
    · rw [if_neg e2, h.at_ p hp]
      by_cases e3 : p < i ∨ xs.length ≤ p + i
      · rw [if_pos e3, if_pos (by omega)]
      · rw [if_neg e3, if_neg (by omega)]
theorem RvS.fin {xs l : List Value} {i : Nat} (h : RvS xs l i) (hi : xs.length ≤ 2 * i + 1) : l = xs.reverse := by
  apply List.ext_getElem?
  intro p
  by_cases hp : p < xs.length
  · rw [h.at_ p hp, List.getElem?_reverse hp]
    by_cases e : p < i ∨ xs.length ≤ p + i
    · rw [if_pos e]
    · rw [if_neg e]; congr 1; omega
  · rw [List.getElem?_eq_none (by rw [h.len]; omega), List.getElem?_eq_none (by simp; omega)]

theorem grown_setv (W : World) (g k : Nat) (v : Value) : W.grownBy (W.setCell ⟨g, k, none⟩ v) (some g) :=
  ⟨rfl, rfl, rfl, by simp, fun i _ h2 => Below.heap_setCell _ _ _ _ (fun e => h2 (by rw [e]))⟩
/-- A row of its own is turned: nothing else is written. -/
def RevPost (base : Nat) (A : Option Addr) (n c : Nat) (xs : List Value) (w : World) (e : Ending) (w' : World) : Prop := e = .returned (.tuple #[]) ∧ w'.ownsRow base 23 1 (.slice A n c) n xs.reverse ∧ w.grownBy w' (Value.slice A n c).ownBlock

set_option maxRecDepth 100000 in
set_option maxHeartbeats 2000000 in
theorem reverse_any {A : Option Addr} {n c base : Nat} {xs : List Value} {w : World} (h : w.ownsRow base 23 1 (.slice A n c) n xs) (hf : n ≤ 1000000) (hxs : ∀ x ∈ xs, ∃ A' n' c', x = .slice A' n' c') :
    Calls Try.prog 64 #[.slice A n c] w (RevPost base A n c xs w) := by
  have hln : xs.length = n := by have := h.1; omega
  have H := Lib.hid h
  have HXS := Lib.hid hxs
  clear h hxs
  go_enter Try.func64, Try.ntmps64
  go_wp2_with fail
  go_loopw [2, 3] (fun iv jv wr => ∃ (i : Nat) (l : List Value), iv = .int .i64 (i : Int) ∧ jv = .int .i64 ((n : Int) - 1 - (i : Int)) ∧ 2 * i ≤ n + 1 ∧ RowKit.Hid (RvS xs l i) ∧ RowKit.Hid (wr.ownsRow base 23 1 (.slice A n c) n l) ∧ RowKit.Hid (w.grownBy wr (Value.slice A n c).ownBlock)) (fun i _ _ => n - (intOf i).toNat)
  case atStart => exact ⟨0, xs, rfl, by go_num, by omega, Lib.hid (RvS.start xs), H, Lib.hid (World.grownBy.refl _ _)⟩
  case round =>
    obtain ⟨i, l, rfl, rfl, hi, hrv, hown, hgr⟩ := hrel
    by_cases hlt : (i : Int) < (n : Int) - 1 - (i : Int)
    · obtain ⟨j, hj⟩ : ∃ j : Nat, j + i + 1 = n := ⟨n - 1 - i, by omega⟩
      have hji : (n : Int) - 1 - (i : Int) = (j : Int) := by omega
      have hij : i < j := by omega
      have hjn : j < n := by omega
      obtain ⟨u, hu⟩ : ∃ u, l[i]? = some u := ⟨_, List.getElem?_eq_getElem (by rw [hrv.out.len]; omega)⟩
      obtain ⟨v, hv⟩ : ∃ v, l[j]? = some v := ⟨_, List.getElem?_eq_getElem (by rw [hrv.out.len]; omega)⟩
      have hmem : ∀ p x, l[p]? = some x → x ∈ xs := fun p x hp => by
        have hpl := (List.getElem?_eq_some_iff.1 hp).1
        rw [hrv.out.len] at hpl
        rw [hrv.out.at_ p hpl] at hp
        split at hp <;> exact List.mem_of_getElem? hp
      obtain ⟨Au, nu, cu, rfl⟩ := HXS.out _ (hmem _ _ hu)
      obtain ⟨Av, nv, cv, rfl⟩ := HXS.out _ (hmem _ _ hv)
      have hST := hrv.out.step hij (by omega) hu hv
      obtain ⟨_, hcase⟩ := hown.out
      rcases hcase with ⟨_, h2⟩ | ⟨g, cap', cur, he, hg, hh, _⟩
      · omega
      injection he with e1 e2 e3
      subst e1
      subst e3
      clear e2
      have hblk : Blk wr g 23 cur := hh
      have hci : wr.cell? ⟨g, i, none⟩ = some (.slice Au nu cu) := by rw [hown.out.cellAt i (by omega), hu]
      have hcj : wr.cell? ⟨g, j, none⟩ = some (.slice Av nv cv) := by rw [hown.out.cellAt j (by omega), hv]
      have hfz := Blk.frozen hblk
      have HST := Lib.hid hST
      have hne : i ≠ j := by omega
      rw [hji]
      clear hu hv hmem hST hh hblk hji
      go_wp2_with fail
      go_region
      go_wp2_with fail
      have h3 : w.grownBy ((wr.setCell ⟨g, i, none⟩ (.slice Av nv cv)).setCell ⟨g, j, none⟩ (.slice Au nu cu)) (some g) :=
        (World.grownBy.trans (show w.grownBy wr (some g) from hgr.out) (grown_setv wr g i _)).trans (grown_setv _ g j _)
      have H3 := Lib.hid h3
      clear h3
      go_roundw
      case rel => exact ⟨i + 1, (l.set i (.slice Av nv cv)).set j (.slice Au nu cu), by go_num, by go_num, by omega, HST, Lib.hid (own_setv (own_setv hown.out i (.slice Av nv cv)) j (.slice Au nu cu)), Lib.hid ⟨H3.out.os, H3.out.tape, H3.out.output, H3.out.size, H3.out.block⟩⟩
      case measure => simp [intOf]; omega
    · have HE := Lib.hid (hrv.out.fin (by omega))
      go_wp2_with fail
      go_end0
      refine ⟨rfl, ?_, hgr.out⟩
      rw [← HE.out]
      exact hown.out

/-- What a row is applied, and the arguments; of a wrong row none. -/
def spineR (t : List Nd) : List Nd × List (List Nd) := if shapeI t = 0 then spT t.length t (topOf t).1 (topOf t).2 else ([], [])
theorem rt_top {t : List Nd} {n : Nd} {a : List Nd} {k : Fo} (h : Rt t n a k) : topOf t = (n, k) := by
  unfold topOf
  rw [if_pos h.shape, h.pp]
def SpinePost (q : List Nd × List (List Nd)) (w : World) (e : Ending) (w' : World) : Prop := Below w.heap.size w w' ∧ ∃ A n c B m d, e = .returned (.tuple #[.slice A n c, .slice B m d]) ∧ TermV w' A n c q.1 ∧ RowsR (· < w'.heap.size) w' B m d q.2 ∧ (B = none → d = 0)
def lenOf : Value → Nat
  | .slice _ n _ => n
  | _ => 0
theorem RowsC.rev {S : Nat → Prop} {w : World} : ∀ {xs : List Value} {ls : List (List Nd)}, RowsC S w xs ls → RowsC S w xs.reverse ls.reverse
  | [], [], _ => trivial
  | [], _ :: _, h => h.elim
  | _ :: _, [], h => h.elim
  | x :: xs, l :: ls, h => by
    obtain ⟨⟨A, n, c, rfl, ht⟩, h2⟩ := h
    rw [List.reverse_cons, List.reverse_cons]
    exact RowsC.add ht h2.rev
theorem rows_slices {S : Nat → Prop} {w : World} : ∀ {xs : List Value} {ls : List (List Nd)}, RowsC S w xs ls → ∀ x ∈ xs, ∃ A' n' c', x = .slice A' n' c'
  | [], [], _ => fun x hx => by cases hx
  | [], _ :: _, h => h.elim
  | _ :: _, [], h => h.elim
  | x :: xs, l :: ls, h => fun y hy => by
    obtain ⟨⟨A, n, c, e, _⟩, h2⟩ := h
    rcases List.mem_cons.1 hy with rfl | hy
    · exact ⟨A, n, c, e⟩
    · exact rows_slices h2 y hy
theorem own_nul {w : World} {base n c : Nat} {A : Option Addr} {e : TypeId} {z : Nat} {xs : List Value} (h : w.ownsRow base e z (.slice A n c) n xs) : A = none → c = 0 := by
  intro hA
  rcases h.2 with ⟨hv, _⟩ | ⟨g, cap, cur, hv, _⟩
  · injection hv
  · injection hv with e1
    rw [hA] at e1
    cases e1

set_option linter.unusedSimpArgs false in
set_option maxRecDepth 100000 in
set_option maxHeartbeats 4000000 in
theorem spine_any {A : Option Addr} {n c : Nat} {t : List Nd} {w : World} (h : TermV w A n c t) :
    Calls Try.prog 34 #[.slice A n c] w (SpinePost (spineR t) w) := by
  have HSH := Lib.hid (shape_any h)
  by_cases hs : shapeI t = 0
  · obtain ⟨i1, hi', hy0', hy1', hy2'⟩ := info_parts infoR
    have HI1 := Lib.hid hi'
    have HZ0 := Lib.hid hy0'
    have HZ1 := Lib.hid hy1'
    have HZ2 := Lib.hid hy2'
    clear hi' hy0' hy1' hy2'
    obtain ⟨n0, a0, k0, hrt⟩ := rt_of hs
    have hsp : spineR t = spT t.length t n0 k0 := by unfold spineR; rw [if_pos hs, rt_top hrt]
    obtain ⟨m, hm⟩ : ∃ m, m = t.length := ⟨_, rfl⟩
    have hmf : m ≤ 4096 := by rw [hm]; exact hrt.few
    rw [← hm] at hsp
    obtain ⟨F, L, hFL⟩ : ∃ F L, spT m t n0 k0 = (F, L) := ⟨_, _, rfl⟩
    rw [hFL] at hsp
    have HSP := Lib.hid hsp
    have HRT := Lib.hid hrt
    have HFL := Lib.hid hFL
    have HM := Lib.hid hm
    have HT := Lib.hid h
    rw [hs] at HSH
    clear hs hrt hsp hFL hm h
    go_enter Try.func34, Try.ntmps34
    go_wp2_with fail
    refine (HSH.out).mono ?_
    rintro e w2 ⟨rfl, hb2⟩
    have HB2 := Lib.hid hb2
    clear hb2
    have hn4 : n ≤ 4096 := by have := HT.out.len; have := HM.out; omega
    go_wp2_with fail
    go_loopw [0, 4] (fun tv av wr => ∃ (m' n' c' j d : Nat) (A' B : Option Addr) (tc : List Nd) (n1 : Nd) (a1 : List Nd) (k1 : Fo) (xs : List Value) (ls : List (List Nd)), tv = .slice A' n' c' ∧ av = .slice B j d ∧ j + n' ≤ 4096 ∧ RowKit.Hid (Rt tc n1 a1 k1) ∧ RowKit.Hid (tc.length ≤ m') ∧ RowKit.Hid ((spT m' tc n1 k1).1 = F ∧ (spT m' tc n1 k1).2 ++ ls.reverse = L) ∧ RowKit.Hid (∀ w', Below w.heap.size w w' → TermV w' A' n' c' tc) ∧ RowKit.Hid (wr.ownsRow w.heap.size 23 1 (.slice B j d) j xs) ∧ RowKit.Hid (RowsC (Aside w.heap.size wr (.slice B j d)) wr xs ls) ∧ RowKit.Hid (Below w.heap.size w wr)) (fun tv _ _ => lenOf tv)
    case atStart => exact ⟨m, n, c, 0, 0, A, none, t, n0, a0, k0, [], [], rfl, rfl, by omega, HRT, Lib.hid (by rw [HM.out]; exact Nat.le_refl _), Lib.hid (by rw [HFL.out]; exact ⟨rfl, by simp⟩), Lib.hid (fun w' hb => HT.out.below hb), Lib.hid (World.ownsRow_nil _ _ _ _), Lib.hid trivial, HB2⟩
    case round =>
      obtain ⟨m', n', c', j, d, A', B, tc, n1, a1, k1, xs, ls, rfl, rfl, hjn, hrt, hm', hsp, htc, hown, hrows, hbw⟩ := hrel
      have HT1 := Lib.hid (htc.out _ hbw.out)
      have hlen := HT1.out.len
      have heq := hrt.out.eq
      have hn0 : 0 < n' := by rw [← hlen, heq]; simp
      have hcap := HT1.out.cap
      obtain ⟨b, off, rfl, hb, hc0, _, _⟩ := HT1.out.at_ hn0
      rw [Nat.zero_mul, Nat.add_zero, show nth tc 0 = n1 from by rw [heq]; rfl] at hc0
      have hbs := hbw.out.size
      clear heq
      by_cases h6 : n1.op = 6
      · obtain ⟨nx, ax, kx, ny, ay, ky, rfl, hsplit⟩ := app_split hrt.out h6
        obtain ⟨r1, hr1⟩ : ∃ r1, r1 = nx :: (ax ++ row kx) := ⟨_, rfl⟩
        obtain ⟨r2, hr2⟩ : ∃ r2, r2 = ny :: (ay ++ row ky) := ⟨_, rfl⟩
        obtain ⟨hf1, hf2, hq, hend⟩ := hsplit
        cases m' with
        | zero => have := hm'.out; rw [hq] at this; simp at this
        | succ m' =>
        have hsp2 := hsp.out
        rw [spT_app h6] at hsp2
        rw [← hr1] at hf1 hq hend hsp2
        rw [← hr2] at hf2 hq hsp2
        obtain ⟨p, hp⟩ : ∃ p, p = 1 + r1.length := ⟨_, rfl⟩
        rw [← hp] at hend
        have hql : n' = p + r2.length := by rw [← hlen, hq, hp]; simp; omega
        have hr2l : 0 < r2.length := by rw [hr2]; simp
        have hd2 : tc.drop p = r2 := by rw [hq, hp, Nat.add_comm, List.drop_succ_cons, List.drop_left]
        have hd1 : (tc.take p).drop 1 = r1 := by rw [hq, hp, Nat.add_comm, List.take_succ_cons, List.drop_succ_cons, List.drop_zero, List.take_left]
        obtain ⟨A2, hcut2, hcutr2⟩ := cut_from (some ⟨b, off, none⟩) n' c' p (by omega)
        obtain ⟨A3, hcut3, hcutr3⟩ := cut_mid (some ⟨b, off, none⟩) n' c' 1 p (by omega) (by omega) hcap
        rw [show ((1 : Nat) : Int) = 1 from rfl] at hcut3
        have HT2 : RowKit.Hid (∀ w', Below w.heap.size w w' → TermV w' A2 (n' - p) (c' - p) r2) := Lib.hid fun w' h => by
          have := hcutr2 _ _ _ (htc.out w' h)
          rwa [hd2] at this
        have HT3 : RowKit.Hid (∀ w', Below w.heap.size w w' → TermV w' A3 (p - 1) (c' - 1) r1) := Lib.hid fun w' h => by
          have := hcutr3 _ _ _ (htc.out w' h)
          rwa [hd1] at this
        have HEND := Lib.hid (end_any HT1.out 1)
        rw [hend] at HEND
        have HF1 := Lib.hid hf1
        have HSP2 := Lib.hid hsp2
        have HML : RowKit.Hid (r1.length ≤ m') := Lib.hid (by have := hm'.out; rw [hq] at this; simp at this; omega)
        have hp1 : 1 ≤ p := by omega
        have hpn : p < n' := by omega
        clear hf1 hf2 hq hend hsp2 hr1 hr2 hp hql hr2l hd1 hd2 hcutr2 hcutr3 hlen
        rw [h6] at hc0
        clear h6
        go_wp2_with fail
        refine (HEND.out).mono ?_
        rintro e w3 ⟨rfl, hb3⟩
        have HB3 := Lib.hid (hbw.out.trans (hb3.mono hbs))
        have HO3 := Lib.hid (own_below hown.out hb3)
        have HR3 := Lib.hid (RowsC.keep (S' := Aside w.heap.size w3 (.slice B j d)) (w' := w3) (fun q hq => ⟨⟨hq.1, Nat.lt_of_lt_of_le hq.2.1 hb3.size, hq.2.2⟩, fun o => hb3.cell (p := ⟨q, o, none⟩) hq.2.1⟩) hrows.out)
        clear hb3
        go_wp2_with fail
        refine (clone_any (HT2.out _ HB3.out)).mono ?_
        rintro e w4 ⟨hb4, A4, n4, c4, rfl, ht4⟩
        have HB4 := Lib.hid (HB3.out.trans (hb4.mono HB3.out.size))
        have HO4 := Lib.hid (own_below HO3.out hb4)
        have HR4 := Lib.hid (RowsC.keep (S' := Aside w.heap.size w4 (.slice B j d)) (w' := w4) (fun q hq => ⟨⟨hq.1, Nat.lt_of_lt_of_le hq.2.1 hb4.size, hq.2.2⟩, fun o => hb4.cell (p := ⟨q, o, none⟩) hq.2.1⟩) HR3.out)
        have HT4 : RowKit.Hid (TermR (Aside w.heap.size w4 (.slice B j d)) w4 A4 n4 c4 r2) := Lib.hid (ht4.keep fun q hq => ⟨⟨Nat.le_trans HB3.out.size hq.1, hq.2, fun e => by have := (ownsRow_block HO3.out e).2.1; have := hq.1; omega⟩, fun _ => rfl⟩)
        have hbs4 := HB4.out.size
        clear hb4 ht4
        go_wp2_with (at_builtin; go_loud (refine wpList_oper rfl (oper_append_one (.tmp 16) (.tmp 21) 41 23 rfl w.heap.size i1 _ 24 Try.underlying41 HI1.out HZ0.out HZ1.out HZ2.out rfl (by decide) (.slice B j d) j xs (.slice A4 n4 c4) rfl w4 rfl rfl HO4.out _ rfl rfl (by omega) (by omega) ?_)); intro A5 c5 w5 happ5)
        have hsg := happ5.grown.size
        have HO5 := Lib.hid happ5.own
        have HB5 := Lib.hid (HB4.out.grown happ5.grown hbs4 (fun g hg => (ownsRow_block HO4.out hg).1))
        have HR5 : RowKit.Hid (RowsC (Aside w.heap.size w5 (.slice A5 (j + 1) c5)) w5 (xs ++ [.slice A4 n4 c4]) (ls ++ [r2])) := Lib.hid (RowsC.keep (fun q hq => ⟨⟨hq.1, Nat.lt_of_lt_of_le hq.2.1 hsg, fun e => by
          rcases happ5.new q e with h1 | h1
          · exact hq.2.2 h1
          · have := hq.2.1; omega⟩, fun o => cell_of_heap (happ5.grown.block q hq.2.1 (fun e => hq.2.2 e.symm)) o⟩) (RowsC.add HT4.out HR4.out))
        clear happ5 hsg
        go_wp2_with fail
        go_roundw
        case rel => exact ⟨m', p - 1, c' - 1, j + 1, c5, A3, A5, r1, nx, ax, kx, xs ++ [.slice A4 n4 c4], ls ++ [r2], rfl, rfl, by omega, HF1, HML, Lib.hid ⟨HSP2.out.1, by rw [← HSP2.out.2]; simp⟩, HT3, HO5, HR5, HB5⟩
        case measure => simp only [lenOf]; omega
      · have h6b : (n1.op == 6) = false := by simpa using h6
        have HE : RowKit.Hid (spineR t = (tc, ls.reverse)) := Lib.hid (by
          have h1 := hsp.out
          rw [spT_stop h6] at h1
          rw [HSP.out, ← h1.1, ← h1.2]
          simp)
        have hxl : ∀ x ∈ xs, ∃ A' n' c', x = .slice A' n' c' := rows_slices hrows.out
        have HREV := Lib.hid (reverse_any hown.out (by omega) hxl)
        generalize n1.op = op at *
        clear h6 hxl hlen
        go_wp2_with fail
        refine (HREV.out).mono ?_
        rintro e w3 ⟨rfl, ho3, hg3⟩
        have HB3 := Lib.hid (hbw.out.grown hg3 hbs (fun g hg => (ownsRow_block hown.out hg).1))
        have HR3 : RowKit.Hid (RowsC (Aside w.heap.size w3 (.slice B j d)) w3 xs.reverse ls.reverse) := Lib.hid (RowsC.keep (fun q hq => ⟨⟨hq.1, Nat.lt_of_lt_of_le hq.2.1 hg3.size, hq.2.2⟩, fun o => cell_of_heap (hg3.block q hq.2.1 (fun e => hq.2.2 e.symm)) o⟩) hrows.out.rev)
        have HO3 := Lib.hid ho3
        have HCL := Lib.hid (clone_any (htc.out _ HB3.out))
        clear ho3 hg3
        go_wp2_with fail
        refine (HCL.out).mono ?_
        rintro e w4 ⟨hb4, A4, n4, c4, rfl, ht4⟩
        have HB4 := Lib.hid (HB3.out.trans (hb4.mono HB3.out.size))
        have HO4 := Lib.hid (own_below HO3.out hb4)
        have HR4 := Lib.hid (RowsC.keep (S' := Aside w.heap.size w4 (.slice B j d)) (w' := w4) (fun q hq => ⟨⟨hq.1, Nat.lt_of_lt_of_le hq.2.1 hb4.size, hq.2.2⟩, fun o => hb4.cell (p := ⟨q, o, none⟩) hq.2.1⟩) HR3.out)
        have HT4 : RowKit.Hid (TermV w4 A4 n4 c4 tc) := Lib.hid (ht4.keep fun q hq => ⟨hq.2, fun _ => rfl⟩)
        clear hb4 ht4
        go_wp2_with fail
        go_ret2
        rw [HE.out]
        exact ⟨HB4.out, A4, n4, c4, B, j, d, rfl, HT4.out, own_rows HO4.out (by have := hrows.out.len; have := hown.out.1; simp; omega) (by omega) HR4.out (fun q hq => hq.2.1), own_nul HO4.out⟩
  · have HQ : RowKit.Hid (spineR t = ([], [])) := Lib.hid (by unfold spineR; rw [if_neg hs])
    have hz : (shapeI t != 0) = true := by simpa using hs
    generalize shapeI t = z at *
    clear hs h
    go_enter Try.func34, Try.ntmps34
    go_wp2_with fail
    refine (HSH.out).mono ?_
    rintro e w2 ⟨rfl, hb2⟩
    have HB2 := Lib.hid hb2
    clear hb2
    go_wp2_with fail
    go_ret2
    rw [HQ.out]
    exact ⟨HB2.out, none, 0, 0, none, 0, 0, rfl, TermV.nil _, ⟨rfl, by decide, fun h => absurd h (by decide)⟩, fun _ => rfl⟩

end Go.Proofs.Ytnmeglbamfjcgaa
