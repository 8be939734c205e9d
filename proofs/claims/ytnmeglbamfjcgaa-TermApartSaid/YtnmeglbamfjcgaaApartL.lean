/- TermApart: plain laws; the law, walked. -/
import Derived.Test.YtnmeglbamfjcgaaKids
import Derived.Test.YtnmeglbamfjcgaaSpines1
import Derived.Test.YtnmeglbamfjcgaaFold
import Derived.Test.YtnmeglbamfjcgaaAwake
import Derived.Test.YtnmeglbamfjcgaaLaw0
namespace Go.Proofs.Ytnmeglbamfjcgaa
open Go.RowKit

theorem own_cap {w : World} {base n c : Nat} {A : Option Addr} {e : TypeId} {z : Nat} {xs : List Value} (h : w.ownsRow base e z (.slice A n c) n xs) : n ≤ c := by
  rcases h.2 with ⟨hv, h2⟩ | ⟨g, cap, cur, hv, _, _, h1, _⟩
  · omega
  · injection hv with _ _ e3
    omega
def KidsPost (ls : List (List Nd)) (w : World) (e : Ending) (w' : World) : Prop := Below w.heap.size w w' ∧ ∃ A n c, e = .returned (.slice A n c) ∧ n ≤ c ∧ RowsR (· < w'.heap.size) w' A n c ls

set_option linter.unusedSimpArgs false in
set_option maxRecDepth 100000 in
set_option maxHeartbeats 4000000 in
theorem kids5_any {A : Option Addr} {nn c : Nat} {l : List Nd} {w : World} (h : TermV w A nn c l) :
    Calls Try.prog 29 #[.slice A nn c] w (KidsPost (rowsL (topOf l).2) w) := by
  by_cases hs : shapeI l = 0
  · obtain ⟨_, n, ats, k, hpp, hrow, hfs⟩ := shape_ok hs
    have htop : topOf l = (n, k) := by
      unfold topOf
      rw [if_pos hs, hpp]
    have hfl : flen k ≤ 4096 := by have := flen_le_fsize k; omega
    have HTOP := Lib.hid htop
    have hsh := shape_any h
    rw [hs] at hsh
    have hparts : ∀ w2, Below w.heap.size w w2 → Calls Try.prog 61 #[.slice A nn c] w2 (PartsPost n k w2) := fun w2 hb => parts_any (h.below hb) hs hpp
    have HSH := Lib.hid hsh
    have HPARTS := Lib.hid hparts
    clear hsh hparts htop hs hpp hrow h
    go_enter Try.func29, Try.ntmps29
    go_wp2_with fail
    refine (HSH.out).mono ?_
    rintro e w2 ⟨rfl, hb2⟩
    have HB2 := Lib.hid hb2
    clear hb2
    go_wp2_with fail
    refine (HPARTS.out _ HB2.out).mono ?_
    rintro e w3 ⟨hb3, A1, k1, A2, k2, xs1, rfl, ho1, ho2, hr⟩
    have HB3 := Lib.hid hb3
    have HO1 := Lib.hid ho1
    have HR := Lib.hid hr
    clear hb3 ho1 ho2 hr
    go_wp2_with fail
    go_loopw [16] (fun i wr => ∃ (F1 F2 : Fo) (j : Nat) (xa xb : List Value), RowKit.Hid (k = F1.app F2) ∧ RowKit.Hid (flen F1 = j) ∧ i = .int .i64 (j : Int) ∧ RowKit.Hid (wr.ownsRow (w2.heap.size + 5) 23 1 (.slice A1 (flen k) k1) (flen k) (xa ++ xb)) ∧
      RowKit.Hid (RowsC (Aside (w2.heap.size + 5) wr (.slice A1 (flen k) k1)) wr xa (rowsL F1)) ∧ RowKit.Hid (RowsC (· < w2.heap.size) w2 xb (rowsL F2)) ∧ RowKit.Hid (Below w2.heap.size w2 wr)) (fun i _ => flen k - (intOf i).toNat)
    case atStart => exact ⟨.nil, k, 0, [], xs1, Lib.hid rfl, Lib.hid rfl, rfl, HO1, Lib.hid trivial, HR, HB3⟩
    case round =>
      obtain ⟨F1, F2, j, xa, xb, hk, hj, rfl, hown, hra, hrb, hbw⟩ := hrel
      cases F2 with
      | nil =>
        have hkf : k = F1 := hk.out.trans (app_nil F1)
        have hjn : ¬ j < flen k := by rw [hkf, hj.out]; omega
        have HKF := Lib.hid hkf
        clear hkf
        match xb, hrb with
        | _ :: _, hrb => exact hrb.out.elim
        | [], hrb =>
        go_wp2_with fail
        go_ret
        rw [HTOP.out]
        refine ⟨HB2.out.trans (hbw.out.mono HB2.out.size), _, _, _, rfl, own_cap hown.out, own_rows hown.out (by rw [rowsL_len]) (by omega) (ls := rowsL k) (S := Aside (w2.heap.size + 5) wr (.slice A1 (flen k) k1)) ?_ (fun b hb => hb.2.1)⟩
        rw [List.append_nil]
        have := hra.out
        rwa [← HKF.out] at this
      | cons pre nd a ks F3 =>
        have hjn : j < flen k := by rw [hk.out, flen_app, hj.out]; simp [flen]
        match xb, hrb with
        | [], hrb => exact hrb.out.elim
        | x :: xb, hrb =>
        obtain ⟨⟨A', n', c', rfl, ht⟩, hrb2⟩ := hrb.out
        obtain ⟨_, hcase⟩ := hown.out
        rcases hcase with ⟨_, h2⟩ | ⟨g, cap', cur, hv, hg, hh, _⟩
        · omega
        injection hv with e1 e2 e3
        subst e1
        subst e3
        clear e2
        have hxa : xa.length = j := by rw [hra.out.len, rowsL_len, hj.out]
        have hblk : Blk wr g 23 cur := hh
        have hcell : wr.cell? ⟨g, j, none⟩ = some (.slice A' n' c') := by
          have := hown.out.cellAt (g := g) j (by omega)
          rw [this, List.getElem?_append_right (by omega), hxa, Nat.sub_self]
          rfl
        have HCLONE := Lib.hid (clone_any (ht.keep (R' := (· < wr.heap.size)) (w' := wr) fun b hb => ⟨Nat.lt_of_lt_of_le hb hbw.out.size, fun o => cell_of_heap (hbw.out.block b hb) o⟩))
        have HG := Lib.hid hg
        have HBLK := Lib.hid hblk
        have HT := Lib.hid ht
        have HRB2 := Lib.hid hrb2
        have HXA := Lib.hid hxa
        clear hg hh hblk ht hrb2 hxa
        go_wp2_with fail
        refine (HCLONE.out).mono ?_
        rintro e w4 ⟨hb4, A4, n4, c4, rfl, ht4⟩
        have hblk4 : Blk w4 g 23 cur := HBLK.out.below hb4 HBLK.out.lt
        have hcell4 : w4.cell? ⟨g, j, none⟩ = some (.slice A' n' c') := (cell_of_heap (hb4.block g HBLK.out.lt) j).trans hcell
        have hfz4 := hblk4.frozen
        have HB4 := Lib.hid hb4
        have HT4 := Lib.hid ht4
        have HZ := Lib.hid (HBLK.out.lt)
        clear hb4 ht4 hcell hblk4
        go_wp2_with fail
        go_roundw
        case rel =>
          have hown4 := own_set (own_below hown.out HB4.out) j (.slice A4 n4 c4)
          rw [List.set_append_right _ _ (by have := HXA.out; omega), HXA.out, Nat.sub_self, List.set_cons_zero] at hown4
          have hsz : wr.heap.size ≤ w4.heap.size := HB4.out.size
          have hcW : ∀ b, b ≠ g → ∀ o, (w4.setCell ⟨g, j, none⟩ (.slice A4 n4 c4)).cell? ⟨b, o, none⟩ = w4.cell? ⟨b, o, none⟩ := fun b hb o => cell_of_heap (Below.heap_setCell _ _ _ _ hb) o
          have hszW : (w4.setCell ⟨g, j, none⟩ (.slice A4 n4 c4)).heap.size = w4.heap.size := by simp [World.setCell]
          have hgo : (Value.slice (some ⟨g, 0, none⟩) (flen k) k1).ownBlock = some g := rfl
          have hs2 := hbw.out.size
          refine ⟨F1.app (.cons pre nd a ks .nil), F3, j + 1, xa ++ [.slice A4 n4 c4], xb, Lib.hid (by rw [hk.out, app_assoc]; rfl), Lib.hid (by rw [flen_app, hj.out]; rfl), by go_num, Lib.hid ?_, Lib.hid ?_, HRB2, Lib.hid ?_⟩
          · rw [List.append_assoc]; exact hown4
          · rw [rowsL_add]
            refine RowsC.add (HT4.out.keep fun b hb => ?_) (hra.out.keep fun b hb => ?_)
            · obtain ⟨q1, q2⟩ := hb
              have hgz := HZ.out
              have hgb := HG.out
              have hne : b ≠ g := by omega
              exact ⟨⟨by omega, by rw [hszW]; exact q2, by rw [hgo]; intro e; injection e with e; exact hne e.symm⟩, hcW b hne⟩
            · obtain ⟨q1, q2, q3⟩ := hb
              have hne : b ≠ g := fun e => q3 (by rw [hgo, e])
              refine ⟨⟨q1, by rw [hszW]; omega, q3⟩, fun o => ?_⟩
              rw [hcW b hne o]
              exact cell_of_heap (HB4.out.block b q2) o
          · have := HG.out
            exact (hbw.out.trans (HB4.out.mono hs2)).setCell (by simp; omega) _
        case measure => simp [intOf]; omega
  · have htop : topOf l = (⟨0, 0, 0⟩, .nil) := by
      unfold topOf
      rw [if_neg hs]
    have HTOP := Lib.hid htop
    have hsb : (shapeI l != 0) = true := by simpa using hs
    have HSH := Lib.hid (shape_any h)
    clear htop hs h
    go_enter Try.func29, Try.ntmps29
    go_wp2_with fail
    refine (HSH.out).mono ?_
    rintro e w2 ⟨rfl, hb2⟩
    have HB2 := Lib.hid hb2
    clear hb2
    go_wp2_with fail
    go_ret
    rw [HTOP.out]
    exact ⟨HB2.out, none, 0, 0, rfl, Nat.le_refl _, rfl, by decide, fun h => absurd h (by decide)⟩

/-- Every kid of a right term is a right term, and all together are shorter than it. -/
theorem kids_right : ∀ (F : Fo) (dl : List Bool), Wf dl F → (row F).length ≤ 4096 → (∀ r ∈ rowsL F, shapeI r = 0) ∧ (rowsL F).flatten.length ≤ (row F).length
  | .nil, _, _, _ => ⟨fun r hr => (by cases hr), Nat.le_refl _⟩
  | .cons p n a k x, [], h, _ => h.elim
  | .cons p n a k x, d :: dr, h, hl => by
    obtain ⟨_, h1, h2, h3, h4⟩ := h
    simp only [row, List.length_append, List.length_cons] at hl
    obtain ⟨e1, e2⟩ := kids_right x dr h4 (by omega)
    have hr := rt_make h1 h2 h3 (by simp only [List.length_cons, List.length_append]; omega)
    have hrow : row (.cons [] n a k .nil) = n :: (a ++ row k) := by simp [row]
    refine ⟨fun r hm => ?_, ?_⟩
    · simp only [rowsL, List.mem_cons] at hm
      rcases hm with rfl | hm
      · rw [hrow]; exact hr.shape
      · exact e1 r hm
    · simp only [rowsL, List.flatten_cons, List.length_append]
      rw [hrow]
      simp only [row, List.length_cons, List.length_append]
      omega
theorem ar_bd {n : Nd} (h : okN n = true) : ∀ (F : Fo) (j : Nat), ∀ z ∈ arL n.op n.b j F, 0 ≤ z ∧ z ≤ 4
  | .nil, _ => fun z hz => by cases hz
  | .cons p nd a k x, j => fun z hz => by
    simp only [arL, List.mem_cons] at hz
    rcases hz with rfl | hz
    · exact aroundI_bd h j
    · exact ar_bd h x (j + 1) z hz
theorem apply_spine {t : List Nd} {n : Nd} {a : List Nd} {k : Fo} (h : Rt t n a k) : applyR (spineR t).1 (spineR t).2 = (t, 0) ∧ (nth (spineR t).1 0).op ≠ 6 ∧ (spineR t).1 ≠ [] := by
  have hs : spineR t = spT t.length t n k := by unfold spineR; rw [if_pos h.shape, rt_top h]
  obtain ⟨e1, e2, e3, e4, e5⟩ := spT_back t.length t n a k h (Nat.le_refl _)
  rw [hs]
  refine ⟨?_, e4, e5⟩
  have hl := congrArg List.length e1
  simp only [List.length_append, List.length_replicate] at hl
  have := h.few
  unfold applyR
  rw [if_neg (by rw [e2]; decide), if_neg (by rw [e3]; decide), if_neg (by omega), ← e1]
/-- A product or a function over a domain is put together of its two kids. -/
theorem bind_kids {t : List Nd} {n : Nd} {a : List Nd} {k : Fo} (h : Rt t n a k) (hop : n.op = 4 ∨ n.op = 5) : ∃ r1 r2, rowsL k = [r1, r2] ∧ bindR n.op [r1] r2 = (t, 0) := by
  obtain ⟨hok, hat, hw⟩ := h.wf
  have hrow := h.eq
  have hn : n = ⟨n.op, 0, 0⟩ := by
    obtain ⟨op, x, y⟩ := n
    simp only at hop
    simp only [okN, Bool.and_eq_true] at hok
    have h1 := plainB_iff.1 hok.1.1
    obtain ⟨rfl, rfl⟩ : x = 0 ∧ y = 0 := by omega
    rfl
  have ha : a = [] := by
    unfold AtOk at hat
    rwa [if_neg (by omega)] at hat
  have hds : ds n = [false, false] := by rw [hn]; rcases hop with h4 | h4 <;> rw [h4] <;> rfl
  rw [hds] at hw
  match k, hw with
  | .cons p1 n1 a1 k1 (.cons p2 n2 a2 k2 .nil), hw =>
    obtain ⟨hp1, o1, t1, w1, hp2, o2, t2, w2, _⟩ := hw
    simp only at hp1 hp2
    subst hp1 hp2
    have hl := h.few
    rw [hrow, ha] at hl
    simp only [row, List.length_cons, List.length_append, List.nil_append, List.length_nil] at hl
    have f1 := rt_make o1 t1 w1 (by simp only [List.length_cons, List.length_append]; omega)
    have f2 := rt_make o2 t2 w2 (by simp only [List.length_cons, List.length_append]; omega)
    refine ⟨n1 :: (a1 ++ row k1), n2 :: (a2 ++ row k2), by simp [rowsL, row], ?_⟩
    unfold bindR
    rw [if_neg (by omega), if_neg (by simp [firstBad, f1.shape]), if_neg (by rw [f2.shape]; decide), if_neg (by simp [bindL]; omega)]
    have : bindL n.op [n1 :: (a1 ++ row k1)] ++ (n2 :: (a2 ++ row k2)) = t := by
      rw [hrow, ha]
      conv => rhs; rw [hn]
      simp [bindL, row]
    rw [this]

theorem RowsR.below {w w' : World} {A : Option Addr} {n c : Nat} {ls : List (List Nd)} (h : RowsR (· < w.heap.size) w A n c ls) (hb : Below w.heap.size w w') : RowsR (· < w'.heap.size) w' A n c ls :=
  h.keep fun b hb' => ⟨Nat.lt_of_lt_of_le hb' hb.size, fun o => hb.cell (p := ⟨b, o, none⟩) hb'⟩
theorem IntsR.below {w w' : World} {A : Option Addr} {n c : Nat} {zs : List Int} (h : IntsR (· < w.heap.size) w A n c zs) (hb : Below w.heap.size w w') : IntsR (· < w'.heap.size) w' A n c zs :=
  h.keep fun b hb' => ⟨Nat.lt_of_lt_of_le hb' hb.size, fun o => hb.cell (p := ⟨b, o, none⟩) hb'⟩
theorem ret_true {w w' : World} (hb : Below w.heap.size w w') : BoolPost true w (.returned (.bool true)) w' := ⟨rfl, hb⟩

theorem ret_dec {w w' : World} {p : Prop} [Decidable p] (hp : p) (hb : Below w.heap.size w w') : BoolPost true w (.returned (.bool (decide p))) w' := ⟨by rw [decide_eq_true hp], hb⟩

set_option linter.unusedSimpArgs false in
set_option maxRecDepth 100000 in
set_option maxHeartbeats 8000000 in
theorem apart_law {A : Option Addr} {nn c : Nat} {t : List Nd} {w : World} (ht : TermV w A nn c t) :
    Calls Try.prog 11 #[.slice A nn c] w (BoolPost true w) := by
  have HT := Lib.hid ht
  have hfw := ht.few
  clear ht
  by_cases h1 : 4096 < nn
  · have h1b : decide ((nn : Int) > 4096) = true := decide_eq_true (by omega)
    clear h1
    go_enter Try.func11, Try.ntmps11
    go_wp2_with (go_at_call 13; refine (awake_any).mono ?_; rintro e w2 ⟨rfl, hb2⟩)
    go_ret
    exact ret_true hb2
  have h1b : decide ((nn : Int) > 4096) = false := decide_eq_false (by omega)
  by_cases hs : shapeI t = 0
  rotate_left
  · have hz : (shapeI t != 0) = true := by simpa using hs
    have HSH := Lib.hid (fun w2 (h : Below w.heap.size w w2) => shape_any (HT.out.below h))
    generalize shapeI t = z at *
    clear h1 hs
    go_enter Try.func11, Try.ntmps11
    go_wp2_with (go_at_call 13; refine (awake_any).mono ?_; rintro e w2 ⟨rfl, hb2⟩)
    refine (HSH.out _ hb2).mono ?_
    rintro e w3 ⟨rfl, hb3⟩
    have HB3 := Lib.hid (hb2.trans (hb3.mono hb2.size))
    clear hb2 hb3
    go_wp2_with fail
    go_ret
    exact ret_true HB3.out
  obtain ⟨n0, a0, k0, hrt⟩ := rt_of hs
  obtain ⟨hap, hop6, hfne⟩ := apply_spine hrt
  obtain ⟨F, L, hFL⟩ : ∃ F L, spineR t = (F, L) := ⟨_, _, rfl⟩
  rw [hFL] at hap hop6 hfne
  simp only at hap hop6 hfne
  have HRT := Lib.hid hrt
  have HAP := Lib.hid hap
  have HOP6 := Lib.hid hop6
  have HFNE := Lib.hid hfne
  have HSH : RowKit.Hid (∀ w2, Below w.heap.size w w2 → Calls Try.prog 19 #[.slice A nn c] w2 (IntPost 0 w2)) := Lib.hid (fun w2 h => by have := shape_any (HT.out.below h); rwa [hs] at this)
  have HSP : RowKit.Hid (∀ w2, Below w.heap.size w w2 → Calls Try.prog 34 #[.slice A nn c] w2 (SpinePost (F, L) w2)) := Lib.hid (fun w2 h => by have := spine_any (HT.out.below h); rwa [hFL] at this)
  clear hrt hap hop6 hfne hFL hs h1
  go_enter Try.func11, Try.ntmps11
  go_wp2_with (go_at_call 13; refine (awake_any).mono ?_; rintro e w2 ⟨rfl, hb2⟩)
  refine (HSH.out _ hb2).mono ?_
  rintro e w3 ⟨rfl, hb3⟩
  have HB3 := Lib.hid (hb2.trans (hb3.mono hb2.size))
  clear hb2 hb3
  go_wp2_with fail
  refine (HSP.out _ HB3.out).mono ?_
  rintro e w4 ⟨hb4, Af, nf, cf, Bl, m, d, rfl, htf, hrl, hnul⟩
  have HB4 := Lib.hid (HB3.out.trans (hb4.mono HB3.out.size))
  have HF := Lib.hid htf
  have HAPP := Lib.hid (apply_any htf hrl hnul)
  rw [HAP.out] at HAPP
  clear hb4 htf hrl hnul
  go_wp2_with fail
  refine (HAPP.out).mono ?_
  rintro e w5 ⟨hb5, Ax, nx, cx, rfl, htx⟩
  have HB5 := Lib.hid (HB4.out.trans (hb5.mono HB4.out.size))
  have HF5 := Lib.hid (HF.out.below hb5)
  have HSAME := Lib.hid (same_any w5 (htx.keep (R' := (· < w5.heap.size)) fun b hb => ⟨hb.2, fun _ => rfl⟩) (HT.out.below HB5.out))
  rw [decide_eq_true rfl] at HSAME
  clear hb5 htx
  go_wp2_with fail
  refine (HSAME.out).mono ?_
  rintro e w6 ⟨rfl, q, hw6⟩
  have HB6 : RowKit.Hid (Below w.heap.size w w6) := Lib.hid (by rw [hw6]; exact below_drewN HB5.out q)
  have hf6 : TermV w6 Af nf cf F := by rw [hw6]; exact TermV.drewN HF5.out q
  have hnf : 0 < nf := by
    have h2 := List.length_pos_iff.2 HFNE.out
    rw [← hf6.len]; exact h2
  obtain ⟨b, off, rfl, hb, hc0, _, _⟩ := hf6.at_ hnf
  rw [Nat.zero_mul, Nat.add_zero] at hc0
  have hfo : ((nth F 0).op == 6) = false := by have := HOP6.out; simpa using this
  generalize (nth F 0).op = fo at hc0 hfo
  have hnf0 : ((nf : Int) == 0) = false := beq_eq_false_iff_ne.2 (by omega)
  have HKIDS := Lib.hid (kids5_any (HT.out.below HB6.out))
  have HBIND := Lib.hid (fun w2 (h : Below w.heap.size w w2) => binders4_any (HT.out.below h))
  clear hw6 hf6 hb
  dsimp only
  go_wp2_with fail
  refine (HKIDS.out).mono ?_
  rintro e w7 ⟨hb7, Ak, nk, ck, rfl, hkc, hkr⟩
  have HB7 := Lib.hid (HB6.out.trans (hb7.mono HB6.out.size))
  have HKR := Lib.hid hkr
  clear hb7 hkr
  go_wp2_with fail
  refine (HBIND.out _ HB7.out).mono ?_
  rintro e w8 ⟨hb8, Ai, ni, ci, rfl, hir⟩
  have HB8 := Lib.hid (HB7.out.trans (hb8.mono HB7.out.size))
  have hkr8 := HKR.out.below hb8
  have htop := rt_top HRT.out
  rw [htop] at hkr8 hir
  simp only at hkr8 hir
  have hni : ni = nk := by rw [← hir.len, ← hkr8.len, arL_len, rowsL_len]
  subst hni
  obtain ⟨hk1, hk2⟩ := kids_right k0 _ HRT.out.wf.2.2 (by have := HRT.out.few; rw [HRT.out.eq] at this; simp only [List.length_cons, List.length_append] at this; omega)
  have har := ar_bd HRT.out.wf.1 k0 0
  have htl : (row k0).length < nn := by
    have h2 := HT.out.len
    rw [HRT.out.eq] at h2
    simp only [List.length_cons, List.length_append] at h2
    omega
  have HK1 := Lib.hid hk1
  have HAR := Lib.hid har
  have hKL := hkr8.len
  have HKR8 := Lib.hid hkr8
  have HIR8 := Lib.hid hir
  have HBK := Lib.hid (bind_kids HRT.out)
  obtain ⟨ks, hks⟩ : ∃ ks, ks = rowsL k0 := ⟨_, rfl⟩
  obtain ⟨zs, hzs⟩ : ∃ zs, zs = arL n0.op n0.b 0 k0 := ⟨_, rfl⟩
  rw [← hks] at HK1 hk2 HKR8 HBK hKL
  rw [← hzs] at HAR HIR8
  have hfk := HKR8.out.few
  clear hb8 hkr8 hir htop hk1 har hks hzs HKR
  go_wp2_with fail
  have htnn : (nth t 0) = n0 := by rw [HRT.out.eq]; rfl
  have HTN := Lib.hid htnn
  have hnn0 : 0 < nn := by omega
  clear htnn
  go_loopw [9, 10] (fun sv iv wr => ∃ i : Nat, i ≤ ni ∧ iv = .int .i64 (i : Int) ∧ sv = .int .i64 (((ks.take i).flatten.length : Nat) : Int) ∧ RowKit.Hid (Below w8.heap.size w8 wr)) (fun _ i _ => ni - (intOf i).toNat)
  case atStart => exact ⟨0, by omega, rfl, by simp, Lib.hid (Below.refl _ _)⟩
  case round =>
    obtain ⟨i, hi, rfl, rfl, hbw⟩ := hrel
    have hbs := hbw.out.size
    by_cases hlt : i < ni
    · obtain ⟨b1, o1, rfl, hb1, hm1⟩ := (HKR8.out.below hbw.out).mem (by omega)
      obtain ⟨b2, o2, rfl, hb2, hm2⟩ := (HIR8.out.below hbw.out).mem (by omega)
      obtain ⟨A', n', c', hc1, ht⟩ := hm1 i hlt
      have hc2 := hm2 i hlt
      have hz : 0 ≤ zs.getD i 0 ∧ zs.getD i 0 ≤ 4 := by
        have hil : i < zs.length := by rw [HIR8.out.len]; exact hlt
        rw [List.getD_eq_getElem?_getD, List.getElem?_eq_getElem hil]
        exact HAR.out _ (List.getElem_mem hil)
      have hsh := HK1.out (ks.getD i []) (by
        have hil : i < ks.length := by rw [HKR8.out.len]; exact hlt
        rw [List.getD_eq_getElem?_getD, List.getElem?_eq_getElem hil]
        exact List.getElem_mem hil)
      have hS := shape_any ht
      rw [hsh] at hS
      have HS := Lib.hid hS
      have hft := flat_take ks (by rw [HKR8.out.len]; exact hlt) []
      have hle := flat_take_le ks (i + 1)
      rw [hft, List.length_append, ht.len] at hle
      have HFT : RowKit.Hid ((ks.take (i + 1)).flatten.length = (ks.take i).flatten.length + n') := Lib.hid (by rw [hft, List.length_append, ht.len])
      generalize zs.getD i 0 = z at *
      have hz0 : decide (z < 0) = false := decide_eq_false (by omega)
      have hz4 : decide (z > 4) = false := decide_eq_false (by omega)
      obtain ⟨sz, hsz⟩ : ∃ sz, sz = (ks.take i).flatten.length := ⟨_, rfl⟩
      rw [← hsz] at HFT hle
      rw [← hsz]
      have hfl : ks.flatten.length ≤ 5000 := by
        have := HT.out.len
        have h3 := HRT.out.few
        omega
      clear hm1 hm2 ht hsh hS hft hsz hz
      go_wp2_with fail
      refine (HS.out).mono ?_
      rintro e w9 ⟨rfl, hb9⟩
      have hc1' : w9.cell? ⟨b1, o1 + i, none⟩ = some (.slice A' n' c') := (hb9.cell (p := ⟨b1, o1 + i, none⟩) hb1).trans hc1
      have hc2' : w9.cell? ⟨b2, o2 + i, none⟩ = some (.int .i64 z) := (hb9.cell (p := ⟨b2, o2 + i, none⟩) hb2).trans hc2
      have HB9 := Lib.hid (hbw.out.trans (hb9.mono hbs))
      clear hb9 hc1 hc2
      go_wp2_with fail
      go_roundw
      case rel => exact ⟨i + 1, by omega, by go_num, by rw [HFT.out]; go_num, HB9⟩
      case measure => simp [intOf]; omega
    · have hie : i = ni := by omega
      have HFA : RowKit.Hid ((ks.take i).flatten = ks.flatten) := Lib.hid (by rw [List.take_of_length_le (by rw [HKR8.out.len]; omega)])
      rw [HFA.out]
      have HBW := Lib.hid (HB8.out.trans (hbw.out.mono HB8.out.size))
      obtain ⟨bt, ot, rfl, hbt, ht0, _, _⟩ := (HT.out.below HBW.out).at_ hnn0
      rw [Nat.zero_mul, Nat.add_zero, HTN.out] at ht0
      have hend : ks.flatten.length < nn := by omega
      have HNR := HKR8.out.below hbw.out
      generalize ks.flatten.length = sz at *
      clear hie
      by_cases hop : n0.op = 4 ∨ n0.op = 5
      · obtain ⟨r1, r2, hks, hbd⟩ := HBK.out hop
        subst hks
        obtain rfl : 2 = ni := hKL
        obtain ⟨bk, ok, rfl, hbk, hm⟩ := HNR.mem (by omega)
        obtain ⟨A1', n1', c1', hc1, ht1⟩ := hm 0 (by omega)
        obtain ⟨A2', n2', c2', hc2, ht2⟩ := hm 1 (by omega)
        rw [show ([r1, r2] : List (List Nd)).getD 0 [] = r1 from rfl] at ht1
        rw [show ([r1, r2] : List (List Nd)).getD 1 [] = r2 from rfl] at ht2
        have hsl : ∀ w, (Instr.slice 41 (.slice (some ⟨bk, ok, none⟩) 2 ck) none (some (.int .i64 1)) none).run Try.prog w = .ok (.slice (some ⟨bk, ok, none⟩) 1 ck) w := fun w => by
          go_simp
          intro h
          omega
        have HB1 := Lib.hid (bind_any (w := wr.drew) (op := n0.op) (TermV.drewN ht2 1) (show RowsR (· < wr.drew.heap.size) wr.drew (some ⟨bk, ok, none⟩) 1 ck [r1] from ⟨rfl, by omega, fun _ => ⟨bk, ok, rfl, hbk, fun k hk => by
          obtain rfl : k = 0 := by omega
          exact ⟨A1', n1', c1', hc1, TermV.drewN ht1 1⟩⟩⟩))
        rw [hbd] at HB1
        clear hm hc1 ht1 ht2 hbd HNR
        rcases hop with hop | hop
        case' inl =>
          have h4 : (n0.op == 4) = true := by simp [hop]
        case' inr =>
          have h4 : (n0.op == 4) = false := by simp [hop]
          have h5 : (n0.op == 5) = true := by simp [hop]
        all_goals
          clear hop
          generalize n0.op = op at *
          go_wp2_with fail
          go_region_held3 (fun w' => w'.cell? ⟨bt, ot, none⟩ = some (.int .i64 op) ∧ w'.cell? ⟨bk, ok + 1, none⟩ = some (.slice A2' n2' c2')) (first | exact ⟨ht0, hc2⟩ | exact ⟨(hb10.cell (p := ⟨bt, ot, none⟩) hbt).trans ht0, (hb10.cell (p := ⟨bk, ok + 1, none⟩) hbk).trans hc2⟩)
            (first
              | (go_at_call 38; refine (HB1.out).mono ?_; rintro e w10 ⟨hb10, Ay, ny, cy, rfl, hty⟩))
          have HB10 := Lib.hid ((below_drewN HBW.out 1).trans (hb10.mono HBW.out.size))
          have HSM := Lib.hid (same_any w10 (hty.keep (R' := (· < w10.heap.size)) fun b hb => ⟨hb.2, fun _ => rfl⟩) (HT.out.below HB10.out))
          rw [decide_eq_true rfl] at HSM
          clear hb10 hty
          go_wp2_with fail
          refine (HSM.out).mono ?_
          rintro e w11 ⟨rfl, q2, hw11⟩
          have HB11 : RowKit.Hid (Below w.heap.size w w11) := Lib.hid (by rw [hw11]; exact below_drewN HB10.out q2)
          clear hw11
          dsimp only
          go_wp2_with fail
          go_ret
          exact ret_true HB11.out
      · have h4 : (n0.op == 4) = false := by simp; omega
        have h5 : (n0.op == 5) = false := by simp; omega
        generalize n0.op = op at *
        go_wp2_with fail
        go_ret
        exact ret_true HBW.out

end Go.Proofs.Ytnmeglbamfjcgaa
