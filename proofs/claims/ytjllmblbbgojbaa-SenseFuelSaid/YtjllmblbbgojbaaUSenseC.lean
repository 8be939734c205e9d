/- sense: words for an evaluator in memory; slices.Clone at rows; given. -/
import Derived.Test.YtjllmblbbgojbaaUSenseV
import Derived.Test.YtjllmblbbgojbaaUSenseU
import Derived.Test.YtjllmblbbgojbaaUSenseF
import Derived.Test.YtjllmblbbgojbaaUBooks
namespace Go.Proofs.Ytjllmblbbgojbaa
open Go.Lib (hid)
open Go.RowKit
structure EvW (w0 : World) (g : Nat) (v : BkVal) (b : Bk) (f : Nat) (w : World) : Prop where
 bel : Below w0.heap.size w0 w
 blk : Blk w g 80 #[.int .i64 b.vars, .slice v.Ao v.no v.co, .slice v.Ae v.ne v.ce, .int .i64 b.nat, .slice v.Ap v.np v.cp, .int .i64 (f : Int)]
 ge : w0.heap.size ≤ g
abbrev RG (g : Nat) (w : World) (q : Nat) : Prop := q < w.heap.size ∧ q ≠ g
abbrev TermG (g : Nat) (w : World) (A : Option Addr) (n c : Nat) (l : List Nd) : Prop := TermR (RG g w) w A n c l
def EvP (w0 : World) (g : Nat) (v : BkVal) (b : Bk) (w : World) (r : RV) (e : Ending) (w' : World) : Prop := Moved (fun q => q = g) none w w' ∧ match r with
 | .ok y f' => ∃ A n c, e = .returned (.slice A n c) ∧ EvW w0 g v b f' w' ∧ TermG g w' A n c (rowT y)
 | .er z => e = .panicked (FailP z)
section
variable {w0 w w' w1 : World} {g f n c : Nat} {v : BkVal} {b : Bk} {A : Option Addr} {l : List Nd} {r : RV} {e : Ending}
theorem EvW.lt (h : EvW w0 g v b f w) : g < w.heap.size := h.blk.lt
theorem EvW.below (h : EvW w0 g v b f w) (hb : Below w.heap.size w w') : EvW w0 g v b f w' := ⟨h.bel.trans (hb.mono h.bel.size), h.blk.below hb h.blk.lt, h.ge⟩
theorem EvW.drew (h : EvW w0 g v b f w) : EvW w0 g v b f w.drew := ⟨below_drewN h.bel 1, h.blk.drewN 1, h.ge⟩
theorem EvP.of (h : EvP w0 g v b w1 r e w') (hm : Moved (fun q => q = g) none w w1) : EvP w0 g v b w r e w' := ⟨hm.trans h.1 (fun _ e => by cases e), h.2⟩
theorem TermR.gv (h : TermG g w A n c l) : TermV w A n c l := h.keep fun _ hq => ⟨hq.1, fun _ => rfl⟩
theorem TermR.movedG (h : TermG g w A n c l) (hm : Moved (fun q => q = g) none w w') : TermG g w' A n c l := h.keep fun q hq => ⟨⟨Nat.lt_of_lt_of_le hq.1 hm.size, hq.2⟩, fun o => cell_of_heap (hm.block _ hq.1 hq.2 (by simp)) o⟩
theorem TermR.belowG (h : TermG g w A n c l) (hb : Below w.heap.size w w') : TermG g w' A n c l := h.movedG (Moved.of_below hb)
theorem RowsR.movedG {ls : List (List Nd)} (h : RowsR (RG g w) w A n c ls) (hm : Moved (fun q => q = g) none w w') : RowsR (RG g w') w' A n c ls := h.keep fun q hq => ⟨⟨Nat.lt_of_lt_of_le hq.1 hm.size, hq.2⟩, fun o => cell_of_heap (hm.block _ hq.1 hq.2 (by simp)) o⟩
theorem own_G {B : Nat} (h : OwnN w' B (.slice A n c) l) (hg : g < B) (hl : l.length ≤ 5864062014805) : TermG g w' A n c l := by
 obtain ⟨_, _, e0⟩ := h.slice
 injection e0 with _ e2
 subst e2
 obtain ⟨Aq, nq, cq, e, hq⟩ := OwnN.termS h hl
 injection e with e1 e2 e3
 subst e1 e2 e3
 exact hq.keep fun q hq => ⟨⟨(ownsRow_block h hq).2.1, by have := (ownsRow_block h hq).1; omega⟩, fun _ => rfl⟩
theorem EvW.fuel (h : EvW w0 g v b f w) (f' : Nat) : EvW w0 g v b f' (w.setCell ⟨g, 5, none⟩ (.int .i64 (f' : Int))) ∧ Moved (fun q => q = g) none w (w.setCell ⟨g, 5, none⟩ (.int .i64 (f' : Int))) := by
 have hg := grown_setv w g 5 (.int .i64 (f' : Int))
 have hl := h.lt
 have hs := h.bel.size
 have hge := h.ge
 exact ⟨⟨h.bel.grown hg (by omega) (fun q e => by injection e with e; omega), by simpa using h.blk.set_ 5 (.int .i64 (f' : Int)), hge⟩, Moved.setCell (S := fun q => q = g) (Moved.refl _ _ _) (p := ⟨g, 5, none⟩) rfl _⟩
end
def EvH (w0 : World) (g : Nat) (v : BkVal) (b : Bk) (d : Nat) : Prop := ∀ (w : World) (f : Nat) (A : Option Addr) (n c : Nat) (x : TT), f < d → f ≤ 100000 → EvW w0 g v b f w → TermG g w A n c (rowT x) → FitT b 0 x →
 Calls Try.prog 39 #[.pointer (some ⟨g, 0, none⟩), .slice A n c] w (EvP w0 g v b w (evD b d f x))
def GvH (w0 : World) (g : Nat) (v : BkVal) (b : Bk) (d : Nat) : Prop := ∀ (w : World) (f : Nat) (A : Option Addr) (n c : Nat) (B : Option Addr) (m k : Nat) (x a : TT), f < d → f ≤ 100000 → EvW w0 g v b f w → TermG g w A n c (rowT x) → TermG g w B m k (rowT a) → Okv b x → Okv b a →
 Calls Try.prog 71 #[.pointer (some ⟨g, 0, none⟩), .slice A n c, .slice B m k] w (EvP w0 g v b w (gvD b d f x a))
set_option linter.unusedSimpArgs false in
set_option linter.unusedVariables false in
set_option maxRecDepth 100000 in
set_option maxHeartbeats 4000000 in
theorem given_any {w0 : World} {g : Nat} {v : BkVal} {b : Bk} {d : Nat} (hr : rightE b = 0) (H : GvH w0 g v b d) {w : World} {f : Nat} {A : Option Addr} {n c : Nat} {B : Option Addr} {k dd : Nat} {x : TT} {L : List TT} (hf : f < d) (hf1 : f ≤ 100000) (hw : EvW w0 g v b f w) (hx : TermG g w A n c (rowT x)) (hL : RowsR (RG g w) w B k dd (L.map rowT)) (ox : Okv b x) (oL : ∀ y ∈ L, Okv b y) :
 Calls Try.prog 102 #[.pointer (some ⟨g, 0, none⟩), .slice A n c, .slice B k dd] w (EvP w0 g v b w (givens (gvD b d) L x f)) := by
 have hk : L.length = k := by have := hL.len; rwa [List.length_map] at this
 have hfew := hL.few
 have HL := hid hL
 have HK := hid hk
 have HO := hid oL
 have HH := hid H
 have HRT := hid hr
 have HX := hid hx
 have HW := hid hw
 have HOX := hid ox
 obtain ⟨res, hres⟩ : ∃ r, r = givens (gvD b d) L x f := ⟨_, rfl⟩
 have HRS := hid hres
 rw [← hres]
 clear hL hk oL H hr hx hw ox hres
 go_in
 go_wp2_with fail
 go_loopw [1, 11] (fun tv iv wr => ∃ (i f' : Nat) (y : TT) (A' : Option Addr) (n' c' : Nat), tv = .slice A' n' c' ∧ iv = .int .i64 (i : Int) ∧ i ≤ k ∧ f' ≤ f ∧ Hid (EvW w0 g v b f' wr) ∧ Hid (TermG g wr A' n' c' (rowT y)) ∧ Hid (Okv b y) ∧ Hid (res = givens (gvD b d) (L.drop i) y f') ∧ Hid (Moved (fun q => q = g) none w wr)) (fun _ iv _ => k - (intOf iv).toNat)
 case atStart => exact ⟨0, f, x, A, n, c, rfl, rfl, by omega, by omega, HW, HX, HOX, HRS, hid (Moved.refl _ _ _)⟩
 case round =>
  obtain ⟨i, f', y, A', n', c', rfl, rfl, hi, hff, hw, hy, oy, hrs, hm⟩ := hrel
  by_cases hlt : i < k
  rotate_left
  · have y1 : decide ((i : Int) < (k : Int)) = false := decide_eq_false (by omega)
    have y2 : decide (i < k) = false := decide_eq_false hlt
    have HRZ : Hid (res = .ok y f') := hid (by
     have := hrs.out
     rw [List.drop_of_length_le (by rw [HK.out]; omega)] at this
     exact this)
    clear hlt hrs
    go_wp2_with fail
    go_ret
    rw [HRZ.out]
    exact ⟨hm.out, A', n', c', rfl, hw.out, hy.out⟩
  have y1 : decide ((i : Int) < (k : Int)) = true := decide_eq_true (by omega)
  have y2 : decide (i < k) = true := decide_eq_true hlt
  have hil : i < L.length := by rw [HK.out]; exact hlt
  have hr9 := RowsR.movedG HL.out hm.out
  obtain ⟨bb, oo, hBB, hbb, hmem⟩ := hr9.mem (by omega)
  obtain ⟨A3, n3, c3, hc3, ht3⟩ := hmem i hlt
  subst hBB
  have hgd : (L.map rowT).getD i [] = rowT L[i] := by
   rw [List.getD_eq_getElem?_getD, List.getElem?_map, List.getElem?_eq_getElem hil]
   rfl
  rw [hgd] at ht3
  have hoy := HO.out L[i] (List.getElem_mem hil)
  have hdr : L.drop i = L[i] :: L.drop (i + 1) := List.drop_eq_getElem_cons hil
  obtain ⟨li, hli⟩ : ∃ y, y = L[i] := ⟨_, rfl⟩
  rw [← hli] at ht3 hoy hdr
  have HC := hid (HH.out wr f' A' n' c' A3 n3 c3 y li (by omega) (by omega) hw.out hy.out ht3 oy.out hoy)
  have hfit := (ev_fit (b := b) HRT.out d).2 f' y li
  have HRS2 := hid (by have := hrs.out; rw [hdr] at this; exact this)
  have HFT := hid (fun v1 f1 h => hfit v1 f1 oy.out hoy h)
  have hi0 : (0 : Int) ≤ (i : Int) := by omega
  have hi1 : (i : Int) < (k : Int) := by omega
  clear hr9 hmem ht3 hgd hoy hdr hfit hrs hli hil
  cases hE : gvD b d f' y li with
  | er z =>
   have HRZ : Hid (res = .er z) := hid (by have := HRS2.out; simp only [givens] at this; rw [hE] at this; exact this)
   rw [hE] at HC
   clear hE HRS2 HFT
   go_wp2_with fail
   refine (HC.out).mono ?_
   rintro e w7 ⟨hm7, he7⟩
   simp only at he7
   subst he7
   have HM7 := hid (hm.out.trans hm7 (fun _ e => by cases e))
   clear hm7
   go_wp2_with fail
   rw [HRZ.out]
   exact ⟨rfl, HM7.out, rfl⟩
  | ok u f1 =>
   have HRZ : Hid (res = givens (gvD b d) (L.drop (i + 1)) u f1) := hid (by have := HRS2.out; simp only [givens] at this; rw [hE] at this; exact this)
   have HFU := hid (HFT.out u f1 hE)
   rw [hE] at HC
   clear hE HRS2 HFT
   have hf11 := HFU.out.2
   go_wp2_with fail
   refine (HC.out).mono ?_
   rintro e w7 ⟨hm7, A7, n7, c7, rfl, hw7, ht7⟩
   have HM7 := hid (hm.out.trans hm7 (fun _ e => by cases e))
   have HW7 := hid hw7
   have HT7 := hid ht7
   clear hm7 hw7 ht7
   go_wp2_with fail
   go_roundw
   case rel => exact ⟨i + 1, f1, u, A7, n7, c7, rfl, by go_num, by omega, by omega, HW7, HT7, hid HFU.out.1, HRZ, HM7⟩
   case measure => simp [intOf]; omega
end Go.Proofs.Ytjllmblbbgojbaa
