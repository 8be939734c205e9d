/- Apply of the reference. -/
import Derived.Test.YtplecfbdchmogaaGreatVVars
import Derived.Test.YtplecfbdchmogaaGreatVRefTerm
namespace Go.Proofs.YtplecfbdchmogaaGreat
open Go.Lib (hid)
open Go.RowKit
structure RowS (o want : List Nd) : Prop where
 small : want.length ≤ 4096 → o = want
 big : 4096 < want.length → 4096 < o.length
 few : o.length ≤ 8300
theorem RowS.app {o want want' ys zs : List Nd} (h : RowS o want) (hl : o.length ≤ 4096) (hw : want' = ys ++ want ++ zs) (hz : ys.length + zs.length ≤ 4200) : RowS (ys ++ o ++ zs) want' := by
 have h1 : want.length ≤ 4096 := by
  rcases Nat.lt_or_ge 4096 want.length with h2 | h2
  · have := h.big h2; omega
  exact h2
 have h2 := h.small h1
 subst h2
 subst hw
 exact ⟨fun _ => rfl, fun h => h, by simp only [List.length_append]; omega⟩
theorem RowS.stay {o want want' : List Nd} (h : RowS o want) (hl : 4096 < o.length) (hw : want.length ≤ want'.length) : RowS o want' := by
 have h1 : 4096 < want.length := by
  rcases Nat.lt_or_ge 4096 want.length with h2 | h2
  · exact h2
  have := h.small h2
  rw [this] at hl
  omega
 exact ⟨fun h2 => by omega, fun _ => hl, h.few⟩
theorem shape_few {a : List Nd} (h : shapeI a = 0) : a.length ≤ 4096 := (shape_ok h).1
def appL (f : List Nd) (args : List (List Nd)) : List Nd := List.replicate args.length ⟨6, 0, 0⟩ ++ (f ++ args.flatten)
theorem appL_next (f : List Nd) (args : List (List Nd)) {k : Nat} (h : k < args.length) : appL f (args.take (k + 1)) = [⟨6, 0, 0⟩] ++ appL f (args.take k) ++ args.getD k [] := by
 unfold appL
 rw [flat_take args h [], List.length_take, List.length_take, Nat.min_eq_left (by omega), Nat.min_eq_left (by omega), List.replicate_succ]
 simp
theorem own_one {W : World} {base : Nat} (hb : base ≤ W.heap.size) (x y z : Int) : OwnN (W.alloc (.cells #[.int .i64 x, .int .i64 y, .int .i64 z] 53)) base (.slice (some ⟨W.heap.size, 0, none⟩) 1 1) [⟨x, y, z⟩] :=
 ⟨by simp [flat, cellsN], .inr ⟨W.heap.size, 1, #[.int .i64 x, .int .i64 y, .int .i64 z], rfl, hb, heap_alloc_new W _, by simp, by unfold maxLen; omega, rfl, by simp [flat, cellsN]⟩⟩
set_option linter.unusedSimpArgs false in
set_option maxRecDepth 100000 in
set_option maxHeartbeats 4000000 in
theorem refApply_any {A B : Option Addr} {n c m d : Nat} {f : List Nd} {args : List (List Nd)} {w : World} (hf : TermV w A n c f) (ha : RowsR (· < w.heap.size) w B m d args) :
 Calls Tryz.prog 66 #[.slice A n c, .slice B m d] w (RowEPost (applyR f args) w) := by
 obtain ⟨i0, hi, hy0, hy1, hy2⟩ := info_parts infoN'
 have HI0 := hid hi
 have HY0 := hid hy0
 have HY1 := hid hy1
 have HY2 := hid hy2
 have HF := hid hf
 have HA := hid ha
 have hfm := ha.few
 have hfn := hf.few
 have HSH := hid (refShape_any hf)
 clear hi hy0 hy1 hy2 hf ha
 by_cases hsf : shapeI f = 0
 rotate_left
 · have HQ : Hid (applyR f args = ([], shapeI f)) := hid (by unfold applyR; rw [if_pos hsf])
   have hz : (shapeI f != 0) = true := by simpa using hsf
   generalize shapeI f = z at *
   clear hsf
   go_in
   go_wp2_with fail
   refine (HSH.out).mono ?_
   rintro e w2 ⟨rfl, hb2⟩
   have HB2 := hid hb2
   clear hb2
   go_wp2_with fail
   go_ret2
   exact rowE_nil HQ.out HB2.out
 have hn4 : n ≤ 4096 := by rw [← HF.out.len]; exact shape_few hsf
 rw [hsf] at HSH
 have HSF := hid hsf
 clear hsf
 go_in
 go_wp2_with fail
 refine (HSH.out).mono ?_
 rintro e w2 ⟨rfl, hb2⟩
 have HB2 := hid hb2
 have HOWN := hid (show OwnN (w2.alloc (.cells #[] 53)) w.heap.size (.slice (some ⟨w2.heap.size, 0, none⟩) 0 0) [] from World.ownsRow_made w2 #[] 0 hb2.size (Nat.zero_le _) rfl)
 have HB2L := hid (hb2.alloc hb2.size (.cells #[] 53))
 have HF2 := hid (HF.out.below HB2L.out)
 clear hb2
 go_wp2_with (at_builtin; go_loud (refine wpList_oper rfl (oper_append_row (.tmp 14) (.tmp 15) 28 28 rfl w.heap.size i0 Tryz.underlying28 Tryz.underlying28 HI0.out HY0.out HY1.out HY2.out (.slice (some ⟨w2.heap.size, 0, none⟩) 0 0) [] f rfl HOWN.out rfl HF2.out (by simp; omega) HB2L.out.size ?_)); intro A3 c3 w3 hown3 happ3; have HO3 := hid hown3; have HB3 := hid (HB2L.out.grown happ3.grown HB2L.out.size (fun g hg => (ownsRow_block HOWN.out hg).1)); clear hown3 happ3)
 go_loopw [7, 8] (fun ov iv wr => ∃ (i L k1 : Nat) (A1 : Option Addr) (o : List Nd), i ≤ m ∧ iv = .int .i64 (i : Int) ∧ ov = .slice A1 L k1 ∧ L ≤ 8300 ∧ Hid (o.length = L) ∧ Hid (OwnN wr w.heap.size (.slice A1 L k1) o) ∧ Hid (RowS o (appL f (args.take i))) ∧ Hid (firstBad (args.take i) = 0) ∧ Hid (Below w.heap.size w wr)) (fun _ i _ => m - (intOf i).toNat)
 case atStart => exact ⟨0, n, c3, A3, f, by omega, rfl, by simp, by omega, hid HF.out.len, hid (OwnN.cast HO3.out (by simp) (by simp)), hid ⟨fun _ => by simp [appL], fun h => by simpa [appL] using h, by rw [HF.out.len]; omega⟩, hid rfl, HB3⟩
 case round =>
  obtain ⟨i, L, k1, A1, o, hi, rfl, rfl, hL, hol, hown, hrs, hbad, hbw⟩ := hrel
  have hbs := hbw.out.size
  by_cases hlt : i < m
  rotate_left
  · have hie : i = m := by omega
    have HFA : Hid (args.take i = args) := hid (List.take_of_length_le (by rw [HA.out.len]; omega))
    rw [HFA.out] at hbad hrs
    clear hie
    have HLE : Hid ((appL f args).length = f.length + (args.flatten.length + args.length)) := hid (by unfold appL; simp; omega)
    by_cases hbig : 4096 < L
    · have hb4 : decide ((L : Int) > 4096) = true := decide_eq_true (by omega)
      have HQ : Hid (applyR f args = ([], 9)) := hid (by
       unfold applyR
       rw [if_neg (by rw [HSF.out]; decide), if_neg (by rw [hbad.out]; decide), if_pos]
       rw [← HLE.out]
       rcases Nat.lt_or_ge 4096 (appL f args).length with h2 | h2
       · exact h2
       have := hrs.out.small h2
       have := hol.out
       subst_vars
       omega)
      go_wp2_with fail
      go_ret2
      exact rowE_nil HQ.out hbw.out
    have hb4 : decide ((L : Int) > 4096) = false := decide_eq_false (by omega)
    have hw : (appL f args).length ≤ 4096 := by
     rcases Nat.lt_or_ge 4096 (appL f args).length with h2 | h2
     · have := hrs.out.big h2
       have := hol.out
       omega
     exact h2
    have HQ : Hid (applyR f args = (o, 0)) := hid (by
     unfold applyR
     rw [if_neg (by rw [HSF.out]; decide), if_neg (by rw [hbad.out]; decide), if_neg (by rw [← HLE.out]; omega), hrs.out.small hw]
     rfl)
    clear hw
    go_wp2_with fail
    go_ret2
    rw [HQ.out]
    exact ⟨hbw.out, A1, L, k1, rfl, own_fresh (OwnN.cast hown.out rfl rfl) (by rw [hol.out]; omega)⟩
  obtain ⟨b, off, rfl, hb, hm⟩ := HA.out.mem (by omega)
  obtain ⟨A', n', c', hc, ht⟩ := hm i hlt
  have hc2 : wr.cell? ⟨b, off + i, none⟩ = some (.slice A' n' c') := (hbw.out.cell (p := ⟨b, off + i, none⟩) hb).trans hc
  have HS := hid (refShape_any (TermV.below ht hbw.out))
  have HTA : Hid (∀ w', Below w.heap.size w w' → TermV w' A' n' c' (args.getD i [])) := hid fun w' h => TermV.below ht h
  have HKC : Hid (∀ w', Below w.heap.size w w' → w'.cell? ⟨b, off + i, none⟩ = some (.slice A' n' c')) := hid fun w' h => (h.cell (p := ⟨b, off + i, none⟩) hb).trans hc
  have HNX := hid (firstBad_next (args := args) (by rw [HA.out.len]; exact hlt) hbad.out)
  have HAL := hid (appL_next f args (by rw [HA.out.len]; exact hlt))
  have HTL := hid ht.len
  have hfw := ht.few
  generalize args.getD i [] = a at *
  clear hm hc ht
  by_cases hsa : shapeI a = 0
  rotate_left
  · have HQ : Hid (applyR f args = ([], shapeI a)) := hid (by
     have h1 := HNX.out.2 hsa
     unfold applyR
     rw [if_neg (by rw [HSF.out]; decide), if_pos (by rw [h1]; exact hsa), h1])
    generalize shapeI a = z at *
    have hz : (z != 0) = true := by simpa using hsa
    clear hsa
    go_wp2_with fail
    refine (HS.out).mono ?_
    rintro e w4 ⟨rfl, hb4⟩
    have HB4 := hid (hbw.out.trans (hb4.mono hbs))
    clear hb4
    go_wp2_with fail
    go_ret2
    exact rowE_nil HQ.out HB4.out
  have hn' : n' ≤ 4096 := by rw [← HTL.out]; exact shape_few hsa
  rw [hsa] at HS
  have HB1 := hid (HNX.out.1 hsa)
  clear hsa
  by_cases hle : L ≤ 4096
  · have hle2 : decide ((L : Int) ≤ 4096) = true := decide_eq_true (by omega)
    have HRS := hid (hrs.out.app (by rw [hol.out]; exact hle) HAL.out (by simp only [List.length_singleton]; rw [HTL.out]; omega))
    go_wp2_with fail
    refine (HS.out).mono ?_
    rintro e w4 ⟨rfl, hb4⟩
    have HB4 := hid (hbw.out.trans (hb4.mono hbs))
    have HO4 := hid (OwnN.below hown.out hb4)
    have hc4 := HKC.out _ HB4.out
    have hbs4 := HB4.out.size
    have HBD := hid (below_drewN HB4.out 1)
    have HBL := hid (HBD.out.alloc hbs4 (.cells #[.int .i64 6, .int .i64 0, .int .i64 0] 53))
    have HLIT := hid (own_one (W := w4.drewN 1) (base := w.heap.size) hbs4 6 0 0)
    have HOT := hid (OwnN.termV (OwnN.alloc (OwnN.drewN HO4.out 1) (.cells #[.int .i64 6, .int .i64 0, .int .i64 0] 53)) (by rw [hol.out]; omega))
    clear hb4 hc2
    go_wp2_with fail
    go_region_held3 (fun w' => w'.cell? ⟨b, off + i, none⟩ = some (.slice A' n' c')) (first | exact hc4 | exact HKC.out _ HBD.out | exact HKC.out _ HBL.out | exact HKC.out _ HB5.out | exact HKC.out _ HB6.out)
     (first
      | (refine step_oper rfl (oper_append_row (.tmp 35) (.tmp 36) 28 28 rfl w.heap.size i0 Tryz.underlying28 Tryz.underlying28 HI0.out HY0.out HY1.out HY2.out (.slice (some ⟨w4.heap.size, 0, none⟩) 1 1) [⟨6, 0, 0⟩] o rfl HLIT.out rfl HOT.out (by simp; omega) HBL.out.size ?_); intro A5 c5 w5 hown5 happ5; have HO5 := hid hown5; have HB5 := hid (HBL.out.grown happ5.grown HBL.out.size (fun g hg => (ownsRow_block HLIT.out hg).1)); clear hown5 happ5)
      | (refine step_oper rfl (oper_append_row (.tmp 37) (.tmp 41) 28 28 rfl w.heap.size i0 Tryz.underlying28 Tryz.underlying28 HI0.out HY0.out HY1.out HY2.out (.slice A5 (1 + L) c5) ([⟨6, 0, 0⟩] ++ o) a rfl (OwnN.cast HO5.out (by simp) rfl) rfl (HTA.out _ HB5.out) (by simp only [List.length_append, List.length_singleton]; rw [hol.out]; omega) HB5.out.size ?_); intro A6 c6 w6 hown6 happ6; have HO6 := hid hown6; have HB6 := hid (HB5.out.grown happ6.grown HB5.out.size (fun g hg => (ownsRow_block HO5.out hg).1)); clear hown6 happ6))
    go_wp2_with fail
    go_roundw
    case rel => exact ⟨i + 1, _, c6, A6, ([⟨6, 0, 0⟩] ++ o) ++ a, by omega, by go_num, rfl, by have := hol.out; omega, hid (by rw [List.length_append, List.length_append, HTL.out]; simp only [List.length_singleton]; omega), hid (OwnN.cast HO6.out (by simp) rfl), HRS, HB1, HB6⟩
    case measure => simp [intOf]; omega
  have hle2 : decide ((L : Int) ≤ 4096) = false := decide_eq_false (by omega)
  have HRS := hid (hrs.out.stay (want' := appL f (args.take (i + 1))) (by rw [hol.out]; omega) (by rw [HAL.out]; simp only [List.length_append]; omega))
  go_wp2_with fail
  refine (HS.out).mono ?_
  rintro e w4 ⟨rfl, hb4⟩
  have HB4 := hid (hbw.out.trans (hb4.mono hbs))
  have HO4 := hid (OwnN.below hown.out hb4)
  clear hb4
  go_wp2_with fail
  go_roundw
  case rel => exact ⟨i + 1, L, k1, A1, o, by omega, by go_num, rfl, hL, hol, HO4, HRS, HB1, HB4⟩
  case measure => simp [intOf]; omega
end Go.Proofs.YtplecfbdchmogaaGreat
