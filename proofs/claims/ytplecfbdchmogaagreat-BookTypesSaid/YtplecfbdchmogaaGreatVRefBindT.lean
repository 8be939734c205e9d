/- Bind of the reference. -/
import Derived.Test.YtplecfbdchmogaaGreatVRefApply
namespace Go.Proofs.YtplecfbdchmogaaGreat
open Go.Lib (hid)
open Go.RowKit
theorem bindL_nextB (op : Int) (ls : List (List Nd)) {k : Nat} (h : k < ls.length) : bindL op (ls.take (k + 1)) = (bindL op (ls.take k) ++ [⟨op, 0, 0⟩]) ++ ls.getD k [] := bindL_next op ls h
theorem RowS.appB {o want want' zs : List Nd} {x : Nd} (h : RowS o want) (hl : o.length ≤ 4096) (hw : want' = (want ++ [x]) ++ zs) (hz : zs.length ≤ 4199) : RowS ((o ++ [x]) ++ zs) want' := by
 have := h.app (want' := want') (ys := []) (zs := [x] ++ zs) hl (by rw [hw]; simp) (by simp; omega)
 simpa using this
set_option linter.unusedSimpArgs false in
set_option maxRecDepth 100000 in
set_option maxHeartbeats 4000000 in
theorem refBind_any {A B : Option Addr} {n c m d : Nat} {t : List Nd} {args : List (List Nd)} {op : Int} {w : World} (ht : TermV w A n c t) (hd : RowsR (· < w.heap.size) w B m d args) :
 Calls Tryz.prog 64 #[.int .i64 op, .slice B m d, .slice A n c] w (RowEPost (bindR op args t) w) := by
 obtain ⟨i0, hi, hy0, hy1, hy2⟩ := info_parts infoN'
 have HI0 := hid hi
 have HY0 := hid hy0
 have HY1 := hid hy1
 have HY2 := hid hy2
 have HT := hid ht
 have HA := hid hd
 have hfm := hd.few
 have hfn := ht.few
 clear hi hy0 hy1 hy2 ht hd
 by_cases hop : op = 4 ∨ op = 5
 rotate_left
 · have HQ : Hid (bindR op args t = ([], 1)) := hid (by unfold bindR; rw [if_pos (by omega)])
   have h4 : (op != 4) = true := by simp; omega
   have h5 : (op != 5) = true := by simp; omega
   clear hop
   go_in
   go_wp2_with fail
   go_ret2
   exact rowE_nil HQ.out (Below.refl _ _)
 have HOP : Hid (¬ (op ≠ 4 ∧ op ≠ 5)) := hid (by omega)
 rcases hop with hop | hop
 case' inl =>
  have h4 : (op != 4) = false := by simp [hop]
 case' inr =>
  have h4 : (op != 4) = true := by simp [hop]
  have h5 : (op != 5) = false := by simp [hop]
 all_goals
  clear hop
  go_in
  go_wp2_with fail
  go_loopw [8, 9] (fun ov iv wr => ∃ (i L k1 : Nat) (A1 : Option Addr) (o : List Nd), i ≤ m ∧ iv = .int .i64 (i : Int) ∧ ov = .slice A1 L k1 ∧ L ≤ 8300 ∧ Hid (o.length = L) ∧ Hid (OwnN wr w.heap.size (.slice A1 L k1) o) ∧ Hid (RowS o (bindL op (args.take i))) ∧ Hid (firstBad (args.take i) = 0) ∧ Hid (Below w.heap.size w wr)) (fun _ i _ => m - (intOf i).toNat)
  case atStart => exact ⟨0, 0, 0, none, [], by omega, rfl, rfl, by omega, hid rfl, hid (OwnN.nil _ _), hid ⟨fun _ => by simp [bindL], fun h => by simp [bindL] at h, by simp⟩, hid rfl, hid (Below.refl _ _)⟩
  case round =>
   obtain ⟨i, L, k1, A1, o, hi, rfl, rfl, hL, hol, hown, hrs, hbad, hbw⟩ := hrel
   have hbs := hbw.out.size
   by_cases hlt : i < m
   · obtain ⟨b, off, rfl, hb, hm⟩ := HA.out.mem (by omega)
     obtain ⟨A', n', c', hc, ht⟩ := hm i hlt
     have hc2 : wr.cell? ⟨b, off + i, none⟩ = some (.slice A' n' c') := (hbw.out.cell (p := ⟨b, off + i, none⟩) hb).trans hc
     have HS := hid (refShape_any (TermV.below ht hbw.out))
     have HTA : Hid (∀ w', Below w.heap.size w w' → TermV w' A' n' c' (args.getD i [])) := hid fun w' h => TermV.below ht h
     have HKC : Hid (∀ w', Below w.heap.size w w' → w'.cell? ⟨b, off + i, none⟩ = some (.slice A' n' c')) := hid fun w' h => (h.cell (p := ⟨b, off + i, none⟩) hb).trans hc
     have HNX := hid (firstBad_next (args := args) (by rw [HA.out.len]; exact hlt) hbad.out)
     have HAL := hid (bindL_nextB op args (by rw [HA.out.len]; exact hlt))
     have HTL := hid ht.len
     have hfw := ht.few
     generalize args.getD i [] = a at *
     clear hm hc ht
     by_cases hsa : shapeI a = 0
     rotate_left
     · have HQ : Hid (bindR op args t = ([], shapeI a)) := hid (by
        have h1 := HNX.out.2 hsa
        unfold bindR
        rw [if_neg HOP.out, if_pos (by rw [h1]; exact hsa), h1])
       generalize shapeI a = z at *
       have hz : (z != 0) = true := by simpa using hsa
       clear hsa
       go_wp2_with fail
       refine (HS.out).mono ?_
       rintro e w4 ⟨rfl, hb4⟩
       have HB4 := hid (hbw.out.trans (hb4.mono hbs))
       clear hb4
       go_wp2_with fail
       go_ret2
       exact rowE_nil HQ.out HB4.out
     have hn' : n' ≤ 4096 := by rw [← HTL.out]; exact shape_few hsa
     rw [hsa] at HS
     have HB1 := hid (HNX.out.1 hsa)
     clear hsa
     by_cases hle : L ≤ 4096
     · have hle2 : decide ((L : Int) ≤ 4096) = true := decide_eq_true (by omega)
       have HRS := hid (hrs.out.appB (by rw [hol.out]; exact hle) HAL.out (by rw [HTL.out]; omega))
       go_wp2_with fail
       refine (HS.out).mono ?_
       rintro e w4 ⟨rfl, hb4⟩
       have HB4 := hid (hbw.out.trans (hb4.mono hbs))
       have HO4 := hid (OwnN.below hown.out hb4)
       have hc4 := HKC.out _ HB4.out
       have hbs4 := HB4.out.size
       have HBD := hid (below_drewN HB4.out 1)
       have HBL := hid (HBD.out.alloc hbs4 (.cells #[.int .i64 op, .int .i64 0, .int .i64 0] 53))
       have HOD := hid (show OwnN (w4.drewN 1) w.heap.size (.slice A1 o.length k1) o by rw [hol.out]; exact OwnN.drewN HO4.out 1)
       clear hb4 hc2
       go_wp2_with fail
       go_region_held3 (fun w' => w'.cell? ⟨b, off + i, none⟩ = some (.slice A' n' c')) (first | exact hc4 | exact HKC.out _ HBD.out | exact HKC.out _ HBL.out | exact HKC.out _ HB5.out | exact HKC.out _ HB6.out)
        (first
         | (refine step_oper rfl (oper_append_node (.tmp 35) (.tmp 38) 28 rfl w.heap.size i0 Tryz.underlying28 HI0.out HY0.out HY1.out HY2.out (.slice A1 o.length k1) o ⟨op, 0, 0⟩ (w4.drewN 1) (by rfl) (by rw [hol.out]; rfl) HOD.out _ (by rfl) (by rfl) (by rw [hol.out]; omega) hbs4 ?_); intro A5 c5 w5 hown5 happ5; have HO5 := hid hown5; have HB5 := hid (HBD.out.grown happ5.grown hbs4 (fun g hg => (ownsRow_block HOD.out hg).1)); clear hown5 happ5)
         | (refine step_oper rfl (oper_append_row (.tmp 39) (.tmp 43) 28 28 rfl w.heap.size i0 Tryz.underlying28 Tryz.underlying28 HI0.out HY0.out HY1.out HY2.out (.slice A5 (o.length + 1) c5) (o ++ [⟨op, 0, 0⟩]) a rfl (OwnN.cast HO5.out (by simp) rfl) rfl (HTA.out _ HB5.out) (by simp only [List.length_append, List.length_singleton]; rw [hol.out]; omega) HB5.out.size ?_); intro A6 c6 w6 hown6 happ6; have HO6 := hid hown6; have HB6 := hid (HB5.out.grown happ6.grown HB5.out.size (fun g hg => (ownsRow_block HO5.out hg).1)); clear hown6 happ6))
       go_wp2_with fail
       go_roundw
       case rel => exact ⟨i + 1, _, c6, A6, (o ++ [⟨op, 0, 0⟩]) ++ a, by omega, by go_num, rfl, by have := hol.out; omega, hid (by rw [List.length_append, List.length_append, HTL.out]; simp only [List.length_singleton]), hid (OwnN.cast HO6.out (by simp) rfl), HRS, HB1, HB6⟩
       case measure => simp [intOf]; omega
     have hle2 : decide ((L : Int) ≤ 4096) = false := decide_eq_false (by omega)
     have HRS := hid (hrs.out.stay (want' := bindL op (args.take (i + 1))) (by rw [hol.out]; omega) (by rw [HAL.out]; simp only [List.length_append]; omega))
     go_wp2_with fail
     refine (HS.out).mono ?_
     rintro e w4 ⟨rfl, hb4⟩
     have HB4 := hid (hbw.out.trans (hb4.mono hbs))
     have HO4 := hid (OwnN.below hown.out hb4)
     clear hb4
     go_wp2_with fail
     go_roundw
     case rel => exact ⟨i + 1, L, k1, A1, o, by omega, by go_num, rfl, hL, hol, HO4, HRS, HB1, HB4⟩
     case measure => simp [intOf]; omega
   have hie : i = m := by omega
   have HFA : Hid (args.take i = args) := hid (List.take_of_length_le (by rw [HA.out.len]; omega))
   rw [HFA.out] at hbad hrs
   clear hie
   have HS := hid (refShape_any (TermV.below HT.out hbw.out))
   by_cases hst : shapeI t = 0
   rotate_left
   · have HQ : Hid (bindR op args t = ([], shapeI t)) := hid (by
      unfold bindR
      rw [if_neg HOP.out, if_neg (by rw [hbad.out]; decide), if_pos hst])
     generalize shapeI t = z at *
     have hz : (z != 0) = true := by simpa using hst
     clear hst
     go_wp2_with fail
     refine (HS.out).mono ?_
     rintro e w3 ⟨rfl, hb3⟩
     have HB3 := hid (hbw.out.trans (hb3.mono hbs))
     clear hb3
     go_wp2_with fail
     go_ret2
     exact rowE_nil HQ.out HB3.out
   have hn4 : n ≤ 4096 := by rw [← HT.out.len]; exact shape_few hst
   rw [hst] at HS
   have HST := hid hst
   clear hst
   have HOC := hid (show OwnN wr w.heap.size (.slice A1 o.length k1) o by rw [hol.out]; exact hown.out)
   have HTT := hid (fun w' (h : Below w.heap.size w w') => TermV.below HT.out h)
   by_cases hbig : 4096 < L + n
   · have hb4 : decide ((L : Int) + (n : Int) > 4096) = true := decide_eq_true (by omega)
     have HQ : Hid (bindR op args t = ([], 9)) := hid (by
      unfold bindR
      rw [if_neg HOP.out, if_neg (by rw [hbad.out]; decide), if_neg (by rw [HST.out]; decide), if_pos]
      rw [HT.out.len]
      rcases Nat.lt_or_ge 4096 (bindL op args).length with h2 | h2
      · omega
      have h3 := hrs.out.small h2
      rw [← h3, hol.out]; exact hbig)
     go_wp2_with fail
     refine (HS.out).mono ?_
     rintro e w3 ⟨rfl, hb3⟩
     have HO3 := hid (OwnN.below HOC.out hb3)
     have HB3 := hid (hbw.out.trans (hb3.mono hbs))
     have HT3 := hid (HTT.out _ HB3.out)
     have hbs3 := HB3.out.size
     clear hb3
     go_wp2_with (at_builtin; go_loud (refine wpList_oper rfl (oper_append_row (.tmp 50) (.tmp 51) 28 28 rfl w.heap.size i0 Tryz.underlying28 Tryz.underlying28 HI0.out HY0.out HY1.out HY2.out (.slice A1 o.length k1) o t (by rw [hol.out]; rfl) HO3.out rfl HT3.out (by rw [hol.out]; omega) hbs3 ?_)); intro A5 c5 w5 hown5 happ5; have HB5 := hid (HB3.out.grown happ5.grown hbs3 (fun g hg => (ownsRow_block HO3.out hg).1)); clear hown5 happ5; rw [hol.out])
     go_ret2
     exact rowE_nil HQ.out HB5.out
   have hb4 : decide ((L : Int) + (n : Int) > 4096) = false := decide_eq_false (by omega)
   have HQ : Hid (bindR op args t = (o ++ t, 0)) := hid (by
    have hw : (bindL op args).length ≤ 4096 := by
     rcases Nat.lt_or_ge 4096 (bindL op args).length with h2 | h2
     · have := hrs.out.big h2
       have := hol.out
       omega
     exact h2
    have h3 := hrs.out.small hw
    unfold bindR
    rw [if_neg HOP.out, if_neg (by rw [hbad.out]; decide), if_neg (by rw [HST.out]; decide), if_neg (by rw [← h3, hol.out, HT.out.len]; omega), h3])
   go_wp2_with fail
   refine (HS.out).mono ?_
   rintro e w3 ⟨rfl, hb3⟩
   have HO3 := hid (OwnN.below HOC.out hb3)
   have HB3 := hid (hbw.out.trans (hb3.mono hbs))
   have HT3 := hid (HTT.out _ HB3.out)
   have hbs3 := HB3.out.size
   clear hb3
   go_wp2_with (at_builtin; go_loud (refine wpList_oper rfl (oper_append_row (.tmp 50) (.tmp 51) 28 28 rfl w.heap.size i0 Tryz.underlying28 Tryz.underlying28 HI0.out HY0.out HY1.out HY2.out (.slice A1 o.length k1) o t (by rw [hol.out]; rfl) HO3.out rfl HT3.out (by rw [hol.out]; omega) hbs3 ?_)); intro A5 c5 w5 hown5 happ5; have HO5 := hid hown5; have HB5 := hid (HB3.out.grown happ5.grown hbs3 (fun g hg => (ownsRow_block HO3.out hg).1)); clear hown5 happ5; rw [hol.out])
   go_ret2
   rw [HQ.out]
   exact ⟨HB5.out, A5, _, c5, rfl, own_fresh (OwnN.cast HO5.out (by rw [hol.out]) rfl) (by rw [List.length_append, HT.out.len, hol.out]; omega)⟩
end Go.Proofs.YtplecfbdchmogaaGreat
