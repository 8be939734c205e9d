/- NatKeeps: the law, walked. -/
import Derived.Test.YtgiepikoffaaiaaDoorKeepsP
namespace Go.Proofs.YtgiepikoffaaiaaDoor
open Go.RowKit

theorem mark_ok {a : List Nat} (h : Ok a) : Ok (a ++ [2779096485, 1515870810]) := fun x hx => by
  rcases List.mem_append.1 hx with h1 | h1
  · exact h x h1
  · simp at h1; omega

set_option linter.unusedSimpArgs false in
set_option maxRecDepth 100000 in
set_option maxHeartbeats 8000000 in
theorem keeps_law {A : Option Addr} {n1 c1 : Nat} {x1 : List Nat} {B : Option Addr} {n2 c2 : Nat} {x2 : List Nat} {w : World} (ha : NatV w A n1 c1 x1) (hb : NatV w B n2 c2 x2) (ht : Tab w) (v : Int) (hv1 : -128 ≤ v) (hv2 : v ≤ 127) :
    Calls Tryd.prog 10 #[.slice A n1 c1, .slice B n2 c2, .int .i8 v] w (BoolPost true w) := by
  obtain ⟨big, hbig⟩ : ∃ big : Bool, big = (decide (80 < n1) || decide (80 < n2)) := ⟨_, rfl⟩
  have hlong := fun (w2 : World) => long_two (Blk.new w2 23 #[.slice A n1 c1, .slice B n2 c2]) hbig
  have HLONG := Lib.hid hlong
  have HAW := Lib.hid (awake_any ht)
  have HT := Lib.hid ht
  clear hlong ht
  cases big with
  | true =>
    clear hbig hv1 hv2
    go_enter Tryd.func10, Tryd.ntmps10
    go_wp2_with fail
    refine (HAW.out).mono ?_
    rintro e wa ⟨rfl, hb2⟩
    go_wp2_with fail
    refine (HLONG.out wa).mono ?_
    rintro e w3 ⟨rfl, rfl⟩
    go_wp2_with fail
    go_ret
    exact bp_true rfl (hb2.alloc hb2.size _)
  | false =>
    have hle : n1 ≤ 80 ∧ n2 ≤ 80 := by simp at hbig; omega
    obtain ⟨hle1, hle2⟩ := hle
    clear hbig
    have HA0 := Lib.hid ha
    have HB00 := Lib.hid hb
    obtain ⟨a, hva⟩ : ∃ a, val x1 = a := ⟨_, rfl⟩
    obtain ⟨b, hvb⟩ : ∃ b, val x2 = b := ⟨_, rfl⟩
    have HVA := Lib.hid hva
    have HVB := Lib.hid hvb
    obtain ⟨t, ht⟩ := shift8_any a v hv1 hv2
    have HSHIFT := Lib.hid ht
    have hvw : IntKind.i64.wrap v = v := IntWalk.i64_in _ (by omega)
    clear ha hb hva hvb ht
    have HZP : RowKit.Hid (b = 0 ∨ 0 < b) := Lib.hid (by omega)
    go_enter Tryd.func10, Tryd.ntmps10
    go_wp2_with fail
    refine (HAW.out).mono ?_
    rintro e wa ⟨rfl, hb2⟩
    go_wp2_with fail
    refine (HLONG.out wa).mono ?_
    rintro e w3 ⟨rfl, rfl⟩
    have HW0 := Lib.hid (hb2.alloc hb2.size (.cells #[.slice A n1 c1, .slice B n2 c2] 23))
    clear hb2
    go_wp2_with fail
    refine (room_any (HA0.out.below HW0.out) (by omega)).mono ?_
    rintro e wx ⟨hb, gx, cx, rfl, hgx, hox⟩
    have HW1 := Lib.hid (HW0.out.trans (hb.mono HW0.out.size))
    have HOX := Lib.hid hox
    clear hb hgx hox
    go_wp2_with fail
    refine (room_any (HB00.out.below HW1.out) (by omega)).mono ?_
    rintro e w0 ⟨hb, gy, cy, rfl, hgy, hoy⟩
    have HW2 := Lib.hid (HW1.out.trans (hb.mono HW1.out.size))
    have HNA := Lib.hid (HA0.out.below HW2.out)
    have HNB := Lib.hid (HB00.out.below HW2.out)
    have HXX := Lib.hid ((OwnU.natV HOX.out (mark_ok HNA.out.ok) (by omega)).below hb)
    have HYY := Lib.hid (OwnU.natV hoy (mark_ok HNB.out.ok) (by omega))
    have HA : RowKit.Hid (Arg w0 A n1 c1 a 80) := Lib.hid ⟨x1, HNA.out, HVA.out, hle1⟩
    have HB : RowKit.Hid (Arg w0 B n2 c2 b 80) := Lib.hid ⟨x2, HNB.out, HVB.out, hle2⟩
    have HX : RowKit.Hid (Arg w0 (some ⟨gx, 0, none⟩) n1 cx a 80) := Lib.hid ⟨x1, NatV.front HXX.out HNA.out.len, HVA.out, hle1⟩
    have HY : RowKit.Hid (Arg w0 (some ⟨gy, 0, none⟩) n2 cy b 80) := Lib.hid ⟨x2, NatV.front HYY.out HNB.out.len, HVB.out, hle2⟩
    clear hb hgy hoy
    have HB0 := Lib.hid (Below.refl w0.heap.size w0)
    rcases HZP.out with rfl | hpos
    · obtain ⟨z, tt, hsm⟩ : ∃ z tt, smallV a = (z, tt) := ⟨_, _, rfl⟩
      have HSM := Lib.hid hsm
      obtain ⟨bl, hbl⟩ : ∃ bl, bln a = bl := ⟨_, rfl⟩
      have HBL := Lib.hid hbl
      clear hsm hbl
      go_wp2_with fail
      refine (divmod_zero_num (HX.out.below HB0.out) (HY.out.below HB0.out) rfl).mono ?_
      rintro e w1 ⟨rfl, hb⟩
      have HB1 := Lib.hid (HB0.out.trans (hb.mono HB0.out.size))
      have HS1 : RowKit.Hid (w0.heap.size ≤ w1.heap.size) := Lib.hid hb.size
      clear hb
      go_wp2_with fail
      refine (HSHIFT.out _ _ _ _ (HX.out.below HB1.out)).mono ?_
      rintro e w2 ⟨hb, gs, Ls, rfl, hg, hr⟩
      have HB2 := Lib.hid (HB1.out.trans (hb.mono HB1.out.size))
      have HS2 : RowKit.Hid (w1.heap.size ≤ w2.heap.size) := Lib.hid hb.size
      have Rs_2 := Lib.hid hr
      have HGs : RowKit.Hid (w1.heap.size ≤ gs ∧ gs < w2.heap.size) := Lib.hid ⟨hg, hr.lt⟩
      clear hb hr hg
      obtain ⟨cv, hcv⟩ := compare_some (HX.out.below HB2.out) (HY.out.below HB2.out)
      have HCV := Lib.hid hcv
      clear hcv
      go_wp2_with fail
      refine (HCV.out).mono ?_
      rintro e w3 ⟨rfl, hb⟩
      have HB3 := Lib.hid (HB2.out.trans (hb.mono HB2.out.size))
      have HS3 : RowKit.Hid (w2.heap.size ≤ w3.heap.size) := Lib.hid hb.size
      have Rs_3 := Lib.hid (Rs_2.out.below hb)
      clear hb
      go_wp2_with fail
      refine (bits_num (HX.out.below HB3.out) (by omega) HBL.out).mono ?_
      rintro e w' ⟨rfl, rfl⟩
      go_wp2_with fail
      refine (small_num (HX.out.below HB3.out) (by omega) (q := (z, tt)) HSM.out).mono ?_
      rintro e w' ⟨rfl, rfl⟩
      go_wp2_with fail
      refine (decimal_num (HX.out.below HB3.out) (by omega) (tab_below HT.out (HW2.out.trans (HB3.out.mono HW2.out.size)))).mono ?_
      rintro e w4 ⟨rfl, hb⟩
      have HB4 := Lib.hid (HB3.out.trans (hb.mono HB3.out.size))
      have HS4 : RowKit.Hid (w3.heap.size ≤ w4.heap.size) := Lib.hid hb.size
      have Rs_4 := Lib.hid (Rs_3.out.below hb)
      clear hb
      go_wp2_with fail
      refine (mul_num (HX.out.below HB4.out) (HY.out.below HB4.out) (by omega) (by omega) rfl).mono ?_
      rintro e w5 ⟨hb, gg, Lg, rfl, hg, hr⟩
      have HB5 := Lib.hid (HB4.out.trans (hb.mono HB4.out.size))
      have HS5 : RowKit.Hid (w4.heap.size ≤ w5.heap.size) := Lib.hid hb.size
      have Rs_5 := Lib.hid (Rs_4.out.below hb)
      have Rg_5 := Lib.hid hr
      have HGg : RowKit.Hid (w4.heap.size ≤ gg ∧ gg < w5.heap.size) := Lib.hid ⟨hg, hr.lt⟩
      clear hb hr hg
      go_wp2_with fail
      refine (norm_num' (HX.out.below HB5.out)).mono ?_
      rintro e w6 ⟨hb, gn, Ln, rfl, hg, hr⟩
      have HB6 := Lib.hid (HB5.out.trans (hb.mono HB5.out.size))
      have HS6 : RowKit.Hid (w5.heap.size ≤ w6.heap.size) := Lib.hid hb.size
      have Rs_6 := Lib.hid (Rs_5.out.below hb)
      have Rg_6 := Lib.hid (Rg_5.out.below hb)
      have Rn_6 := Lib.hid hr
      have HGn : RowKit.Hid (w5.heap.size ≤ gn ∧ gn < w6.heap.size) := Lib.hid ⟨hg, hr.lt⟩
      clear hb hr hg
      go_wp2_with fail
      refine (add_num (HX.out.below HB6.out) (HY.out.below HB6.out) (by omega) (by omega) rfl).mono ?_
      rintro e w7 ⟨hb, ga, La, rfl, hg, hr⟩
      have HB7 := Lib.hid (HB6.out.trans (hb.mono HB6.out.size))
      have HS7 : RowKit.Hid (w6.heap.size ≤ w7.heap.size) := Lib.hid hb.size
      have Rs_7 := Lib.hid (Rs_6.out.below hb)
      have Rg_7 := Lib.hid (Rg_6.out.below hb)
      have Rn_7 := Lib.hid (Rn_6.out.below hb)
      have Ra_7 := Lib.hid hr
      have HGa : RowKit.Hid (w6.heap.size ≤ ga ∧ ga < w7.heap.size) := Lib.hid ⟨hg, hr.lt⟩
      clear hb hr hg
      go_wp2_with fail
      refine (monus_num (HX.out.below HB7.out) (HY.out.below HB7.out) (by omega)).mono ?_
      rintro e w8 ⟨hb, gm, Lm, rfl, hg, hr⟩
      have HB8 := Lib.hid (HB7.out.trans (hb.mono HB7.out.size))
      have HS8 : RowKit.Hid (w7.heap.size ≤ w8.heap.size) := Lib.hid hb.size
      have Rs_8 := Lib.hid (Rs_7.out.below hb)
      have Rg_8 := Lib.hid (Rg_7.out.below hb)
      have Rn_8 := Lib.hid (Rn_7.out.below hb)
      have Ra_8 := Lib.hid (Ra_7.out.below hb)
      have Rm_8 := Lib.hid hr
      have HGm : RowKit.Hid (w7.heap.size ≤ gm ∧ gm < w8.heap.size) := Lib.hid ⟨hg, hr.lt⟩
      clear hb hr hg
      go_wp2_with fail
      refine (mul_num (HX.out.below HB8.out) (HY.out.below HB8.out) (by omega) (by omega) rfl).mono ?_
      rintro e w9 ⟨hb, gp, Lp, rfl, hg, hr⟩
      have HB9 := Lib.hid (HB8.out.trans (hb.mono HB8.out.size))
      have HS9 : RowKit.Hid (w8.heap.size ≤ w9.heap.size) := Lib.hid hb.size
      have Rs_9 := Lib.hid (Rs_8.out.below hb)
      have Rg_9 := Lib.hid (Rg_8.out.below hb)
      have Rn_9 := Lib.hid (Rn_8.out.below hb)
      have Ra_9 := Lib.hid (Ra_8.out.below hb)
      have Rm_9 := Lib.hid (Rm_8.out.below hb)
      have Rp_9 := Lib.hid hr
      have HGp : RowKit.Hid (w8.heap.size ≤ gp ∧ gp < w9.heap.size) := Lib.hid ⟨hg, hr.lt⟩
      clear hb hr hg
      go_wp2_with fail
      refine (norm_num' (HX.out.below HB9.out)).mono ?_
      rintro e w10 ⟨hb, gz, Lz, rfl, hg, hr⟩
      have HB10 := Lib.hid (HB9.out.trans (hb.mono HB9.out.size))
      have HS10 : RowKit.Hid (w9.heap.size ≤ w10.heap.size) := Lib.hid hb.size
      have Rs_10 := Lib.hid (Rs_9.out.below hb)
      have Rg_10 := Lib.hid (Rg_9.out.below hb)
      have Rn_10 := Lib.hid (Rn_9.out.below hb)
      have Ra_10 := Lib.hid (Ra_9.out.below hb)
      have Rm_10 := Lib.hid (Rm_9.out.below hb)
      have Rp_10 := Lib.hid (Rp_9.out.below hb)
      have Rz_10 := Lib.hid hr
      have HGz : RowKit.Hid (w9.heap.size ≤ gz ∧ gz < w10.heap.size) := Lib.hid ⟨hg, hr.lt⟩
      clear hb hr hg
      have HBL0 := Lib.hid (HB10.out.alloc HB10.out.size (.cells #[.slice (some ⟨gn, 0, none⟩) Ln Ln, .slice (some ⟨ga, 0, none⟩) La La, .slice (some ⟨gm, 0, none⟩) Lm Lm, .slice (some ⟨gp, 0, none⟩) Lp Lp, .slice none 0 0, .slice none 0 0, .slice (some ⟨gs, 0, none⟩) Ls Ls, .slice (some ⟨gz, 0, none⟩) Lz Lz] 23))
      have hapl : ApL (w10.alloc (.cells #[.slice (some ⟨gn, 0, none⟩) Ln Ln, .slice (some ⟨ga, 0, none⟩) La La, .slice (some ⟨gm, 0, none⟩) Lm Lm, .slice (some ⟨gp, 0, none⟩) Lp Lp, .slice none 0 0, .slice none 0 0, .slice (some ⟨gs, 0, none⟩) Ls Ls, .slice (some ⟨gz, 0, none⟩) Lz Lz] 23)) w10.heap.size ([(some gn, Ln), (some ga, La), (some gm, Lm), (some gp, Lp), (none, 0), (none, 0), (some gs, Ls), (some gz, Lz)] : List Ent) := by
        have hGs := HGs.out
        have hGg := HGg.out
        have hGn := HGn.out
        have hGa := HGa.out
        have hGm := HGm.out
        have hGp := HGp.out
        have hGz := HGz.out
        have hS1 := HS1.out
        have hS2 := HS2.out
        have hS3 := HS3.out
        have hS4 := HS4.out
        have hS5 := HS5.out
        have hS6 := HS6.out
        have hS7 := HS7.out
        have hS8 := HS8.out
        have hS9 := HS9.out
        have hS10 := HS10.out
        refine apl_of (Blk.new _ _ _) ?_ ?_
        · intro e he
          simp only [List.mem_cons, List.not_mem_nil, or_false] at he
          rcases he with rfl | rfl | rfl | rfl | rfl | rfl | rfl | rfl
          · exact ent_num (Rn_10.out.alloc _) (by omega) (by omega)
          · exact ent_num (Ra_10.out.alloc _) (by omega) (by omega)
          · exact ent_num (Rm_10.out.alloc _) (by omega) (by omega)
          · exact ent_num (Rp_10.out.alloc _) (by omega) (by omega)
          · exact ent_nil _ _
          · exact ent_nil _ _
          · exact ent_num (Rs_10.out.alloc _) (by omega) (by omega)
          · exact ent_num (Rz_10.out.alloc _) (by omega) (by omega)
        · show [gn, ga, gm, gp, gs, gz].Nodup
          simp only [List.nodup_cons, List.mem_cons, List.not_mem_nil, not_or, or_false, not_false_eq_true, List.nodup_nil, and_true]
          repeat' apply And.intro
          all_goals omega
      have hin : ∀ c, EntP ([(some gn, Ln), (some ga, La), (some gm, Lm), (some gp, Lp), (none, 0), (none, 0), (some gs, Ls), (some gz, Lz)] : List Ent) c → w0.heap.size ≤ c ∧ c ≠ gg := fun c hc => by
        have hGs := HGs.out
        have hGg := HGg.out
        have hGn := HGn.out
        have hGa := HGa.out
        have hGm := HGm.out
        have hGp := HGp.out
        have hGz := HGz.out
        have hS1 := HS1.out
        have hS2 := HS2.out
        have hS3 := HS3.out
        have hS4 := HS4.out
        have hS5 := HS5.out
        have hS6 := HS6.out
        have hS7 := HS7.out
        have hS8 := HS8.out
        have hS9 := HS9.out
        have hS10 := HS10.out
        have h1 : c ∈ [gn, ga, gm, gp, gs, gz] := entP_mem hc
        simp only [List.mem_cons, List.not_mem_nil, or_false] at h1
        omega
      have HIN := Lib.hid hin
      have HAP := Lib.hid (apart_any hapl (by simp))
      have HRG := Lib.hid (Rg_10.out.alloc (.cells #[.slice (some ⟨gn, 0, none⟩) Ln Ln, .slice (some ⟨ga, 0, none⟩) La La, .slice (some ⟨gm, 0, none⟩) Lm Lm, .slice (some ⟨gp, 0, none⟩) Lp Lp, .slice none 0 0, .slice none 0 0, .slice (some ⟨gs, 0, none⟩) Ls Ls, .slice (some ⟨gz, 0, none⟩) Lz Lz] 23))
      have HBS : RowKit.Hid (w0.heap.size ≤ (w10.alloc (.cells #[.slice (some ⟨gn, 0, none⟩) Ln Ln, .slice (some ⟨ga, 0, none⟩) La La, .slice (some ⟨gm, 0, none⟩) Lm Lm, .slice (some ⟨gp, 0, none⟩) Lp Lp, .slice none 0 0, .slice none 0 0, .slice (some ⟨gs, 0, none⟩) Ls Ls, .slice (some ⟨gz, 0, none⟩) Lz Lz] 23)).heap.size) := Lib.hid HBL0.out.size
      clear hapl hin
      go_wp2_with fail
      refine (HAP.out).mono ?_
      rintro e w11 ⟨rfl, hkep⟩
      have HB11 := Lib.hid (hkep.below HBL0.out HBS.out (fun c hc => (HIN.out c hc).1))
      have Rg_11 := Lib.hid (HRG.out.kep hkep (fun hc => (HIN.out _ hc).2 rfl))
      clear hkep
      go_wp2_with fail
      refine (kept_any (HXX.out.below HB11.out) (HNA.out.below HB11.out)).mono ?_
      rintro e w12 ⟨rfl, hb⟩
      have HB12 := Lib.hid (HB11.out.trans (hb.mono HB11.out.size))
      have HS12 : RowKit.Hid (w11.heap.size ≤ w12.heap.size) := Lib.hid hb.size
      have Rg_12 := Lib.hid (Rg_11.out.below hb)
      clear hb
      go_wp2_with fail
      refine (kept_any (HYY.out.below HB12.out) (HNB.out.below HB12.out)).mono ?_
      rintro e w13 ⟨rfl, hb⟩
      have HB13 := Lib.hid (HB12.out.trans (hb.mono HB12.out.size))
      have HS13 : RowKit.Hid (w12.heap.size ≤ w13.heap.size) := Lib.hid hb.size
      have Rg_13 := Lib.hid (Rg_12.out.below hb)
      clear hb
      go_wp2_with fail
      refine (refMul_num (HA.out.below HB13.out) (HB.out.below HB13.out) (by omega) (by omega)).mono ?_
      rintro e w14 ⟨hb, At, nt, ct, rfl, hr⟩
      have HB14 := Lib.hid (HB13.out.trans (hb.mono HB13.out.size))
      have HS14 : RowKit.Hid (w13.heap.size ≤ w14.heap.size) := Lib.hid hb.size
      have Rg_14 := Lib.hid (Rg_13.out.below hb)
      have Qt_14 := Lib.hid hr
      clear hb hr
      go_wp2_with fail
      refine (same_ref2 Rg_14.out Qt_14.out (by omega) rfl).mono ?_
      rintro e w15 ⟨rfl, hb⟩
      have HB15 := Lib.hid (HB14.out.trans (hb.mono HB14.out.size))
      have HS15 : RowKit.Hid (w14.heap.size ≤ w15.heap.size) := Lib.hid hb.size
      clear hb
      go_wp2_with fail
      refine (add_num (HX.out.below HB15.out) (HY.out.below HB15.out) (by omega) (by omega) rfl).mono ?_
      rintro e w16 ⟨hb, gu, Lu, rfl, hg, hr⟩
      have HB16 := Lib.hid (HB15.out.trans (hb.mono HB15.out.size))
      have HS16 : RowKit.Hid (w15.heap.size ≤ w16.heap.size) := Lib.hid hb.size
      have Ru_16 := Lib.hid hr
      have HGu : RowKit.Hid (w15.heap.size ≤ gu ∧ gu < w16.heap.size) := Lib.hid ⟨hg, hr.lt⟩
      clear hb hr hg
      go_wp2_with fail
      refine (refAdd_num (HA.out.below HB16.out) (HB.out.below HB16.out) (by omega) (by omega)).mono ?_
      rintro e w17 ⟨hb, Av, nv, cv, rfl, hr⟩
      have HB17 := Lib.hid (HB16.out.trans (hb.mono HB16.out.size))
      have HS17 : RowKit.Hid (w16.heap.size ≤ w17.heap.size) := Lib.hid hb.size
      have Ru_17 := Lib.hid (Ru_16.out.below hb)
      have Qv_17 := Lib.hid hr
      clear hb hr
      go_wp2_with fail
      refine (same_ref2 Ru_17.out Qv_17.out (by omega) rfl).mono ?_
      rintro e w18 ⟨rfl, hb⟩
      have HB18 := Lib.hid (HB17.out.trans (hb.mono HB17.out.size))
      have HS18 : RowKit.Hid (w17.heap.size ≤ w18.heap.size) := Lib.hid hb.size
      clear hb
      go_wp2_with fail
      go_ret
      exact bp_true rfl (HW2.out.trans (HB18.out.mono HW2.out.size))
    · have HPOS := Lib.hid hpos
      clear hpos
      obtain ⟨z, tt, hsm⟩ : ∃ z tt, smallV a = (z, tt) := ⟨_, _, rfl⟩
      have HSM := Lib.hid hsm
      obtain ⟨bl, hbl⟩ : ∃ bl, bln a = bl := ⟨_, rfl⟩
      have HBL := Lib.hid hbl
      clear hsm hbl
      go_wp2_with fail
      refine (divmod_num (HX.out.below HB0.out) (HY.out.below HB0.out) (by omega) (by omega) HPOS.out).mono ?_
      rintro e w1 ⟨hb, gq, Lq, gr, Lr, rfl, hg1, hg2, hne, hq, hr⟩
      have HB1 := Lib.hid (HB0.out.trans (hb.mono HB0.out.size))
      have HS1 : RowKit.Hid (w0.heap.size ≤ w1.heap.size) := Lib.hid hb.size
      have Rq_1 := Lib.hid hq
      have Rr_1 := Lib.hid hr
      have HGq : RowKit.Hid (w0.heap.size ≤ gq ∧ gq < w1.heap.size) := Lib.hid ⟨hg1, hq.lt⟩
      have HGr : RowKit.Hid (w0.heap.size ≤ gr ∧ gr < w1.heap.size) := Lib.hid ⟨hg2, hr.lt⟩
      have HNE := Lib.hid hne
      clear hb hq hr hg1 hg2 hne
      go_wp2_with fail
      refine (HSHIFT.out _ _ _ _ (HX.out.below HB1.out)).mono ?_
      rintro e w2 ⟨hb, gs, Ls, rfl, hg, hr⟩
      have HB2 := Lib.hid (HB1.out.trans (hb.mono HB1.out.size))
      have HS2 : RowKit.Hid (w1.heap.size ≤ w2.heap.size) := Lib.hid hb.size
      have Rq_2 := Lib.hid (Rq_1.out.below hb)
      have Rr_2 := Lib.hid (Rr_1.out.below hb)
      have Rs_2 := Lib.hid hr
      have HGs : RowKit.Hid (w1.heap.size ≤ gs ∧ gs < w2.heap.size) := Lib.hid ⟨hg, hr.lt⟩
      clear hb hr hg
      obtain ⟨cv, hcv⟩ := compare_some (HX.out.below HB2.out) (HY.out.below HB2.out)
      have HCV := Lib.hid hcv
      clear hcv
      go_wp2_with fail
      refine (HCV.out).mono ?_
      rintro e w3 ⟨rfl, hb⟩
      have HB3 := Lib.hid (HB2.out.trans (hb.mono HB2.out.size))
      have HS3 : RowKit.Hid (w2.heap.size ≤ w3.heap.size) := Lib.hid hb.size
      have Rq_3 := Lib.hid (Rq_2.out.below hb)
      have Rr_3 := Lib.hid (Rr_2.out.below hb)
      have Rs_3 := Lib.hid (Rs_2.out.below hb)
      clear hb
      go_wp2_with fail
      refine (bits_num (HX.out.below HB3.out) (by omega) HBL.out).mono ?_
      rintro e w' ⟨rfl, rfl⟩
      go_wp2_with fail
      refine (small_num (HX.out.below HB3.out) (by omega) (q := (z, tt)) HSM.out).mono ?_
      rintro e w' ⟨rfl, rfl⟩
      go_wp2_with fail
      refine (decimal_num (HX.out.below HB3.out) (by omega) (tab_below HT.out (HW2.out.trans (HB3.out.mono HW2.out.size)))).mono ?_
      rintro e w4 ⟨rfl, hb⟩
      have HB4 := Lib.hid (HB3.out.trans (hb.mono HB3.out.size))
      have HS4 : RowKit.Hid (w3.heap.size ≤ w4.heap.size) := Lib.hid hb.size
      have Rq_4 := Lib.hid (Rq_3.out.below hb)
      have Rr_4 := Lib.hid (Rr_3.out.below hb)
      have Rs_4 := Lib.hid (Rs_3.out.below hb)
      clear hb
      go_wp2_with fail
      refine (mul_num (HX.out.below HB4.out) (HY.out.below HB4.out) (by omega) (by omega) rfl).mono ?_
      rintro e w5 ⟨hb, gg, Lg, rfl, hg, hr⟩
      have HB5 := Lib.hid (HB4.out.trans (hb.mono HB4.out.size))
      have HS5 : RowKit.Hid (w4.heap.size ≤ w5.heap.size) := Lib.hid hb.size
      have Rq_5 := Lib.hid (Rq_4.out.below hb)
      have Rr_5 := Lib.hid (Rr_4.out.below hb)
      have Rs_5 := Lib.hid (Rs_4.out.below hb)
      have Rg_5 := Lib.hid hr
      have HGg : RowKit.Hid (w4.heap.size ≤ gg ∧ gg < w5.heap.size) := Lib.hid ⟨hg, hr.lt⟩
      clear hb hr hg
      go_wp2_with fail
      refine (norm_num' (HX.out.below HB5.out)).mono ?_
      rintro e w6 ⟨hb, gn, Ln, rfl, hg, hr⟩
      have HB6 := Lib.hid (HB5.out.trans (hb.mono HB5.out.size))
      have HS6 : RowKit.Hid (w5.heap.size ≤ w6.heap.size) := Lib.hid hb.size
      have Rq_6 := Lib.hid (Rq_5.out.below hb)
      have Rr_6 := Lib.hid (Rr_5.out.below hb)
      have Rs_6 := Lib.hid (Rs_5.out.below hb)
      have Rg_6 := Lib.hid (Rg_5.out.below hb)
      have Rn_6 := Lib.hid hr
      have HGn : RowKit.Hid (w5.heap.size ≤ gn ∧ gn < w6.heap.size) := Lib.hid ⟨hg, hr.lt⟩
      clear hb hr hg
      go_wp2_with fail
      refine (add_num (HX.out.below HB6.out) (HY.out.below HB6.out) (by omega) (by omega) rfl).mono ?_
      rintro e w7 ⟨hb, ga, La, rfl, hg, hr⟩
      have HB7 := Lib.hid (HB6.out.trans (hb.mono HB6.out.size))
      have HS7 : RowKit.Hid (w6.heap.size ≤ w7.heap.size) := Lib.hid hb.size
      have Rq_7 := Lib.hid (Rq_6.out.below hb)
      have Rr_7 := Lib.hid (Rr_6.out.below hb)
      have Rs_7 := Lib.hid (Rs_6.out.below hb)
      have Rg_7 := Lib.hid (Rg_6.out.below hb)
      have Rn_7 := Lib.hid (Rn_6.out.below hb)
      have Ra_7 := Lib.hid hr
      have HGa : RowKit.Hid (w6.heap.size ≤ ga ∧ ga < w7.heap.size) := Lib.hid ⟨hg, hr.lt⟩
      clear hb hr hg
      go_wp2_with fail
      refine (monus_num (HX.out.below HB7.out) (HY.out.below HB7.out) (by omega)).mono ?_
      rintro e w8 ⟨hb, gm, Lm, rfl, hg, hr⟩
      have HB8 := Lib.hid (HB7.out.trans (hb.mono HB7.out.size))
      have HS8 : RowKit.Hid (w7.heap.size ≤ w8.heap.size) := Lib.hid hb.size
      have Rq_8 := Lib.hid (Rq_7.out.below hb)
      have Rr_8 := Lib.hid (Rr_7.out.below hb)
      have Rs_8 := Lib.hid (Rs_7.out.below hb)
      have Rg_8 := Lib.hid (Rg_7.out.below hb)
      have Rn_8 := Lib.hid (Rn_7.out.below hb)
      have Ra_8 := Lib.hid (Ra_7.out.below hb)
      have Rm_8 := Lib.hid hr
      have HGm : RowKit.Hid (w7.heap.size ≤ gm ∧ gm < w8.heap.size) := Lib.hid ⟨hg, hr.lt⟩
      clear hb hr hg
      go_wp2_with fail
      refine (mul_num (HX.out.below HB8.out) (HY.out.below HB8.out) (by omega) (by omega) rfl).mono ?_
      rintro e w9 ⟨hb, gp, Lp, rfl, hg, hr⟩
      have HB9 := Lib.hid (HB8.out.trans (hb.mono HB8.out.size))
      have HS9 : RowKit.Hid (w8.heap.size ≤ w9.heap.size) := Lib.hid hb.size
      have Rq_9 := Lib.hid (Rq_8.out.below hb)
      have Rr_9 := Lib.hid (Rr_8.out.below hb)
      have Rs_9 := Lib.hid (Rs_8.out.below hb)
      have Rg_9 := Lib.hid (Rg_8.out.below hb)
      have Rn_9 := Lib.hid (Rn_8.out.below hb)
      have Ra_9 := Lib.hid (Ra_8.out.below hb)
      have Rm_9 := Lib.hid (Rm_8.out.below hb)
      have Rp_9 := Lib.hid hr
      have HGp : RowKit.Hid (w8.heap.size ≤ gp ∧ gp < w9.heap.size) := Lib.hid ⟨hg, hr.lt⟩
      clear hb hr hg
      go_wp2_with fail
      refine (norm_num' (HX.out.below HB9.out)).mono ?_
      rintro e w10 ⟨hb, gz, Lz, rfl, hg, hr⟩
      have HB10 := Lib.hid (HB9.out.trans (hb.mono HB9.out.size))
      have HS10 : RowKit.Hid (w9.heap.size ≤ w10.heap.size) := Lib.hid hb.size
      have Rq_10 := Lib.hid (Rq_9.out.below hb)
      have Rr_10 := Lib.hid (Rr_9.out.below hb)
      have Rs_10 := Lib.hid (Rs_9.out.below hb)
      have Rg_10 := Lib.hid (Rg_9.out.below hb)
      have Rn_10 := Lib.hid (Rn_9.out.below hb)
      have Ra_10 := Lib.hid (Ra_9.out.below hb)
      have Rm_10 := Lib.hid (Rm_9.out.below hb)
      have Rp_10 := Lib.hid (Rp_9.out.below hb)
      have Rz_10 := Lib.hid hr
      have HGz : RowKit.Hid (w9.heap.size ≤ gz ∧ gz < w10.heap.size) := Lib.hid ⟨hg, hr.lt⟩
      clear hb hr hg
      have HBL0 := Lib.hid (HB10.out.alloc HB10.out.size (.cells #[.slice (some ⟨gn, 0, none⟩) Ln Ln, .slice (some ⟨ga, 0, none⟩) La La, .slice (some ⟨gm, 0, none⟩) Lm Lm, .slice (some ⟨gp, 0, none⟩) Lp Lp, .slice (some ⟨gq, 0, none⟩) Lq Lq, .slice (some ⟨gr, 0, none⟩) Lr Lr, .slice (some ⟨gs, 0, none⟩) Ls Ls, .slice (some ⟨gz, 0, none⟩) Lz Lz] 23))
      have hapl : ApL (w10.alloc (.cells #[.slice (some ⟨gn, 0, none⟩) Ln Ln, .slice (some ⟨ga, 0, none⟩) La La, .slice (some ⟨gm, 0, none⟩) Lm Lm, .slice (some ⟨gp, 0, none⟩) Lp Lp, .slice (some ⟨gq, 0, none⟩) Lq Lq, .slice (some ⟨gr, 0, none⟩) Lr Lr, .slice (some ⟨gs, 0, none⟩) Ls Ls, .slice (some ⟨gz, 0, none⟩) Lz Lz] 23)) w10.heap.size ([(some gn, Ln), (some ga, La), (some gm, Lm), (some gp, Lp), (some gq, Lq), (some gr, Lr), (some gs, Ls), (some gz, Lz)] : List Ent) := by
        have hGq := HGq.out
        have hGr := HGr.out
        have hGs := HGs.out
        have hGg := HGg.out
        have hGn := HGn.out
        have hGa := HGa.out
        have hGm := HGm.out
        have hGp := HGp.out
        have hGz := HGz.out
        have hS1 := HS1.out
        have hS2 := HS2.out
        have hS3 := HS3.out
        have hS4 := HS4.out
        have hS5 := HS5.out
        have hS6 := HS6.out
        have hS7 := HS7.out
        have hS8 := HS8.out
        have hS9 := HS9.out
        have hS10 := HS10.out
        have hNE := HNE.out
        refine apl_of (Blk.new _ _ _) ?_ ?_
        · intro e he
          simp only [List.mem_cons, List.not_mem_nil, or_false] at he
          rcases he with rfl | rfl | rfl | rfl | rfl | rfl | rfl | rfl
          · exact ent_num (Rn_10.out.alloc _) (by omega) (by omega)
          · exact ent_num (Ra_10.out.alloc _) (by omega) (by omega)
          · exact ent_num (Rm_10.out.alloc _) (by omega) (by omega)
          · exact ent_num (Rp_10.out.alloc _) (by omega) (by omega)
          · exact ent_num (Rq_10.out.alloc _) (by omega) (by omega)
          · exact ent_num (Rr_10.out.alloc _) (by omega) (by omega)
          · exact ent_num (Rs_10.out.alloc _) (by omega) (by omega)
          · exact ent_num (Rz_10.out.alloc _) (by omega) (by omega)
        · show [gn, ga, gm, gp, gq, gr, gs, gz].Nodup
          simp only [List.nodup_cons, List.mem_cons, List.not_mem_nil, not_or, or_false, not_false_eq_true, List.nodup_nil, and_true]
          repeat' apply And.intro
          all_goals omega
      have hin : ∀ c, EntP ([(some gn, Ln), (some ga, La), (some gm, Lm), (some gp, Lp), (some gq, Lq), (some gr, Lr), (some gs, Ls), (some gz, Lz)] : List Ent) c → w0.heap.size ≤ c ∧ c ≠ gg := fun c hc => by
        have hGq := HGq.out
        have hGr := HGr.out
        have hGs := HGs.out
        have hGg := HGg.out
        have hGn := HGn.out
        have hGa := HGa.out
        have hGm := HGm.out
        have hGp := HGp.out
        have hGz := HGz.out
        have hS1 := HS1.out
        have hS2 := HS2.out
        have hS3 := HS3.out
        have hS4 := HS4.out
        have hS5 := HS5.out
        have hS6 := HS6.out
        have hS7 := HS7.out
        have hS8 := HS8.out
        have hS9 := HS9.out
        have hS10 := HS10.out
        have hNE := HNE.out
        have h1 : c ∈ [gn, ga, gm, gp, gq, gr, gs, gz] := entP_mem hc
        simp only [List.mem_cons, List.not_mem_nil, or_false] at h1
        omega
      have HIN := Lib.hid hin
      have HAP := Lib.hid (apart_any hapl (by simp))
      have HRG := Lib.hid (Rg_10.out.alloc (.cells #[.slice (some ⟨gn, 0, none⟩) Ln Ln, .slice (some ⟨ga, 0, none⟩) La La, .slice (some ⟨gm, 0, none⟩) Lm Lm, .slice (some ⟨gp, 0, none⟩) Lp Lp, .slice (some ⟨gq, 0, none⟩) Lq Lq, .slice (some ⟨gr, 0, none⟩) Lr Lr, .slice (some ⟨gs, 0, none⟩) Ls Ls, .slice (some ⟨gz, 0, none⟩) Lz Lz] 23))
      have HBS : RowKit.Hid (w0.heap.size ≤ (w10.alloc (.cells #[.slice (some ⟨gn, 0, none⟩) Ln Ln, .slice (some ⟨ga, 0, none⟩) La La, .slice (some ⟨gm, 0, none⟩) Lm Lm, .slice (some ⟨gp, 0, none⟩) Lp Lp, .slice (some ⟨gq, 0, none⟩) Lq Lq, .slice (some ⟨gr, 0, none⟩) Lr Lr, .slice (some ⟨gs, 0, none⟩) Ls Ls, .slice (some ⟨gz, 0, none⟩) Lz Lz] 23)).heap.size) := Lib.hid HBL0.out.size
      clear hapl hin
      go_wp2_with fail
      refine (HAP.out).mono ?_
      rintro e w11 ⟨rfl, hkep⟩
      have HB11 := Lib.hid (hkep.below HBL0.out HBS.out (fun c hc => (HIN.out c hc).1))
      have Rg_11 := Lib.hid (HRG.out.kep hkep (fun hc => (HIN.out _ hc).2 rfl))
      clear hkep
      go_wp2_with fail
      refine (kept_any (HXX.out.below HB11.out) (HNA.out.below HB11.out)).mono ?_
      rintro e w12 ⟨rfl, hb⟩
      have HB12 := Lib.hid (HB11.out.trans (hb.mono HB11.out.size))
      have HS12 : RowKit.Hid (w11.heap.size ≤ w12.heap.size) := Lib.hid hb.size
      have Rg_12 := Lib.hid (Rg_11.out.below hb)
      clear hb
      go_wp2_with fail
      refine (kept_any (HYY.out.below HB12.out) (HNB.out.below HB12.out)).mono ?_
      rintro e w13 ⟨rfl, hb⟩
      have HB13 := Lib.hid (HB12.out.trans (hb.mono HB12.out.size))
      have HS13 : RowKit.Hid (w12.heap.size ≤ w13.heap.size) := Lib.hid hb.size
      have Rg_13 := Lib.hid (Rg_12.out.below hb)
      clear hb
      go_wp2_with fail
      refine (refMul_num (HA.out.below HB13.out) (HB.out.below HB13.out) (by omega) (by omega)).mono ?_
      rintro e w14 ⟨hb, At, nt, ct, rfl, hr⟩
      have HB14 := Lib.hid (HB13.out.trans (hb.mono HB13.out.size))
      have HS14 : RowKit.Hid (w13.heap.size ≤ w14.heap.size) := Lib.hid hb.size
      have Rg_14 := Lib.hid (Rg_13.out.below hb)
      have Qt_14 := Lib.hid hr
      clear hb hr
      go_wp2_with fail
      refine (same_ref2 Rg_14.out Qt_14.out (by omega) rfl).mono ?_
      rintro e w15 ⟨rfl, hb⟩
      have HB15 := Lib.hid (HB14.out.trans (hb.mono HB14.out.size))
      have HS15 : RowKit.Hid (w14.heap.size ≤ w15.heap.size) := Lib.hid hb.size
      clear hb
      go_wp2_with fail
      refine (add_num (HX.out.below HB15.out) (HY.out.below HB15.out) (by omega) (by omega) rfl).mono ?_
      rintro e w16 ⟨hb, gu, Lu, rfl, hg, hr⟩
      have HB16 := Lib.hid (HB15.out.trans (hb.mono HB15.out.size))
      have HS16 : RowKit.Hid (w15.heap.size ≤ w16.heap.size) := Lib.hid hb.size
      have Ru_16 := Lib.hid hr
      have HGu : RowKit.Hid (w15.heap.size ≤ gu ∧ gu < w16.heap.size) := Lib.hid ⟨hg, hr.lt⟩
      clear hb hr hg
      go_wp2_with fail
      refine (refAdd_num (HA.out.below HB16.out) (HB.out.below HB16.out) (by omega) (by omega)).mono ?_
      rintro e w17 ⟨hb, Av, nv, cv, rfl, hr⟩
      have HB17 := Lib.hid (HB16.out.trans (hb.mono HB16.out.size))
      have HS17 : RowKit.Hid (w16.heap.size ≤ w17.heap.size) := Lib.hid hb.size
      have Ru_17 := Lib.hid (Ru_16.out.below hb)
      have Qv_17 := Lib.hid hr
      clear hb hr
      go_wp2_with fail
      refine (same_ref2 Ru_17.out Qv_17.out (by omega) rfl).mono ?_
      rintro e w18 ⟨rfl, hb⟩
      have HB18 := Lib.hid (HB17.out.trans (hb.mono HB17.out.size))
      have HS18 : RowKit.Hid (w17.heap.size ≤ w18.heap.size) := Lib.hid hb.size
      clear hb
      go_wp2_with fail
      go_ret
      exact bp_true rfl (HW2.out.trans (HB18.out.mono HW2.out.size))

end Go.Proofs.YtgiepikoffaaiaaDoor
