/- DivMod by many words. -/
import Derived.Test.YtgiepikoffaaiaaDoorAppFull
import Derived.Test.YtgiepikoffaaiaaDoorRaised
import Derived.Test.YtgiepikoffaaiaaDoorLowered
namespace Go.Proofs.YtgiepikoffaaiaaDoor
open Go Go.RowKit

/-- A window of a row. -/
theorem slice_win (g L c off m : Nat) (hm : off + m ≤ L) (h0 : 0 < m) (hc : L ≤ c) (w : World) : (Instr.slice 23 (.slice (some ⟨g, 0, none⟩) L c) (some (.int .i64 (off : Int))) (some (.int .i64 ((off : Int) + (m : Int)))) none).run Tryd.prog w = .ok (.slice (some ⟨g, off, none⟩) m (c - off)) w := by
  go_simp
  rw [if_pos (by omega), if_pos (by omega), if_neg (by omega), show ((off : Int) + (m : Int)).toNat - off = m from by omega]

theorem wds_top {v : Nat} (h : 0 < v) : wd (wds v) ((wds v).length - 1) ≠ 0 := by
  intro hz
  have hl : 0 < (wds v).length := by
    rw [wds_pos (by omega)]; simp
  obtain ⟨k, hk⟩ : ∃ k, (wds v).length = k + 1 := ⟨(wds v).length - 1, by omega⟩
  rw [hk, Nat.add_sub_cancel] at hz
  have h1 := val_take_succ (wds v) k
  rw [val_take_all (by omega), hz, Nat.mul_zero, Nat.add_zero, val_wds] at h1
  have h2 := val_lt (ok_take (ok_wds v) k)
  rw [← h1, List.length_take, Nat.min_eq_left (by omega)] at h2
  have h3 := wds_len h2
  omega

set_option maxRecDepth 100000 in
set_option maxHeartbeats 2000000 in
theorem divmod_long {A B : Option Addr} {n c m d : Nat} {a b : List Nat} {w : World} (ha : NatV w A n c a) (hb : NatV w B m d b) (hsn : n ≤ 10000) (hle : val b ≤ val a) (hw : 4294967296 ≤ val b) :
    Calls Tryd.prog 14 #[.slice A n c, .slice B m d] w (DivPost (wds (val a / val b)) (wds (val a % val b)) w) := by
  obtain ⟨i0, hi, hy0, hy1, hy2⟩ := info_parts infoU
  have HI0 := Lib.hid hi
  have HY0 := Lib.hid hy0
  have HY1 := Lib.hid hy1
  have HY2 := Lib.hid hy2
  clear hi hy0 hy1 hy2
  have HNORM := Lib.hid (norm_any hb)
  have HA := Lib.hid ha
  have hal : ∀ s, s < 32 → (wds (val a * 2 ^ s)).length ≤ n + 1 := fun s hs => by
    have h1 := val_lt ha.ok
    rw [ha.len] at h1
    refine wds_len ?_
    rw [pw_succ, Nat.mul_comm]
    exact Nat.mul_lt_mul_of_lt_of_le (Nat.lt_of_lt_of_le (Nat.pow_lt_pow_right (by decide) hs) (by decide)) (Nat.le_of_lt h1) (pw_pos _)
  have HAL := Lib.hid hal
  clear hal
  obtain ⟨ci, hci2⟩ : ∃ ci, ci = cmpI (val a) (val b) := ⟨_, rfl⟩
  have hci : 0 ≤ ci := by
    rw [hci2]; unfold cmpI
    rw [if_neg (by omega)]
    split <;> omega
  have hcn : decide (ci < 0) = false := decide_eq_false (by omega)
  have hbn : (wds (val b)).length ≤ n := by
    have h1 := val_lt ha.ok
    rw [ha.len] at h1
    exact wds_len (by omega)
  have hcmp : ∀ w2 g2, NatV w2 A n c a → RowB w2 g2 (wds (val b)) → Calls Tryd.prog 25 #[.slice A n c, .slice (some ⟨g2, 0, none⟩) (wds (val b)).length (wds (val b)).length] w2 fun e w' => e = .returned (.int .i64 ci) ∧ Below w2.heap.size w2 w' := fun w2 g2 h1 h2 => by
    have := compare_any h1 (h2.natV (ok_wds _) (by omega))
    rwa [val_wds, ← hci2] at this
  have HCMP := Lib.hid hcmp
  have hl2 := wds_two hw
  have htop := wds_top (v := val b) (by omega)
  have hxl := wd_lt (ok_wds (val b)) ((wds (val b)).length - 1)
  generalize val b = V at *
  obtain ⟨k, hk⟩ : ∃ k, (wds V).length = k + 1 := ⟨(wds V).length - 1, by omega⟩
  rw [hk, Nat.add_sub_cancel] at htop hxl
  have HK := Lib.hid hk
  have hblb := bl_bounds (wd (wds V) k) htop hxl
  have hbl2 := bl_le (wd (wds V) k) hxl
  have hlz := fun w => Tryd.bits_LeadingZeros32 ((wd (wds V) k : Nat) : Int) w (by omega) (by omega)
  rw [Int.toNat_natCast] at hlz
  have HCELL : RowKit.Hid (∀ w2 g2, RowB w2 g2 (wds V) → w2.cell? ⟨g2, k, none⟩ = some (.int .u32 ((wd (wds V) k : Nat) : Int))) := Lib.hid fun w2 g2 h => RowB.cell h (by omega)
  generalize wd (wds V) k = x at *
  obtain ⟨s, hs⟩ : ∃ s, s = 32 - Lib.bitLen x := ⟨_, rfl⟩
  have hsi : (32 : Int) - ((Lib.bitLen x : Nat) : Int) = (s : Int) := by omega
  have hs32 : s < 32 := by omega
  simp only [hsi] at hlz
  have HLZ := Lib.hid hlz
  rw [hk] at hcmp HCMP hbn
  have hk1 : 0 < k := by omega
  clear ha hb hcmp hci2 hlz hblb hbl2 hs hsi htop hl2 hk
  go_enter Tryd.func14, Tryd.ntmps14
  go_wp2_with fail
  refine (HNORM.out).mono ?_
  rintro e w2 ⟨hb2, g2, rfl, hg2, hr2⟩
  rw [HK.out]
  go_wp2_with fail
  refine (HCMP.out _ _ (HA.out.below hb2) hr2).mono ?_
  rintro e w3 ⟨rfl, hb3⟩
  have hr3 := hr2.below hb3 hr2.lt
  have hc3 := HCELL.out _ _ hr3
  have HB3 := Lib.hid (hb2.trans (hb3.mono hb2.size))
  have HR3 := Lib.hid hr3
  clear hb2 hb3 hr2 hr3
  go_wp2_with fail
  refine (HLZ.out _).mono ?_
  rintro e w4 ⟨rfl, rfl⟩
  have hnb : NatV w4 (some ⟨g2, 0, none⟩) (k + 1) (k + 1) (wds V) := by
    have := RowB.natV HR3.out (ok_wds V) (by rw [HK.out]; omega)
    rwa [HK.out] at this
  have HRB := Lib.hid (raised_any hnb (by omega) s hs32)
  rw [val_wds] at HRB
  clear hnb
  go_wp2_with fail
  refine (HRB.out).mono ?_
  rintro e w5 ⟨hb5, g5, rfl, hg5, hr5⟩
  have HB5 := Lib.hid (HB3.out.trans (hb5.mono HB3.out.size))
  have HR5 := Lib.hid hr5
  have HG5 := Lib.hid hg5
  have HRA := Lib.hid (raised_any (HA.out.below HB5.out) (by omega) s hs32)
  clear hb5 hr5 hg5
  go_wp2_with fail
  refine (HRA.out).mono ?_
  rintro e w6 ⟨hb6, g6, rfl, hg6, hr6⟩
  have HB6 := Lib.hid (HB5.out.trans (hb6.mono HB5.out.size))
  have HR6 := Lib.hid hr6
  have HG6 := Lib.hid hg6
  have HR56 := Lib.hid (HR5.out.below hb6 HR5.out.lt)
  clear hb6 hr6 hg6
  obtain ⟨X, hX⟩ : ∃ X, X = wds (val a * 2 ^ s) := ⟨_, rfl⟩
  have hXl := HAL.out s hs32
  rw [← hX] at hXl
  rw [← hX] at HR6
  rw [← hX]
  have HX := Lib.hid hX
  clear hX
  have hs6 := HR6.out.lt
  have hbs6 : w5.heap.size ≤ w6.heap.size := by have := HG6.out; omega
  obtain ⟨D, hD⟩ : ∃ D, D = wds (V * 2 ^ s) := ⟨_, rfl⟩
  have hDX : D.length ≤ X.length := by
    rw [hD, HX.out]
    exact wds_len (Nat.lt_of_le_of_lt (Nat.mul_le_mul_right _ hle) (by have := val_lt (ok_wds (val a * 2 ^ s)); rwa [val_wds] at this))
  rw [← hD] at HR5 HR56
  rw [← hD]
  have HD := Lib.hid hD
  obtain ⟨qn, hqn⟩ : ∃ qn, qn = X.length + 1 - D.length := ⟨_, rfl⟩
  have hqi : (X.length : Int) + 1 - (D.length : Int) = (qn : Int) := by omega
  have hmk := make_nat qn (by omega)
  have hqle : qn ≤ X.length + 1 := by omega
  have HQN := Lib.hid hqn
  clear hD hqn
  go_wp2_with (at_builtin; refine wpList_oper rfl (oper_append_full (.tmp 54) (.tmp 55) rfl HR6.out (by omega) rfl rfl rfl ?_); intro g7 c7 z7 w7 hc7 hg7 hb7 hr7)
  clear hmk
  obtain ⟨hD1, hDT⟩ : 0 < D.length ∧ wd D (D.length - 1) ≠ 0 := by
    rw [HD.out]
    have h1 : 0 < V * 2 ^ s := Nat.mul_pos (by omega) (Nat.pow_pos (by decide))
    refine ⟨List.length_pos_iff.2 fun e => ?_, wds_top h1⟩
    have := wds_nil.1 e
    omega
  have HDT := Lib.hid hDT
  have HOD : RowKit.Hid (Ok D) := Lib.hid (by rw [HD.out]; exact ok_wds _)
  have HOX : RowKit.Hid (Ok X) := Lib.hid (by rw [HX.out]; exact ok_wds _)
  have HST := Lib.hid (LongS.start HOX.out hD1 hDT hDX HQN.out z7)
  have HB67 := Lib.hid hb7
  have HR7 := Lib.hid hr7
  have hg7l := hr7.lt
  have hg5 := HR56.out.lt
  have hqn0 : 0 < qn := by have := HQN.out; omega
  clear hb7 hr7 hDT
  go_loopw [14] (fun av wr => ∃ (t : Nat) (l qs : List Nat), av = .int .i64 ((t : Int) - 1) ∧ t ≤ qn ∧ RowKit.Hid (LongS X D (X.length + 1 + z7) qn t l qs) ∧ RowKit.Hid (RowB wr g7 l) ∧ RowKit.Hid (RowB wr w7.heap.size qs) ∧ RowKit.Hid (Below w6.heap.size w6 wr)) (fun i _ => (intOf i + 1).toNat)
  case atStart => exact ⟨qn, _, _, rfl, Nat.le_refl _, HST, Lib.hid (Blk.alloc HR7.out _), Lib.hid (Blk.new _ _ _), Lib.hid (HB67.out.alloc (by omega) _)⟩
  case round =>
    obtain ⟨t, l, qs, rfl, ht, hls, hrow, hqrow, hbw⟩ := hrel
    by_cases h0 : t = 0
    · subst h0
      have hbs : 0 < 2 ^ s := Nat.pow_pos (by decide)
      obtain ⟨hv1, hv2⟩ := hls.out.fin (A := val a) (V := V) (B := 2 ^ s) (by rw [HX.out, val_wds]) (by rw [HD.out, val_wds]) hbs
      have hn1 := norm_any (hqrow.out.natV hls.out.qok (by rw [hls.out.qlen]; omega))
      rw [hv1, hls.out.qlen] at hn1
      have HN1 := Lib.hid hn1
      have hvt := hls.out.take HOD.out (n := X.length + 1) (by omega)
      have hlL := hls.out.len
      have hln : (wds (val l)).length ≤ 10001 := by
        have h1 := hls.out.low
        rw [List.drop_zero] at h1
        have h2 := wds_len (Nat.lt_trans h1 (val_lt HOD.out))
        omega
      have HR := Lib.hid (RowB.part hrow.out hls.out.ok (n := X.length + 1) (c := c7) (by omega) hc7 (by omega))
      clear hv1 hn1 hbs
      have HB6W := Lib.hid (HB6.out.trans (hbw.out.mono HB6.out.size))
      obtain ⟨R, hRR⟩ : ∃ R, R = val l := ⟨_, rfl⟩
      rw [← hRR] at hln hvt hv2
      have HV3 := Lib.hid hv2
      have HV2 : RowKit.Hid (val (l.take (X.length + 1)) = R) := Lib.hid hvt
      clear hvt hv2 hRR
      obtain ⟨QV, hQV⟩ : ∃ QV, QV = wds (val a / V) := ⟨_, rfl⟩
      rw [← hQV] at HN1
      have HQV := Lib.hid hQV
      clear hQV
      go_wp2_with fail
      refine (HN1.out).mono ?_
      rintro e w9 ⟨hb9, g9, rfl, hg9, hr9⟩
      have hn2 := norm_any (HR.out.below hb9)
      rw [HV2.out] at hn2
      have HN2 := Lib.hid hn2
      have HR9 := Lib.hid hr9
      have HG9 := Lib.hid hg9
      have HB9 := Lib.hid (HB6W.out.trans (hb9.mono HB6W.out.size))
      clear hn2 hr9 hg9 hb9
      go_wp2_with fail
      refine (HN2.out).mono ?_
      rintro e w10 ⟨hb10, g10, rfl, hg10, hr10⟩
      have hlw := lowered_any (RowB.natV hr10 (ok_wds _) (by omega)) (by omega) s hs32
      rw [val_wds] at hlw
      have HLW := Lib.hid hlw
      have HR10 := Lib.hid (HR9.out.below hb10 HR9.out.lt)
      have HB10 := Lib.hid (HB9.out.trans (hb10.mono HB9.out.size))
      clear hlw hb10 hg10 hr10
      go_wp2_with fail
      refine (HLW.out).mono ?_
      rintro e w11 ⟨hb11, g11, rfl, hg11, hr11⟩
      have HR11 := Lib.hid (HR10.out.below hb11 HR10.out.lt)
      have HB11 := Lib.hid (HB10.out.trans (hb11.mono HB10.out.size))
      have HS := Lib.hid (And.intro HR10.out.lt (And.intro hg11 hr11))
      clear hb11 hr11 hg11
      go_wp2_with fail
      go_ret3
      rw [← HQV.out, ← HV3.out]
      have h1 := HG9.out
      have h2 := HB6W.out.size
      have h3 := HB10.out.size
      obtain ⟨h4, h5, h6⟩ := HS.out
      exact ⟨HB11.out, g9, g11, rfl, by omega, by omega, by omega, HR11.out, h6⟩
    · obtain ⟨t, rfl⟩ : ∃ u, t = u + 1 := ⟨t - 1, by omega⟩
      rw [show (((t + 1 : Nat) : Int) - 1) = (t : Int) from by omega]
      have hsl : ∀ w, (Instr.slice 23 (.slice (some ⟨g7, 0, none⟩) (X.length + 1) c7) (some (.int .i64 (t : Int))) (some (.int .i64 ((t : Int) + (D.length : Int) + 1))) none).run Tryd.prog w = .ok (.slice (some ⟨g7, t, none⟩) (D.length + 1) (c7 - t)) w := fun w => by
        have := slice_win g7 (X.length + 1) c7 t (D.length + 1) (by have := HQN.out; omega) (by omega) hc7 w
        rwa [show ((t : Int) + ((D.length + 1 : Nat) : Int)) = (t : Int) + (D.length : Int) + 1 from by omega] at this
      have HDG := Lib.hid (digit_any (off := t) (m := D.length + 1) (cc := c7 - t) (RowB.natO (HR56.out.below hbw.out hg5) HOD.out (by omega) (show g5 ≠ g7 from by omega)) hrow.out rfl (by rw [hls.out.len]; have := HQN.out; omega) (by have := HQN.out; omega) hls.out.ok hD1 HDT.out (long_part hls.out.ok hls.out.low))
      go_wp2_with fail
      refine (HDG.out).mono ?_
      rintro e wd2 ⟨hgr, l', q, rfl, hq, hr', hse, hv, hlt⟩
      clear hsl
      have hlq := hqrow.out.lt
      have hqr2 : RowB wd2 w7.heap.size qs := (hgr.block _ hlq (fun e => by injection e with e; omega)).trans hqrow.out
      have hc0 := RowB.cell hqr2 (i := t) (by rw [hls.out.qlen]; omega)
      generalize wd qs t = qold at hc0
      have hfz := Blk.frozen hqr2
      have HBW2 := Lib.hid (hbw.out.grown hgr hbw.out.size (fun k hk => by injection hk with hk; omega))
      have HQR2 := Lib.hid hqr2
      have HR2 := Lib.hid hr'
      have HLS := Lib.hid (hls.out.step HOD.out hse (by omega) hq hv hlt)
      clear hqr2 hgr hr' hse hv hlt
      have htq : (t : Int) < (qn : Int) := by omega
      go_wp2_with fail
      go_roundw
      case rel => exact ⟨t, l', qs.set t q, by go_num, by omega, HLS, Lib.hid (Blk.far HR2.out (by simp; omega) _), Lib.hid (by
        have := HQR2.out.set_ t (.int .u32 (q : Int))
        rwa [cellsU_set] at this), Lib.hid (HBW2.out.setCell (by simp; omega) _)⟩
      case measure => simp [intOf]

end Go.Proofs.YtgiepikoffaaiaaDoor
