/- Parse of the reference. -/
import Derived.Test.YtgiepikoffaaiaaDoorOwnPlus
import Derived.Test.YtgiepikoffaaiaaDoorRefShift
import Derived.Test.YtgiepikoffaaiaaDoorBackP
namespace Go.Proofs.YtgiepikoffaaiaaDoor
open Go Go.RowKit

/-- What Parse of the reference answers. -/
def RParsePost (l : List UInt8) (w : World) (e : Ending) (w' : World) : Prop := if numB l = true then RNatOkPost (dnum l) w e w' else Below w.heap.size w w' ∧ e = .returned (.tuple #[.slice none 0 0, .int .i64 3])
theorem rparse_bad {l : List UInt8} (h : numB l = false) {w : World} {e : Ending} {w' : World} (hb : Below w.heap.size w w') (he : e = .returned (.tuple #[.slice none 0 0, .int .i64 3])) : RParsePost l w e w' := by
  unfold RParsePost
  rw [h]
  exact ⟨hb, he⟩
theorem val8_map10 : ∀ l : List Nat, val8 (l.map (10 * ·)) = 10 * val8 l
  | [] => rfl
  | x :: l => by simp only [List.map_cons, val8, val8_map10 l]; omega
/-- The first k digits ten times as great. -/
structure TenS (o : List Nat) (k : Nat) (p : List Nat) : Prop where
  len : p.length = o.length
  dig : ∀ j, dg8 p j = if j < k then 10 * dg8 o j else dg8 o j
theorem TenS.step {o p : List Nat} {k : Nat} (h : TenS o k p) (hk : k < o.length) : TenS o (k + 1) (p.set k (10 * dg8 p k)) := by
  refine ⟨by rw [List.length_set, h.len], fun j => ?_⟩
  rw [wd_set8 (by rw [h.len]; exact hk)]
  have h1 := h.dig k
  rw [if_neg (by omega)] at h1
  by_cases e : j = k
  · subst e; rw [if_pos rfl, if_pos (by omega), h1]
  · rw [if_neg e, h.dig j]
    by_cases hj : j < k
    · rw [if_pos hj, if_pos (by omega)]
    · rw [if_neg hj, if_neg (by omega)]
theorem TenS.all {o p : List Nat} (h : TenS o o.length p) : p = o.map (10 * ·) := by
  refine dg8_ext (by rw [h.len, List.length_map]) (fun j => ?_)
  rw [h.dig j]
  by_cases hj : j < o.length
  · rw [if_pos hj, wd_eq8 hj, wd_eq8 (by rw [List.length_map]; exact hj), List.getElem_map]
  · rw [if_neg hj, wd_out8 (by omega), wd_out8 (by rw [List.length_map]; omega)]
theorem TenS.small {o p : List Nat} {k : Nat} (ho : Ok8 o) (h : TenS o k p) (j : Nat) : dg8 p j ≤ 10000 := by
  have h1 := wd_lt8 ho j
  rw [h.dig j]
  split <;> omega
theorem dig_one {w : World} {g d : Nat} (h : Blk w g 3 #[.int .i64 (d : Int)]) (hg : g < w.heap.size) : DigR w (some ⟨g, 0, none⟩) 1 1 [d] := by
  refine ⟨rfl, Nat.le_refl _, by omega, (fun e => by cases e), fun _ => ⟨g, 0, rfl, hg, fun k hk => ?_⟩⟩
  obtain rfl : k = 0 := by omega
  have := h.cell 0
  simpa [dg8] using this
theorem dnum_dgs {l : List UInt8} (h : l.all isDig = true) : (dgs (dnum l)).length ≤ l.length := by
  have h1 := dnum_lt h
  have h2 : 10 ^ l.length ≤ pw8 l.length := Nat.pow_le_pow_left (by decide) _
  exact wds_len8 (by omega)
theorem all_take {l : List UInt8} (h : l.all isDig = true) (k : Nat) : (l.take k).all isDig = true := by
  rw [List.all_eq_true] at h ⊢
  exact fun x hx => h x (List.mem_of_mem_take hx)

set_option maxRecDepth 100000 in
set_option maxHeartbeats 8000000 in
theorem refParse_any (s : ByteArray) (w : World) (hsz : s.size ≤ 900) :
    Calls Tryd.prog 36 #[.string s] w (RParsePost s.data.toList w) := by
  have hll : s.data.toList.length = s.size := rfl
  by_cases h0 : s.size = 0
  · have hnil : s.data.toList = [] := List.eq_nil_of_length_eq_zero (by omega)
    obtain rfl := str_nil s hnil
    go_enter Tryd.func36, Tryd.ntmps36
    go_wp2_with fail
    go_ret2
    exact rparse_bad rfl (Below.refl _ _) rfl
  · have hp : 0 < s.size := by omega
    have hd0 : s.data.toList.getD 0 0 = s[0] := by
      have h1 : 0 < s.data.toList.length := by omega
      rw [List.getD_eq_getElem?_getD, List.getElem?_eq_getElem h1]
      rfl
    by_cases hz : s[0].toNat = 48 ∧ 1 < s.size
    · obtain ⟨hz1, hz2⟩ := hz
      have hbad : numB s.data.toList = false := by
        unfold numB
        rw [hd0, hll, decide_eq_true hz2]
        have : (s[0] == 48) = true := by rw [beq_iff_eq]; apply UInt8.toNat_inj.1; rw [hz1]; rfl
        rw [this]; simp
      have HBAD := Lib.hid hbad
      clear hbad hd0
      go_enter Tryd.func36, Tryd.ntmps36
      go_wp2_with fail
      go_ret2
      exact rparse_bad HBAD.out (Below.refl _ _) rfl
    · have HFIRST : RowKit.Hid (s.data.toList.all isDig = true → numB s.data.toList = true) := Lib.hid fun ha => by
        unfold numB
        rw [hd0, hll, ha]
        have e1 : s.data.toList.isEmpty = false := by
          rw [List.isEmpty_eq_false_iff]
          intro e
          rw [e] at hll
          simp at hll
          omega
        rw [e1]
        have e2 : (s[0] == 48 && decide (1 < s.size)) = false := by
          rw [Bool.and_eq_false_iff]
          by_cases hx : s[0].toNat = 48
          · right; exact decide_eq_false fun h => hz ⟨hx, h⟩
          · left
            rw [beq_eq_false_iff_ne]
            intro e
            apply hx
            rw [e]; rfl
        rw [e2]; rfl
      clear hd0
      have hways : (¬ 1 < s.size) ∨ (1 < s.size ∧ ¬ s[0].toNat = 48) := by omega
      clear hz
      have hb1 : ((s.size : Int) == 0) = false := beq_eq_false_iff_ne.2 (by omega)
      rcases hways with hz1 | ⟨hz1, hz2⟩
      case' inr => have hb2 : ((s[0].toNat : Int) == 48) = false := beq_eq_false_iff_ne.2 (by omega)
      all_goals
        go_enter Tryd.func36, Tryd.ntmps36
        go_wp2_with fail
        go_loop [5] (fun i => ∃ k : Nat, k ≤ s.size ∧ i = .int .i64 (k : Int) ∧ RowKit.Hid (∀ j, j < k → isDig (s.data.toList.getD j 0) = true)) (fun i => s.size - (intOf i).toNat)
        case atStart => exact ⟨0, Nat.zero_le _, rfl, Lib.hid fun j hj => absurd hj (by omega)⟩
        case round =>
          obtain ⟨k, hk, rfl, hd⟩ := hrel
          by_cases hlt : k < s.size
          · have hg := getD_byte s k hlt
            by_cases h48 : s[k].toNat < 48
            · have HBAD := Lib.hid (bad_digit (l := s.data.toList) (k := k) hlt (by rw [hg]; exact isDig_lo h48))
              clear hg
              go_wp2_with fail
              go_ret2
              exact rparse_bad HBAD.out (Below.refl _ _) rfl
            · by_cases h57 : 57 < s[k].toNat
              · have HBAD := Lib.hid (bad_digit (l := s.data.toList) (k := k) hlt (by rw [hg]; exact isDig_hi h57))
                clear hg
                go_wp2_with fail
                go_ret2
                exact rparse_bad HBAD.out (Below.refl _ _) rfl
              · have HG : RowKit.Hid (isDig (s.data.toList.getD k 0) = true) := Lib.hid (by rw [hg]; exact isDig_ok (by omega) (by omega))
                clear hg
                go_wp2_with fail
                go_round
                case rel => exact ⟨k + 1, by omega, by go_num, Lib.hid fun j hj => by
                  by_cases e : j = k
                  · subst e; exact HG.out
                  · exact hd.out j (by omega)⟩
                case measure => simp [intOf]; omega
          · have hall : s.data.toList.all isDig = true := all_digits fun j hj => hd.out j (by omega)
            have HGOOD := Lib.hid (HFIRST.out hall)
            have HALL := Lib.hid hall
            clear hall
            go_wp2_with fail
            go_loopw [4, 6] (fun dv iv wr => ∃ (i m c1 : Nat) (B : Option Addr), i ≤ s.size ∧ iv = .int .i64 (i : Int) ∧ dv = .slice B m c1 ∧ m ≤ 900 ∧ RowKit.Hid (OwnD wr w.heap.size B m c1 (dgs (dnum (s.data.toList.take i)))) ∧ RowKit.Hid (Below w.heap.size w wr)) (fun _ i _ => s.size - (intOf i).toNat)
            case atStart => exact ⟨0, 0, 0, none, by omega, rfl, rfl, by omega, Lib.hid (by rw [show dgs (dnum (s.data.toList.take 0)) = [] from wds_zero8]; exact OwnD.nil _ _), Lib.hid (Below.refl _ _)⟩
            case round =>
              obtain ⟨i, m, c1, B, hi, rfl, rfl, hm, hown, hbw⟩ := hrel
              obtain ⟨o, ho⟩ : ∃ o, o = dgs (dnum (s.data.toList.take i)) := ⟨_, rfl⟩
              have HO := Lib.hid ho
              rw [← ho] at hown
              clear ho
              by_cases hlt2 : i < s.size
              · have hol : o.length = m := by have := hown.out.1; simpa [cellsD] using this
                have HOL := Lib.hid hol
                clear hol
                obtain ⟨wo, rfl⟩ : ∃ wo : World, wo = wr := ⟨_, rfl⟩
                go_wp2_with fail
                go_loopw [7] (fun kv wr => ∃ (k : Nat) (p : List Nat), k ≤ m ∧ kv = .int .i64 (k : Int) ∧ RowKit.Hid (TenS o k p) ∧ RowKit.Hid (OwnD wr w.heap.size B m c1 p) ∧ RowKit.Hid (Below w.heap.size w wr)) (fun k _ => m - (intOf k).toNat)
                case atStart => exact ⟨0, o, by omega, rfl, Lib.hid ⟨rfl, fun j => by rw [if_neg (by omega)]⟩, hown, hbw⟩
                case round =>
                  obtain ⟨k, p, hk2, rfl, hten, hownp, hbw⟩ := hrel
                  by_cases hkm : k < m
                  · obtain ⟨g, cur, rfl, hg, hblk⟩ := OwnD.row hownp.out (by omega)
                    have hxc := OwnD.cell hownp.out hkm
                    have hfz := hblk.frozen
                    have HT := Lib.hid (hten.out.step (by rw [HOL.out]; exact hkm))
                    have hzl : dg8 p k ≤ 10000 := hten.out.small (by rw [HO.out]; exact ok_wds8 _) k
                    generalize dg8 p k = z at *
                    obtain ⟨u, hu⟩ : ∃ u, u = 10 * z := ⟨_, rfl⟩
                    have hui : 10 * (z : Int) = (u : Int) := by omega
                    rw [← hu] at HT
                    clear hu hblk
                    go_wp2_with fail
                    go_roundw
                    case rel => exact ⟨k + 1, p.set k u, by omega, by go_num, HT, Lib.hid (OwnD.set hownp.out k u), Lib.hid (hbw.out.setCell hg _)⟩
                    case measure => simp [intOf]; omega
                  · have hke : k = m := by omega
                    have HP : RowKit.Hid (val8 p = 10 * val8 o ∧ ∀ j, dg8 p j ≤ 10000) := Lib.hid ⟨by
                      have h1 := hten.out
                      rw [hke, ← HOL.out] at h1
                      rw [h1.all, val8_map10], hten.out.small (by rw [HO.out]; exact ok_wds8 _)⟩
                    clear hke
                    have hdg : isDig s[i] = true := by
                      have h1 := HALL.out
                      rw [List.all_eq_true] at h1
                      exact h1 _ (List.getElem_mem (h := by simpa using hlt2))
                    obtain ⟨hd1, hd2⟩ := isDig_bd hdg
                    obtain ⟨d, hdd⟩ : ∃ d, d = s[i].toNat - 48 := ⟨_, rfl⟩
                    have hdi : (s[i].toNat : Int) - 48 = (d : Int) := by omega
                    have hdl : d ≤ 9 := by omega
                    have HV : RowKit.Hid (val8 p + val8 [d] = dnum (s.data.toList.take (i + 1))) := Lib.hid (by
                      rw [HP.out.1, take_byte s i hlt2, dnum_snoc, HO.out, val_wds8, ← hdd]
                      simp [val8])
                    have HLEN : RowKit.Hid ((dgs (dnum (s.data.toList.take (i + 1)))).length ≤ 900) := Lib.hid (by
                      have h1 := dnum_dgs (all_take HALL.out (i + 1))
                      rw [List.length_take] at h1
                      omega)
                    have hbs := hbw.out.size
                    have HPL := Lib.hid (plus_own (x := p) (y := [d]) (n := m) (m := 1) (w := wr.alloc (.cells #[.int .i64 (d : Int)] 3)) ((OwnD.digR hownp.out (by omega)).alloc _) (dig_one (Blk.new wr _ _) (by simp)) HP.out.2 (fun j => by rcases j with _ | j <;> simp [dg8]; omega) (by omega) (by omega))
                    rw [HV.out] at HPL
                    clear hdd hdg
                    go_wp2_with fail
                    refine (HPL.out).mono ?_
                    rintro e w2 ⟨hb2, A2, n2, c2, rfl, hf2, ho2⟩
                    have hl2 : n2 ≤ 900 := by
                      have h1 := ho2.1
                      have h2 := HLEN.out
                      simp [cellsD] at h1
                      omega
                    have HB2 := Lib.hid ((hbw.out.alloc hbs (.cells #[.int .i64 (d : Int)] 3)).trans (hb2.mono (by simp; omega)))
                    have HC := Lib.hid (carried_own (OwnD.digR ho2 (by omega)) (by omega) (fun k => by have := wd_lt8 (ok_wds8 (dnum (s.data.toList.take (i + 1)))) k; omega))
                    rw [val_wds8] at HC
                    clear hb2 ho2
                    go_wp2_with fail
                    refine (HC.out).mono ?_
                    rintro e w3 ⟨hb3, A3, n3, c3, rfl, hf3, ho3⟩
                    have hl3 : n3 ≤ 900 := by
                      have h1 := ho3.1
                      have h2 := HLEN.out
                      simp [cellsD] at h1
                      omega
                    have HB3 := Lib.hid (HB2.out.trans (hb3.mono HB2.out.size))
                    have HO3 := Lib.hid (own_base ho3 HB2.out.size)
                    clear hb3 ho3
                    go_wp2_with fail
                    go_roundw
                    case rel => exact ⟨i + 1, n3, c3, A3, by omega, by go_num, rfl, hl3, HO3, HB3⟩
                    case measure => simp [intOf]; omega
              · have HE : RowKit.Hid (o = dgs (dnum s.data.toList)) := Lib.hid (by rw [HO.out, List.take_of_length_le (by omega)])
                have HW := Lib.hid (words_any (OwnD.digR hown.out (by omega)) (by rw [HE.out]; exact ok_wds8 _))
                rw [HE.out, val_wds8] at HW
                go_wp2_with fail
                refine (HW.out).mono ?_
                rintro e w2 ⟨hb2, A2, n2, c2, rfl, hn2⟩
                have HN2 := Lib.hid hn2
                have HB2 := Lib.hid (hbw.out.trans (hb2.mono hbw.out.size))
                clear hb2 hn2
                go_wp2_with fail
                go_ret2
                unfold RParsePost
                rw [if_pos HGOOD.out]
                exact ⟨HB2.out, _, _, _, rfl, HN2.out⟩

end Go.Proofs.YtgiepikoffaaiaaDoor
