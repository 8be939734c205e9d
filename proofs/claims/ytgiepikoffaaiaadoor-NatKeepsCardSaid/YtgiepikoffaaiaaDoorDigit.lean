/- digit: how often d goes into a part of a row, of which that is taken. -/
import Derived.Test.YtgiepikoffaaiaaDoorGive
import Derived.Test.YtgiepikoffaaiaaDoorBitsP
import Derived.IntWalk
namespace Go.Proofs.YtgiepikoffaaiaaDoor
open Go Go.RowKit

theorem sv_lt {l : List Nat} (h : Ok l) (off k : Nat) : sv l off k < pw k := by
  unfold sv
  have h1 := val_lt (ok_take (ok_drop h off) k)
  have h2 : pw ((l.drop off).take k).length ≤ pw k := pw_le (by rw [List.length_take]; omega)
  omega
theorem guess_ge {R V low p x y D Q : Nat} (hR : R = low + p * (y + 4294967296 * x)) (hlow : low < p) (hV : p * D ≤ V) (hQ : Q * V ≤ R) (hD : 0 < D) : Q ≤ (x * 4294967296 + y) / D := by
  rw [Nat.le_div_iff_mul_le hD]
  have h1 : Q * (p * D) ≤ Q * V := Nat.mul_le_mul_left _ hV
  have h2 : p * (Q * D) < p * (x * 4294967296 + y + 1) := by
    have e1 : Q * (p * D) = p * (Q * D) := by rw [Nat.mul_left_comm]
    have e2 : p * (x * 4294967296 + y + 1) = p * (y + 4294967296 * x) + p := by
      rw [Nat.mul_add, Nat.mul_one]; congr 2; omega
    omega
  have h3 := Nat.lt_of_mul_lt_mul_left h2
  omega
theorem top_val {b : List Nat} {n : Nat} (hn : b.length = n + 1) : pw n * wd b n ≤ val b := by
  have h1 := val_take_succ b n
  rw [val_take_all (by omega)] at h1
  omega

theorem SegE.trans {off m : Nat} {l l' l3 : List Nat} (h : SegE off m l l') (k : SegE off m l' l3) : SegE off m l l3 := ⟨k.len.trans h.len, k.ok, fun j hj => (k.out j hj).trans (h.out j hj)⟩
theorem dig_end {R V S G Q : Nat} (hV : 0 < V) (hQ : Q = R / V) (h : S + G * V = R) (hle : Q ≤ G) : R = G * V + S ∧ S < V := by
  have h1 : G ≤ Q := by
    rw [hQ, Nat.le_div_iff_mul_le hV]; omega
  obtain rfl : G = Q := by omega
  refine ⟨by omega, ?_⟩
  have h2 := Nat.div_add_mod R V
  have h3 := Nat.mod_lt R hV
  rw [← hQ, Nat.mul_comm] at h2
  omega
theorem dig_more {R V S P G Q : Nat} (hV : 0 < V) (hQ : Q = R / V) (h : S + G * V = R + P * 1) (hS : S < P) : Q ≤ G - 1 ∧ 1 ≤ G := by
  have h1 : R < G * V := by omega
  have h2 : Q < G := by rw [hQ, Nat.div_lt_iff_lt_mul hV]; exact h1
  omega
theorem dig_next {R V S S3 P G c : Nat} (h : S + G * V = R + P * 1) (h3 : S3 + P * c = S + V) (hG : 1 ≤ G) (hc : c ≤ 1) : S3 + (G - 1) * V = R + P * (1 - c) := by
  obtain ⟨k, rfl⟩ : ∃ k, G = k + 1 := ⟨G - 1, by omega⟩
  rw [Nat.add_mul, Nat.one_mul] at h
  rw [Nat.add_sub_cancel]
  have h4 : c = 0 ∨ c = 1 := by omega
  rcases h4 with rfl | rfl <;> simp at * <;> omega

set_option maxRecDepth 100000 in
set_option maxHeartbeats 1000000 in
theorem digit_any {B : Option Addr} {n cd g off m cc : Nat} {b l : List Nat} {w : World} (hd : NatO g w B n cd b) (hr : RowB w g l) (hm : m = n + 1) (hl : off + m ≤ l.length) (hlf : off + m ≤ 1000000) (hok : Ok l) (hn : 0 < n) (htop : wd b (n - 1) ≠ 0) (hlt : sv l off m < 4294967296 * val b) :
    Calls Tryd.prog 45 #[.slice (some ⟨g, off, none⟩) m cc, .slice B n cd] w fun e w' => w.grownBy w' (some g) ∧ ∃ (l' : List Nat) (q : Nat), e = .returned (.int .u32 (q : Int)) ∧ q < 4294967296 ∧ RowB w' g l' ∧ SegE off m l l' ∧ sv l off m = q * val b + sv l' off m ∧ sv l' off m < val b := by
  obtain ⟨k, rfl⟩ : ∃ k, n = k + 1 := ⟨n - 1, by omega⟩
  subst hm
  rw [show k + 1 - 1 = k from rfl] at htop
  have hbl := hd.len
  have hx := wd_lt hok (off + (k + 1))
  have hy := wd_lt hok (off + k)
  have hDl := wd_lt hd.ok k
  have hc1 := RowB.cell hr (i := off + (k + 1)) (by omega)
  have hc2 := RowB.cell hr (i := off + k) (by omega)
  obtain ⟨db, doff, rfl, hdb, hdc⟩ := hd.mem (by omega)
  have hc3 := hdc k (by omega)
  have hor := or_words hx hy
  obtain ⟨Q, hQ⟩ : ∃ Q, Q = sv l off (k + 1 + 1) / val b := ⟨_, rfl⟩
  have hQ2 : Q < 4294967296 := by rw [hQ, Nat.div_lt_iff_lt_mul (Nat.pos_of_ne_zero (fun e => by rw [e, Nat.mul_zero] at hlt; omega))]; exact hlt
  have hge : Q ≤ (wd l (off + (k + 1)) * 4294967296 + wd l (off + k)) / wd b k := by
    refine guess_ge (R := sv l off (k + 1 + 1)) (V := val b) (low := sv l off k) (p := pw k) ?_ (sv_lt hok off k) (top_val hbl) (by rw [hQ]; exact Nat.div_mul_le_self _ _) (by omega)
    rw [sv_succ, sv_succ, pw_succ]
    grind
  have HD := Lib.hid hd
  have HOK := Lib.hid hok
  have HL := Lib.hid hl
  have HR := Lib.hid hr
  have HQ := Lib.hid hQ
  have HLT := Lib.hid hlt
  obtain ⟨T, hT⟩ : ∃ T, T = wd l (off + (k + 1)) * 4294967296 + wd l (off + k) := ⟨_, rfl⟩
  rw [← hT] at hge hor
  obtain ⟨G, hG⟩ : ∃ G, G = min (T / wd b k) 4294967295 := ⟨_, rfl⟩
  obtain ⟨tq, htq⟩ : ∃ tq, tq = T / wd b k := ⟨_, rfl⟩
  have hTD : (T : Int) / ((wd b k : Nat) : Int) = (tq : Int) := by rw [htq, Int.natCast_ediv]
  have htT : tq ≤ T := by rw [htq]; exact Nat.div_le_self _ _
  rw [← htq] at hG hge
  have hGi : min (tq : Int) 4294967295 = (G : Int) := by omega
  have HGE : RowKit.Hid (Q ≤ G) := Lib.hid (by omega)
  have hGl : G ≤ 4294967295 := by omega
  have hT64 : T < 18446744073709551616 := by omega
  generalize wd l (off + (k + 1)) = x at *
  generalize wd l (off + k) = y at *
  generalize wd b k = D at *
  have hTi : (x : Int) * 4294967296 + (y : Int) = (T : Int) := by omega
  have hD0 : 0 < D := by omega
  have hkl : k ≤ 1000000 := by omega
  have hkw : IntKind.i64.wrap (k : Int) = (k : Int) := IntWalk.i64_in _ (by omega)
  clear hd hok hl hQ hlt hge hG hdc hbl hT htq
  go_enter Tryd.func45, Tryd.ntmps45
  go_wp2_with fail
  have hi1 : (k : Int) + 1 < (k : Int) + 1 + 1 := by omega
  have hi2 : (k : Int) < (k : Int) + 1 + 1 := by omega
  have hi3 : (0 : Int) ≤ (k : Int) + 1 := by omega
  have hi4 : (k : Int) + 1 - 1 = (k : Int) := by omega
  go_region
  go_wp2_with fail
  have HGR : RowKit.Hid (w.grownBy w.drew (some g)) := Lib.hid (grown_of_below (below_drewN (Below.refl w.heap.size w) 1) _)
  have HPOS : RowKit.Hid (0 < val b) := Lib.hid (Nat.pos_of_ne_zero (fun e => by have := HLT.out; rw [e, Nat.mul_zero] at this; omega))
  refine (take_any (t := G) (HD.out.grown HGR.out) (HR.out.drewN 1) rfl HL.out hlf HOK.out (by omega)).mono ?_
  rintro e w2 ⟨hg2, l2, bo2, hbo2, rfl, hr2, hs2, hv2⟩
  have HG2 := Lib.hid (HGR.out.trans hg2)
  have HR2 := Lib.hid hr2
  have HS2 := Lib.hid hs2
  have HV2 := Lib.hid hv2
  clear hg2 hr2 hs2 hv2 hor hc1 hc2 hc3 hGi hTD htT hTi hT64
  go_wp2_with fail
  go_loopw [7, 8] (fun gv wv wr => ∃ (G bo : Nat) (l' : List Nat), gv = .int .u64 (G : Int) ∧ wv = .bool ((bo : Int) != 0) ∧ bo ≤ 1 ∧ G ≤ 4294967295 ∧ RowKit.Hid (Q ≤ G) ∧ RowKit.Hid (SegE off (k + 1 + 1) l l') ∧ RowKit.Hid (sv l' off (k + 1 + 1) + G * val b = sv l off (k + 1 + 1) + pw (k + 1 + 1) * bo) ∧ RowKit.Hid (RowB wr g l') ∧ RowKit.Hid (w.grownBy wr (some g))) (fun gv _ _ => (intOf gv).toNat)
  case atStart => exact ⟨G, bo2, l2, rfl, rfl, hbo2, hGl, HGE, HS2, HV2, HR2, HG2⟩
  case round =>
    obtain ⟨G, bo, l', rfl, rfl, hbo, hGl, hQG, hse, hinv, hrow, hgr⟩ := hrel
    have hb2 : bo = 0 ∨ bo = 1 := by omega
    rcases hb2 with rfl | rfl
    · have HEND := Lib.hid (dig_end HPOS.out HQ.out (by have := hinv.out; rwa [Nat.mul_zero, Nat.add_zero] at this) hQG.out)
      go_wp2_with fail
      go_ret
      exact ⟨hgr.out, l', G, rfl, by omega, hrow.out, hse.out, HEND.out.1, HEND.out.2⟩
    · obtain ⟨hQ1, hG1⟩ := dig_more HPOS.out HQ.out hinv.out (sv_lt hse.out.ok off (k + 1 + 1))
      have HQ1 := Lib.hid hQ1
      have hGi : (G : Int) - 1 = ((G - 1 : Nat) : Int) := by omega
      clear hQ1
      go_wp2_with fail
      refine (give_any (HD.out.grown hgr.out) hrow.out rfl (by rw [hse.out.len]; exact HL.out) hlf hse.out.ok).mono ?_
      rintro e w3 ⟨hg3, l3, c3, hc3, rfl, hr3, hs3, hv3⟩
      have HG3 := Lib.hid (hgr.out.trans hg3)
      have HR3 := Lib.hid hr3
      have HS3 := Lib.hid (hse.out.trans hs3)
      have HV3 := Lib.hid (dig_next hinv.out hv3 hG1 hc3)
      have hbb : (!((c3 : Int) != 0)) = (((1 - c3 : Nat) : Int) != 0) := by
        have h4 : c3 = 0 ∨ c3 = 1 := by omega
        rcases h4 with rfl | rfl <;> rfl
      clear hg3 hr3 hs3 hv3
      go_wp2_with fail
      go_roundw
      case rel => exact ⟨G - 1, 1 - c3, l3, by rw [← hGi], by rw [← hbb], by omega, by omega, HQ1, HS3, HV3, HR3, HG3⟩
      case measure => simp [intOf]; omega

end Go.Proofs.YtgiepikoffaaiaaDoor
