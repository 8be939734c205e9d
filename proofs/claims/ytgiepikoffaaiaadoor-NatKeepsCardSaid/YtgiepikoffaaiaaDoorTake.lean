/- take: a multiple of d is taken of a part of a row. -/
import Derived.Test.YtgiepikoffaaiaaDoorDiv1
import Derived.Test.YtgiepikoffaaiaaDoorMonus
import Derived.Deep.AppendLies
import Derived.Maps.AppendAt
namespace Go.Proofs.YtgiepikoffaaiaaDoor
open Go Go.RowKit

/-- l' is l but for the words from off on, m of them. -/
structure SegE (off m : Nat) (l l' : List Nat) : Prop where
  len : l'.length = l.length
  ok : Ok l'
  out : ∀ j, j < off ∨ off + m ≤ j → wd l' j = wd l j
/-- The number of k words from off on. -/
def sv (l : List Nat) (off k : Nat) : Nat := val ((l.drop off).take k)
theorem sv_succ (l : List Nat) (off k : Nat) : sv l off (k + 1) = sv l off k + pw k * wd l (off + k) := by
  unfold sv
  rw [val_take_succ, wd_drop]
theorem sv_set {l : List Nat} {off k : Nat} (s : Nat) (h : off + k < l.length) : sv (l.set (off + k) s) off (k + 1) = sv l off k + pw k * s := by
  unfold sv
  rw [List.drop_set, if_neg (by omega), Nat.add_sub_cancel_left, val_take_set _ (by rw [List.length_drop]; omega)]
theorem SegE.refl {off : Nat} {l : List Nat} (h : Ok l) : SegE off 0 l l := ⟨rfl, h, fun _ _ => rfl⟩
theorem SegE.step {off k : Nat} {l l' : List Nat} (h : SegE off k l l') (hl : off + k < l.length) {s : Nat} (hs : s < 4294967296) : SegE off (k + 1) l (l'.set (off + k) s) :=
  ⟨by rw [List.length_set, h.len], ok_set h.ok _ hs, fun j hj => by
    rw [wd_set (by rw [h.len]; exact hl), if_neg (by omega)]
    exact h.out j (by omega)⟩
/-- Words in blocks that are there and are not block g. -/
abbrev NatO (g : Nat) (w : World) (A : Option Addr) (n c : Nat) (l : List Nat) : Prop := NatR (fun b => b < w.heap.size ∧ b ≠ g) w A n c l
theorem NatO.grown {g : Nat} {w w' : World} {A : Option Addr} {n c : Nat} {l : List Nat} (h : NatO g w A n c l) (hg : w.grownBy w' (some g)) : NatO g w' A n c l :=
  h.keep fun b hb => ⟨⟨Nat.lt_of_lt_of_le hb.1 hg.size, hb.2⟩, fun o => hg.cell_far ⟨b, o, none⟩ hb.1 (by simpa using hb.2)⟩
theorem grown_set (W : World) (g k : Nat) (v : Value) : W.grownBy (W.setCell ⟨g, k, none⟩ v) (some g) :=
  ⟨rfl, rfl, rfl, by simp, fun i _ h2 => Below.heap_setCell _ _ _ _ (fun e => h2 (by rw [e]))⟩
theorem take_word {x bo p : Nat} (hx : x < 4294967296) (hb : bo ≤ 1) : diffN x (p % 4294967296) bo + p + bo = x + 4294967296 * (p / 4294967296 + borrowN x (p % 4294967296) bo) ∧ borrowN x (p % 4294967296) bo ≤ 1 ∧ diffN x (p % 4294967296) bo < 4294967296 := by
  obtain ⟨h1, h2, h3⟩ := sub_word (y := p % 4294967296) hx (Nat.mod_lt _ (by decide)) hb
  exact ⟨by omega, h2, h3⟩
theorem take_step {S S' V Q x d t cr bo p di q b2 : Nat} (h : S' + t * V = S + Q * (cr + bo)) (hp : p = cr + d * t) (h1 : di + p + bo = x + 4294967296 * (q + b2)) :
    S' + Q * di + t * (V + Q * d) = S + Q * x + 4294967296 * Q * (q + b2) := by
  subst hp
  have h2 : Q * (di + (cr + d * t) + bo) = Q * (x + 4294967296 * (q + b2)) := by rw [h1]
  grind

set_option maxRecDepth 100000 in
set_option maxHeartbeats 800000 in
theorem take_any {B : Option Addr} {n cd g off m cc t : Nat} {b l : List Nat} {w : World} (hd : NatO g w B n cd b) (hr : RowB w g l) (hm : m = n + 1) (hl : off + m ≤ l.length) (hlf : off + m ≤ 1000000) (hok : Ok l) (ht : t < 4294967296) :
    Calls Tryd.prog 60 #[.slice (some ⟨g, off, none⟩) m cc, .slice B n cd, .int .u64 (t : Int)] w fun e w' => w.grownBy w' (some g) ∧ ∃ (l' : List Nat) (bo : Nat), bo ≤ 1 ∧ e = .returned (.bool ((bo : Int) != 0)) ∧ RowB w' g l' ∧ SegE off m l l' ∧ sv l' off m + t * val b = sv l off m + pw m * bo := by
  have HD := Lib.hid hd
  have HM := Lib.hid hm
  have HOK := Lib.hid hok
  have hnm : n < m := by omega
  have hmf : m ≤ 1000000 := by omega
  have HL := Lib.hid hl
  clear hd hm hok hl
  go_enter Tryd.func60, Tryd.ntmps60
  go_wp2_with fail
  go_loopw [7, 8, 13] (fun cv bv iv wr => ∃ (k cr bo : Nat) (l' : List Nat), k ≤ m ∧ iv = .int .i64 (k : Int) ∧ cv = .int .u64 (cr : Int) ∧ bv = .int .u32 (bo : Int) ∧ cr < 4294967296 ∧ bo ≤ 1 ∧ RowKit.Hid (k = m → cr = 0) ∧ RowKit.Hid (SegE off k l l') ∧ RowKit.Hid (sv l' off k + t * val (b.take k) = sv l off k + pw k * (cr + bo)) ∧ RowKit.Hid (RowB wr g l') ∧ RowKit.Hid (w.grownBy wr (some g))) (fun _ _ i _ => m - (intOf i).toNat)
  case atStart => exact ⟨0, 0, 0, l, by omega, rfl, rfl, rfl, by omega, by omega, Lib.hid (fun _ => rfl), Lib.hid (SegE.refl HOK.out), Lib.hid (by simp [sv, val]), Lib.hid hr, Lib.hid (World.grownBy.refl _ _)⟩
  case round =>
    obtain ⟨k, cr, bo, l', hk, rfl, rfl, rfl, hcr, hbo, hend, hse, hinv, hrow, hgr⟩ := hrel
    by_cases hlt : k < m
    · have hlk : off + k < l.length := by have := HL.out; omega
      have hxl := wd_lt hse.out.ok (off + k)
      have hc0 := RowB.cell hrow.out (i := off + k) (by rw [hse.out.len]; exact hlk)
      have hfz := Blk.frozen hrow.out
      have HSAME : RowKit.Hid (wd l' (off + k) = wd l (off + k)) := Lib.hid (hse.out.out _ (by omega))
      by_cases hkn : k < n
      · obtain ⟨db, doff, rfl, hdb, hdc⟩ := (HD.out.grown hgr.out).mem (by omega)
        have hdk := hdc k hkn
        have hdl := wd_lt HD.out.ok k
        generalize wd l' (off + k) = x at *
        have HVT := Lib.hid (val_take_succ b k)
        generalize wd b k = d at *
        obtain ⟨pr, hpr⟩ : ∃ pr, pr = d * t := ⟨_, rfl⟩
        have hpri : (d : Int) * (t : Int) = (pr : Int) := by rw [hpr, Int.natCast_mul]
        have hprl : pr ≤ 4294967295 * 4294967295 := by rw [hpr]; exact Nat.mul_le_mul (by omega) (by omega)
        have HPR := Lib.hid hpr
        clear hpr hdc
        obtain ⟨q, hq⟩ : ∃ q, q = (cr + pr) / 4294967296 := ⟨_, rfl⟩
        obtain ⟨lo, hlo⟩ : ∃ lo, lo = (cr + pr) % 4294967296 := ⟨_, rfl⟩
        have hqi : ((cr : Int) + (pr : Int)) / 4294967296 = (q : Int) := by omega
        have hloi : ((cr : Int) + (pr : Int)) % 4294967296 = (lo : Int) := by omega
        have hlol : lo < 4294967296 := by omega
        have hql : q < 4294967296 := by omega
        obtain ⟨hs1, hs2, hs3⟩ := take_word (p := (cr + pr)) hxl hbo
        rw [← hq, ← hlo] at hs1
        rw [← hlo] at hs2 hs3
        have HS1 := Lib.hid hs1
        have HQ := Lib.hid hq
        clear hq hlo hs1
        go_wp2_with fail
        refine (sub32_any x lo bo hxl hlol hbo _).mono ?_
        rintro e w5 ⟨rfl, rfl⟩
        go_wp2_with fail
        go_roundw
        case rel =>
          refine ⟨k + 1, q, borrowN x lo bo, l'.set (off + k) (diffN x lo bo), by omega, by go_num, rfl, rfl, hql, hs2, Lib.hid (fun e => by have := HM.out; omega), Lib.hid (hse.out.step hlk hs3), Lib.hid ?_, Lib.hid ?_, Lib.hid (hgr.out.trans (grown_set _ _ _ _))⟩
          · rw [sv_set _ (by rw [hse.out.len]; exact hlk), HVT.out, sv_succ, ← HSAME.out, pw_succ]
            exact take_step (t := t) (d := d) hinv.out (by rw [HPR.out]) HS1.out
          · have := hrow.out.set_ (off + k) (.int .u32 ((diffN x lo bo : Nat) : Int))
            rwa [cellsU_set] at this
        case measure => simp [intOf]; omega
      · have HVT : RowKit.Hid (val (b.take (k + 1)) = val (b.take k) + pw k * 0) := Lib.hid (by
          rw [val_take_all (l := b) (k := k) (by rw [HD.out.len]; omega), val_take_all (l := b) (k := k + 1) (by rw [HD.out.len]; omega)]; simp)
        generalize wd l' (off + k) = x at *
        have hqi : (cr : Int) / 4294967296 = 0 := by omega
        have hloi : (cr : Int) % 4294967296 = (cr : Int) := by omega
        obtain ⟨hs1, hs2, hs3⟩ := take_word (p := cr) hxl hbo
        rw [Nat.div_eq_of_lt hcr, Nat.mod_eq_of_lt hcr] at hs1
        rw [Nat.mod_eq_of_lt hcr] at hs2 hs3
        have HS1 := Lib.hid hs1
        clear hs1
        go_wp2_with fail
        refine (sub32_any x cr bo hxl hcr hbo _).mono ?_
        rintro e w5 ⟨rfl, rfl⟩
        go_wp2_with fail
        go_roundw
        case rel =>
          refine ⟨k + 1, 0, borrowN x cr bo, l'.set (off + k) (diffN x cr bo), by omega, by go_num, rfl, rfl, by omega, hs2, Lib.hid (fun _ => rfl), Lib.hid (hse.out.step hlk hs3), Lib.hid ?_, Lib.hid ?_, Lib.hid (hgr.out.trans (grown_set _ _ _ _))⟩
          · rw [sv_set _ (by rw [hse.out.len]; exact hlk), HVT.out, sv_succ, ← HSAME.out, pw_succ]
            exact take_step (t := t) (d := 0) hinv.out (by omega) HS1.out
          · have := hrow.out.set_ (off + k) (.int .u32 ((diffN x cr bo : Nat) : Int))
            rwa [cellsU_set] at this
        case measure => simp [intOf]; omega
    · have hke : k = m := by omega
      have HE : RowKit.Hid (cr = 0) := Lib.hid (hend.out hke)
      have HV : RowKit.Hid (sv l' off m + t * val b = sv l off m + pw m * bo) := Lib.hid (by
        have h1 := hinv.out
        rw [HE.out, hke, val_take_all (l := b) (k := m) (by rw [HD.out.len]; omega), Nat.zero_add] at h1
        exact h1)
      have HSE : RowKit.Hid (SegE off m l l') := Lib.hid (by rw [← hke]; exact hse.out)
      clear hke
      go_wp2_with fail
      go_ret
      exact ⟨hgr.out, l', bo, hbo, rfl, hrow.out, HSE.out, HV.out⟩

end Go.Proofs.YtgiepikoffaaiaaDoor
