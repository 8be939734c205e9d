/- Of of the reference. -/
import Derived.Test.YtgiepikoffaaiaaDoorRefBit
namespace Go.Proofs.YtgiepikoffaaiaaDoor
open Go Go.RowKit

theorem and_byte64 (z : Nat) (hz : z < 18446744073709551616) : bits .and .u64 (z : Int) 255 = ((z % 256 : Nat) : Int) := by
  have := bits_mask .u64 64 (by decide) wraps_u64 8 (by decide) (z : Int) (by omega) (by omega)
  have e : (2 : Int) ^ 8 - 1 = 255 := by decide
  have e2 : (2 : Int) ^ 8 = 256 := by decide
  rw [e, e2] at this
  rw [this]; rfl
/-- The first k digits of x. -/
structure OfS (x k : Nat) (ds : List Nat) : Prop where
  len : ds.length = k
  ok : Ok8 ds
  val : val8 ds = x % pw8 k
theorem OfS.step {x k : Nat} {ds : List Nat} (h : OfS x k ds) {d : Nat} (hd : d = x / 256 ^ k % 256) : OfS x (k + 1) (ds ++ [d]) := by
  refine ⟨by rw [List.length_append, h.len]; rfl, ok8_snoc h.ok (by omega), ?_⟩
  rw [val8_snoc, h.val, h.len, pw_succ8, Nat.mul_comm 256]
  unfold pw8
  rw [Nat.mod_mul, ← hd]

set_option maxRecDepth 100000 in
set_option maxHeartbeats 4000000 in
theorem refOf_num {x : Nat} {w : World} (hx : x < 18446744073709551616) :
    Calls Tryd.prog 34 #[.int .u64 (x : Int)] w (RNatPost x w) := by
  obtain ⟨i0, hi, hy0, hy1, hy2⟩ := info_parts infoI
  have HI0 := Lib.hid hi
  have HY0 := Lib.hid hy0
  have HY1 := Lib.hid hy1
  have HY2 := Lib.hid hy2
  clear hi hy0 hy1 hy2
  go_enter Tryd.func34, Tryd.ntmps34
  go_wp2_with fail
  go_loopw [3, 4] (fun dv kv wr => ∃ (k k1 : Nat) (B : Option Addr) (ds : List Nat), k ≤ 8 ∧ kv = .int .i64 (k : Int) ∧ dv = .slice B k k1 ∧ RowKit.Hid (OfS x k ds) ∧ RowKit.Hid (OwnD wr w.heap.size B k k1 ds) ∧ RowKit.Hid (Below w.heap.size w wr)) (fun _ k _ => 8 - (intOf k).toNat)
  case atStart => exact ⟨0, 0, none, [], by omega, rfl, rfl, Lib.hid ⟨rfl, ok_nil8, by simp [val8, pw8, Nat.mod_one]⟩, Lib.hid (OwnD.nil _ _), Lib.hid (Below.refl _ _)⟩
  case round =>
    obtain ⟨k, k1, B, ds, hk, rfl, rfl, hds, hown, hbw⟩ := hrel
    by_cases hk8 : k < 8
    · have k8 : k = 0 ∨ k = 1 ∨ k = 2 ∨ k = 3 ∨ k = 4 ∨ k = 5 ∨ k = 6 ∨ k = 7 := by omega
      obtain ⟨d, hd⟩ : ∃ d, d = x / 256 ^ k % 256 := ⟨_, rfl⟩
      have HST := Lib.hid (hds.out.step hd)
      have hbs := hbw.out.size
      have hdl : d < 256 := by rw [hd]; exact Nat.mod_lt _ (by decide)
      have HD := Lib.hid hd
      clear hk hk8 hd
      rcases k8 with rfl | rfl | rfl | rfl | rfl | rfl | rfl | rfl
      case' inl => have hand : bits .and .u64 (x : Int) 255 = (d : Int) := by rw [and_byte64 x hx, HD.out]; simp
      case' inr.inl =>
        have hand : bits .and .u64 ((x : Int) / 256) 255 = (d : Int) := by
          have e : (x : Int) / 256 = ((x / 256 : Nat) : Int) := by omega
          rw [e, and_byte64 _ (by omega), HD.out]
      case' inr.inr.inl =>
        have hand : bits .and .u64 ((x : Int) / 65536) 255 = (d : Int) := by
          have e : (x : Int) / 65536 = ((x / 65536 : Nat) : Int) := by omega
          rw [e, and_byte64 _ (by omega), HD.out]
      case' inr.inr.inr.inl =>
        have hand : bits .and .u64 ((x : Int) / 16777216) 255 = (d : Int) := by
          have e : (x : Int) / 16777216 = ((x / 16777216 : Nat) : Int) := by omega
          rw [e, and_byte64 _ (by omega), HD.out]
      case' inr.inr.inr.inr.inl =>
        have hand : bits .and .u64 ((x : Int) / 4294967296) 255 = (d : Int) := by
          have e : (x : Int) / 4294967296 = ((x / 4294967296 : Nat) : Int) := by omega
          rw [e, and_byte64 _ (by omega), HD.out]
      case' inr.inr.inr.inr.inr.inl =>
        have hand : bits .and .u64 ((x : Int) / 1099511627776) 255 = (d : Int) := by
          have e : (x : Int) / 1099511627776 = ((x / 1099511627776 : Nat) : Int) := by omega
          rw [e, and_byte64 _ (by omega), HD.out]
      case' inr.inr.inr.inr.inr.inr.inl =>
        have hand : bits .and .u64 ((x : Int) / 281474976710656) 255 = (d : Int) := by
          have e : (x : Int) / 281474976710656 = ((x / 281474976710656 : Nat) : Int) := by omega
          rw [e, and_byte64 _ (by omega), HD.out]
      case' inr.inr.inr.inr.inr.inr.inr =>
        have hand : bits .and .u64 ((x : Int) / 72057594037927936) 255 = (d : Int) := by
          have e : (x : Int) / 72057594037927936 = ((x / 72057594037927936 : Nat) : Int) := by omega
          rw [e, and_byte64 _ (by omega), HD.out]
      all_goals
        go_wp2_with (at_builtin; go_loud (refine wpList_oper rfl (oper_append_one (.tmp 9) (.tmp 17) 56 3 rfl w.heap.size i0 _ 8 Tryd.underlying56 HI0.out HY0.out HY1.out HY2.out rfl (by decide) (.slice B _ k1) _ _ (.int .i64 (d : Int)) rfl wr rfl rfl hown.out _ rfl rfl (by omega) hbs ?_)); intro A4 c4 w4 happ4)
        go_roundw
        case rel =>
          have ho := happ4.own
          rw [← cellsD_snoc] at ho
          exact ⟨_, c4, A4, ds ++ [d], by decide, by go_num, rfl, HST, Lib.hid ho, Lib.hid (hbw.out.grown happ4.grown hbw.out.size (fun g hg => (ownsRow_block hown.out hg).1))⟩
        case measure => simp [intOf]
    · have hke : k = 8 := by omega
      subst hke
      have HV : RowKit.Hid (val8 ds = x) := Lib.hid (by
        rw [hds.out.val]
        exact Nat.mod_eq_of_lt hx)
      have hcut := words_any (OwnD.digR hown.out (by omega)) hds.out.ok
      rw [HV.out] at hcut
      have HCUT := Lib.hid hcut
      clear hcut
      go_wp2_with fail
      refine (HCUT.out).mono ?_
      rintro e w' ⟨hb2, A2, n2, c2, rfl, hr⟩
      go_wp2_with fail
      go_ret
      exact ⟨hbw.out.trans (hb2.mono hbw.out.size), _, _, _, rfl, hr⟩

end Go.Proofs.YtgiepikoffaaiaaDoor
