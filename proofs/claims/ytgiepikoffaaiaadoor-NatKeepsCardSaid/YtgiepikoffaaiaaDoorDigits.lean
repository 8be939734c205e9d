/- Digits of the reference: a number's digits of base 256. -/
import Derived.Test.YtgiepikoffaaiaaDoorDig
import Derived.Laws.BitsLemmas
import Derived.Lib.EndianBits
namespace Go.Proofs.YtgiepikoffaaiaaDoor
open Go Go.RowKit

theorem pw8_word (i : Nat) : pw8 (4 * i) = pw i := by
  unfold pw8 pw
  rw [Nat.pow_mul]
theorem val8_snoc (l : List Nat) (x : Nat) : val8 (l ++ [x]) = val8 l + pw8 l.length * x := by
  rw [val_append8]; simp [val8]
theorem ok8_snoc {l : List Nat} (h : Ok8 l) {x : Nat} (hx : x < 256) : Ok8 (l ++ [x]) := fun y hy => by
  rcases List.mem_append.1 hy with h1 | h1
  · exact h y h1
  · rw [List.mem_singleton] at h1; omega
/-- The digits so far: of i words all, of the word x the first k. -/
structure DgS (a : List Nat) (x i k : Nat) (ds : List Nat) : Prop where
  len : ds.length = 4 * i + k
  ok : Ok8 ds
  val : val8 ds = val (a.take i) + pw i * (x % 256 ^ k)
theorem DgS.step {a : List Nat} {x i k : Nat} {ds : List Nat} (h : DgS a x i k ds) {d : Nat} (hd : d = x / 256 ^ k % 256) : DgS a x i (k + 1) (ds ++ [d]) := by
  refine ⟨by rw [List.length_append, h.len]; rfl, ok8_snoc h.ok (by omega), ?_⟩
  rw [val8_snoc, h.val, h.len, pw_add8, pw8_word, Nat.pow_succ, Nat.mod_mul, ← hd]
  unfold pw8
  grind
theorem DgS.word {a : List Nat} {i : Nat} {ds : List Nat} (h : DgS a (wd a i) i 4 ds) (hx : wd a i < 4294967296) (y : Nat) : DgS a y (i + 1) 0 ds := by
  refine ⟨by rw [h.len]; omega, h.ok, ?_⟩
  rw [h.val, val_take_succ, Nat.pow_zero, Nat.mod_one, Nat.mul_zero, Nat.add_zero, Nat.mod_eq_of_lt (a := wd a i) (by simpa using hx)]
theorem and_byte (z : Nat) (hz : z < 4294967296) : bits .and .u32 (z : Int) 255 = ((z % 256 : Nat) : Int) := by
  have := bits_mask .u32 32 (by decide) wraps_u32 8 (by decide) (z : Int) (by omega) (by omega)
  have e : (2 : Int) ^ 8 - 1 = 255 := by decide
  have e2 : (2 : Int) ^ 8 = 256 := by decide
  rw [e, e2] at this
  rw [this]; rfl

set_option maxRecDepth 100000 in
set_option maxHeartbeats 4000000 in
theorem digits_any {A : Option Addr} {n c : Nat} {a : List Nat} {w : World} (ha : NatV w A n c a) (hsn : n ≤ 10000) :
    Calls Tryd.prog 47 #[.slice A n c] w (DigPost (dgs (val a)) w) := by
  obtain ⟨i0, hi, hy0, hy1, hy2⟩ := info_parts infoI
  have HI0 := Lib.hid hi
  have HY0 := Lib.hid hy0
  have HY1 := Lib.hid hy1
  have HY2 := Lib.hid hy2
  have HA := Lib.hid ha
  clear hi hy0 hy1 hy2 ha
  go_enter Tryd.func47, Tryd.ntmps47
  go_wp2_with fail
  go_loopw [3, 4] (fun dv iv wr => ∃ (i L k1 : Nat) (B : Option Addr) (ds : List Nat), i ≤ n ∧ iv = .int .i64 (i : Int) ∧ dv = .slice B L k1 ∧ L ≤ 40000 ∧ RowKit.Hid (DgS a 0 i 0 ds) ∧ RowKit.Hid (OwnD wr w.heap.size B L k1 ds) ∧ RowKit.Hid (Below w.heap.size w wr)) (fun _ i _ => n - (intOf i).toNat)
  case atStart => exact ⟨0, 0, 0, none, [], by omega, rfl, rfl, by omega, Lib.hid ⟨rfl, ok_nil8, by simp [val8, val]⟩, Lib.hid (OwnD.nil _ _), Lib.hid (Below.refl _ _)⟩
  case round =>
    obtain ⟨i, L, k1, B, ds, hin, rfl, rfl, hL, hds, hown, hbw⟩ := hrel
    by_cases hlt : i < n
    · have HX := Lib.hid (wd_lt HA.out.ok i)
      have HAC := Lib.hid ((HA.out.below hbw.out).cell_at hlt)
      have hds0 : RowKit.Hid (DgS a (wd a i) i 0 ds) := Lib.hid ⟨hds.out.len, hds.out.ok, by rw [hds.out.val]; simp [Nat.mod_one]⟩
      have HW : RowKit.Hid (∀ ds, DgS a (wd a i) i 4 ds → DgS a 0 (i + 1) 0 ds) := Lib.hid fun ds h => h.word HX.out 0
      have HA2 := Lib.hid (fun (w2 : World) (hb : Below w.heap.size w w2) => (HA.out.below hb).cell_at hlt)
      generalize wd a i = x at HX hds0 HW HA2 HAC
      have hx := HX.out
      obtain ⟨wo, rfl⟩ : ∃ wo : World, wo = wr := ⟨_, rfl⟩
      go_wp2_with fail
      go_loopw [3, 5] (fun dv kv wr => ∃ (k L k1 : Nat) (B : Option Addr) (ds : List Nat), k ≤ 4 ∧ kv = .int .i64 (k : Int) ∧ dv = .slice B L k1 ∧ L ≤ 40000 ∧ RowKit.Hid (DgS a x i k ds) ∧ RowKit.Hid (OwnD wr w.heap.size B L k1 ds) ∧ RowKit.Hid (Below w.heap.size w wr)) (fun _ k _ => 4 - (intOf k).toNat)
      case atStart => exact ⟨0, L, k1, B, ds, by omega, rfl, rfl, hL, hds0, hown, hbw⟩
      case round =>
        obtain ⟨k, L, k1, B, ds, hk, rfl, rfl, hL, hds, hown, hbw⟩ := hrel
        by_cases hk4 : k < 4
        · obtain ⟨ab, aoff, rfl, hab, hac⟩ := HA2.out wr hbw.out
          have HLL : RowKit.Hid (L + 1 ≤ 40000) := Lib.hid (by
            have h1 := hds.out.len
            have h2 := hown.out.1
            simp [cellsD] at h2
            omega)
          have hL1 := HLL.out
          have k4 : k = 0 ∨ k = 1 ∨ k = 2 ∨ k = 3 := by omega
          obtain ⟨d, hd⟩ : ∃ d, d = x / 256 ^ k % 256 := ⟨_, rfl⟩
          have HST := Lib.hid (hds.out.step hd)
          have hbs := hbw.out.size
          have hdl : d < 256 := by rw [hd]; exact Nat.mod_lt _ (by decide)
          have HD := Lib.hid hd
          clear hk hk4 hd
          rcases k4 with rfl | rfl | rfl | rfl
          case' inl => have hand : bits .and .u32 (x : Int) 255 = (d : Int) := by rw [and_byte x hx, HD.out]; simp
          case' inr.inl => have hand : bits .and .u32 ((x : Int) / 256) 255 = (d : Int) := by
                              have e : (x : Int) / 256 = ((x / 256 : Nat) : Int) := by omega
                              rw [e, and_byte _ (by omega), HD.out]
          case' inr.inr.inl => have hand : bits .and .u32 ((x : Int) / 65536) 255 = (d : Int) := by
                                  have e : (x : Int) / 65536 = ((x / 65536 : Nat) : Int) := by omega
                                  rw [e, and_byte _ (by omega), HD.out]
          case' inr.inr.inr => have hand : bits .and .u32 ((x : Int) / 16777216) 255 = (d : Int) := by
                                  have e : (x : Int) / 16777216 = ((x / 16777216 : Nat) : Int) := by omega
                                  rw [e, and_byte _ (by omega), HD.out]
          all_goals
            go_wp2_with (at_builtin; go_loud (refine wpList_oper rfl (oper_append_one (.tmp 16) (.tmp 27) 56 3 rfl w.heap.size i0 _ 8 Tryd.underlying56 HI0.out HY0.out HY1.out HY2.out rfl (by decide) (.slice B L k1) L _ (.int .i64 (d : Int)) rfl wr rfl rfl hown.out _ rfl rfl (by omega) hbs ?_)); intro A4 c4 w4 happ4)
            go_roundw
            case rel =>
              have ho := happ4.own
              rw [← cellsD_snoc] at ho
              exact ⟨_, L + 1, c4, A4, ds ++ [d], by decide, by go_num, rfl, hL1, HST, Lib.hid ho, Lib.hid (hbw.out.grown happ4.grown hbw.out.size (fun g hg => (ownsRow_block hown.out hg).1))⟩
            case measure => simp [intOf]
        · have hke : k = 4 := by omega
          subst hke
          go_wp2_with fail
          go_roundw
          case rel => exact ⟨i + 1, L, k1, B, ds, by omega, by go_num, rfl, hL, Lib.hid (HW.out _ hds.out), hown, hbw⟩
          case measure => simp [intOf]; omega
    · have hie : i = n := by omega
      have HV : RowKit.Hid (val8 ds = val a) := Lib.hid (by
        rw [hds.out.val, val_take_all (l := a) (k := i) (by rw [HA.out.len]; omega)]; simp)
      have hcut := cut_any (OwnD.digR hown.out (by omega)) hds.out.ok
      rw [HV.out] at hcut
      have HCUT := Lib.hid hcut
      clear hcut hie
      go_wp2_with fail
      refine (HCUT.out).mono ?_
      rintro e w' ⟨⟨n', rfl, hr⟩, rfl⟩
      go_wp2_with fail
      go_ret
      exact ⟨hbw.out, _, _, _, rfl, hr⟩

end Go.Proofs.YtgiepikoffaaiaaDoor
