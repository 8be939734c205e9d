/- Add: the sum. -/
import Derived.Test.YtgiepikoffaaiaaDoorNorm
import Derived.Test.YtgiepikoffaaiaaDoorBits
namespace Go.Proofs.YtgiepikoffaaiaaDoor
open Go.RowKit

theorem take_set (o : List Nat) (k s : Nat) : (o.set k s).take k = o.take k := by
  apply List.ext_getElem?
  intro i
  rw [List.getElem?_take, List.getElem?_take]
  split
  · rw [List.getElem?_set, if_neg (by omega)]
  · rfl
theorem val_take_set {o : List Nat} {k : Nat} (s : Nat) (h : k < o.length) : val ((o.set k s).take (k + 1)) = val (o.take k) + pw k * s := by
  rw [val_take_succ, take_set, wd_set h, if_pos rfl]
theorem NatPost.trans {l : List Nat} {w w1 : World} {e : Ending} {w' : World} (h : NatPost l w1 e w') (hb : Below w.heap.size w w1) : NatPost l w e w' := by
  obtain ⟨h1, g, he, hg, hr⟩ := h
  exact ⟨hb.trans (h1.mono hb.size), g, he, Nat.le_trans hb.size hg, hr⟩
theorem longest2 {A B : Option Addr} {n c m d : Nat} {w : World} (hn : n ≤ 35184372087808) (hm : m ≤ 35184372087808) {g : Nat} (h : Blk w g 23 #[.slice A n c, .slice B m d]) :
    Calls Tryd.prog 54 #[.slice (some ⟨g, 0, none⟩) 2 2] w fun e w' => e = .returned (.int .i64 ((max n m : Nat) : Int)) ∧ w = w' := by
  have := longest_any (vs := [(A, n, c), (B, m, d)]) h (by simp) (by simp; omega)
  refine this.mono fun e w' hh => ?_
  simpa [maxL] using hh

theorem sum_end {o a b : List Nat} {N cr : Nat} (ha : Ok a) (hb : Ok b) (hna : a.length ≤ N) (hnb : b.length ≤ N) (h : val o + cr * pw (N + 1) = val a + val b) : val o = val a + val b := by
  have h1 := val_lt ha
  have h2 := val_lt hb
  have h3 := pw_le hna
  have h4 := pw_le hnb
  rw [pw_succ] at h
  rcases Nat.eq_zero_or_pos cr with rfl | hp
  · omega
  · have := Nat.mul_le_mul_right (4294967296 * pw N) (show 1 ≤ cr from hp)
    omega

set_option maxHeartbeats 1000000 in
theorem add_any {A B : Option Addr} {n c m d : Nat} {a b : List Nat} {w : World} (ha : NatV w A n c a) (hb : NatV w B m d b) (hsn : n ≤ 100000) (hsm : m ≤ 100000) :
    Calls Tryd.prog 21 #[.slice A n c, .slice B m d] w (NatPost (wds (val a + val b)) w) := by
  obtain ⟨N, hN⟩ : ∃ N, N = max n m := ⟨_, rfl⟩
  have hn : n ≤ N := by omega
  have hm : m ≤ N := by omega
  have hf : N ≤ 100000 := by omega
  have hlong := longest2 ha.few hb.few (Blk.new w 23 #[.slice A n c, .slice B m d])
  rw [← hN] at hlong
  have HLONG := Lib.hid hlong
  have hmk := make_nat (N + 1) (by omega)
  rw [show (((N + 1 : Nat) : Int)) = (N : Int) + 1 from rfl] at hmk
  have HA := Lib.hid ha
  have HB := Lib.hid hb
  clear ha hb hN hlong
  go_enter Tryd.func21, Tryd.ntmps21
  go_wp2_with fail
  refine (HLONG.out).mono ?_
  rintro e w' ⟨rfl, rfl⟩
  go_wp2_with fail
  clear hmk
  go_loopw [6, 16] (fun cv i wr => ∃ (k cr : Nat) (o : List Nat), k ≤ N + 1 ∧ i = .int .i64 (k : Int) ∧ cv = .int .u32 (cr : Int) ∧ cr ≤ 1 ∧ RowKit.Hid (o.length = N + 1) ∧ RowKit.Hid (Ok o) ∧ RowKit.Hid (val (o.take k) + cr * pw k = val (a.take k) + val (b.take k)) ∧ RowKit.Hid (RowB wr (w.heap.size + 1) o) ∧ RowKit.Hid (Below w.heap.size w wr)) (fun _ i _ => N + 1 - (intOf i).toNat)
  case atStart =>
    refine ⟨0, 0, List.replicate (N + 1) 0, by omega, rfl, rfl, by omega, Lib.hid (by simp), Lib.hid (ok_zero _), Lib.hid rfl, Lib.hid ?_, Lib.hid ((below_alloc _ _).alloc (by simp) _)⟩
    have := Blk.new (w.alloc (.cells #[.slice A n c, .slice B m d] 23)) 34 (cellsU (List.replicate (N + 1) 0))
    rwa [World.size_alloc] at this
  case round =>
    obtain ⟨k, cr, o, hk, rfl, rfl, hcr, hol, hok, hinv, hrow, hbw⟩ := hrel
    by_cases hlt : k < N + 1
    · have HA2 := Lib.hid (HA.out.below hbw.out)
      have HB2 := Lib.hid (HB.out.below hbw.out)
      have HX := Lib.hid (wd_lt HA.out.ok k)
      have HY := Lib.hid (wd_lt HB.out.ok k)
      have hc0 := RowB.cell hrow.out (i := k) (by rw [hol.out]; exact hlt)
      have hfz := Blk.frozen hrow.out
      have hsz : w.heap.size + 1 < wr.heap.size := Blk.lt hrow.out
      go_wp2_with fail
      refine (word_any HA2.out k).mono ?_
      rintro e w' ⟨rfl, rfl⟩
      go_wp2_with fail
      refine (word_any HB2.out k).mono ?_
      rintro e w' ⟨rfl, rfl⟩
      go_wp2_with fail
      refine (add32_any _ _ _ HX.out HY.out hcr _).mono ?_
      rintro e w' ⟨rfl, rfl⟩
      go_wp2_with fail
      go_roundw
      case rel =>
        have hx := HX.out
        have hy := HY.out
        have hdm := Nat.div_add_mod (wd a k + wd b k + cr) 4294967296
        refine ⟨k + 1, (wd a k + wd b k + cr) / 4294967296, o.set k ((wd a k + wd b k + cr) % 4294967296), by omega, by go_num, rfl, by omega, Lib.hid (by rw [List.length_set]; exact hol.out), Lib.hid (ok_set hok.out _ (by omega)), Lib.hid ?_, Lib.hid ?_, Lib.hid (hbw.out.setCell (by simp) _)⟩
        · rw [val_take_set _ (by rw [hol.out]; exact hlt), val_take_succ, val_take_succ]
          exact add_step hinv.out (by omega) (pw_succ k)
        · have := hrow.out.set_ k (.int .u32 (((wd a k + wd b k + cr) % 4294967296 : Nat) : Int))
          rwa [cellsU_set] at this
      case measure => simp [intOf]; omega
    · have hko : k = N + 1 := by omega
      have hv : val o = val a + val b := by
        have h1 := hinv.out
        rw [val_take_all (l := o) (k := k) (by rw [hol.out]; omega), val_take_all (l := a) (k := k) (by rw [HA.out.len]; omega), val_take_all (l := b) (k := k) (by rw [HB.out.len]; omega), hko] at h1
        exact sum_end HA.out.ok HB.out.ok (by rw [HA.out.len]; exact hn) (by rw [HB.out.len]; exact hm) h1
      have hnorm := norm_any (hrow.out.natV hok.out (by rw [hol.out]; omega))
      rw [hol.out, hv] at hnorm
      have HNORM := Lib.hid hnorm
      clear hv hko hnorm
      go_wp2_with fail
      refine (HNORM.out).mono ?_
      intro e w3 h3
      have h4 := h3.trans hbw.out
      obtain ⟨hb5, g5, rfl, hg5, hr5⟩ := h4
      go_wp2_with fail
      go_ret
      exact ⟨hb5, g5, rfl, hg5, hr5⟩

end Go.Proofs.YtgiepikoffaaiaaDoor
