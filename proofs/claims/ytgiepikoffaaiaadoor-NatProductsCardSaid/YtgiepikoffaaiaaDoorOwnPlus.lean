/- carried and plus of the reference: what comes back is a row of its own. Of plus: digits up to 10000. -/
import Derived.Test.YtgiepikoffaaiaaDoorRefBit
import Derived.Deep.LoopGhost
namespace Go.Proofs.YtgiepikoffaaiaaDoor
open Go Go.RowKit

/-- Digits come back, in a row of their own. -/
def DigOPost (l : List Nat) (w : World) (e : Ending) (w' : World) : Prop := Below w.heap.size w w' ∧ ∃ A n c, e = .returned (.slice A n c) ∧ n ≤ 1000000 ∧ OwnD w' w.heap.size A n c l
theorem dg8_ext : ∀ {a b : List Nat}, a.length = b.length → (∀ k, dg8 a k = dg8 b k) → a = b
  | [], [], _, _ => rfl
  | [], _ :: _, h, _ => by simp at h
  | _ :: _, [], h, _ => by simp at h
  | x :: a, y :: b, h, hk => by
    have h0 := hk 0
    simp only [dg8, List.getD_cons_zero] at h0
    rw [h0, dg8_ext (a := a) (b := b) (by simpa using h) (fun k => by have := hk (k + 1); simpa [dg8] using this)]
theorem dgs_take {o : List Nat} (ho : Ok8 o) {n : Nat} (h : (dgs (val8 o)).length = n) : dgs (val8 o) = o.take n := by
  have h1 := val_lt8 ho
  have h2 := wds_len8 h1
  refine dg8_ext (by rw [List.length_take]; omega) (fun k => ?_)
  by_cases hk : k < n
  · rw [wd_take8 hk, wd_val8 (ok_wds8 _), val_wds8, wd_val8 ho]
  · rw [wd_out8 (by omega), wd_out8 (by rw [List.length_take]; omega)]
theorem own_base {w : World} {base base' n c : Nat} {A : Option Addr} {l : List Nat} (h : OwnD w base A n c l) (hb : base' ≤ base) : OwnD w base' A n c l := by
  obtain ⟨hl, hc⟩ := h
  refine ⟨hl, ?_⟩
  rcases hc with h1 | ⟨g, cap, cur, hv, hg, hr⟩
  · exact .inl h1
  · exact .inr ⟨g, cap, cur, hv, by omega, hr⟩
theorem own_take {w : World} {base n c : Nat} {A : Option Addr} {l : List Nat} (h : OwnD w base A n c l) {k : Nat} (hk : k ≤ n) : OwnD w base A k c (l.take k) := by
  obtain ⟨hl, hc⟩ := h
  have hl2 : l.length = n := by simpa [cellsD] using hl
  refine ⟨by simp [cellsD]; omega, ?_⟩
  rcases hc with ⟨hv, h2⟩ | ⟨g, cap, cur, hv, hg, hh, h1, h2, h3, h4⟩
  · injection hv with e1 e2 e3
    subst e1 e2 e3
    obtain rfl : k = 0 := by omega
    exact .inl ⟨rfl, rfl⟩
  · injection hv with e1 e2 e3
    subst e1 e3
    refine .inr ⟨g, c, cur, rfl, hg, hh, by omega, h2, h3, ?_⟩
    rw [Nat.mul_one] at h4 ⊢
    have e : (cellsD (l.take k)).toList = (cellsD l).toList.take k := by simp [cellsD]
    rw [e, ← h4, List.take_take, Nat.min_eq_left hk]

set_option maxRecDepth 100000 in
set_option maxHeartbeats 4000000 in
theorem carried_own {A : Option Addr} {n c : Nat} {l : List Nat} {w : World} (hd : DigR w A n c l) (hsn : n ≤ 50000) (hbig : ∀ k, dg8 l k ≤ 100000000) :
    Calls Tryd.prog 48 #[.slice A n c] w (DigOPost (dgs (val8 l)) w) := by
  obtain ⟨i0, hi, hy0, hy1, hy2⟩ := info_parts infoI
  have HI0 := Lib.hid hi
  have HY0 := Lib.hid hy0
  have HY1 := Lib.hid hy1
  have HY2 := Lib.hid hy2
  have HD := Lib.hid hd
  have HBIG := Lib.hid hbig
  clear hi hy0 hy1 hy2 hd hbig
  go_enter Tryd.func48, Tryd.ntmps48
  go_wp2_with fail
  go_loopg [3, 4, 5] (n * 100000001) (fun gk ov cv iv wr => ∃ (i cr k1 : Nat) (B : Option Addr) (o : List Nat), iv = .int .i64 (i : Int) ∧ cv = .int .i64 (cr : Int) ∧ ov = .slice B i k1 ∧ i ≤ n + 4 ∧ cr ≤ 100000000 ∧ RowKit.Hid (gk = (n - i) * 100000001 + cr) ∧ RowKit.Hid (CaS l i cr o) ∧ RowKit.Hid (OwnD wr w.heap.size B i k1 o) ∧ RowKit.Hid (Below w.heap.size w wr))
  case atStart => exact ⟨0, 0, 0, none, [], rfl, rfl, rfl, by omega, by omega, Lib.hid (by omega), Lib.hid ⟨rfl, ok_nil8, by simp [val8], by omega, fun _ => by omega⟩, Lib.hid (OwnD.nil _ _), Lib.hid (Below.refl _ _)⟩
  case round =>
    obtain ⟨i, cr, k1, B, o, rfl, rfl, rfl, hi4, hcr, hgk, hca, hown, hbw⟩ := hrel
    have hbs := hbw.out.size
    by_cases hlt : i < n
    · obtain ⟨ab, aoff, rfl, hab, hac⟩ := (HD.out.below hbw.out).cell_at hlt
      have hdb := HBIG.out i
      obtain ⟨hm1, hm2⟩ := hca.out.more (by rw [HD.out.len]; exact hlt) hcr hdb
      have HM := Lib.hid hm1
      clear hm1
      generalize dg8 l i = d at *
      obtain ⟨t, ht⟩ : ∃ t, t = (cr + d) % 256 := ⟨_, rfl⟩
      obtain ⟨q, hq⟩ : ∃ q, q = (cr + d) / 256 := ⟨_, rfl⟩
      have hti : ((cr : Int) + (d : Int)) % 256 = (t : Int) := by omega
      have hqi : ((cr : Int) + (d : Int)) / 256 = (q : Int) := by omega
      have htl : t < 256 := by omega
      rw [← hq] at hm2
      have HQ := Lib.hid hq
      have HTT := Lib.hid ht
      clear ht hq
      go_wp2_with (at_builtin; go_loud (refine wpList_oper rfl (oper_append_one (.tmp 26) (.tmp 29) 56 3 rfl w.heap.size i0 _ 8 Tryd.underlying56 HI0.out HY0.out HY1.out HY2.out rfl (by decide) (.slice B i k1) i _ (.int .i64 (t : Int)) rfl wr rfl rfl hown.out _ rfl rfl (by omega) hbs ?_)); intro A4 c4 w4 happ4)
      go_roundg ((n - (i + 1)) * 100000001 + q)
      case measure => rw [hgk.out]; have : n - i = (n - (i + 1)) + 1 := by omega
                      rw [this, Nat.add_mul]; omega
      case rel =>
        have ho := happ4.own
        rw [← cellsD_snoc] at ho
        exact ⟨i + 1, q, c4, A4, o ++ [t], by go_num, by rw [hqi], rfl, by omega, hm2, Lib.hid rfl, Lib.hid (by rw [HQ.out, HTT.out]; exact HM.out), Lib.hid ho, Lib.hid (hbw.out.grown happ4.grown hbw.out.size (fun g hg => (ownsRow_block hown.out hg).1))⟩
    · by_cases h0 : 0 < cr
      · have HM := Lib.hid (hca.out.rest (by rw [HD.out.len]; omega) h0)
        have hle := HM.out.le
        rw [HD.out.len] at hle
        obtain ⟨t, ht⟩ : ∃ t, t = cr % 256 := ⟨_, rfl⟩
        obtain ⟨q, hq⟩ : ∃ q, q = cr / 256 := ⟨_, rfl⟩
        have hti : (cr : Int) % 256 = (t : Int) := by omega
        have hqi : (cr : Int) / 256 = (q : Int) := by omega
        have htl : t < 256 := by omega
        have hql : q < cr := by omega
        have HQ := Lib.hid hq
        have HTT := Lib.hid ht
        clear ht hq
        go_wp2_with (at_builtin; go_loud (refine wpList_oper rfl (oper_append_one (.tmp 26) (.tmp 29) 56 3 rfl w.heap.size i0 _ 8 Tryd.underlying56 HI0.out HY0.out HY1.out HY2.out rfl (by decide) (.slice B i k1) i _ (.int .i64 (t : Int)) rfl wr rfl rfl hown.out _ rfl rfl (by omega) hbs ?_)); intro A4 c4 w4 happ4)
        go_roundg ((n - (i + 1)) * 100000001 + q)
        case measure => rw [hgk.out, show n - i = 0 from by omega, show n - (i + 1) = 0 from by omega]; omega
        case rel =>
          have ho := happ4.own
          rw [← cellsD_snoc] at ho
          exact ⟨i + 1, q, c4, A4, o ++ [t], by go_num, rfl, rfl, by omega, by omega, Lib.hid rfl, Lib.hid (by rw [HQ.out, HTT.out]; exact HM.out), Lib.hid ho, Lib.hid (hbw.out.grown happ4.grown hbw.out.size (fun g hg => (ownsRow_block hown.out hg).1))⟩
      · obtain rfl : cr = 0 := by omega
        have HV : RowKit.Hid (val8 o = val8 l) := Lib.hid (by
          have h1 := hca.out.num
          rw [List.take_of_length_le (by rw [HD.out.len]; omega)] at h1
          omega)
        have hcut := cut_any (OwnD.digR hown.out (by omega)) hca.out.ok
        have HTK := Lib.hid (fun n' h => dgs_take (n := n') hca.out.ok h)
        rw [HV.out] at hcut HTK
        have HCUT := Lib.hid hcut
        clear hcut
        go_wp2_with fail
        refine (HCUT.out).mono ?_
        rintro e w' ⟨⟨n', rfl, hr⟩, rfl⟩
        have HR := Lib.hid hr
        have HLE : RowKit.Hid (n' ≤ i) := Lib.hid (by
          have h1 := hr.len
          have h2 := val_lt8 hca.out.ok
          have h3 := wds_len8 h2
          rw [HV.out, h1, hca.out.len] at h3
          exact h3)
        clear hr
        go_wp2_with fail
        go_ret
        refine ⟨hbw.out, _, _, _, rfl, HR.out.few, ?_⟩
        rw [HTK.out n' HR.out.len]
        exact own_take hown.out HLE.out

/-- The places summed. -/
structure PlT (x y : List Nat) (i : Nat) (o : List Nat) : Prop where
  len : o.length = i
  num : val8 o = val8 (x.take i) + val8 (y.take i)
  small : ∀ k, dg8 o k ≤ 20000
theorem PlT.step {x y : List Nat} {i : Nat} {o : List Nat} (h : PlT x y i o) (hx : dg8 x i ≤ 10000) (hy : dg8 y i ≤ 10000) : PlT x y (i + 1) (o ++ [dg8 x i + dg8 y i]) := by
  refine ⟨by rw [List.length_append, h.len]; rfl, ?_, fun k => ?_⟩
  · rw [val8_snoc, h.num, h.len, val_take_succ8, val_take_succ8, Nat.mul_add]; omega
  · rw [dg8_snoc]
    split
    · omega
    · exact h.small k

set_option maxRecDepth 100000 in
set_option maxHeartbeats 4000000 in
theorem plus_own {A C : Option Addr} {n c m d : Nat} {x y : List Nat} {w : World} (hx : DigR w A n c x) (hy : DigR w C m d y) (hox : ∀ k, dg8 x k ≤ 10000) (hoy : ∀ k, dg8 y k ≤ 10000) (hsn : n ≤ 40000) (hsm : m ≤ 40000) :
    Calls Tryd.prog 49 #[.slice A n c, .slice C m d] w (DigOPost (dgs (val8 x + val8 y)) w) := by
  obtain ⟨i0, hi, hy0, hy1, hy2⟩ := info_parts infoI
  have HI0 := Lib.hid hi
  have HY0 := Lib.hid hy0
  have HY1 := Lib.hid hy1
  have HY2 := Lib.hid hy2
  have HX := Lib.hid hx
  have HY := Lib.hid hy
  have HOX := Lib.hid hox
  have HOY := Lib.hid hoy
  clear hi hy0 hy1 hy2 hx hy hox hoy
  go_enter Tryd.func49, Tryd.ntmps49
  go_wp2_with fail
  go_loopw [5, 6] (fun ov iv wr => ∃ (i k1 : Nat) (B : Option Addr) (o : List Nat), iv = .int .i64 (i : Int) ∧ ov = .slice B i k1 ∧ i ≤ max n m ∧ RowKit.Hid (PlT x y i o) ∧ RowKit.Hid (OwnD wr w.heap.size B i k1 o) ∧ RowKit.Hid (Below w.heap.size w wr)) (fun _ i _ => max n m - (intOf i).toNat)
  case atStart => exact ⟨0, 0, none, [], rfl, rfl, by omega, Lib.hid ⟨rfl, by simp [val8], fun k => by simp [dg8]⟩, Lib.hid (OwnD.nil _ _), Lib.hid (Below.refl _ _)⟩
  case round =>
    obtain ⟨i, k1, B, o, rfl, rfl, him, hpl, hown, hbw⟩ := hrel
    have hbs := hbw.out.size
    have hxl := HOX.out i
    have hyl := HOY.out i
    have HST := Lib.hid (hpl.out.step hxl hyl)
    by_cases hn : i < n
    · obtain ⟨ab, aoff, rfl, hab, hac⟩ := (HX.out.below hbw.out).cell_at hn
      by_cases hm : i < m
      · obtain ⟨bb, boff, rfl, hbb, hbc⟩ := (HY.out.below hbw.out).cell_at hm
        generalize dg8 x i = p at *
        generalize dg8 y i = q at *
        obtain ⟨s, hs⟩ : ∃ s, s = p + q := ⟨_, rfl⟩
        have hsi : (p : Int) + (q : Int) = (s : Int) := by omega
        rw [← hs] at HST
        clear hs
        go_wp2_with (at_builtin; go_loud (refine wpList_oper rfl (oper_append_one (.tmp 40) (.tmp 42) 56 3 rfl w.heap.size i0 _ 8 Tryd.underlying56 HI0.out HY0.out HY1.out HY2.out rfl (by decide) (.slice B i k1) i _ (.int .i64 (s : Int)) rfl wr rfl rfl hown.out _ rfl rfl (by omega) hbs ?_)); intro A4 c4 w4 happ4)
        go_roundw
        case rel =>
          have ho := happ4.own
          rw [← cellsD_snoc] at ho
          exact ⟨i + 1, c4, A4, _, by go_num, rfl, by omega, HST, Lib.hid ho, Lib.hid (hbw.out.grown happ4.grown hbw.out.size (fun g hg => (ownsRow_block hown.out hg).1))⟩
        case measure => simp [intOf]; omega
      · have hy0 : dg8 y i = 0 := wd_out8 (by rw [HY.out.len]; omega)
        rw [hy0, Nat.add_zero] at HST
        clear hy0 hyl
        generalize dg8 x i = p at *
        go_wp2_with (at_builtin; go_loud (refine wpList_oper rfl (oper_append_one (.tmp 40) (.tmp 42) 56 3 rfl w.heap.size i0 _ 8 Tryd.underlying56 HI0.out HY0.out HY1.out HY2.out rfl (by decide) (.slice B i k1) i _ (.int .i64 (p : Int)) rfl wr rfl rfl hown.out _ rfl rfl (by omega) hbs ?_)); intro A4 c4 w4 happ4)
        go_roundw
        case rel =>
          have ho := happ4.own
          rw [← cellsD_snoc] at ho
          exact ⟨i + 1, c4, A4, _, by go_num, rfl, by omega, HST, Lib.hid ho, Lib.hid (hbw.out.grown happ4.grown hbw.out.size (fun g hg => (ownsRow_block hown.out hg).1))⟩
        case measure => simp [intOf]; omega
    · have hx0 : dg8 x i = 0 := wd_out8 (by rw [HX.out.len]; omega)
      rw [hx0, Nat.zero_add] at HST
      clear hx0 hxl
      by_cases hm : i < m
      · obtain ⟨bb, boff, rfl, hbb, hbc⟩ := (HY.out.below hbw.out).cell_at hm
        generalize dg8 y i = q at *
        go_wp2_with (at_builtin; go_loud (refine wpList_oper rfl (oper_append_one (.tmp 40) (.tmp 42) 56 3 rfl w.heap.size i0 _ 8 Tryd.underlying56 HI0.out HY0.out HY1.out HY2.out rfl (by decide) (.slice B i k1) i _ (.int .i64 (q : Int)) rfl wr rfl rfl hown.out _ rfl rfl (by omega) hbs ?_)); intro A4 c4 w4 happ4)
        go_roundw
        case rel =>
          have ho := happ4.own
          rw [← cellsD_snoc] at ho
          exact ⟨i + 1, c4, A4, _, by go_num, rfl, by omega, HST, Lib.hid ho, Lib.hid (hbw.out.grown happ4.grown hbw.out.size (fun g hg => (ownsRow_block hown.out hg).1))⟩
        case measure => simp [intOf]; omega
      · have HV : RowKit.Hid (val8 o = val8 x + val8 y) := Lib.hid (by
          rw [hpl.out.num, List.take_of_length_le (by rw [HX.out.len]; omega), List.take_of_length_le (by rw [HY.out.len]; omega)])
        have hcar := carried_own (OwnD.digR hown.out (by omega)) (by omega) (fun k => Nat.le_trans (hpl.out.small k) (by decide))
        rw [HV.out] at hcar
        have HCAR := Lib.hid hcar
        clear hcar
        go_wp2_with fail
        refine (HCAR.out).mono ?_
        rintro e w5 ⟨hb5, A5, n5, c5, rfl, hf5, hr5⟩
        have HR5 := Lib.hid hr5
        clear hr5
        go_wp2_with fail
        go_ret
        exact ⟨hbw.out.trans (hb5.mono hbw.out.size), A5, n5, c5, rfl, hf5, own_base HR5.out hbw.out.size⟩


end Go.Proofs.YtgiepikoffaaiaaDoor
