/- core: rebuilt. -/
import Derived.Test.YtjoddliplahgkaaDNmA
namespace Go.Proofs.Ytjoddliplahgkaa
open Go.Lib (hid)
open Go.RowKit
theorem rb_next {li tot pre a1 : List Nd} {n1 : Nd} {k1 nx : Fo} {y : TT} {ys : List TT} (h : li ++ row (setKs (.cons pre n1 a1 k1 nx) (y :: ys)) = tot) : (li ++ pre) ++ rowT y ++ row (setKs nx ys) = tot := by
 rw [← h]
 simp [setKs, row, rowT]
theorem kidL_nil : ∀ {F : Fo}, kidL F = [] → F = .nil
 | .nil, _ => rfl
 | .cons _ _ _ _ _, h => by simp [kidL] at h
def RbF (m i : Nat) (dF : Fo) : Prop := Wf (List.replicate (m - i) false) dF
def RbE (tt : List Nd) (nb i p : Nat) (dF : Fo) : Prop := (∃ q, i = 2 * q ∧ q ≤ nb ∧ At tt p (dsF (nb - q)) dF) ∨ (∃ q n2 a2 k2 nx, i = 2 * q + 1 ∧ q < nb ∧ dF = .cons [] n2 a2 k2 nx ∧ At tt p (dsF (nb - q - 1)) nx)
def RebP (R : Nat → Prop) (l : List Nd) (w : World) (e : Ending) (w' : World) : Prop := Below w.heap.size w w' ∧ ∃ A n c, e = .returned (.slice A n c) ∧ TermR (fun q => R q ∨ (w.heap.size ≤ q ∧ q < w'.heap.size)) w' A n c l
theorem rowK_at {R : Nat → Prop} {w : World} {A : Option Addr} {n c : Nat} {ys : List TT} (h : RowsR R w A n c (ys.map rowT)) {i : Nat} (hi : i < n) : ∃ (hl : i < ys.length) (b o : Nat) (A1 : Option Addr) (n1 c1 : Nat), A = some ⟨b, o, none⟩ ∧ R b ∧ w.cell? ⟨b, o + i, none⟩ = some (.slice A1 n1 c1) ∧ TermR R w A1 n1 c1 (rowT ys[i]) := by
 have hl : i < ys.length := by have := h.len; rw [List.length_map] at this; omega
 obtain ⟨b, o, e, hb, hm⟩ := h.mem (by omega)
 obtain ⟨A1, n1, c1, h1, h2⟩ := hm i hi
 have e2 : (ys.map rowT).getD i [] = rowT ys[i] := by
  rw [List.getD_eq_getElem?_getD, List.getElem?_map, List.getElem?_eq_getElem hl]
  rfl
 rw [e2] at h2
 exact ⟨hl, b, o, A1, n1, c1, e, hb, h1, h2⟩
theorem list_part {a b c : List Nd} (h : a ++ b = c) : a.length ≤ c.length := by rw [← h, List.length_append]; omega
set_option linter.unusedSimpArgs false in
set_option linter.unusedVariables false in
set_option maxRecDepth 100000 in
set_option maxHeartbeats 4000000 in
theorem crebuilt_any {R : Nat → Prop} {free : Int} {b : Bk} {t : TT} {A Ak : Option Addr} {n c nk ck : Nat} {ys : List TT} {w : World} (ht : TermR R w A n c (rowT t)) (hR : ∀ q, R q → q < w.heap.size) (ft : FitT b free t) (hyl : ys.length = (kidL t.2.2).length) (hk : RowsR (· < w.heap.size) w Ak nk ck (ys.map rowT)) (hsz : szT (withKs t ys) ≤ 100000000) :
 Calls Try.prog 78 #[.slice A n c, .slice Ak nk ck] w (RebP R (rowT (withKs t ys)) w) := by
 obtain ⟨i0, hi, hy0, hy1, hy2⟩ := info_parts infoN'
 have HI0 := hid hi
 have HY0 := hid hy0
 have HY1 := hid hy1
 have HY2 := hid hy2
 clear hi hy0 hy1 hy2
 have htv : TermV w A n c (rowT t) := ht.keep fun q hq => ⟨hR q hq, fun _ => rfl⟩
 have hn0 : 0 < n := by rw [← ht.len]; exact rowT_pos t
 have hn4 : n ≤ 4096 := by rw [← ht.len]; exact ft.few
 have hnkf := hk.few
 have hkl : nk = ys.length := by have := hk.len; rw [List.length_map] at this; exact this.symm
 by_cases h0 : nk = 0
 · have hk0 : t.2.2 = .nil := kidL_nil (List.eq_nil_of_length_eq_zero (by omega))
   have hys : ys = [] := List.eq_nil_of_length_eq_zero (by omega)
   have hres : withKs t ys = t := by
    obtain ⟨a, b', k⟩ := t
    simp only at hk0
    subst hk0 hys
    rfl
   rw [hres]
   have HT := hid ht
   have d0 : ((nk : Int) == 0) = true := by rw [h0]; rfl
   have d1 : (nk == 0) = true := by rw [h0]; rfl
   clear ht htv ft hk hres hys hk0 h0 hkl hyl hsz
   go_in
   go_wp2_with fail
   go_ret
   exact ⟨Below.refl _ _, A, n, c, rfl, HT.out.keep fun q hq => ⟨.inl hq, fun _ => rfl⟩⟩
 have d0 : ((nk : Int) == 0) = false := by rw [beq_eq_false_iff_ne]; omega
 have d1 : (nk == 0) = false := by rw [beq_eq_false_iff_ne]; omega
 have hat : t.2.1 = [] := by
  by_cases h2 : t.1.op = 2
  · have hw := ft.okt.wf
    have hd : ds t.1 = [] := by
     unfold ds
     rw [if_neg (by omega), h2]
     rfl
    rw [hd] at hw
    have : (kidL t.2.2).length = 0 := by
     cases hF : t.2.2 with
     | nil => rfl
     | cons p n a k x => rw [hF] at hw; exact hw.elim
    omega
  have h1 := ft.okt.at_
  unfold AtOk at h1
  rwa [if_neg h2] at h1
 obtain ⟨bs, os, rfl, hbs, hc0, hc1, hc2⟩ := htv.at_ hn0
 simp only [Nat.zero_mul, Nat.add_zero] at hc0 hc1 hc2
 rw [show nth (rowT t) 0 = t.1 from rfl] at hc0 hc1 hc2
 obtain ⟨so, hso⟩ : ∃ z, z = t.1.op := ⟨_, rfl⟩
 obtain ⟨sa, hsa⟩ : ∃ z, z = t.1.a := ⟨_, rfl⟩
 obtain ⟨sb, hsb⟩ : ∃ z, z = t.1.b := ⟨_, rfl⟩
 obtain ⟨tot, htot⟩ : ∃ z, z = rowT (withKs t ys) := ⟨_, rfl⟩
 have hst : [t.1] ++ row (setKs t.2.2 ys) = tot := by
  rw [htot]
  show _ = t.1 :: (t.2.1 ++ row (setKs t.2.2 ys))
  rw [hat]; rfl
 have htl : tot.length ≤ 100000000 := by rw [htot]; exact hsz
 rw [← htot]
 rw [← hso] at hc0
 rw [← hsa] at hc1
 rw [← hsb] at hc2
 have HTF := hid (fun (w' : World) (h : Below w.heap.size w w') => htv.below h)
 have HK := hid hk
 have HST := hid hst
 have HTL := hid htl
 have HLN := hid ht.len
 have HKL := hid hkl
 obtain ⟨w1, hw1⟩ : ∃ w1 : World, w1 = w.alloc (.cells #[.int .i64 so, .int .i64 sa, .int .i64 sb] 50) := ⟨_, rfl⟩
 have hb1 : Below w.heap.size w w1 := by rw [hw1]; exact below_alloc _ _
 have ho1 : OwnN w1 w.heap.size (.slice (some ⟨w.heap.size, 0, none⟩) 1 1) [t.1] := by rw [hw1, hso, hsa, hsb]; exact own_new' rfl (Nat.le_refl _) t.1
 have HB1 := hid hb1
 have HO1 := hid ho1
 by_cases o12 : so = 12
 rotate_left
 · have d12 : (so == 12) = false := by rw [beq_eq_false_iff_ne]; omega
   have hwf : RbF nk 0 t.2.2 := by
    have hw := ft.okt.wf
    have hd : ds t.1 = List.replicate (kidsI t.1.op t.1.b).toNat false := by unfold ds; rw [if_neg (by omega)]
    rw [hd] at hw
    have h9 := wf_kids hw
    rw [List.length_replicate] at h9
    unfold RbF
    rw [Nat.sub_zero, show nk = (kidsI t.1.op t.1.b).toNat from by omega]
    exact hw
   have HWF := hid hwf
   clear ht htv ft hk hkl hyl hsz hst htl hso hsa hsb htot hat hb1 ho1 hwf o12 h0
   go_in
   go_upto_region 4 with fail
   rw [← hw1]
   clear hw1
   go_wp2_with fail
   go_loopw [5, 19] (fun ov iv wr => ∃ (i q c1 : Nat) (A1 : Option Addr) (li : List Nd) (dF : Fo), i ≤ nk ∧ iv = .int .i64 (i : Int) ∧ ov = .slice A1 q c1 ∧ Hid (OwnN wr w.heap.size (.slice A1 q c1) li) ∧ Hid (li ++ row (setKs dF (ys.drop i)) = tot) ∧ Hid (RbF nk i dF) ∧ Hid (Below w.heap.size w wr)) (fun _ iv _ => nk - (intOf iv).toNat)
   case atStart => exact ⟨0, 1, 1, _, [t.1], t.2.2, by omega, rfl, rfl, HO1, HST, HWF, HB1⟩
   case round =>
    obtain ⟨i, q, c1, A1, li, dF, hi, rfl, rfl, hown, hli, hrb, hbw⟩ := hrel
    by_cases hlt : i < nk
    rotate_left
    · have e1 : decide ((i : Int) < (nk : Int)) = false := decide_eq_false (by omega)
      have e2 : decide (i < nk) = false := decide_eq_false hlt
      have hfin : li = tot := by
       have h9 := hli.out
       have hwf := hrb.out
       unfold RbF at hwf
       rw [show nk - i = 0 from by omega] at hwf
       have hnil : dF = .nil := by
        match dF, hwf with
        | .nil, _ => rfl
       rw [hnil] at h9
       simpa [setKs, row] using h9
      have HT9 : Hid (TermR (fresh w wr) wr A1 q c1 tot) := hid (by
       have h9 := own_fresh hown.out (by rw [hfin]; have := HTL.out; omega)
       rw [hfin] at h9
       exact h9)
      have HBW := hid hbw.out
      clear hown hli hrb hbw hfin hlt
      go_wp2_with fail
      go_ret
      exact ⟨HBW.out, A1, q, c1, rfl, HT9.out.keep fun z hz => ⟨.inr hz, fun _ => rfl⟩⟩
    have e1 : decide ((i : Int) < (nk : Int)) = true := decide_eq_true (by omega)
    have e2 : decide (i < nk) = true := decide_eq_true hlt
    have e3 : (i : Int) < (nk : Int) := by omega
    obtain ⟨hil, bb, oo, A2, n2, c2, hA, hbb, hcc, htt⟩ := rowK_at HK.out hlt
    have hwf := hrb.out
    unfold RbF at hwf
    rw [show nk - i = (nk - (i + 1)) + 1 from by omega, List.replicate_succ] at hwf
    obtain ⟨pre, n1, a1, k1, nx, rfl, hpre, hnx⟩ : ∃ pre n1 a1 k1 nx, dF = .cons pre n1 a1 k1 nx ∧ pre = [] ∧ Wf (List.replicate (nk - (i + 1)) false) nx := by
     match dF, hwf with
     | .cons pre n1 a1 k1 nx, hwf => exact ⟨_, _, _, _, _, rfl, hwf.1, hwf.2.2.2.2⟩
    subst hpre
    have h9 := hli.out
    rw [List.drop_eq_getElem_cons hil] at h9
    have h8 := rb_next h9
    rw [List.append_nil] at h8
    obtain ⟨yr, hyr⟩ : ∃ yr, yr = rowT ys[i] := ⟨_, rfl⟩
    rw [← hyr] at h8 htt
    obtain ⟨li2, hli2⟩ : ∃ z, z = li ++ yr := ⟨_, rfl⟩
    rw [← hli2] at h8
    have HLI := hid h8
    have hlen2 := list_part h8
    have hy2l : yr.length = n2 := htt.len
    have hll : li.length + n2 ≤ 100000000 := by have := HTL.out; rw [hli2, List.length_append, hy2l] at hlen2; omega
    have HLI2 := hid hli2
    have HNX : Hid (RbF nk (i + 1) nx) := hid hnx
    have hq : q = li.length := by obtain ⟨_, _, e⟩ := hown.out.slice; simp only [Value.slice.injEq] at e; exact e.2.1
    have HOW : Hid (OwnN wr w.heap.size (.slice A1 li.length c1) li) := hid (by rw [← hq]; exact hown.out)
    have HT2 := hid (TermR.keep htt (R' := (· < wr.heap.size)) (w' := wr) fun z hz => ⟨Nat.lt_of_lt_of_le hz hbw.out.size, fun o => hbw.out.cell (p := ⟨z, o, none⟩) hz⟩)
    have hcr := (hbw.out.cell (p := ⟨bb, oo + i, none⟩) hbb).trans hcc
    have hcr0 := (hbw.out.cell (p := ⟨bs, os, none⟩) hbs).trans hc0
    have HBW := hid hbw.out
    subst hA
    subst hq
    clear hown hli hrb hbw hwf hnx h9 h8 hyr hlen2 hy2l hli2 htt hcc hil
    go_wp2_with (at_builtin; refine wpList_oper rfl (oper_append_row (.tmp 47) (.tmp 48) 29 29 rfl w.heap.size i0 Try.underlying29 Try.underlying29 HI0.out HY0.out HY1.out HY2.out (.slice A1 li.length c1) li yr (by rfl) HOW.out (by rfl) HT2.out (by omega) HBW.out.size ?_); intro A4 c4 w4 hown4 happ4)
    have HO4 : Hid (OwnN w4 w.heap.size (.slice A4 (li.length + n2) c4) li2) := hid (by rw [HLI2.out]; exact hown4)
    have HB4 : Hid (Below w.heap.size w w4) := hid (HBW.out.grown happ4.grown HBW.out.size (fun g hg => (ownsRow_block HOW.out hg).1))
    clear hown4 happ4
    go_roundw
    case rel => exact ⟨i + 1, li.length + n2, c4, A4, li2, nx, by omega, by go_num, rfl, HO4, HLI, HNX, HB4⟩
    case measure => simp [intOf]; omega
 have h12 : t.1.op = 12 := hso.symm.trans o12
 obtain ⟨p1, p2, p3, p4, p5⟩ := fix_parts ft.okt h12
 obtain ⟨nb, hnb⟩ : ∃ nb : Nat, t.1.b = (nb : Int) := ⟨t.1.b.toNat, by omega⟩
 have hnk : nk = 2 * nb := by omega
 have hatF : RbE (rowT t) nb 0 1 t.2.2 := by
  have h9 : At (rowT t) 1 (ds t.1) t.2.2 := At.first (n := t.1) (a := t.2.1) (k := t.2.2) ft.rt (by omega)
  rw [ds_fix h12 hnb] at h9
  exact .inl ⟨0, rfl, Nat.zero_le _, h9⟩
 have HAF := hid hatF
 have HNK := hid hnk
 obtain ⟨tt, htt0⟩ : ∃ tt, tt = rowT t := ⟨_, rfl⟩
 rw [← htt0] at HAF HTF HLN
 subst o12
 clear ht htv ft hk hkl hyl hsz hst htl hsa hsb htot hat hb1 ho1 hatF h0 p1 p2 p3 p4 p5 hnb hnk hso h12 htt0
 go_in
 go_upto_region 4 with fail
 rw [← hw1]
 clear hw1
 go_wp2_with fail
 go_loopw [5, 6, 19] (fun ov pv iv wr => ∃ (i p q c1 : Nat) (A1 : Option Addr) (li : List Nd) (dF : Fo), i ≤ nk ∧ iv = .int .i64 (i : Int) ∧ pv = .int .i64 (p : Int) ∧ ov = .slice A1 q c1 ∧ p ≤ n ∧ Hid (OwnN wr w.heap.size (.slice A1 q c1) li) ∧ Hid (li ++ row (setKs dF (ys.drop i)) = tot) ∧ Hid (RbE tt nb i p dF) ∧ Hid (Below w.heap.size w wr)) (fun _ _ iv _ => nk - (intOf iv).toNat)
 case atStart => exact ⟨0, 1, 1, 1, _, [t.1], t.2.2, by omega, rfl, rfl, rfl, by omega, HO1, HST, HAF, HB1⟩
 case round =>
  obtain ⟨i, p, q, c1, A1, li, dF, hi, rfl, rfl, rfl, hpn, hown, hli, hrb, hbw⟩ := hrel
  by_cases hlt : i < nk
  rotate_left
  · have e1 : decide ((i : Int) < (nk : Int)) = false := decide_eq_false (by omega)
    have e2 : decide (i < nk) = false := decide_eq_false hlt
    have hfin : li = tot := by
     have h9 := hli.out
     have hnk := HNK.out
     rcases hrb.out with ⟨z, hz, hz2, hat⟩ | ⟨z, _, _, _, _, hz, hz2, _⟩
     · rw [show nb - z = 0 from by omega] at hat
       rw [hat.done] at h9
       simpa [setKs, row] using h9
     omega
    have HT9 : Hid (TermR (fresh w wr) wr A1 q c1 tot) := hid (by
     have h9 := own_fresh hown.out (by rw [hfin]; have := HTL.out; omega)
     rw [hfin] at h9
     exact h9)
    have HBW := hid hbw.out
    clear hown hli hrb hbw hfin hlt
    go_wp2_with fail
    go_ret
    exact ⟨HBW.out, A1, q, c1, rfl, HT9.out.keep fun z hz => ⟨.inr hz, fun _ => rfl⟩⟩
  have e1 : decide ((i : Int) < (nk : Int)) = true := decide_eq_true (by omega)
  have e2 : decide (i < nk) = true := decide_eq_true hlt
  have e3 : (i : Int) < (nk : Int) := by omega
  obtain ⟨hil, bb, oo, A2, n2, c2, hA, hbb, hcc, htt⟩ := rowK_at HK.out hlt
  have hcr := (hbw.out.cell (p := ⟨bb, oo + i, none⟩) hbb).trans hcc
  have hcr0 := (hbw.out.cell (p := ⟨bs, os, none⟩) hbs).trans hc0
  have hq : q = li.length := by obtain ⟨_, _, e⟩ := hown.out.slice; simp only [Value.slice.injEq] at e; exact e.2.1
  have HOW : Hid (OwnN wr w.heap.size (.slice A1 li.length c1) li) := hid (by rw [← hq]; exact hown.out)
  have HBW := hid hbw.out
  have h9 := hli.out
  rw [List.drop_eq_getElem_cons hil] at h9
  obtain ⟨yy, hyy⟩ : ∃ yy, yy = ys[i] := ⟨_, rfl⟩
  rw [← hyy] at h9 htt
  have hy2l : (rowT yy).length = n2 := htt.len
  have HTT := hid (fun (W : World) (hB : Below w.heap.size w W) => TermR.keep htt (R' := (· < W.heap.size)) (w' := W) fun z hz => ⟨Nat.lt_of_lt_of_le hz hB.size, fun o => hB.cell (p := ⟨z, o, none⟩) hz⟩)
  have hrb2 := hrb.out
  have hnk := HNK.out
  clear hown hli hrb hbw hcc hyy htt hil
  subst hA
  subst hq
  rcases hrb2 with ⟨z, hz, hz2, hat⟩ | ⟨z, m2, a2, k2, nx, hz, hz2, hdF, hat⟩
  rotate_left
  · -- a function's body
    subst hdF
    have h8 := rb_next h9
    rw [List.append_nil] at h8
    obtain ⟨yr, hyr⟩ : ∃ yr, yr = rowT yy := ⟨_, rfl⟩
    rw [← hyr] at h8 HTT hy2l
    obtain ⟨li2, hli2⟩ : ∃ li2, li2 = li ++ yr := ⟨_, rfl⟩
    rw [← hli2] at h8
    have HLI := hid h8
    have hlen2 := list_part h8
    have hll : li.length + n2 ≤ 100000000 := by have := HTL.out; rw [hli2, List.length_append, hy2l] at hlen2; omega
    have HLI2 := hid hli2
    have HRB : Hid (RbE tt nb (i + 1) p nx) := hid (.inl ⟨z + 1, by omega, by omega, by rw [show nb - (z + 1) = nb - z - 1 from by omega]; exact hat⟩)
    have ht2 : Int.tmod (i : Int) 2 = 1 := by rw [Int.tmod_eq_emod_of_nonneg (by omega)]; omega
    have ht3 : (i : Int) % 2 = 1 := by omega
    have HT2 := hid (HTT.out wr HBW.out)
    clear h8 h9 hyr hli2 hlen2 hz hz2 hy2l hnk hat
    go_wp2_with (at_builtin; refine wpList_oper rfl (oper_append_row (.tmp 47) (.tmp 48) 29 29 rfl w.heap.size i0 Try.underlying29 Try.underlying29 HI0.out HY0.out HY1.out HY2.out (.slice A1 li.length c1) li yr (by rfl) HOW.out (by rfl) HT2.out (by omega) HBW.out.size ?_); intro A4 c4 w4 hown4 happ4)
    have HO4 : Hid (OwnN w4 w.heap.size (.slice A4 (li.length + n2) c4) li2) := hid (by rw [HLI2.out]; exact hown4)
    have HB4 : Hid (Below w.heap.size w w4) := hid (HBW.out.grown happ4.grown HBW.out.size (fun g hg => (ownsRow_block HOW.out hg).1))
    clear hown4 happ4
    go_roundw
    case rel => exact ⟨i + 1, p, li.length + n2, c4, A4, li2, nx, by omega, by go_num, rfl, rfl, hpn, HO4, HLI, HRB, HB4⟩
    case measure => simp [intOf]; omega
  -- a function's type: its node ahead
  have hfl := AtF_len _ hat
  obtain ⟨r, hr⟩ : ∃ r, nb - z = r + 1 := ⟨nb - z - 1, by omega⟩
  rw [hr] at hat hfl
  rw [show dsF (r + 1) = true :: false :: dsF r from rfl] at hat
  obtain ⟨pre1, n1, a1, k1, nx1, rfl, s1⟩ := hat.step
  obtain ⟨pre2, n2', a2, k2, nx2, rfl, s2⟩ := s1.next.step
  obtain ⟨fd, rfl, hfd, hnf⟩ := s1.fun_ rfl
  have hpl2 : pre2.length = 0 := s2.plen
  obtain rfl := List.eq_nil_of_length_eq_zero hpl2
  have h8 := rb_next h9
  have hnx := s2.next
  have hfl2 := AtF_len _ hnx
  obtain ⟨f1, l1⟩ := (⟨s1.end_, s1.le⟩ : _ ∧ _)
  obtain ⟨f2, l2⟩ := (⟨s2.end_, s2.le⟩ : _ ∧ _)
  simp only [List.length_cons, List.length_nil, Nat.zero_add, Nat.add_zero] at f1 l1 f2 l2 hnx hfl2
  obtain ⟨y1, hy1⟩ : ∃ y1, y1 = ((n1, a1, k1) : TT) := ⟨_, rfl⟩
  obtain ⟨y2, hy2⟩ : ∃ y2, y2 = ((n2', a2, k2) : TT) := ⟨_, rfl⟩
  rw [← hy1] at f1 l1 f2 l2 hnx hfl2
  rw [← hy2] at f2 l2 hnx hfl2
  obtain ⟨g1, hg1⟩ : ∃ g, g = p + 1 + (rowT y1).length := ⟨_, rfl⟩
  obtain ⟨g2, hg2⟩ : ∃ g, g = g1 + (rowT y2).length := ⟨_, rfl⟩
  rw [← hg1] at f1 l1 f2 l2 hnx hfl2
  rw [← hg2] at f2 l2 hnx hfl2
  rw [HLN.out] at l1 l2 hfl hfl2
  rw [show ((p + 1 : Nat) : Int) = (p : Int) + 1 from by omega] at f1
  obtain ⟨b', o', e', _, hp0, hp1, hp2⟩ := TermV.at_ (HTF.out wr HBW.out) (p := p) (by omega)
  injection e' with e'
  injection e' with e1' e2'
  subst e1' e2'
  rw [hnf] at hp0 hp1 hp2
  have HEN1 := hid (fun (wr : World) (h : Below w.heap.size w wr) => end_any (HTF.out wr h) ((p : Int) + 1))
  rw [f1] at HEN1
  have HEN2 := hid (fun (wr : World) (h : Below w.heap.size w wr) => end_any (HTF.out wr h) (g1 : Int))
  rw [f2] at HEN2
  have HRB : Hid (RbE tt nb (i + 1) g2 (.cons [] n2' a2 k2 nx2)) := hid (.inr ⟨z, n2', a2, k2, nx2, by omega, by omega, rfl, by rw [show nb - z - 1 = r from by omega]; exact hnx⟩)
  obtain ⟨li1, hli1⟩ : ∃ li1, li1 = li ++ [fd] := ⟨_, rfl⟩
  rw [← hli1] at h8
  obtain ⟨yr, hyr⟩ : ∃ yr, yr = rowT yy := ⟨_, rfl⟩
  rw [← hyr] at h8 HTT hy2l
  obtain ⟨li2, hli2⟩ : ∃ li2, li2 = li1 ++ yr := ⟨_, rfl⟩
  rw [← hli2] at h8
  have HLI := hid h8
  have hlen2 := list_part h8
  have hl1 : li1.length = li.length + 1 := by rw [hli1, List.length_append]; rfl
  have hll : li.length + 1 + n2 ≤ 100000000 := by have := HTL.out; rw [hli2, List.length_append, hy2l, hl1] at hlen2; omega
  have HLI1 := hid hli1
  have HLI2 := hid hli2
  have HL1 := hid hl1
  have hg2n : g2 ≤ n := by omega
  have hip : (0 : Int) ≤ (p : Int) := by omega
  have hipn : (p : Int) < (n : Int) := by omega
  have hipn2 : p < n := by omega
  have ht2 : Int.tmod (i : Int) 2 = 0 := by rw [Int.tmod_eq_emod_of_nonneg (by omega)]; omega
  have ht3 : (i : Int) % 2 = 0 := by omega
  have hfdo : fd = ⟨fd.op, fd.a, fd.b⟩ := rfl
  have HOL : Hid (OwnN (wr.alloc (.cells #[.int .i64 fd.op, .int .i64 fd.a, .int .i64 fd.b] 50)) w.heap.size (.slice A1 li.length c1) li) := hid (HOW.out.alloc _)
  have HKL : Hid (Blk (wr.alloc (.cells #[.int .i64 fd.op, .int .i64 fd.a, .int .i64 fd.b] 50)) wr.heap.size 50 (litC [fd])) := hid (Blk.new _ _ _)
  have HLT : Hid (TermV (wr.alloc (.cells #[.int .i64 fd.op, .int .i64 fd.a, .int .i64 fd.b] 50)) (some ⟨wr.heap.size, 0, none⟩) 1 1 [fd]) := hid (lit_term HKL.out rfl (Nat.le_refl _) (by simp))
  have HBL : Hid (Below w.heap.size w (wr.alloc (.cells #[.int .i64 fd.op, .int .i64 fd.a, .int .i64 fd.b] 50))) := hid (HBW.out.alloc HBW.out.size _)
  clear hat hfl s1 s2 hpl2 hnx hfl2 f1 l1 f2 l2 hy1 hy2 hg1 hg2 hr hnf hfd h8 h9 hyr hli1 hli2 hlen2 hl1 hz hz2 hy2l hnk hfdo
  go_wp2_with (at_builtin; refine wpList_oper rfl (oper_append_row (.tmp 34) (.tmp 39) 29 29 rfl w.heap.size i0 Try.underlying29 Try.underlying29 HI0.out HY0.out HY1.out HY2.out (.slice A1 li.length c1) li [fd] (by rfl) HOL.out (by rfl) HLT.out (by omega) HBL.out.size ?_); intro A3 c3 w3 hown3 happ3; go_loud (have HO3 : Hid (OwnN w3 w.heap.size (.slice A3 (li.length + 1) c3) li1) := hid (by rw [HLI1.out]; exact hown3)); go_loud (have HB3 : Hid (Below w.heap.size w w3) := hid (HBL.out.grown happ3.grown HBL.out.size (fun g hg => (ownsRow_block HOL.out hg).1))); clear hown3 happ3)
  refine (HEN1.out w3 HB3.out).mono ?_
  rintro e w5 ⟨rfl, hd5⟩
  have HB5 := bto HB3 hd5
  have HO5 := hid (own_below HO3.out hd5)
  clear hd5 hp0 hp1 hp2 hcr0
  go_wp2_with fail
  refine (HEN2.out w5 HB5.out).mono ?_
  rintro e w6 ⟨rfl, hd6⟩
  have HB6 := bto HB5 hd6
  have HO6 : Hid (OwnN w6 w.heap.size (.slice A3 li1.length c3) li1) := hid (by rw [HL1.out]; exact own_below HO5.out hd6)
  have HT6 := hid (HTT.out w6 HB6.out)
  have hq3 : li.length + 1 = li1.length := HL1.out.symm
  rw [hq3] at hll
  clear hd6
  go_upto_region 11 with fail
  clear hq3
  go_wp2_with (at_builtin; refine wpList_oper rfl (oper_append_row (.tmp 47) (.tmp 48) 29 29 rfl w.heap.size i0 Try.underlying29 Try.underlying29 HI0.out HY0.out HY1.out HY2.out (.slice A3 li1.length c3) li1 yr (by rfl) HO6.out (by rfl) HT6.out (by omega) HB6.out.size ?_); intro A4 c4 w4 hown4 happ4)
  have HO4 : Hid (OwnN w4 w.heap.size (.slice A4 (li1.length + n2) c4) li2) := hid (by rw [HLI2.out]; exact hown4)
  have HB4 : Hid (Below w.heap.size w w4) := hid (HB6.out.grown happ4.grown HB6.out.size (fun g hg => (ownsRow_block HO6.out hg).1))
  clear hown4 happ4
  go_roundw
  case rel => exact ⟨i + 1, g2, li1.length + n2, c4, A4, li2, .cons [] n2' a2 k2 nx2, by omega, by go_num, rfl, rfl, hg2n, HO4, HLI, HRB, HB4⟩
  case measure => simp [intOf]; omega
end Go.Proofs.Ytjoddliplahgkaa
