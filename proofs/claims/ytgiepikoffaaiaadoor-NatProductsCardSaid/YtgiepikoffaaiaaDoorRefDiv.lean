/- DivMod of the reference. -/
import Derived.Test.YtgiepikoffaaiaaDoorRefDivP
import Derived.Test.YtgiepikoffaaiaaDoorRefParse
import Derived.Test.YtgiepikoffaaiaaDoorOwnMinus
namespace Go.Proofs.YtgiepikoffaaiaaDoor
open Go Go.RowKit

theorem dig_far {w : World} {base n c g : Nat} {A : Option Addr} {l : List Nat} (h : OwnD w base A n c l) (hf : n ≤ 1000000) (hg : g < base) (i : Nat) (v : Value) : DigR (w.setCell ⟨g, i, none⟩ v) A n c l := by
  have hgr : w.grownBy (w.setCell ⟨g, i, none⟩ v) (some g) := ⟨rfl, rfl, rfl, by simp, fun k _ h2 => Below.heap_setCell _ _ _ _ (fun e => h2 (by rw [e]))⟩
  exact OwnD.digR (World.ownsRow.kept h hgr (.inr (own_ne h hg).symm)) hf
/-- A quotient and a rest of the reference. -/
def RDivPost (x y : Nat) (w : World) (e : Ending) (w' : World) : Prop := Below w.heap.size w w' ∧ ∃ A n c B m d, e = .returned (.tuple #[.slice A n c, .slice B m d, .int .i64 0]) ∧ NatV w' A n c (wds (x / y)) ∧ NatV w' B m d (wds (x % y))

set_option maxHeartbeats 2000000 in
theorem refDiv_zero {A B : Option Addr} {n c m d x y i j : Nat} {w : World} (hx : Arg w A n c x i) (hy : Arg w B m d y j) (hi : i ≤ 300) (hj : j ≤ 300) (h0 : y = 0) : Calls Tryd.prog 15 #[.slice A n c, .slice B m d] w fun e w' => e = .returned (.tuple #[.slice none 0 0, .slice none 0 0, .int .i64 2]) ∧ Below w.heap.size w w' := by
  subst h0
  have H := Lib.hid (digits_num hx (by omega))
  have HY := Lib.hid hy
  clear hx hy
  go_enter Tryd.func15, Tryd.ntmps15
  go_wp2_with fail
  refine (H.out).mono ?_
  rintro e w1 ⟨hb1, A1, n1, c1, rfl, hd1⟩
  have H2 := Lib.hid (digits_num (HY.out.below hb1) (by omega))
  have HB1 := Lib.hid hb1
  clear hb1 hd1
  go_wp2_with fail
  refine (H2.out).mono ?_
  rintro e w2 ⟨hb2, A2, n2, c2, rfl, hd2⟩
  obtain rfl : 0 = n2 := by have := hd2.len; rwa [wds_zero8] at this
  go_wp2_with fail
  go_ret3
  exact ⟨rfl, HB1.out.trans (hb2.mono HB1.out.size)⟩

set_option maxRecDepth 100000 in
set_option maxHeartbeats 4000000 in
theorem refDiv_num {A B : Option Addr} {n c m d x y i j : Nat} {w : World} (hx : Arg w A n c x i) (hy : Arg w B m d y j) (hi : i ≤ 300) (hj : j ≤ 300) (h0 : 0 < y) : Calls Tryd.prog 15 #[.slice A n c, .slice B m d] w (RDivPost x y w) := by
  have H := Lib.hid (digits_num hx (by omega))
  have hfx := dgs_few hx.lt
  have hfy := dgs_few hy.lt
  have HY := Lib.hid hy
  have HYL := Lib.hid hy.lt
  clear hx hy
  go_enter Tryd.func15, Tryd.ntmps15
  go_wp2_with fail
  refine (H.out).mono ?_
  rintro e w1 ⟨hb1, A1, n1, c1, rfl, hd1⟩
  have hl1 := hd1.len
  have H2 := Lib.hid (digits_num (HY.out.below hb1) (by omega))
  have HB1 := Lib.hid hb1
  have HD1 := Lib.hid hd1
  have hn1 : n1 ≤ 1200 := by omega
  have HL1 := Lib.hid hl1
  clear hb1 hd1 hl1
  go_wp2_with fail
  refine (H2.out).mono ?_
  rintro e w2 ⟨hb2, A2, n2, c2, rfl, hd2⟩
  have hl2 := hd2.len
  have HD12 := Lib.hid (HD1.out.below hb2)
  have HB2 := Lib.hid (HB1.out.trans (hb2.mono HB1.out.size))
  have HD2 := Lib.hid hd2
  have hn2 : n2 ≤ 1200 := by omega
  have hn20 : ((n2 : Int) == 0) = false := beq_eq_false_iff_ne.2 (by
    intro e
    have e2 : (dgs y).length = 0 := by omega
    have := wds_nil8.1 (List.eq_nil_of_length_eq_zero e2)
    omega)
  have hmk := make_dig n1 (by omega)
  clear hb2 hd2 hl2 hfx hfy
  go_wp2_with fail
  clear hmk
  have HDX : RowKit.Hid (∀ wr, Below w2.heap.size w2 wr → DigR wr A1 n1 c1 (dgs x)) := Lib.hid fun wr h => HD12.out.below h
  have HDY : RowKit.Hid (∀ wr, Below w2.heap.size w2 wr → DigR wr A2 n2 c2 (dgs y)) := Lib.hid fun wr h => HD2.out.below h
  go_loopw [10, 11] (fun rv iv wr => ∃ (k r n3 c3 : Nat) (A3 : Option Addr) (qs : List Nat), rv = .slice A3 n3 c3 ∧ iv = .int .i64 ((k : Int) - 1) ∧ k ≤ 8 * n1 ∧ RowKit.Hid (RdS x y n1 k qs r) ∧ RowKit.Hid (DigR wr A3 n3 c3 (dgs r)) ∧ RowKit.Hid (Blk wr w2.heap.size 3 (cellsD qs)) ∧ RowKit.Hid (Below w2.heap.size w2 wr)) (fun _ i _ => (intOf i + 1).toNat)
  case atStart => exact ⟨8 * n1, 0, 0, 0, none, List.replicate n1 0, rfl, by go_num, Nat.le_refl _, Lib.hid (RdS.start HL1.out), Lib.hid (by rw [wds_zero8]; exact DigR.nil _), Lib.hid (Blk.new _ _ _), Lib.hid (below_alloc _ _)⟩
  case round =>
    obtain ⟨k, r, n3, c3, A3, qs, rfl, rfl, hk, hrd, hdr, hrow, hbw⟩ := hrel
    have hry : r < y := by rw [hrd.out.rest]; exact Nat.mod_lt _ h0
    by_cases hk0 : k = 0
    · subst hk0
      obtain ⟨hv1, hv2⟩ := hrd.out.fin
      have hw1 := words_any (Blk.digR hrow.out (by rw [hrd.out.len]; omega)) hrd.out.ok
      rw [hv1, hrd.out.len] at hw1
      have HW1 := Lib.hid hw1
      have HV2 := Lib.hid hv2
      have HBW := Lib.hid (HB2.out.trans (hbw.out.mono HB2.out.size))
      clear hw1 hv1 hv2 hry
      go_wp2_with fail
      refine (HW1.out).mono ?_
      rintro e w4 ⟨hb4, A4, n4, c4, rfl, hn4⟩
      have HW2 := Lib.hid (words_num (hdr.out.below hb4))
      have HN4 := Lib.hid hn4
      have HB4 := Lib.hid (HBW.out.trans (hb4.mono HBW.out.size))
      clear hb4 hn4
      go_wp2_with fail
      refine (HW2.out).mono ?_
      rintro e w5 ⟨hb5, A5, n5, c5, rfl, hn5⟩
      have HN45 := Lib.hid (HN4.out.below hb5)
      go_wp2_with fail
      go_ret3
      rw [HV2.out] at hn5
      exact ⟨HB4.out.trans (hb5.mono HB4.out.size), _, _, _, _, _, _, rfl, HN45.out, hn5⟩
    · obtain ⟨u, rfl⟩ : ∃ u, k = u + 1 := ⟨k - 1, by omega⟩
      rw [show (((u + 1 : Nat) : Int) - 1) = (u : Int) from by omega]
      have hrf := dgs_few (Nat.lt_trans hry HYL.out)
      have hrl := hdr.out.len
      have HP1 := Lib.hid (plus_num hdr.out hdr.out (by omega) (by omega))
      have hb2l := bitN_lt x u
      have hpw : 2 * r + bitN x u < pw (j + 1) := by
        have h1 := HYL.out
        rw [pw_succ]; omega
      have hff := dgs_few hpw
      have hrr : (dgs (r + r)).length ≤ 4 * (j + 1) := dgs_few (by rw [pw_succ]; have := HYL.out; omega)
      clear hrf hrl hpw
      go_wp2_with fail
      refine (HP1.out).mono ?_
      rintro e wa ⟨hba, Aa, na, ca, rfl, hda⟩
      have hla := hda.len
      have HBA := Lib.hid (hbw.out.trans (hba.mono hbw.out.size))
      have HDA := Lib.hid hda
      have HROWA := Lib.hid (Blk.below hrow.out hba hrow.out.lt)
      have hbit := bit_any (HDX.out _ HBA.out) (show u < 8 * n1 by omega)
      have HBIT := Lib.hid hbit
      clear hba hda hbit
      generalize hbb : bitN x u = bb at *
      have HBB := Lib.hid hbb
      clear hbb
      go_wp2_with fail
      refine (HBIT.out).mono ?_
      rintro e w' ⟨rfl, rfl⟩
      have hpl := plus_any (x := dgs (r + r)) (y := [bb]) (n := na) (m := 1) (w := wa.alloc (.cells #[.int .i64 (bb : Int)] 3)) (HDA.out.alloc _) (dig_one (Blk.new wa _ _) (by simp)) (ok_wds8 _) (ok_cons8.2 ⟨by omega, ok_nil8⟩) (by omega) (by omega)
      obtain ⟨V, hV⟩ : ∃ V, V = 2 * r + bb := ⟨_, rfl⟩
      rw [val_wds8, show r + r + val8 [bb] = V from by simp [val8]; omega] at hpl
      rw [← hV] at hff
      have HPL := Lib.hid hpl
      have HV := Lib.hid hV
      have HBA2 := Lib.hid (HBA.out.alloc HBA.out.size (.cells #[.int .i64 (bb : Int)] 3))
      have HROWA2 := Lib.hid (Blk.alloc HROWA.out (.cells #[.int .i64 (bb : Int)] 3))
      clear hpl hV
      go_wp2_with fail
      refine (HPL.out).mono ?_
      rintro e wb ⟨hbb, Ab, nb, cb, rfl, hdb⟩
      have hlb := hdb.len
      have hcr := carried_any hdb (by omega) (fun k => by have := wd_lt8 (ok_wds8 V) k; omega)
      rw [val_wds8] at hcr
      have HCR := Lib.hid hcr
      have HBB2 := Lib.hid (HBA2.out.trans (hbb.mono HBA2.out.size))
      have HROWB := Lib.hid (Blk.below HROWA2.out hbb HROWA2.out.lt)
      clear hbb hdb hcr
      go_wp2_with fail
      refine (HCR.out).mono ?_
      rintro e wc ⟨hbc, Ac, nc, cc, rfl, hdc⟩
      have HBC := Lib.hid (HBB2.out.trans (hbc.mono HBB2.out.size))
      have HROWC := Lib.hid (Blk.below HROWB.out hbc HROWB.out.lt)
      have HDC := Lib.hid hdc
      have HLS := Lib.hid (less_any hdc (HDY.out _ HBC.out))
      clear hbc hdc
      by_cases hlt : V < y
      · have HNEXT : RowKit.Hid (RdS x y n1 u qs V) := Lib.hid (by
          have h1 := hrd.out.step0 h0 (by rw [HBB.out, ← HV.out]; exact hlt)
          rwa [HBB.out, ← HV.out] at h1)
        have hdec := decide_eq_true hlt
        rw [hdec] at HLS
        clear hdec
        go_wp2_with fail
        refine (HLS.out).mono ?_
        rintro e wd ⟨rfl, hbd⟩
        have HBD := Lib.hid (HBC.out.trans (hbd.mono HBC.out.size))
        have HROWD := Lib.hid (Blk.below HROWC.out hbd HROWC.out.lt)
        have HDD := Lib.hid (HDC.out.below hbd)
        clear hbd
        go_wp2_with fail
        go_roundw
        case rel => exact ⟨u, V, nc, cc, Ac, qs, rfl, by go_num, by omega, HNEXT, HDD, HROWD, HBD⟩
        case measure => simp [intOf]
      · obtain ⟨q0, hq0⟩ : ∃ q0, q0 = u / 8 := ⟨_, rfl⟩
        obtain ⟨r0, hr0⟩ : ∃ r0, r0 = u % 8 := ⟨_, rfl⟩
        have hr8 : r0 < 8 := by omega
        have hqn : q0 < n1 := by omega
        have hstep := hrd.out.step1 (q0 := q0) (r0 := r0) h0 (by rw [HBB.out, ← HV.out]; omega) (by omega) hr8 hqn
        rw [HBB.out, ← HV.out] at hstep
        obtain ⟨hz, hst⟩ := hstep
        have hdec := decide_eq_false hlt
        rw [hdec] at HLS
        clear hdec
        have hs3 : (u : Int) / 8 = (q0 : Int) := by omega
        have hs4 : (u : Int) % 8 = (r0 : Int) := by omega
        have hle : y ≤ V := by omega
        have HQL := Lib.hid hrd.out.len
        obtain ⟨B, hB⟩ : ∃ B, B = 2 ^ r0 := ⟨_, rfl⟩
        have hBl : B ≤ 128 := by rw [hB]; exact Nat.pow_le_pow_right (by decide) (show r0 ≤ 7 by omega)
        have hBI : ((2 : Int) ^ r0) = (B : Int) := by rw [hB]; simp
        rw [← hB] at hz hst
        clear hB hq0 hr0
        go_wp2_with fail
        refine (HLS.out).mono ?_
        rintro e wd ⟨rfl, hbd⟩
        have HBD := Lib.hid (HBC.out.trans (hbd.mono HBC.out.size))
        have HROWD := Lib.hid (Blk.below HROWC.out hbd HROWC.out.lt)
        have HMI := Lib.hid (minus_own (HDC.out.below hbd) (HDY.out _ HBD.out) hle)
        clear hbd
        go_wp2_with fail
        refine (HMI.out).mono ?_
        rintro e we ⟨hbe, Ae, ne, ce, rfl, hfe, hde⟩
        have HBE := Lib.hid (HBD.out.trans (hbe.mono HBD.out.size))
        have hrowe := Blk.below HROWD.out hbe HROWD.out.lt
        have hoc : we.cell? ⟨w2.heap.size, q0, none⟩ = some (.int .i64 ((dg8 qs q0 : Nat) : Int)) := by rw [Blk.cell hrowe, cellsD_at qs (by rw [HQL.out]; exact hqn)]
        have hfz := Blk.frozen hrowe
        have HROWE := Lib.hid hrowe
        have HDE := Lib.hid hde
        have HST := Lib.hid hst
        generalize dg8 qs q0 = z at *
        obtain ⟨t, ht⟩ : ∃ t, t = z + B := ⟨_, rfl⟩
        have hti : (z : Int) + (B : Int) = (t : Int) := by omega
        rw [← ht] at HST
        clear hbe hrowe hde hst ht
        go_wp2_with fail
        go_roundw
        case rel => exact ⟨u, V - y, ne, ce, Ae, qs.set q0 t, rfl, by go_num, by omega, HST, Lib.hid (dig_far HDE.out hfe HROWD.out.lt _ _), Lib.hid (by
            have := HROWE.out.set_ q0 (.int .i64 (t : Int))
            rwa [cellsD_set] at this), Lib.hid (HBE.out.setCell (by simp) _)⟩
        case measure => simp [intOf]

end Go.Proofs.YtgiepikoffaaiaaDoor
