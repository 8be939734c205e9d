/- Merged: Rights, Deeps. -/
import Derived.Test.YtjoddliplahgkaaDRegist
import Derived.Test.YtjoddliplahgkaaDShort2
import Derived.Test.YtjoddliplahgkaaDSubst1
import Derived.Test.YtjoddliplahgkaaDLeafs
namespace Go.Proofs.Ytjoddliplahgkaa
section
open Go.Lib (hid)
set_option maxHeartbeats 4000000
set_option maxRecDepth 100000
set_option linter.unusedVariables false
set_option linter.unusedSimpArgs false
section
open Go.RowKit
theorem entriesE_cons {b : Bk} {i : Nat} {x : En} {r : List En} : entriesE b i (x :: r) = if entryE b i x ≠ 0 then entryE b i x else entriesE b (i + 1) r := rfl
theorem right_any {w : World} {v : BkVal} {b : Bk} (hb : BookV w v b) :
 Calls Try.prog 22 #[.agg #[.int .i64 b.vars, .slice v.Ao v.no v.co, .slice v.Ae v.ne v.ce, .int .i64 b.nat, .slice v.Ap v.np v.cp]] w (ErrP (rightE b) w) := by
 have hlen := hb.entries.len
 have hefew := hb.entries.few
 have HCHK := hid (fun (w' : World) (h : Below w.heap.size w w') => check_any hb.vars (hb.orders.below h))
 have HEN := hid (fun (w' : World) (h : Below w.heap.size w w') => hb.entries.below h)
 have HENT := hid (fun (w' : World) (i : Nat) (ev : EnVal) (x : En) (h : Below w.heap.size w w') (h1 : i ≤ b.entries.length) (h2 : EnC w' ev x) => bentry_any (hb.below h) (i : Int) (by omega) h2)
 have HREG := hid (fun (w' : World) (h : Below w.heap.size w w') => registered_any (hb.below h))
 have HB0 := hid (below_alloc w (.cells #[.int .i64 b.vars, .slice v.Ao v.no v.co, .slice v.Ae v.ne v.ce, .int .i64 b.nat, .slice v.Ap v.np v.cp] 26))
 have HK0 := hid (Blk.new w 26 #[.int .i64 b.vars, .slice v.Ao v.no v.co, .slice v.Ae v.ne v.ce, .int .i64 b.nat, .slice v.Ap v.np v.cp])
 have HR0 : Hid (rightE b = if (clR b.vars b.orders).1 ≠ 0 then (clR b.vars b.orders).1
 else if 64 < b.entries.length then 5
 else if entriesE b 0 b.entries ≠ 0 then entriesE b 0 b.entries
 else if regB b then 0 else 22) := hid rfl
 generalize rightE b = res at *
 generalize (clR b.vars b.orders).1 = ck at *
 rw [hlen] at HR0 HENT
 have HLN := hid hlen
 obtain ⟨Ao, no, co, Ae, ne, ce, Ap, np, cp⟩ := v
 simp only at HCHK HEN HENT HREG HB0 HK0 HR0 HLN hefew ⊢
 clear hb hlen
 generalize b.vars = bv at *
 generalize b.nat = bn at *
 by_cases h1 : ck = 0
 case neg =>
  rw [if_pos h1] at HR0
  have d1 : (ck != 0) = true := by simpa using h1
  clear h1
  go_in
  go_wp2_with fail
  refine (HCHK.out _ HB0.out).mono ?_
  rintro e w2 ⟨rfl, hb2⟩
  have HB2 := bto HB0 hb2
  clear hb2
  go_wp2_with fail
  go_ret
  rw [HR0.out]
  exact ⟨rfl, HB2.out⟩
 subst h1
 rw [if_neg (by simp)] at HR0
 by_cases h2 : 64 < ne
 · rw [if_pos h2] at HR0
   have d2 : decide ((ne : Int) > 64) = true := decide_eq_true (by omega)
   clear h2
   go_in
   go_wp2_with fail
   refine (HCHK.out _ HB0.out).mono ?_
   rintro e w2 ⟨rfl, hb2⟩
   have HB2 := bto HB0 hb2
   have zk2 := Blk.cell (Blk.below HK0.out hb2 (by simp))
   clear hb2
   go_wp2_with fail
   go_ret
   rw [HR0.out]
   exact ⟨rfl, HB2.out⟩
 rw [if_neg h2] at HR0
 have d2 : decide ((ne : Int) > 64) = false := decide_eq_false (by omega)
 clear h2
 go_in
 go_wp2_with fail
 refine (HCHK.out _ HB0.out).mono ?_
 rintro e w2 ⟨rfl, hb2⟩
 have HB2 := bto HB0 hb2
 have HK2 := hid (Blk.below HK0.out hb2 (by simp))
 have zk2 := Blk.cell HK2.out
 clear hb2
 go_wp2_with fail
 clear zk2
 go_loopw [22] (fun iv wr => ∃ i : Nat, iv = .int .i64 (i : Int) ∧ i ≤ ne ∧ Hid (entriesE b i (b.entries.drop i) = entriesE b 0 b.entries) ∧ Hid (Blk wr w.heap.size 26 #[.int .i64 bv, .slice Ao no co, .slice Ae ne ce, .int .i64 bn, .slice Ap np cp]) ∧ Hid (Below w.heap.size w wr)) (fun i _ => ne - (intOf i).toNat)
 case atStart => exact ⟨0, rfl, by omega, hid rfl, HK2, HB2⟩
 case round =>
  obtain ⟨i, rfl, hi, hes, hbk, hbw⟩ := hrel
  by_cases hlt : i < ne
  rotate_left
  · have hib : decide ((i : Int) < (ne : Int)) = false := decide_eq_false (by omega)
    have hq := hes.out
    rw [List.drop_of_length_le (by rw [HLN.out]; omega)] at hq
    have HRF : Hid (res = if regB b then 0 else 22) := hid (by rw [HR0.out, ← hq]; rfl)
    have HC := hid (HREG.out wr hbw.out)
    have zk := Blk.cell hbk.out
    generalize regB b = rb at *
    clear hq
    cases rb with
    | true =>
     rw [if_pos rfl] at HRF
     go_wp2_with fail
     refine (HC.out).mono ?_
     rintro e w4 ⟨rfl, hb4⟩
     have HB4 := bto hbw hb4
     clear hb4 zk
     go_wp2_with fail
     go_ret
     rw [HRF.out]
     exact ⟨rfl, HB4.out⟩
    | false =>
     rw [if_neg (by simp)] at HRF
     go_wp2_with fail
     refine (HC.out).mono ?_
     rintro e w4 ⟨rfl, hb4⟩
     have HB4 := bto hbw hb4
     clear hb4 zk
     go_wp2_with fail
     go_ret
     rw [HRF.out]
     exact ⟨rfl, HB4.out⟩
  have hib : decide ((i : Int) < (ne : Int)) = true := decide_eq_true (by omega)
  obtain ⟨be, oe, rfl, hbe, ev, hc0, hc1, hc2, hc3, hc4, hc5, hc6, hec⟩ := (HEN.out wr hbw.out).at_ hlt
  have hil : i < b.entries.length := by rw [HLN.out]; exact hlt
  have hq := hes.out
  rw [List.drop_eq_getElem_cons hil, show b.entries[i] = b.entries.getD i default from by rw [List.getD_eq_getElem?_getD, List.getElem?_eq_getElem hil]; rfl, entriesE_cons] at hq
  generalize b.entries.getD i default = x at *
  have HBa := hid (hbw.out.trans ((below_alloc wr (.cells #[.int .i64 x.kind, .slice ev.As ev.ns ev.cs, .slice ev.Ap ev.np ev.cp, .slice ev.Ai ev.ni ev.ci, .slice ev.Ac ev.nc ev.cc, .slice ev.At ev.nt ev.ct, .slice ev.Ab ev.nb ev.cb] 62)).mono hbw.out.size))
  have HKa := hid (hbk.out.alloc (.cells #[.int .i64 x.kind, .slice ev.As ev.ns ev.cs, .slice ev.Ap ev.np ev.cp, .slice ev.Ai ev.ni ev.ci, .slice ev.Ac ev.nc ev.cc, .slice ev.At ev.nt ev.ct, .slice ev.Ab ev.nb ev.cb] 62))
  have HC := hid (HENT.out _ i ev x HBa.out (by omega) (hec.below (below_alloc wr (.cells #[.int .i64 x.kind, .slice ev.As ev.ns ev.cs, .slice ev.Ap ev.np ev.cp, .slice ev.Ai ev.ni ev.ci, .slice ev.Ac ev.nc ev.cc, .slice ev.At ev.nt ev.ct, .slice ev.Ab ev.nb ev.cb] 62))))
  generalize x.kind = kd at *
  generalize entryE b i x = ee at *
  have zk := Blk.cell hbk.out
  have hbl := hbk.out.lt
  obtain ⟨As, ns, cs, Ap2, np2, cp2, Ai, ni, ci, Ac, nc, cc, At, nt, ct, Ab, nb, cb⟩ := ev
  simp only at hc1 hc2 hc3 hc4 hc5 hc6 HBa HKa HC
  clear hec
  by_cases h3 : ee = 0
  · subst h3
    rw [if_neg (by simp)] at hq
    have HQ := hid hq
    clear hq
    go_wp2_with fail
    refine (HC.out).mono ?_
    rintro e w4 ⟨rfl, hb4⟩
    have HB4 := bto HBa hb4
    have HK4 := bko HKa hb4
    clear hb4 zk
    go_wp2_with fail
    go_roundw
    case rel => exact ⟨i + 1, by go_num, by omega, HQ, HK4, HB4⟩
    case measure => simp [intOf]; omega
  rw [if_pos h3] at hq
  have HRF : Hid (res = ee) := hid (by rw [HR0.out, ← hq, if_pos h3])
  have d3 : (ee != 0) = true := by simpa using h3
  clear hq h3
  go_wp2_with fail
  refine (HC.out).mono ?_
  rintro e w4 ⟨rfl, hb4⟩
  have HB4 := bto HBa hb4
  clear hb4 zk
  go_wp2_with fail
  go_ret
  rw [HRF.out]
  exact ⟨rfl, HB4.out⟩
theorem fits_any {w : World} {v : BkVal} {b : Bk} (hb : BookV w v b) (free : Int) {A : Option Addr} {n c : Nat} {l : List Nd} (ht : TermV w A n c l) :
 Calls Try.prog 23 #[.agg #[.int .i64 b.vars, .slice v.Ao v.no v.co, .slice v.Ae v.ne v.ce, .int .i64 b.nat, .slice v.Ap v.np v.cp], .int .i64 free, .slice A n c] w (ErrP (fitsE b free l) w) := by
 have hlen := hb.entries.len
 have HRT := hid (fun (w' : World) (h : Below w.heap.size w w') => right_any (hb.below h))
 have HRW := hid (fun (w' : World) (h : Below w.heap.size w w') => row_any (hb.below h) (b.entries.length : Int) (-1) (by omega) (ht.below h) free)
 have HB0 := hid (below_alloc w (.cells #[.int .i64 b.vars, .slice v.Ao v.no v.co, .slice v.Ae v.ne v.ce, .int .i64 b.nat, .slice v.Ap v.np v.cp] 26))
 have HK0 := hid (Blk.new w 26 #[.int .i64 b.vars, .slice v.Ao v.no v.co, .slice v.Ae v.ne v.ce, .int .i64 b.nat, .slice v.Ap v.np v.cp])
 have HR0 : Hid (fitsE b free l = if rightE b ≠ 0 then rightE b else if free < 0 then 1 else rowE b b.entries.length (-1) l free) := hid rfl
 generalize fitsE b free l = res at *
 generalize rightE b = re at *
 generalize rowE b b.entries.length (-1) l free = ro at *
 rw [hlen] at HRW
 obtain ⟨Ao, no, co, Ae, ne, ce, Ap, np, cp⟩ := v
 simp only at HRT HRW HB0 HK0 ⊢
 clear hb ht hlen
 generalize b.vars = bv at *
 generalize b.nat = bn at *
 by_cases h1 : re = 0
 case neg =>
  rw [if_pos h1] at HR0
  have d1 : (re != 0) = true := by simpa using h1
  clear h1
  go_in
  go_wp2_with fail
  refine (HRT.out _ HB0.out).mono ?_
  rintro e w2 ⟨rfl, hb2⟩
  have HB2 := bto HB0 hb2
  clear hb2
  go_wp2_with fail
  go_ret
  rw [HR0.out]
  exact ⟨rfl, HB2.out⟩
 subst h1
 rw [if_neg (by simp)] at HR0
 by_cases h2 : free < 0
 · rw [if_pos h2] at HR0
   have d2 : decide (free < 0) = true := decide_eq_true h2
   clear h2
   go_in
   go_wp2_with fail
   refine (HRT.out _ HB0.out).mono ?_
   rintro e w2 ⟨rfl, hb2⟩
   have HB2 := bto HB0 hb2
   clear hb2
   go_wp2_with fail
   go_ret
   rw [HR0.out]
   exact ⟨rfl, HB2.out⟩
 rw [if_neg h2] at HR0
 have d2 : decide (free < 0) = false := decide_eq_false h2
 clear h2
 go_in
 go_wp2_with fail
 refine (HRT.out _ HB0.out).mono ?_
 rintro e w2 ⟨rfl, hb2⟩
 have HB2 := bto HB0 hb2
 have zk2 := Blk.cell (Blk.below HK0.out hb2 (by simp))
 clear hb2
 go_wp2_with fail
 refine (HRW.out _ HB2.out).mono ?_
 rintro e w3 ⟨rfl, hb3⟩
 have HB3 := bto HB2 hb3
 clear hb3 zk2
 go_wp2_with fail
 go_ret
 rw [HR0.out]
 exact ⟨rfl, HB3.out⟩
end
section
open Go.RowKit
end
end
section
section
open Go.RowKit
theorem okVar {v : Int} (h0 : 0 ≤ v) (h1 : v ≤ 1048576) : okN ⟨1, v, 0⟩ = true := by
 simp [okN, plainB]
 omega
end
section
open Go.RowKit
def litC (l : List Nd) : Array Value := (flat l).toArray
theorem lit_term {w : World} {g : Nat} {l : List Nd} {n c : Nat} (h : Blk w g 50 (litC l)) (hl : l.length = n) (hc : n ≤ c) (hf : n ≤ 5864062014805) : TermV w (some ⟨g, 0, none⟩) n c l := by
 refine ⟨hl, hc, hf, (fun e => by cases e), fun hn => ⟨g, 0, rfl, h.lt, fun k hk => ?_⟩⟩
 obtain ⟨h1, h2, h3⟩ := flat_at l k hk
 have hcell := h.cell
 rw [Nat.zero_add, hcell, hcell, hcell]
 simp only [litC, List.getElem?_toArray]
 exact ⟨h1, h2, h3⟩
theorem OwnN.termV {w : World} {base : Nat} {A : Option Addr} {n c : Nat} {l : List Nd} (h : OwnN w base (.slice A n c) l) (hl : l.length ≤ 5864062014805) : TermV w A n c l := by
 obtain ⟨A', n', c', e, ht⟩ := OwnN.termS h hl
 injection e with e1 e2 e3
 subst e1 e2 e3
 exact ht.keep fun b hb => ⟨(ownsRow_block h hb).2.1, fun _ => rfl⟩
end
section
open Go.RowKit
end
end
end Go.Proofs.Ytjoddliplahgkaa
