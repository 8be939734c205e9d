/- Merged: Right, GuardW. -/
import Derived.Test.YtjllmblbbgojbaaKRegist
import Derived.Test.YtjllmblbbgojbaaKShort2
import Derived.Test.YtjllmblbbgojbaaKSub
namespace Go.Proofs.Ytjllmblbbgojbaa
open Go.Lib (hid)
set_option maxHeartbeats 4000000
set_option maxRecDepth 100000
set_option linter.unusedVariables false
set_option linter.unusedSimpArgs false
section
open Go.RowKit
theorem entriesE_cons {b : Bk} {i : Nat} {x : En} {r : List En} : entriesE b i (x :: r) = if entryE b i x ≠ 0 then entryE b i x else entriesE b (i + 1) r := rfl
theorem right_any {w : World} {v : BkVal} {b : Bk} (hb : BookV w v b) :
 Calls Try.prog 41 #[.agg #[.int .i64 b.vars, .slice v.Ao v.no v.co, .slice v.Ae v.ne v.ce, .int .i64 b.nat, .slice v.Ap v.np v.cp]] w (ErrP (rightE b) w) := by
 have hlen := hb.entries.len
 have hefew := hb.entries.few
 have HCHK := hid (fun (w' : World) (h : Below w.heap.size w w') => check_any hb.vars (hb.orders.below h))
 have HEN := hid (fun (w' : World) (h : Below w.heap.size w w') => hb.entries.below h)
 have HENT := hid (fun (w' : World) (i : Nat) (ev : EnVal) (x : En) (h : Below w.heap.size w w') (h1 : i ≤ b.entries.length) (h2 : EnC w' ev x) => bentry_any (hb.below h) (i : Int) (by omega) h2)
 have HREG := hid (fun (w' : World) (h : Below w.heap.size w w') => registered_any (hb.below h))
 have HB0 := hid (below_alloc w (.cells #[.int .i64 b.vars, .slice v.Ao v.no v.co, .slice v.Ae v.ne v.ce, .int .i64 b.nat, .slice v.Ap v.np v.cp] 26))
 have HK0 := hid (Blk.new w 26 #[.int .i64 b.vars, .slice v.Ao v.no v.co, .slice v.Ae v.ne v.ce, .int .i64 b.nat, .slice v.Ap v.np v.cp])
 have HR0 : Hid (rightE b = if (clR b.vars b.orders).1 ≠ 0 then (clR b.vars b.orders).1
 else if 64 < b.entries.length then 5
 else if entriesE b 0 b.entries ≠ 0 then entriesE b 0 b.entries
 else if regB b then 0 else 22) := hid rfl
 generalize rightE b = res at *
 generalize (clR b.vars b.orders).1 = ck at *
 rw [hlen] at HR0 HENT
 have HLN := hid hlen
 obtain ⟨Ao, no, co, Ae, ne, ce, Ap, np, cp⟩ := v
 simp only at HCHK HEN HENT HREG HB0 HK0 HR0 HLN hefew ⊢
 clear hb hlen
 generalize b.vars = bv at *
 generalize b.nat = bn at *
 by_cases h1 : ck = 0
 case neg =>
  rw [if_pos h1] at HR0
  have d1 : (ck != 0) = true := by simpa using h1
  clear h1
  go_in
  go_wp2_with fail
  refine (HCHK.out _ HB0.out).mono ?_
  rintro e w2 ⟨rfl, hb2⟩
  have HB2 := bto HB0 hb2
  clear hb2
  go_wp2_with fail
  go_ret
  rw [HR0.out]
  exact ⟨rfl, HB2.out⟩
 subst h1
 rw [if_neg (by simp)] at HR0
 by_cases h2 : 64 < ne
 · rw [if_pos h2] at HR0
   have d2 : decide ((ne : Int) > 64) = true := decide_eq_true (by omega)
   clear h2
   go_in
   go_wp2_with fail
   refine (HCHK.out _ HB0.out).mono ?_
   rintro e w2 ⟨rfl, hb2⟩
   have HB2 := bto HB0 hb2
   have zk2 := Blk.cell (Blk.below HK0.out hb2 (by simp))
   clear hb2
   go_wp2_with fail
   go_ret
   rw [HR0.out]
   exact ⟨rfl, HB2.out⟩
 rw [if_neg h2] at HR0
 have d2 : decide ((ne : Int) > 64) = false := decide_eq_false (by omega)
 clear h2
 go_in
 go_wp2_with fail
 refine (HCHK.out _ HB0.out).mono ?_
 rintro e w2 ⟨rfl, hb2⟩
 have HB2 := bto HB0 hb2
 have HK2 := hid (Blk.below HK0.out hb2 (by simp))
 have zk2 := Blk.cell HK2.out
 clear hb2
 go_wp2_with fail
 clear zk2
 go_loopw [22] (fun iv wr => ∃ i : Nat, iv = .int .i64 (i : Int) ∧ i ≤ ne ∧ Hid (entriesE b i (b.entries.drop i) = entriesE b 0 b.entries) ∧ Hid (Blk wr w.heap.size 26 #[.int .i64 bv, .slice Ao no co, .slice Ae ne ce, .int .i64 bn, .slice Ap np cp]) ∧ Hid (Below w.heap.size w wr)) (fun i _ => ne - (intOf i).toNat)
 case atStart => exact ⟨0, rfl, by omega, hid rfl, HK2, HB2⟩
 case round =>
  obtain ⟨i, rfl, hi, hes, hbk, hbw⟩ := hrel
  by_cases hlt : i < ne
  rotate_left
  · have hib : decide ((i : Int) < (ne : Int)) = false := decide_eq_false (by omega)
    have hq := hes.out
    rw [List.drop_of_length_le (by rw [HLN.out]; omega)] at hq
    have HRF : Hid (res = if regB b then 0 else 22) := hid (by rw [HR0.out, ← hq]; rfl)
    have HC := hid (HREG.out wr hbw.out)
    have zk := Blk.cell hbk.out
    generalize regB b = rb at *
    clear hq
    cases rb with
    | true =>
     rw [if_pos rfl] at HRF
     go_wp2_with fail
     refine (HC.out).mono ?_
     rintro e w4 ⟨rfl, hb4⟩
     have HB4 := bto hbw hb4
     clear hb4 zk
     go_wp2_with fail
     go_ret
     rw [HRF.out]
     exact ⟨rfl, HB4.out⟩
    | false =>
     rw [if_neg (by simp)] at HRF
     go_wp2_with fail
     refine (HC.out).mono ?_
     rintro e w4 ⟨rfl, hb4⟩
     have HB4 := bto hbw hb4
     clear hb4 zk
     go_wp2_with fail
     go_ret
     rw [HRF.out]
     exact ⟨rfl, HB4.out⟩
  have hib : decide ((i : Int) < (ne : Int)) = true := decide_eq_true (by omega)
  obtain ⟨be, oe, rfl, hbe, ev, hc0, hc1, hc2, hc3, hc4, hc5, hc6, hec⟩ := (HEN.out wr hbw.out).at_ hlt
  have hil : i < b.entries.length := by rw [HLN.out]; exact hlt
  have hq := hes.out
  rw [List.drop_eq_getElem_cons hil, show b.entries[i] = b.entries.getD i default from by rw [List.getD_eq_getElem?_getD, List.getElem?_eq_getElem hil]; rfl, entriesE_cons] at hq
  generalize b.entries.getD i default = x at *
  have HBa := hid (hbw.out.trans ((below_alloc wr (.cells #[.int .i64 x.kind, .slice ev.As ev.ns ev.cs, .slice ev.Ap ev.np ev.cp, .slice ev.Ai ev.ni ev.ci, .slice ev.Ac ev.nc ev.cc, .slice ev.At ev.nt ev.ct, .slice ev.Ab ev.nb ev.cb] 52)).mono hbw.out.size))
  have HKa := hid (hbk.out.alloc (.cells #[.int .i64 x.kind, .slice ev.As ev.ns ev.cs, .slice ev.Ap ev.np ev.cp, .slice ev.Ai ev.ni ev.ci, .slice ev.Ac ev.nc ev.cc, .slice ev.At ev.nt ev.ct, .slice ev.Ab ev.nb ev.cb] 52))
  have HC := hid (HENT.out _ i ev x HBa.out (by omega) (hec.below (below_alloc wr (.cells #[.int .i64 x.kind, .slice ev.As ev.ns ev.cs, .slice ev.Ap ev.np ev.cp, .slice ev.Ai ev.ni ev.ci, .slice ev.Ac ev.nc ev.cc, .slice ev.At ev.nt ev.ct, .slice ev.Ab ev.nb ev.cb] 52))))
  generalize x.kind = kd at *
  generalize entryE b i x = ee at *
  have zk := Blk.cell hbk.out
  have hbl := hbk.out.lt
  obtain ⟨As, ns, cs, Ap2, np2, cp2, Ai, ni, ci, Ac, nc, cc, At, nt, ct, Ab, nb, cb⟩ := ev
  simp only at hc1 hc2 hc3 hc4 hc5 hc6 HBa HKa HC
  clear hec
  by_cases h3 : ee = 0
  · subst h3
    rw [if_neg (by simp)] at hq
    have HQ := hid hq
    clear hq
    go_wp2_with fail
    refine (HC.out).mono ?_
    rintro e w4 ⟨rfl, hb4⟩
    have HB4 := bto HBa hb4
    have HK4 := bko HKa hb4
    clear hb4 zk
    go_wp2_with fail
    go_roundw
    case rel => exact ⟨i + 1, by go_num, by omega, HQ, HK4, HB4⟩
    case measure => simp [intOf]; omega
  rw [if_pos h3] at hq
  have HRF : Hid (res = ee) := hid (by rw [HR0.out, ← hq, if_pos h3])
  have d3 : (ee != 0) = true := by simpa using h3
  clear hq h3
  go_wp2_with fail
  refine (HC.out).mono ?_
  rintro e w4 ⟨rfl, hb4⟩
  have HB4 := bto HBa hb4
  clear hb4 zk
  go_wp2_with fail
  go_ret
  rw [HRF.out]
  exact ⟨rfl, HB4.out⟩
theorem fits_any {w : World} {v : BkVal} {b : Bk} (hb : BookV w v b) (free : Int) {A : Option Addr} {n c : Nat} {l : List Nd} (ht : TermV w A n c l) :
 Calls Try.prog 29 #[.agg #[.int .i64 b.vars, .slice v.Ao v.no v.co, .slice v.Ae v.ne v.ce, .int .i64 b.nat, .slice v.Ap v.np v.cp], .int .i64 free, .slice A n c] w (ErrP (fitsE b free l) w) := by
 have hlen := hb.entries.len
 have HRT := hid (fun (w' : World) (h : Below w.heap.size w w') => right_any (hb.below h))
 have HRW := hid (fun (w' : World) (h : Below w.heap.size w w') => row_any (hb.below h) (b.entries.length : Int) (-1) (by omega) (ht.below h) free)
 have HB0 := hid (below_alloc w (.cells #[.int .i64 b.vars, .slice v.Ao v.no v.co, .slice v.Ae v.ne v.ce, .int .i64 b.nat, .slice v.Ap v.np v.cp] 26))
 have HK0 := hid (Blk.new w 26 #[.int .i64 b.vars, .slice v.Ao v.no v.co, .slice v.Ae v.ne v.ce, .int .i64 b.nat, .slice v.Ap v.np v.cp])
 have HR0 : Hid (fitsE b free l = if rightE b ≠ 0 then rightE b else if free < 0 then 1 else rowE b b.entries.length (-1) l free) := hid rfl
 generalize fitsE b free l = res at *
 generalize rightE b = re at *
 generalize rowE b b.entries.length (-1) l free = ro at *
 rw [hlen] at HRW
 obtain ⟨Ao, no, co, Ae, ne, ce, Ap, np, cp⟩ := v
 simp only at HRT HRW HB0 HK0 ⊢
 clear hb ht hlen
 generalize b.vars = bv at *
 generalize b.nat = bn at *
 by_cases h1 : re = 0
 case neg =>
  rw [if_pos h1] at HR0
  have d1 : (re != 0) = true := by simpa using h1
  clear h1
  go_in
  go_wp2_with fail
  refine (HRT.out _ HB0.out).mono ?_
  rintro e w2 ⟨rfl, hb2⟩
  have HB2 := bto HB0 hb2
  clear hb2
  go_wp2_with fail
  go_ret
  rw [HR0.out]
  exact ⟨rfl, HB2.out⟩
 subst h1
 rw [if_neg (by simp)] at HR0
 by_cases h2 : free < 0
 · rw [if_pos h2] at HR0
   have d2 : decide (free < 0) = true := decide_eq_true h2
   clear h2
   go_in
   go_wp2_with fail
   refine (HRT.out _ HB0.out).mono ?_
   rintro e w2 ⟨rfl, hb2⟩
   have HB2 := bto HB0 hb2
   clear hb2
   go_wp2_with fail
   go_ret
   rw [HR0.out]
   exact ⟨rfl, HB2.out⟩
 rw [if_neg h2] at HR0
 have d2 : decide (free < 0) = false := decide_eq_false h2
 clear h2
 go_in
 go_wp2_with fail
 refine (HRT.out _ HB0.out).mono ?_
 rintro e w2 ⟨rfl, hb2⟩
 have HB2 := bto HB0 hb2
 have zk2 := Blk.cell (Blk.below HK0.out hb2 (by simp))
 clear hb2
 go_wp2_with fail
 refine (HRW.out _ HB2.out).mono ?_
 rintro e w3 ⟨rfl, hb3⟩
 have HB3 := bto HB2 hb3
 clear hb3 zk2
 go_wp2_with fail
 go_ret
 rw [HR0.out]
 exact ⟨rfl, HB3.out⟩
end
section
open Go.RowKit
theorem end_sub {l rest : List Nd} {i : Nat} {n : Nd} {a : List Nd} {k : Fo} (hd : l.drop i = rowT (n, a, k) ++ rest) (h1 : okN n = true) (h2 : AtOk n a) (h3 : Wf (ds n) k) : endI l ((i : Nat) : Int) = ((i + (rowT (n, a, k)).length : Nat) : Int) := by
 have hl := congrArg List.length hd
 rw [List.length_drop, List.length_append] at hl
 have hpos : 0 < (rowT (n, a, k)).length := by simp [rowT]
 rw [endI_nat]
 have hpp := pp_of_wf (.cons [] n a k .nil) [false] rest ⟨rfl, h1, h2, h3, trivial⟩
 unfold ends
 rw [hd, show rowT (n, a, k) = row (.cons [] n a k .nil) from by simp [row, rowT], hpp]
 simp only [Option.map_some, optI]
 have e : (row (Fo.cons [] n a k .nil)).length = (rowT (n, a, k)).length := by simp [row, rowT]
 rw [e]
 congr 1
 omega
theorem allG_succ {b : Bk} {l : List Nd} {r i : Nat} : allG b l (r + 1) i = ((if (nth l i).op = 12 then guardT (argsB b) (rowT (treeAt (l.drop i))).length (treeAt (l.drop i)) else true) && allG b l r (i + 1)) := rfl
theorem gfix_any {w : World} {v : BkVal} {b : Bk} (hb : BookV w v b) (free : Int) {A : Option Addr} {n c : Nat} {l : List Nd} (ht : TermV w A n c l) :
 Calls Try.prog 12 #[.agg #[.int .i64 b.vars, .slice v.Ao v.no v.co, .slice v.Ae v.ne v.ce, .int .i64 b.nat, .slice v.Ap v.np v.cp], .int .i64 free, .slice A n c] w (ErrP (fixE b free l) w) := by
 have HFT := hid (fun (w' : World) (h : Below w.heap.size w w') => fits_any (hb.below h) free (ht.below h))
 have HB0 := hid (below_alloc w (.cells #[.int .i64 b.vars, .slice v.Ao v.no v.co, .slice v.Ae v.ne v.ce, .int .i64 b.nat, .slice v.Ap v.np v.cp] 26))
 have HK0 := hid (Blk.new w 26 #[.int .i64 b.vars, .slice v.Ao v.no v.co, .slice v.Ae v.ne v.ce, .int .i64 b.nat, .slice v.Ap v.np v.cp])
 by_cases h1 : fitsE b free l = 0
 case neg =>
  have HR : Hid (fixE b free l = fitsE b free l) := hid (by unfold fixE; rw [if_pos h1])
  generalize fixE b free l = res at *
  generalize fitsE b free l = fe at *
  have d1 : (fe != 0) = true := by simpa using h1
  obtain ⟨Ao, no, co, Ae, ne, ce, Ap, np, cp⟩ := v
  simp only at HFT HB0 HK0 ⊢
  generalize b.vars = bv at *
  generalize b.nat = bn at *
  clear h1 hb ht
  go_in
  go_wp2_with fail
  refine (HFT.out _ HB0.out).mono ?_
  rintro e w2 ⟨rfl, hb2⟩
  have HB2 := bto HB0 hb2
  clear hb2
  go_wp2_with fail
  go_ret
  rw [HR.out]
  exact ⟨rfl, HB2.out⟩
 have HR : Hid (fixE b free l = if (nth l 0).op ≠ 12 then 1 else if guardT (argsB b) l.length (treeAt l) then 0 else 18) := hid (by unfold fixE; rw [if_neg (by simp [h1])])
 obtain ⟨hrt0, _, hrow⟩ := fits_row h1
 obtain ⟨hs, _, _⟩ := row_nodes hrow
 have hje := fits_JE h1
 obtain ⟨nd, a, k, hr⟩ := rt_of hs
 have htr := treeAt_rt hr
 have hle : l = rowT (nd, a, k) := hr.eq
 have hlen := ht.len
 have hn0 : 0 < n := by rw [← hlen, hle]; simp [rowT]
 have hop : (nth l 0).op = nd.op := by rw [hle]; rfl
 rw [htr, hop] at HR
 have hebl := hb.entries.len
 have HGD := hid (fun (w' : World) (h : Below w.heap.size w w') (h12 : nd.op = 12) => guarded_any ((hb.below h).entR hrt0) (show TermV w' A n c (rowT (nd, a, k)) from hle ▸ ht.below h) (show Rt (rowT (nd, a, k)) nd a k from hle ▸ hr) h12 (fun m hm h11 => by
  have := hje m (by rw [hle]; exact hm) h11
  rw [hebl] at this
  exact this))
 rw [← hle] at HGD
 obtain ⟨b0, off, rfl, hb0, hc0, _, _⟩ := ht.at_ (p := 0) hn0
 rw [Nat.zero_mul, Nat.add_zero, hop] at hc0
 rw [h1] at HFT
 generalize fixE b free l = res at *
 generalize guardT (argsB b) l.length (nd, a, k) = gt at *
 obtain ⟨Ao, no, co, Ae, ne, ce, Ap, np, cp⟩ := v
 simp only at HFT HB0 HK0 HGD ⊢
 clear hb ht hrt0 hrow hs hje hr htr hle hlen hop hebl h1
 generalize b.vars = bv at *
 generalize b.nat = bn at *
 generalize nd.op = op at *
 by_cases h12 : op = 12
 case neg =>
  rw [if_pos h12] at HR
  have d2 : (op != 12) = true := by simpa using h12
  clear h12 HGD
  go_in
  go_wp2_with fail
  refine (HFT.out _ HB0.out).mono ?_
  rintro e w2 ⟨rfl, hb2⟩
  have HB2 := bto HB0 hb2
  have hc2 := (HB2.out.cell (p := ⟨b0, off, none⟩) hb0).trans hc0
  clear hb2
  go_wp2_with fail
  go_ret
  rw [HR.out]
  exact ⟨rfl, HB2.out⟩
 subst h12
 rw [if_neg (by simp)] at HR
 obtain ⟨er, her⟩ : ∃ er : Int, er = if gt then 0 else 18 := ⟨_, rfl⟩
 have HGE := hid (fun (w' : World) (h : Below w.heap.size w w') => HGD.out w' h rfl)
 clear HGD
 rw [← her] at HR HGE
 clear her
 go_in
 go_wp2_with fail
 refine (HFT.out _ HB0.out).mono ?_
 rintro e w2 ⟨rfl, hb2⟩
 have HB2 := bto HB0 hb2
 have zk := Blk.cell (Blk.below HK0.out hb2 (by simp))
 have hc2 := (HB2.out.cell (p := ⟨b0, off, none⟩) hb0).trans hc0
 clear hb2
 go_wp2_with fail
 refine (HGE.out _ HB2.out).mono ?_
 rintro e w3 ⟨rfl, hb3⟩
 have HB3 := bto HB2 hb3
 clear hb3 zk
 go_wp2_with fail
 go_ret
 rw [HR.out]
 exact ⟨rfl, HB3.out⟩
theorem gcheck_any {w : World} {v : BkVal} {b : Bk} (hb : BookV w v b) (free : Int) {A : Option Addr} {n c : Nat} {l : List Nd} (ht : TermV w A n c l) :
 Calls Try.prog 11 #[.agg #[.int .i64 b.vars, .slice v.Ao v.no v.co, .slice v.Ae v.ne v.ce, .int .i64 b.nat, .slice v.Ap v.np v.cp], .int .i64 free, .slice A n c] w (ErrP (chkGE b free l) w) := by
 have HFT := hid (fun (w' : World) (h : Below w.heap.size w w') => fits_any (hb.below h) free (ht.below h))
 have HB0 := hid (below_alloc w (.cells #[.int .i64 b.vars, .slice v.Ao v.no v.co, .slice v.Ae v.ne v.ce, .int .i64 b.nat, .slice v.Ap v.np v.cp] 26))
 have HK0 := hid (Blk.new w 26 #[.int .i64 b.vars, .slice v.Ao v.no v.co, .slice v.Ae v.ne v.ce, .int .i64 b.nat, .slice v.Ap v.np v.cp])
 by_cases h1 : fitsE b free l = 0
 case neg =>
  have HR : Hid (chkGE b free l = fitsE b free l) := hid (by unfold chkGE; rw [if_pos h1])
  generalize chkGE b free l = res at *
  generalize fitsE b free l = fe at *
  have d1 : (fe != 0) = true := by simpa using h1
  obtain ⟨Ao, no, co, Ae, ne, ce, Ap, np, cp⟩ := v
  simp only at HFT HB0 HK0 ⊢
  generalize b.vars = bv at *
  generalize b.nat = bn at *
  clear h1 hb ht
  go_in
  go_wp2_with fail
  refine (HFT.out _ HB0.out).mono ?_
  rintro e w2 ⟨rfl, hb2⟩
  have HB2 := bto HB0 hb2
  clear hb2
  go_wp2_with fail
  go_ret
  rw [HR.out]
  exact ⟨rfl, HB2.out⟩
 have HR : Hid (chkGE b free l = if allG b l l.length 0 then 0 else 18) := hid (by unfold chkGE; rw [if_neg (by simp [h1])])
 obtain ⟨hrt0, _, hrow⟩ := fits_row h1
 obtain ⟨hs, _, _⟩ := row_nodes hrow
 have hje := fits_JE h1
 obtain ⟨nd, a, k, hr⟩ := rt_of hs
 have hwf := wf_of_pp hr.pp
 have hlr : l = row (.cons [] nd a k .nil) := by rw [hr.eq]; simp [row]
 have hfw := hr.few
 have hlen := ht.len
 have hcap := ht.cap
 have hn0 : 0 < n := by rw [← hlen, hr.eq]; simp
 have hebl := hb.entries.len
 obtain ⟨b0, off, rfl, hb0, hcell⟩ := ht.mem hn0
 have HSUB := hid (fun (i : Nat) (hi : i < n) (h12 : (nth l i).op = 12) => sub_at _ _ hwf i (by rw [← hlr]; omega) (by rw [← hlr]; exact h12))
 rw [← hlr] at HSUB
 have HGD0 := hid (fun (w' : World) (A' : Option Addr) (n' c' : Nat) (m : Nd) (a' : List Nd) (k' : Fo) (h : Below w.heap.size w w') (h1 : TermV w' A' n' c' (rowT (m, a', k'))) (h2 : RtX (m, a', k')) (h12 : m.op = 12) (hin : ∀ y ∈ rowT (m, a', k'), y ∈ l) => guarded_any ((hb.below h).entR hrt0) h1 h2 h12 (fun y hy h11 => by
  have := hje y (hin y hy) h11
  rw [hebl] at this
  exact this))
 have HT := hid (fun (w' : World) (h : Below w.heap.size w w') => ht.below h)
 have HCELL := hid hcell
 rw [h1] at HFT
 rw [hlen] at HR
 have HL := hid hlen
 generalize chkGE b free l = res at *
 obtain ⟨Ao, no, co, Ae, ne, ce, Ap, np, cp⟩ := v
 simp only at HFT HB0 HK0 HGD0 ⊢
 have hn4 : n ≤ 4096 := by omega
 clear hb ht hrt0 hrow hs hje hr hwf hlr hfw hlen hebl h1 hcell
 generalize b.vars = bv at *
 generalize b.nat = bn at *
 go_in
 go_wp2_with fail
 refine (HFT.out _ HB0.out).mono ?_
 rintro e w2 ⟨rfl, hb2⟩
 have HB2 := bto HB0 hb2
 have HK2 := hid (Blk.below HK0.out hb2 (by simp))
 clear hb2
 go_wp2_with fail
 go_loopw [20] (fun iv wr => ∃ i : Nat, iv = .int .i64 (i : Int) ∧ i ≤ n ∧ Hid (allG b l (n - i) i = allG b l n 0) ∧ Hid (Blk wr w.heap.size 26 #[.int .i64 bv, .slice Ao no co, .slice Ae ne ce, .int .i64 bn, .slice Ap np cp]) ∧ Hid (Below w.heap.size w wr)) (fun i _ => n - (intOf i).toNat)
 case atStart => exact ⟨0, rfl, by omega, hid rfl, HK2, HB2⟩
 case round =>
  obtain ⟨i, rfl, hi, hag, hbk, hbw⟩ := hrel
  by_cases hlt : i < n
  rotate_left
  · have hib : decide ((i : Int) < (n : Int)) = false := decide_eq_false (by omega)
    have HRF : Hid (res = 0) := hid (by
     have := hag.out
     rw [show n - i = 0 from by omega] at this
     rw [HR.out, ← this]; rfl)
    go_wp2_with fail
    go_ret
    rw [HRF.out]
    exact ⟨rfl, hbw.out⟩
  have hib : decide ((i : Int) < (n : Int)) = true := decide_eq_true (by omega)
  obtain ⟨hc0, hc1, hc2⟩ := HCELL.out i (by rw [HL.out]; exact hlt)
  have hc0r := (hbw.out.cell (p := ⟨b0, off + i * 3, none⟩) hb0).trans hc0
  have hc1r := (hbw.out.cell (p := ⟨b0, off + i * 3 + 1, none⟩) hb0).trans hc1
  have hc2r := (hbw.out.cell (p := ⟨b0, off + i * 3 + 2, none⟩) hb0).trans hc2
  have hag2 := hag.out
  rw [show n - i = (n - (i + 1)) + 1 from by omega, allG_succ] at hag2
  obtain ⟨m, hm⟩ : ∃ m, m = nth l i := ⟨_, rfl⟩
  rw [← hm] at hc0r hc1r hc2r hag2
  have HBa := hid (hbw.out.trans ((below_alloc wr (.cells #[.int .i64 m.op, .int .i64 m.a, .int .i64 m.b] 34)).mono hbw.out.size))
  have HKa := hid (hbk.out.alloc (.cells #[.int .i64 m.op, .int .i64 m.a, .int .i64 m.b] 34))
  clear hc0 hc1 hc2
  by_cases h12 : m.op = 12
  case neg =>
   have HQ : Hid (allG b l (n - (i + 1)) (i + 1) = allG b l n 0) := hid (by rw [← hag2, if_neg h12, Bool.true_and])
   have d2 : (m.op != 12) = true := by simpa using h12
   clear hag2 h12 hm
   generalize m.op = mo at *
   generalize m.a = ma at *
   generalize m.b = mb at *
   go_wp2_with fail
   go_roundw
   case rel => exact ⟨i + 1, by go_num, by omega, HQ, HKa, HBa⟩
   case measure => simp [intOf]; omega
  have d2 : (m.op != 12) = false := by simpa using h12
  obtain ⟨n', a', k', rest, hd, hok, hat, hwf⟩ := HSUB.out i hlt (by rw [← hm]; exact h12)
  have htr := treeAt_row (rest := rest) hok hat hwf
  rw [← hd] at htr
  rw [if_pos h12, htr] at hag2
  have hend := end_sub hd hok hat hwf
  have hld := congrArg List.length hd
  rw [List.length_drop, List.length_append, HL.out] at hld
  obtain ⟨e, he⟩ : ∃ e, e = i + (rowT (n', a', k')).length := ⟨_, rfl⟩
  rw [← he] at hend
  have hpos : 0 < (rowT (n', a', k')).length := by simp [rowT]
  have hrt : RtX (n', a', k') := rt_make hok hat hwf (by show (rowT (n', a', k')).length ≤ 4096; omega)
  have hmn : n'.op = 12 := by
   have : nth l i = n' := by
    have h0 : nth (l.drop i) 0 = n' := by rw [hd]; rfl
    rwa [nth_drop, Nat.add_zero] at h0
   rw [← this, ← hm]
   exact h12
  obtain ⟨Ac, hcut, hcutr⟩ := cut_mid (some ⟨b0, off, none⟩) n c i e (by omega) (by omega) hcap
  have HTC : Hid (∀ w', Below w.heap.size w w' → TermV w' Ac (e - i) (c - i) (rowT (n', a', k'))) := hid fun w' h => by
   have := hcutr _ _ _ (HT.out w' h)
   rwa [List.drop_take, hd, show e - i = (rowT (n', a', k')).length from by omega, List.take_left, show (rowT (n', a', k')).length = e - i from by omega] at this
  have HGD := hid (fun (w' : World) (h : Below w.heap.size w w') => HGD0.out w' Ac (e - i) (c - i) n' a' k' h (HTC.out w' h) hrt hmn (fun y hy => List.mem_of_mem_drop (by rw [hd]; exact List.mem_append_left _ hy)))
  have HEN := hid (fun (w' : World) (h : Below w.heap.size w w') => end_any (HT.out w' h) ((i : Nat) : Int))
  rw [hend] at HEN
  have hie : i ≤ e ∧ e ≤ n := by omega
  obtain ⟨hie1, hie2⟩ := hie
  generalize guardT (argsB b) (rowT (n', a', k')).length (n', a', k') = gt at *
  rw [h12] at hc0r HBa HKa d2
  have HBd := hid (below_drewN HBa.out 1)
  have HKd := hid (HKa.out.drewN 1)
  have zcd := Blk.cell HKd.out
  clear hd hok hat hwf htr hend hld hpos hrt hmn he hcutr hm h12
  generalize m.a = ma at *
  generalize m.b = mb at *
  cases gt with
  | true =>
   have HQ : Hid (allG b l (n - (i + 1)) (i + 1) = allG b l n 0) := hid (by rw [← hag2, Bool.true_and])
   rw [if_pos rfl] at HGD
   clear hag2
   go_wp2_with fail
   refine wp_region_held_drew (S := (fun w' => w'.cell? ⟨w.heap.size, 0, none⟩ = some (.int .i64 bv) ∧ w'.cell? ⟨w.heap.size, 1, none⟩ = some (.slice Ao no co) ∧ w'.cell? ⟨w.heap.size, 2, none⟩ = some (.slice Ae ne ce) ∧ w'.cell? ⟨w.heap.size, 3, none⟩ = some (.int .i64 bn) ∧ w'.cell? ⟨w.heap.size, 4, none⟩ = some (.slice Ap np cp))) (by kernel_rfl) ?_ (fun hHeld => ?_)
   · (try dsimp only); exact ⟨zcd 0, zcd 1, zcd 2, zcd 3, zcd 4⟩
   refine tq 0 hHeld ?_
   try simp only [p7]
   refine tq 1 hHeld ?_
   try simp only [p7]
   refine tq 2 hHeld ?_
   try simp only [p7]
   refine tq 3 hHeld ?_
   try simp only [p7]
   refine tq 4 hHeld ?_
   try simp only [p7]
   refine r1 5 fun K hK => ?_
   go_simp
   go_at_call 31
   refine (HEN.out _ HBd.out).mono ?_
   rintro e w4 ⟨rfl, hb4⟩
   have HB4 := bto HBd hb4
   have HK4 := bko HKd hb4
   have zc4 := Blk.cell HK4.out
   clear hb4
   go_wp2_with fail
   refine hK.out _ _ (by exact ⟨zc4 0, zc4 1, zc4 2, zc4 3, zc4 4⟩) fun hHeld => ?_
   clear hK K
   try simp only [p7]
   refine tq 6 hHeld ?_
   try simp only [p7]
   refine r1 7 fun K hK => ?_
   go_simp
   go_at_call 30
   refine (HGD.out w4 HB4.out).mono ?_
   rintro e w5 ⟨rfl, hb5⟩
   have HB5 := bto HB4 hb5
   have HK5 := bko HK4 hb5
   have zc5 := Blk.cell HK5.out
   clear hb5
   go_wp2_with fail
   refine hK.out _ _ (by exact ⟨zc5 0, zc5 1, zc5 2, zc5 3, zc5 4⟩) fun hHeld => ?_
   clear hK K
   try simp only [p7]
   refine tq 8 hHeld ?_
   try simp only [p7]
   refine wpAnyH_done (by kernel_rfl) ?_ _
   clear zc4 zcd zc5 hHeld
   go_wp2_with fail
   go_roundw
   case rel => exact ⟨i + 1, by go_num, by omega, HQ, HK5, HB5⟩
   case measure => simp [intOf]; omega
  | false =>
   have HRF : Hid (res = 18) := hid (by
    rw [Bool.false_and] at hag2
    rw [HR.out, ← hag2]; rfl)
   rw [if_neg (by simp)] at HGD
   clear hag2
   go_wp2_with fail
   refine wp_region_held_drew (S := (fun w' => w'.cell? ⟨w.heap.size, 0, none⟩ = some (.int .i64 bv) ∧ w'.cell? ⟨w.heap.size, 1, none⟩ = some (.slice Ao no co) ∧ w'.cell? ⟨w.heap.size, 2, none⟩ = some (.slice Ae ne ce) ∧ w'.cell? ⟨w.heap.size, 3, none⟩ = some (.int .i64 bn) ∧ w'.cell? ⟨w.heap.size, 4, none⟩ = some (.slice Ap np cp))) (by kernel_rfl) ?_ (fun hHeld => ?_)
   · (try dsimp only); exact ⟨zcd 0, zcd 1, zcd 2, zcd 3, zcd 4⟩
   refine tq 0 hHeld ?_
   try simp only [p7]
   refine tq 1 hHeld ?_
   try simp only [p7]
   refine tq 2 hHeld ?_
   try simp only [p7]
   refine tq 3 hHeld ?_
   try simp only [p7]
   refine tq 4 hHeld ?_
   try simp only [p7]
   refine r1 5 fun K hK => ?_
   go_simp
   go_at_call 31
   refine (HEN.out _ HBd.out).mono ?_
   rintro e w4 ⟨rfl, hb4⟩
   have HB4 := bto HBd hb4
   have HK4 := bko HKd hb4
   have zc4 := Blk.cell HK4.out
   clear hb4
   go_wp2_with fail
   refine hK.out _ _ (by exact ⟨zc4 0, zc4 1, zc4 2, zc4 3, zc4 4⟩) fun hHeld => ?_
   clear hK K
   try simp only [p7]
   refine tq 6 hHeld ?_
   try simp only [p7]
   refine r1 7 fun K hK => ?_
   go_simp
   go_at_call 30
   refine (HGD.out w4 HB4.out).mono ?_
   rintro e w5 ⟨rfl, hb5⟩
   have HB5 := bto HB4 hb5
   have HK5 := bko HK4 hb5
   have zc5 := Blk.cell HK5.out
   clear hb5
   go_wp2_with fail
   refine hK.out _ _ (by exact ⟨zc5 0, zc5 1, zc5 2, zc5 3, zc5 4⟩) fun hHeld => ?_
   clear hK K
   try simp only [p7]
   refine tq 8 hHeld ?_
   try simp only [p7]
   refine wpAnyH_done (by kernel_rfl) ?_ _
   go_wp2_with fail
   go_ret
   rw [HRF.out]
   exact ⟨rfl, HB5.out⟩
end
end Go.Proofs.Ytjllmblbbgojbaa
