/- Merged: First, Entry, EntryF. -/
import Derived.Test.YtjoddliplahgkaaDBooks
import Derived.Laws.EntriesVeiled
namespace Go.Proofs.Ytjoddliplahgkaa
open Go.Lib (hid)
set_option maxHeartbeats 4000000
set_option maxRecDepth 100000
set_option linter.unusedVariables false
set_option linter.unusedSimpArgs false
section
open Go.RowKit
theorem firstE_drop : ∀ (es : List Int) (i : Nat), (∀ j, j < i → es.getD j 0 = 0) → firstE (es.drop i) = firstE es
 | [], i, _ => by simp
 | e :: r, 0, _ => rfl
 | e :: r, i + 1, h => by
  have h0 := h 0 (by omega)
  simp only [List.getD_cons_zero] at h0
  rw [List.drop_succ_cons, firstE_drop r i (fun j hj => by have := h (j + 1) (by omega); simpa using this)]
  simp only [firstE]
  rw [if_neg (by simp [h0])]
theorem first_any {w : World} {b off n c : Nat} {fid : Nat → FuncId} {caps : Nat → Array Value} {es : List Int} (hb : b < w.heap.size) (hl : es.length = n) (hn : n ≤ 1000) (hcell : ∀ i, i < n → w.cell? ⟨b, off + i, none⟩ = some (.func (.func (fid i)) #[] (caps i)))
 (hen : ∀ i, i < n → ∀ args w, (callFunc (fid i) args).run Try.prog w = .ok (.enter (fid i) args) w)
 (hc : ∀ i, i < n → (∀ j, j < i → es.getD j 0 = 0) → ∀ w', Below w.heap.size w w' → Calls Try.prog (fid i) (caps i) w' (ErrP (es.getD i 0) w')) :
 Calls Try.prog 58 #[.slice (some ⟨b, off, none⟩) n c] w (ErrP (firstE es) w) := by
 have HCELL := hid hcell
 have HEN := hid hen
 have HC := hid hc
 have HL := hid hl
 obtain ⟨res, hres⟩ : ∃ res, res = firstE es := ⟨_, rfl⟩
 rw [← hres]
 have HRES := hid hres
 clear hcell hen hc hl hres
 go_in
 go_wp2_with fail
 go_loopw [8] (fun iv wr => ∃ i : Nat, iv = .int .i64 (i : Int) ∧ i ≤ n ∧ Hid (∀ j, j < i → es.getD j 0 = 0) ∧ Hid (Below w.heap.size w wr)) (fun i _ => n - (intOf i).toNat)
 case atStart => exact ⟨0, rfl, by omega, hid (fun j hj => absurd hj (by omega)), hid (Below.refl _ _)⟩
 case round =>
  obtain ⟨i, rfl, hi, hz, hbw⟩ := hrel
  by_cases hlt : i < n
  rotate_left
  · have hib : decide ((i : Int) < (n : Int)) = false := decide_eq_false (by omega)
    have HRF : Hid (res = 0) := hid (by
     rw [HRES.out, ← firstE_drop es i hz.out, List.drop_of_length_le (by rw [HL.out]; omega)]
     rfl)
    go_wp2_with fail
    go_ret
    rw [HRF.out]
    exact ⟨rfl, hbw.out⟩
  have hib : decide ((i : Int) < (n : Int)) = true := decide_eq_true (by omega)
  have hc0 : wr.cell? ⟨b, off + i, none⟩ = some (.func (.func (fid i)) #[] (caps i)) := (hbw.out.cell (p := ⟨b, off + i, none⟩) hb).trans (HCELL.out i hlt)
  have hen := HEN.out i hlt
  have HCC := hid (HC.out i hlt hz.out wr hbw.out)
  have HZN := hid (fun (h : es.getD i 0 = 0) => (fun j (hj : j < i + 1) => by
   rcases Nat.lt_or_ge j i with h1 | h1
   · exact hz.out j h1
   obtain rfl : j = i := by omega
   exact h : ∀ j, j < i + 1 → es.getD j 0 = 0))
  have HRN := hid (fun (h : es.getD i 0 ≠ 0) => (show res = es.getD i 0 by
   have hil : i < es.length := by rw [HL.out]; exact hlt
   rw [HRES.out, ← firstE_drop es i hz.out, List.drop_eq_getElem_cons hil]
   have he : es.getD i 0 = es[i] := by rw [List.getD_eq_getElem?_getD, List.getElem?_eq_getElem hil]; rfl
   simp only [firstE]
   rw [← he, if_pos h]))
  generalize es.getD i 0 = ev at *
  generalize fid i = fi at *
  generalize caps i = ci at *
  by_cases h0 : ev = 0
  · have HZ2 := hid (HZN.out h0)
    subst h0
    clear HRN HZN
    go_wp2_with fail
    first
     | refine (HCC.out).mono ?_
     | (simp only [Array.empty_append, Array.append_empty]; refine (HCC.out).mono ?_)
    rintro e w2 ⟨rfl, hb2⟩
    have HB2 := bto hbw hb2
    clear hb2
    go_wp2_with fail
    go_roundw
    case rel => exact ⟨i + 1, by go_num, by omega, HZ2, HB2⟩
    case measure => simp [intOf]; omega
  have HR2 := hid (HRN.out h0)
  have hb1 : (ev != 0) = true := by simpa using h0
  clear HRN HZN h0
  go_wp2_with fail
  first
   | refine (HCC.out).mono ?_
   | (simp only [Array.empty_append, Array.append_empty]; refine (HCC.out).mono ?_)
  rintro e w2 ⟨rfl, hb2⟩
  have HB2 := bto hbw hb2
  clear hb2
  go_wp2_with fail
  go_ret
  rw [HR2.out]
  exact ⟨rfl, HB2.out⟩
end
section
open Go.RowKit
theorem isSort_any {w : World} {A : Option Addr} {n c : Nat} {l : List Nd} (ht : TermV w A n c l) (h0 : 0 < n) :
 Calls Try.prog 61 #[.slice A n c] w (ErrP (sortE l) w) := by
 obtain ⟨b, off, rfl, hb, hc0, _, _⟩ := ht.at_ h0
 rw [Nat.zero_mul, Nat.add_zero] at hc0
 have HR : Hid (sortE l = if (nth l 0).op ≠ 2 then 8 else 0) := hid rfl
 generalize sortE l = res at *
 generalize (nth l 0).op = op at *
 clear ht
 by_cases h : op = 2
 · have hb1 : (op != 2) = false := by simpa using h
   rw [if_neg (by simpa using h)] at HR
   clear h
   go_in
   go_wp2_with fail
   go_ret
   rw [HR.out]
   exact ⟨rfl, Below.refl _ _⟩
 have hb1 : (op != 2) = true := by simpa using h
 rw [if_pos h] at HR
 clear h
 go_in
 go_wp2_with fail
 go_ret
 rw [HR.out]
 exact ⟨rfl, Below.refl _ _⟩
theorem ctors_any {w : World} {v : BkVal} {b : Bk} (hb : BookV w v b) (known self : Int) (hk : known ≤ b.entries.length) {ev : EnVal} {x : En} (hx : EnC w ev x) (hp : x.params.length ≤ 16) (hi16 : x.indices.length ≤ 16) :
 Calls Try.prog 66 #[.agg #[.int .i64 b.vars, .slice v.Ao v.no v.co, .slice v.Ae v.ne v.ce, .int .i64 b.nat, .slice v.Ap v.np v.cp, .int .i64 known, .int .i64 self], .agg #[.int .i64 x.kind, .slice ev.As ev.ns ev.cs, .slice ev.Ap ev.np ev.cp, .slice ev.Ai ev.ni ev.ci, .slice ev.Ac ev.nc ev.cc, .slice ev.At ev.nt ev.ct, .slice ev.Ab ev.nb ev.cb]] w (ErrP (ctorsE b known x x.ctors) w) := by
 have HRW := hid (fun (w' : World) (A' : Option Addr) (n' c' : Nat) (ls : List (List Nd)) (be st : Int) (h : Below w.heap.size w w') (h1 : RowsV w' A' n' c' ls) (h2 : st = 0 ∨ st = 1) (h3 : 0 ≤ be) (h4 : be ≤ 1000000) (h5 : n' ≤ 100000) => rows_any (hb.below h) known known hk h1 be st h2 h3 h4 h5)
 have HT := hid (fun (w' : World) (h : Below w.heap.size w w') => hx.ctors.below h)
 have hcl := hx.ctors.len
 have hpl := hx.params.len
 have hil := hx.indices.len
 have hcf := hx.ctors.few
 have hif := hx.indices.few
 obtain ⟨res, hres⟩ : ∃ res, res = ctorsE b known x x.ctors := ⟨_, rfl⟩
 rw [← hres]
 have HRES := hid hres
 obtain ⟨Ao, no, co, Ae, ne, ce, Ap, np, cp⟩ := v
 obtain ⟨As, ns, cs, Ap2, np2, cp2, Ai, ni, ci, Ac, nc, cc, At, nt, ct, Ab, nb, cb⟩ := ev
 simp only at HRW HT hcl hpl hil hcf hif ⊢
 obtain ⟨L, hL⟩ : ∃ L, L = x.ctors := ⟨_, rfl⟩
 rw [← hL] at HT hcl HRES
 have HPL := hid hpl
 have HIL := hid hil
 have HCL := hid hcl
 have hp16 : np2 ≤ 16 := by omega
 have hi17 : ni ≤ 16 := by omega
 clear hb hk hx hres hL hcl hpl hil hp hi16
 generalize b.vars = bv at *
 generalize b.nat = bn at *
 generalize x.kind = kd at *
 have HBS := hid ((below_alloc w (.cells #[.int .i64 bv, .slice Ao no co, .slice Ae ne ce, .int .i64 bn, .slice Ap np cp, .int .i64 known, .int .i64 known] 84)).alloc (by simp) (.cells #[.int .i64 kd, .slice As ns cs, .slice Ap2 np2 cp2, .slice Ai ni ci, .slice Ac nc cc, .slice At nt ct, .slice Ab nb cb] 62))
 have hk1 : Hid (Blk ((w.alloc (.cells #[.int .i64 bv, .slice Ao no co, .slice Ae ne ce, .int .i64 bn, .slice Ap np cp, .int .i64 known, .int .i64 known] 84)).alloc (.cells #[.int .i64 kd, .slice As ns cs, .slice Ap2 np2 cp2, .slice Ai ni ci, .slice Ac nc cc, .slice At nt ct, .slice Ab nb cb] 62)) w.heap.size 84 #[.int .i64 bv, .slice Ao no co, .slice Ae ne ce, .int .i64 bn, .slice Ap np cp, .int .i64 known, .int .i64 known]) := hid ((Blk.new w 84 #[.int .i64 bv, .slice Ao no co, .slice Ae ne ce, .int .i64 bn, .slice Ap np cp, .int .i64 known, .int .i64 known]).alloc _)
 have hk2 : Hid (Blk ((w.alloc (.cells #[.int .i64 bv, .slice Ao no co, .slice Ae ne ce, .int .i64 bn, .slice Ap np cp, .int .i64 known, .int .i64 known] 84)).alloc (.cells #[.int .i64 kd, .slice As ns cs, .slice Ap2 np2 cp2, .slice Ai ni ci, .slice Ac nc cc, .slice At nt ct, .slice Ab nb cb] 62)) (w.heap.size + 1) 62 #[.int .i64 kd, .slice As ns cs, .slice Ap2 np2 cp2, .slice Ai ni ci, .slice Ac nc cc, .slice At nt ct, .slice Ab nb cb]) := hid (by
  have h := Blk.new (w.alloc (.cells #[.int .i64 bv, .slice Ao no co, .slice Ae ne ce, .int .i64 bn, .slice Ap np cp, .int .i64 known, .int .i64 known] 84)) 62 #[.int .i64 kd, .slice As ns cs, .slice Ap2 np2 cp2, .slice Ai ni ci, .slice Ac nc cc, .slice At nt ct, .slice Ab nb cb]
  rw [show (w.alloc (.cells #[.int .i64 bv, .slice Ao no co, .slice Ae ne ce, .int .i64 bn, .slice Ap np cp, .int .i64 known, .int .i64 known] 84)).heap.size = w.heap.size + 1 from by simp] at h
  exact h)
 go_in
 go_wp2_with fail
 go_loopw [15] (fun iv wr => ∃ i : Nat, iv = .int .i64 (i : Int) ∧ i ≤ nc ∧ Hid (ctorsE b known x (L.drop i) = res) ∧ Hid (Blk wr w.heap.size 84 #[.int .i64 bv, .slice Ao no co, .slice Ae ne ce, .int .i64 bn, .slice Ap np cp, .int .i64 known, .int .i64 known]) ∧ Hid (Blk wr (w.heap.size + 1) 62 #[.int .i64 kd, .slice As ns cs, .slice Ap2 np2 cp2, .slice Ai ni ci, .slice Ac nc cc, .slice At nt ct, .slice Ab nb cb]) ∧ Hid (Below w.heap.size w wr)) (fun i _ => nc - (intOf i).toNat)
 case atStart => exact ⟨0, rfl, by omega, hid HRES.out.symm, hk1, hk2, HBS⟩
 case round =>
  clear hk1 hk2
  obtain ⟨i, rfl, hi, hrs, hk1, hk2, hbw⟩ := hrel
  by_cases hlt : i < nc
  rotate_left
  · have hib : decide ((i : Int) < (nc : Int)) = false := decide_eq_false (by omega)
    have HRF : Hid (res = 0) := hid (by
     have := hrs.out
     rw [List.drop_of_length_le (by rw [HCL.out]; omega)] at this
     exact this.symm)
    go_wp2_with fail
    go_ret
    rw [HRF.out]
    exact ⟨rfl, hbw.out⟩
  have hib : decide ((i : Int) < (nc : Int)) = true := decide_eq_true (by omega)
  obtain ⟨bc, oc, rfl, hbc, hm⟩ := (HT.out wr hbw.out).mem (by omega)
  obtain ⟨A1, n1, c1, A2, n2, c2, hc0, hc1, hr1, hr2⟩ := hm i hlt
  have hil : i < L.length := by rw [HCL.out]; exact hlt
  have hrs2 := hrs.out
  rw [List.drop_eq_getElem_cons hil, show L[i] = L.getD i default from by rw [List.getD_eq_getElem?_getD, List.getElem?_eq_getElem hil]; rfl] at hrs2
  obtain ⟨cx, hcx⟩ : ∃ cx, cx = L.getD i default := ⟨_, rfl⟩
  rw [← hcx] at hr1 hr2 hrs2
  have hl1 := hr1.len
  have hl2 := hr2.len
  have hf1 := hr1.few
  have hf2 := hr2.few
  simp only [ctorsE] at hrs2
  rw [HPL.out, HIL.out, hl1, hl2] at hrs2
  have HBa := hid (hbw.out.trans ((below_alloc wr (.cells #[.slice A1 n1 c1, .slice A2 n2 c2] 65)).mono hbw.out.size))
  have HK1a := hid (hk1.out.alloc (.cells #[.slice A1 n1 c1, .slice A2 n2 c2] 65))
  have HK2a := hid (hk2.out.alloc (.cells #[.slice A1 n1 c1, .slice A2 n2 c2] 65))
  have HK3a := hid (Blk.new wr 65 #[.slice A1 n1 c1, .slice A2 n2 c2])
  have hr1a := hr1.below (below_alloc wr (.cells #[.slice A1 n1 c1, .slice A2 n2 c2] 65))
  have HR2 := hid (fun (w' : World) (h : Below wr.heap.size wr w') => hr2.below h)
  have zc1 := Blk.cell hk1.out
  have zc2 := Blk.cell hk2.out
  have hbl1 := hk1.out.lt
  have hbl2 := hk2.out.lt
  clear hm hcx hr1 hr2
  by_cases h16 : 16 < n1
  · rw [if_pos h16] at hrs2
    have HRS2 := hid hrs2
    have hb1 : decide ((n1 : Int) > 16) = true := decide_eq_true (by omega)
    clear hrs2 hl1 hl2 h16
    go_wp2_with fail
    go_ret
    rw [← HRS2.out]
    exact ⟨rfl, HBa.out⟩
  rw [if_neg h16] at hrs2
  have hb1 : decide ((n1 : Int) > 16) = false := decide_eq_false (by omega)
  by_cases hne : n2 = ni
  case neg =>
   rw [if_pos hne] at hrs2
   have HRS2 := hid hrs2
   have hb2 : ((n2 : Int) != (ni : Int)) = true := by rw [bne_iff_ne]; omega
   clear hrs2 hl1 hl2 h16 hne
   go_wp2_with fail
   go_ret
   rw [← HRS2.out]
   exact ⟨rfl, HBa.out⟩
  rw [if_neg (by simpa using hne)] at hrs2
  have hb2 : ((n2 : Int) != (ni : Int)) = false := by rw [bne_eq_false_iff_eq]; omega
  have HC1 := hid (HRW.out _ A1 n1 c1 cx.args np2 1 HBa.out hr1a (.inr rfl) (by omega) (by omega) (by omega))
  obtain ⟨e1, he1⟩ : ∃ e1, e1 = rowsE b known known 1 cx.args np2 := ⟨_, rfl⟩
  obtain ⟨e2, he2⟩ : ∃ e2, e2 = rowsE b known known 0 cx.outs ((np2 : Int) + n1) := ⟨_, rfl⟩
  rw [← he1] at HC1 hrs2
  have HC2 := hid (fun (w' : World) (h : Below w.heap.size w w') (h1 : RowsV w' A2 n2 c2 cx.outs) => HRW.out w' A2 n2 c2 cx.outs ((np2 : Int) + n1) 0 h h1 (.inl rfl) (by omega) (by omega) (by omega))
  rw [← he2] at HC2 hrs2
  clear he1 he2 hl1 hl2 hne hr1a
  by_cases h1 : e1 = 0
  case neg =>
   rw [if_pos h1] at hrs2
   have HRS2 := hid hrs2
   have hb3 : (e1 != 0) = true := by simpa using h1
   clear hrs2 h1
   go_wp2_with fail
   refine (HC1.out).mono ?_
   rintro e w3 ⟨rfl, hb3'⟩
   have HB3 := hid (HBa.out.trans (hb3'.mono HBa.out.size))
   clear hb3'
   go_wp2_with fail
   go_ret
   rw [← HRS2.out]
   exact ⟨rfl, HB3.out⟩
  subst h1
  rw [if_neg (by simp)] at hrs2
  by_cases h2 : e2 = 0
  case neg =>
   rw [if_pos h2] at hrs2
   have HRS2 := hid hrs2
   have hb3 : (e2 != 0) = true := by simpa using h2
   clear hrs2 h2
   go_wp2_with fail
   refine (HC1.out).mono ?_
   rintro e w3 ⟨rfl, hb3'⟩
   have HB3 := hid (HBa.out.trans (hb3'.mono HBa.out.size))
   have HX3 := hid (((below_alloc wr (.cells #[.slice A1 n1 c1, .slice A2 n2 c2] 65)).trans (hb3'.mono (by simp))))
   have zd1 := Blk.cell (Blk.below HK1a.out hb3' HK1a.out.lt)
   have zd2 := Blk.cell (Blk.below HK2a.out hb3' HK2a.out.lt)
   have zd3 := Blk.cell (Blk.below HK3a.out hb3' (by simp))
   clear hb3'
   go_wp2_with fail
   refine (HC2.out _ HB3.out (HR2.out _ HX3.out)).mono ?_
   rintro e w4 ⟨rfl, hb4⟩
   have HB4 := bto HB3 hb4
   clear hb4
   go_wp2_with fail
   go_ret
   rw [← HRS2.out]
   exact ⟨rfl, HB4.out⟩
  subst h2
  rw [if_neg (by simp)] at hrs2
  have HRS2 := hid hrs2
  clear hrs2
  go_wp2_with fail
  refine (HC1.out).mono ?_
  rintro e w3 ⟨rfl, hb3'⟩
  have HB3 := hid (HBa.out.trans (hb3'.mono HBa.out.size))
  have HX3 := hid (((below_alloc wr (.cells #[.slice A1 n1 c1, .slice A2 n2 c2] 65)).trans (hb3'.mono (by simp))))
  have HK13 := hid (Blk.below HK1a.out hb3' HK1a.out.lt)
  have HK23 := hid (Blk.below HK2a.out hb3' HK2a.out.lt)
  have zd1 := Blk.cell HK13.out
  have zd2 := Blk.cell HK23.out
  have zd3 := Blk.cell (Blk.below HK3a.out hb3' (by simp))
  clear hb3' zc1 zc2
  go_wp2_with fail
  refine (HC2.out _ HB3.out (HR2.out _ HX3.out)).mono ?_
  rintro e w4 ⟨rfl, hb4⟩
  have HB4 := bto HB3 hb4
  have HK14 := bko HK13 hb4
  have HK24 := bko HK23 hb4
  clear hb4 zd1 zd2 zd3
  go_wp2_with fail
  go_roundw
  case rel => exact ⟨i + 1, by go_num, by omega, HRS2, HK14, HK24, HB4⟩
  case measure => simp [intOf]; omega
theorem entry1_any {w : World} {v : BkVal} {b : Bk} (hb : BookV w v b) (known self : Int) (hk : known ≤ b.entries.length) {ev : EnVal} {x : En} (hx : EnC w ev x) {g1 g2 g3 : Nat} (h1 : Blk w g1 84 #[.int .i64 b.vars, .slice v.Ao v.no v.co, .slice v.Ae v.ne v.ce, .int .i64 b.nat, .slice v.Ap v.np v.cp, .int .i64 known, .int .i64 self]) (h2 : Blk w g2 62 #[.int .i64 x.kind, .slice ev.As ev.ns ev.cs, .slice ev.Ap ev.np ev.cp, .slice ev.Ai ev.ni ev.ci, .slice ev.Ac ev.nc ev.cc, .slice ev.At ev.nt ev.ct, .slice ev.Ab ev.nb ev.cb]) (h3 : Blk w g3 3 #[.int .i64 (x.params.length : Int)]) :
 Calls Try.prog 59 #[.pointer (some ⟨g1, 0, none⟩), .pointer (some ⟨g2, 0, none⟩)] w (ErrP (rowE b known self x.sort 0) w) := by
 have HC := hid (row_any hb known self hk hx.sort 0)
 obtain ⟨Ao, no, co, Ae, ne, ce, Ap, np, cp⟩ := v
 obtain ⟨As, ns, cs, Ap2, np2, cp2, Ai, ni, ci, Ac, nc, cc, At, nt, ct, Ab, nb, cb⟩ := ev
 simp only at HC h1 h2 h3
 have z1 := Blk.cell h1
 have z2 := Blk.cell h2
 have z3 := Blk.cell h3
 clear hb hk hx h1 h2 h3
 go_in
 go_wp2_with fail
 refine (HC.out).mono ?_
 rintro e w2 ⟨rfl, hb2⟩
 have HB2 := hid hb2
 clear hb2 z1 z2 z3
 go_wp2_with fail
 go_ret
 exact ⟨rfl, HB2.out⟩
theorem entry2_any {w : World} {v : BkVal} {b : Bk} (hb : BookV w v b) (known self : Int) (hk : known ≤ b.entries.length) {ev : EnVal} {x : En} (hx : EnC w ev x) {g1 g2 g3 : Nat} (h1 : Blk w g1 84 #[.int .i64 b.vars, .slice v.Ao v.no v.co, .slice v.Ae v.ne v.ce, .int .i64 b.nat, .slice v.Ap v.np v.cp, .int .i64 known, .int .i64 self]) (h2 : Blk w g2 62 #[.int .i64 x.kind, .slice ev.As ev.ns ev.cs, .slice ev.Ap ev.np ev.cp, .slice ev.Ai ev.ni ev.ci, .slice ev.Ac ev.nc ev.cc, .slice ev.At ev.nt ev.ct, .slice ev.Ab ev.nb ev.cb]) (h3 : Blk w g3 3 #[.int .i64 (x.params.length : Int)]) (h0 : 0 < x.sort.length) :
 Calls Try.prog 60 #[.pointer (some ⟨g2, 0, none⟩)] w (ErrP (sortE x.sort) w) := by
 have HC := hid (isSort_any hx.sort (by rw [← hx.sort.len]; exact h0))
 clear h0
 obtain ⟨Ao, no, co, Ae, ne, ce, Ap, np, cp⟩ := v
 obtain ⟨As, ns, cs, Ap2, np2, cp2, Ai, ni, ci, Ac, nc, cc, At, nt, ct, Ab, nb, cb⟩ := ev
 simp only at HC h1 h2 h3
 have z1 := Blk.cell h1
 have z2 := Blk.cell h2
 have z3 := Blk.cell h3
 clear hb hk hx h1 h2 h3
 go_in
 go_wp2_with fail
 refine (HC.out).mono ?_
 rintro e w2 ⟨rfl, hb2⟩
 have HB2 := hid hb2
 clear hb2 z1 z2 z3
 go_wp2_with fail
 go_ret
 exact ⟨rfl, HB2.out⟩
theorem entry3_any {w : World} {v : BkVal} {b : Bk} (hb : BookV w v b) (known self : Int) (hk : known ≤ b.entries.length) {ev : EnVal} {x : En} (hx : EnC w ev x) {g1 g2 g3 : Nat} (h1 : Blk w g1 84 #[.int .i64 b.vars, .slice v.Ao v.no v.co, .slice v.Ae v.ne v.ce, .int .i64 b.nat, .slice v.Ap v.np v.cp, .int .i64 known, .int .i64 self]) (h2 : Blk w g2 62 #[.int .i64 x.kind, .slice ev.As ev.ns ev.cs, .slice ev.Ap ev.np ev.cp, .slice ev.Ai ev.ni ev.ci, .slice ev.Ac ev.nc ev.cc, .slice ev.At ev.nt ev.ct, .slice ev.Ab ev.nb ev.cb]) (h3 : Blk w g3 3 #[.int .i64 (x.params.length : Int)]) (hp : x.params.length ≤ 16) :
 Calls Try.prog 62 #[.pointer (some ⟨g1, 0, none⟩), .pointer (some ⟨g2, 0, none⟩)] w (ErrP (rowsE b known self 1 x.params 0) w) := by
 have HC := hid (rows_any hb known self hk hx.params 0 1 (.inr rfl) (by omega) (by omega) (by rw [← hx.params.len]; omega))
 clear hp
 obtain ⟨Ao, no, co, Ae, ne, ce, Ap, np, cp⟩ := v
 obtain ⟨As, ns, cs, Ap2, np2, cp2, Ai, ni, ci, Ac, nc, cc, At, nt, ct, Ab, nb, cb⟩ := ev
 simp only at HC h1 h2 h3
 have z1 := Blk.cell h1
 have z2 := Blk.cell h2
 have z3 := Blk.cell h3
 clear hb hk hx h1 h2 h3
 go_in
 go_wp2_with fail
 refine (HC.out).mono ?_
 rintro e w2 ⟨rfl, hb2⟩
 have HB2 := hid hb2
 clear hb2 z1 z2 z3
 go_wp2_with fail
 go_ret
 exact ⟨rfl, HB2.out⟩
theorem entry4_any {w : World} {v : BkVal} {b : Bk} (hb : BookV w v b) (known self : Int) (hk : known ≤ b.entries.length) {ev : EnVal} {x : En} (hx : EnC w ev x) {g1 g2 g3 : Nat} (h1 : Blk w g1 84 #[.int .i64 b.vars, .slice v.Ao v.no v.co, .slice v.Ae v.ne v.ce, .int .i64 b.nat, .slice v.Ap v.np v.cp, .int .i64 known, .int .i64 self]) (h2 : Blk w g2 62 #[.int .i64 x.kind, .slice ev.As ev.ns ev.cs, .slice ev.Ap ev.np ev.cp, .slice ev.Ai ev.ni ev.ci, .slice ev.Ac ev.nc ev.cc, .slice ev.At ev.nt ev.ct, .slice ev.Ab ev.nb ev.cb]) (h3 : Blk w g3 3 #[.int .i64 (x.params.length : Int)]) (hp : x.params.length ≤ 16) (hi : x.indices.length ≤ 16) :
 Calls Try.prog 64 #[.pointer (some ⟨g1, 0, none⟩), .pointer (some ⟨g2, 0, none⟩), .pointer (some ⟨g3, 0, none⟩)] w (ErrP (rowsE b known self 1 x.indices x.params.length) w) := by
 have HC := hid (rows_any hb known self hk hx.indices (x.params.length : Int) 1 (.inr rfl) (by omega) (by omega) (by rw [← hx.indices.len]; omega))
 generalize (x.params.length : Int) = pl at *
 clear hp hi
 obtain ⟨Ao, no, co, Ae, ne, ce, Ap, np, cp⟩ := v
 obtain ⟨As, ns, cs, Ap2, np2, cp2, Ai, ni, ci, Ac, nc, cc, At, nt, ct, Ab, nb, cb⟩ := ev
 simp only at HC h1 h2 h3
 have z1 := Blk.cell h1
 have z2 := Blk.cell h2
 have z3 := Blk.cell h3
 clear hb hk hx h1 h2 h3
 go_in
 go_wp2_with fail
 refine (HC.out).mono ?_
 rintro e w2 ⟨rfl, hb2⟩
 have HB2 := hid hb2
 clear hb2 z1 z2 z3
 go_wp2_with fail
 go_ret
 exact ⟨rfl, HB2.out⟩
theorem entry5_any {w : World} {v : BkVal} {b : Bk} (hb : BookV w v b) (known self : Int) (hk : known ≤ b.entries.length) {ev : EnVal} {x : En} (hx : EnC w ev x) {g1 g2 g3 : Nat} (h1 : Blk w g1 84 #[.int .i64 b.vars, .slice v.Ao v.no v.co, .slice v.Ae v.ne v.ce, .int .i64 b.nat, .slice v.Ap v.np v.cp, .int .i64 known, .int .i64 self]) (h2 : Blk w g2 62 #[.int .i64 x.kind, .slice ev.As ev.ns ev.cs, .slice ev.Ap ev.np ev.cp, .slice ev.Ai ev.ni ev.ci, .slice ev.Ac ev.nc ev.cc, .slice ev.At ev.nt ev.ct, .slice ev.Ab ev.nb ev.cb]) (h3 : Blk w g3 3 #[.int .i64 (x.params.length : Int)]) (hp : x.params.length ≤ 16) (hi : x.indices.length ≤ 16) :
 Calls Try.prog 65 #[.pointer (some ⟨g1, 0, none⟩), .pointer (some ⟨g2, 0, none⟩)] w (ErrP (ctorsE b known x x.ctors) w) := by
 have HC := hid (ctors_any hb known self hk hx hp hi)
 clear hp hi
 obtain ⟨Ao, no, co, Ae, ne, ce, Ap, np, cp⟩ := v
 obtain ⟨As, ns, cs, Ap2, np2, cp2, Ai, ni, ci, Ac, nc, cc, At, nt, ct, Ab, nb, cb⟩ := ev
 simp only at HC h1 h2 h3
 have z1 := Blk.cell h1
 have z2 := Blk.cell h2
 have z3 := Blk.cell h3
 clear hb hk hx h1 h2 h3
 go_in
 go_wp2_with fail
 refine (HC.out).mono ?_
 rintro e w2 ⟨rfl, hb2⟩
 have HB2 := hid hb2
 clear hb2 z1 z2 z3
 go_wp2_with fail
 go_ret
 exact ⟨rfl, HB2.out⟩
theorem rows_two {W : World} {g : Nat} (hg : W.heap.size = g) {A1 A2 : Option Addr} {n1 c1 n2 c2 : Nat} {l1 l2 : List Nd} (h1 : TermV W A1 n1 c1 l1) (h2 : TermV W A2 n2 c2 l2) : RowsV (W.alloc (.cells #[.slice A1 n1 c1, .slice A2 n2 c2] 29)) (some ⟨g, 0, none⟩) 2 2 [l1, l2] := by
 subst hg
 have hb := below_alloc W (.cells #[.slice A1 n1 c1, .slice A2 n2 c2] 29)
 refine ⟨rfl, by omega, fun _ => ⟨_, _, rfl, by simp, fun k hk => ?_⟩⟩
 rcases k with _ | _ | k
 · exact ⟨A1, n1, c1, by rw [World.cell?_alloc_new]; rfl, h1.below hb⟩
 · exact ⟨A2, n2, c2, by rw [World.cell?_alloc_new]; rfl, h2.below hb⟩
 omega
theorem entry_def {w : World} {v : BkVal} {b : Bk} (hb : BookV w v b) (known : Int) (hk : known ≤ b.entries.length) {ev : EnVal} {x : En} (hx : EnC w ev x) (h2 : x.kind ≠ 1) :
 Calls Try.prog 37 #[.agg #[.int .i64 b.vars, .slice v.Ao v.no v.co, .slice v.Ae v.ne v.ce, .int .i64 b.nat, .slice v.Ap v.np v.cp, .int .i64 known, .int .i64 (-1)], .agg #[.int .i64 x.kind, .slice ev.As ev.ns ev.cs, .slice ev.Ap ev.np ev.cp, .slice ev.Ai ev.ni ev.ci, .slice ev.Ac ev.nc ev.cc, .slice ev.At ev.nt ev.ct, .slice ev.Ab ev.nb ev.cb]] w (ErrP (entryE b known x) w) := by
 have q1 : (x.kind == 1) = false := by simpa using h2
 by_cases h3 : x.kind = 2
 case neg =>
  have q2 : (x.kind == 2) = false := by simpa using h3
  have HR : Hid (entryE b known x = 8) := hid (by unfold entryE; rw [if_neg h2, if_neg h3])
  have HB0 := hid ((below_alloc w (.cells #[.int .i64 b.vars, .slice v.Ao v.no v.co, .slice v.Ae v.ne v.ce, .int .i64 b.nat, .slice v.Ap v.np v.cp, .int .i64 known, .int .i64 (-1)] 84)).alloc (by simp) (.cells #[.int .i64 x.kind, .slice ev.As ev.ns ev.cs, .slice ev.Ap ev.np ev.cp, .slice ev.Ai ev.ni ev.ci, .slice ev.Ac ev.nc ev.cc, .slice ev.At ev.nt ev.ct, .slice ev.Ab ev.nb ev.cb] 62))
  generalize entryE b known x = res at *
  generalize x.kind = kd at *
  generalize b.vars = bv at *
  generalize b.nat = bn at *
  obtain ⟨Ao, no, co, Ae, ne, ce, Ap, np, cp⟩ := v
  obtain ⟨As, ns, cs, Ap2, np2, cp2, Ai, ni, ci, Ac, nc, cc, At, nt, ct, Ab, nb, cb⟩ := ev
  simp only at HB0 ⊢
  clear hb hk hx h2 h3
  go_in
  go_wp2_with fail
  go_ret
  rw [HR.out]
  exact ⟨rfl, HB0.out⟩
 have q2 : (x.kind == 2) = true := by simp [h3]
 have hsl := hx.sort.len
 have hpl := hx.params.len
 have hil := hx.indices.len
 have hcl := hx.ctors.len
 have f1 := hx.sort.few
 have f2 := hx.params.few
 have f3 := hx.indices.few
 have f4 := hx.ctors.few
 have HR : Hid (entryE b known x = if 0 < ev.ns + ev.np + ev.ni + ev.nc then 8 else rowsE b known (-1) 0 [x.type, x.body] 0) := hid (by unfold entryE; rw [if_neg h2, if_pos h3, hsl, hpl, hil, hcl])
 have HB0 := hid ((below_alloc w (.cells #[.int .i64 b.vars, .slice v.Ao v.no v.co, .slice v.Ae v.ne v.ce, .int .i64 b.nat, .slice v.Ap v.np v.cp, .int .i64 known, .int .i64 (-1)] 84)).alloc (by simp) (.cells #[.int .i64 x.kind, .slice ev.As ev.ns ev.cs, .slice ev.Ap ev.np ev.cp, .slice ev.Ai ev.ni ev.ci, .slice ev.Ac ev.nc ev.cc, .slice ev.At ev.nt ev.ct, .slice ev.Ab ev.nb ev.cb] 62))
 have HT2 := hid (HB0.out.alloc HB0.out.size (.cells #[.slice ev.At ev.nt ev.ct, .slice ev.Ab ev.nb ev.cb] 29))
 have HC := hid (rows_any (hb.below HT2.out) known (-1) hk (rows_two (g := w.heap.size + 1 + 1) (by simp) (hx.type.below HB0.out) (hx.body.below HB0.out)) 0 0 (.inl rfl) (by omega) (by omega) (by omega))
 generalize entryE b known x = res at *
 generalize rowsE b known (-1) 0 [x.type, x.body] 0 = rv at *
 generalize x.kind = kd at *
 generalize b.vars = bv at *
 generalize b.nat = bn at *
 obtain ⟨Ao, no, co, Ae, ne, ce, Ap, np, cp⟩ := v
 obtain ⟨As, ns, cs, Ap2, np2, cp2, Ai, ni, ci, Ac, nc, cc, At, nt, ct, Ab, nb, cb⟩ := ev
 simp only at HB0 HT2 HC HR f1 f2 f3 f4 ⊢
 clear hb hk hx h2 h3 hsl hpl hil hcl
 by_cases hz : 0 < ns + np2 + ni + nc
 · rw [if_pos hz] at HR
   have hzb : decide ((ns : Int) + (np2 : Int) + (ni : Int) + (nc : Int) > 0) = true := decide_eq_true (by omega)
   clear hz
   go_in
   go_wp2_with fail
   go_ret
   rw [HR.out]
   exact ⟨rfl, HB0.out⟩
 rw [if_neg hz] at HR
 have hzb : decide ((ns : Int) + (np2 : Int) + (ni : Int) + (nc : Int) > 0) = false := decide_eq_false (by omega)
 clear hz
 go_in
 go_wp2_with fail
 refine (HC.out).mono ?_
 rintro e w2 ⟨rfl, hb2⟩
 have HB2 := bto HT2 hb2
 clear hb2
 go_wp2_with fail
 go_ret
 rw [HR.out]
 exact ⟨rfl, HB2.out⟩
end
section
open Go.RowKit
theorem row_pos {b : Bk} {known self below : Int} {l : List Nd} (h : rowE b known self l below = 0) : 0 < l.length := by
 have hs : shapeI l = 0 := by
  unfold rowE at h
  split at h
  · exact h
  rename_i h1
  exact Decidable.not_not.1 h1
 obtain ⟨n, a, k, hr⟩ := rt_of hs
 rw [hr.eq]
 simp
def fids (i : Nat) : FuncId := match i with
 | 0 => 59
 | 1 => 60
 | 2 => 62
 | 3 => 64
 | _ => 65
def capsE (g : Nat) (i : Nat) : Array Value := match i with
 | 0 => #[.pointer (some ⟨g, 0, none⟩), .pointer (some ⟨g + 1, 0, none⟩)]
 | 1 => #[.pointer (some ⟨g + 1, 0, none⟩)]
 | 2 => #[.pointer (some ⟨g, 0, none⟩), .pointer (some ⟨g + 1, 0, none⟩)]
 | 3 => #[.pointer (some ⟨g, 0, none⟩), .pointer (some ⟨g + 1, 0, none⟩), .pointer (some ⟨g + 1 + 1, 0, none⟩)]
 | _ => #[.pointer (some ⟨g, 0, none⟩), .pointer (some ⟨g + 1, 0, none⟩)]
theorem closures_any {w W : World} {v : BkVal} {b : Bk} (hb : BookV w v b) (known : Int) (hk : known ≤ b.entries.length) {ev : EnVal} {x : En} (hx : EnC w ev x) (hp : x.params.length ≤ 16) (hi : x.indices.length ≤ 16) (hW : Below w.heap.size w W) (k1 : Blk W w.heap.size 84 #[.int .i64 b.vars, .slice v.Ao v.no v.co, .slice v.Ae v.ne v.ce, .int .i64 b.nat, .slice v.Ap v.np v.cp, .int .i64 known, .int .i64 (-1)]) (k2 : Blk W (w.heap.size + 1) 62 #[.int .i64 x.kind, .slice ev.As ev.ns ev.cs, .slice ev.Ap ev.np ev.cp, .slice ev.Ai ev.ni ev.ci, .slice ev.Ac ev.nc ev.cc, .slice ev.At ev.nt ev.ct, .slice ev.Ab ev.nb ev.cb]) (k3 : Blk W (w.heap.size + 1 + 1) 3 #[.int .i64 (x.params.length : Int)]) :
 ∀ i, i < 5 → (∀ j, j < i → [rowE b known (-1) x.sort 0, sortE x.sort, rowsE b known (-1) 1 x.params 0, rowsE b known (-1) 1 x.indices x.params.length, ctorsE b known x x.ctors].getD j 0 = 0) → ∀ w', Below W.heap.size W w' → Calls Try.prog (fids i) (capsE w.heap.size i) w' (ErrP ([rowE b known (-1) x.sort 0, sortE x.sort, rowsE b known (-1) 1 x.params 0, rowsE b known (-1) 1 x.indices x.params.length, ctorsE b known x x.ctors].getD i 0) w') := by
 intro i hi5 hz w' hw
 have hB := hW.trans (hw.mono hW.size)
 have b1 := k1.below hw k1.lt
 have b2 := k2.below hw k2.lt
 have b3 := k3.below hw k3.lt
 match i, hi5 with
 | 0, _ => exact entry1_any (hb.below hB) known (-1) hk (hx.below hB) b1 b2 b3
 | 1, _ => exact entry2_any (hb.below hB) known (-1) hk (hx.below hB) b1 b2 b3 (row_pos (by simpa using hz 0 (by omega)))
 | 2, _ => exact entry3_any (hb.below hB) known (-1) hk (hx.below hB) b1 b2 b3 hp
 | 3, _ => exact entry4_any (hb.below hB) known (-1) hk (hx.below hB) b1 b2 b3 hp hi
 | 4, _ => exact entry5_any (hb.below hB) known (-1) hk (hx.below hB) b1 b2 b3 hp hi
theorem enters (i : Nat) (hi : i < 5) : ∀ args w, (callFunc (fids i) args).run Try.prog w = .ok (.enter (fids i) args) w := by
 match i, hi with
 | 0, _ => exact fun _ _ => by kernel_rfl
 | 1, _ => exact fun _ _ => by kernel_rfl
 | 2, _ => exact fun _ _ => by kernel_rfl
 | 3, _ => exact fun _ _ => by kernel_rfl
 | 4, _ => exact fun _ _ => by kernel_rfl
theorem entry_fam {w : World} {v : BkVal} {b : Bk} (hb : BookV w v b) (known : Int) (hk : known ≤ b.entries.length) {ev : EnVal} {x : En} (hx : EnC w ev x) (h1 : x.kind = 1) :
 Calls Try.prog 37 #[.agg #[.int .i64 b.vars, .slice v.Ao v.no v.co, .slice v.Ae v.ne v.ce, .int .i64 b.nat, .slice v.Ap v.np v.cp, .int .i64 known, .int .i64 (-1)], .agg #[.int .i64 x.kind, .slice ev.As ev.ns ev.cs, .slice ev.Ap ev.np ev.cp, .slice ev.Ai ev.ni ev.ci, .slice ev.Ac ev.nc ev.cc, .slice ev.At ev.nt ev.ct, .slice ev.Ab ev.nb ev.cb]] w (ErrP (entryE b known x) w) := by
 have hmf : ∀ (fn : Fn) (first cap : Array Value) (w : World), (Instr.makeFunc fn first cap).run Try.prog w = .ok (.func fn first cap) w := fun _ _ _ _ => rfl
 have htl := hx.type.len
 have hbl := hx.body.len
 have hpl := hx.params.len
 have hil := hx.indices.len
 have hcl := hx.ctors.len
 have f1 := hx.type.few
 have f2 := hx.body.few
 have f3 := hx.params.few
 have f4 := hx.indices.few
 have f5 := hx.ctors.few
 have HR : Hid (entryE b known x = if 0 < ev.nt + ev.nb then 8 else if 16 < ev.np ∨ 16 < ev.ni ∨ 16 < ev.nc then 5 else firstE [rowE b known (-1) x.sort 0, sortE x.sort, rowsE b known (-1) 1 x.params 0, rowsE b known (-1) 1 x.indices x.params.length, ctorsE b known x x.ctors]) := hid (by unfold entryE; rw [if_pos h1, htl, hbl, hpl, hil, hcl])
 have HCL := hid (fun (W : World) (h1 : x.params.length ≤ 16) (h2 : x.indices.length ≤ 16) => closures_any (W := W) hb known hk hx h1 h2)
 have HB0 := hid ((below_alloc w (.cells #[.int .i64 b.vars, .slice v.Ao v.no v.co, .slice v.Ae v.ne v.ce, .int .i64 b.nat, .slice v.Ap v.np v.cp, .int .i64 known, .int .i64 (-1)] 84)).alloc (by simp) (.cells #[.int .i64 x.kind, .slice ev.As ev.ns ev.cs, .slice ev.Ap ev.np ev.cp, .slice ev.Ai ev.ni ev.ci, .slice ev.Ac ev.nc ev.cc, .slice ev.At ev.nt ev.ct, .slice ev.Ab ev.nb ev.cb] 62))
 rw [h1] at HB0 HCL ⊢
 have HPL := hid hpl
 have HIL := hid hil
 generalize entryE b known x = res at *
 obtain ⟨es, hes⟩ : ∃ es, es = [rowE b known (-1) x.sort 0, sortE x.sort, rowsE b known (-1) 1 x.params 0, rowsE b known (-1) 1 x.indices x.params.length, ctorsE b known x x.ctors] := ⟨_, rfl⟩
 rw [← hes] at HR HCL
 have hel : es.length = 5 := by rw [hes]; rfl
 have HEL := hid hel
 clear hes hel
 generalize b.vars = bv at *
 generalize b.nat = bn at *
 obtain ⟨Ao, no, co, Ae, ne, ce, Ap, np, cp⟩ := v
 obtain ⟨As, ns, cs, Ap2, np2, cp2, Ai, ni, ci, Ac, nc, cc, At, nt, ct, Ab, nb, cb⟩ := ev
 simp only at HB0 HCL HR HPL HIL f1 f2 f3 f4 f5 ⊢
 clear hb hk hx h1 htl hbl hpl hil hcl
 by_cases hz : 0 < nt + nb
 · rw [if_pos hz] at HR
   have hzb : decide ((nt : Int) + (nb : Int) > 0) = true := decide_eq_true (by omega)
   clear hz hmf
   go_in
   go_wp2_with fail
   go_ret
   rw [HR.out]
   exact ⟨rfl, HB0.out⟩
 rw [if_neg hz] at HR
 have hzb : decide ((nt : Int) + (nb : Int) > 0) = false := decide_eq_false (by omega)
 clear hz
 by_cases hf : 16 < np2 ∨ 16 < ni ∨ 16 < nc
 · rw [if_pos hf] at HR
   have hsp : (16 < np2) ∨ (¬ 16 < np2 ∧ 16 < ni) ∨ (¬ 16 < np2 ∧ ¬ 16 < ni ∧ 16 < nc) := by omega
   clear hf hmf
   rcases hsp with h | ⟨g1, h⟩ | ⟨g1, g2, h⟩
   case' inl => have d1 : decide ((np2 : Int) > 16) = true := decide_eq_true (by omega)
   case' inr.inl =>
    have d1 : decide ((np2 : Int) > 16) = false := decide_eq_false (by omega)
    have d2 : decide ((ni : Int) > 16) = true := decide_eq_true (by omega)
   case' inr.inr =>
    have d1 : decide ((np2 : Int) > 16) = false := decide_eq_false (by omega)
    have d2 : decide ((ni : Int) > 16) = false := decide_eq_false (by omega)
    have d3 : decide ((nc : Int) > 16) = true := decide_eq_true (by omega)
   all_goals
    go_in
    go_wp2_with fail
    go_ret
    rw [HR.out]
    exact ⟨rfl, HB0.out⟩
 rw [if_neg hf] at HR
 have d1 : decide ((np2 : Int) > 16) = false := decide_eq_false (by omega)
 have d2 : decide ((ni : Int) > 16) = false := decide_eq_false (by omega)
 have d3 : decide ((nc : Int) > 16) = false := decide_eq_false (by omega)
 have hp16 : np2 ≤ 16 := by omega
 have hi16 : ni ≤ 16 := by omega
 clear hf
 have hB3 : Below w.heap.size w (((w.alloc (.cells #[.int .i64 bv, .slice Ao no co, .slice Ae ne ce, .int .i64 bn, .slice Ap np cp, .int .i64 known, .int .i64 (-1)] 84)).alloc (.cells #[.int .i64 1, .slice As ns cs, .slice Ap2 np2 cp2, .slice Ai ni ci, .slice Ac nc cc, .slice At nt ct, .slice Ab nb cb] 62)).alloc (.cells #[.int .i64 (np2 : Int)] 3)) := HB0.out.alloc HB0.out.size _
 have k1 : Blk (((w.alloc (.cells #[.int .i64 bv, .slice Ao no co, .slice Ae ne ce, .int .i64 bn, .slice Ap np cp, .int .i64 known, .int .i64 (-1)] 84)).alloc (.cells #[.int .i64 1, .slice As ns cs, .slice Ap2 np2 cp2, .slice Ai ni ci, .slice Ac nc cc, .slice At nt ct, .slice Ab nb cb] 62)).alloc (.cells #[.int .i64 (np2 : Int)] 3)) w.heap.size 84 #[.int .i64 bv, .slice Ao no co, .slice Ae ne ce, .int .i64 bn, .slice Ap np cp, .int .i64 known, .int .i64 (-1)] := ((Blk.new w 84 #[.int .i64 bv, .slice Ao no co, .slice Ae ne ce, .int .i64 bn, .slice Ap np cp, .int .i64 known, .int .i64 (-1)]).alloc _).alloc _
 have k2 : Blk (((w.alloc (.cells #[.int .i64 bv, .slice Ao no co, .slice Ae ne ce, .int .i64 bn, .slice Ap np cp, .int .i64 known, .int .i64 (-1)] 84)).alloc (.cells #[.int .i64 1, .slice As ns cs, .slice Ap2 np2 cp2, .slice Ai ni ci, .slice Ac nc cc, .slice At nt ct, .slice Ab nb cb] 62)).alloc (.cells #[.int .i64 (np2 : Int)] 3)) (w.heap.size + 1) 62 #[.int .i64 1, .slice As ns cs, .slice Ap2 np2 cp2, .slice Ai ni ci, .slice Ac nc cc, .slice At nt ct, .slice Ab nb cb] := by
  have h := Blk.new (w.alloc (.cells #[.int .i64 bv, .slice Ao no co, .slice Ae ne ce, .int .i64 bn, .slice Ap np cp, .int .i64 known, .int .i64 (-1)] 84)) 62 #[.int .i64 1, .slice As ns cs, .slice Ap2 np2 cp2, .slice Ai ni ci, .slice Ac nc cc, .slice At nt ct, .slice Ab nb cb]
  rw [show (w.alloc (.cells #[.int .i64 bv, .slice Ao no co, .slice Ae ne ce, .int .i64 bn, .slice Ap np cp, .int .i64 known, .int .i64 (-1)] 84)).heap.size = w.heap.size + 1 from by simp] at h
  exact h.alloc _
 have k3 : Blk (((w.alloc (.cells #[.int .i64 bv, .slice Ao no co, .slice Ae ne ce, .int .i64 bn, .slice Ap np cp, .int .i64 known, .int .i64 (-1)] 84)).alloc (.cells #[.int .i64 1, .slice As ns cs, .slice Ap2 np2 cp2, .slice Ai ni ci, .slice Ac nc cc, .slice At nt ct, .slice Ab nb cb] 62)).alloc (.cells #[.int .i64 (np2 : Int)] 3)) (w.heap.size + 1 + 1) 3 #[.int .i64 (np2 : Int)] := by
  have h := Blk.new ((w.alloc (.cells #[.int .i64 bv, .slice Ao no co, .slice Ae ne ce, .int .i64 bn, .slice Ap np cp, .int .i64 known, .int .i64 (-1)] 84)).alloc (.cells #[.int .i64 1, .slice As ns cs, .slice Ap2 np2 cp2, .slice Ai ni ci, .slice Ac nc cc, .slice At nt ct, .slice Ab nb cb] 62)) 3 #[.int .i64 (np2 : Int)]
  rw [show ((w.alloc (.cells #[.int .i64 bv, .slice Ao no co, .slice Ae ne ce, .int .i64 bn, .slice Ap np cp, .int .i64 known, .int .i64 (-1)] 84)).alloc (.cells #[.int .i64 1, .slice As ns cs, .slice Ap2 np2 cp2, .slice Ai ni ci, .slice Ac nc cc, .slice At nt ct, .slice Ab nb cb] 62)).heap.size = w.heap.size + 1 + 1 from by simp] at h
  exact h
 have hs3 : (((w.alloc (.cells #[.int .i64 bv, .slice Ao no co, .slice Ae ne ce, .int .i64 bn, .slice Ap np cp, .int .i64 known, .int .i64 (-1)] 84)).alloc (.cells #[.int .i64 1, .slice As ns cs, .slice Ap2 np2 cp2, .slice Ai ni ci, .slice Ac nc cc, .slice At nt ct, .slice Ab nb cb] 62)).alloc (.cells #[.int .i64 (np2 : Int)] 3)).heap.size = w.heap.size + 1 + 1 + 1 := by simp
 have HFIRST := hid (first_any (w := ((((w.alloc (.cells #[.int .i64 bv, .slice Ao no co, .slice Ae ne ce, .int .i64 bn, .slice Ap np cp, .int .i64 known, .int .i64 (-1)] 84)).alloc (.cells #[.int .i64 1, .slice As ns cs, .slice Ap2 np2 cp2, .slice Ai ni ci, .slice Ac nc cc, .slice At nt ct, .slice Ab nb cb] 62)).alloc (.cells #[.int .i64 (np2 : Int)] 3)).alloc (.cells #[(.func (.func 59) #[] #[.pointer (some ⟨w.heap.size, 0, none⟩), .pointer (some ⟨w.heap.size + 1, 0, none⟩)]), (.func (.func 60) #[] #[.pointer (some ⟨w.heap.size + 1, 0, none⟩)]), (.func (.func 62) #[] #[.pointer (some ⟨w.heap.size, 0, none⟩), .pointer (some ⟨w.heap.size + 1, 0, none⟩)]), (.func (.func 64) #[] #[.pointer (some ⟨w.heap.size, 0, none⟩), .pointer (some ⟨w.heap.size + 1, 0, none⟩), .pointer (some ⟨w.heap.size + 1 + 1, 0, none⟩)]), (.func (.func 65) #[] #[.pointer (some ⟨w.heap.size, 0, none⟩), .pointer (some ⟨w.heap.size + 1, 0, none⟩)])] 110))) (b := w.heap.size + 1 + 1 + 1) (off := 0) (n := 5) (c := 5) (fid := fids) (caps := capsE w.heap.size) (es := es) (by simp) HEL.out (by omega) (fun i hi => by
  rw [Nat.zero_add, ← hs3, World.cell?_alloc_new]
  match i, hi with
  | 0, _ => rfl
  | 1, _ => rfl
  | 2, _ => rfl
  | 3, _ => rfl
  | 4, _ => rfl) enters (HCL.out ((((w.alloc (.cells #[.int .i64 bv, .slice Ao no co, .slice Ae ne ce, .int .i64 bn, .slice Ap np cp, .int .i64 known, .int .i64 (-1)] 84)).alloc (.cells #[.int .i64 1, .slice As ns cs, .slice Ap2 np2 cp2, .slice Ai ni ci, .slice Ac nc cc, .slice At nt ct, .slice Ab nb cb] 62)).alloc (.cells #[.int .i64 (np2 : Int)] 3)).alloc (.cells #[(.func (.func 59) #[] #[.pointer (some ⟨w.heap.size, 0, none⟩), .pointer (some ⟨w.heap.size + 1, 0, none⟩)]), (.func (.func 60) #[] #[.pointer (some ⟨w.heap.size + 1, 0, none⟩)]), (.func (.func 62) #[] #[.pointer (some ⟨w.heap.size, 0, none⟩), .pointer (some ⟨w.heap.size + 1, 0, none⟩)]), (.func (.func 64) #[] #[.pointer (some ⟨w.heap.size, 0, none⟩), .pointer (some ⟨w.heap.size + 1, 0, none⟩), .pointer (some ⟨w.heap.size + 1 + 1, 0, none⟩)]), (.func (.func 65) #[] #[.pointer (some ⟨w.heap.size, 0, none⟩), .pointer (some ⟨w.heap.size + 1, 0, none⟩)])] 110)) (by rw [HPL.out]; exact hp16) (by rw [HIL.out]; exact hi16) (hB3.alloc hB3.size _) (k1.alloc _) (k2.alloc _) (by rw [HPL.out]; exact k3.alloc _)))
 have HB4 := hid (hB3.alloc hB3.size (.cells #[(.func (.func 59) #[] #[.pointer (some ⟨w.heap.size, 0, none⟩), .pointer (some ⟨w.heap.size + 1, 0, none⟩)]), (.func (.func 60) #[] #[.pointer (some ⟨w.heap.size + 1, 0, none⟩)]), (.func (.func 62) #[] #[.pointer (some ⟨w.heap.size, 0, none⟩), .pointer (some ⟨w.heap.size + 1, 0, none⟩)]), (.func (.func 64) #[] #[.pointer (some ⟨w.heap.size, 0, none⟩), .pointer (some ⟨w.heap.size + 1, 0, none⟩), .pointer (some ⟨w.heap.size + 1 + 1, 0, none⟩)]), (.func (.func 65) #[] #[.pointer (some ⟨w.heap.size, 0, none⟩), .pointer (some ⟨w.heap.size + 1, 0, none⟩)])] 110))
 generalize firstE es = fe at *
 clear HCL k1 k2 k3 hB3 hs3 HPL HIL
 go_in
 go_wp2_with fail
 refine (HFIRST.out).mono ?_
 rintro e w2 ⟨rfl, hb2⟩
 have HB2 := bto HB4 hb2
 clear hb2
 go_wp2_with fail
 go_ret
 rw [HR.out]
 exact ⟨rfl, HB2.out⟩
theorem bentry_any {w : World} {v : BkVal} {b : Bk} (hb : BookV w v b) (known : Int) (hk : known ≤ b.entries.length) {ev : EnVal} {x : En} (hx : EnC w ev x) :
 Calls Try.prog 37 #[.agg #[.int .i64 b.vars, .slice v.Ao v.no v.co, .slice v.Ae v.ne v.ce, .int .i64 b.nat, .slice v.Ap v.np v.cp, .int .i64 known, .int .i64 (-1)], .agg #[.int .i64 x.kind, .slice ev.As ev.ns ev.cs, .slice ev.Ap ev.np ev.cp, .slice ev.Ai ev.ni ev.ci, .slice ev.Ac ev.nc ev.cc, .slice ev.At ev.nt ev.ct, .slice ev.Ab ev.nb ev.cb]] w (ErrP (entryE b known x) w) := by
 by_cases h1 : x.kind = 1
 · exact entry_fam hb known hk hx h1
 exact entry_def hb known hk hx h1
end
end Go.Proofs.Ytjoddliplahgkaa
