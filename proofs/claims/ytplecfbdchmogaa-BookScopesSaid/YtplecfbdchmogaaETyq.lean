/- The types of families and constructors: IndType; the book's own (book). -/
import Derived.Test.YtplecfbdchmogaaETyp
import Derived.Test.YtplecfbdchmogaaEProgW
namespace Go.Proofs.Ytplecfbdchmogaa
open Go.Lib (hid)
set_option maxHeartbeats 8000000
set_option maxRecDepth 100000
set_option linter.unusedVariables false
set_option linter.unusedSimpArgs false
open Go.RowKit
theorem ctors_16 {b : Bk} {known : Int} {x : En} (hi : x.indices.length ≤ 16) : ∀ cs : List Ct, ctorsE b known x cs = 0 → ∀ c ∈ cs, c.args.length ≤ 16 ∧ c.outs.length ≤ 16
 | [], _, c, h => by cases h
 | c :: r, h, y, hy => by
  simp only [ctorsE] at h
  by_cases h1 : 16 < c.args.length
  · rw [if_pos h1] at h; cases h
  rw [if_neg h1] at h
  by_cases h2 : c.outs.length ≠ x.indices.length
  · rw [if_pos h2] at h; cases h
  rw [if_neg h2] at h
  by_cases h3 : rowsE b known known 1 c.args x.params.length ≠ 0
  · rw [if_pos h3] at h; exact absurd h h3
  rw [if_neg h3] at h
  by_cases h4 : rowsE b known known 0 c.outs ((x.params.length : Int) + c.args.length) ≠ 0
  · rw [if_pos h4] at h; exact absurd h h4
  rw [if_neg h4] at h
  rcases List.mem_cons.1 hy with rfl | hy
  · exact ⟨by omega, by omega⟩
  · exact ctors_16 hi r h y hy
structure Few (x : En) : Prop where
 params : x.params.length ≤ 16
 indices : x.indices.length ≤ 16
 ctors : ∀ c ∈ x.ctors, c.args.length ≤ 16 ∧ c.outs.length ≤ 16
theorem entry_few {b : Bk} {known : Int} {x : En} (h : entryE b known x = 0) (k1 : x.kind = 1) : Few x := by
 unfold entryE at h
 rw [if_pos k1] at h
 by_cases h1 : 0 < x.type.length + x.body.length
 · rw [if_pos h1] at h; cases h
 rw [if_neg h1] at h
 by_cases h2 : 16 < x.params.length ∨ 16 < x.indices.length ∨ 16 < x.ctors.length
 · rw [if_pos h2] at h; cases h
 rw [if_neg h2] at h
 have e5 := firstE_zero _ h (ctorsE b known x x.ctors) (by simp)
 exact ⟨by omega, by omega, ctors_16 (by omega) _ e5⟩
theorem entries_few {b : Bk} : ∀ (es : List En) (i : Nat), entriesE b i es = 0 → ∀ x ∈ es, x.kind = 1 → Few x
 | [], _, _, x, h, _ => by cases h
 | y :: r, i, h, x, hx, hk => by
  simp only [entriesE] at h
  by_cases h1 : entryE b i y ≠ 0
  · rw [if_pos h1] at h; exact absurd h h1
  rw [if_neg h1] at h
  rcases List.mem_cons.1 hx with rfl | hx
  · exact entry_few (Decidable.not_not.1 h1) hk
  · exact entries_few r (i + 1) h x hx hk
theorem right_entE {b : Bk} (hr : rightE b = 0) : entriesE b 0 b.entries = 0 := by
 unfold rightE at hr
 by_cases c1 : (clR b.vars b.orders).1 ≠ 0
 · rw [if_pos c1] at hr; exact absurd hr c1
 rw [if_neg c1] at hr
 by_cases c2 : 64 < b.entries.length
 · rw [if_pos c2] at hr; cases hr
 rw [if_neg c2] at hr
 by_cases c3 : entriesE b 0 b.entries ≠ 0
 · rw [if_pos c3] at hr; exact absurd hr c3
 exact Decidable.not_not.1 c3
theorem fam_zero {b : Bk} {e : Int} (h : famE b e = 0) : rightE b = 0 ∧ 0 ≤ e ∧ e < (b.entries.length : Int) ∧ (entB b e).kind = 1 ∧ Few (entB b e) := by
 unfold famE at h
 by_cases h1 : rightE b ≠ 0
 · rw [if_pos h1] at h; exact absurd h h1
 rw [if_neg h1] at h
 by_cases h2 : e < 0 ∨ (b.entries.length : Int) ≤ e ∨ (entB b e).kind ≠ 1
 · rw [if_pos h2] at h; cases h
 have h3 : (entB b e).kind = 1 := Decidable.not_not.1 fun hh => h2 (.inr (.inr hh))
 have hi : e.toNat < b.entries.length := by omega
 refine ⟨Decidable.not_not.1 h1, by omega, by omega, h3, entries_few _ _ (right_entE (Decidable.not_not.1 h1)) _ ?_ h3⟩
 unfold entB
 rw [List.getD_eq_getElem?_getD, List.getElem?_eq_getElem hi]
 exact List.getElem_mem hi
def bctT (b : Bk) (e k : Int) : List Nd × Int := if famE b e ≠ 0 then ([], famE b e) else if k < 0 ∨ ((entB b e).ctors.length : Int) ≤ k then ([], 1) else ctT b e.toNat k.toNat
def binT (b : Bk) (e : Int) : List Nd × Int := if famE b e ≠ 0 then ([], famE b e) else inT b e.toNat
theorem cind_any {w : World} {v : BkVal} {b : Bk} (hb : BookV w v b) (e : Nat) (he : e < b.entries.length) :
 Calls Try.prog 47 #[.agg #[.int .i64 b.vars, .slice v.Ao v.no v.co, .slice v.Ae v.ne v.ce, .int .i64 b.nat, .slice v.Ap v.np v.cp], .int .i64 (e : Int)] w (RowEPost (inT b e) w) := by
 have hel := hb.entries.len
 have hef := hb.entries.few
 have hen : e < v.ne := by omega
 have hen2 : (e : Int) < (v.ne : Int) := by omega
 have hen3 : decide ((e : Int) < (v.ne : Int)) = true := decide_eq_true hen2
 have hen4 : decide (e < v.ne) = true := decide_eq_true hen
 obtain ⟨bb, off, ea, hlb, u, g0, g1, g2, g3, g4, g5, g6, hec⟩ := hb.entries.at_ hen
 have hx : b.entries.getD e default = entB b (e : Int) := rfl
 rw [hx] at g0 hec
 obtain ⟨res, hres⟩ : ∃ r, r = inT b e := ⟨_, rfl⟩
 rw [← hres]
 have HRES := hid hres
 unfold inT at HRES
 obtain ⟨x, hxx⟩ : ∃ x, x = entB b (e : Int) := ⟨_, rfl⟩
 rw [← hxx] at g0 hec HRES
 obtain ⟨kd, hkd⟩ : ∃ kd, kd = x.kind := ⟨_, rfl⟩
 rw [← hkd] at g0
 have hb2 := below_alloc2 w (.cells #[.int .i64 b.vars, .slice v.Ao v.no v.co, .slice v.Ae v.ne v.ce, .int .i64 b.nat, .slice v.Ap v.np v.cp] 26) (.cells #[.int .i64 kd, .slice u.As u.ns u.cs, .slice u.Ap u.np u.cp, .slice u.Ai u.ni u.ci, .slice u.Ac u.nc u.cc, .slice u.At u.nt u.ct, .slice u.Ab u.nb u.cb] 49)
 have HB2 := hid hb2
 have HK1 : Hid (Blk ((w.alloc (.cells #[.int .i64 b.vars, .slice v.Ao v.no v.co, .slice v.Ae v.ne v.ce, .int .i64 b.nat, .slice v.Ap v.np v.cp] 26)).alloc (.cells #[.int .i64 kd, .slice u.As u.ns u.cs, .slice u.Ap u.np u.cp, .slice u.Ai u.ni u.ci, .slice u.Ac u.nc u.cc, .slice u.At u.nt u.ct, .slice u.Ab u.nb u.cb] 49)) (w.heap.size + 1) 49 #[.int .i64 kd, .slice u.As u.ns u.cs, .slice u.Ap u.np u.cp, .slice u.Ai u.ni u.ci, .slice u.Ac u.nc u.cc, .slice u.At u.nt u.ct, .slice u.Ab u.nb u.cb]) := hid (Blk.new' (by simp))
 have hbd := bind_any (op := 4) (hec.sort.below hb2) (hec.indices.below hb2).rowsR
 obtain ⟨bd, hbq⟩ : ∃ q, q = bindR 4 x.indices x.sort := ⟨_, rfl⟩
 rw [← hbq] at hbd HRES
 obtain ⟨bl, bz⟩ := bd
 have HBD := hid hbd
 have HPR := hid hec.params
 rw [ea] at HB2 HK1 HBD ⊢
 clear hel hb hec hx hres hxx hkd hb2 hbd hbq ea
 go_in
 go_wp2_with fail
 refine (HBD.out).mono ?_
 rintro e8 w8 ⟨hb8, A8b, n8, c8b, rfl, ht8⟩
 have HB8 := bto HB2 hb8
 have HK8 := hid (HK1.out.below hb8 HK1.out.lt)
 have HT8 := hid (ht8.keep (R' := fresh w w8) fun q hq => ⟨⟨Nat.le_trans HB2.out.size hq.1, hq.2⟩, fun _ => rfl⟩)
 clear hb8 ht8
 have y2 := HK8.out.cell
 by_cases hz2 : bz = 0
 rotate_left
 · have dz2 : (bz != 0) = true := by simpa using hz2
   have HR11 : Hid (res = ([], bz)) := hid (HRES.out.trans (if_pos hz2))
   clear hz2
   go_wp2_with fail
   go_ret2
   exact rowE_nil HR11.out HB8.out
 have dz2 : (bz != 0) = false := by rw [hz2]; rfl
 have HR11 : Hid (res = bindR 4 x.params bl) := hid (HRES.out.trans (if_neg (show ¬ (bl, bz).2 ≠ 0 from fun h => h hz2)))
 clear hz2
 have hbd2 := bind_any (op := 4) (HT8.out.keep (R' := (· < w8.heap.size)) fun q hq => ⟨hq.2, fun _ => rfl⟩) (HPR.out.below HB8.out).rowsR
 rw [← HR11.out] at hbd2
 have HBD2 := hid hbd2
 clear hbd2
 obtain ⟨rl, rz⟩ := res
 go_wp2_with fail
 refine (HBD2.out).mono ?_
 rintro e9 w9 ⟨hb9, A9, n9, c9, rfl, ht9⟩
 have HB9 := bto HB8 hb9
 have HT9 := hid (ht9.keep (R' := fresh w w9) fun q hq => ⟨⟨Nat.le_trans HB8.out.size hq.1, hq.2⟩, fun _ => rfl⟩)
 clear hb9 ht9
 go_wp2_with fail
 go_ret2
 exact ⟨HB9.out, A9, n9, c9, rfl, HT9.out⟩
theorem bind5_any {w : World} {v : BkVal} {b : Bk} (hb : BookV w v b) (e : Int) (he1 : -9223372036854775808 ≤ e) (he2 : e ≤ 9223372036854775807) :
 Calls Try.prog 14 #[.agg #[.int .i64 b.vars, .slice v.Ao v.no v.co, .slice v.Ae v.ne v.ce, .int .i64 b.nat, .slice v.Ap v.np v.cp], .int .i64 e] w (RowEPost (binT b e) w) := by
 have hb1 := below_alloc w (.cells #[.int .i64 b.vars, .slice v.Ao v.no v.co, .slice v.Ae v.ne v.ce, .int .i64 b.nat, .slice v.Ap v.np v.cp] 26)
 have HB1 := hid hb1
 have HK1 := hid (Blk.new w 26 #[.int .i64 b.vars, .slice v.Ao v.no v.co, .slice v.Ae v.ne v.ce, .int .i64 b.nat, .slice v.Ap v.np v.cp])
 have HFM := hid (bfamily_any (hb.below hb1) e he1 he2)
 have HBK := hid hb
 obtain ⟨res, hres⟩ : ∃ r, r = binT b e := ⟨_, rfl⟩
 rw [← hres]
 have HRES := hid hres
 obtain ⟨fz, hfz⟩ : ∃ z, z = famE b e := ⟨_, rfl⟩
 have HFZ := hid hfz
 have z0 := HK1.out.cell
 unfold FamP at HFM
 rw [← hfz] at HFM
 have HR1 : Hid (fz ≠ 0 → res = ([], fz)) := hid (fun h => by rw [hres, hfz] ; unfold binT; rw [if_pos (by rw [← hfz]; exact h)])
 clear hb hb1 hres hfz
 go_in
 go_wp2_with fail
 refine (HFM.out).mono ?_
 rintro en w2 ⟨hb2, u, kd, rfl, hq⟩
 have HB2 := bto HB1 hb2
 have HK2 := hid (HK1.out.below hb2 HK1.out.lt)
 have HQ := hid hq
 have hba := below_alloc w2 (.cells #[.int .i64 kd, .slice u.As u.ns u.cs, .slice u.Ap u.np u.cp, .slice u.Ai u.ni u.ci, .slice u.Ac u.nc u.cc, .slice u.At u.nt u.ct, .slice u.Ab u.nb u.cb] 49)
 have HB3 := bto HB2 hba
 have HK3 := hid (HK2.out.below hba HK2.out.lt)
 have HK4 := hid (Blk.new w2 49 #[.int .i64 kd, .slice u.As u.ns u.cs, .slice u.Ap u.np u.cp, .slice u.Ai u.ni u.ci, .slice u.Ac u.nc u.cc, .slice u.At u.nt u.ct, .slice u.Ab u.nb u.cb])
 clear z0 hb2 hq hba
 have z0 := HK3.out.cell
 by_cases hz : fz = 0
 rotate_left
 · have dz : (fz != 0) = true := by simpa using hz
   have HR2 := hid (HR1.out hz)
   clear hz
   go_wp2_with fail
   go_ret2
   exact rowE_nil HR2.out HB3.out
 have dz : (fz != 0) = false := by rw [hz]; rfl
 obtain ⟨hk1, hec⟩ := HQ.out hz
 obtain ⟨q1, q2, q3, q4, q5⟩ := fam_zero (HFZ.out.symm.trans hz)
 have HEC := hid hec
 have hfe : ¬ (famE b e ≠ 0) := fun h => h (HFZ.out.symm.trans hz)
 obtain ⟨i, rfl⟩ : ∃ i : Nat, e = (i : Int) := ⟨e.toNat, by omega⟩
 have hin : i < b.entries.length := by omega
 have hnl := hec.ctors.len
 have hnf := hec.ctors.few
 subst hk1
 have hc := cind_any (HBK.out.below HB3.out) i hin
 have HR2 : Hid (res = inT b i) := hid (by rw [HRES.out]; unfold binT; rw [if_neg hfe]; rfl)
 rw [← HR2.out] at hc
 have HC := hid hc
 clear hz hec q1 q2 q3 q4 q5 hfe hin hc hnl hnf
 obtain ⟨rl, rz⟩ := res
 go_wp2_with fail
 refine (HC.out).mono ?_
 rintro e9 w9 ⟨hb9, A9, n9, c9, rfl, ht9⟩
 have HB9 := bto HB3 hb9
 have HT9 := hid (ht9.keep (R' := fresh w w9) fun q hq => ⟨⟨Nat.le_trans HB3.out.size hq.1, hq.2⟩, fun _ => rfl⟩)
 clear hb9 ht9
 go_wp2_with fail
 go_ret2
 exact ⟨HB9.out, A9, n9, c9, rfl, HT9.out⟩
theorem bctor_any {w : World} {v : BkVal} {b : Bk} (hb : BookV w v b) (e k : Int) (he1 : -9223372036854775808 ≤ e) (he2 : e ≤ 9223372036854775807) :
 Calls Try.prog 15 #[.agg #[.int .i64 b.vars, .slice v.Ao v.no v.co, .slice v.Ae v.ne v.ce, .int .i64 b.nat, .slice v.Ap v.np v.cp], .int .i64 e, .int .i64 k] w (RowEPost (bctT b e k) w) := by
 have hb1 := below_alloc w (.cells #[.int .i64 b.vars, .slice v.Ao v.no v.co, .slice v.Ae v.ne v.ce, .int .i64 b.nat, .slice v.Ap v.np v.cp] 26)
 have HB1 := hid hb1
 have HK1 := hid (Blk.new w 26 #[.int .i64 b.vars, .slice v.Ao v.no v.co, .slice v.Ae v.ne v.ce, .int .i64 b.nat, .slice v.Ap v.np v.cp])
 have HFM := hid (bfamily_any (hb.below hb1) e he1 he2)
 have HBK := hid hb
 obtain ⟨res, hres⟩ : ∃ r, r = bctT b e k := ⟨_, rfl⟩
 rw [← hres]
 have HRES := hid hres
 obtain ⟨fz, hfz⟩ : ∃ z, z = famE b e := ⟨_, rfl⟩
 have HFZ := hid hfz
 have z0 := HK1.out.cell
 unfold FamP at HFM
 rw [← hfz] at HFM
 have HR1 : Hid (fz ≠ 0 → res = ([], fz)) := hid (fun h => by rw [hres, hfz] ; unfold bctT; rw [if_pos (by rw [← hfz]; exact h)])
 clear hb hb1 hres hfz
 go_in
 go_wp2_with fail
 refine (HFM.out).mono ?_
 rintro en w2 ⟨hb2, u, kd, rfl, hq⟩
 have HB2 := bto HB1 hb2
 have HK2 := hid (HK1.out.below hb2 HK1.out.lt)
 have HQ := hid hq
 have hba := below_alloc w2 (.cells #[.int .i64 kd, .slice u.As u.ns u.cs, .slice u.Ap u.np u.cp, .slice u.Ai u.ni u.ci, .slice u.Ac u.nc u.cc, .slice u.At u.nt u.ct, .slice u.Ab u.nb u.cb] 49)
 have HB3 := bto HB2 hba
 have HK3 := hid (HK2.out.below hba HK2.out.lt)
 have HK4 := hid (Blk.new w2 49 #[.int .i64 kd, .slice u.As u.ns u.cs, .slice u.Ap u.np u.cp, .slice u.Ai u.ni u.ci, .slice u.Ac u.nc u.cc, .slice u.At u.nt u.ct, .slice u.Ab u.nb u.cb])
 clear z0 hb2 hq hba
 have z0 := HK3.out.cell
 by_cases hz : fz = 0
 rotate_left
 · have dz : (fz != 0) = true := by simpa using hz
   have HR2 := hid (HR1.out hz)
   clear hz
   go_wp2_with fail
   go_ret2
   exact rowE_nil HR2.out HB3.out
 have dz : (fz != 0) = false := by rw [hz]; rfl
 obtain ⟨hk1, hec⟩ := HQ.out hz
 obtain ⟨q1, q2, q3, q4, q5⟩ := fam_zero (HFZ.out.symm.trans hz)
 have HEC := hid hec
 have hfe : ¬ (famE b e ≠ 0) := fun h => h (HFZ.out.symm.trans hz)
 obtain ⟨i, rfl⟩ : ∃ i : Nat, e = (i : Int) := ⟨e.toNat, by omega⟩
 have hin : i < b.entries.length := by omega
 have hnl := hec.ctors.len
 have hnf := hec.ctors.few
 subst hk1
 by_cases hk0 : k < 0
 · have d1 : decide (k < 0) = true := decide_eq_true hk0
   have HR2 : Hid (res = ([], 1)) := hid (by rw [HRES.out]; unfold bctT; rw [if_neg hfe, if_pos (Or.inl hk0)])
   clear hz hec q1 q2 q3 q4 q5 hfe hin hnl hnf hk0
   go_wp2_with fail
   go_ret2
   exact rowE_nil HR2.out HB3.out
 have d1 : decide (k < 0) = false := decide_eq_false hk0
 obtain ⟨j, rfl⟩ : ∃ j : Nat, k = (j : Int) := ⟨k.toNat, by omega⟩
 by_cases hk2 : u.nc ≤ j
 · have d2 : decide ((j : Int) ≥ (u.nc : Int)) = true := decide_eq_true (by omega)
   have d3 : decide ((u.nc : Int) ≤ (j : Int)) = true := decide_eq_true (by omega)
   have d4 : decide (u.nc ≤ j) = true := decide_eq_true hk2
   have HR2 : Hid (res = ([], 1)) := hid (by rw [HRES.out]; unfold bctT; rw [if_neg hfe, if_pos (Or.inr (by omega))])
   clear hz hec q1 q2 q3 q4 q5 hfe hin hnl hnf hk0 hk2
   go_wp2_with fail
   go_ret2
   exact rowE_nil HR2.out HB3.out
 have d2 : decide ((j : Int) ≥ (u.nc : Int)) = false := decide_eq_false (by omega)
 have d3 : decide ((u.nc : Int) ≤ (j : Int)) = false := decide_eq_false (by omega)
 have d4 : decide (u.nc ≤ j) = false := decide_eq_false hk2
 have hjn : j < (entB b (i : Int)).ctors.length := by omega
 have hmem : (entB b (i : Int)).ctors.getD j default ∈ (entB b (i : Int)).ctors := by
  rw [List.getD_eq_getElem?_getD, List.getElem?_eq_getElem hjn]
  exact List.getElem_mem hjn
 have hcf := q5.ctors _ hmem
 have hc := cctor_any (HBK.out.below HB3.out) i j hin hjn q5.params hcf.1 hcf.2
 have HR2 : Hid (res = ctT b i j) := hid (by rw [HRES.out]; unfold bctT; rw [if_neg hfe, if_neg (by omega)]; rfl)
 rw [← HR2.out] at hc
 have HC := hid hc
 clear hz hec q1 q2 q3 q4 q5 hfe hin hc hnl hnf hk0 hk2 hjn hmem hcf
 obtain ⟨rl, rz⟩ := res
 go_wp2_with fail
 refine (HC.out).mono ?_
 rintro e9 w9 ⟨hb9, A9, n9, c9, rfl, ht9⟩
 have HB9 := bto HB3 hb9
 have HT9 := hid (ht9.keep (R' := fresh w w9) fun q hq => ⟨⟨Nat.le_trans HB3.out.size hq.1, hq.2⟩, fun _ => rfl⟩)
 clear hb9 ht9
 go_wp2_with fail
 go_ret2
 exact ⟨HB9.out, A9, n9, c9, rfl, HT9.out⟩
end Go.Proofs.Ytplecfbdchmogaa
