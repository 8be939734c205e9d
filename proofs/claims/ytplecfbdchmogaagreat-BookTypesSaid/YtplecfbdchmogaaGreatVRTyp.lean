/- The types of families and constructors: the reference. -/
import Derived.Test.YtplecfbdchmogaaGreatVShort2
import Derived.Test.YtplecfbdchmogaaGreatVTyP
import Derived.Test.YtplecfbdchmogaaGreatVRefBindT
import Derived.Test.YtplecfbdchmogaaGreatVRefRi
namespace Go.Proofs.YtplecfbdchmogaaGreat
open Go.Lib (hid)
set_option maxHeartbeats 8000000
set_option maxRecDepth 100000
set_option linter.unusedVariables false
set_option linter.unusedSimpArgs false
open Go.RowKit
theorem rfvars_any {w : World} (n fr : Nat) (hn : n ≤ 1000) (hf : fr ≤ 1000) :
 Calls Tryz.prog 67 #[.int .i64 ((n : Int) + (fr : Int) - 1), .int .i64 (fr : Int)] w (OwnRs (varsL n fr) w) := by
 obtain ⟨i0, hi, hy0, hy1, hy2⟩ := info_parts infoR
 have HI0 := hid hi
 have HY0 := hid hy0
 have HY1 := hid hy1
 have HY2 := hid hy2
 clear hi hy0 hy1 hy2
 go_in
 go_wp2_with fail
 go_loopw [5, 6] (fun ov iv wr => ∃ (k d : Nat) (B : Option Addr) (vs : List Value) (z : Int), ov = .slice B k d ∧ iv = .int .i64 z ∧ k ≤ n ∧ -1 ≤ z ∧ z ≤ 2000 ∧ Hid (z = (n : Int) + (fr : Int) - 1 - k) ∧ Hid (wr.ownsRow w.heap.size 28 1 (.slice B k d) k vs) ∧ Hid (RowsC (Aside w.heap.size wr (.slice B k d)) wr vs ((varsL n fr).take k)) ∧ Hid (Below w.heap.size w wr)) (fun _ iv _ => (intOf iv + 1).toNat)
 case atStart => exact ⟨0, 0, none, [], (n : Int) + (fr : Int) - 1, rfl, rfl, by omega, by omega, by omega, hid (by omega), hid (World.ownsRow_nil _ _ _ _), hid trivial, hid (Below.refl _ _)⟩
 case round =>
  obtain ⟨k, d, B, vs, z, rfl, rfl, hk, hz1, hz2, HZ, HO, HR, HB⟩ := hrel
  have HSZ := hid HB.out.size
  by_cases hlt : (fr : Int) ≤ z
  rotate_left
  · have d1 : decide (z ≥ (fr : Int)) = false := decide_eq_false hlt
    have d2 : decide ((fr : Int) ≤ z) = false := decide_eq_false hlt
    obtain rfl : k = n := by have := HZ.out; omega
    have HR2 : Hid (RowsC (Aside w.heap.size wr (.slice B k d)) wr vs (varsL k fr)) := hid (by
     have h := HR.out
     rwa [List.take_of_length_le (by rw [varsL_len]; exact Nat.le_refl _)] at h)
    clear hlt
    go_wp2_with fail
    go_ret
    refine ⟨HB.out, B, d, vs, ?_, ?_, ?_⟩
    · rw [varsL_len]; rfl
    · rw [varsL_len]; exact HO.out
    rw [varsL_len]; exact HR2.out
  have d1 : decide (z ≥ (fr : Int)) = true := decide_eq_true hlt
  have d2 : decide ((fr : Int) ≤ z) = true := decide_eq_true hlt
  have hkn : k < n := by have := HZ.out; omega
  have hba := below_alloc wr (.cells #[.int .i64 1, .int .i64 (z), .int .i64 0] 53)
  have HBA := hid hba
  have HBK := hid (Blk.new wr 53 #[.int .i64 1, .int .i64 (z), .int .i64 0])
  have HO2 := hid (World.ownsRow.alloc HO.out (.cells #[.int .i64 1, .int .i64 (z), .int .i64 0] 53))
  have HTK := hid (varsL_take (fr := fr) hkn)
  have HZE : Hid (((fr + (n - 1 - k) : Nat) : Int) = z) := hid (by have := HZ.out; omega)
  have HSZ2 : Hid (w.heap.size ≤ (wr.alloc (.cells #[.int .i64 1, .int .i64 (z), .int .i64 0] 53)).heap.size) := hid (Nat.le_trans HSZ.out hba.size)
  clear hba
  go_wp2_with (at_builtin; go_loud (refine wpList_oper rfl (oper_append_one (.tmp 13) (.tmp 17) 54 28 rfl w.heap.size i0 _ 24 Tryz.underlying54 HI0.out HY0.out HY1.out HY2.out rfl (by decide) (.slice B k d) k vs (.slice (some ⟨wr.heap.size, 0, none⟩) 1 1) rfl (wr.alloc (.cells #[.int .i64 1, .int .i64 (z), .int .i64 0] 53)) rfl rfl HO2.out _ rfl (by simp) (by omega) HSZ2.out ?_)); intro A8 c8 w8 happ; have HAPP := hid happ; clear happ)
  go_roundw
  case rel =>
   have hcell := HBK.out.cell
   have ht : TermR (fun q => q = wr.heap.size) (wr.alloc (.cells #[.int .i64 1, .int .i64 (z), .int .i64 0] 53)) (some ⟨wr.heap.size, 0, none⟩) 1 1 [⟨1, z, 0⟩] := ⟨rfl, Nat.le_refl _, by decide, (fun e => by cases e), fun _ => ⟨wr.heap.size, 0, rfl, rfl, fun j hj => by
    obtain rfl : j = 0 := by simp at hj; omega
    exact ⟨hcell 0, hcell 1, hcell 2⟩⟩⟩
   have hnx := aside_next (w5 := wr) HBA.out HAPP.out
   have hne : (Value.slice B k d).ownBlock ≠ some wr.heap.size := fun e => by have := (ownsRow_block HO.out e).2.1; omega
   refine ⟨k + 1, c8, A8, vs ++ [.slice (some ⟨wr.heap.size, 0, none⟩) 1 1], z - 1, rfl, rfl, by omega, by omega, by omega, hid (by have := HZ.out; omega), hid HAPP.out.own, hid ?_, hid ((HB.out.trans (HBA.out.mono HB.out.size)).grown HAPP.out.grown HSZ2.out (fun g hg => (ownsRow_block HO2.out hg).1))⟩
   rw [HTK.out, HZE.out]
   refine RowsC.add (ht.keep fun q hq => ?_) (RowsC.keep hnx HR.out)
   subst hq
   have hgr := HAPP.out.grown
   refine ⟨⟨HSZ.out, Nat.lt_of_lt_of_le HBK.out.lt hgr.size, fun e => ?_⟩, fun o => cell_of_heap (hgr.block _ HBK.out.lt (fun e => hne e.symm)) o⟩
   rcases HAPP.out.new _ e with h | h
   · exact hne h
   simp at h; omega
  case measure => simp [intOf]; omega
theorem own_nilR {W : World} {g base : Nat} (hg : g = W.heap.size) (hb : base ≤ W.heap.size) : (W.alloc (.cells #[] 28)).drew.ownsRow base 28 1 (.slice (some ⟨g, 0, none⟩) 0 0) 0 [] := by
 subst hg
 exact (show (W.alloc (.cells #[] 28)).ownsRow _ _ _ _ _ _ from World.ownsRow_made W #[] 0 hb (Nat.zero_le _) rfl)
theorem fam_ref {b : Bk} {e : Int} (hr : rightE b = 0) : famE b e = if (decide (0 ≤ e) && famB b b.entries.length e) = true then 0 else 1 := by
 unfold famE famB
 rw [if_neg (by simp [hr])]
 by_cases h : e < 0 ∨ (b.entries.length : Int) ≤ e ∨ (entB b e).kind ≠ 1
 · rw [if_pos h, if_neg]
   simp only [Bool.and_eq_true, decide_eq_true_eq, beq_iff_eq]
   rintro ⟨h1, h2, h3⟩
   rcases h with h | h | h
   · omega
   · omega
   exact h h3
 rw [if_neg h, if_pos]
 simp only [Bool.and_eq_true, decide_eq_true_eq, beq_iff_eq]
 exact ⟨by omega, by omega, Decidable.not_not.1 fun hh => h (.inr (.inr hh))⟩
theorem rfind_any {w : World} {v : BkVal} {b : Bk} (hb : BookV w v b) (e : Int) (he1 : -9223372036854775808 ≤ e) (he2 : e ≤ 9223372036854775807) :
 Calls Tryz.prog 20 #[.agg #[.int .i64 b.vars, .slice v.Ao v.no v.co, .slice v.Ae v.ne v.ce, .int .i64 b.nat, .slice v.Ap v.np v.cp], .int .i64 e] w (RowEPost (rinT b e) w) := by
 obtain ⟨i0, hi, hy0, hy1, hy2⟩ := info_parts infoR
 have HI0 := hid hi
 have HY0 := hid hy0
 have HY1 := hid hy1
 have HY2 := hid hy2
 have hb1 := below_alloc w (.cells #[.int .i64 b.vars, .slice v.Ao v.no v.co, .slice v.Ae v.ne v.ce, .int .i64 b.nat, .slice v.Ap v.np v.cp] 26)
 have HB1 := hid hb1
 have HK1 := hid (Blk.new w 26 #[.int .i64 b.vars, .slice v.Ao v.no v.co, .slice v.Ae v.ne v.ce, .int .i64 b.nat, .slice v.Ap v.np v.cp])
 have HRT := hid (refRight_any (hb.below hb1))
 have hlen := hb.entries.len
 have hefew := hb.entries.few
 have HFA := hid (fun (w' : World) (h : Below w.heap.size w w') => refFamily_any (hb.below h) e (v.ne : Int) (by omega))
 have HBK := hid hb
 obtain ⟨res, hres⟩ : ∃ r, r = rinT b e := ⟨_, rfl⟩
 rw [← hres]
 have HRES := hid hres
 obtain ⟨rz, hrz⟩ : ∃ z, z = rightE b := ⟨_, rfl⟩
 rw [← hrz] at HRT
 have HRZ := hid hrz
 obtain ⟨fb, hfb⟩ : ∃ q, q = (decide (0 ≤ e) && famB b (v.ne : Int) e) := ⟨_, rfl⟩
 have HFB := hid hfb
 have HFA2 : Hid (∀ w', Below w.heap.size w w' → Calls Tryz.prog 32 #[.agg #[.int .i64 b.vars, .slice v.Ao v.no v.co, .slice v.Ae v.ne v.ce, .int .i64 b.nat, .slice v.Ap v.np v.cp], .int .i64 e, .int .i64 (v.ne : Int)] w' (BoolP fb w')) := hid (fun w' h => by rw [hfb]; exact HFA.out w' h)
 have HF1 : Hid (rz ≠ 0 → famE b e = rz) := hid (fun h => by unfold famE; rw [if_pos (by rw [← hrz]; exact h), ← hrz])
 have HF2 : Hid (rz = 0 → famE b e = if fb = true then 0 else 1) := hid (fun h => by rw [hfb, ← hlen]; exact fam_ref (by rw [← hrz]; exact h))
 have HLEN := hid hlen
 have z0 := HK1.out.cell
 clear hb hb1 hres hrz hfb hi hy0 hy1 hy2 HFA hlen
 go_in
 go_wp2_with fail
 refine (HRT.out).mono ?_
 rintro en w2 ⟨rfl, hb2⟩
 have HB2 := bto HB1 hb2
 have HK2 := hid (HK1.out.below hb2 HK1.out.lt)
 clear z0 hb2
 have z0 := HK2.out.cell
 by_cases hr : rz = 0
 rotate_left
 · have hd : (rz != 0) = true := by simpa using hr
   have HR2 : Hid (res = ([], rz)) := hid (by rw [HRES.out]; unfold rinT; rw [if_pos (by rw [HF1.out hr]; exact hr), HF1.out hr])
   clear hr
   go_wp2_with fail
   go_ret2
   exact rowE_nil HR2.out HB2.out
 have hd : (rz != 0) = false := by rw [hr]; rfl
 have HF3 := hid (HF2.out hr)
 clear hr
 go_wp2_with fail
 refine (HFA2.out _ HB2.out).mono ?_
 rintro en w3 ⟨rfl, hb3⟩
 have HB3 := bto HB2 hb3
 have HK3 := hid (HK2.out.below hb3 HK2.out.lt)
 clear z0 hb3
 have z0 := HK3.out.cell
 cases fb
 · have HR2 : Hid (res = ([], 1)) := hid (by have h9 : famE b e = 1 := HF3.out.trans (if_neg (by decide)); rw [HRES.out]; unfold rinT; rw [if_pos (by rw [h9]; decide), h9])
   go_wp2_with fail
   go_ret2
   exact rowE_nil HR2.out HB3.out
 have HFZ : Hid (famE b e = 0) := hid (HF3.out.trans (if_pos rfl))
 obtain ⟨q1, q2, q3, q4, q5⟩ := fam_zero HFZ.out
 have hfe : ¬ (famE b e ≠ 0) := fun h => h HFZ.out
 obtain ⟨i, rfl⟩ : ∃ i : Nat, e = (i : Int) := ⟨e.toNat, by omega⟩
 have hlen := HLEN.out
 have hin : i < v.ne := by omega
 have hin2 : (i : Int) < (v.ne : Int) := by omega
 have d4 : decide (i < v.ne) = true := decide_eq_true hin
 have d5 : decide ((i : Int) < (v.ne : Int)) = true := decide_eq_true hin2
 obtain ⟨bb, off, ea, hlb, u, c0, c1, c2, c3, c4, c5, c6, hec⟩ := HBK.out.entries.at_ hin
 rw [ea] at z0 ⊢
 have hx : b.entries.getD i default = entB b (i : Int) := rfl
 rw [hx] at c0 hec
 obtain ⟨x, hxx⟩ : ∃ x, x = entB b (i : Int) := ⟨_, rfl⟩
 have HXX := hid hxx
 rw [← hxx] at c0 hec q5
 obtain ⟨kd, hkd⟩ : ∃ kd, kd = x.kind := ⟨_, rfl⟩
 rw [← hkd] at c0
 have k0 := (HB3.out.cell (p := ⟨bb, off + i * 7, none⟩) hlb).trans c0
 have k1 := (HB3.out.cell (p := ⟨bb, off + i * 7 + 1, none⟩) hlb).trans c1
 have k2 := (HB3.out.cell (p := ⟨bb, off + i * 7 + 2, none⟩) hlb).trans c2
 have k3 := (HB3.out.cell (p := ⟨bb, off + i * 7 + 3, none⟩) hlb).trans c3
 have k4 := (HB3.out.cell (p := ⟨bb, off + i * 7 + 4, none⟩) hlb).trans c4
 have k5 := (HB3.out.cell (p := ⟨bb, off + i * 7 + 5, none⟩) hlb).trans c5
 have k6 := (HB3.out.cell (p := ⟨bb, off + i * 7 + 6, none⟩) hlb).trans c6
 have hnp := hec.params.len
 have hni := hec.indices.len
 have hnc := hec.ctors.len
 have hncf := hec.ctors.few
 have hp16 := q5.params
 have hi16 := q5.indices
 have HPR := hid hec.params
 have HIN := hid hec.indices
 have HSO := hid hec.sort
 have HCT := hid hec.ctors
 have HQ5 := hid q5
 have hnp2 : u.np ≤ 16 := by omega
 have hni2 : u.ni ≤ 16 := by omega
 clear hkd c0 c1 c2 c3 c4 c5 c6 ea hxx hx q1 q2 q3 q4 q5
 have HR2 : Hid (res = bindR 4 (x.params ++ x.indices) x.sort) := hid (by rw [HRES.out, HXX.out]; unfold rinT; rw [if_neg hfe])
 clear hec hfe hin
 have HB4 := hid (HB3.out.alloc HB3.out.size (.cells #[.int .i64 kd, .slice u.As u.ns u.cs, .slice u.Ap u.np u.cp, .slice u.Ai u.ni u.ci, .slice u.Ac u.nc u.cc, .slice u.At u.nt u.ct, .slice u.Ab u.nb u.cb] 57))
 have HK4 : Hid (Blk (w3.alloc (.cells #[.int .i64 kd, .slice u.As u.ns u.cs, .slice u.Ap u.np u.cp, .slice u.Ai u.ni u.ci, .slice u.Ac u.nc u.cc, .slice u.At u.nt u.ct, .slice u.Ab u.nb u.cb] 57)) w3.heap.size 57 #[.int .i64 kd, .slice u.As u.ns u.cs, .slice u.Ap u.np u.cp, .slice u.Ai u.ni u.ci, .slice u.Ac u.nc u.cc, .slice u.At u.nt u.ct, .slice u.Ab u.nb u.cb]) := hid (Blk.new w3 57 #[.int .i64 kd, .slice u.As u.ns u.cs, .slice u.Ap u.np u.cp, .slice u.Ai u.ni u.ci, .slice u.Ac u.nc u.cc, .slice u.At u.nt u.ct, .slice u.Ab u.nb u.cb])
 have HK4d := hid (blk_drew HK4.out)
 go_wp2_with fail
 have HBA : Hid (Below w.heap.size w (((w3.alloc (.cells #[.int .i64 kd, .slice u.As u.ns u.cs, .slice u.Ap u.np u.cp, .slice u.Ai u.ni u.ci, .slice u.Ac u.nc u.cc, .slice u.At u.nt u.ct, .slice u.Ab u.nb u.cb] 57)).alloc (.cells #[] 28)).drew)) := hid (below_drew (HB4.out.alloc HB4.out.size _))
 have HOA : Hid ((((w3.alloc (.cells #[.int .i64 kd, .slice u.As u.ns u.cs, .slice u.Ap u.np u.cp, .slice u.Ai u.ni u.ci, .slice u.Ac u.nc u.cc, .slice u.At u.nt u.ct, .slice u.Ab u.nb u.cb] 57)).alloc (.cells #[] 28)).drew).ownsRow (w3.heap.size + 1) 28 1 (.slice (some ⟨w3.heap.size + 1, 0, none⟩) 0 0) 0 []) := hid (own_nilR (by simp) (by simp))
 have HLO : Hid (w.heap.size ≤ w3.heap.size + 1) := hid (by have := HB4.out.size; simpa using this)
 have HKEA : Hid (Blk (((w3.alloc (.cells #[.int .i64 kd, .slice u.As u.ns u.cs, .slice u.Ap u.np u.cp, .slice u.Ai u.ni u.ci, .slice u.Ac u.nc u.cc, .slice u.At u.nt u.ct, .slice u.Ab u.nb u.cb] 57)).alloc (.cells #[] 28)).drew) _ _ _) := hid (blk_drew (Blk.alloc HK4.out _))
 refine wp_region_held_drew (S := (fun w' => w'.cell? ⟨w3.heap.size, 2, none⟩ = some (.slice u.Ap u.np u.cp) ∧ w'.cell? ⟨w3.heap.size, 3, none⟩ = some (.slice u.Ai u.ni u.ci))) (by kernel_rfl) ?_ (fun hHeld => ?_)
 · (try dsimp only); exact ⟨HK4d.out.cell 2, HK4d.out.cell 3⟩
 refine tq 1 hHeld ?_
 try simp only [p7]
 refine tq 2 hHeld ?_
 try simp only [p7]
 refine tq 4 hHeld ?_
 try simp only [p7]
 refine tq 5 hHeld ?_
 try simp only [p7]
 refine r1 0 fun K hK => ?_
 go_simp
 refine hK.out _ _ (by exact ⟨HKEA.out.cell 2, HKEA.out.cell 3⟩) fun hHeld => ?_
 clear hK K
 try simp only [p7]
 refine r1 3 fun K hK => ?_
 obtain ⟨xs1, hxl, hxc, hxr, hx1⟩ := ((HPR.out.rowsR).keep (R' := (· < w.heap.size)) (w' := ((w3.alloc (.cells #[.int .i64 kd, .slice u.As u.ns u.cs, .slice u.Ap u.np u.cp, .slice u.Ai u.ni u.ci, .slice u.Ac u.nc u.cc, .slice u.At u.nt u.ct, .slice u.Ab u.nb u.cb] 57)).alloc (.cells #[] 28)).drew) (fun q hq => ⟨hq, fun o => HBA.out.cell (p := ⟨q, o, none⟩) hq⟩)).values
 have HXL1 := hid hxl
 have HXC1 := hid hxc
 have HXR1 := hid hxr
 have HX11 := hid hx1
 clear hxl hxc hxr hx1
 have hsz1 : (w3.heap.size + 1) ≤ (((w3.alloc (.cells #[.int .i64 kd, .slice u.As u.ns u.cs, .slice u.Ap u.np u.cp, .slice u.Ai u.ni u.ci, .slice u.Ac u.nc u.cc, .slice u.At u.nt u.ct, .slice u.Ab u.nb u.cb] 57)).alloc (.cells #[] 28)).drew).heap.size := by simp
 refine oper_append_all (.tmp 26) (.tmp 28) 54 rfl (w3.heap.size + 1) 28 i0 _ 1 24 Tryz.underlying54 HI0.out HY0.out HY1.out HY2.out rfl (by decide) (some ⟨(w3.heap.size + 1), 0, none⟩) 0 0 [] rfl HOA.out u.Ap u.np u.cp xs1 rfl (by rw [HXL1.out, Nat.mul_one]) (fun e9 => by have := HPR.out.mem; rw [e9] at this; by_cases h9 : 0 < u.np; (obtain ⟨b9, o9, e8, _⟩ := this h9; cases e8); omega) HXC1.out HX11.out (by unfold maxLen; omega) (by omega) hsz1 ?_
 intro A7a c7a w7a happ
 rw [Nat.zero_add, List.nil_append] at happ
 rw [Nat.zero_add]
 have HBP := hid (HBA.out.grown happ.grown HBA.out.size (fun g hg => Nat.le_trans HLO.out ((ownsRow_block HOA.out hg).1)))
 have HKEP := hid (HKEA.out.grown happ.grown (own_ne HOA.out (by have := HK4.out.lt; omega)))
 have HOP := hid happ.own
 have HSP : Hid ((w3.heap.size + 1) ≤ w7a.heap.size) := hid (Nat.le_trans hsz1 happ.grown.size)
 have HXP : Hid (RowsC (· < w.heap.size) w7a xs1 (x.params)) := hid (RowsC.keep (fun q hq => ⟨hq, fun o => cell_of_heap (happ.grown.block q (Nat.lt_of_lt_of_le hq HBA.out.size) (own_ne HOA.out (Nat.lt_of_lt_of_le hq HLO.out))) o⟩) HXR1.out)
 clear happ
 refine hK.out _ _ (by exact ⟨HKEP.out.cell 2, HKEP.out.cell 3⟩) fun hHeld => ?_
 clear hK K
 try simp only [p7]
 refine r1 6 fun K hK => ?_
 obtain ⟨xs2, hxl, hxc, hxr, hx1⟩ := ((HIN.out.rowsR).keep (R' := (· < w.heap.size)) (w' := w7a) (fun q hq => ⟨hq, fun o => HBP.out.cell (p := ⟨q, o, none⟩) hq⟩)).values
 have HXL2 := hid hxl
 have HXC2 := hid hxc
 have HXR2 := hid hxr
 have HX12 := hid hx1
 clear hxl hxc hxr hx1
 refine oper_append_all (.tmp 29) (.tmp 31) 54 rfl (w3.heap.size + 1) 28 i0 _ 1 24 Tryz.underlying54 HI0.out HY0.out HY1.out HY2.out rfl (by decide) A7a u.np c7a xs1 rfl HOP.out u.Ai u.ni u.ci xs2 rfl (by rw [HXL2.out, Nat.mul_one]) (fun e9 => by have := HIN.out.mem; rw [e9] at this; by_cases h9 : 0 < u.ni; (obtain ⟨b9, o9, e8, _⟩ := this h9; cases e8); omega) HXC2.out HX12.out (by unfold maxLen; omega) (by omega) HSP.out ?_
 intro A7b c7b w7b happ
 have HBQ := hid (HBP.out.grown happ.grown HBP.out.size (fun g hg => Nat.le_trans HLO.out ((ownsRow_block HOP.out hg).1)))
 have HKEQ := hid (HKEP.out.grown happ.grown (own_ne HOP.out (by have := HK4.out.lt; omega)))
 have HROW : Hid (RowsR (· < w7b.heap.size) w7b A7b (u.np + u.ni) c7b (x.params ++ x.indices)) := hid (own_rowsQ (S := (· < w.heap.size)) happ.own (by rw [List.length_append, HPR.out.len, HIN.out.len]) (by omega) (RowsC.keep (fun q hq => ⟨hq, fun o => cell_of_heap (happ.grown.block q (Nat.lt_of_lt_of_le hq HBP.out.size) (own_ne HOP.out (Nat.lt_of_lt_of_le hq HLO.out))) o⟩) (HXP.out.append HXR2.out)) (fun q hq => Nat.lt_of_lt_of_le hq HBQ.out.size) (fun g hg => (ownsRow_block happ.own hg).2.1))
 clear happ
 refine hK.out _ _ (by exact ⟨HKEQ.out.cell 2, HKEQ.out.cell 3⟩) fun hHeld => ?_
 clear hK K
 try simp only [p7]
 refine tq 7 hHeld ?_
 try simp only [p7]
 refine wpAnyH_done (by kernel_rfl) ?_ _
 have z7 := HKEQ.out.cell
 have hbd := refBind_any (op := 4) (HSO.out.below HBQ.out) HROW.out
 rw [← HR2.out] at hbd
 have HBD := hid hbd
 clear hbd
 obtain ⟨rl, rz9⟩ := res
 go_wp2_with fail
 refine (HBD.out).mono ?_
 rintro e9 w9 ⟨hb9, A9, n9, c9, rfl, ht9⟩
 have HB9 := bto HBQ hb9
 have HT9 := hid (ht9.keep (R' := fresh w w9) fun q hq => ⟨⟨Nat.le_trans HBQ.out.size hq.1, hq.2⟩, fun _ => rfl⟩)
 clear hb9 ht9
 go_wp2_with fail
 go_ret2
 exact ⟨HB9.out, A9, n9, c9, rfl, HT9.out⟩
theorem rfctor_any {w : World} {v : BkVal} {b : Bk} (hb : BookV w v b) (e k : Int) (he1 : -9223372036854775808 ≤ e) (he2 : e ≤ 9223372036854775807) :
 Calls Tryz.prog 22 #[.agg #[.int .i64 b.vars, .slice v.Ao v.no v.co, .slice v.Ae v.ne v.ce, .int .i64 b.nat, .slice v.Ap v.np v.cp], .int .i64 e, .int .i64 k] w (RowEPost (rctT b e k) w) := by
 obtain ⟨i0, hi, hy0, hy1, hy2⟩ := info_parts infoR
 have HI0 := hid hi
 have HY0 := hid hy0
 have HY1 := hid hy1
 have HY2 := hid hy2
 have hb1 := below_alloc w (.cells #[.int .i64 b.vars, .slice v.Ao v.no v.co, .slice v.Ae v.ne v.ce, .int .i64 b.nat, .slice v.Ap v.np v.cp] 26)
 have HB1 := hid hb1
 have HK1 := hid (Blk.new w 26 #[.int .i64 b.vars, .slice v.Ao v.no v.co, .slice v.Ae v.ne v.ce, .int .i64 b.nat, .slice v.Ap v.np v.cp])
 have HRT := hid (refRight_any (hb.below hb1))
 have hlen := hb.entries.len
 have hefew := hb.entries.few
 have HFA := hid (fun (w' : World) (h : Below w.heap.size w w') => refFamily_any (hb.below h) e (v.ne : Int) (by omega))
 have HBK := hid hb
 obtain ⟨res, hres⟩ : ∃ r, r = rctT b e k := ⟨_, rfl⟩
 rw [← hres]
 have HRES := hid hres
 obtain ⟨rz, hrz⟩ : ∃ z, z = rightE b := ⟨_, rfl⟩
 rw [← hrz] at HRT
 have HRZ := hid hrz
 obtain ⟨fb, hfb⟩ : ∃ q, q = (decide (0 ≤ e) && famB b (v.ne : Int) e) := ⟨_, rfl⟩
 have HFB := hid hfb
 have HFA2 : Hid (∀ w', Below w.heap.size w w' → Calls Tryz.prog 32 #[.agg #[.int .i64 b.vars, .slice v.Ao v.no v.co, .slice v.Ae v.ne v.ce, .int .i64 b.nat, .slice v.Ap v.np v.cp], .int .i64 e, .int .i64 (v.ne : Int)] w' (BoolP fb w')) := hid (fun w' h => by rw [hfb]; exact HFA.out w' h)
 have HF1 : Hid (rz ≠ 0 → famE b e = rz) := hid (fun h => by unfold famE; rw [if_pos (by rw [← hrz]; exact h), ← hrz])
 have HF2 : Hid (rz = 0 → famE b e = if fb = true then 0 else 1) := hid (fun h => by rw [hfb, ← hlen]; exact fam_ref (by rw [← hrz]; exact h))
 have HLEN := hid hlen
 have z0 := HK1.out.cell
 clear hb hb1 hres hrz hfb hi hy0 hy1 hy2 HFA hlen
 go_in
 go_wp2_with fail
 refine (HRT.out).mono ?_
 rintro en w2 ⟨rfl, hb2⟩
 have HB2 := bto HB1 hb2
 have HK2 := hid (HK1.out.below hb2 HK1.out.lt)
 clear z0 hb2
 have z0 := HK2.out.cell
 by_cases hr : rz = 0
 rotate_left
 · have hd : (rz != 0) = true := by simpa using hr
   have HR2 : Hid (res = ([], rz)) := hid (by rw [HRES.out]; unfold rctT; rw [if_pos (by rw [HF1.out hr]; exact hr), HF1.out hr])
   clear hr
   go_wp2_with fail
   go_ret2
   exact rowE_nil HR2.out HB2.out
 have hd : (rz != 0) = false := by rw [hr]; rfl
 have HF3 := hid (HF2.out hr)
 clear hr
 go_wp2_with fail
 refine (HFA2.out _ HB2.out).mono ?_
 rintro en w3 ⟨rfl, hb3⟩
 have HB3 := bto HB2 hb3
 have HK3 := hid (HK2.out.below hb3 HK2.out.lt)
 clear z0 hb3
 have z0 := HK3.out.cell
 cases fb
 · have HR2 : Hid (res = ([], 1)) := hid (by have h9 : famE b e = 1 := HF3.out.trans (if_neg (by decide)); rw [HRES.out]; unfold rctT; rw [if_pos (by rw [h9]; decide), h9])
   go_wp2_with fail
   go_ret2
   exact rowE_nil HR2.out HB3.out
 have HFZ : Hid (famE b e = 0) := hid (HF3.out.trans (if_pos rfl))
 obtain ⟨q1, q2, q3, q4, q5⟩ := fam_zero HFZ.out
 have hfe : ¬ (famE b e ≠ 0) := fun h => h HFZ.out
 obtain ⟨i, rfl⟩ : ∃ i : Nat, e = (i : Int) := ⟨e.toNat, by omega⟩
 have hlen := HLEN.out
 have hin : i < v.ne := by omega
 have hin2 : (i : Int) < (v.ne : Int) := by omega
 have d4 : decide (i < v.ne) = true := decide_eq_true hin
 have d5 : decide ((i : Int) < (v.ne : Int)) = true := decide_eq_true hin2
 obtain ⟨bb, off, ea, hlb, u, c0, c1, c2, c3, c4, c5, c6, hec⟩ := HBK.out.entries.at_ hin
 rw [ea] at z0 ⊢
 have hx : b.entries.getD i default = entB b (i : Int) := rfl
 rw [hx] at c0 hec
 obtain ⟨x, hxx⟩ : ∃ x, x = entB b (i : Int) := ⟨_, rfl⟩
 have HXX := hid hxx
 rw [← hxx] at c0 hec q5
 obtain ⟨kd, hkd⟩ : ∃ kd, kd = x.kind := ⟨_, rfl⟩
 rw [← hkd] at c0
 have k0 := (HB3.out.cell (p := ⟨bb, off + i * 7, none⟩) hlb).trans c0
 have k1 := (HB3.out.cell (p := ⟨bb, off + i * 7 + 1, none⟩) hlb).trans c1
 have k2 := (HB3.out.cell (p := ⟨bb, off + i * 7 + 2, none⟩) hlb).trans c2
 have k3 := (HB3.out.cell (p := ⟨bb, off + i * 7 + 3, none⟩) hlb).trans c3
 have k4 := (HB3.out.cell (p := ⟨bb, off + i * 7 + 4, none⟩) hlb).trans c4
 have k5 := (HB3.out.cell (p := ⟨bb, off + i * 7 + 5, none⟩) hlb).trans c5
 have k6 := (HB3.out.cell (p := ⟨bb, off + i * 7 + 6, none⟩) hlb).trans c6
 have hnp := hec.params.len
 have hni := hec.indices.len
 have hnc := hec.ctors.len
 have hncf := hec.ctors.few
 have hp16 := q5.params
 have hi16 := q5.indices
 have HPR := hid hec.params
 have HIN := hid hec.indices
 have HSO := hid hec.sort
 have HCT := hid hec.ctors
 have HQ5 := hid q5
 have hnp2 : u.np ≤ 16 := by omega
 have hni2 : u.ni ≤ 16 := by omega
 clear hkd c0 c1 c2 c3 c4 c5 c6 ea hxx hx q1 q2 q3 q4 q5
 have hcl : (entB b (i : Int)).ctors.length = u.nc := by rw [← HXX.out]; exact hnc
 by_cases hk0 : k < 0
 · have e1 : decide (k < 0) = true := decide_eq_true hk0
   have HR2 : Hid (res = ([], 1)) := hid (by rw [HRES.out]; unfold rctT; rw [if_neg hfe, if_pos (Or.inl hk0)])
   clear hec hfe hin hk0 hcl
   go_wp2_with fail
   go_ret2
   exact rowE_nil HR2.out HB3.out
 have e1 : decide (k < 0) = false := decide_eq_false hk0
 obtain ⟨j, rfl⟩ : ∃ j : Nat, k = (j : Int) := ⟨k.toNat, by omega⟩
 by_cases hk2 : u.nc ≤ j
 · have e2 : decide ((j : Int) ≥ (u.nc : Int)) = true := decide_eq_true (by omega)
   have e3 : decide ((u.nc : Int) ≤ (j : Int)) = true := decide_eq_true (by omega)
   have e4 : decide (u.nc ≤ j) = true := decide_eq_true hk2
   have HR2 : Hid (res = ([], 1)) := hid (by rw [HRES.out]; unfold rctT; rw [if_neg hfe, if_pos (Or.inr (by omega))])
   clear hec hfe hin hk0 hk2 hcl
   go_wp2_with fail
   go_ret2
   exact rowE_nil HR2.out HB3.out
 have e2 : decide ((j : Int) ≥ (u.nc : Int)) = false := decide_eq_false (by omega)
 have e3 : decide ((u.nc : Int) ≤ (j : Int)) = false := decide_eq_false (by omega)
 have e4 : decide (u.nc ≤ j) = false := decide_eq_false hk2
 have hjn : j < u.nc := by omega
 have hjn2 : (j : Int) < (u.nc : Int) := by omega
 have e5 : decide (j < u.nc) = true := decide_eq_true hjn
 have e6 : decide ((j : Int) < (u.nc : Int)) = true := decide_eq_true hjn2
 have hjx : j < x.ctors.length := by omega
 have hmem : x.ctors.getD j default ∈ x.ctors := by
  rw [List.getD_eq_getElem?_getD, List.getElem?_eq_getElem hjx]
  exact List.getElem_mem hjx
 have hcf := HQ5.out.ctors _ hmem
 obtain ⟨bc, oc, ec, hlc, A1, n1, c1, A2, n2, c2, f0, f1, hr1, hr2⟩ := hec.ctors.both hjn
 rw [ec] at k4
 have hlb3 : bb < w3.heap.size := Nat.lt_of_lt_of_le hlb HB3.out.size
 have hlc3 : bc < w3.heap.size := Nat.lt_of_lt_of_le hlc HB3.out.size
 have f0' := (HB3.out.cell (p := ⟨bc, oc + j * 2, none⟩) hlc).trans f0
 have f1' := (HB3.out.cell (p := ⟨bc, oc + j * 2 + 1, none⟩) hlc).trans f1
 have HR2 : Hid (res = thenQ (applyR [⟨9, (i : Int), 0⟩] (varsL x.params.length (x.ctors.getD j default).args.length ++ (x.ctors.getD j default).outs)) fun t => bindR 4 (x.params ++ (x.ctors.getD j default).args) t) := hid (by rw [HRES.out, HXX.out]; unfold rctT; rw [if_neg hfe, if_neg (by omega)]; rfl)
 obtain ⟨c, hcc⟩ : ∃ c, c = x.ctors.getD j default := ⟨_, rfl⟩
 rw [← hcc] at hr1 hr2 hcf HR2
 have ha1 := hr1.len
 have ha2 := hr2.len
 have hn1 : n1 ≤ 16 := by omega
 have hn2 : n2 ≤ 16 := by omega
 have HR1 := hid hr1
 have HRo := hid hr2
 obtain ⟨va, hva⟩ : ∃ q, q = varsL x.params.length c.args.length := ⟨_, rfl⟩
 rw [← hva] at HR2
 have hv := fun W : World => rfvars_any (w := W) u.np n1 (by omega) (by omega)
 rw [show varsL u.np n1 = va from by rw [hva, hnp, ha1]] at hv
 have hvl : va.length = u.np := by rw [hva, varsL_len, hnp]
 have HVL := hid hvl
 have HA2 := hid ha2
 have hv' : ∀ W : World, Calls Tryz.prog 67 #[.int .i64 ((u.np : Int) + (n1 : Int) - 1), .int .i64 (n1 : Int)] W (fun e w' => Below W.heap.size W w' ∧ ∃ B d vs, e = .returned (.slice B u.np d) ∧ w'.ownsRow W.heap.size 28 1 (.slice B u.np d) u.np vs ∧ RowsC (Aside W.heap.size w' (.slice B u.np d)) w' vs va) := fun W => by
  have h := hv W
  unfold OwnRs at h
  rwa [hvl] at h
 have HVV := hid hv'
 obtain ⟨ap, hap⟩ : ∃ q, q = applyR [⟨9, (i : Int), 0⟩] (va ++ c.outs) := ⟨_, rfl⟩
 rw [← hap] at HR2
 obtain ⟨al, az⟩ := ap
 have HAP := hid hap
 have HB4 : Hid (Below w.heap.size w ((w3.alloc (.cells #[.int .i64 kd, .slice u.As u.ns u.cs, .slice u.Ap u.np u.cp, .slice u.Ai u.ni u.ci, .slice (some ⟨bc, oc, none⟩) u.nc u.cc, .slice u.At u.nt u.ct, .slice u.Ab u.nb u.cb] 57)).alloc (.cells #[.slice A1 n1 c1, .slice A2 n2 c2] 66))) := hid ((HB3.out.alloc HB3.out.size _).alloc ((HB3.out.alloc HB3.out.size _).size) _)
 have HB4d := hid (below_drew HB4.out)
 have HK4a : Hid (Blk ((w3.alloc (.cells #[.int .i64 kd, .slice u.As u.ns u.cs, .slice u.Ap u.np u.cp, .slice u.Ai u.ni u.ci, .slice (some ⟨bc, oc, none⟩) u.nc u.cc, .slice u.At u.nt u.ct, .slice u.Ab u.nb u.cb] 57)).alloc (.cells #[.slice A1 n1 c1, .slice A2 n2 c2] 66)).drew w3.heap.size 57 #[.int .i64 kd, .slice u.As u.ns u.cs, .slice u.Ap u.np u.cp, .slice u.Ai u.ni u.ci, .slice (some ⟨bc, oc, none⟩) u.nc u.cc, .slice u.At u.nt u.ct, .slice u.Ab u.nb u.cb]) := hid (blk_drew ((Blk.new w3 57 #[.int .i64 kd, .slice u.As u.ns u.cs, .slice u.Ap u.np u.cp, .slice u.Ai u.ni u.ci, .slice (some ⟨bc, oc, none⟩) u.nc u.cc, .slice u.At u.nt u.ct, .slice u.Ab u.nb u.cb]).alloc _))
 have HK4b : Hid (Blk ((w3.alloc (.cells #[.int .i64 kd, .slice u.As u.ns u.cs, .slice u.Ap u.np u.cp, .slice u.Ai u.ni u.ci, .slice (some ⟨bc, oc, none⟩) u.nc u.cc, .slice u.At u.nt u.ct, .slice u.Ab u.nb u.cb] 57)).alloc (.cells #[.slice A1 n1 c1, .slice A2 n2 c2] 66)).drew (w3.heap.size + 1) 66 #[.slice A1 n1 c1, .slice A2 n2 c2]) := hid (blk_drew (Blk.new' (by simp)))
 have HBA : Hid (Below w.heap.size w (((w3.alloc (.cells #[.int .i64 kd, .slice u.As u.ns u.cs, .slice u.Ap u.np u.cp, .slice u.Ai u.ni u.ci, .slice (some ⟨bc, oc, none⟩) u.nc u.cc, .slice u.At u.nt u.ct, .slice u.Ab u.nb u.cb] 57)).alloc (.cells #[.slice A1 n1 c1, .slice A2 n2 c2] 66)).alloc (.cells #[.int .i64 9, .int .i64 (i : Int), .int .i64 0] 53)).drew) := hid (below_drew (HB4.out.alloc HB4.out.size _))
 have HKA1 : Hid (Blk (((w3.alloc (.cells #[.int .i64 kd, .slice u.As u.ns u.cs, .slice u.Ap u.np u.cp, .slice u.Ai u.ni u.ci, .slice (some ⟨bc, oc, none⟩) u.nc u.cc, .slice u.At u.nt u.ct, .slice u.Ab u.nb u.cb] 57)).alloc (.cells #[.slice A1 n1 c1, .slice A2 n2 c2] 66)).alloc (.cells #[.int .i64 9, .int .i64 (i : Int), .int .i64 0] 53)).drew w3.heap.size 57 #[.int .i64 kd, .slice u.As u.ns u.cs, .slice u.Ap u.np u.cp, .slice u.Ai u.ni u.ci, .slice (some ⟨bc, oc, none⟩) u.nc u.cc, .slice u.At u.nt u.ct, .slice u.Ab u.nb u.cb]) := hid (blk_drew (Blk.alloc HK4a.out _))
 have HKA2 : Hid (Blk (((w3.alloc (.cells #[.int .i64 kd, .slice u.As u.ns u.cs, .slice u.Ap u.np u.cp, .slice u.Ai u.ni u.ci, .slice (some ⟨bc, oc, none⟩) u.nc u.cc, .slice u.At u.nt u.ct, .slice u.Ab u.nb u.cb] 57)).alloc (.cells #[.slice A1 n1 c1, .slice A2 n2 c2] 66)).alloc (.cells #[.int .i64 9, .int .i64 (i : Int), .int .i64 0] 53)).drew (w3.heap.size + 1) 66 #[.slice A1 n1 c1, .slice A2 n2 c2]) := hid (blk_drew (Blk.alloc HK4b.out _))
 have HKA3 : Hid (Blk (((w3.alloc (.cells #[.int .i64 kd, .slice u.As u.ns u.cs, .slice u.Ap u.np u.cp, .slice u.Ai u.ni u.ci, .slice (some ⟨bc, oc, none⟩) u.nc u.cc, .slice u.At u.nt u.ct, .slice u.Ab u.nb u.cb] 57)).alloc (.cells #[.slice A1 n1 c1, .slice A2 n2 c2] 66)).alloc (.cells #[.int .i64 9, .int .i64 (i : Int), .int .i64 0] 53)).drew (w3.heap.size + 1 + 1) 53 #[.int .i64 9, .int .i64 (i : Int), .int .i64 0]) := hid (blk_drew (Blk.new' (by simp)))
 have hw1 : IntKind.i64.wrap ((u.np : Int) + (n1 : Int)) = (u.np : Int) + (n1 : Int) := by rw [IntKind.wrap_i64]; omega
 have hw2 : IntKind.i64.wrap ((u.np : Int) + (n1 : Int) - 1) = (u.np : Int) + (n1 : Int) - 1 := by rw [IntKind.wrap_i64]; omega
 clear hec hfe hin hk0 hk2 hcl hmem hcf hr1 hr2 hcc hva hv hv' hvl ha1 ha2 hap hjx ec f0 f1
 go_wp2_with fail
 refine wp_region_held_drew (S := (fun w' => w'.cell? ⟨w3.heap.size, 2, none⟩ = some (.slice u.Ap u.np u.cp) ∧ w'.cell? ⟨w3.heap.size + 1, 0, none⟩ = some (.slice A1 n1 c1) ∧ w'.cell? ⟨w3.heap.size + 1, 1, none⟩ = some (.slice A2 n2 c2))) (by kernel_rfl) ?_ (fun hHeld => ?_)
 · (try dsimp only); exact ⟨HK4a.out.cell 2, HK4b.out.cell 0, HK4b.out.cell 1⟩
 refine tq 0 hHeld ?_
 try simp only [p7]
 refine tq 1 hHeld ?_
 try simp only [p7]
 refine tq 3 hHeld ?_
 try simp only [p7]
 refine tq 4 hHeld ?_
 try simp only [p7]
 refine tq 5 hHeld ?_
 try simp only [p7]
 refine tq 6 hHeld ?_
 try simp only [p7]
 refine tq 7 hHeld ?_
 try simp only [p7]
 refine tq 9 hHeld ?_
 try simp only [p7]
 refine tq 10 hHeld ?_
 try simp only [p7]
 refine wpAnyH_ready (rs := [2, 8]) (by kernel_rfl) (by simp) ?_
 refine AllReadyH.cons rfl (fun K hK => ?_) (AllReadyH.cons rfl (fun K hK => ?_) (AllReadyH.nil))
 · go_simp
   refine hK.out _ _ (by exact ⟨HKA1.out.cell 2, HKA2.out.cell 0, HKA2.out.cell 1⟩) fun hHeld => ?_
   clear hK K
   try simp only [p7]
   refine r1 8 fun K hK => ?_
   go_simp
   go_at_call 67
   refine (HVV.out _).mono ?_
   rintro e5 w5 ⟨hb5, B5, d5, vs5, rfl, ho5, hr5⟩
   have HB5 := bto HBA hb5
   have HK5a := hid (HKA1.out.below hb5 HKA1.out.lt)
   have HK5b := hid (HKA2.out.below hb5 HKA2.out.lt)
   have HK5n := hid (HKA3.out.below hb5 HKA3.out.lt)
   have HO5 := hid ho5
   have HR5 := hid hr5
   have HSB5 := hid hb5.size
   have HLO := hid (HBA.out.size)
   clear hb5 ho5 hr5
   go_wp2_with fail
   refine hK.out _ _ (by exact ⟨HK5a.out.cell 2, HK5b.out.cell 0, HK5b.out.cell 1⟩) fun hHeld => ?_
   clear hK K
   try simp only [p7]
   refine r1 11 fun K hK => ?_
   obtain ⟨xs5, hxl, hxc, hxr, hx1⟩ := ((HRo.out.rowsR).keep (R' := (· < w.heap.size)) (w' := w5) (fun q hq => ⟨hq, fun o => HB5.out.cell (p := ⟨q, o, none⟩) hq⟩)).values
   have HXL := hid hxl
   have HXC := hid hxc
   have HXR := hid hxr
   have HX1 := hid hx1
   clear hxl hxc hxr hx1
   refine oper_append_all (.tmp 66) (.tmp 68) 54 rfl _ 28 i0 _ 1 24 Tryz.underlying54 HI0.out HY0.out HY1.out HY2.out rfl (by decide) B5 u.np d5 vs5 rfl HO5.out A2 n2 c2 xs5 rfl (by rw [HXL.out, Nat.mul_one]) (fun e9 => by have := HRo.out.mem; rw [e9] at this; by_cases h9 : 0 < n2; (obtain ⟨b9, o9, e8, _⟩ := this h9; cases e8); omega) HXC.out HX1.out (by unfold maxLen; omega) (by omega) HSB5.out ?_
   intro A8 c8 w6 happ
   have HARG := hid (args_row HLO.out HSB5.out HR5.out HXR.out HO5.out HVL.out HA2.out (by omega) happ)
   have HNUL := hid (own_nulQ happ.own)
   have HB6 := hid (HB5.out.grown happ.grown HB5.out.size (fun g hg => Nat.le_trans HLO.out ((ownsRow_block HO5.out hg).1)))
   have HK6a := hid (HK5a.out.grown happ.grown (own_ne HO5.out (by simp; omega)))
   have HK6b := hid (HK5b.out.grown happ.grown (own_ne HO5.out (by simp)))
   have HK6n := hid (HK5n.out.grown happ.grown (own_ne HO5.out (by simp)))
   clear happ
   refine hK.out _ _ (by exact ⟨HK6a.out.cell 2, HK6b.out.cell 0, HK6b.out.cell 1⟩) fun hHeld => ?_
   clear hK K
   try simp only [p7]
   refine r1 12 fun K hK => ?_
   go_simp
   have hac := refApply_any (lit_term (l := [(⟨9, (i : Int), 0⟩ : Nd)]) (g := w3.heap.size + 1 + 1) HK6n.out rfl (Nat.le_refl 1) (by simp)) HARG.out
   rw [← HAP.out] at hac
   go_at_call 66
   refine hac.mono ?_
   rintro e7 w7 ⟨hb7, A7, n7, c7, rfl, ht7⟩
   clear hac
   go_wp2_with fail
   refine hK.out _ _ (by exact ⟨(HK6a.out.below hb7 HK6a.out.lt).cell 2, (HK6b.out.below hb7 HK6b.out.lt).cell 0, (HK6b.out.below hb7 HK6b.out.lt).cell 1⟩) fun hHeld => ?_
   clear hK K
   try simp only [p7]
   refine tq 13 hHeld ?_
   try simp only [p7]
   refine tq 14 hHeld ?_
   try simp only [p7]
   refine tq 15 hHeld ?_
   try simp only [p7]
   refine tq 16 hHeld ?_
   try simp only [p7]
   refine tq 17 hHeld ?_
   try simp only [p7]
   refine wpAnyH_done (by kernel_rfl) ?_ _
   have HB7 := bto HB6 hb7
   have HK7a := hid (HK6a.out.below hb7 HK6a.out.lt)
   have HK7b := hid (HK6b.out.below hb7 HK6b.out.lt)
   have HT7 := hid (ht7.keep (R' := fresh w w7) fun q hq => ⟨⟨Nat.le_trans HB6.out.size hq.1, hq.2⟩, fun _ => rfl⟩)
   clear hb7 ht7
   by_cases hz1 : az = 0
   rotate_left
   · have dz : (az != 0) = true := by simpa using hz1
     have HR9 : Hid (res = ([], az)) := hid (HR2.out.trans (if_pos hz1))
     clear hz1
     go_wp2_with fail
     go_ret2
     exact rowE_nil HR9.out HB7.out
   have dz : (az != 0) = false := by rw [hz1]; rfl
   have HR9 : Hid (res = bindR 4 (x.params ++ c.args) al) := hid (HR2.out.trans (if_neg (show ¬ (al, az).2 ≠ 0 from fun h => h hz1)))
   clear hz1
   have HK7ad := hid (blk_drew HK7a.out)
   have HK7bd := hid (blk_drew HK7b.out)
   have HB7n := HB7
   go_wp2_with fail
   have HLO0 := HLO
   have HBA2 : Hid (Below w.heap.size w (((w7).alloc (.cells #[] 28)).drew)) := hid (below_drew (HB7.out.alloc HB7.out.size _))
   have HOA : Hid ((((w7).alloc (.cells #[] 28)).drew).ownsRow (w7.heap.size) 28 1 (.slice (some ⟨w7.heap.size, 0, none⟩) 0 0) 0 []) := hid (own_nilR (by simp) (by simp))
   have HLO2 : Hid (w.heap.size ≤ w7.heap.size) := hid (by have := HB7.out.size; simpa using this)
   have HKEA : Hid (Blk (((w7).alloc (.cells #[] 28)).drew) _ _ _) := hid (blk_drew (Blk.alloc HK7a.out _))
   have HKCA : Hid (Blk (((w7).alloc (.cells #[] 28)).drew) _ _ _) := hid (blk_drew (Blk.alloc HK7b.out _))
   refine wp_region_held_drew (S := (fun w' => w'.cell? ⟨w3.heap.size, 2, none⟩ = some (.slice u.Ap u.np u.cp) ∧ w'.cell? ⟨w3.heap.size + 1, 0, none⟩ = some (.slice A1 n1 c1))) (by kernel_rfl) ?_ (fun hHeld => ?_)
   · (try dsimp only); exact ⟨HK7ad.out.cell 2, HK7bd.out.cell 0⟩
   refine tq 1 hHeld ?_
   try simp only [p7]
   refine tq 2 hHeld ?_
   try simp only [p7]
   refine tq 4 hHeld ?_
   try simp only [p7]
   refine tq 5 hHeld ?_
   try simp only [p7]
   refine tq 7 hHeld ?_
   try simp only [p7]
   refine r1 0 fun K hK => ?_
   go_simp
   refine hK.out _ _ (by exact ⟨HKEA.out.cell 2, HKCA.out.cell 0⟩) fun hHeld => ?_
   clear hK K
   try simp only [p7]
   refine r1 3 fun K hK => ?_
   obtain ⟨xs1, hxl, hxc, hxr, hx1⟩ := ((HPR.out.rowsR).keep (R' := (· < w.heap.size)) (w' := ((w7).alloc (.cells #[] 28)).drew) (fun q hq => ⟨hq, fun o => HBA2.out.cell (p := ⟨q, o, none⟩) hq⟩)).values
   have HXL1 := hid hxl
   have HXC1 := hid hxc
   have HXR1 := hid hxr
   have HX11 := hid hx1
   clear hxl hxc hxr hx1
   have hsz1 : (w7.heap.size) ≤ (((w7).alloc (.cells #[] 28)).drew).heap.size := by simp
   refine oper_append_all (.tmp 76) (.tmp 78) 54 rfl (w7.heap.size) 28 i0 _ 1 24 Tryz.underlying54 HI0.out HY0.out HY1.out HY2.out rfl (by decide) (some ⟨(w7.heap.size), 0, none⟩) 0 0 [] rfl HOA.out u.Ap u.np u.cp xs1 rfl (by rw [HXL1.out, Nat.mul_one]) (fun e9 => by have := HPR.out.mem; rw [e9] at this; by_cases h9 : 0 < u.np; (obtain ⟨b9, o9, e8, _⟩ := this h9; cases e8); omega) HXC1.out HX11.out (by unfold maxLen; omega) (by omega) hsz1 ?_
   intro A7a c7a w7a happ
   rw [Nat.zero_add, List.nil_append] at happ
   rw [Nat.zero_add]
   have HBP := hid (HBA2.out.grown happ.grown HBA2.out.size (fun g hg => Nat.le_trans HLO2.out ((ownsRow_block HOA.out hg).1)))
   have HKEP := hid (HKEA.out.grown happ.grown (own_ne HOA.out (by have := HK7a.out.lt; omega)))
   have HKCP := hid (HKCA.out.grown happ.grown (own_ne HOA.out (by have := HK7b.out.lt; omega)))
   have HOP := hid happ.own
   have HSP : Hid ((w7.heap.size) ≤ w7a.heap.size) := hid (Nat.le_trans hsz1 happ.grown.size)
   have HXP : Hid (RowsC (· < w.heap.size) w7a xs1 (x.params)) := hid (RowsC.keep (fun q hq => ⟨hq, fun o => cell_of_heap (happ.grown.block q (Nat.lt_of_lt_of_le hq HBA2.out.size) (own_ne HOA.out (Nat.lt_of_lt_of_le hq HLO2.out))) o⟩) HXR1.out)
   have HB7P := hid ((below_drew (below_alloc w7 (.cells #[] 28))).grown happ.grown (by simp) (fun g hg => (ownsRow_block HOA.out hg).1))
   clear happ
   refine hK.out _ _ (by exact ⟨HKEP.out.cell 2, HKCP.out.cell 0⟩) fun hHeld => ?_
   clear hK K
   try simp only [p7]
   refine r1 6 fun K hK => ?_
   obtain ⟨xs2, hxl, hxc, hxr, hx1⟩ := ((HR1.out.rowsR).keep (R' := (· < w.heap.size)) (w' := w7a) (fun q hq => ⟨hq, fun o => HBP.out.cell (p := ⟨q, o, none⟩) hq⟩)).values
   have HXL2 := hid hxl
   have HXC2 := hid hxc
   have HXR2 := hid hxr
   have HX12 := hid hx1
   clear hxl hxc hxr hx1
   refine oper_append_all (.tmp 79) (.tmp 81) 54 rfl w7.heap.size 28 i0 _ 1 24 Tryz.underlying54 HI0.out HY0.out HY1.out HY2.out rfl (by decide) A7a u.np c7a xs1 rfl HOP.out A1 n1 c1 xs2 rfl (by rw [HXL2.out, Nat.mul_one]) (fun e9 => by have := HR1.out.mem; rw [e9] at this; by_cases h9 : 0 < n1; (obtain ⟨b9, o9, e8, _⟩ := this h9; cases e8); omega) HXC2.out HX12.out (by unfold maxLen; omega) (by omega) HSP.out ?_
   intro A7b c7b w7b happ
   have HBQ := hid (HBP.out.grown happ.grown HBP.out.size (fun g hg => Nat.le_trans HLO2.out ((ownsRow_block HOP.out hg).1)))
   have HKEQ := hid (HKEP.out.grown happ.grown (own_ne HOP.out (by have := HK7a.out.lt; omega)))
   have HKCQ := hid (HKCP.out.grown happ.grown (own_ne HOP.out (by have := HK7b.out.lt; omega)))
   have HROW : Hid (RowsR (· < w7b.heap.size) w7b A7b (u.np + n1) c7b (x.params ++ c.args)) := hid (own_rowsQ (S := (· < w.heap.size)) happ.own (by rw [List.length_append, HPR.out.len, HR1.out.len]) (by omega) (RowsC.keep (fun q hq => ⟨hq, fun o => cell_of_heap (happ.grown.block q (Nat.lt_of_lt_of_le hq HBP.out.size) (own_ne HOP.out (Nat.lt_of_lt_of_le hq HLO2.out))) o⟩) (HXP.out.append HXR2.out)) (fun q hq => Nat.lt_of_lt_of_le hq HBQ.out.size) (fun g hg => (ownsRow_block happ.own hg).2.1))
   have HB77 := hid (HB7P.out.grown happ.grown HB7P.out.size (fun g hg => (ownsRow_block HOP.out hg).1))
   clear happ
   refine hK.out _ _ (by exact ⟨HKEQ.out.cell 2, HKCQ.out.cell 0⟩) fun hHeld => ?_
   clear hK K
   try simp only [p7]
   refine r1 8 fun K hK => ?_
   go_simp
   have hbd := refBind_any (op := 4) (HT7.out.keep (R' := (· < w7b.heap.size)) fun q hq => ⟨Nat.lt_of_lt_of_le hq.2 (HB77.out.size), fun o => HB77.out.cell (p := ⟨q, o, none⟩) hq.2⟩) HROW.out
   rw [← HR9.out] at hbd
   obtain ⟨rl, rz9⟩ := res
   go_at_call 64
   refine hbd.mono ?_
   rintro e9 w9 ⟨hb9, A9, n9, c9, rfl, ht9⟩
   clear hbd
   have HB9 := bto HBQ hb9
   have HT9 := hid (ht9.keep (R' := fresh w w9) fun q hq => ⟨⟨Nat.le_trans HBQ.out.size hq.1, hq.2⟩, fun _ => rfl⟩)
   have HKER := hid (HKEQ.out.below hb9 HKEQ.out.lt)
   have HKCR := hid (HKCQ.out.below hb9 HKCQ.out.lt)
   clear hb9 ht9
   go_wp2_with fail
   refine hK.out _ _ (by exact ⟨HKER.out.cell 2, HKCR.out.cell 0⟩) fun hHeld => ?_
   clear hK K
   try simp only [p7]
   refine tq 9 hHeld ?_
   try simp only [p7]
   refine tq 10 hHeld ?_
   try simp only [p7]
   refine tq 11 hHeld ?_
   try simp only [p7]
   refine tq 12 hHeld ?_
   try simp only [p7]
   refine wpAnyH_done (by kernel_rfl) ?_ _
   go_wp2_with fail
   go_ret2
   exact ⟨HB9.out, A9, n9, c9, rfl, HT9.out⟩
 go_simp
 go_at_call 67
 refine (HVV.out _).mono ?_
 rintro e5 w5 ⟨hb5, B5, d5, vs5, rfl, ho5, hr5⟩
 have HB5 := bto HB4d hb5
 have HK5a := hid (HK4a.out.below hb5 HK4a.out.lt)
 have HK5b := hid (HK4b.out.below hb5 HK4b.out.lt)
 have HO5 := hid ho5
 have HR5 := hid hr5
 have HSB5 := hid hb5.size
 have HLO := hid (HB4d.out.size)
 clear hb5 ho5 hr5
 go_wp2_with fail
 refine hK.out _ _ (by exact ⟨HK5a.out.cell 2, HK5b.out.cell 0, HK5b.out.cell 1⟩) fun hHeld => ?_
 clear hK K
 try simp only [p7]
 have HBn := hid (HB5.out.alloc HB5.out.size (.cells #[.int .i64 9, .int .i64 (i : Int), .int .i64 0] 53))
 have HK5a2 := hid (HK5a.out.alloc (.cells #[.int .i64 9, .int .i64 (i : Int), .int .i64 0] 53))
 have HK5b2 := hid (HK5b.out.alloc (.cells #[.int .i64 9, .int .i64 (i : Int), .int .i64 0] 53))
 have HKn := hid (Blk.new w5 53 #[.int .i64 9, .int .i64 (i : Int), .int .i64 0])
 have HO5n := hid (World.ownsRow.alloc HO5.out (.cells #[.int .i64 9, .int .i64 (i : Int), .int .i64 0] 53))
 have HR5n : Hid (RowsC (Aside _ (w5.alloc (.cells #[.int .i64 9, .int .i64 (i : Int), .int .i64 0] 53)) (.slice B5 u.np d5)) (w5.alloc (.cells #[.int .i64 9, .int .i64 (i : Int), .int .i64 0] 53)) vs5 va) := hid (RowsC.keep (fun q hq => ⟨⟨hq.1, by have := hq.2.1; simp; omega, hq.2.2⟩, fun o => (below_alloc w5 (.cells #[.int .i64 9, .int .i64 (i : Int), .int .i64 0] 53)).cell (p := ⟨q, o, none⟩) hq.2.1⟩) HR5.out)
 have HSB5n := hid (Nat.le_trans HSB5.out (below_alloc w5 (.cells #[.int .i64 9, .int .i64 (i : Int), .int .i64 0] 53)).size)
 refine wpAnyH_ready (rs := [2, 11]) (by kernel_rfl) (by simp) ?_
 refine AllReadyH.cons rfl (fun K hK => ?_) (AllReadyH.cons rfl (fun K hK => ?_) (AllReadyH.nil))
 · go_simp
   refine hK.out _ _ (by exact ⟨HK5a2.out.cell 2, HK5b2.out.cell 0, HK5b2.out.cell 1⟩) fun hHeld => ?_
   clear hK K
   try simp only [p7]
   refine r1 11 fun K hK => ?_
   obtain ⟨xs5, hxl, hxc, hxr, hx1⟩ := ((HRo.out.rowsR).keep (R' := (· < w.heap.size)) (w' := (w5.alloc (.cells #[.int .i64 9, .int .i64 (i : Int), .int .i64 0] 53))) (fun q hq => ⟨hq, fun o => HBn.out.cell (p := ⟨q, o, none⟩) hq⟩)).values
   have HXL := hid hxl
   have HXC := hid hxc
   have HXR := hid hxr
   have HX1 := hid hx1
   clear hxl hxc hxr hx1
   refine oper_append_all (.tmp 66) (.tmp 68) 54 rfl _ 28 i0 _ 1 24 Tryz.underlying54 HI0.out HY0.out HY1.out HY2.out rfl (by decide) B5 u.np d5 vs5 rfl HO5n.out A2 n2 c2 xs5 rfl (by rw [HXL.out, Nat.mul_one]) (fun e9 => by have := HRo.out.mem; rw [e9] at this; by_cases h9 : 0 < n2; (obtain ⟨b9, o9, e8, _⟩ := this h9; cases e8); omega) HXC.out HX1.out (by unfold maxLen; omega) (by omega) HSB5n.out ?_
   intro A8 c8 w6 happ
   have HARG := hid (args_row HLO.out HSB5n.out HR5n.out HXR.out HO5n.out HVL.out HA2.out (by omega) happ)
   have HNUL := hid (own_nulQ happ.own)
   have HB6 := hid (HBn.out.grown happ.grown HBn.out.size (fun g hg => Nat.le_trans HLO.out ((ownsRow_block HO5n.out hg).1)))
   have HK6a := hid (HK5a2.out.grown happ.grown (own_ne HO5n.out (by simp; omega)))
   have HK6b := hid (HK5b2.out.grown happ.grown (own_ne HO5n.out (by simp)))
   have HK6n := hid (HKn.out.grown happ.grown (fun e9 => by have := (ownsRow_block HO5.out e9.symm).2.1; omega))
   clear happ
   refine hK.out _ _ (by exact ⟨HK6a.out.cell 2, HK6b.out.cell 0, HK6b.out.cell 1⟩) fun hHeld => ?_
   clear hK K
   try simp only [p7]
   refine r1 12 fun K hK => ?_
   go_simp
   have hac := refApply_any (lit_term (l := [(⟨9, (i : Int), 0⟩ : Nd)]) (g := w5.heap.size) HK6n.out rfl (Nat.le_refl 1) (by simp)) HARG.out
   rw [← HAP.out] at hac
   go_at_call 66
   refine hac.mono ?_
   rintro e7 w7 ⟨hb7, A7, n7, c7, rfl, ht7⟩
   clear hac
   go_wp2_with fail
   refine hK.out _ _ (by exact ⟨(HK6a.out.below hb7 HK6a.out.lt).cell 2, (HK6b.out.below hb7 HK6b.out.lt).cell 0, (HK6b.out.below hb7 HK6b.out.lt).cell 1⟩) fun hHeld => ?_
   clear hK K
   try simp only [p7]
   refine tq 13 hHeld ?_
   try simp only [p7]
   refine tq 14 hHeld ?_
   try simp only [p7]
   refine tq 15 hHeld ?_
   try simp only [p7]
   refine tq 16 hHeld ?_
   try simp only [p7]
   refine tq 17 hHeld ?_
   try simp only [p7]
   refine wpAnyH_done (by kernel_rfl) ?_ _
   have HB7 := bto HB6 hb7
   have HK7a := hid (HK6a.out.below hb7 HK6a.out.lt)
   have HK7b := hid (HK6b.out.below hb7 HK6b.out.lt)
   have HT7 := hid (ht7.keep (R' := fresh w w7) fun q hq => ⟨⟨Nat.le_trans HB6.out.size hq.1, hq.2⟩, fun _ => rfl⟩)
   clear hb7 ht7
   by_cases hz1 : az = 0
   rotate_left
   · have dz : (az != 0) = true := by simpa using hz1
     have HR9 : Hid (res = ([], az)) := hid (HR2.out.trans (if_pos hz1))
     clear hz1
     go_wp2_with fail
     go_ret2
     exact rowE_nil HR9.out HB7.out
   have dz : (az != 0) = false := by rw [hz1]; rfl
   have HR9 : Hid (res = bindR 4 (x.params ++ c.args) al) := hid (HR2.out.trans (if_neg (show ¬ (al, az).2 ≠ 0 from fun h => h hz1)))
   clear hz1
   have HK7ad := hid (blk_drew HK7a.out)
   have HK7bd := hid (blk_drew HK7b.out)
   have HB7n := HB7
   go_wp2_with fail
   have HLO0 := HLO
   have HBA2 : Hid (Below w.heap.size w (((w7).alloc (.cells #[] 28)).drew)) := hid (below_drew (HB7.out.alloc HB7.out.size _))
   have HOA : Hid ((((w7).alloc (.cells #[] 28)).drew).ownsRow (w7.heap.size) 28 1 (.slice (some ⟨w7.heap.size, 0, none⟩) 0 0) 0 []) := hid (own_nilR (by simp) (by simp))
   have HLO2 : Hid (w.heap.size ≤ w7.heap.size) := hid (by have := HB7.out.size; simpa using this)
   have HKEA : Hid (Blk (((w7).alloc (.cells #[] 28)).drew) _ _ _) := hid (blk_drew (Blk.alloc HK7a.out _))
   have HKCA : Hid (Blk (((w7).alloc (.cells #[] 28)).drew) _ _ _) := hid (blk_drew (Blk.alloc HK7b.out _))
   refine wp_region_held_drew (S := (fun w' => w'.cell? ⟨w3.heap.size, 2, none⟩ = some (.slice u.Ap u.np u.cp) ∧ w'.cell? ⟨w3.heap.size + 1, 0, none⟩ = some (.slice A1 n1 c1))) (by kernel_rfl) ?_ (fun hHeld => ?_)
   · (try dsimp only); exact ⟨HK7ad.out.cell 2, HK7bd.out.cell 0⟩
   refine tq 1 hHeld ?_
   try simp only [p7]
   refine tq 2 hHeld ?_
   try simp only [p7]
   refine tq 4 hHeld ?_
   try simp only [p7]
   refine tq 5 hHeld ?_
   try simp only [p7]
   refine tq 7 hHeld ?_
   try simp only [p7]
   refine r1 0 fun K hK => ?_
   go_simp
   refine hK.out _ _ (by exact ⟨HKEA.out.cell 2, HKCA.out.cell 0⟩) fun hHeld => ?_
   clear hK K
   try simp only [p7]
   refine r1 3 fun K hK => ?_
   obtain ⟨xs1, hxl, hxc, hxr, hx1⟩ := ((HPR.out.rowsR).keep (R' := (· < w.heap.size)) (w' := ((w7).alloc (.cells #[] 28)).drew) (fun q hq => ⟨hq, fun o => HBA2.out.cell (p := ⟨q, o, none⟩) hq⟩)).values
   have HXL1 := hid hxl
   have HXC1 := hid hxc
   have HXR1 := hid hxr
   have HX11 := hid hx1
   clear hxl hxc hxr hx1
   have hsz1 : (w7.heap.size) ≤ (((w7).alloc (.cells #[] 28)).drew).heap.size := by simp
   refine oper_append_all (.tmp 76) (.tmp 78) 54 rfl (w7.heap.size) 28 i0 _ 1 24 Tryz.underlying54 HI0.out HY0.out HY1.out HY2.out rfl (by decide) (some ⟨(w7.heap.size), 0, none⟩) 0 0 [] rfl HOA.out u.Ap u.np u.cp xs1 rfl (by rw [HXL1.out, Nat.mul_one]) (fun e9 => by have := HPR.out.mem; rw [e9] at this; by_cases h9 : 0 < u.np; (obtain ⟨b9, o9, e8, _⟩ := this h9; cases e8); omega) HXC1.out HX11.out (by unfold maxLen; omega) (by omega) hsz1 ?_
   intro A7a c7a w7a happ
   rw [Nat.zero_add, List.nil_append] at happ
   rw [Nat.zero_add]
   have HBP := hid (HBA2.out.grown happ.grown HBA2.out.size (fun g hg => Nat.le_trans HLO2.out ((ownsRow_block HOA.out hg).1)))
   have HKEP := hid (HKEA.out.grown happ.grown (own_ne HOA.out (by have := HK7a.out.lt; omega)))
   have HKCP := hid (HKCA.out.grown happ.grown (own_ne HOA.out (by have := HK7b.out.lt; omega)))
   have HOP := hid happ.own
   have HSP : Hid ((w7.heap.size) ≤ w7a.heap.size) := hid (Nat.le_trans hsz1 happ.grown.size)
   have HXP : Hid (RowsC (· < w.heap.size) w7a xs1 (x.params)) := hid (RowsC.keep (fun q hq => ⟨hq, fun o => cell_of_heap (happ.grown.block q (Nat.lt_of_lt_of_le hq HBA2.out.size) (own_ne HOA.out (Nat.lt_of_lt_of_le hq HLO2.out))) o⟩) HXR1.out)
   have HB7P := hid ((below_drew (below_alloc w7 (.cells #[] 28))).grown happ.grown (by simp) (fun g hg => (ownsRow_block HOA.out hg).1))
   clear happ
   refine hK.out _ _ (by exact ⟨HKEP.out.cell 2, HKCP.out.cell 0⟩) fun hHeld => ?_
   clear hK K
   try simp only [p7]
   refine r1 6 fun K hK => ?_
   obtain ⟨xs2, hxl, hxc, hxr, hx1⟩ := ((HR1.out.rowsR).keep (R' := (· < w.heap.size)) (w' := w7a) (fun q hq => ⟨hq, fun o => HBP.out.cell (p := ⟨q, o, none⟩) hq⟩)).values
   have HXL2 := hid hxl
   have HXC2 := hid hxc
   have HXR2 := hid hxr
   have HX12 := hid hx1
   clear hxl hxc hxr hx1
   refine oper_append_all (.tmp 79) (.tmp 81) 54 rfl w7.heap.size 28 i0 _ 1 24 Tryz.underlying54 HI0.out HY0.out HY1.out HY2.out rfl (by decide) A7a u.np c7a xs1 rfl HOP.out A1 n1 c1 xs2 rfl (by rw [HXL2.out, Nat.mul_one]) (fun e9 => by have := HR1.out.mem; rw [e9] at this; by_cases h9 : 0 < n1; (obtain ⟨b9, o9, e8, _⟩ := this h9; cases e8); omega) HXC2.out HX12.out (by unfold maxLen; omega) (by omega) HSP.out ?_
   intro A7b c7b w7b happ
   have HBQ := hid (HBP.out.grown happ.grown HBP.out.size (fun g hg => Nat.le_trans HLO2.out ((ownsRow_block HOP.out hg).1)))
   have HKEQ := hid (HKEP.out.grown happ.grown (own_ne HOP.out (by have := HK7a.out.lt; omega)))
   have HKCQ := hid (HKCP.out.grown happ.grown (own_ne HOP.out (by have := HK7b.out.lt; omega)))
   have HROW : Hid (RowsR (· < w7b.heap.size) w7b A7b (u.np + n1) c7b (x.params ++ c.args)) := hid (own_rowsQ (S := (· < w.heap.size)) happ.own (by rw [List.length_append, HPR.out.len, HR1.out.len]) (by omega) (RowsC.keep (fun q hq => ⟨hq, fun o => cell_of_heap (happ.grown.block q (Nat.lt_of_lt_of_le hq HBP.out.size) (own_ne HOP.out (Nat.lt_of_lt_of_le hq HLO2.out))) o⟩) (HXP.out.append HXR2.out)) (fun q hq => Nat.lt_of_lt_of_le hq HBQ.out.size) (fun g hg => (ownsRow_block happ.own hg).2.1))
   have HB77 := hid (HB7P.out.grown happ.grown HB7P.out.size (fun g hg => (ownsRow_block HOP.out hg).1))
   clear happ
   refine hK.out _ _ (by exact ⟨HKEQ.out.cell 2, HKCQ.out.cell 0⟩) fun hHeld => ?_
   clear hK K
   try simp only [p7]
   refine r1 8 fun K hK => ?_
   go_simp
   have hbd := refBind_any (op := 4) (HT7.out.keep (R' := (· < w7b.heap.size)) fun q hq => ⟨Nat.lt_of_lt_of_le hq.2 (HB77.out.size), fun o => HB77.out.cell (p := ⟨q, o, none⟩) hq.2⟩) HROW.out
   rw [← HR9.out] at hbd
   obtain ⟨rl, rz9⟩ := res
   go_at_call 64
   refine hbd.mono ?_
   rintro e9 w9 ⟨hb9, A9, n9, c9, rfl, ht9⟩
   clear hbd
   have HB9 := bto HBQ hb9
   have HT9 := hid (ht9.keep (R' := fresh w w9) fun q hq => ⟨⟨Nat.le_trans HBQ.out.size hq.1, hq.2⟩, fun _ => rfl⟩)
   have HKER := hid (HKEQ.out.below hb9 HKEQ.out.lt)
   have HKCR := hid (HKCQ.out.below hb9 HKCQ.out.lt)
   clear hb9 ht9
   go_wp2_with fail
   refine hK.out _ _ (by exact ⟨HKER.out.cell 2, HKCR.out.cell 0⟩) fun hHeld => ?_
   clear hK K
   try simp only [p7]
   refine tq 9 hHeld ?_
   try simp only [p7]
   refine tq 10 hHeld ?_
   try simp only [p7]
   refine tq 11 hHeld ?_
   try simp only [p7]
   refine tq 12 hHeld ?_
   try simp only [p7]
   refine wpAnyH_done (by kernel_rfl) ?_ _
   go_wp2_with fail
   go_ret2
   exact ⟨HB9.out, A9, n9, c9, rfl, HT9.out⟩
 obtain ⟨xs5, hxl, hxc, hxr, hx1⟩ := ((HRo.out.rowsR).keep (R' := (· < w.heap.size)) (w' := w5) (fun q hq => ⟨hq, fun o => HB5.out.cell (p := ⟨q, o, none⟩) hq⟩)).values
 have HXL := hid hxl
 have HXC := hid hxc
 have HXR := hid hxr
 have HX1 := hid hx1
 clear hxl hxc hxr hx1
 refine oper_append_all (.tmp 66) (.tmp 68) 54 rfl _ 28 i0 _ 1 24 Tryz.underlying54 HI0.out HY0.out HY1.out HY2.out rfl (by decide) B5 u.np d5 vs5 rfl HO5.out A2 n2 c2 xs5 rfl (by rw [HXL.out, Nat.mul_one]) (fun e9 => by have := HRo.out.mem; rw [e9] at this; by_cases h9 : 0 < n2; (obtain ⟨b9, o9, e8, _⟩ := this h9; cases e8); omega) HXC.out HX1.out (by unfold maxLen; omega) (by omega) HSB5.out ?_
 intro A8 c8 w6 happ
 have HARG := hid (args_row HLO.out HSB5.out HR5.out HXR.out HO5.out HVL.out HA2.out (by omega) happ)
 have HNUL := hid (own_nulQ happ.own)
 have HB6 := hid (HB5.out.grown happ.grown HB5.out.size (fun g hg => Nat.le_trans HLO.out ((ownsRow_block HO5.out hg).1)))
 have HK6a := hid (HK5a.out.grown happ.grown (own_ne HO5.out (by simp; omega)))
 have HK6b := hid (HK5b.out.grown happ.grown (own_ne HO5.out (by simp)))
 clear happ
 refine hK.out _ _ (by exact ⟨HK6a.out.cell 2, HK6b.out.cell 0, HK6b.out.cell 1⟩) fun hHeld => ?_
 clear hK K
 try simp only [p7]
 have HB6n := hid (HB6.out.alloc HB6.out.size (.cells #[.int .i64 9, .int .i64 (i : Int), .int .i64 0] 53))
 have HK6a2 := hid (HK6a.out.alloc (.cells #[.int .i64 9, .int .i64 (i : Int), .int .i64 0] 53))
 have HK6b2 := hid (HK6b.out.alloc (.cells #[.int .i64 9, .int .i64 (i : Int), .int .i64 0] 53))
 have HKn := hid (Blk.new w6 53 #[.int .i64 9, .int .i64 (i : Int), .int .i64 0])
 have HARG2 := hid (rows_lift HARG.out (below_alloc w6 (.cells #[.int .i64 9, .int .i64 (i : Int), .int .i64 0] 53)))
 replace HARG := HARG2
 refine r1 2 fun K hK => ?_
 go_simp
 refine hK.out _ _ (by exact ⟨HK6a2.out.cell 2, HK6b2.out.cell 0, HK6b2.out.cell 1⟩) fun hHeld => ?_
 clear hK K
 try simp only [p7]
 refine r1 12 fun K hK => ?_
 go_simp
 have hac := refApply_any (lit_term (l := [(⟨9, (i : Int), 0⟩ : Nd)]) (g := w6.heap.size) HKn.out rfl (Nat.le_refl 1) (by simp)) HARG.out
 rw [← HAP.out] at hac
 go_at_call 66
 refine hac.mono ?_
 rintro e7 w7 ⟨hb7, A7, n7, c7, rfl, ht7⟩
 clear hac
 go_wp2_with fail
 refine hK.out _ _ (by exact ⟨(HK6a2.out.below hb7 HK6a2.out.lt).cell 2, (HK6b2.out.below hb7 HK6b2.out.lt).cell 0, (HK6b2.out.below hb7 HK6b2.out.lt).cell 1⟩) fun hHeld => ?_
 clear hK K
 try simp only [p7]
 refine tq 13 hHeld ?_
 try simp only [p7]
 refine tq 14 hHeld ?_
 try simp only [p7]
 refine tq 15 hHeld ?_
 try simp only [p7]
 refine tq 16 hHeld ?_
 try simp only [p7]
 refine tq 17 hHeld ?_
 try simp only [p7]
 refine wpAnyH_done (by kernel_rfl) ?_ _
 have HB7 := bto HB6n hb7
 have HK7a := hid (HK6a2.out.below hb7 HK6a2.out.lt)
 have HK7b := hid (HK6b2.out.below hb7 HK6b2.out.lt)
 have HT7 := hid (ht7.keep (R' := fresh w w7) fun q hq => ⟨⟨Nat.le_trans HB6n.out.size hq.1, hq.2⟩, fun _ => rfl⟩)
 clear hb7 ht7
 by_cases hz1 : az = 0
 rotate_left
 · have dz : (az != 0) = true := by simpa using hz1
   have HR9 : Hid (res = ([], az)) := hid (HR2.out.trans (if_pos hz1))
   clear hz1
   go_wp2_with fail
   go_ret2
   exact rowE_nil HR9.out HB7.out
 have dz : (az != 0) = false := by rw [hz1]; rfl
 have HR9 : Hid (res = bindR 4 (x.params ++ c.args) al) := hid (HR2.out.trans (if_neg (show ¬ (al, az).2 ≠ 0 from fun h => h hz1)))
 clear hz1
 have HK7ad := hid (blk_drew HK7a.out)
 have HK7bd := hid (blk_drew HK7b.out)
 have HB7n := HB7
 go_wp2_with fail
 have HLO0 := HLO
 have HBA2 : Hid (Below w.heap.size w (((w7).alloc (.cells #[] 28)).drew)) := hid (below_drew (HB7.out.alloc HB7.out.size _))
 have HOA : Hid ((((w7).alloc (.cells #[] 28)).drew).ownsRow (w7.heap.size) 28 1 (.slice (some ⟨w7.heap.size, 0, none⟩) 0 0) 0 []) := hid (own_nilR (by simp) (by simp))
 have HLO2 : Hid (w.heap.size ≤ w7.heap.size) := hid (by have := HB7.out.size; simpa using this)
 have HKEA : Hid (Blk (((w7).alloc (.cells #[] 28)).drew) _ _ _) := hid (blk_drew (Blk.alloc HK7a.out _))
 have HKCA : Hid (Blk (((w7).alloc (.cells #[] 28)).drew) _ _ _) := hid (blk_drew (Blk.alloc HK7b.out _))
 refine wp_region_held_drew (S := (fun w' => w'.cell? ⟨w3.heap.size, 2, none⟩ = some (.slice u.Ap u.np u.cp) ∧ w'.cell? ⟨w3.heap.size + 1, 0, none⟩ = some (.slice A1 n1 c1))) (by kernel_rfl) ?_ (fun hHeld => ?_)
 · (try dsimp only); exact ⟨HK7ad.out.cell 2, HK7bd.out.cell 0⟩
 refine tq 1 hHeld ?_
 try simp only [p7]
 refine tq 2 hHeld ?_
 try simp only [p7]
 refine tq 4 hHeld ?_
 try simp only [p7]
 refine tq 5 hHeld ?_
 try simp only [p7]
 refine tq 7 hHeld ?_
 try simp only [p7]
 refine r1 0 fun K hK => ?_
 go_simp
 refine hK.out _ _ (by exact ⟨HKEA.out.cell 2, HKCA.out.cell 0⟩) fun hHeld => ?_
 clear hK K
 try simp only [p7]
 refine r1 3 fun K hK => ?_
 obtain ⟨xs1, hxl, hxc, hxr, hx1⟩ := ((HPR.out.rowsR).keep (R' := (· < w.heap.size)) (w' := ((w7).alloc (.cells #[] 28)).drew) (fun q hq => ⟨hq, fun o => HBA2.out.cell (p := ⟨q, o, none⟩) hq⟩)).values
 have HXL1 := hid hxl
 have HXC1 := hid hxc
 have HXR1 := hid hxr
 have HX11 := hid hx1
 clear hxl hxc hxr hx1
 have hsz1 : (w7.heap.size) ≤ (((w7).alloc (.cells #[] 28)).drew).heap.size := by simp
 refine oper_append_all (.tmp 76) (.tmp 78) 54 rfl (w7.heap.size) 28 i0 _ 1 24 Tryz.underlying54 HI0.out HY0.out HY1.out HY2.out rfl (by decide) (some ⟨(w7.heap.size), 0, none⟩) 0 0 [] rfl HOA.out u.Ap u.np u.cp xs1 rfl (by rw [HXL1.out, Nat.mul_one]) (fun e9 => by have := HPR.out.mem; rw [e9] at this; by_cases h9 : 0 < u.np; (obtain ⟨b9, o9, e8, _⟩ := this h9; cases e8); omega) HXC1.out HX11.out (by unfold maxLen; omega) (by omega) hsz1 ?_
 intro A7a c7a w7a happ
 rw [Nat.zero_add, List.nil_append] at happ
 rw [Nat.zero_add]
 have HBP := hid (HBA2.out.grown happ.grown HBA2.out.size (fun g hg => Nat.le_trans HLO2.out ((ownsRow_block HOA.out hg).1)))
 have HKEP := hid (HKEA.out.grown happ.grown (own_ne HOA.out (by have := HK7a.out.lt; omega)))
 have HKCP := hid (HKCA.out.grown happ.grown (own_ne HOA.out (by have := HK7b.out.lt; omega)))
 have HOP := hid happ.own
 have HSP : Hid ((w7.heap.size) ≤ w7a.heap.size) := hid (Nat.le_trans hsz1 happ.grown.size)
 have HXP : Hid (RowsC (· < w.heap.size) w7a xs1 (x.params)) := hid (RowsC.keep (fun q hq => ⟨hq, fun o => cell_of_heap (happ.grown.block q (Nat.lt_of_lt_of_le hq HBA2.out.size) (own_ne HOA.out (Nat.lt_of_lt_of_le hq HLO2.out))) o⟩) HXR1.out)
 have HB7P := hid ((below_drew (below_alloc w7 (.cells #[] 28))).grown happ.grown (by simp) (fun g hg => (ownsRow_block HOA.out hg).1))
 clear happ
 refine hK.out _ _ (by exact ⟨HKEP.out.cell 2, HKCP.out.cell 0⟩) fun hHeld => ?_
 clear hK K
 try simp only [p7]
 refine r1 6 fun K hK => ?_
 obtain ⟨xs2, hxl, hxc, hxr, hx1⟩ := ((HR1.out.rowsR).keep (R' := (· < w.heap.size)) (w' := w7a) (fun q hq => ⟨hq, fun o => HBP.out.cell (p := ⟨q, o, none⟩) hq⟩)).values
 have HXL2 := hid hxl
 have HXC2 := hid hxc
 have HXR2 := hid hxr
 have HX12 := hid hx1
 clear hxl hxc hxr hx1
 refine oper_append_all (.tmp 79) (.tmp 81) 54 rfl w7.heap.size 28 i0 _ 1 24 Tryz.underlying54 HI0.out HY0.out HY1.out HY2.out rfl (by decide) A7a u.np c7a xs1 rfl HOP.out A1 n1 c1 xs2 rfl (by rw [HXL2.out, Nat.mul_one]) (fun e9 => by have := HR1.out.mem; rw [e9] at this; by_cases h9 : 0 < n1; (obtain ⟨b9, o9, e8, _⟩ := this h9; cases e8); omega) HXC2.out HX12.out (by unfold maxLen; omega) (by omega) HSP.out ?_
 intro A7b c7b w7b happ
 have HBQ := hid (HBP.out.grown happ.grown HBP.out.size (fun g hg => Nat.le_trans HLO2.out ((ownsRow_block HOP.out hg).1)))
 have HKEQ := hid (HKEP.out.grown happ.grown (own_ne HOP.out (by have := HK7a.out.lt; omega)))
 have HKCQ := hid (HKCP.out.grown happ.grown (own_ne HOP.out (by have := HK7b.out.lt; omega)))
 have HROW : Hid (RowsR (· < w7b.heap.size) w7b A7b (u.np + n1) c7b (x.params ++ c.args)) := hid (own_rowsQ (S := (· < w.heap.size)) happ.own (by rw [List.length_append, HPR.out.len, HR1.out.len]) (by omega) (RowsC.keep (fun q hq => ⟨hq, fun o => cell_of_heap (happ.grown.block q (Nat.lt_of_lt_of_le hq HBP.out.size) (own_ne HOP.out (Nat.lt_of_lt_of_le hq HLO2.out))) o⟩) (HXP.out.append HXR2.out)) (fun q hq => Nat.lt_of_lt_of_le hq HBQ.out.size) (fun g hg => (ownsRow_block happ.own hg).2.1))
 have HB77 := hid (HB7P.out.grown happ.grown HB7P.out.size (fun g hg => (ownsRow_block HOP.out hg).1))
 clear happ
 refine hK.out _ _ (by exact ⟨HKEQ.out.cell 2, HKCQ.out.cell 0⟩) fun hHeld => ?_
 clear hK K
 try simp only [p7]
 refine r1 8 fun K hK => ?_
 go_simp
 have hbd := refBind_any (op := 4) (HT7.out.keep (R' := (· < w7b.heap.size)) fun q hq => ⟨Nat.lt_of_lt_of_le hq.2 (HB77.out.size), fun o => HB77.out.cell (p := ⟨q, o, none⟩) hq.2⟩) HROW.out
 rw [← HR9.out] at hbd
 obtain ⟨rl, rz9⟩ := res
 go_at_call 64
 refine hbd.mono ?_
 rintro e9 w9 ⟨hb9, A9, n9, c9, rfl, ht9⟩
 clear hbd
 have HB9 := bto HBQ hb9
 have HT9 := hid (ht9.keep (R' := fresh w w9) fun q hq => ⟨⟨Nat.le_trans HBQ.out.size hq.1, hq.2⟩, fun _ => rfl⟩)
 have HKER := hid (HKEQ.out.below hb9 HKEQ.out.lt)
 have HKCR := hid (HKCQ.out.below hb9 HKCQ.out.lt)
 clear hb9 ht9
 go_wp2_with fail
 refine hK.out _ _ (by exact ⟨HKER.out.cell 2, HKCR.out.cell 0⟩) fun hHeld => ?_
 clear hK K
 try simp only [p7]
 refine tq 9 hHeld ?_
 try simp only [p7]
 refine tq 10 hHeld ?_
 try simp only [p7]
 refine tq 11 hHeld ?_
 try simp only [p7]
 refine tq 12 hHeld ?_
 try simp only [p7]
 refine wpAnyH_done (by kernel_rfl) ?_ _
 go_wp2_with fail
 go_ret2
 exact ⟨HB9.out, A9, n9, c9, rfl, HT9.out⟩
end Go.Proofs.YtplecfbdchmogaaGreat
