/- Guarded of the reference. -/
import Derived.Test.YtjllmblbbgojbaaKShort2
import Derived.Test.YtjllmblbbgojbaaKRefFine
import Derived.Deep.DeepCutAuto
namespace Go.Proofs.Ytjllmblbbgojbaa
open Go.Lib (hid)
open Go.RowKit
theorem fix_kids {n : Nd} {a : List Nd} {k : Fo} (h : RtX (n, a, k)) (h12 : n.op = 12) : ∃ B : Nat, n.b = (B : Int) ∧ B ≤ 4 ∧ (kidL k).length = 2 * B ∧ (press k).length = B ∧ (∀ m ∈ press k, 0 ≤ m.a ∧ m.a < 16) ∧ (placesT k).length = B := by
 have h1 := h.kids_len
 have hw := (Rt.wf h).2.2
 have hok := (Rt.wf h).1
 simp only [okN, Bool.and_eq_true] at hok
 have h2 := plainB_iff.1 hok.1.1
 obtain ⟨B, hB⟩ : ∃ B : Nat, n.b = (B : Int) := ⟨n.b.toNat, by omega⟩
 have hds : ds n = (List.replicate B [true, false]).flatten := by unfold ds; rw [if_pos h12, hB, Int.toNat_natCast]
 have key : ∀ (B : Nat) (F : Fo), Wf ((List.replicate B [true, false]).flatten) F → (press F).length = B ∧ (∀ m ∈ press F, 0 ≤ m.a ∧ m.a < 16) := by
  intro B
  induction B with
  | zero =>
   intro F hF
   cases F with
   | nil => exact ⟨rfl, fun m hm => by cases hm⟩
   | cons _ _ _ _ _ => exact hF.elim
  | succ B ih =>
   intro F hF
   rw [List.replicate_succ, List.flatten_cons] at hF
   match F, hF with
   | .cons p1 n1 a1 k1 (.cons p2 n2 a2 k2 x), hF =>
    obtain ⟨⟨f, rfl, hf⟩, _, _, _, hp2, _, _, _, hx⟩ := hF
    simp only at hp2
    subst hp2
    obtain ⟨g1, g2⟩ := ih x hx
    simp only [press, List.nil_append]
    refine ⟨by simp [g1], fun m hm => ?_⟩
    simp only [List.singleton_append, List.mem_cons] at hm
    rcases hm with rfl | hm
    · simp only [okF, Bool.and_eq_true, decide_eq_true_eq] at hf
      have := plainB_iff.1 hf.1
      omega
    · exact g2 m hm
   | .cons p1 n1 a1 k1 .nil, hF => exact hF.2.2.2.2.elim
   | .nil, hF => exact hF.elim
 obtain ⟨g1, g2⟩ := key B k (hds ▸ hw)
 refine ⟨B, hB, by omega, ?_, g1, g2, by unfold placesT; rw [List.length_map, g1]⟩
 rw [h1, hds]
 simp
 omega
set_option linter.unusedSimpArgs false in
set_option linter.unusedVariables false in
set_option maxRecDepth 100000 in
set_option maxHeartbeats 8000000 in
theorem refGuarded_any {b : Bk} {v : BkVal} {w : World} {t : TrV} {x : TT} (hb : BookV w v b) (ht : TrW w t x) (hx : RtX x) (hJ : JE b.entries.length x) (h12 : x.1.op = 12) :
 Calls Try.prog 36 #[.agg #[.int .i64 b.vars, .slice v.Ao v.no v.co, .slice v.Ae v.ne v.ce, .int .i64 b.nat, .slice v.Ap v.np v.cp], .agg #[.int .i64 x.1.op, .int .i64 x.1.a, .int .i64 x.1.b, .slice t.Ak t.nk t.ck, .slice t.Aa t.na t.ca, .slice t.Af t.nf t.cf]] w (BoolP (guardN (argsB b) x) w) := by
 have HBV := hid (fun (w' : World) (h : Below w.heap.size w w') => hb.below h)
 have HTX := hid (fun (w' : World) (h : Below w.heap.size w w') => ht.below h)
 have HRX := hid hx
 have HJX := hid hJ
 have hx4 : szT x ≤ 4096 := Rt.few hx
 have HNX := hid ht.nk
 have hfl := ht.funs.len
 obtain ⟨B, hB, hB4, hkl, hpl, hpa, hpt⟩ := fix_kids hx h12
 have hgr := guarded_ref (b := b) hx (m := szT x) (Nat.le_refl _) (by rw [hpt, hB, Int.toNat_natCast])
 rw [hB, Int.toNat_natCast] at hgr
 have hplp : ∀ p ∈ placesT x.2.2, 0 ≤ p ∧ p ≤ 100 := by
  intro p hp
  unfold placesT at hp
  rw [List.mem_map] at hp
  obtain ⟨m, hm, rfl⟩ := hp
  have := hpa m hm
  omega
 have HIH0 := refFine_all b v (placesT x.2.2) hplp (szT x)
 obtain ⟨places, hplaces⟩ : ∃ p, p = placesT x.2.2 := ⟨_, rfl⟩
 have hnth : ∀ j, j < B → (nth (press x.2.2) j).a = places.getD j 0 := by
  intro j hj
  rw [hplaces]
  unfold placesT
  rw [nth_eq (by rw [hpl]; exact hj), List.getD_eq_getElem?_getD, List.getElem?_map, List.getElem?_eq_getElem (by rw [hpl]; exact hj)]
  rfl
 rw [← hplaces] at hgr hplp HIH0 hpt
 obtain ⟨rec_, hrec⟩ : ∃ r, r = fineR places (argsB b) (szT x) := ⟨_, rfl⟩
 rw [← hrec] at hgr HIH0
 unfold FineRH at HIH0
 have HIH := hid HIH0
 obtain ⟨res, hR⟩ : ∃ r, r = guardN (argsB b) x := ⟨_, rfl⟩
 rw [← hR] at hgr ⊢
 have HRES := hid hgr
 have HPLP := hid hplp
 have HPT := hid hpt
 have HNTH := hid hnth
 have HKL := hid hkl
 have HFU := hid ht.funs
 obtain ⟨i0, hi, hy0, hy1, hy2⟩ := info_parts infoI
 have HI0 := hid hi
 have HY0 := hid hy0
 have HY1 := hid hy1
 have HY2 := hid hy2
 obtain ⟨bv, hbv⟩ : ∃ y, y = b.vars := ⟨_, rfl⟩
 obtain ⟨bn, hbn⟩ : ∃ y, y = b.nat := ⟨_, rfl⟩
 rw [← hbv, ← hbn] at HIH ⊢
 have hnf : t.nf = B := by rw [← hfl, hpl]
 have hnkB : t.nk = 2 * B := by rw [← hkl]; exact HNX.out
 have HPRL := hid hpl
 obtain ⟨Ao, no, co, Ae, ne, ce, Ap, npp, cpp⟩ := v
 obtain ⟨Ak, nk, ck, Aa, na, ca, Af, nf, cf⟩ := t
 obtain ⟨⟨op, va, vb⟩, ats, k⟩ := x
 simp only at HIH HTX HRX HJX HNX HRES HFU HPRL hnf hnkB hB hx4 hnth ⊢
 subst hB
 subst hnf
 have HNKB := hid hnkB
 clear hnkB
 clear hi hy0 hy1 hy2 hb ht hx hJ hbv hbn hrec hgr hplp hpt hR hkl hpl hpa HIH0 hfl hplaces h12 hnth
 have HB1 := hid (below_alloc w (.cells #[.int .i64 bv, .slice Ao no co, .slice Ae ne ce, .int .i64 bn, .slice Ap npp cpp] 26))
 have HB2 := hid (HB1.out.alloc HB1.out.size (.cells #[.int .i64 op, .int .i64 va, .int .i64 (nf : Int), .slice Ak nk ck, .slice Aa na ca, .slice Af nf cf] 71))
 have HKB2 : Hid (Blk ((w.alloc (.cells #[.int .i64 bv, .slice Ao no co, .slice Ae ne ce, .int .i64 bn, .slice Ap npp cpp] 26)).alloc (.cells #[.int .i64 op, .int .i64 va, .int .i64 (nf : Int), .slice Ak nk ck, .slice Aa na ca, .slice Af nf cf] 71)) w.heap.size 26 #[.int .i64 bv, .slice Ao no co, .slice Ae ne ce, .int .i64 bn, .slice Ap npp cpp]) := hid ((Blk.new _ _ _).alloc _)
 have HKX2 : Hid (Blk ((w.alloc (.cells #[.int .i64 bv, .slice Ao no co, .slice Ae ne ce, .int .i64 bn, .slice Ap npp cpp] 26)).alloc (.cells #[.int .i64 op, .int .i64 va, .int .i64 (nf : Int), .slice Ak nk ck, .slice Aa na ca, .slice Af nf cf] 71)) (w.heap.size + 1) 71 #[.int .i64 op, .int .i64 va, .int .i64 (nf : Int), .slice Ak nk ck, .slice Aa na ca, .slice Af nf cf]) := hid (Blk.new' (by simp))
 go_in
 go_wp2_with fail
 go_loopw [5, 6, 7] (fun pv mv jv wr => ∃ (j cp' cm : Nat) (AP AM : Option Addr), pv = .slice AP j cp' ∧ mv = .slice AM j cm ∧ jv = .int .i64 (j : Int) ∧ j ≤ nf ∧ Hid (OwnI wr (w.heap.size + 2) AP j cp' (places.take j)) ∧ Hid (OwnI wr (w.heap.size + 2) AM j cm (msOf j)) ∧ Hid (Sep (.slice AM j cm) (.slice AP j cp')) ∧ Hid (Blk wr w.heap.size 26 #[.int .i64 bv, .slice Ao no co, .slice Ae ne ce, .int .i64 bn, .slice Ap npp cpp]) ∧ Hid (Blk wr (w.heap.size + 1) 71 #[.int .i64 op, .int .i64 va, .int .i64 (nf : Int), .slice Ak nk ck, .slice Aa na ca, .slice Af nf cf]) ∧ Hid (Below w.heap.size w wr)) (fun _ _ jv _ => nf - (intOf jv).toNat)
 case atStart => exact ⟨0, 0, 0, none, none, rfl, rfl, rfl, by omega, hid (World.ownsRow_nil _ _ _ _), hid (World.ownsRow_nil _ _ _ _), hid (fun g h => by cases h), HKB2, HKX2, HB2⟩
 case round =>
  clear HKB2 HKX2 HB1 HB2
  obtain ⟨j, cp', cm, AP, AM, rfl, rfl, rfl, hj, hownP, hownM, hsep, hkb, hkx, hbw⟩ := hrel
  have zx := Blk.cell hkx.out
  have hxl := hkx.out.lt
  by_cases hlt : j < nf
  · have y20 : decide ((j : Int) < (nf : Int)) = true := decide_eq_true (by omega)
    have y21 : decide (j < nf) = true := decide_eq_true hlt
    obtain ⟨bf, of_, rfl, hbf, hm⟩ := HFU.out.mem (by omega)
    obtain ⟨_, g1, _⟩ := hm j (by rw [HPRL.out]; exact hlt)
    rw [HNTH.out j hlt] at g1
    have g1r := (hbw.out.cell (p := ⟨bf, of_ + j * 3 + 1, none⟩) hbf).trans g1
    have htk : places.take (j + 1) = places.take j ++ [places.getD j 0] := by
     rw [List.take_succ_eq_append_getElem (by rw [HPT.out]; exact hlt), List.getD_eq_getElem?_getD, List.getElem?_eq_getElem (by rw [HPT.out]; exact hlt)]
     rfl
    have HTK := hid htk
    obtain ⟨p, hp⟩ : ∃ p, p = places.getD j 0 := ⟨_, rfl⟩
    rw [← hp] at g1r HTK
    have HXM := hid (ints_cells ((OwnI.ints hownM.out (by omega))))
    clear hm g1 htk hp
    go_upto_region 7 with (at_builtin; go_loud (refine wpList_oper rfl (oper_append_one (.tmp 20) (.tmp 27) 96 3 rfl (w.heap.size + 2) i0 _ 8 Try.underlying96 HI0.out HY0.out HY1.out HY2.out rfl (by decide) (.slice AP j cp') j ((places.take j).map (Value.int .i64)) (.int .i64 p) rfl wr rfl rfl hownP.out _ rfl rfl (by omega) (by omega) ?_)); intro A5 c5 w5 happ5)
    have HO5 : Hid (OwnI w5 (w.heap.size + 2) A5 (j + 1) c5 (places.take (j + 1))) := hid (by
     have h1 := happ5.own
     rw [HTK.out]
     show w5.ownsRow (w.heap.size + 2) 3 1 (.slice A5 (j + 1) c5) (j + 1) ((places.take j ++ [p]).map (Value.int .i64))
     rw [List.map_append]
     exact h1)
    have HM5 := hid (own_sep hownM.out happ5.grown hsep.out)
    have HSP5 := hid (Sep.app hownM.out hsep.out happ5)
    have HB5 := hid (hbw.out.grown happ5.grown (by omega) (fun g hg => by have := (ownsRow_block hownP.out hg).1; omega))
    have HKB5 := hid (Blk.grown hkb.out happ5.grown (own_ne hownP.out (show w.heap.size < w.heap.size + 2 by omega)))
    have HKX5 := hid (Blk.grown hkx.out happ5.grown (own_ne hownP.out (show w.heap.size + 1 < w.heap.size + 2 by omega)))
    have hs5 := happ5.grown.size
    have hs5b : w.heap.size + 2 ≤ w5.heap.size := by omega
    have HLIT : Hid ((w5.alloc (.cells #[.int .i64 (j : Int)] 3)).ownsRow (w.heap.size + 2) 3 1 (.slice (some ⟨w5.heap.size, 0, none⟩) 1 1) 1 [.int .i64 (j : Int)]) := hid ⟨by simp, .inr ⟨w5.heap.size, 1, #[.int .i64 (j : Int)], rfl, hs5b, heap_alloc_new w5 _, by omega, by unfold maxLen; omega, rfl, rfl⟩⟩
    have HM5A := hid (World.ownsRow.alloc HM5.out (.cells #[.int .i64 (j : Int)] 3))
    have HXM5 := hid (ints_cells (OwnI.ints (zs := msOf j) HM5A.out (by omega)))
    have HNM : Hid (AM = none → j = 0 ∧ cm = 0) := hid fun e => ⟨own_zero2 hownM.out e, own_nul hownM.out e⟩
    clear happ5 g1r zx HXM
    go_wp2_with (at_builtin; go_loud (refine wpList_oper rfl (oper_append_mine (.tmp 30) (.tmp 31) 110 rfl (w.heap.size + 2) 3 i0 _ 1 8 Try.underlying110 HI0.out HY0.out HY1.out HY2.out rfl (by decide) (.slice (some ⟨w5.heap.size, 0, none⟩) 1 1) 1 [.int .i64 (j : Int)] rfl HLIT.out AM j cm ((msOf j).map (Value.int .i64)) rfl (by rw [List.length_map, msOf_len, Nat.mul_one]) HNM.out HXM5.out (marks_one _) (by unfold maxLen; omega) (by omega) (Nat.le_trans hs5b (by simp)) ?_)); intro A6 c6 w6 happ6)
    rw [Nat.add_comm 1 j] at happ6
    have hlitb : (Value.slice (some ⟨w5.heap.size, 0, none⟩) 1 1).ownBlock = some w5.heap.size := rfl
    have HO6 := hid (own_sep (World.ownsRow.alloc HO5.out (.cells #[.int .i64 (j : Int)] 3)) happ6.grown (fun g hv hu => by
     rw [hlitb] at hu
     injection hu with hu
     have := (ownsRow_block HO5.out hv).2.1
     omega))
    have HM6 : Hid (OwnI w6 (w.heap.size + 2) A6 (j + 1) c6 (msOf (j + 1))) := hid (by
     have h1 := happ6.own
     rw [msOf_succ]
     show w6.ownsRow (w.heap.size + 2) 3 1 (.slice A6 (j + 1) c6) (j + 1) (((j : Int) :: msOf j).map (Value.int .i64))
     rw [List.map_cons]
     exact h1)
    have HSP6 : Hid (Sep (.slice A6 (j + 1) c6) (.slice A5 (j + 1) c5)) := hid (fun g hv hu => by
     have h1 := (ownsRow_block HO5.out hu).2.1
     rcases happ6.new g hv with h2 | h2
     · rw [hlitb] at h2
       injection h2 with h2
       omega
     simp at h2
     omega)
    have HB6 := hid ((HB5.out.alloc (by omega) (.cells #[.int .i64 (j : Int)] 3)).grown happ6.grown (by simp; omega) (fun g hg => by rw [hlitb] at hg; injection hg with hg; omega))
    have HKB6 := hid (Blk.grown (HKB5.out.alloc (.cells #[.int .i64 (j : Int)] 3)) happ6.grown (by rw [hlitb]; intro e; injection e with e; omega))
    have HKX6 := hid (Blk.grown (HKX5.out.alloc (.cells #[.int .i64 (j : Int)] 3)) happ6.grown (by rw [hlitb]; intro e; injection e with e; omega))
    clear happ6
    go_roundw
    case rel => exact ⟨j + 1, c5, c6, A5, A6, rfl, by rw [Nat.add_comm 1 j], by go_num, by omega, HO6, HM6, HSP6, HKB6, HKX6, HB6⟩
    case measure => simp [intOf]; omega
  have y20 : decide ((j : Int) < (nf : Int)) = false := decide_eq_false (by omega)
  have y21 : decide (j < nf) = false := decide_eq_false hlt
  obtain rfl : j = nf := by omega
  have hpj : places.take j = places := List.take_of_length_le (by rw [HPT.out]; exact Nat.le_refl _)
  have hp2 := hownP.out
  rw [hpj] at hp2
  have HPB := hid (OwnI.ints hp2 (by omega))
  have HMB := hid (OwnI.ints hownM.out (by omega))
  have HNM : Hid (AM = none → j = 0 ∧ cm = 0) := hid fun e => ⟨own_zero2 hownM.out e, own_nul hownM.out e⟩
  obtain ⟨wb, rfl⟩ : ∃ wb : World, wb = wr := ⟨_, rfl⟩
  have HTB := hid (HTX.out wb hbw.out)
  have HBB := hid (HBV.out wb hbw.out)
  clear hlt hp2 hpj hownP hownM hsep
  go_wp2_with fail
  clear zx
  go_loopw [8] (fun qv wr => ∃ q : Nat, qv = .int .i64 (q : Int) ∧ q ≤ j ∧ Hid (res = guardRR rec_ (msOf j) (places.drop q) ((kidL k).drop (2 * q))) ∧ Hid (Below wb.heap.size wb wr)) (fun qv _ => j - (intOf qv).toNat)
  case atStart => exact ⟨0, rfl, by omega, hid HRES.out.symm, hid (Below.refl _ _)⟩
  case round =>
   obtain ⟨q, rfl, hq, hrs, hbb⟩ := hrel
   have HKX := hid (Blk.below hkx.out hbb.out hkx.out.lt)
   have zx := Blk.cell HKX.out
   have hxl2 := HKX.out.lt
   by_cases hlt : q < j
   case neg =>
    have y30 : decide ((q : Int) < (j : Int)) = false := decide_eq_false (by omega)
    have y31 : decide (q < j) = false := decide_eq_false hlt
    have HRF : Hid (res = true) := hid (by rw [hrs.out, List.drop_of_length_le (by rw [HPT.out]; omega)]; rfl)
    go_wp2_with fail
    go_ret
    rw [HRF.out]
    exact ⟨rfl, hbw.out.trans (hbb.out.mono hbw.out.size)⟩
   have y30 : decide ((q : Int) < (j : Int)) = true := decide_eq_true (by omega)
   have y31 : decide (q < j) = true := decide_eq_true hlt
   have hkl := HKL.out
   try simp only at hkl
   have hrs2 := hrs.out
   rw [List.drop_eq_getElem_cons (by rw [HPT.out]; exact hlt), kidAt_drop (by omega), kidAt_drop (F := k) (i := 2 * q + 1) (by omega), show 2 * q + 1 + 1 = 2 * (q + 1) from by omega, guardRR_step, show places[q]'(by rw [HPT.out]; exact hlt) = places.getD q 0 from by rw [List.getD_eq_getElem?_getD, List.getElem?_eq_getElem (by rw [HPT.out]; exact hlt)]; rfl] at hrs2
   have hpm : places.getD q 0 ∈ places := by
    rw [List.getD_eq_getElem?_getD, List.getElem?_eq_getElem (by rw [HPT.out]; exact hlt)]
    exact List.getElem_mem _
   obtain ⟨hp0, hp1⟩ := HPLP.out _ hpm
   obtain ⟨p, hp⟩ : ∃ p : Nat, places.getD q 0 = (p : Int) := ⟨(places.getD q 0).toNat, by omega⟩
   obtain ⟨bp, opp, hAP, hbp, hcp⟩ := HPB.out.at_ hlt
   rw [hp] at hcp hp1 hrs2
   rw [Int.toNat_natCast] at hrs2
   subst hAP
   have hnkB := HNKB.out
   obtain ⟨b0, o0, t0, hA, hb0, hc0, ht0⟩ := HTB.out.kid (j := 2 * q) (by simp only; omega)
   obtain ⟨b0', o0', t1, hA', _, hc1, ht1⟩ := HTB.out.kid (j := 2 * q + 1) (by simp only; omega)
   obtain ⟨rfl, rfl⟩ : b0 = b0' ∧ o0 = o0' := by rw [hA] at hA'; injection hA' with e; injection e with e1 e2; exact ⟨e1, e2⟩
   clear hA'
   try simp only at hA hc0 ht0 hc1 ht1
   subst hA
   have hm0 := kidAt_mem (F := k) (i := 2 * q) (by omega)
   have hm1 := kidAt_mem (F := k) (i := 2 * q + 1) (by omega)
   obtain ⟨ty, hty⟩ : ∃ y, y = kidAt k (2 * q) := ⟨_, rfl⟩
   obtain ⟨y, hy⟩ : ∃ y, y = kidAt k (2 * q + 1) := ⟨_, rfl⟩
   rw [← hty, ← hy] at hrs2
   rw [← hty] at hc0 ht0 hm0
   rw [← hy] at hc1 ht1 hm1
   have hys := sz_kidx (n := ⟨op, va, (j : Int)⟩) (a := ats) hm1
   have hyr0 : RtX ty := RtX.kid HRX.out hm0
   have hyr1 : RtX y := RtX.kid HRX.out hm1
   have hyj1 := JE.kid HJX.out y hm1
   have HTK := hid (fun (w' : World) (h : Below wb.heap.size wb w') => takes_any (ht0.below h) hyr0 p (by omega))
   obtain ⟨tqb, htq⟩ : ∃ t, t = takenT p ty := ⟨_, rfl⟩
   rw [← htq] at HTK hrs2
   have HRS := hid hrs2
   have hyn : j + 5 * szT y ≤ 30000 := by omega
   have hym : szT y ≤ szT ((⟨op, va, (j : Int)⟩ : Nd), ats, k) := by omega
   have HYR := hid hyr1
   have HYJ := hid hyj1
   have HYT := hid ht1
   have HBd := hid (below_drewN hbb.out 1)
   have HKXd := hid (Blk.below hkx.out HBd.out hkx.out.lt)
   have H6d := hid (hc0.below HBd.out hb0)
   have HPd := hid ((HBd.out.cell (p := ⟨bp, opp + q, none⟩) hbp).trans hcp)
   have HC1 := hid (fun (w' : World) (h : Below wb.heap.size wb w') => hc1.below h hb0)
   have HCP := hid (fun (w' : World) (h : Below wb.heap.size wb w') => (h.cell (p := ⟨bp, opp + q, none⟩) hbp).trans hcp)
   obtain ⟨s2, hs2⟩ : ∃ s, s = 2 * q := ⟨_, rfl⟩
   obtain ⟨s3, hs3⟩ : ∃ s, s = 2 * q + 1 := ⟨_, rfl⟩
   have h2w : IntKind.i64.wrap (2 * (q : Int)) = (s2 : Int) := by rw [IntKind.wrap_i64]; omega
   have h2w1 : IntKind.i64.wrap ((s2 : Int) + 1) = (s3 : Int) := by rw [IntKind.wrap_i64]; omega
   have h2d : decide (s2 < nk) = true := decide_eq_true (by omega)
   have h2n : s2 < nk := by omega
   have h2di : (s2 : Int) < (nk : Int) := by omega
   have h3d : decide (s3 < nk) = true := decide_eq_true (by omega)
   have h3n : s3 < nk := by omega
   have h3di : (s3 : Int) < (nk : Int) := by omega
   rw [← hs2] at H6d
   have HC1 : Hid (∀ (w' : World), Below wb.heap.size wb w' → Six w' b0 (o0 + s3 * 6) t1 y.1) := hid (fun w' h => by rw [hs3]; exact HC1.out w' h)
   have hqji : (q : Int) < (j : Int) := by omega
   clear hs2 hs3 hnkB hrs2 hpm hp0 hp hkl hm0 hm1 hty hy hys hyr0 hyr1 hyj1 htq ht0 ht1 hc0 hc1 hcp
   go_wp2_with fail
   refine wp_region_held_drew (S := (fun w' => w'.cell? ⟨w.heap.size + 1, 3, none⟩ = some (.slice (some ⟨b0, o0, none⟩) nk ck) ∧ w'.cell? ⟨b0, o0 + s2 * 6, none⟩ = some (.int .i64 ty.1.op) ∧ w'.cell? ⟨b0, o0 + s2 * 6 + 1, none⟩ = some (.int .i64 ty.1.a) ∧ w'.cell? ⟨b0, o0 + s2 * 6 + 2, none⟩ = some (.int .i64 ty.1.b) ∧ w'.cell? ⟨b0, o0 + s2 * 6 + 3, none⟩ = some (.slice t0.Ak t0.nk t0.ck) ∧ w'.cell? ⟨b0, o0 + s2 * 6 + 4, none⟩ = some (.slice t0.Aa t0.na t0.ca) ∧ w'.cell? ⟨b0, o0 + s2 * 6 + 5, none⟩ = some (.slice t0.Af t0.nf t0.cf) ∧ w'.cell? ⟨bp, opp + q, none⟩ = some (.int .i64 (p : Int)))) (by kernel_rfl) ?_ (fun hHeld => ?_)
   · (try dsimp only); exact ⟨HKXd.out.cell 3, H6d.out.c0, H6d.out.c1, H6d.out.c2, H6d.out.c3, H6d.out.c4, H6d.out.c5, HPd.out⟩
   refine tq 0 hHeld ?_
   try simp only [p7]
   refine tq 1 hHeld ?_
   try simp only [p7]
   refine tq 2 hHeld ?_
   try simp only [p7]
   refine tq 3 hHeld ?_
   try simp only [p7]
   refine tq 4 hHeld ?_
   try simp only [p7]
   refine tq 5 hHeld ?_
   try simp only [p7]
   refine tq 6 hHeld ?_
   try simp only [p7]
   refine tq 7 hHeld ?_
   try simp only [p7]
   refine tq 8 hHeld ?_
   try simp only [p7]
   refine tq 9 hHeld ?_
   try simp only [p7]
   refine r1 10 fun K hK => ?_
   go_simp
   go_at_call 65
   refine (HTK.out wr.drew HBd.out).mono ?_
   rintro e9 w9 ⟨rfl, hd9⟩
   have HB9 := bto HBd hd9
   have HKX9 := bko HKXd hd9
   have H69 := hid (H6d.out.below hd9 (Nat.lt_of_lt_of_le hb0 HBd.out.size))
   have HP9 := hid (HCP.out w9 HB9.out)
   clear hd9
   go_wp2_with fail
   refine hK.out _ _ (by exact ⟨HKX9.out.cell 3, H69.out.c0, H69.out.c1, H69.out.c2, H69.out.c3, H69.out.c4, H69.out.c5, HP9.out⟩) fun hHeld => ?_
   clear hK K
   try simp only [p7]
   refine tq 11 hHeld ?_
   try simp only [p7]
   refine wpAnyH_done (by kernel_rfl) ?_ _
   cases tqb with
   | false =>
    have HRF : Hid (res = false) := hid (by rw [HRS.out]; rfl)
    go_wp2_with fail
    go_ret
    rw [HRF.out]
    exact ⟨rfl, hbw.out.trans (HB9.out.mono hbw.out.size)⟩
   | true =>
   have HQ : Hid (res = (bodyRR rec_ (p + 1) (msOf j) y && guardRR rec_ (msOf j) (places.drop (q + 1)) ((kidL k).drop (2 * (q + 1))))) := hid (by rw [HRS.out, Bool.true_and])
   have hgl := HKX9.out.lt
   obtain ⟨z0, z1, z2, z3, z4, z5⟩ := HC1.out w9 HB9.out
   have zx9 := Blk.cell HKX9.out
   have HBY := hid (HB9.out.trans ((below_alloc w9 (.cells (sixV t1 y.1) 71)).mono HB9.out.size))
   have HKYY : Hid (Blk (w9.alloc (.cells (sixV t1 y.1) 71)) w9.heap.size 71 (sixV t1 y.1)) := hid (Blk.new w9 71 (sixV t1 y.1))
   have hs9 : wb.heap.size ≤ w9.heap.size := HB9.out.size
   have hkbl := hkb.out.lt
   clear zx HBd HKXd H6d HPd HKX9 H69 HP9
   try simp only [Bool.not_true]
   go_wp2_with fail
   clear z0 z1 z2 z3 z4 z5 zx9
   go_loopw [10, 11] (fun mv iv wr => ∃ (i n' d' : Nat) (A' : Option Addr) (ms' : List Int) (t' : TrV) (y' : TT), iv = .int .i64 (i : Int) ∧ mv = .slice A' n' d' ∧ i ≤ p + 1 ∧ n' + 5 * szT y' ≤ 30000 ∧ szT y' ≤ szT ((⟨op, va, (j : Int)⟩ : Nd), ats, k) ∧ Hid (bodyRR rec_ (p + 1 - i) ms' y' = bodyRR rec_ (p + 1) (msOf j) y) ∧ Hid (RtX y') ∧ Hid (JE b.entries.length y') ∧ Hid (TrW wb t' y') ∧ Hid (IntsR (· < wr.heap.size) wr A' n' d' ms') ∧ Hid (A' = none → n' = 0 ∧ d' = 0) ∧ Hid (∀ z ∈ ms', -3 ≤ z ∧ z < (places.length : Int)) ∧ Hid (Blk wr w9.heap.size 71 (sixV t' y'.1)) ∧ Hid (Below wb.heap.size wb wr)) (fun _ iv _ => p + 1 - (intOf iv).toNat)
   case atStart => exact ⟨0, j, cm, AM, msOf j, t1, y, rfl, rfl, by omega, hyn, hym, hid rfl, HYR, HYJ, HYT, hid (HMB.out.below HBY.out), HNM, hid (by rw [HPT.out]; exact msOf_bd j), HKYY, HBY⟩
   case round =>
    clear HBY HKYY hyn hym hbb HB9
    obtain ⟨i, n', d', A', ms', t', y', rfl, rfl, hi, hyn, hym, hbr, hrt, hje, htw, hmi, hnu, hmr2, hky, hbb⟩ := hrel
    have zy := Blk.cell hky.out
    have hyl := hky.out.lt
    have hcp9 := HCP.out wr hbb.out
    have HKB := hid (Blk.below hkb.out hbb.out hkb.out.lt)
    by_cases hip : i ≤ p
    case neg =>
     have y40 : decide ((i : Int) ≤ (p : Int)) = false := decide_eq_false (by omega)
     have y41 : decide (i ≤ p) = false := decide_eq_false hip
     have hb2 := hbr.out
     rw [show p + 1 - i = 0 from by omega, show bodyRR rec_ 0 ms' y' = rec_ ms' y' from rfl] at hb2
     have HFE := hid (HIH.out wr t' y' A' n' d' ms' (some ⟨bp, opp, none⟩) j cp' (HBB.out.below hbb.out) (htw.out.below hbb.out) hrt.out hje.out hym hmi.out hnu.out hyn hmr2.out (HPB.out.below hbb.out))
     rw [hb2] at HFE
     have zb := Blk.cell HKB.out
     obtain ⟨qq, hqq⟩ : ∃ q, q = bodyRR rec_ (p + 1) (msOf j) y := ⟨_, rfl⟩
     have hq9 := HQ.out
     rw [← hqq] at HFE hq9
     have HQ2 := hid hq9
     clear hq9 hqq hb2 hbr hrt hje htw hmi hnu hmr2 hip
     go_wp2_with fail
     refine (HFE.out).mono ?_
     rintro e9 w8 ⟨rfl, hd9⟩
     have HB8 := bto hbb hd9
     clear hd9 zy zb hcp9
     cases qq with
     | false =>
      have HRF : Hid (res = false) := hid (by rw [HQ2.out]; rfl)
      go_wp2_with fail
      go_ret
      rw [HRF.out]
      exact ⟨rfl, hbw.out.trans (HB8.out.mono hbw.out.size)⟩
     | true =>
      have HRN : Hid (res = guardRR rec_ (msOf j) (places.drop (q + 1)) ((kidL k).drop (2 * (q + 1)))) := hid (by rw [HQ2.out, Bool.true_and])
      go_wp2_with fail
      go_roundw
      case rel => exact ⟨q + 1, by go_num, by omega, HRN, HB8⟩
      case measure => simp [intOf]; omega
    have y40 : decide ((i : Int) ≤ (p : Int)) = true := decide_eq_true (by omega)
    have y41 : decide (i ≤ p) = true := decide_eq_true hip
    obtain ⟨r, hr⟩ : ∃ r, p - i = r := ⟨_, rfl⟩
    have hb2 := hbr.out
    rw [show p + 1 - i = r + 1 from by omega] at hb2
    have HPI : Hid ((p : Int) = (i : Int) + (r : Int)) := hid (by omega)
    have HRR := hid hr
    by_cases h5 : y'.1.op = 5
    case neg =>
     rw [bodyRR_stop h5] at hb2
     have HRF : Hid (res = false) := hid (by rw [HQ.out, ← hb2]; rfl)
     have s5 : (y'.1.op != 5) = true := by simpa using h5
     have HKYd := hid (hky.out.drewN 1)
     clear hb2 hbr hrt hje htw hmi hnu hmr2 hip h5 hr
     go_wp2_with fail
     refine wp_region_held_drew (S := (fun w' => w'.cell? ⟨w9.heap.size, 0, none⟩ = some (.int .i64 y'.1.op))) (by kernel_rfl) ?_ (fun hHeld => ?_)
     · (try dsimp only); exact HKYd.out.cell 0
     refine tq 0 hHeld ?_
     try simp only [p7]
     refine tq 1 hHeld ?_
     try simp only [p7]
     refine tq 2 hHeld ?_
     try simp only [p7]
     refine tq 3 hHeld ?_
     try simp only [p7]
     refine tq 4 hHeld ?_
     try simp only [p7]
     refine dk 5 hHeld ?_
     try simp only [p7]
     refine dk 6 hHeld ?_
     try simp only [p7]
     refine dk 7 hHeld ?_
     try simp only [p7]
     refine dk 8 hHeld ?_
     try simp only [p7]
     refine dk 9 hHeld ?_
     try simp only [p7]
     refine dk 10 hHeld ?_
     try simp only [p7]
     refine dk 11 hHeld ?_
     try simp only [p7]
     refine dk 12 hHeld ?_
     try simp only [p7]
     refine dk 13 hHeld ?_
     try simp only [p7]
     refine tq 14 hHeld ?_
     try simp only [p7]
     refine wpAnyH_done (by kernel_rfl) ?_ _
     go_wp2_with fail
     go_ret
     rw [HRF.out]
     exact ⟨rfl, hbw.out.trans ((below_drewN hbb.out 1).mono hbw.out.size)⟩
    obtain ⟨n9, a9, k9⟩ := y'
    obtain ⟨n1, a1, k1, n2, a2, k2, rfl, rfl, hs1, hs2, _, _⟩ := two_split hrt.out (.inr (.inl h5))
    have hnk9 : t'.nk = 2 := htw.out.nk
    obtain ⟨b9, o9, t1', hA, hb9, hcy0, ht1⟩ := htw.out.kid (j := 0) (by omega)
    obtain ⟨b9', o9', t2, hA', _, hcy1, ht2⟩ := htw.out.kid (j := 1) (by omega)
    obtain ⟨rfl, rfl⟩ : b9 = b9' ∧ o9 = o9' := by rw [hA] at hA'; injection hA' with e; injection e with e1 e2; exact ⟨e1, e2⟩
    clear hA'
    simp only at hcy0 ht1 hcy1 ht2 hA
    rw [show kidAt (Fo.cons [] n1 a1 k1 (Fo.cons [] n2 a2 k2 Fo.nil)) 0 = (n1, a1, k1) from rfl] at hcy0 ht1
    rw [show kidAt (Fo.cons [] n1 a1 k1 (Fo.cons [] n2 a2 k2 Fo.nil)) 1 = (n2, a2, k2) from rfl] at hcy1 ht2
    rw [Nat.zero_mul, Nat.add_zero] at hcy0
    rw [Nat.one_mul] at hcy1
    obtain ⟨hz1, hz2⟩ := @sz_two n9 n1 n2 [] a1 a2 k1 k2
    have hj1 := JE.kid hje.out (n1, a1, k1) (by simp [kidL])
    have hj2 := JE.kid hje.out (n2, a2, k2) (by simp [kidL])
    rw [bodyRR_lam h5] at hb2
    have HFI := hid (fun (w' : World) (h : Below wb.heap.size wb w') (hmi' : IntsR (· < w'.heap.size) w' A' n' d' ms') => HIH.out w' t1' (n1, a1, k1) A' n' d' ms' (some ⟨bp, opp, none⟩) j cp' (HBB.out.below h) (ht1.below h) hs1 hj1 (by omega) hmi' hnu.out (by omega) hmr2.out (HPB.out.below h))
    obtain ⟨qf, hqq⟩ : ∃ q, q = rec_ ms' (n1, a1, k1) := ⟨_, rfl⟩
    rw [← hqq] at HFI hb2
    have HB2 := hid hb2
    have HMI := hmi
    have HS2 := hid hs2
    have HJ2 := hid hj2
    have HT2 := hid ht2
    have hyn2 : n' + 1 + 5 * szT (n2, a2, k2) ≤ 30000 := by omega
    have hym3 : szT (n2, a2, k2) ≤ szT ((⟨op, va, (j : Int)⟩ : Nd), ats, k) := by omega
    have hn1k : n' ≤ 100000 := by omega
    obtain ⟨Aky, nky, cky, Aay, nay, cay, Afy, nfy, cfy⟩ := t'
    simp only at hA hnk9
    subst hnk9
    subst hA
    have h5b := h5
    obtain ⟨o5, va5, vb5⟩ := n9
    simp only at h5b hky zy
    subst h5b
    have HBd := hid (below_drewN hbb.out 1)
    have HKBd := hid (HKB.out.drewN 1)
    have HKYd := hid (hky.out.drewN 1)
    have H9d := hid (hcy0.below HBd.out hb9)
    have HMId := hid (hmi.out.below (below_drewN (Below.refl wr.heap.size wr) 1))
    have HFJ := hid (HFI.out wr.drew HBd.out HMId.out)
    clear hqq hb2 hbr hs1 hs2 hj1 hj2 ht1 ht2 hrt hje htw hmi h5 hyn hym hz1 hz2 hr
    go_wp2_with fail
    refine wp_region_held_drew (S := (fun w' => (∀ i, w'.cell? ⟨w.heap.size, i, none⟩ = (#[.int .i64 bv, .slice Ao no co, .slice Ae ne ce, .int .i64 bn, .slice Ap npp cpp] : Array Value)[i]?) ∧ w'.cell? ⟨w9.heap.size, 0, none⟩ = some (.int .i64 5) ∧ w'.cell? ⟨w9.heap.size, 3, none⟩ = some (.slice (some ⟨b9, o9, none⟩) 2 cky) ∧ w'.cell? ⟨b9, o9, none⟩ = some (.int .i64 n1.op) ∧ w'.cell? ⟨b9, o9 + 1, none⟩ = some (.int .i64 n1.a) ∧ w'.cell? ⟨b9, o9 + 2, none⟩ = some (.int .i64 n1.b) ∧ w'.cell? ⟨b9, o9 + 3, none⟩ = some (.slice t1'.Ak t1'.nk t1'.ck) ∧ w'.cell? ⟨b9, o9 + 4, none⟩ = some (.slice t1'.Aa t1'.na t1'.ca) ∧ w'.cell? ⟨b9, o9 + 5, none⟩ = some (.slice t1'.Af t1'.nf t1'.cf))) (by kernel_rfl) ?_ (fun hHeld => ?_)
    · (try dsimp only); exact ⟨HKBd.out.cell, HKYd.out.cell 0, HKYd.out.cell 3, H9d.out.c0, H9d.out.c1, H9d.out.c2, H9d.out.c3, H9d.out.c4, H9d.out.c5⟩
    refine tq 0 hHeld ?_
    try simp only [p7]
    refine tq 1 hHeld ?_
    try simp only [p7]
    refine tq 2 hHeld ?_
    try simp only [p7]
    refine tq 3 hHeld ?_
    try simp only [p7]
    refine tq 4 hHeld ?_
    try simp only [p7]
    refine tq 5 hHeld ?_
    try simp only [p7]
    refine tq 6 hHeld ?_
    try simp only [p7]
    refine tq 7 hHeld ?_
    try simp only [p7]
    refine tq 8 hHeld ?_
    try simp only [p7]
    refine tq 9 hHeld ?_
    try simp only [p7]
    refine tq 10 hHeld ?_
    try simp only [p7]
    refine tq 11 hHeld ?_
    try simp only [p7]
    refine r1 12 fun K hK => ?_
    go_simp
    go_at_call 66
    refine (HFJ.out).mono ?_
    rintro e7 w7 ⟨rfl, hd7⟩
    have HB7 := bto HBd hd7
    have HKB7 := bko HKBd hd7
    have HKY7 := bko HKYd hd7
    have H97 := hid (H9d.out.below hd7 (Nat.lt_of_lt_of_le hb9 HBd.out.size))
    have HMI7 := hid (HMI.out.below ((below_drewN (Below.refl wr.heap.size wr) 1).trans hd7))
    clear hd7
    go_wp2_with fail
    refine hK.out _ _ (by exact ⟨HKB7.out.cell, HKY7.out.cell 0, HKY7.out.cell 3, H97.out.c0, H97.out.c1, H97.out.c2, H97.out.c3, H97.out.c4, H97.out.c5⟩) fun hHeld => ?_
    clear hK K
    try simp only [p7]
    refine tq 13 hHeld ?_
    try simp only [p7]
    refine tq 14 hHeld ?_
    try simp only [p7]
    refine wpAnyH_done (by kernel_rfl) ?_ _
    have HK1 := hid (fun (w' : World) (h : Below wb.heap.size wb w') => hcy1.below h hb9)
    have zy7 := Blk.cell HKY7.out
    try simp only at zy7
    cases qf with
    | false =>
     have HRF : Hid (res = false) := hid (by rw [HQ.out, ← HB2.out]; rfl)
     go_wp2_with fail
     go_ret
     rw [HRF.out]
     exact ⟨rfl, hbw.out.trans (HB7.out.mono hbw.out.size)⟩
    | true =>
     obtain ⟨mk, hmk⟩ : ∃ m : Int, m = if r = 0 then -2 else -1 := ⟨_, rfl⟩
     have hb3 := HB2.out
     rw [← hmk, Bool.true_and] at hb3
     have HBR : Hid (bodyRR rec_ (p + 1 - (i + 1)) (mk :: ms') (n2, a2, k2) = bodyRR rec_ (p + 1) (msOf j) y) := hid (by rw [← hb3, show p + 1 - (i + 1) = r from by have := HRR.out; omega])
     have hr := HRR.out
     have hmk1 : -3 ≤ mk ∧ mk < 0 := by rw [hmk]; split <;> omega
     have HMK := hid hmk
     have HUN := hid (under_any HMI7.out hn1k hnu.out 1 (by omega) mk)
     have hcp7 := HCP.out w7 HB7.out
     clear hb3 hmk hr
     go_upto_if 88 with fail
     go_cut [12] (fun kv wx => kv = .int .i64 mk ∧ wx = w7)
     case first =>
      by_cases hr0 : r = 0
      · have HM : Hid (mk = -2) := hid (by rw [HMK.out, if_pos hr0])
        have hpi := HPI.out
        have y50 : ((i : Int) == (p : Int)) = true := by rw [beq_iff_eq]; omega
        have y51 : (i : Int) = (p : Int) := by omega
        have y52 : i = p := by omega
        have y53 : (i == p) = true := by rw [beq_iff_eq]; exact y52
        have HX1 := hid y51
        have HX2 := hid y52
        clear y51 y52 hpi
        go_wp2_with fail
        go_meet
        exact ⟨by rw [HM.out], rfl⟩
      have HM : Hid (mk = -1) := hid (by rw [HMK.out, if_neg hr0])
      have hpi := HPI.out
      have y50 : ((i : Int) == (p : Int)) = false := by rw [beq_eq_false_iff_ne]; omega
      have y53 : (i == p) = false := by rw [beq_eq_false_iff_ne]; omega
      clear hpi
      go_wp2_with fail
      go_meet
      exact ⟨by rw [HM.out], rfl⟩
     case rest =>
     obtain ⟨rfl, hwc⟩ := hcut
     subst hwc
     obtain ⟨w7, rfl⟩ : ∃ x : World, x = wc := ⟨_, rfl⟩
     go_wp2_with fail
     refine (HUN.out).mono ?_
     rintro e8 w8 ⟨hd8, A8, n8, c8, rfl, hm8, hn8, hfr8⟩
     have hml : ms'.length = n' := HMI7.out.len
     obtain rfl : n8 = 1 + n' := by have h1 := hm8.len; rw [List.length_append, List.length_replicate, hml] at h1; exact h1.symm
     have HB8 := bto HB7 hd8
     have HKY8 := bko HKY7 hd8
     have HM8 := hid hm8
     have HN8 := hid hn8
     have zy8 := Blk.cell HKY8.out
     have zf8 := Blk.frozen HKY8.out
     try simp only at zy8
     obtain ⟨z0, z1, z2, z3, z4, z5⟩ := HK1.out w8 HB8.out
     obtain ⟨Ak2, nk2, ck2, Aa2, na2, ca2, Af2, nf2, cf2⟩ := t2
     try simp only at z0 z1 z2 z3 z4 z5
     have hg6 := hid (grown_sixs w8 w9.heap.size (.int .i64 n2.op) (.int .i64 n2.a) (.int .i64 n2.b) (.slice Ak2 nk2 ck2) (.slice Aa2 na2 ca2) (.slice Af2 nf2 cf2))
     have hy8 := HKY8.out.lt
     have hA8 : ∀ z ∈ (mk :: ms'), -3 ≤ z ∧ z < (places.length : Int) := by
      intro z hz
      rcases List.mem_cons.1 hz with rfl | hz
      · omega
      exact hmr2.out z hz
     have HA8 := hid hA8
     have hy7 := HKY7.out.lt
     have HM6 := hid (ints_grown HM8.out (fun ad h => by have := hfr8 ad h; omega) hg6.out)
     clear hd8 hm8 hn8 zy7 hA8 hfr8 hcp7 hmk1
     go_wp2_with fail
     go_roundw
     case rel => exact ⟨i + 1, 1 + n', c8, A8, mk :: ms', ⟨Ak2, nk2, ck2, Aa2, na2, ca2, Af2, nf2, cf2⟩, (n2, a2, k2), by go_num, rfl, by omega, by omega, hym3, HBR, HS2, HJ2, HT2, HM6, HN8, HA8, hid (blk_sixs HKY8.out _ _ _ _ _ _), hid (HB8.out.grown hg6.out (by omega) (fun q hq => by injection hq with hq; omega))⟩
     case measure => (simp [intOf]) <;> omega
end Go.Proofs.Ytjllmblbbgojbaa
