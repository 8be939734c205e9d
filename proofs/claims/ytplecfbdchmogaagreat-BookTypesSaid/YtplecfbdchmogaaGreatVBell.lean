/- from of the reference (orders of universes), walked. -/
import Derived.Test.YtplecfbdchmogaaGreatVGraphs
import Derived.Test.YtplecfbdchmogaaGreatVBooks
import Derived.Deep.QuietTactic
import Derived.BigQuiet
import Derived.RegionTactic
namespace Go.Proofs.YtplecfbdchmogaaGreat
open Go.Lib (hid)
open Go.RowKit
def intsA (ds : List Int) : Array Value := (ds.map (Value.int .i64)).toArray
theorem intsA_set (ds : List Int) (i : Nat) (z : Int) : (intsA ds).setIfInBounds i (.int .i64 z) = intsA (ds.set i z) := by
 unfold intsA
 rw [List.setIfInBounds_toArray, List.map_set]
theorem intsA_at {ds : List Int} {i : Nat} (h : i < ds.length) : (intsA ds)[i]? = some (.int .i64 (DB ds i)) := by
 unfold intsA DB
 simp [List.getElem?_eq_getElem h]
theorem Blk.int_at {w : World} {g : Nat} {ds : List Int} (h : Blk w g 3 (intsA ds)) {i : Nat} (hi : i < ds.length) : w.cell? ⟨g, i, none⟩ = some (.int .i64 (DB ds i)) := by
 rw [h.cell, intsA_at hi]
theorem Blk.int_set {w : World} {g : Nat} {ds : List Int} (h : Blk w g 3 (intsA ds)) (i : Nat) (z : Int) : Blk (w.setCell ⟨g, i, none⟩ (.int .i64 z)) g 3 (intsA (ds.set i z)) := by
 rw [← intsA_set]
 exact h.set_ i _
theorem ini_ok {N low : Nat} {os : List Nd} (hlow : low < N) : OkB N os low 0 (iniB N low) := by
 have hll : low < (List.replicate N noneB).length := by simpa using hlow
 refine ⟨by simp [iniB], fun v hv hn => ?_⟩
 unfold iniB at hn ⊢
 rw [getD_set hll] at hn ⊢
 by_cases hvl : v = low
 · subst hvl
   rw [if_pos rfl]
   exact ⟨⟨_, .one (by omega) (by omega)⟩, by omega, by omega⟩
 rw [if_neg hvl] at hn
 exact absurd (by unfold DB; rw [List.getD_eq_getElem?_getD, List.getElem?_replicate]; split <;> rfl) hn
def BellPost (r : Option (List Int)) (w : World) (e : Ending) (w' : World) : Prop := Below w.heap.size w w' ∧ ((r = none ∧ e = .returned (.tuple #[.slice none 0 0, .bool false])) ∨ ∃ ds A n c, r = some ds ∧ e = .returned (.tuple #[.slice A n c, .bool true]) ∧ IntsR (· < w'.heap.size) w' A n c ds)
theorem make_ints (n : Nat) (hn : n ≤ 1000000) (w : World) : (Instr.makeSlice 123 (.int .i64 (n : Int)) (.int .i64 (n : Int))).run Tryz.prog w = .ok (.slice (some ⟨w.heap.size, 0, none⟩) n n) (w.alloc (.cells (intsA (List.replicate n 0)) 3)) := by
 obtain ⟨i, hi, h1, h2, h3⟩ := info_parts infoI
 rw [run_make (P := Tryz.prog) w 123 3 i (.int .i64 0) Tryz.underlying123 hi h1 .i64 .i64 n n (by omega) (by omega) (by rw [h3]; omega) (by omega), h2]
 simp only [Int.toNat_natCast, Nat.mul_one]
 show Result.ok _ (w.alloc (.cells (madeCells #[Value.int .i64 0] n) _)) = _
 rw [made_marks]
 unfold intsA
 rw [List.map_replicate]
set_option linter.unusedSimpArgs false in
set_option linter.unusedVariables false in
set_option maxRecDepth 100000 in
set_option maxHeartbeats 4000000 in
theorem from_any {w : World} {A : Option Addr} {n c : Nat} {os : List Nd} (ht : TermV w A n c os) (vars low : Nat) (hv : vars ≤ 16) (hn : n ≤ 64) (hlow : low ≤ vars) (hos : ∀ o ∈ os, badO (vars : Int) o = false) :
 Calls Tryz.prog 82 #[.int .i64 (vars : Int), .slice A n c, .int .i64 (low : Int)] w (BellPost (frmB (edgs (vars + 1) os) (vars + 1 + 1) (iniB (vars + 1) low)) w) := by
 have HT := hid (fun (w' : World) (h : Below w.heap.size w w') => ht.below h)
 have HLN := hid ht.len
 have hmk := make_ints (vars + 1) (by omega)
 rw [show ((vars + 1 : Nat) : Int) = (vars : Int) + 1 from by omega] at hmk
 obtain ⟨res, hres⟩ : ∃ res, res = frmB (edgs (vars + 1) os) (vars + 1 + 1) (iniB (vars + 1) low) := ⟨_, rfl⟩
 rw [← hres]
 have HRES := hid hres
 have HOS := hid hos
 clear ht hres hos
 have HB0 := hid (below_alloc w (.cells (intsA (List.replicate (vars + 1) 0)) 3))
 have HK0 := hid (Blk.new w 3 (intsA (List.replicate (vars + 1) 0)))
 go_in
 go_wp2_with fail
 go_loopw [9] (fun iv wr => ∃ (v : Nat) (ds : List Int), iv = .int .i64 (v : Int) ∧ v ≤ vars + 1 ∧ ds.length = vars + 1 ∧ Hid (∀ j, j < v → DB ds j = noneB) ∧ Hid (Blk wr w.heap.size 3 (intsA ds)) ∧ Hid (Below w.heap.size w wr)) (fun i _ => vars + 1 - (intOf i).toNat)
 case atStart => exact ⟨0, List.replicate (vars + 1) 0, rfl, by omega, by simp, hid (fun j hj => absurd hj (by omega)), HK0, HB0⟩
 case round =>
  obtain ⟨v, ds, rfl, hvv, hdl, hdn, hbk, hbw⟩ := hrel
  have hbl := hbk.out.lt
  by_cases hlt : v ≤ vars
  · have hib : decide ((v : Int) ≤ (vars : Int)) = true := decide_eq_true (by omega)
    have hib2 : decide (v ≤ vars) = true := decide_eq_true hlt
    have cv := hbk.out.int_at (i := v) (by omega)
    have hfz := Blk.frozen hbk.out
    have HKn : Hid (Blk (wr.setCell ⟨w.heap.size, v, none⟩ (.int .i64 (-1000000000))) w.heap.size 3 (intsA (ds.set v noneB))) := hid (hbk.out.int_set v noneB)
    have HDn : Hid (∀ j, j < v + 1 → DB (ds.set v noneB) j = noneB) := hid (fun j hj => by
     rw [getD_set (by omega)]
     split
     · rfl
     exact hdn.out j (by omega))
    have HBn : Hid (Below w.heap.size w (wr.setCell ⟨w.heap.size, v, none⟩ (.int .i64 (-1000000000)))) := hid (hbw.out.setCell (by simp) _)
    go_wp2_with fail
    go_roundw
    case rel => exact ⟨v + 1, ds.set v noneB, by go_num, by omega, by simpa using hdl, HDn, HKn, HBn⟩
    case measure => simp [intOf]; omega
  have hib : decide ((v : Int) ≤ (vars : Int)) = false := decide_eq_false (by omega)
  have hib2 : decide (v ≤ vars) = false := decide_eq_false hlt
  have hds : ds = List.replicate (vars + 1) noneB := by
   apply List.ext_getElem (by simpa using hdl)
   intro i h1 h2
   have := hdn.out i (by omega)
   unfold DB at this
   rw [List.getD_eq_getElem?_getD, List.getElem?_eq_getElem h1] at this
   simpa using this
  subst hds
  have cl := hbk.out.int_at (i := low) (by simp; omega)
  have hfz := Blk.frozen hbk.out
  have hll : low < vars + 1 := by omega
  clear hdn hdl
  have HK1 : Hid (Blk (wr.setCell ⟨w.heap.size, low, none⟩ (.int .i64 0)) w.heap.size 3 (intsA (iniB (vars + 1) low))) := hid (hbk.out.int_set low 0)
  have HB1 : Hid (Below w.heap.size w (wr.setCell ⟨w.heap.size, low, none⟩ (.int .i64 0))) := hid (hbw.out.setCell (by simp) _)
  have HOK0 : Hid (OkB (vars + 1) os low 0 (iniB (vars + 1) low)) := hid (ini_ok hll)
  go_wp2_with fail
  clear hbk hbw hbl cl hfz hib hib2 hlt hvv
  go_loopw [10] (fun rv wr => ∃ (r : Nat) (ds : List Int), rv = .int .i64 (r : Int) ∧ r ≤ vars + 2 ∧ Hid (OkB (vars + 1) os low (81000 * (r : Int)) ds) ∧ Hid (frmB (edgs (vars + 1) os) (vars + 2 - r) ds = res) ∧ Hid (Blk wr w.heap.size 3 (intsA ds)) ∧ Hid (Below w.heap.size w wr)) (fun i _ => vars + 2 - (intOf i).toNat)
  case atStart => exact ⟨0, iniB (vars + 1) low, rfl, by omega, HOK0, hid HRES.out.symm, HK1, HB1⟩
  case round =>
   obtain ⟨r, ds, rfl, hr, hok, hfr, hbk, hbw⟩ := hrel
   by_cases hlt : r ≤ vars + 1
   case neg =>
    have hib : decide ((r : Int) ≤ (vars : Int) + 1) = false := decide_eq_false (by omega)
    have HR : Hid (res = none) := hid (by
     have := hfr.out
     rw [show vars + 2 - r = 0 from by omega] at this
     exact this.symm)
    go_wp2_with fail
    go_ret2
    exact ⟨hbw.out, .inl ⟨HR.out, rfl⟩⟩
   have hib : decide ((r : Int) ≤ (vars : Int) + 1) = true := decide_eq_true (by omega)
   have hfr2 := hfr.out
   rw [show vars + 2 - r = (vars + 1 - r) + 1 from by omega] at hfr2
   have HFR := hid hfr2
   clear hfr hfr2
   obtain ⟨wo, rfl⟩ : ∃ wo : World, wo = wr := ⟨_, rfl⟩
   go_wp2_with fail
   go_loopw [11, 12] (fun tv iv wr => ∃ (v : Nat) (d1 : List Int) (t : Bool), tv = .bool t ∧ iv = .int .i64 (v : Int) ∧ v ≤ vars + 1 ∧ Hid (swp ((List.range v).map fun x => (0, x, (0 : Int))) ds false = (d1, t)) ∧ Hid (OkB (vars + 1) os low (81000 * (r : Int) + 1000 * (v : Int)) d1) ∧ Hid (Blk wr w.heap.size 3 (intsA d1)) ∧ Hid (Below w.heap.size w wr)) (fun _ i _ => vars + 1 - (intOf i).toNat)
   case atStart => exact ⟨0, ds, false, rfl, rfl, by omega, hid rfl, hid (by rw [show (81000 * (r : Int) + 1000 * ((0 : Nat) : Int)) = 81000 * (r : Int) from by omega]; exact hok.out), hbk, hbw⟩
   case round =>
    obtain ⟨v, d1, t, rfl, rfl, hvv, hsw, hok1, hbk1, hbw1⟩ := hrel
    clear hbk hbw
    by_cases hv2 : v ≤ vars
    · have hib2 : decide ((v : Int) ≤ (vars : Int)) = true := decide_eq_true (by omega)
      have hib3 : decide (v ≤ vars) = true := decide_eq_true hv2
      have hl := hok1.out.len
      have hbl := hbk1.out.lt
      have hfz := Blk.frozen hbk1.out
      have c0 := hbk1.out.int_at (i := 0) (by omega)
      have cv := hbk1.out.int_at (i := v) (by omega)
      obtain ⟨x0, hx0⟩ : ∃ x0, x0 = DB d1 0 := ⟨_, rfl⟩
      obtain ⟨xv, hxv⟩ : ∃ xv, xv = DB d1 v := ⟨_, rfl⟩
      rw [← hx0] at c0
      rw [← hxv] at cv
      have hstep : swp ((List.range (v + 1)).map fun x => (0, x, (0 : Int))) ds false = (rlx d1 0 v 0, t || rlxT d1 0 v 0) := by
       rw [List.range_succ, List.map_append, swp_app, hsw.out]; rfl
      have hed : Ed (vars + 1) os ((0 : Nat) : Int) ((v : Nat) : Int) 0 := ⟨by omega, .inr (.inl ⟨rfl, rfl⟩)⟩
      have hokn := (rlx_ok hok1.out (e := (0, v, 0)) ⟨hed, show (-1000 : Int) ≤ 0 by decide, show (0 : Int) ≤ 1000 by decide⟩).1
      rw [show 81000 * (r : Int) + 1000 * (v : Int) + 1000 = 81000 * (r : Int) + 1000 * ((v + 1 : Nat) : Int) from by omega] at hokn
      by_cases c1 : x0 ≠ noneB ∧ xv < x0
      · have hr1 : rlx d1 0 v 0 = d1.set v x0 := by
         unfold rlx
         rw [if_pos (by rw [Int.add_zero]; show DB d1 0 ≠ noneB ∧ DB d1 v < DB d1 0; rw [← hx0, ← hxv]; exact c1), Int.add_zero]
         show d1.set v (DB d1 0) = _
         rw [← hx0]
        have ht1 : rlxT d1 0 v 0 = true := decide_eq_true (by rw [Int.add_zero]; show DB d1 0 ≠ noneB ∧ DB d1 v < DB d1 0; rw [← hx0, ← hxv]; exact c1)
        rw [hr1, ht1, Bool.or_true] at hstep
        rw [hr1] at hokn
        have HS := hid hstep
        have HO := hid hokn
        have d1' : (x0 != -1000000000) = true := by simpa [noneB] using c1.1
        have d2' : decide (xv < x0) = true := decide_eq_true c1.2
        have HKn := hid (fun (k : Nat) => (hbk1.out.drewN k).int_set v x0)
        have HBn := hid (fun (k : Nat) => (below_drewN hbw1.out k).setCell (p := ⟨w.heap.size, v, none⟩) (by simp) (.int .i64 x0))
        clear hstep hokn hr1 ht1 hx0 hxv c1 hed hl
        go_wp2_with fail
        go_quiet (fail)
        go_wp2_with fail
        go_roundw
        case rel => exact ⟨v + 1, d1.set v x0, true, rfl, by go_num, by omega, HS, HO, hid (HKn.out _), hid (HBn.out _)⟩
        case measure => simp [intOf]; omega
      have hr1 : rlx d1 0 v 0 = d1 := by
       unfold rlx
       rw [if_neg (by rw [Int.add_zero]; show ¬ (DB d1 0 ≠ noneB ∧ DB d1 v < DB d1 0); rw [← hx0, ← hxv]; exact c1)]
      have ht1 : rlxT d1 0 v 0 = false := decide_eq_false (by rw [Int.add_zero]; show ¬ (DB d1 0 ≠ noneB ∧ DB d1 v < DB d1 0); rw [← hx0, ← hxv]; exact c1)
      rw [hr1, ht1, Bool.or_false] at hstep
      rw [hr1] at hokn
      have HS := hid hstep
      have HO := hid hokn
      have HKn := hid (fun (k : Nat) => hbk1.out.drewN k)
      have HBn := hid (fun (k : Nat) => below_drewN hbw1.out k)
      clear hstep hokn hr1 ht1 hx0 hxv hed hl
      by_cases c2 : x0 = noneB
      · have d1' : (x0 != -1000000000) = false := by simpa [noneB] using c2
        clear c1 c2
        go_wp2_with fail
        go_quiet (fail)
        go_wp2_with fail
        go_roundw
        case rel => exact ⟨v + 1, d1, t, rfl, by go_num, by omega, HS, HO, hid (HKn.out _), hid (HBn.out _)⟩
        case measure => simp [intOf]; omega
      have d1' : (x0 != -1000000000) = true := by simpa [noneB] using c2
      have d2' : decide (xv < x0) = false := decide_eq_false (fun h => c1 ⟨c2, h⟩)
      clear c1 c2
      go_wp2_with fail
      go_quiet (fail)
      go_wp2_with fail
      go_roundw
      case rel => exact ⟨v + 1, d1, t, rfl, by go_num, by omega, HS, HO, hid (HKn.out _), hid (HBn.out _)⟩
      case measure => simp [intOf]; omega
    have hib2 : decide ((v : Int) ≤ (vars : Int)) = false := decide_eq_false (by omega)
    have hib3 : decide (v ≤ vars) = false := decide_eq_false hv2
    obtain rfl : v = vars + 1 := by omega
    obtain ⟨wo2, rfl⟩ : ∃ wo : World, wo = wr := ⟨_, rfl⟩
    obtain ⟨F, hF⟩ : ∃ F : Nd → Nat × Nat × Int, F = fun o => (o.op.toNat, o.b.toNat, o.a) := ⟨_, rfl⟩
    have HSW0 := hid hsw.out
    clear hsw
    go_wp2_with fail
    go_loopw [11, 13] (fun tv iv wr => ∃ (i : Nat) (d2 : List Int) (t2 : Bool), tv = .bool t2 ∧ iv = .int .i64 (i : Int) ∧ i ≤ n ∧ Hid (swp ((os.take i).map F) d1 t = (d2, t2)) ∧ Hid (OkB (vars + 1) os low (81000 * (r : Int) + 1000 * ((vars + 1 : Nat) : Int) + 1000 * (i : Int)) d2) ∧ Hid (Blk wr w.heap.size 3 (intsA d2)) ∧ Hid (Below w.heap.size w wr)) (fun _ i _ => n - (intOf i).toNat)
    case atStart => exact ⟨0, d1, t, rfl, rfl, by omega, hid rfl, hid (by rw [show 81000 * (r : Int) + 1000 * ((vars + 1 : Nat) : Int) + 1000 * ((0 : Nat) : Int) = 81000 * (r : Int) + 1000 * ((vars + 1 : Nat) : Int) from by omega]; exact hok1.out), hbk1, hbw1⟩
    case round =>
     obtain ⟨i, d2, t2, rfl, rfl, hin, hsw2, hok2, hbk2, hbw2⟩ := hrel
     clear hbk1 hbw1
     by_cases hi2 : i < n
     rotate_left
     · have hib4 : decide ((i : Int) < (n : Int)) = false := decide_eq_false (by omega)
       have hib5 : decide (i < n) = false := decide_eq_false hi2
       have hall : swp (edgs (vars + 1) os) ds false = (d2, t2) := by
        unfold edgs
        rw [swp_app, HSW0.out]
        have := hsw2.out
        rw [List.take_of_length_le (by rw [HLN.out]; omega), hF] at this
        exact this
       have hfr3 := HFR.out
       simp only [frmB, hall] at hfr3
       have hokn := hok2.out
       cases t2 with
       | true =>
        have HF3 : Hid (frmB (edgs (vars + 1) os) (vars + 2 - (r + 1)) d2 = res) := hid (by
         rw [show vars + 2 - (r + 1) = vars + 1 - r from by omega]
         simpa using hfr3)
        have HO3 : Hid (OkB (vars + 1) os low (81000 * ((r + 1 : Nat) : Int)) d2) := hid ⟨hokn.len, fun v hv hn => by
         obtain ⟨a1, a2, a3⟩ := hokn.way v hv hn
         exact ⟨a1, by omega, by omega⟩⟩
        clear hall hfr3 hokn hF
        go_wp2_with fail
        go_roundw
        case rel => exact ⟨r + 1, d2, by go_num, by omega, HO3, HF3, hbk2, hbw2⟩
        case measure => simp [intOf]; omega
       | false =>
        have HR : Hid (res = some d2) := hid (by simpa using hfr3.symm)
        have HI : Hid (IntsR (· < wr.heap.size) wr (some ⟨w.heap.size, 0, none⟩) (vars + 1) (vars + 1) d2) := hid ⟨hokn.len, by omega, fun _ => ⟨w.heap.size, 0, rfl, hbk2.out.lt, fun k hk => by
         rw [Nat.zero_add, hbk2.out.int_at (by rw [hokn.len]; exact hk)]
         have : k < d2.length := by rw [hokn.len]; exact hk
         unfold DB
         rw [List.getD_eq_getElem?_getD, List.getD_eq_getElem?_getD, List.getElem?_eq_getElem this]
         rfl⟩⟩
        clear hall hfr3 hokn hF
        go_wp2_with fail
        go_ret2
        exact ⟨hbw2.out, .inr ⟨d2, _, _, _, HR.out, rfl, HI.out⟩⟩
     have hib4 : decide ((i : Int) < (n : Int)) = true := decide_eq_true (by omega)
     have hib5 : decide (i < n) = true := decide_eq_true hi2
     obtain ⟨ba, oa, rfl, hba, g0, g1, g2⟩ := (HT.out wr hbw2.out).at_ hi2
     have hio : i < os.length := by rw [HLN.out]; exact hi2
     obtain ⟨o, ho⟩ : ∃ o, o = nth os i := ⟨_, rfl⟩
     have hmem : o ∈ os := by rw [ho, nth_eq hio]; exact List.getElem_mem _
     have hbad := HOS.out o hmem
     have hbi := bad_is hbad
     have htk : os.take (i + 1) = os.take i ++ [o] := by rw [ho, nth_eq hio, List.take_add_one, List.getElem?_eq_getElem hio]; rfl
     rw [← ho] at g0 g1 g2
     obtain ⟨oo, oadd, ob⟩ := o
     simp only at hbi g0 g1 g2
     obtain ⟨u, rfl⟩ : ∃ u : Nat, oo = u := ⟨oo.toNat, by omega⟩
     obtain ⟨z, rfl⟩ : ∃ z : Nat, ob = z := ⟨ob.toNat, by omega⟩
     have hl := hok2.out.len
     have hbl := hbk2.out.lt
     have HKa := hid (hbk2.out.alloc (.cells #[.int .i64 (u : Int), .int .i64 oadd, .int .i64 (z : Int)] 78))
     have HBa := hid (hbw2.out.alloc hbw2.out.size (.cells #[.int .i64 (u : Int), .int .i64 oadd, .int .i64 (z : Int)] 78))
     have hfz := Blk.frozen HKa.out
     have cu := HKa.out.int_at (i := u) (by omega)
     have cz := HKa.out.int_at (i := z) (by omega)
     obtain ⟨xu, hxu⟩ : ∃ xu, xu = DB d2 u := ⟨_, rfl⟩
     obtain ⟨xz, hxz⟩ : ∃ xz, xz = DB d2 z := ⟨_, rfl⟩
     rw [← hxu] at cu
     rw [← hxz] at cz
     have hstep : swp ((os.take (i + 1)).map F) d1 t = (rlx d2 u z oadd, t2 || rlxT d2 u z oadd) := by
      rw [htk, List.map_append, swp_app, hsw2.out, hF]; rfl
     have hed : Ed (vars + 1) os ((u : Nat) : Int) ((z : Nat) : Int) oadd := ⟨by omega, .inr (.inr ⟨_, hmem, rfl, rfl, rfl⟩)⟩
     have hokn := (rlx_ok hok2.out (e := (u, z, oadd)) ⟨hed, by simp only; omega, by simp only; omega⟩).1
     rw [show 81000 * (r : Int) + 1000 * ((vars + 1 : Nat) : Int) + 1000 * (i : Int) + 1000 = 81000 * (r : Int) + 1000 * ((vars + 1 : Nat) : Int) + 1000 * ((i + 1 : Nat) : Int) from by omega] at hokn
     have hxb : -1000000000 ≤ xu ∧ xu ≤ 900000000 := by
      by_cases hn : DB d2 u = noneB
      · rw [hxu, hn]; unfold noneB; omega
      have := (hok2.out.way u (by omega) hn).2
      rw [hxu]
      omega
     obtain ⟨hxb1, hxb2⟩ := hxb
     have hob : -1000 ≤ oadd ∧ oadd ≤ 1000 := by omega
     obtain ⟨hob1, hob2⟩ := hob
     have huz : u < vars + 1 ∧ z < vars + 1 := by omega
     obtain ⟨hu1, hz1⟩ := huz
     have hwrap : IntKind.i64.wrap (xu + oadd) = xu + oadd := by rw [IntKind.wrap_i64]; omega
     clear hmem hbad hbi htk ho hF hl
     by_cases c1 : xu ≠ noneB ∧ xz < xu + oadd
     · have hr1 : rlx d2 u z oadd = d2.set z (xu + oadd) := by
        unfold rlx
        rw [if_pos (by show DB d2 u ≠ noneB ∧ DB d2 z < DB d2 u + oadd; rw [← hxu, ← hxz]; exact c1)]
        show d2.set z (DB d2 u + oadd) = _
        rw [← hxu]
       have ht1 : rlxT d2 u z oadd = true := decide_eq_true (by show DB d2 u ≠ noneB ∧ DB d2 z < DB d2 u + oadd; rw [← hxu, ← hxz]; exact c1)
       rw [hr1, ht1, Bool.or_true] at hstep
       rw [hr1] at hokn
       have HS := hid hstep
       have HO := hid hokn
       have d1' : (xu != -1000000000) = true := by simpa [noneB] using c1.1
       have d2' : decide (xz < xu + oadd) = true := decide_eq_true c1.2
       have HKn := hid (fun (k : Nat) => (HKa.out.drewN k).int_set z (xu + oadd))
       have HBn := hid (fun (k : Nat) => (below_drewN HBa.out k).setCell (p := ⟨w.heap.size, z, none⟩) (by simp) (.int .i64 (xu + oadd)))
       clear hstep hokn hr1 ht1 hxu hxz c1 hed
       go_wp2_with fail
       go_quiet (fail)
       go_wp2_with fail
       go_region
       all_goals
        go_wp2_with fail
        go_roundw
        case rel => exact ⟨i + 1, d2.set z (xu + oadd), true, rfl, by go_num, by omega, HS, HO, hid (HKn.out _), hid (HBn.out _)⟩
        case measure => simp [intOf]; omega
     have hr1 : rlx d2 u z oadd = d2 := by
      unfold rlx
      rw [if_neg (by show ¬ (DB d2 u ≠ noneB ∧ DB d2 z < DB d2 u + oadd); rw [← hxu, ← hxz]; exact c1)]
     have ht1 : rlxT d2 u z oadd = false := decide_eq_false (by show ¬ (DB d2 u ≠ noneB ∧ DB d2 z < DB d2 u + oadd); rw [← hxu, ← hxz]; exact c1)
     rw [hr1, ht1, Bool.or_false] at hstep
     rw [hr1] at hokn
     have HS := hid hstep
     have HO := hid hokn
     have HKn := hid (fun (k : Nat) => HKa.out.drewN k)
     have HBn := hid (fun (k : Nat) => below_drewN HBa.out k)
     clear hstep hokn hr1 ht1 hxu hxz hed
     by_cases c2 : xu = noneB
     · have d1' : (xu != -1000000000) = false := by simpa [noneB] using c2
       clear c1 c2
       go_wp2_with fail
       go_quiet (fail)
       go_wp2_with fail
       go_roundw
       case rel => exact ⟨i + 1, d2, t2, rfl, by go_num, by omega, HS, HO, hid (HKn.out _), hid (HBn.out _)⟩
       case measure => simp [intOf]; omega
     have d1' : (xu != -1000000000) = true := by simpa [noneB] using c2
     have d2' : decide (xz < xu + oadd) = false := decide_eq_false (fun h => c1 ⟨c2, h⟩)
     clear c1 c2
     go_wp2_with fail
     go_quiet (fail)
     go_wp2_with fail
     go_roundw
     case rel => exact ⟨i + 1, d2, t2, rfl, by go_num, by omega, HS, HO, hid (HKn.out _), hid (HBn.out _)⟩
     case measure => simp [intOf]; omega
end Go.Proofs.YtplecfbdchmogaaGreat
