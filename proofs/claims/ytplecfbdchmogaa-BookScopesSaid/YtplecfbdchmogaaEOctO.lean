/- Bytes that are read: a row (octet). -/
import Derived.Test.YtplecfbdchmogaaEOctM
namespace Go.Proofs.Ytplecfbdchmogaa
open Go.Lib (hid)
open Go.RowKit
def rdAcc {α : Type} (chk : Rd → Bool) (f : Rdg α) (acc : List α) (k : Nat) (s : Rd) : List α × Rd := if chk (rdTimes chk f k s).2 then ([], (rdTimes chk f k s).2) else (acc ++ (rdTimes chk f k s).1, (rdTimes chk f k s).2)
section
variable {α : Type} {chk : Rd → Bool} {f : Rdg α} {acc : List α} {k : Nat} {s : Rd}
theorem rdTimes_bad : ∀ (k : Nat) (s : Rd), chk (rdTimes chk f k s).2 = true → (rdTimes chk f k s).1 = []
 | 0, s, _ => rfl
 | k + 1, s, h => by
  simp only [rdTimes] at h ⊢
  by_cases h1 : chk (f s).2 = true
  · rw [if_pos h1]
  · rw [if_neg h1] at h ⊢
    by_cases h2 : chk (rdTimes chk f k (f s).2).2 = true
    · rw [if_pos h2]
    rw [if_neg h2] at h
    exact absurd h h2
theorem rdAcc_start : rdAcc chk f [] k s = rdTimes chk f k s := by
 unfold rdAcc
 by_cases h : chk (rdTimes chk f k s).2 = true
 · rw [if_pos h, ← rdTimes_bad k s h]
 rw [if_neg h, List.nil_append]
theorem rdAcc_bad (h : chk (f s).2 = true) : rdAcc chk f acc (k + 1) s = ([], (f s).2) := by
 have e : rdTimes chk f (k + 1) s = ([], (f s).2) := by
  simp only [rdTimes]
  rw [if_pos h]
 simp only [rdAcc, e, h, if_true]
theorem rdAcc_step (h : chk (f s).2 = false) : rdAcc chk f acc (k + 1) s = rdAcc chk f (acc ++ [(f s).1]) k (f s).2 := by
 unfold rdAcc
 simp only [rdTimes, h]
 by_cases h2 : chk (rdTimes chk f k (f s).2).2 = true
 · simp [h2]
 simp [h2]
theorem rdAcc_end (h : chk s = true → acc = []) : rdAcc chk f acc 0 s = (acc, s) := by
 by_cases h1 : chk s = true
 · simp [rdAcc, rdTimes, h1, h h1]
 simp [rdAcc, rdTimes, h1]
theorem rdTimes_odd (hf : ∀ s, (f s).2.odd = s.odd) : ∀ (k : Nat) (s : Rd), (rdTimes chk f k s).2.odd = s.odd
 | 0, s => rfl
 | k + 1, s => by
  simp only [rdTimes]
  split
  · exact hf s
  · split
    · exact (rdTimes_odd hf k _).trans (hf s)
    exact (rdTimes_odd hf k _).trans (hf s)
end
theorem rdInt_odd (most : Nat) (s : Rd) : (rdInt most s).2.odd = s.odd := rdNext_odd most s
theorem rdNode_odd (s : Rd) : (rdNode s).2.odd = s.odd := by
 simp only [rdNode, Rdg.seq, Rdg.pure, rdInt_odd]
theorem rdRow_odd (s : Rd) : (rdRow s).2.odd = s.odd := by
 simp only [rdRow, rdList, Rdg.seq]
 rw [rdTimes_odd rdNode_odd, rdNext_odd]
section
variable {R : Nat → Prop} {w0 w w1 w' : World} {g n c k : Nat} {A : Option Addr} {bs : List Nat} {z : Int} {q : Rd}
theorem RdE.eq_ (h : RdE R w0 g A n c bs q w w') {o : Bool} (ho : q.odd = o) : Moved (fun q => q = g) none w w' ∧ ∃ k z, RdS R w0 g A n c bs k z w' ∧ q = ⟨bs.drop k, z, o⟩ := by
 obtain ⟨h1, k, z, h2, h3, h4⟩ := h
 exact ⟨h1, k, z, h2, by obtain ⟨a, b, d⟩ := q; simp only at h3 h4 ho; rw [h3, h4, ho]⟩
theorem rows_moved {base sz : Nat} {e : TypeId} {v : Value} {m : Nat} {xs : List Value} (h : w.ownsRow base e sz v m xs) (hm : Moved (fun q => q = g) none w w') (hg : g < base) : w'.ownsRow base e sz v m xs := by
 obtain ⟨h1, h2⟩ := h
 refine ⟨h1, ?_⟩
 rcases h2 with h2 | ⟨b, cap, cur, hv, hb, hh, r⟩
 · exact Or.inl h2
 subst hv
 exact Or.inr ⟨b, cap, cur, rfl, hb, (hm.block b (Array.getElem?_eq_some_iff.1 hh).1 (by omega) (by simp)).trans hh, r⟩
theorem RdS.grown {base : Nat} {row : Option Nat} (h : RdS R w0 g A n c bs k z w) (hg : w.grownBy w' row) (hne : ∀ b, row = some b → base ≤ b) (hR : ∀ q, R q → q < base) (hgb : g < base) (hb0 : w0.heap.size ≤ base) : RdS R w0 g A n c bs k z w' := by
 have hsz := hg.size
 refine ⟨h.bel.grown hg h.bel.size (fun b e => Nat.le_trans hb0 (hne b e)), h.blk.grown hg (fun e => by have := hne g e.symm; omega), h.ge, h.byt.keep fun q hq => ⟨hq, fun o => cell_of_heap (hg.block q (h.off q hq).1 (fun e => by have := hne q e.symm; have := hR q hq; omega)) o⟩, fun q hq => ⟨Nat.lt_of_lt_of_le (h.off q hq).1 hsz, (h.off q hq).2⟩, h.le⟩
theorem moved_grown {row : Option Nat} (hm : Moved (fun q => q = g) none w w1) (hg : w1.grownBy w' row) (hne : ∀ b, row = some b → w.heap.size ≤ b) : Moved (fun q => q = g) none w w' :=
 hm.trans (Moved.of_grown hg) (fun b e => Or.inr (hne b e))
end
def RdT (R : Nat → Prop) (w0 : World) (g : Nat) (A : Option Addr) (n c : Nat) (bs : List Nat) (r : List Nd × Rd) (w : World) (e : Ending) (w' : World) : Prop :=
 RdE R w0 g A n c bs r.2 w w' ∧ ∃ A' n' c', e = .returned (.slice A' n' c') ∧ TermR (fresh w w') w' A' n' c' r.1
theorem make_capT (n : Nat) (hn : n ≤ 1000000) : ∃ cur : Array Value, cur.size = n * 3 ∧ ∀ w : World, (Instr.makeSlice 28 (.int .i64 0) (.int .i64 (n : Int))).run Try.prog w = .ok (.slice (some ⟨w.heap.size, 0, none⟩) 0 n) (w.alloc (.cells cur 59)) := by
 obtain ⟨i, hi, h1, h2, h3⟩ := info_parts infoN'
 refine ⟨madeCells (Value.agg #[Value.int .i64 0, Value.int .i64 0, Value.int .i64 0]).cells (n * 3), by simp [madeCells], fun w => ?_⟩
 rw [run_make (P := Try.prog) w 28 59 i _ Try.underlying28 hi h1 .i64 .i64 0 n (by omega) (by omega) (by rw [h3]; omega) (by omega), h2]
 rfl
set_option maxRecDepth 100000 in
set_option maxHeartbeats 4000000 in
theorem obrow_any {R : Nat → Prop} {w0 w : World} {g n c k : Nat} {A : Option Addr} {bs : List Nat} {z : Int} (h : RdS R w0 g A n c bs k z w) (o : Bool) :
 Calls Try.prog 38 #[.pointer (some ⟨g, 0, none⟩)] w (RdT R w0 g A n c bs (rdRow ⟨bs.drop k, z, o⟩) w) := by
 obtain ⟨i0, hi, hy0, hy1, hy2⟩ := info_parts infoN'
 have HI0 := hid hi
 have HY0 := hid hy0
 have HY1 := hid hy1
 have HY2 := hid hy2
 have hHN := onum_any h o 4096 (by decide)
 have hle := rdNext_le 4096 ⟨bs.drop k, z, o⟩
 have hod := rdNext_odd 4096 ⟨bs.drop k, z, o⟩
 have HRR : Hid (rdRow ⟨bs.drop k, z, o⟩ = rdTimes chkE rdNode (rdNext 4096 ⟨bs.drop k, z, o⟩).1 (rdNext 4096 ⟨bs.drop k, z, o⟩).2) := hid rfl
 unfold rdInt at hHN
 obtain ⟨q, hq⟩ : ∃ q, q = rdNext 4096 ⟨bs.drop k, z, o⟩ := ⟨_, rfl⟩
 rw [← hq] at hHN hle hod HRR
 obtain ⟨v, s⟩ := q
 simp only at hHN hle hod HRR
 obtain ⟨res, hres⟩ : ∃ r, r = rdRow ⟨bs.drop k, z, o⟩ := ⟨_, rfl⟩
 rw [← hres] at HRR ⊢
 have HN := hid hHN
 have HOD := hid hod
 have hgl := h.lt
 have hw0 := h.bel.size
 have hR : ∀ q, R q → q < w.heap.size := fun q hq => (h.off q hq).1
 clear h hq hres hHN hod hi hy0 hy1 hy2
 go_in
 go_wp2_with fail
 refine (HN.out).mono ?_
 rintro e w1 ⟨rfl, h1⟩
 obtain ⟨hm1, k1, z1, hs1, hse⟩ := h1.eq_ HOD.out
 subst hse
 have HM1 := hid hm1
 have HS1 := hid hs1
 have HL := hid (left_any hs1)
 clear h1 hm1 hs1
 go_wp2_with fail
 refine (HL.out).mono ?_
 rintro e w2 ⟨hb2, A', c', rfl, hy2⟩
 have hn1 := HS1.out.byt.few
 obtain ⟨m, hm⟩ : ∃ m, m = n - k1 := ⟨_, rfl⟩
 rw [← hm]
 obtain ⟨p, hp⟩ : ∃ p, p = min v m := ⟨_, rfl⟩
 have hmin : min (v : Int) (m : Int) = (p : Int) := by omega
 have hmin2 : min v m = p := hp.symm
 have hpl : p ≤ 4096 := by omega
 obtain ⟨cur, hcur, hmk⟩ := make_capT p (by omega)
 have HM2 := hid (HM1.out.trans (row' := none) (Moved.of_below (S := fun q => q = g) hb2) (fun _ e => by cases e))
 have hbm := below_alloc w2 (.cells cur 59)
 have HM3 := hid (HM2.out.trans (row' := none) (Moved.of_below (S := fun q => q = g) hbm) (fun _ e => by cases e))
 have HS3 := hid ((HS1.out.below hb2).below hbm)
 have HO3 : Hid (OwnN (w2.alloc (.cells cur 59)) w.heap.size (.slice (some ⟨w2.heap.size, 0, none⟩) 0 p) []) := hid (World.ownsRow_made w2 cur p HM2.out.size (by unfold maxLen; omega) hcur)
 have HRS := hid hR
 have HGL := hid hgl
 have HW0 := hid hw0
 clear hb2 hy2 hcur hbm hR hgl hw0
 rcases (show (m < v ∧ m = p) ∨ (v ≤ m ∧ v = p) from by omega) with ⟨hvm, hpe⟩ | ⟨hvm, hpe⟩
 all_goals
  subst hpe
  clear hm hmin2
  try clear hp
  go_wp2_with fail
  go_loopw [4, 16] (fun sv iv wr => ∃ (A2 : Option Addr) (c2 i : Nat) (acc : List Nd) (k' : Nat) (z' : Int), sv = .slice A2 acc.length c2 ∧ iv = .int .i64 (i : Int) ∧ i ≤ v ∧ Hid (acc.length = i) ∧ Hid (RdS R w0 g A n c bs k' z' wr) ∧ Hid (Moved (fun q => q = g) none w wr) ∧ Hid (OwnN wr w.heap.size (.slice A2 acc.length c2) acc) ∧ Hid (res = rdAcc chkE rdNode acc (v - i) ⟨bs.drop k', z', o⟩) ∧ Hid (z' = 0 ∨ acc = [])) (fun _ iv _ => v - (intOf iv).toNat)
  case atStart => exact ⟨some ⟨w2.heap.size, 0, none⟩, _, 0, [], k1, z1, rfl, rfl, Nat.zero_le _, hid rfl, HS3, HM3, HO3, hid (by rw [HRR.out, Nat.sub_zero, rdAcc_start]), hid (Or.inr rfl)⟩
  case round =>
   obtain ⟨A2, c2, i, acc, k', z', rfl, rfl, hiv, HAL, HS4, HM4, HO4, HRES, HZ⟩ := hrel
   by_cases hlt : i < v
   rotate_left
   · have hiv2 : i = v := by omega
     have d1 : decide ((i : Int) < (v : Int)) = false := decide_eq_false (by omega)
     have d2 : decide (i < v) = false := decide_eq_false hlt
     have HRES2 : Hid (res = (acc, ⟨bs.drop k', z', o⟩)) := hid (by
      rw [HRES.out, hiv2, Nat.sub_self]
      exact rdAcc_end (fun hc => by
       rcases HZ.out with h | h
       · simp [chkE, h] at hc
       exact h))
     have hacl : acc.length ≤ 4096 := by have := HAL.out; omega
     clear hiv2
     go_wp2_with fail
     go_ret
     rw [HRES2.out]
     obtain ⟨A9, n9, c9, e9, h9⟩ := OwnN.termS HO4.out (by omega)
     injection e9 with e1 e2 e3
     subst e1 e2 e3
     exact ⟨⟨HM4.out, k', z', HS4.out, rfl, rfl⟩, A2, acc.length, c2, rfl, h9.keep fun b hb => ⟨⟨(ownsRow_block HO4.out hb).1, (ownsRow_block HO4.out hb).2.1⟩, fun _ => rfl⟩⟩
   have d1 : decide ((i : Int) < (v : Int)) = true := decide_eq_true (by omega)
   have d2 : decide (i < v) = true := decide_eq_true hlt
   have HN5 := hid (onum_any HS4.out o 255 (by decide))
   obtain ⟨q5, hq5⟩ : ∃ q, q = rdInt 255 ⟨bs.drop k', z', o⟩ := ⟨_, rfl⟩
   have hod5 := rdInt_odd 255 ⟨bs.drop k', z', o⟩
   rw [← hq5] at HN5 hod5
   obtain ⟨x5, s5⟩ := q5
   simp only at HN5 hod5
   have HQ5 := hid hq5.symm
   have HOD5 := hid hod5
   clear hq5 hod5
   go_wp2_with fail
   refine (HN5.out).mono ?_
   rintro e w5 ⟨rfl, h5⟩
   obtain ⟨hm5, k5, z5, hs5, hse5⟩ := h5.eq_ HOD5.out
   simp only at hse5
   subst hse5
   have HM5 := hid (HM4.out.trans (row' := none) hm5 (fun _ e => by cases e))
   have HS5 := hid hs5
   have HO5 := hid (rows_moved HO4.out hm5 HGL.out)
   clear h5 hm5 hs5
   have HN6 := hid (onum_any HS5.out o 1048576 (by decide))
   obtain ⟨q6, hq6⟩ : ∃ q, q = rdInt 1048576 ⟨bs.drop k5, z5, o⟩ := ⟨_, rfl⟩
   have hod6 := rdInt_odd 1048576 ⟨bs.drop k5, z5, o⟩
   rw [← hq6] at HN6 hod6
   obtain ⟨x6, s6⟩ := q6
   simp only at HN6 hod6
   have HQ6 := hid hq6.symm
   have HOD6 := hid hod6
   clear hq6 hod6
   go_wp2_with fail
   refine (HN6.out).mono ?_
   rintro e w6 ⟨rfl, h6⟩
   obtain ⟨hm6, k6, z6, hs6, hse6⟩ := h6.eq_ HOD6.out
   simp only at hse6
   subst hse6
   have HM6 := hid (HM5.out.trans (row' := none) hm6 (fun _ e => by cases e))
   have HS6 := hid hs6
   have HO6 := hid (rows_moved HO5.out hm6 HGL.out)
   clear h6 hm6 hs6
   have HN7 := hid (onum_any HS6.out o 1048576 (by decide))
   obtain ⟨q7, hq7⟩ : ∃ q, q = rdInt 1048576 ⟨bs.drop k6, z6, o⟩ := ⟨_, rfl⟩
   have hod7 := rdInt_odd 1048576 ⟨bs.drop k6, z6, o⟩
   rw [← hq7] at HN7 hod7
   obtain ⟨x7, s7⟩ := q7
   simp only at HN7 hod7
   have HQ7 := hid hq7.symm
   have HOD7 := hid hod7
   clear hq7 hod7
   go_wp2_with fail
   refine (HN7.out).mono ?_
   rintro e w7 ⟨rfl, h7⟩
   obtain ⟨hm7, k7, z7, hs7, hse7⟩ := h7.eq_ HOD7.out
   simp only at hse7
   subst hse7
   have HM7 := hid (HM6.out.trans (row' := none) hm7 (fun _ e => by cases e))
   have HS7 := hid hs7
   have HO7 := hid (rows_moved HO6.out hm7 HGL.out)
   clear h7 hm7 hs7
   have HND : Hid (rdNode ⟨bs.drop k', z', o⟩ = (⟨x5, x6, x7⟩, ⟨bs.drop k7, z7, o⟩)) := hid (by
    simp only [rdNode, Rdg.seq, Rdg.pure, HQ5.out, HQ6.out, HQ7.out])
   have HSZ := hid HM7.out.size
   have hacl : acc.length ≤ 4096 := by have := HAL.out; omega
   have HLL : Hid (acc.length + 1 = (acc ++ [(⟨x5, x6, x7⟩ : Nd)]).length) := hid (by simp)
   by_cases hz7 : z7 = 0
   · have dz : (z7 != 0) = false := by rw [hz7]; rfl
     have HZ7 := hid hz7
     have HRES2 : Hid (res = rdAcc chkE rdNode (acc ++ [⟨x5, x6, x7⟩]) (v - (i + 1)) ⟨bs.drop k7, z7, o⟩) := hid (by
      rw [HRES.out, show v - i = (v - (i + 1)) + 1 from by omega, rdAcc_step (by rw [HND.out]; simp [chkE, HZ7.out]), HND.out])
     clear hz7
     go_wp2_with (at_builtin; go_loud (refine wpList_oper rfl (oper_append_node (.tmp 18) (.tmp 26) 28 rfl w.heap.size i0 Try.underlying28 HI0.out HY0.out HY1.out HY2.out (.slice A2 acc.length c2) acc ⟨x5, x6, x7⟩ w7 (by rfl) (by rfl) HO7.out _ (by rfl) (by rfl) (by omega) HSZ.out ?_)); intro A8 c8 w8 hown8 happ8; have HOWN8 := hid hown8; have HAPP8 := hid happ8; have z2 := (HS7.out.grown happ8.grown (base := w.heap.size) (fun b e => (ownsRow_block HO7.out e).1) HRS.out HGL.out HW0.out).blk.cell 2; clear hown8 happ8)
     go_roundw
     case rel =>
      have hg8 := HAPP8.out.grown
      have hne8 : ∀ b, (Value.slice A2 acc.length c2).ownBlock = some b → w.heap.size ≤ b := fun b e => (ownsRow_block HO7.out e).1
      exact ⟨A8, c8, i + 1, acc ++ [⟨x5, x6, x7⟩], k7, z7, by rw [HLL.out], by go_num, by omega, hid (by rw [← HLL.out, HAL.out]), hid (HS7.out.grown hg8 hne8 HRS.out HGL.out HW0.out), hid (moved_grown HM7.out hg8 hne8), by rw [← HLL.out]; exact HOWN8, HRES2, hid (Or.inl HZ7.out)⟩
     case measure => simp [intOf]; omega
   have dz : (z7 != 0) = true := by simpa using hz7
   have HRES2 : Hid (res = ([], ⟨bs.drop k7, z7, o⟩)) := hid (by
    rw [HRES.out, show v - i = (v - (i + 1)) + 1 from by omega, rdAcc_bad (by rw [HND.out]; simp [chkE, hz7]), HND.out])
   clear hz7
   go_wp2_with (at_builtin; go_loud (refine wpList_oper rfl (oper_append_node (.tmp 18) (.tmp 26) 28 rfl w.heap.size i0 Try.underlying28 HI0.out HY0.out HY1.out HY2.out (.slice A2 acc.length c2) acc ⟨x5, x6, x7⟩ w7 (by rfl) (by rfl) HO7.out _ (by rfl) (by rfl) (by omega) HSZ.out ?_)); intro A8 c8 w8 hown8 happ8; have HOWN8 := hid hown8; have HAPP8 := hid happ8; have z2 := (HS7.out.grown happ8.grown (base := w.heap.size) (fun b e => (ownsRow_block HO7.out e).1) HRS.out HGL.out HW0.out).blk.cell 2; clear hown8 happ8)
   go_ret
   rw [HRES2.out]
   have hg8 := HAPP8.out.grown
   have hne8 : ∀ b, (Value.slice A2 acc.length c2).ownBlock = some b → w.heap.size ≤ b := fun b e => (ownsRow_block HO7.out e).1
   exact ⟨⟨moved_grown HM7.out hg8 hne8, k7, z7, HS7.out.grown hg8 hne8 HRS.out HGL.out HW0.out, rfl, rfl⟩, none, 0, 0, rfl, rfl, Nat.le_refl _, Nat.zero_le _, fun _ => rfl, fun h => absurd h (by omega)⟩
end Go.Proofs.Ytplecfbdchmogaa
