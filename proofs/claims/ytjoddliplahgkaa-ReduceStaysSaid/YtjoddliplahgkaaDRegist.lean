/- What is registered in a book. -/
import Derived.Test.YtjoddliplahgkaaDShort2
import Derived.Test.YtjoddliplahgkaaDNumbers
import Derived.Deep.DeepCutAuto
namespace Go.Proofs.Ytjoddliplahgkaa
open Go.Lib (hid)
open Go.RowKit Go.Maps
theorem MapG.look {P : Program} {k t e : TypeId} {w : World} {b n : Nat} {g : GF} (h : MapG P k e w b n g) (K : PairKey P k t e) (l r : Int) (hl : (Lit.int .i64 l).wf = true) (hr : (Lit.int .i64 r).wf = true) :
 (Instr.lookup t (.map (some b)) (.agg #[.int .i64 l, .int .i64 r]) false).run P w = .ok (.int .i64 ((g l r).getD 0)) w := by
 obtain ⟨D, h1, h2⟩ := h
 obtain ⟨kl, hk⟩ := K.key l r hl hr
 obtain ⟨e1, e2⟩ := h2 l r kl hk
 obtain ⟨c, hrun, hc, _⟩ := h1.lookup_int K.keyed K.ht K.he (K.hz w) hk
 rw [hc] at e2
 injection e2 with e2
 injection e2 with _ e2
 rw [hrun, e2]
theorem oper_setG {P : Program} {k t e : TypeId} {w : World} {b n : Nat} {g : GF} {o : Oper} {a : Act} {K' : Act → World → Prop} {Q : Exit → Act → World → Prop}
 (m x v : Operand) (hop : o.op = Op.mapUpdate t m x v) (K : PairKey P k t e) (hm : a.eval m = .map (some b)) (hown : MapG P k e w b n g) (hn : n < 100000000000000) (l r z : Int) (hx : a.eval x = .agg #[.int .i64 l, .int .i64 r]) (hl : (Lit.int .i64 l).wf = true) (hr : (Lit.int .i64 r).wf = true) (hv : a.eval v = .int .i64 z) (hzw : (Lit.int .i64 z).wf = true)
 (hK : ∀ w', MapG P k e w' b (n + 1) (updG g l r z) → w.grownBy w' (some b) → K' (a.put o.dst undef) w') : Oper.wp P o a w K' Q := by
 obtain ⟨D, h1, h2⟩ := hown
 obtain ⟨kl, hk⟩ := K.key l r hl hr
 obtain ⟨w', hrun, r1, r2⟩ := h1.update K.keyed K.ht (by unfold maxLen; omega) hk (plainElem_int K.he hzw)
 unfold Oper.wp
 simp [execOp, hop, hm, hx, hv, hrun, Result.andThen]
 exact hK _ (MapG.set_ K h1 h2 hk r1) r2
abbrev MapP (w : World) (b n : Nat) (g : GF) : Prop := MapG Try.prog 115 3 w b n g
def G01 (g : GF) : Prop := ∀ l r, g l r = none ∨ g l r = some 1
theorem G01.upd {g : GF} (h : G01 g) (l r : Int) : G01 (updG g l r 1) := fun l' r' => by
 unfold updG
 split
 · exact .inr rfl
 exact h l' r'
theorem prims_split {b : Bk} {p : Int × Int} {r : List (Int × Int)} {g : GF} : primsB b (p :: r) g = if p.1 < 0 then false
 else if (b.entries.length : Int) ≤ p.1 then false
 else if (entB b p.1).kind ≠ 2 then false
 else if p.2 < 1 then false
 else if 3 < p.2 then false
 else if 0 < (g p.1 (-1)).getD 0 + (g (-1) p.2).getD 0 then false
 else primsB b r (updG (updG g p.1 (-1) 1) (-1) p.2 1) := rfl
theorem blk_second {W : World} (t t' : TypeId) (cs cs' : Array Value) : Blk ((W.alloc (.cells cs t)).alloc (.cells cs' t')).drew (W.heap.size + 1) t' cs' := by
 have h := Blk.new (W.alloc (.cells cs t)) t' cs'
 rw [show (W.alloc (.cells cs t)).heap.size = W.heap.size + 1 from by simp] at h
 exact h.drewN 1
set_option linter.unusedSimpArgs false in
set_option linter.unusedVariables false in
set_option maxRecDepth 100000 in
set_option maxHeartbeats 16000000 in
theorem registered_any {w : World} {v : BkVal} {b : Bk} (hb : BookV w v b) :
 Calls Try.prog 38 #[.agg #[.int .i64 b.vars, .slice v.Ao v.no v.co, .slice v.Ae v.ne v.ce, .int .i64 b.nat, .slice v.Ap v.np v.cp]] w (BoolP (regB b) w) := by
 have hlen := hb.entries.len
 have hplen := hb.prims.len
 have hpfew := hb.prims.few
 have HEN := hid (fun (k : Nat) (h : k < v.ne) => hb.entries.at_ (k := k) h)
 have HNUM := hid (fun (w' : World) (h : Below w.heap.size w w') => numbers_any (hb.below h) b.nat)
 have HPR := hid (fun (w' : World) (h : Below w.heap.size w w') => hb.prims.below h)
 have HPW := hid hb.primsw
 have HB0 := hid (below_alloc w (.cells #[.int .i64 b.vars, .slice v.Ao v.no v.co, .slice v.Ae v.ne v.ce, .int .i64 b.nat, .slice v.Ap v.np v.cp] 26))
 have HK0 := hid (Blk.new w 26 #[.int .i64 b.vars, .slice v.Ao v.no v.co, .slice v.Ae v.ne v.ce, .int .i64 b.nat, .slice v.Ap v.np v.cp])
 have HR0 : Hid (regB b = if b.nat ≠ -1 then (if numB b b.nat then primsB b b.prims (fun _ _ => none) else false) else if 0 < b.prims.length then false else true) := hid rfl
 have hmm := @run_makeMap Try.prog
 generalize regB b = res at *
 rw [hplen] at HR0
 have HLN := hid hlen
 have HPL := hid hplen
 obtain ⟨Ao, no, co, Ae, ne, ce, Ap, np, cp⟩ := v
 simp only at HEN HNUM HPR HB0 HK0 HR0 HLN HPL hpfew ⊢
 clear hb hlen hplen
 generalize b.vars = bv at *
 generalize b.nat = bn at *
 by_cases hn : bn = -1
 · have d1 : (bn != -1) = false := by simpa using hn
   have d2 : (bn == -1) = true := by simpa using hn
   rw [if_neg (by simpa using hn)] at HR0
   clear hn
   by_cases h0 : 0 < np
   · have d3 : decide ((np : Int) > 0) = true := decide_eq_true (by omega)
     have d3' : decide (0 < np) = true := decide_eq_true h0
     rw [if_pos h0] at HR0
     clear h0
     go_in
     go_wp2_with fail
     go_ret
     rw [HR0.out]
     exact ⟨rfl, HB0.out⟩
   have d3 : decide ((np : Int) > 0) = false := decide_eq_false (by omega)
   have d3' : decide (0 < np) = false := decide_eq_false h0
   rw [if_neg h0] at HR0
   have hnp : np ≤ 0 := by omega
   have HBm := hid (HB0.out.alloc HB0.out.size (.map #[] 0))
   clear h0
   go_in
   go_wp2_with fail
   go_loopw [33] (fun iv wr => iv = .int .i64 0 ∧ Hid (Below w.heap.size w wr)) (fun i _ => 0)
   case atStart => exact ⟨rfl, HBm⟩
   case round =>
    obtain ⟨rfl, hbw⟩ := hrel
    have hib : decide ((0 : Int) < (np : Int)) = false := decide_eq_false (by omega)
    have hib2 : decide (0 < np) = false := decide_eq_false (by omega)
    go_wp2_with fail
    go_ret
    rw [HR0.out]
    exact ⟨rfl, hbw.out⟩
 have d1 : (bn != -1) = true := by simpa using hn
 rw [if_pos hn] at HR0
 have d2 : (bn == -1) = false := by simpa using hn
 clear hn
 obtain ⟨nb, hnb⟩ : ∃ nb, nb = numB b bn := ⟨_, rfl⟩
 rw [← hnb] at HNUM HR0
 clear hnb
 cases nb with
 | false =>
  rw [if_neg (by simp)] at HR0
  go_in
  go_wp2_with fail
  refine (HNUM.out _ HB0.out).mono ?_
  rintro e w2 ⟨rfl, hb2⟩
  have HB2 := bto HB0 hb2
  clear hb2
  go_wp2_with fail
  go_ret
  rw [HR0.out]
  exact ⟨rfl, HB2.out⟩
 | true =>
  rw [if_pos rfl] at HR0
  go_in
  go_wp2_with fail
  refine (HNUM.out _ HB0.out).mono ?_
  rintro e w2 ⟨rfl, hb2⟩
  have HB2 := bto HB0 hb2
  have HK2 := hid (Blk.below HK0.out hb2 (by simp))
  have HMM : Hid (MapP (w2.alloc (.map #[] 0)) w2.heap.size 0 (fun _ _ => none)) := hid (MapG.made w2 Try.prog 115 3)
  have HBM := hid (HB2.out.alloc HB2.out.size (.map #[] 0))
  have HKM := hid (HK2.out.alloc (.map #[] 0))
  have hbm := HB2.out.size
  have hkl := HK2.out.lt
  have zk2 := Blk.cell HK2.out
  clear hb2
  go_wp2_with fail
  clear zk2
  obtain ⟨bm, hbmd⟩ : ∃ bm, bm = w2.heap.size := ⟨_, rfl⟩
  rw [← hbmd] at HMM hbm hkl ⊢
  clear hbmd
  go_loopw [33] (fun iv wr => ∃ (i : Nat) (g : GF), iv = .int .i64 (i : Int) ∧ i ≤ np ∧ Hid (primsB b (b.prims.drop i) g = res) ∧ Hid (G01 g) ∧ Hid (MapP wr bm (2 * i) g) ∧ Hid (Blk wr w.heap.size 26 #[.int .i64 bv, .slice Ao no co, .slice Ae ne ce, .int .i64 bn, .slice Ap np cp]) ∧ Hid (Below w.heap.size w wr)) (fun i _ => np - (intOf i).toNat)
  case atStart => exact ⟨0, _, rfl, by omega, hid HR0.out.symm, hid (fun _ _ => .inl rfl), HMM, HKM, HBM⟩
  case round =>
   obtain ⟨i, g, rfl, hi, hps, hg01, hm, hbk, hbw⟩ := hrel
   by_cases hlt : i < np
   case neg =>
    have hib : decide ((i : Int) < (np : Int)) = false := decide_eq_false (by omega)
    have HRF : Hid (res = true) := hid (by
     have := hps.out
     rw [List.drop_of_length_le (by rw [HPL.out]; omega)] at this
     exact this.symm)
    go_wp2_with fail
    go_ret
    rw [HRF.out]
    exact ⟨rfl, hbw.out⟩
   have hib : decide ((i : Int) < (np : Int)) = true := decide_eq_true (by omega)
   obtain ⟨bp, op, rfl, hbp, hmp⟩ := (HPR.out wr hbw.out).mem (by omega)
   obtain ⟨hc1, hc2⟩ := hmp i hlt
   have hil : i < b.prims.length := by rw [HPL.out]; exact hlt
   obtain ⟨p, hp⟩ : ∃ p, p = b.prims.getD i (0, 0) := ⟨_, rfl⟩
   have hpe : b.prims[i] = p := by rw [hp, List.getD_eq_getElem?_getD, List.getElem?_eq_getElem hil]; rfl
   obtain ⟨hwp1, hwp2⟩ := HPW.out p (by rw [← hpe]; exact List.getElem_mem _)
   rw [← hp] at hc1 hc2
   have hq := hps.out
   rw [List.drop_eq_getElem_cons hil, hpe, prims_split, HLN.out] at hq
   obtain ⟨p1, p2⟩ := p
   simp only at hc1 hc2 hwp1 hwp2 hq
   have HQ := hid hq
   obtain ⟨n0, hn0⟩ : ∃ n0, n0 = 2 * i := ⟨_, rfl⟩
   rw [← hn0] at hm
   obtain ⟨W5, hW5⟩ : ∃ W5, W5 = wr.alloc (.cells #[.int .i64 p1, .int .i64 p2] 115) := ⟨_, rfl⟩
   have HB5 : Hid (Below w.heap.size w W5) := hid (by rw [hW5]; exact hbw.out.alloc hbw.out.size _)
   have HM5 : Hid (MapP W5 bm n0 g) := hid (by rw [hW5]; exact hm.out.alloc _)
   have HK5 : Hid (Blk W5 w.heap.size 26 #[.int .i64 bv, .slice Ao no co, .slice Ae ne ce, .int .i64 bn, .slice (some ⟨bp, op, none⟩) np cp]) := hid (by rw [hW5]; exact hbk.out.alloc _)
   have z5 : ∀ k, W5.cell? ⟨wr.heap.size, k, none⟩ = (#[.int .i64 p1, .int .i64 p2] : Array Value)[k]? := by rw [hW5]; exact Blk.cell (Blk.new wr 115 #[.int .i64 p1, .int .i64 p2])
   have h5lt : wr.heap.size < W5.heap.size := by rw [hW5]; simp
   have zbk := Blk.cell HK5.out
   have hw5lt := HK5.out.lt
   have hbm5 := HM5.out.lt
   have HS7 : Hid (∀ w', Below W5.heap.size W5 w' → w'.cell? ⟨wr.heap.size, 0, none⟩ = some (.int .i64 p1) ∧ w'.cell? ⟨wr.heap.size, 1, none⟩ = some (.int .i64 p2)) := hid (fun w' h => ⟨(h.cell (p := ⟨wr.heap.size, 0, none⟩) h5lt).trans (z5 0), (h.cell (p := ⟨wr.heap.size, 1, none⟩) h5lt).trans (z5 1)⟩)
   clear hmp hp hpe hq hm hps
   go_upto_region 7 with fail
   rw [← hW5]
   clear hW5
   go_cut [6, 7] (fun v6 v7 wx => ∃ g6 g7, v6 = .pointer (some ⟨g6, 0, none⟩) ∧ v7 = .pointer (some ⟨g7, 0, none⟩) ∧ Hid (Blk wx g6 115 #[.int .i64 p1, .int .i64 (-1)]) ∧ Hid (Blk wx g7 115 #[.int .i64 (-1), .int .i64 p2]) ∧ Hid (Below W5.heap.size W5 wx) ∧ W5.heap.size ≤ g6 ∧ W5.heap.size ≤ g7)
   case first =>
    go_region_held3 (fun w' => w'.cell? ⟨wr.heap.size, 0, none⟩ = some (.int .i64 p1) ∧ w'.cell? ⟨wr.heap.size, 1, none⟩ = some (.int .i64 p2)) (exact HS7.out _ (by (first | exact bel_drew (Below.refl _ _) | exact bel_drew (bel_alloc (Below.refl _ _) _) | exact bel_drew (bel_alloc (bel_alloc (Below.refl _ _) _) _)))) (fail)
    · go_wp2_with fail
      go_meet
      exact ⟨W5.heap.size, W5.heap.size + 1, rfl, rfl, hid (((Blk.new W5 115 #[.int .i64 p1, .int .i64 (-1)]).alloc _).drewN 1), hid (blk_second 115 115 #[.int .i64 p1, .int .i64 (-1)] #[.int .i64 (-1), .int .i64 p2]), hid (bel_drew (bel_alloc (bel_alloc (Below.refl _ _) _) _)), by omega, by omega⟩
    go_wp2_with fail
    go_meet
    exact ⟨W5.heap.size + 1, W5.heap.size, rfl, rfl, hid (blk_second 115 115 #[.int .i64 (-1), .int .i64 p2] #[.int .i64 p1, .int .i64 (-1)]), hid (((Blk.new W5 115 #[.int .i64 (-1), .int .i64 p2]).alloc _).drewN 1), hid (bel_drew (bel_alloc (bel_alloc (Below.refl _ _) _) _)), by omega, by omega⟩
   case rest =>
   obtain ⟨g6, g7, rfl, rfl, k6, k7, HX, hb6, hb7⟩ := hcut
   obtain ⟨WX, rfl⟩ : ∃ x : World, x = wc := ⟨_, rfl⟩
   have hl6 := k6.out.lt
   have hl7 := k7.out.lt
   have HW := hid (bel_drew HX.out)
   have HBX := hid (HB5.out.trans (HW.out.mono HB5.out.size))
   have HKX : Hid (Blk WX.drew w.heap.size 26 #[.int .i64 bv, .slice Ao no co, .slice Ae ne ce, .int .i64 bn, .slice (some ⟨bp, op, none⟩) np cp]) := hid (Blk.below HK5.out HW.out HK5.out.lt)
   have HMX : Hid (MapP WX bm n0 g) := hid (HM5.out.kept (grown_of_below HX.out none) (by simp))
   obtain ⟨V1, hV1⟩ : ∃ V, V = (g p1 (-1)).getD 0 := ⟨_, rfl⟩
   obtain ⟨V2, hV2⟩ : ∃ V, V = (g (-1) p2).getD 0 := ⟨_, rfl⟩
   have hv1 : V1 = 0 ∨ V1 = 1 := by rw [hV1]; rcases hg01.out p1 (-1) with h | h <;> rw [h] <;> simp
   have hv2 : V2 = 0 ∨ V2 = 1 := by rw [hV2]; rcases hg01.out (-1) p2 with h | h <;> rw [h] <;> simp
   have lk1 := (show MapP WX.drew bm n0 g from HMX.out).look primKey p1 (-1) hwp1 (wf_small (by omega) (by omega))
   have lk2 := (show MapP WX.drew bm n0 g from HMX.out).look primKey (-1) p2 (wf_small (by omega) (by omega)) hwp2
   rw [← hV1] at lk1
   rw [← hV2] at lk2
   obtain ⟨bad, hbad⟩ : ∃ bad, bad = !(decide (0 ≤ p1 ∧ p1 < (ne : Int) ∧ (entB b p1).kind = 2 ∧ 1 ≤ p2 ∧ p2 ≤ 3 ∧ V1 + V2 ≤ 0)) := ⟨_, rfl⟩
   have HBAD := hid hbad
   have HRES : Hid (res = if bad then false else primsB b (b.prims.drop (i + 1)) (updG (updG g p1 (-1) 1) (-1) p2 1)) := hid (by
    rw [← HQ.out, hbad, ← hV1, ← hV2]
    by_cases hk : 0 ≤ p1 ∧ p1 < (ne : Int) ∧ (entB b p1).kind = 2 ∧ 1 ≤ p2 ∧ p2 ≤ 3 ∧ V1 + V2 ≤ 0
    · rw [decide_eq_true hk, if_neg (by omega), if_neg (by omega), if_neg (by simpa using hk.2.2.1), if_neg (by omega), if_neg (by omega), if_neg (by omega)]
      rfl
    rw [decide_eq_false hk]
    repeat' split
    all_goals first | rfl | (exfalso; apply hk; omega) | (exfalso; simp_all; done))
   have HV1 := hid hV1
   have HV2 := hid hV2
   clear hV1 hV2 hbad HQ
   go_upto_region 8 with fail
   go_cut [83] (fun bv2 wx => bv2 = .bool bad ∧ wx = WX.drew)
   case first =>
    by_cases h0 : 0 ≤ p1 ∧ p1 < (ne : Int)
    case neg =>
     have HT : Hid (bad = true) := hid (by rw [HBAD.out, decide_eq_false (fun h => h0 ⟨h.1, h.2.1⟩)]; rfl)
     have hc : p1 < 0 ∨ (0 ≤ p1 ∧ (ne : Int) ≤ p1) := by omega
     clear h0 HBAD
     rcases hc with h | ⟨h, h2⟩
     case' inl =>
      have d3 : decide (p1 < 0) = true := decide_eq_true h
     case' inr =>
      have d3 : decide (p1 < 0) = false := decide_eq_false (by omega)
      have d4 : decide (p1 ≥ (ne : Int)) = true := decide_eq_true h2
     all_goals
      refine wp_region_held_drew (S := (fun w' => w'.cell? ⟨wr.heap.size, 0, none⟩ = some (.int .i64 p1) ∧ w'.cell? ⟨wr.heap.size, 1, none⟩ = some (.int .i64 p2) ∧ w'.cell? ⟨w.heap.size, 2, none⟩ = some (.slice Ae ne ce))) (by kernel_rfl) ?_ (fun hHeld => ?_)
      · (try dsimp only); exact ⟨(HW.out.cell (p := ⟨wr.heap.size, 0, none⟩) h5lt).trans (z5 0), (HW.out.cell (p := ⟨wr.heap.size, 1, none⟩) h5lt).trans (z5 1), HKX.out.cell 2⟩
      first | refine tq 0 hHeld ?_ | refine dk 0 hHeld ?_
      try simp only [p7]
      first | refine tq 1 hHeld ?_ | refine dk 1 hHeld ?_
      try simp only [p7]
      first | refine tq 2 hHeld ?_ | refine dk 2 hHeld ?_
      try simp only [p7]
      first | refine tq 3 hHeld ?_ | refine dk 3 hHeld ?_
      try simp only [p7]
      first | refine tq 4 hHeld ?_ | refine dk 4 hHeld ?_
      try simp only [p7]
      first | refine tq 5 hHeld ?_ | refine dk 5 hHeld ?_
      try simp only [p7]
      first | refine tq 6 hHeld ?_ | refine dk 6 hHeld ?_
      try simp only [p7]
      first | refine tq 7 hHeld ?_ | refine dk 7 hHeld ?_
      try simp only [p7]
      first | refine tq 8 hHeld ?_ | refine dk 8 hHeld ?_
      try simp only [p7]
      first | refine tq 9 hHeld ?_ | refine dk 9 hHeld ?_
      try simp only [p7]
      first | refine tq 10 hHeld ?_ | refine dk 10 hHeld ?_
      try simp only [p7]
      first | refine tq 11 hHeld ?_ | refine dk 11 hHeld ?_
      try simp only [p7]
      first | refine tq 12 hHeld ?_ | refine dk 12 hHeld ?_
      try simp only [p7]
      first | refine tq 13 hHeld ?_ | refine dk 13 hHeld ?_
      try simp only [p7]
      first | refine tq 14 hHeld ?_ | refine dk 14 hHeld ?_
      try simp only [p7]
      first | refine tq 15 hHeld ?_ | refine dk 15 hHeld ?_
      try simp only [p7]
      first | refine tq 16 hHeld ?_ | refine dk 16 hHeld ?_
      try simp only [p7]
      first | refine tq 17 hHeld ?_ | refine dk 17 hHeld ?_
      try simp only [p7]
      first | refine tq 18 hHeld ?_ | refine dk 18 hHeld ?_
      try simp only [p7]
      first | refine tq 19 hHeld ?_ | refine dk 19 hHeld ?_
      try simp only [p7]
      first | refine tq 20 hHeld ?_ | refine dk 20 hHeld ?_
      try simp only [p7]
      first | refine tq 21 hHeld ?_ | refine dk 21 hHeld ?_
      try simp only [p7]
      first | refine tq 22 hHeld ?_ | refine dk 22 hHeld ?_
      try simp only [p7]
      first | refine tq 23 hHeld ?_ | refine dk 23 hHeld ?_
      try simp only [p7]
      first | refine tq 24 hHeld ?_ | refine dk 24 hHeld ?_
      try simp only [p7]
      first | refine tq 25 hHeld ?_ | refine dk 25 hHeld ?_
      try simp only [p7]
      first | refine tq 26 hHeld ?_ | refine dk 26 hHeld ?_
      try simp only [p7]
      first | refine tq 27 hHeld ?_ | refine dk 27 hHeld ?_
      try simp only [p7]
      first | refine tq 28 hHeld ?_ | refine dk 28 hHeld ?_
      try simp only [p7]
      first | refine tq 29 hHeld ?_ | refine dk 29 hHeld ?_
      try simp only [p7]
      first | refine tq 30 hHeld ?_ | refine dk 30 hHeld ?_
      try simp only [p7]
      first | refine tq 31 hHeld ?_ | refine dk 31 hHeld ?_
      try simp only [p7]
      first | refine tq 32 hHeld ?_ | refine dk 32 hHeld ?_
      try simp only [p7]
      first | refine tq 33 hHeld ?_ | refine dk 33 hHeld ?_
      try simp only [p7]
      first | refine tq 34 hHeld ?_ | refine dk 34 hHeld ?_
      try simp only [p7]
      first | refine tq 35 hHeld ?_ | refine dk 35 hHeld ?_
      try simp only [p7]
      first | refine tq 36 hHeld ?_ | refine dk 36 hHeld ?_
      try simp only [p7]
      first | refine tq 37 hHeld ?_ | refine dk 37 hHeld ?_
      try simp only [p7]
      first | refine tq 38 hHeld ?_ | refine dk 38 hHeld ?_
      try simp only [p7]
      first | refine tq 39 hHeld ?_ | refine dk 39 hHeld ?_
      try simp only [p7]
      first | refine tq 40 hHeld ?_ | refine dk 40 hHeld ?_
      try simp only [p7]
      refine wpAnyH_done (by kernel_rfl) ?_ _
      go_wp2_with fail
      go_meet
      exact ⟨by rw [HT.out], rfl⟩
    obtain ⟨hp0, hp1n⟩ := h0
    obtain ⟨ke, hke⟩ : ∃ ke : Nat, p1 = (ke : Int) := ⟨p1.toNat, by omega⟩
    obtain ⟨be, oe, hAe, hbe, ev, hkc, _⟩ := HEN.out ke (by omega)
    subst hAe
    rw [show b.entries.getD ke default = entB b p1 from by unfold entB; rw [hke, Int.toNat_natCast]] at hkc
    obtain ⟨kd, hkd⟩ : ∃ kd, kd = (entB b p1).kind := ⟨_, rfl⟩
    rw [← hkd] at HBAD hkc
    subst hke
    have hken : ke < ne := by omega
    have d3 : decide ((ke : Int) < 0) = false := decide_eq_false (by omega)
    have d4 : decide ((ke : Int) ≥ (ne : Int)) = false := decide_eq_false (by omega)
    have d4' : decide (ne ≤ ke) = false := decide_eq_false (by omega)
    have d4n : decide (ke < ne) = true := decide_eq_true hken
    have d4i : (ke : Int) < (ne : Int) := by omega
    have dV : IntKind.i64.wrap (V1 + V2) = V1 + V2 := by rw [IntKind.wrap_i64]; omega
    have hbadv : bad = ((kd != 2) || (decide (p2 < 1) || (decide (p2 > 3) || decide (V1 + V2 > 0)))) := by
     rw [HBAD.out, Bool.eq_iff_iff]
     simp only [Bool.not_eq_true', decide_eq_false_iff_not, Bool.or_eq_true, bne_iff_ne, decide_eq_true_eq, ne_eq]
     omega
    have HBV := hid hbadv
    obtain ⟨t3, ht3⟩ : ∃ t, t = (kd != 2) := ⟨_, rfl⟩
    obtain ⟨t4, ht4⟩ : ∃ t, t = decide (p2 < 1) := ⟨_, rfl⟩
    obtain ⟨t5, ht5⟩ : ∃ t, t = decide (p2 > 3) := ⟨_, rfl⟩
    obtain ⟨t6, ht6⟩ : ∃ t, t = decide (V1 + V2 > 0) := ⟨_, rfl⟩
    have e3 := ht3.symm
    have e4 := ht4.symm
    have e5 := ht5.symm
    have e6 := ht6.symm
    rw [e3, e4, e5, e6] at HBV
    clear hbadv ht3 ht4 ht5 ht6 HBAD hkd hken hv1 hv2 HV1 HV2 HRES hp0 hp1n
    cases t3 <;> cases t4 <;> cases t5
    all_goals
     refine wp_region_held_drew (S := (fun w' => w'.cell? ⟨wr.heap.size, 0, none⟩ = some (.int .i64 (ke : Int)) ∧ w'.cell? ⟨wr.heap.size, 1, none⟩ = some (.int .i64 p2) ∧ w'.cell? ⟨w.heap.size, 2, none⟩ = some (.slice (some ⟨be, oe, none⟩) ne ce) ∧ w'.cell? ⟨be, oe + ke * 7, none⟩ = some (.int .i64 kd) ∧ w'.cell? ⟨g6, 0, none⟩ = some (.int .i64 (ke : Int)) ∧ w'.cell? ⟨g6, 1, none⟩ = some (.int .i64 (-1)) ∧ w'.cell? ⟨g7, 0, none⟩ = some (.int .i64 (-1)) ∧ w'.cell? ⟨g7, 1, none⟩ = some (.int .i64 p2) ∧ (Instr.lookup 113 (.map (some bm)) (.agg #[.int .i64 (ke : Int), .int .i64 (-1)]) false).run Try.prog w' = .ok (.int .i64 V1) w' ∧ (Instr.lookup 113 (.map (some bm)) (.agg #[.int .i64 (-1), .int .i64 p2]) false).run Try.prog w' = .ok (.int .i64 V2) w')) (by kernel_rfl) ?_ (fun hHeld => ?_)
     · (try dsimp only); exact ⟨(HW.out.cell (p := ⟨wr.heap.size, 0, none⟩) h5lt).trans (z5 0), (HW.out.cell (p := ⟨wr.heap.size, 1, none⟩) h5lt).trans (z5 1), HKX.out.cell 2, (HBX.out.cell (p := ⟨be, oe + ke * 7, none⟩) hbe).trans hkc, k6.out.cell 0, k6.out.cell 1, k7.out.cell 0, k7.out.cell 1, lk1, lk2⟩
     first | refine tq 0 hHeld ?_ | refine dk 0 hHeld ?_
     try simp only [p7]
     first | refine tq 1 hHeld ?_ | refine dk 1 hHeld ?_
     try simp only [p7]
     first | refine tq 2 hHeld ?_ | refine dk 2 hHeld ?_
     try simp only [p7]
     first | refine tq 3 hHeld ?_ | refine dk 3 hHeld ?_
     try simp only [p7]
     first | refine tq 4 hHeld ?_ | refine dk 4 hHeld ?_
     try simp only [p7]
     first | refine tq 5 hHeld ?_ | refine dk 5 hHeld ?_
     try simp only [p7]
     first | refine tq 6 hHeld ?_ | refine dk 6 hHeld ?_
     try simp only [p7]
     first | refine tq 7 hHeld ?_ | refine dk 7 hHeld ?_
     try simp only [p7]
     first | refine tq 8 hHeld ?_ | refine dk 8 hHeld ?_
     try simp only [p7]
     first | refine tq 9 hHeld ?_ | refine dk 9 hHeld ?_
     try simp only [p7]
     first | refine tq 10 hHeld ?_ | refine dk 10 hHeld ?_
     try simp only [p7]
     first | refine tq 11 hHeld ?_ | refine dk 11 hHeld ?_
     try simp only [p7]
     first | refine tq 12 hHeld ?_ | refine dk 12 hHeld ?_
     try simp only [p7]
     first | refine tq 13 hHeld ?_ | refine dk 13 hHeld ?_
     try simp only [p7]
     first | refine tq 14 hHeld ?_ | refine dk 14 hHeld ?_
     try simp only [p7]
     first | refine tq 15 hHeld ?_ | refine dk 15 hHeld ?_
     try simp only [p7]
     first | refine tq 16 hHeld ?_ | refine dk 16 hHeld ?_
     try simp only [p7]
     first | refine tq 17 hHeld ?_ | refine dk 17 hHeld ?_
     try simp only [p7]
     first | refine tq 18 hHeld ?_ | refine dk 18 hHeld ?_
     try simp only [p7]
     first | refine tq 19 hHeld ?_ | refine dk 19 hHeld ?_
     try simp only [p7]
     first | refine tq 20 hHeld ?_ | refine dk 20 hHeld ?_
     try simp only [p7]
     first | refine tq 21 hHeld ?_ | refine dk 21 hHeld ?_
     try simp only [p7]
     first | refine tq 22 hHeld ?_ | refine dk 22 hHeld ?_
     try simp only [p7]
     first | refine tq 23 hHeld ?_ | refine dk 23 hHeld ?_
     try simp only [p7]
     first | refine tq 24 hHeld ?_ | refine dk 24 hHeld ?_
     try simp only [p7]
     first | refine tq 25 hHeld ?_ | refine dk 25 hHeld ?_
     try simp only [p7]
     first | refine tq 26 hHeld ?_ | refine dk 26 hHeld ?_
     try simp only [p7]
     first | refine tq 27 hHeld ?_ | refine dk 27 hHeld ?_
     try simp only [p7]
     first | refine tq 28 hHeld ?_ | refine dk 28 hHeld ?_
     try simp only [p7]
     first | refine tq 29 hHeld ?_ | refine dk 29 hHeld ?_
     try simp only [p7]
     first | refine tq 30 hHeld ?_ | refine dk 30 hHeld ?_
     try simp only [p7]
     first | refine tq 31 hHeld ?_ | refine dk 31 hHeld ?_
     try simp only [p7]
     first | refine tq 32 hHeld ?_ | refine dk 32 hHeld ?_
     try simp only [p7]
     first | refine tq 33 hHeld ?_ | refine dk 33 hHeld ?_
     try simp only [p7]
     first | refine tq 34 hHeld ?_ | refine dk 34 hHeld ?_
     try simp only [p7]
     first | refine tq 35 hHeld ?_ | refine dk 35 hHeld ?_
     try simp only [p7]
     first | refine tq 36 hHeld ?_ | refine dk 36 hHeld ?_
     try simp only [p7]
     first | refine tq 37 hHeld ?_ | refine dk 37 hHeld ?_
     try simp only [p7]
     first | refine tq 38 hHeld ?_ | refine dk 38 hHeld ?_
     try simp only [p7]
     first | refine tq 39 hHeld ?_ | refine dk 39 hHeld ?_
     try simp only [p7]
     first | refine tq 40 hHeld ?_ | refine dk 40 hHeld ?_
     try simp only [p7]
     refine wpAnyH_done (by kernel_rfl) ?_ _
     go_wp2_with fail
     go_meet
     exact ⟨by rw [HBV.out]; simp, rfl⟩
   case rest =>
   obtain ⟨rfl, hwc⟩ := hcut
   subst hwc
   cases bad with
   | true =>
    have HRF : Hid (res = false) := hid (by rw [HRES.out]; rfl)
    go_wp2_with fail
    go_ret
    rw [HRF.out]
    exact ⟨rfl, HBX.out⟩
   | false =>
    have HPN : Hid (primsB b (b.prims.drop (i + 1)) (updG (updG g p1 (-1) 1) (-1) p2 1) = res) := hid (by rw [HRES.out]; rfl)
    have HG01N : Hid (G01 (updG (updG g p1 (-1) 1) (-1) p2 1)) := hid ((hg01.out.upd _ _).upd _ _)
    have za := Blk.cell k6.out
    have zb := Blk.cell k7.out
    have hn05 : n0 < 50000000000000 := by omega
    have HN0 := hid hn0
    clear HBAD lk1 lk2 hv1 hv2 HRES hn0
    go_wp2_with fail
    refine wp_region_held_drew (S := (fun w' => w'.cell? ⟨g6, 0, none⟩ = some (.int .i64 p1) ∧ w'.cell? ⟨g6, 1, none⟩ = some (.int .i64 (-1)) ∧ w'.cell? ⟨g7, 0, none⟩ = some (.int .i64 (-1)) ∧ w'.cell? ⟨g7, 1, none⟩ = some (.int .i64 p2))) (by kernel_rfl) ?_ (fun hHeld => ?_)
    · (try dsimp only); exact ⟨za 0, za 1, zb 0, zb 1⟩
    refine tq 0 hHeld ?_
    try simp only [p7]
    refine tq 1 hHeld ?_
    try simp only [p7]
    refine tq 2 hHeld ?_
    try simp only [p7]
    refine tq 3 hHeld ?_
    try simp only [p7]
    refine r1 4 fun K hK => ?_
    refine step_oper rfl (oper_setG (.tmp 84) (.tmp 85) _ rfl primKey (by rfl) (show MapP WX.drew.drew bm n0 g from HMX.out) (by omega) p1 (-1) 1 (by rfl) hwp1 (wf_small (by omega) (by omega)) (by rfl) (wf_small (by omega) (by omega)) ?_)
    intro w8 hm8 hg8
    have HG8 := hid hg8
    have zc8 := fun i => (Blk.cell (Blk.grown (show Blk WX.drew.drew _ _ _ from k6.out) hg8 (by intro e; injection e with e; omega)) i)
    have zd8 := fun i => (Blk.cell (Blk.grown (show Blk WX.drew.drew _ _ _ from k7.out) hg8 (by intro e; injection e with e; omega)) i)
    have HM8 := hid hm8
    have HB8 := hid ((below_drewN HBX.out 1).grown hg8 HBX.out.size (fun g hg => by injection hg with hg; omega))
    have HK8 := hid (Blk.grown (show Blk WX.drew.drew _ _ _ from HKX.out) hg8 (by intro e; injection e with e; omega))
    clear hm8 hg8
    refine hK.out _ _ (by exact ⟨zc8 0, zc8 1, zd8 0, zd8 1⟩) fun hHeld => ?_
    clear hK K
    try simp only [p7]
    refine r1 5 fun K hK => ?_
    refine step_oper rfl (oper_setG (.tmp 86) (.tmp 87) _ rfl primKey (by rfl) HM8.out (by omega) (-1) p2 1 (by rfl) (wf_small (by omega) (by omega)) hwp2 (by rfl) (wf_small (by omega) (by omega)) ?_)
    intro w9 hm9 hg9
    have zc9 := fun i => (Blk.cell (Blk.grown (Blk.grown (show Blk WX.drew.drew _ _ _ from k6.out) HG8.out (by intro e; injection e with e; omega)) hg9 (by intro e; injection e with e; omega)) i)
    have zd9 := fun i => (Blk.cell (Blk.grown (Blk.grown (show Blk WX.drew.drew _ _ _ from k7.out) HG8.out (by intro e; injection e with e; omega)) hg9 (by intro e; injection e with e; omega)) i)
    have HM9 := hid hm9
    have HB9 := hid (HB8.out.grown hg9 HB8.out.size (fun g hg => by injection hg with hg; omega))
    have HK9 := hid (Blk.grown HK8.out hg9 (by intro e; injection e with e; omega))
    clear hm9 hg9
    refine hK.out _ _ (by exact ⟨zc9 0, zc9 1, zd9 0, zd9 1⟩) fun hHeld => ?_
    clear hK K
    try simp only [p7]
    refine wpAnyH_done (by kernel_rfl) ?_ _
    clear zc8 zd8 zc9 zd9 za zb hHeld
    go_wp2_with fail
    go_roundw
    case rel => exact ⟨i + 1, _, by go_num, by omega, HPN, HG01N, hid (HM9.out.mono (by have := HN0.out; omega)), HK9, HB9⟩
    case measure => simp [intOf]; omega
end Go.Proofs.Ytjoddliplahgkaa
