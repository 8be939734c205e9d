/- What closed terms mean: what comes of a term that fits fits. Plain laws. -/
import Derived.Test.YtjllmblbbgojbaaUSenseP
namespace Go.Proofs.Ytjllmblbbgojbaa
open Go.RowKit
structure FitT (b : Bk) (free : Int) (x : TT) : Prop where
 okt : OkT x
 few : szT x ≤ 4096
 low : exT (fun v z => decide (free ≤ v - z)) 0 x.1 x.2.2 = false
 nod : ∀ m ∈ rowT x, nodeB b b.entries.length (-1) m = true
theorem FitT.rt {b : Bk} {free : Int} {x : TT} (h : FitT b free x) : RtX x := rt_make h.okt.ok h.okt.at_ h.okt.wf h.few
theorem FitT.fits {b : Bk} {free : Int} {x : TT} (h : FitT b free x) (hr : rightE b = 0) (h0 : 0 ≤ free) : fitsE b free (rowT x) = 0 := by
 refine fits_ok hr h0 (rowE_ok h.rt.shape ?_ h.nod)
 rw [below_rt h.rt, Bool.not_eq_true', show max free 0 = free from by omega]
 exact h.low
theorem fit_of {b : Bk} {free : Int} {l : List Nd} (h : fitsE b free l = 0) : l = rowT (treeAt l) ∧ FitT b free (treeAt l) := by
 obtain ⟨hr, hf, hrow⟩ := fits_row h
 obtain ⟨hs, hbl, hnd⟩ := row_nodes hrow
 obtain ⟨n, a, k, hrt⟩ := rt_of hs
 obtain ⟨hok, hat, hk⟩ := hrt.wf
 rw [treeAt_rt hrt]
 have e : l = rowT (n, a, k) := hrt.eq
 refine ⟨e, ⟨⟨hok, hat, hk⟩, by have := hrt.few; rw [e] at this; exact this, ?_, fun m hm => hnd m (by rw [e]; exact hm)⟩⟩
 rw [below_rt hrt, Bool.not_eq_true', show max free 0 = free from by omega] at hbl
 exact hbl
theorem FitT.mono {b : Bk} {free free' : Int} {x : TT} (h : FitT b free x) (hf : free ≤ free') : FitT b free' x :=
 ⟨h.okt, h.few, exT_shift (p := fun v z => decide (free ≤ v - z)) (q := fun v z => decide (free' ≤ v - z)) (c := 0) (fun v z hh => by
  simp only [decide_eq_true_eq] at hh ⊢
  omega) (a := 0) h.low, h.nod⟩
theorem OkT.around {x : TT} (h : OkT x) (i : Int) : 0 ≤ aroundI x.1.op x.1.b i ∧ aroundI x.1.op x.1.b i ≤ 4 := aroundI_bd h.ok i
theorem FitT.kid {b : Bk} {free : Int} {x : TT} (h : FitT b free x) {i : Nat} {y : TT} (hy : (kidL x.2.2)[i]? = some y) : FitT b (free + aroundI x.1.op x.1.b (i : Int)) y := by
 obtain ⟨n, a, k⟩ := x
 have hmem : y ∈ kidL k := List.mem_of_getElem? hy
 have hsz := sz_kid hmem
 have hf := h.few
 rw [szT_eq] at hf
 refine ⟨kid_wf h.okt.wf hmem, by omega, ?_, fun m hm => h.nod m ?_⟩
 · have e1 := ex_kid (ex_top h.low).2 i y hy
   rw [Nat.zero_add] at e1
   refine exT_shift (p := fun v z => decide (free ≤ v - z)) (fun v z hh => ?_) e1
   simp only [decide_eq_true_eq] at hh ⊢
   omega
 simp only [rowT, List.mem_cons, List.mem_append]
 exact .inr (.inr (row_kid hmem m hm))
theorem FitT.kid0 {b : Bk} {free : Int} {x : TT} (h : FitT b free x) {i : Nat} {y : TT} (hy : (kidL x.2.2)[i]? = some y) (h0 : aroundI x.1.op x.1.b (i : Int) = 0) : FitT b free y := by
 have := h.kid hy
 rwa [h0, Int.add_zero] at this
theorem FitT.hd {b : Bk} {free : Int} {x : TT} (h : FitT b free x) : FitT b free (hdW x).1 ∧ ∀ y ∈ (hdW x).2, FitT b free y :=
 hd_all (Q := FitT b free) (fun n a p n1 a1 k1 q n2 a2 k2 r h6 hh => by
  have hz : ∀ k : Int, aroundI n.op n.b k = 0 := around_plain (by omega) (by omega) (by omega) (by omega)
  exact ⟨hh.kid0 (i := 0) rfl (hz _), hh.kid0 (i := 1) rfl (hz _)⟩) _ x (Nat.le_refl _) h
theorem FitT.closed_op {b : Bk} {x : TT} (h : FitT b 0 x) : x.1.op ≠ 1 := fun h1 => by
 have h2 := (ex_top h.low).1 h1
 have h3 := h.okt.ok
 simp only [okN, Bool.and_eq_true] at h3
 have h4 := (plainB_a h3.1.1).1
 rw [decide_eq_false_iff_not] at h2
 omega
theorem raF_closed (up : Int) (pop pb : Int) : ∀ (j : Nat) (z : Int) (F : Fo), exF (fun v z => decide (0 ≤ v - z)) pop pb j z F = false → raF up 0 pop pb j z F = F
 | _, _, .nil, _ => rfl
 | j, z, .cons p n a k x, h => by
  rw [exF_cons, Bool.or_eq_false_iff] at h
  obtain ⟨t1, t2⟩ := ex_top h.1
  simp only [raF]
  rw [raF_closed up n.op n.b 0 _ k t2, raF_closed up pop pb (j + 1) z x h.2]
  have : raN up 0 n (z + aroundI pop pb j) = n := by
   unfold raN
   split
   · rename_i hh
     have := t1 hh.1
     rw [decide_eq_false_iff_not] at this
     omega
   rfl
  rw [this]
theorem up_closed {b : Bk} {u : TT} (h : FitT b 0 u) (up : Int) : upT u up = u := by
 obtain ⟨n, a, k⟩ := u
 have hl := h.low
 simp only at hl
 obtain ⟨t1, t2⟩ := ex_top hl
 unfold upT
 simp only
 rw [raF_closed up n.op n.b 0 0 k t2]
 have : raN up 0 n 0 = n := by
  unfold raN
  split
  · rename_i hh
    have := t1 hh.1
    rw [decide_eq_false_iff_not] at this
    omega
  rfl
 rw [this]
theorem lift_closed {b : Bk} {u : TT} (h : FitT b 0 u) {up : Int} (h0 : 0 ≤ up) (h1 : up ≤ 1000000) : liftR (rowT u) up 0 = (rowT u, 0) := by
 have hrt := h.rt
 have hm : min (0 : Int) 1048577 = 0 := by decide
 have hg : (raV up 0).G1 0 () u.1 u.2.2 = true := by
  have hl : ((row (.cons [] u.1 u.2.1 u.2.2 .nil)).length : Int) ≤ 4096 := by
   have h2 := h.few
   have h3 : row (.cons [] u.1 u.2.1 u.2.2 .nil) = rowT u := by simp [row, rowT]
   rw [h3]
   have h4 : (rowT u).length ≤ 4096 := h2
   omega
  have hz : aroundI 0 0 ((0 : Nat) : Int) = 0 := by decide
  have h2 := raV_far (B := 0) (up := up) h0 0 0 (fun j => by rw [around_plain (by decide) (by decide) (by decide) (by decide)]; omega) 0 0 _ _ h.okt.one (by
   rw [exF_cons, hz, Int.add_zero, h.low]; rfl) (by omega)
  rw [Vis.G_cons, hz, Int.add_zero, Bool.and_eq_true] at h2
  exact h2.1
 unfold liftR
 rw [if_pos hrt.shape, if_neg (by omega)]
 unfold liftT
 rw [hrt.pp, hm]
 simp only
 rw [if_pos hg, raV_row1]
 have := up_closed h up
 unfold upT at this
 have e1 : raN up 0 u.1 0 = u.1 := congrArg (·.1) this
 have e2 : raF up 0 u.1.op u.1.b 0 0 u.2.2 = u.2.2 := congrArg (·.2.2) this
 rw [e1, e2]
 rfl
theorem sub_row {b : Bk} {free : Int} {x u : TT} (h0 : 0 ≤ free) (h1 : free ≤ 255) (hx : FitT b (free + 1) x) (hu : FitT b free u) :
 substD (rowT x) (rowT u) (min 0 1048577) ∧ substR (rowT x) (rowT u) 0 = (if (subTT x u).2 = 0 then rowT (subTT x u).1 else [], (subTT x u).2) ∧ ((subTT x u).2 = 0 → FitT b free (subTT x u).1) := by
 have hT := hx.rt
 have hU := hu.rt
 have hOU := hu.okt
 have hw := hx.okt.one
 have hbl := hx.low
 have hblu := hu.low
 have hndu := hu.nod
 have hnd := hx.nod
 have hlen := hT.few
 have hlenu := hU.few
 obtain ⟨n, a, k⟩ := x
 obtain ⟨un, ua, uk⟩ := u
 simp only at hbl hblu hw
 have hrow : rowT (n, a, k) = row (.cons [] n a k .nil) := by simp [row, rowT]
 have hm : min (0 : Int) 1048577 = 0 := by decide
 have hz : aroundI 0 0 ((0 : Nat) : Int) = 0 := by decide
 have hp0 : ∀ j : Int, 0 ≤ aroundI 0 0 j ∧ aroundI 0 0 j ≤ 4 := fun j => by
  rw [around_plain (by decide) (by decide) (by decide) (by decide)]; omega
 have hup : UpOk (un, ua, uk) 17000 := fun c hc0 hc1 => by
  have hW := hOU.one
  have hl : ((row (.cons [] un ua uk .nil)).length : Int) ≤ 4096 := by
   have : row (.cons [] un ua uk .nil) = rowT (un, ua, uk) := by simp [row, rowT]
   rw [this]; omega
  have h2 := raV_far (B := free) (up := c) hc0 0 0 hp0 0 0 _ _ hW (by
   rw [exF_cons, hz, Int.add_zero]
   simp only
   rw [hblu]; rfl) (by simp only; omega)
  rw [Vis.G_cons, hz, Int.add_zero, Bool.and_eq_true] at h2
  exact h2.1
 have hlen2 : 4 * ((row (.cons [] n a k .nil)).length : Int) ≤ 17000 := by rw [← hrow]; omega
 have hD : (puV ⟨un, ua, uk⟩ 0).D 0 0 0 0 () (.cons [] n a k .nil) := puV_D hup 0 0 hp0 0 0 _ _ hw (by omega) (by omega)
 have hE := puV_row (un, ua, uk) 0 0 0 0 _ (vkF_wf _ _ hw)
 have e : ∀ s : Unit, s = () := fun _ => rfl
 have hall : AllOk k := by
  have := pp_allok hT.pp
  exact this.2.1
 have hdp := dpT_bd (x := 0) hx.okt.ok hall
 have hfs := fsize_le_row k
 have hfew4 : 1 + a.length + (row k).length ≤ 4096 := by have := hx.few; rwa [szT_eq] at this
 have hno6 : ¬ (0 < cnT 0 n k ∧ exT (fun v b => decide (b ≤ v) && decide (1048576 < v - b + 0 + dpT 0 n k)) 0 un uk = true) := fun hh => by
  have h2 := exT_shift (p := fun v z => decide (free ≤ v - z)) (q := fun v b => decide (b ≤ v) && decide (1048576 < v - b + 0 + dpT 0 n k)) (c := 0) (fun v z hh => by
   simp only [Bool.and_eq_true, decide_eq_true_eq] at hh ⊢
   simp only at hdp
   omega) (a := 0) hblu
  rw [hh.2] at h2
  cases h2
 refine ⟨?_, ?_⟩
 · rw [hm]
   unfold substD
   rw [hT.pp, hU.pp]
   simp only
   rw [Vis.D_cons, hz, Int.add_zero] at hD
   exact hD.1
 have hF : (puV ⟨un, ua, uk⟩ 0).E1 0 () n a k = row (trF (suS (un, ua, uk)) 0 0 0 0 (.cons [] n a k .nil)) := by
  rw [← hE, Vis.E_cons, hz, Int.add_zero]
  simp [Vis.E]
 have hwx := su_wf hOU hup 0 0 hp0 0 0 _ _ hw (by omega) (by omega)
 have hlx := su_len (un, ua, uk) 0 0 0 0 _ (vkF_wf _ _ hw)
 have hcn : cnF 0 0 0 0 0 (.cons [] n a k .nil) = cnT 0 n k := by
  simp only [cnF, cnT, hz, Int.add_zero, Int.sub_zero]
 rw [hcn, ← hrow] at hlx
 have hsr : substR (rowT (n, a, k)) (rowT (un, ua, uk)) 0 = if 4096 < (szT (n, a, k) : Int) + cnT 0 n k * ((szT (un, ua, uk) : Int) - 1) then ([], 9) else ((puV ⟨un, ua, uk⟩ 0).E1 0 () n a k, 0) := by
  unfold substR
  rw [if_pos hT.shape, if_pos hU.shape, if_neg (by omega), hm]
  unfold substT
  rw [hT.pp, hU.pp]
  simp only
  rw [if_neg hno6]
 rw [hsr]
 unfold subTT
 simp only
 by_cases hbig : 4096 < (szT (n, a, k) : Int) + cnT 0 n k * ((szT (un, ua, uk) : Int) - 1)
 · rw [if_pos hbig, if_pos hbig]
   exact ⟨rfl, fun h => by cases h⟩
 rw [if_neg hbig, if_neg hbig]
 have hex := su_ex (u := (un, ua, uk)) h0 hblu 0 0 (fun j => (hp0 j).1) 0 0 _ (vkF_wf _ _ hw) (bok_wf _ _ hw) (by omega) (by
  rw [exF_cons, hz, Int.add_zero, hbl]; rfl)
 have hnx := su_nodes (u := (un, ua, uk)) (fun m => nodeB b b.entries.length (-1) m = true) (fun m h => nodeB_var h) (fun m hm => hndu m hm) 0 0 0 0 (.cons [] n a k .nil) (fun m hm => hnd m (by rw [hrow]; exact hm))
 rw [hF]
 rw [trF_cons] at hwx hex hnx hlx ⊢
 rw [hz, Int.add_zero] at hwx hex hnx hlx ⊢
 generalize trT (suS (un, ua, uk)) 0 (n, a, k) = y at *
 have e0 : trF (suS (un, ua, uk)) 0 0 (0 + 1) 0 .nil = .nil := rfl
 rw [e0] at hwx hex hnx hlx ⊢
 have hry : row (.cons [] y.1 y.2.1 y.2.2 .nil) = rowT y := by simp [row, rowT]
 rw [hry] at hnx hlx ⊢
 refine ⟨by simp, fun _ => ⟨kid_wf hwx (by simp [kidL]), ?_, ?_, hnx⟩⟩
 · show (rowT y).length ≤ 4096
   have e1 : szT (n, a, k) = (rowT (n, a, k)).length := rfl
   rw [e1] at hbig
   omega
 rw [exF_cons, hz, Int.add_zero, Bool.or_eq_false_iff] at hex
 exact hex.1
theorem app_fit {b : Bk} {free : Int} {g a : TT} (hg : FitT b free g) (ha : FitT b free a) (hs : 1 + szT g + szT a ≤ 4096) : FitT b free (appTT g a) := by
 have hrow : rowT (appTT g a) = ⟨6, 0, 0⟩ :: (rowT g ++ rowT a) := by simp [appTT, rowT, row]
 have hz : ∀ k : Int, aroundI 6 0 k = 0 := around_plain (by decide) (by decide) (by decide) (by decide)
 refine ⟨⟨(by show okN ⟨6, 0, 0⟩ = true; decide), rfl, ?_⟩, ?_, ?_, ?_⟩
 · show Wf (ds ⟨6, 0, 0⟩) _
   have hds : ds ⟨6, 0, 0⟩ = [false, false] := rfl
   rw [hds]
   exact ⟨rfl, hg.okt.ok, hg.okt.at_, hg.okt.wf, rfl, ha.okt.ok, ha.okt.at_, ha.okt.wf, trivial⟩
 · show (rowT (appTT g a)).length ≤ 4096
   rw [hrow]
   simp only [List.length_cons, List.length_append]
   simp only [szT] at hs
   omega
 · unfold appTT exT
   simp only
   rw [exF_cons, exF_cons, hz, hz, Int.add_zero, hg.low, ha.low]
   rfl
 rw [hrow]
 intro m hm
 rcases List.mem_cons.1 hm with rfl | hm
 · rfl
 rcases List.mem_append.1 hm with hm | hm
 · exact hg.nod m hm
 exact ha.nod m hm
theorem fix_ok {op na nb i : Int} (h12 : op = 12) (h : okN ⟨op, na, nb⟩ = true) (h0 : 0 ≤ i) (h1 : i < nb) : okN ⟨op, i, nb⟩ = true := by
 have h2 : plainB op na nb = true ∧ op ≠ 3 ∧ op ≠ 13 := by
  simp only [okN, Bool.and_eq_true, decide_eq_true_eq] at h
  exact ⟨h.1.1, h.1.2, h.2⟩
 have hpl := h2.1
 rw [plainB_iff] at hpl
 have h4 : 1 ≤ nb ∧ nb ≤ 4 := by omega
 clear hpl
 have h3 : plainB op i nb = true := by
  rw [plainB_iff]
  exact .inr (.inr (.inr (.inr (.inr (.inr (.inr (.inl ⟨h12, h4.1, h4.2, h0, h1⟩)))))))
 unfold okN
 simp only
 rw [h3, decide_eq_true h2.2.1, decide_eq_true h2.2.2]
 rfl
theorem node_fix {b : Bk} {known self : Int} {m : Nd} (h : m.op = 12) : nodeB b known self m = true := by
 unfold nodeB
 rw [if_neg (by omega), if_neg (by omega), if_neg (by omega), if_neg (by omega), if_neg (by omega)]
theorem fixAt_fit {b : Bk} {free : Int} {h : TT} (hh : FitT b free h) (h12 : h.1.op = 12) {i : Nat} (hi : (i : Int) < h.1.b) : FitT b free (fixAt h i) := by
 obtain ⟨⟨op, na, nb⟩, a, k⟩ := h
 have e : rowT (fixAt (⟨op, na, nb⟩, a, k) i) = ⟨op, (i : Int), nb⟩ :: (a ++ row k) := rfl
 have e0 : rowT (⟨op, na, nb⟩, a, k) = ⟨op, na, nb⟩ :: (a ++ row k) := rfl
 refine ⟨⟨fix_ok h12 hh.okt.ok (by omega) hi, ?_, hh.okt.wf⟩, ?_, ?_, ?_⟩
 · have := hh.okt.at_
   unfold AtOk at this ⊢
   exact this
 · have := hh.few
   unfold szT at this ⊢
   rw [e]
   rw [e0] at this
   exact this
 · have hl := (ex_top hh.low).2
   unfold exT
   have h1 : decide ((fixAt (⟨op, na, nb⟩, a, k) i).1.op = 1) = false := decide_eq_false (by show ¬ op = 1; simp only at h12; omega)
   rw [h1, Bool.false_and, Bool.false_or]
   exact hl
 intro m hm
 rw [e] at hm
 rcases List.mem_cons.1 hm with rfl | hm
 · exact node_fix h12
 exact hh.nod m (by rw [e0]; exact List.mem_cons_of_mem _ hm)
theorem unf_fit {b : Bk} {h : TT} (hh : FitT b 0 h) (h12 : h.1.op = 12) : ∀ (i : Nat) (x : TT), (i : Int) ≤ h.1.b → FitT b (i : Int) x → (unfL h i x).2 = 0 → FitT b 0 (unfL h i x).1
 | 0, x, _, hx, _ => hx
 | i + 1, x, hi, hx, he => by
  have hb4 : h.1.b ≤ 4 := by
   have hok := hh.okt.ok
   simp only [okN, Bool.and_eq_true] at hok
   have hpl := plainB_iff.1 hok.1.1
   omega
  have hs := sub_row (b := b) (free := (i : Int)) (x := x) (u := fixAt h i) (by omega) (by omega) (by simpa using hx) ((fixAt_fit hh h12 (by omega)).mono (by omega))
  simp only [unfL] at he ⊢
  split at he
  · rename_i h0
    rw [if_pos h0]
    exact unf_fit hh h12 i _ (by omega) (hs.2.2 h0) he
  · rename_i h0
    exact absurd he h0
theorem bds_at : ∀ (L : List TT) (i : Nat) (y : TT), (bdsT L)[i]? = some y → L[2 * i + 1]? = some y
 | [], i, y, h => by simp [bdsT] at h
 | [_], i, y, h => by simp [bdsT] at h
 | _ :: z :: r, 0, y, h => by simpa [bdsT] using h
 | _ :: z :: r, i + 1, y, h => by
  have := bds_at r i y (by simpa [bdsT] using h)
  rw [show 2 * (i + 1) + 1 = 2 * i + 1 + 1 + 1 from by omega]
  simpa using this
theorem bds_len : ∀ (L : List TT), (bdsT L).length = L.length / 2
 | [] => rfl
 | [_] => by simp [bdsT]
 | _ :: _ :: r => by
  simp only [bdsT, List.length_cons, bds_len r]
  omega
theorem wf_kids : ∀ {F : Fo} {dl : List Bool}, Wf dl F → (kidL F).length = dl.length
 | .nil, [], _ => rfl
 | .nil, _ :: _, h => h.elim
 | .cons _ _ _ _ _, [], h => h.elim
 | .cons p n a k x, d :: dr, h => by
  rw [kidL_cons, List.length_cons, List.length_cons, wf_kids h.2.2.2.2]
theorem fix_parts {x : TT} (hx : OkT x) (h12 : x.1.op = 12) : 1 ≤ x.1.b ∧ x.1.b ≤ 4 ∧ 0 ≤ x.1.a ∧ x.1.a < x.1.b ∧ (kidL x.2.2).length = 2 * x.1.b.toNat := by
 have hok := hx.ok
 have hl := wf_kids hx.wf
 rw [ds_len hok] at hl
 simp only [okN, Bool.and_eq_true] at hok
 have hpl := plainB_iff.1 hok.1.1
 refine ⟨by omega, by omega, by omega, by omega, ?_⟩
 rw [hl]
 unfold nkI
 rw [h12]
 simp
 omega
theorem body_fit {b : Bk} {h : TT} (hh : FitT b 0 h) (h12 : h.1.op = 12) (d : TT) : ∃ y, (bdsT (kidL h.2.2))[h.1.a.toNat]? = some y ∧ (bdsT (kidL h.2.2)).getD h.1.a.toNat d = y ∧ (kidL h.2.2)[2 * h.1.a.toNat + 1]? = some y ∧ FitT b (h.1.b.toNat : Int) y := by
 obtain ⟨h1, h2, h3, h4, h5⟩ := fix_parts hh.okt h12
 have hl := bds_len (kidL h.2.2)
 rw [h5] at hl
 have hlt : h.1.a.toNat < (bdsT (kidL h.2.2)).length := by omega
 have e := List.getElem?_eq_getElem hlt
 refine ⟨_, e, by rw [List.getD_eq_getElem?_getD, e]; rfl, bds_at _ _ _ e, ?_⟩
 have := hh.kid (bds_at _ _ _ e)
 have ha : aroundI h.1.op h.1.b ((2 * h.1.a.toNat + 1 : Nat) : Int) = (h.1.b.toNat : Int) := by
  unfold aroundI
  rw [if_neg (by omega), if_pos (by omega)]
  omega
 rwa [ha, Int.zero_add] at this
theorem unfT_fit {b : Bk} {h : TT} (hh : FitT b 0 h) (h12 : h.1.op = 12) (he : (unfT h).2 = 0) : FitT b 0 (unfT h).1 := by
 obtain ⟨y, _, h2, _, h4⟩ := body_fit hh h12 (⟨0, 0, 0⟩, [], .nil)
 have h5 := fix_parts hh.okt h12
 unfold unfT at he ⊢
 rw [h2] at he ⊢
 exact unf_fit hh h12 _ _ (by omega) h4 he
end Go.Proofs.Ytjllmblbbgojbaa
