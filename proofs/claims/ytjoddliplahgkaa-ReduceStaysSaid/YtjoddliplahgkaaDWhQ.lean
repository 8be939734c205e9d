/- Terms that are reckoned on: what fits stays fitting (plain). -/
import Derived.Test.YtjoddliplahgkaaDWhP
namespace Go.Proofs.Ytjoddliplahgkaa
open Go.RowKit
theorem sub_rowG {b : Bk} {free : Int} {x u : TT} (h0 : 0 ≤ free) (h1 : free ≤ 1000000) (hx : FitT b (free + 1) x) (hu : FitT b free u) :
 substD (rowT x) (rowT u) (min 0 1048577) ∧ substR (rowT x) (rowT u) 0 = (if (subTT x u).2 = 0 then rowT (subTT x u).1 else [], (subTT x u).2) ∧ ((subTT x u).2 = 0 → FitT b free (subTT x u).1) := by
 have hT := hx.rt
 have hU := hu.rt
 have hOU := hu.okt
 have hw := hx.okt.one
 have hbl := hx.low
 have hblu := hu.low
 have hndu := hu.nod
 have hnd := hx.nod
 have hlen := hT.few
 have hlenu := hU.few
 obtain ⟨n, a, k⟩ := x
 obtain ⟨un, ua, uk⟩ := u
 simp only at hbl hblu hw
 have hrow : rowT (n, a, k) = row (.cons [] n a k .nil) := by simp [row, rowT]
 have hm : min (0 : Int) 1048577 = 0 := by decide
 have hz : aroundI 0 0 ((0 : Nat) : Int) = 0 := by decide
 have hp0 : ∀ j : Int, 0 ≤ aroundI 0 0 j ∧ aroundI 0 0 j ≤ 4 := fun j => by
  rw [around_plain (by decide) (by decide) (by decide) (by decide)]; omega
 have hup : UpOk (un, ua, uk) 17000 := fun c hc0 hc1 => by
  have hW := hOU.one
  have hl : ((row (.cons [] un ua uk .nil)).length : Int) ≤ 4096 := by
   have : row (.cons [] un ua uk .nil) = rowT (un, ua, uk) := by simp [row, rowT]
   rw [this]; omega
  have h2 := raV_far (B := free) (up := c) hc0 0 0 hp0 0 0 _ _ hW (by
   rw [exF_cons, hz, Int.add_zero]
   simp only
   rw [hblu]; rfl) (by simp only; omega)
  rw [Vis.G_cons, hz, Int.add_zero, Bool.and_eq_true] at h2
  exact h2.1
 have hlen2 : 4 * ((row (.cons [] n a k .nil)).length : Int) ≤ 17000 := by rw [← hrow]; omega
 have hD : (puV ⟨un, ua, uk⟩ 0).D 0 0 0 0 () (.cons [] n a k .nil) := puV_D hup 0 0 hp0 0 0 _ _ hw (by omega) (by omega)
 have hE := puV_row (un, ua, uk) 0 0 0 0 _ (vkF_wf _ _ hw)
 have e : ∀ s : Unit, s = () := fun _ => rfl
 have hall : AllOk k := by
  have := pp_allok hT.pp
  exact this.2.1
 have hdp := dpT_bd (x := 0) hx.okt.ok hall
 have hfs := fsize_le_row k
 have hfew4 : 1 + a.length + (row k).length ≤ 4096 := by have := hx.few; rwa [szT_eq] at this
 have hno6 : ¬ (0 < cnT 0 n k ∧ exT (fun v b => decide (b ≤ v) && decide (1048576 < v - b + 0 + dpT 0 n k)) 0 un uk = true) := fun hh => by
  have h2 := exT_shift (p := fun v z => decide (free ≤ v - z)) (q := fun v b => decide (b ≤ v) && decide (1048576 < v - b + 0 + dpT 0 n k)) (c := 0) (fun v z hh => by
   simp only [Bool.and_eq_true, decide_eq_true_eq] at hh ⊢
   simp only at hdp
   omega) (a := 0) hblu
  rw [hh.2] at h2
  cases h2
 refine ⟨?_, ?_⟩
 · rw [hm]
   unfold substD
   rw [hT.pp, hU.pp]
   simp only
   rw [Vis.D_cons, hz, Int.add_zero] at hD
   exact hD.1
 have hF : (puV ⟨un, ua, uk⟩ 0).E1 0 () n a k = row (trF (suS (un, ua, uk)) 0 0 0 0 (.cons [] n a k .nil)) := by
  rw [← hE, Vis.E_cons, hz, Int.add_zero]
  simp [Vis.E]
 have hwx := su_wf hOU hup 0 0 hp0 0 0 _ _ hw (by omega) (by omega)
 have hlx := su_len (un, ua, uk) 0 0 0 0 _ (vkF_wf _ _ hw)
 have hcn : cnF 0 0 0 0 0 (.cons [] n a k .nil) = cnT 0 n k := by
  simp only [cnF, cnT, hz, Int.add_zero, Int.sub_zero]
 rw [hcn, ← hrow] at hlx
 have hsr : substR (rowT (n, a, k)) (rowT (un, ua, uk)) 0 = if 4096 < (szT (n, a, k) : Int) + cnT 0 n k * ((szT (un, ua, uk) : Int) - 1) then ([], 9) else ((puV ⟨un, ua, uk⟩ 0).E1 0 () n a k, 0) := by
  unfold substR
  rw [if_pos hT.shape, if_pos hU.shape, if_neg (by omega), hm]
  unfold substT
  rw [hT.pp, hU.pp]
  simp only
  rw [if_neg hno6]
 rw [hsr]
 unfold subTT
 simp only
 by_cases hbig : 4096 < (szT (n, a, k) : Int) + cnT 0 n k * ((szT (un, ua, uk) : Int) - 1)
 · rw [if_pos hbig, if_pos hbig]
   exact ⟨rfl, fun h => by cases h⟩
 rw [if_neg hbig, if_neg hbig]
 have hex := su_ex (u := (un, ua, uk)) h0 hblu 0 0 (fun j => (hp0 j).1) 0 0 _ (vkF_wf _ _ hw) (bok_wf _ _ hw) (by omega) (by
  rw [exF_cons, hz, Int.add_zero, hbl]; rfl)
 have hnx := su_nodes (u := (un, ua, uk)) (fun m => nodeB b b.entries.length (-1) m = true) (fun m h => nodeB_var h) (fun m hm => hndu m hm) 0 0 0 0 (.cons [] n a k .nil) (fun m hm => hnd m (by rw [hrow]; exact hm))
 rw [hF]
 rw [trF_cons] at hwx hex hnx hlx ⊢
 rw [hz, Int.add_zero] at hwx hex hnx hlx ⊢
 generalize trT (suS (un, ua, uk)) 0 (n, a, k) = y at *
 have e0 : trF (suS (un, ua, uk)) 0 0 (0 + 1) 0 .nil = .nil := rfl
 rw [e0] at hwx hex hnx hlx ⊢
 have hry : row (.cons [] y.1 y.2.1 y.2.2 .nil) = rowT y := by simp [row, rowT]
 rw [hry] at hnx hlx ⊢
 refine ⟨by simp, fun _ => ⟨kid_wf hwx (by simp [kidL]), ?_, ?_, hnx⟩⟩
 · show (rowT y).length ≤ 4096
   have e1 : szT (n, a, k) = (rowT (n, a, k)).length := rfl
   rw [e1] at hbig
   omega
 rw [exF_cons, hz, Int.add_zero, Bool.or_eq_false_iff] at hex
 exact hex.1
theorem up_fit {b : Bk} {free up : Int} {u : TT} (h : FitT b free u) (h0 : 0 ≤ up) (h1 : free + up ≤ 1000000) : FitT b (free + up) (upT u up) ∧ liftR (rowT u) up 0 = (rowT (upT u up), 0) := by
 have hrt := h.rt
 have hm : min (0 : Int) 1048577 = 0 := by decide
 have hz : aroundI 0 0 ((0 : Nat) : Int) = 0 := by decide
 have hg : (raV up 0).G1 0 () u.1 u.2.2 = true := by
  have hl : ((row (.cons [] u.1 u.2.1 u.2.2 .nil)).length : Int) ≤ 4096 := by
   have h2 := h.few
   have h3 : row (.cons [] u.1 u.2.1 u.2.2 .nil) = rowT u := by simp [row, rowT]
   rw [h3]
   have h4 : (rowT u).length ≤ 4096 := h2
   omega
  have h2 := raV_far (B := free) (up := up) h0 0 0 (fun j => by rw [around_plain (by decide) (by decide) (by decide) (by decide)]; omega) 0 0 _ _ h.okt.one (by
   rw [exF_cons, hz, Int.add_zero, h.low]; rfl) (by omega)
  rw [Vis.G_cons, hz, Int.add_zero, Bool.and_eq_true] at h2
  exact h2.1
 have hrow : row (raF up 0 0 0 0 0 (.cons [] u.1 u.2.1 u.2.2 .nil)) = rowT (upT u up) := by
  rw [raF_one]
  simp [row, rowT, upT]
 refine ⟨⟨up_okT h.okt h0 hg, by rw [up_len]; exact h.few, ?_, fun m hm => ?_⟩, ?_⟩
 · cases he : exT (fun x z => decide (free + up ≤ x - z)) 0 (upT u up).1 (upT u up).2.2 with
   | false => rfl
   | true =>
    have e1 : exF (fun x z => decide (free + up ≤ x - z)) 0 0 0 0 (raF up 0 0 0 0 0 (.cons [] u.1 u.2.1 u.2.2 .nil)) = true := by
     rw [raF_one, exF_cons, hz, Int.add_zero]
     unfold upT at he
     rw [he]; rfl
    have e2 := exF_ra 0 0 0 0 _ e1 h0
    rw [exF_cons, hz, Int.add_zero, h.low] at e2
    cases e2
 · rw [← hrow] at hm
   rcases row_ra 0 0 0 0 _ m hm with h9 | h9
   · exact h.nod m (by simpa [row, rowT] using h9)
   exact nodeB_var h9
 unfold liftR
 rw [if_pos hrt.shape, if_neg (by omega)]
 unfold liftT
 rw [hrt.pp, hm]
 simp only
 rw [if_pos hg, raV_row1]
 rfl
structure CtxG (b : Bk) (cv : List (List Nd)) : Prop where
 few : cv.length ≤ 990000
 vals : ∀ k, k < cv.length → cv.getD k [] = [] ∨ ∃ x, cv.getD k [] = rowT x ∧ FitT b (k : Int) x
theorem treeAt_fit {b : Bk} {free : Int} {x : TT} (h : FitT b free x) : treeAt (rowT x) = x := treeAt_rt h.rt
theorem rowT_pos (x : TT) : 0 < (rowT x).length := by simp [rowT]
theorem kidN_at {x : TT} {i : Nat} {y : TT} (h : (kidL x.2.2)[i]? = some y) : kidN x i = y := by
 unfold kidN
 rw [List.getD_eq_getElem?_getD, h]; rfl
theorem kid_some {x : TT} {i : Nat} (h : i < (kidL x.2.2).length) : (kidL x.2.2)[i]? = some (kidN x i) := by
 rw [List.getElem?_eq_getElem h, kidN_at (List.getElem?_eq_getElem h)]
theorem getD_mem {α : Type} {L : List α} {i : Nat} (h : i < L.length) (d : α) : L.getD i d ∈ L := by
 rw [List.getD_eq_getElem?_getD, List.getElem?_eq_getElem h]
 exact List.getElem_mem h
theorem argsN_mem : ∀ {L : List TT} {a : TT}, a ∈ L → szT a < argsN L
 | x :: r, a, h => by
  simp only [argsN]
  rcases List.mem_cons.1 h with rfl | h
  · omega
  · have := argsN_mem h; omega
theorem argsN_set : ∀ (L : List TT) (i : Nat) (p d : TT), i < L.length → argsN (L.set i p) + szT (L.getD i d) = argsN L + szT p
 | [], i, p, d, h => absurd h (by simp)
 | x :: r, 0, p, d, _ => by simp only [List.set_cons_zero, argsN, List.getD_cons_zero]; omega
 | x :: r, i + 1, p, d, h => by
  simp only [List.set_cons_succ, argsN, List.getD_cons_succ]
  have := argsN_set r i p d (by simpa using h)
  omega
theorem unfG_fit {b : Bk} {free : Int} {h : TT} (hh : FitT b free h) (h12 : h.1.op = 12) (h0 : 0 ≤ free) (h1 : free ≤ 990000) : ∀ (i : Nat) (x y : TT), (i : Int) ≤ h.1.b → FitT b (free + i) x → unfG h i x = some y → FitT b free y
 | 0, x, y, _, hx, he => by
  injection he with he
  subst he
  simpa using hx
 | i + 1, x, y, hi, hx, he => by
  have hb4 : h.1.b ≤ 4 := by
   have hok := hh.okt.ok
   simp only [okN, Bool.and_eq_true] at hok
   have hpl := plainB_iff.1 hok.1.1
   omega
  have hu := up_fit (fixAt_fit hh h12 (i := i) (by omega)) (up := (i : Int)) (by omega) (by omega)
  have hs := sub_rowG (b := b) (free := free + i) (x := x) (u := upT (fixAt h i) (i : Int)) (by omega) (by omega) (by
   have e : free + ((i + 1 : Nat) : Int) = free + i + 1 := by omega
   rw [← e]; exact hx) hu.1
  simp only [unfG] at he
  split at he
  · rename_i h9
    exact unfG_fit hh h12 h0 h1 i _ y (by omega) (hs.2.2 h9) he
  · cases he
theorem around_fix {x : TT} (h12 : x.1.op = 12) (i : Nat) : aroundI x.1.op x.1.b ((2 * i + 1 : Nat) : Int) = x.1.b := by
 unfold aroundI
 rw [if_neg (by omega), if_pos (by omega)]
theorem unfR_fit {b : Bk} {free : Int} {h y : TT} (hh : FitT b free h) (h12 : h.1.op = 12) (h0 : 0 ≤ free) (h1 : free ≤ 990000) (he : unfR h = some y) : FitT b free y := by
 obtain ⟨p1, p2, p3, p4, p5⟩ := fix_parts hh.okt h12
 have hk := hh.kid (kid_some (x := h) (i := 2 * h.1.a.toNat + 1) (by omega))
 rw [around_fix h12] at hk
 unfold unfR at he
 exact unfG_fit hh h12 h0 h1 _ _ y (by omega) (by rw [show ((h.1.b.toNat : Nat) : Int) = h.1.b from by omega]; exact hk) he
theorem around_one {n : Nd} {i : Int} (h : (n.op = 5 ∧ i = 1) ∨ (n.op = 7 ∧ i = 2)) : aroundI n.op n.b i = 1 := by
 unfold aroundI
 rw [if_pos (by omega)]
theorem around_nil {n : Nd} {i : Int} (h : (n.op = 5 ∧ i = 0) ∨ (n.op = 7 ∧ i < 2) ∨ n.op = 11) : aroundI n.op n.b i = 0 := by
 unfold aroundI
 rw [if_neg (by omega), if_neg (by omega)]
theorem sub_fit {b : Bk} {free : Int} {x u : TT} (h0 : 0 ≤ free) (h1 : free ≤ 990000) (hx : FitT b (free + 1) x) (hu : FitT b free u) (he : (subTT x u).2 = 0) : FitT b free (subTT x u).1 := (sub_rowG h0 (by omega) hx hu).2.2 he
theorem var_val {b : Bk} {cv : List (List Nd)} {f : TT} (hf : FitT b (cv.length : Int) f) (h1 : f.1.op = 1) : 0 ≤ f.1.a ∧ f.1.a.toNat < cv.length ∧ f.1.a ≤ 1048576 := by
 have h2 := (ex_top hf.low).1 h1
 rw [decide_eq_false_iff_not] at h2
 have h3 := hf.okt.ok
 simp only [okN, Bool.and_eq_true] at h3
 have h4 := plainB_a h3.1.1
 omega
theorem val_fit {b : Bk} {cv : List (List Nd)} (hc : CtxG b cv) {a : Int} (h0 : 0 ≤ a) (h1 : a.toNat < cv.length) (h2 : 0 < (valAt cv a).length) : ∃ x, valAt cv a = rowT x ∧ treeAt (valAt cv a) = x ∧ FitT b ((cv.length - 1 - a.toNat : Nat) : Int) x ∧ FitT b (cv.length : Int) (upT x (a + 1)) ∧ liftR (rowT x) (a + 1) 0 = (rowT (upT x (a + 1)), 0) := by
 unfold valAt at h2 ⊢
 have hfew := hc.few
 rcases hc.vals (cv.length - 1 - a.toNat) (by omega) with h | ⟨x, hx, hfx⟩
 · rw [h] at h2; cases h2
 have hu := up_fit hfx (up := a + 1) (by omega) (by omega)
 have e : ((cv.length - 1 - a.toNat : Nat) : Int) + (a + 1) = (cv.length : Int) := by omega
 rw [e] at hu
 exact ⟨x, hx, by rw [hx]; exact treeAt_fit hfx, hfx, hu.1, hu.2⟩
theorem const_body {b : Bk} (hr : rightE b = 0) {free : Int} (h0 : 0 ≤ free) {f : TT} (hf : FitT b free f) (h8 : f.1.op = 8) : 0 ≤ f.1.a ∧ f.1.a < (b.entries.length : Int) ∧ (entB b f.1.a).body = rowT (treeAt (entB b f.1.a).body) ∧ FitT b free (treeAt (entB b f.1.a).body) := by
 have hn := hf.nod f.1 (by simp [rowT])
 unfold nodeB at hn
 rw [if_neg (by omega), if_pos h8, Bool.and_eq_true, decide_eq_true_eq, beq_iff_eq] at hn
 have h3 := hf.okt.ok
 simp only [okN, Bool.and_eq_true] at h3
 have h4 := plainB_a h3.1.1
 obtain ⟨e, hfit⟩ := fit_of (body_def hr h4.1 hn.1 hn.2)
 exact ⟨h4.1, hn.1, e, hfit.mono h0⟩
theorem own_fit {b : Bk} {cv : List (List Nd)} (hr : rightE b = 0) (hc : CtxG b cv) {f y : Fc} (hf : FocG b (cv.length : Int) f) (hrd : readyF b cv f = true) (h : ownF b cv f = some y) : FocG b (cv.length : Int) y ∧ fsz y ≤ 4096 := by
 have hfew := hc.few
 unfold readyF at hrd
 unfold ownF at h
 by_cases c5 : f.1.1.op = 5
 · rw [if_pos c5] at hrd h
   rw [decide_eq_true_eq] at hrd
   obtain ⟨p, q, hk⟩ := kids_two hf.head.okt (.inr (.inl c5))
   have hq := hf.head.kid (i := 1) (by rw [hk]; rfl)
   rw [kidN_at (i := 1) (by rw [hk]; rfl)] at h
   have har : aroundI f.1.1.op f.1.1.b ((1 : Nat) : Int) = 1 := around_one (.inl ⟨c5, rfl⟩)
   rw [har] at hq
   have ha := hf.args _ (getD_mem hrd (default, [], .nil))
   split at h
   · rename_i h9
     obtain ⟨g1, _, g3, _⟩ := onto_fit (sub_fit (by omega) (by omega) hq ha h9) (fun a ha => hf.args a (List.mem_of_mem_drop ha)) h
     exact ⟨g1, g3⟩
   cases h
 rw [if_neg c5] at hrd h
 by_cases c7 : f.1.1.op = 7
 · rw [if_pos c7] at h
   obtain ⟨p, q, r, hk⟩ := kids_three hf.head.okt c7
   have hq := hf.head.kid0 (i := 1) (by rw [hk]; rfl) (around_nil (.inr (.inl ⟨c7, by decide⟩)))
   have hs := hf.head.kid (i := 2) (by rw [hk]; rfl)
   have har : aroundI f.1.1.op f.1.1.b ((2 : Nat) : Int) = 1 := around_one (.inr ⟨c7, rfl⟩)
   rw [har] at hs
   rw [kidN_at (i := 1) (by rw [hk]; rfl), kidN_at (i := 2) (by rw [hk]; rfl)] at h
   split at h
   · rename_i h9
     obtain ⟨g1, _, g3, _⟩ := onto_fit (sub_fit (by omega) (by omega) hs hq h9) hf.args h
     exact ⟨g1, g3⟩
   cases h
 rw [if_neg c7] at h
 by_cases c8 : f.1.1.op = 8
 · rw [if_neg (by omega), if_pos c8] at h
   obtain ⟨_, _, _, hfit⟩ := const_body hr (by omega) hf.head c8
   obtain ⟨g1, _, g3, _⟩ := onto_fit hfit hf.args h
   exact ⟨g1, g3⟩
 rw [if_neg (by omega)] at hrd
 by_cases c1 : f.1.1.op = 1
 · rw [if_pos c1] at hrd h
   rw [decide_eq_true_eq] at hrd
   obtain ⟨v1, v2, _⟩ := var_val hf.head c1
   obtain ⟨x, _, ex, _, hfit, _⟩ := val_fit hc v1 v2 hrd
   rw [ex] at h
   obtain ⟨g1, _, g3, _⟩ := onto_fit hfit hf.args h
   exact ⟨g1, g3⟩
 rw [if_neg c1, if_neg c8] at h
 rw [if_neg c1] at hrd
 by_cases c11 : f.1.1.op = 11
 · rw [if_pos c11] at hrd h
   obtain ⟨p, q, br, hk, hbr⟩ := kids_match hf.head.okt c11
   have hq := hf.head.kid0 (i := 1) (by rw [hk]; rfl) (around_nil (.inr (.inr c11)))
   rw [kidN_at (i := 1) (by rw [hk]; rfl)] at hrd h
   unfold fitsM at hrd
   simp only [Bool.and_eq_true, beq_iff_eq, decide_eq_true_eq] at hrd
   obtain ⟨m1, _, m3, _⟩ := hrd
   have hs := foc hq
   have hcb := ctor_bd hs.head.okt m1
   have hkb := hf.head.kid0 (kid_some (x := f.1) (i := 2 + (hdW q).1.1.b.toNat) (by rw [hk]; simp only [List.length_cons]; omega)) (around_nil (.inr (.inr c11)))
   obtain ⟨g1, _, g3, _⟩ := onto_fit hkb (fun a ha => by
    rcases List.mem_append.1 ha with ha | ha
    · exact hs.args a (List.mem_of_mem_drop ha)
    exact hf.args a ha) h
   exact ⟨g1, g3⟩
 rw [if_neg c11] at hrd h
 by_cases c12 : f.1.1.op = 12
 · cases hu : unfR f.1 with
   | none => rw [hu] at h; cases h
   | some z =>
    rw [hu] at h
    obtain ⟨g1, _, g3, _⟩ := onto_fit (unfR_fit hf.head c12 (by omega) (by omega) hu) hf.args h
    exact ⟨g1, g3⟩
 rw [if_neg c12] at hrd; cases hrd
theorem part_fit {b : Bk} {free : Int} {f : Fc} (hf : FocG b free f) {p : TT} (h : partF f = some p) : FitT b free p ∧ szT p < fsz f := by
 unfold partF at h
 split at h
 · rename_i c11
   injection h with h
   subst h
   obtain ⟨p, q, br, hk, hbr⟩ := kids_match hf.head.okt c11
   have hq := hf.head.kid0 (i := 1) (by rw [hk]; rfl) (around_nil (.inr (.inr c11)))
   rw [kidN_at (i := 1) (by rw [hk]; rfl)]
   refine ⟨hq, ?_⟩
   have hm : q ∈ kidL f.1.2.2 := by rw [hk]; simp
   have := sz_kid hm
   have e : szT f.1 = 1 + f.1.2.1.length + (row f.1.2.2).length := szT_eq f.1.1 f.1.2.1 f.1.2.2
   unfold fsz
   omega
 split at h
 · split at h
   · rename_i hl
     injection h with h
     subst h
     have hm := getD_mem hl (default, [], .nil)
     refine ⟨hf.args _ hm, ?_⟩
     have := argsN_mem hm
     unfold fsz
     omega
   cases h
 cases h
theorem setK1_row {p q : List Nd} {n1 n2 : Nd} {a1 a2 : List Nd} {k1 k2 r : Fo} (t : TT) : setK1 (.cons p n1 a1 k1 (.cons q n2 a2 k2 r)) t = .cons p n1 a1 k1 (.cons q t.1 t.2.1 t.2.2 r) := rfl
theorem with_fit {b : Bk} {free : Int} {f : Fc} (hf : FocG b free f) {p p' : TT} (h : partF f = some p) (hp : FitT b free p') (hs : fsz f + szT p' ≤ 4096 + szT p) : FocG b free (withF f p') ∧ fsz (withF f p') + szT p = fsz f + szT p' := by
 unfold partF at h
 unfold withF
 split at h
 rotate_left
 · split at h
   · rename_i c11 c12
     rw [if_neg c11]
     split at h
     · rename_i hl
       injection h with h
       subst h
       have e := argsN_set f.2 (placeT f.1).toNat p' (default, [], .nil) hl
       refine ⟨⟨hf.head, hf.ne, fun y hy => ?_⟩, ?_⟩
       · rcases List.mem_or_eq_of_mem_set hy with hy | rfl
         · exact hf.args y hy
         exact hp
       unfold fsz
       simp only
       omega
     cases h
   cases h
 rename_i c11
 rw [if_pos c11]
 injection h with h
 subst h
 obtain ⟨⟨n, a, k⟩, args⟩ := f
 have hw := hf.head.okt.wf
 obtain ⟨u, q, br, hk, hbr⟩ := kids_match hf.head.okt c11
 have hq1 : kidN (n, a, k) 1 = q := kidN_at (i := 1) (by rw [hk]; rfl)
 simp only at hq1 hw c11
 rw [hq1] at hs ⊢
 match k, hk with
 | .cons pr n1 a1 k1 (.cons qr n2 a2 k2 r), hk =>
  simp only [kidL, List.cons.injEq] at hk
  obtain ⟨_, rfl, _⟩ := hk
  have hlen : szT (n, a, setK1 (.cons pr n1 a1 k1 (.cons qr n2 a2 k2 r)) p') + szT (n2, a2, k2) = szT (n, a, .cons pr n1 a1 k1 (.cons qr n2 a2 k2 r)) + szT p' := by
   have e1 : szT (n, a, setK1 (.cons pr n1 a1 k1 (.cons qr n2 a2 k2 r)) p') = 1 + a.length + (pr.length + szT (n1, a1, k1) + (qr.length + szT p' + (row r).length)) := by
    rw [setK1_row, szT_eq, sz_cons, sz_cons]
   have e2 : szT (n, a, .cons pr n1 a1 k1 (.cons qr n2 a2 k2 r)) = 1 + a.length + (pr.length + szT (n1, a1, k1) + (qr.length + szT (n2, a2, k2) + (row r).length)) := by
    rw [szT_eq, sz_cons, sz_cons]
   rw [e1, e2]
   omega
  have hfz : fsz ((n, a, .cons pr n1 a1 k1 (.cons qr n2 a2 k2 r)), args) = szT (n, a, .cons pr n1 a1 k1 (.cons qr n2 a2 k2 r)) + argsN args := rfl
  have hfz2 : fsz ((n, a, setK1 (.cons pr n1 a1 k1 (.cons qr n2 a2 k2 r)) p'), args) = szT (n, a, setK1 (.cons pr n1 a1 k1 (.cons qr n2 a2 k2 r)) p') + argsN args := rfl
  refine ⟨⟨⟨⟨hf.head.okt.ok, hf.head.okt.at_, ?_⟩, ?_, ?_, ?_⟩, hf.ne, hf.args⟩, ?_⟩
  · simp only at hw ⊢
    rw [setK1_row]
    cases hd : ds n with
    | nil => rw [hd] at hw; exact hw.elim
    | cons d1 dl =>
     cases dl with
     | nil => rw [hd] at hw; exact hw.2.2.2.2.elim
     | cons d2 dl =>
      rw [hd] at hw
      obtain ⟨w1, w2, w3, w4, w5, w6, w7, w8, w9⟩ := hw
      exact ⟨w1, w2, w3, w4, w5, hp.okt.ok, hp.okt.at_, hp.okt.wf, w9⟩
  · show szT (n, a, setK1 (.cons pr n1 a1 k1 (.cons qr n2 a2 k2 r)) p') ≤ 4096
    omega
  · have hl := (ex_top hf.head.low).2
    simp only at hl ⊢
    rw [setK1_row]
    unfold exT
    rw [show decide (n.op = 1) = false from decide_eq_false (by omega), Bool.false_and, Bool.false_or]
    rw [exF_cons, exF_cons, Bool.or_eq_false_iff, Bool.or_eq_false_iff] at hl ⊢
    refine ⟨hl.1, ?_, hl.2.2⟩
    have hz : aroundI n.op n.b ((0 + 1 : Nat) : Int) = 0 := around_nil (.inr (.inr c11))
    rw [hz, Int.add_zero]
    exact hp.low
  · intro m hm
    have hn := hf.head.nod
    rw [setK1_row] at hm
    simp only [rowT, row, List.mem_cons, List.mem_append] at hm hn
    rcases hm with hm | hm | hm | hm | hm | hm | hm | hm | hm | hm | hm
    · exact hn m (.inl hm)
    · exact hn m (.inr (.inl hm))
    · exact hn m (.inr (.inr (.inl hm)))
    · exact hn m (.inr (.inr (.inr (.inl hm))))
    · exact hn m (.inr (.inr (.inr (.inr (.inl hm)))))
    · exact hn m (.inr (.inr (.inr (.inr (.inr (.inl hm))))))
    · exact hn m (.inr (.inr (.inr (.inr (.inr (.inr (.inl hm)))))))
    · exact hp.nod m (by simp [rowT, hm])
    · exact hp.nod m (by simp [rowT, hm])
    · exact hp.nod m (by simp [rowT, hm])
    exact hn m (by simp [hm])
  · rw [hfz, hfz2]
    omega
end Go.Proofs.Ytjoddliplahgkaa
