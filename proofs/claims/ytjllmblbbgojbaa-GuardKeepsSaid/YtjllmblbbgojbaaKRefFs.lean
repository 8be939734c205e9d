/- Merged: RefFineP, RefFineS. -/
import Derived.Test.YtjllmblbbgojbaaKRefGd
import Derived.Test.YtjllmblbbgojbaaKReads
import Derived.Test.YtjllmblbbgojbaaKRights
namespace Go.Proofs.Ytjllmblbbgojbaa
section
open Go.RowKit
def kidsRR (rec_ : List Int → TT → Bool) (ms : List Int) (n : Nd) : Nat → List TT → Bool
 | _, [] => true
 | i, y :: ys => rec_ (List.replicate (aroundI n.op n.b i).toNat (-1) ++ ms) y && kidsRR rec_ ms n (i + 1) ys
def branchRR (rec_ : List Int → TT → Bool) : Nat → List Int → TT → Bool
 | 0, ms, y => rec_ ms y
 | n + 1, ms, (nd, a, .cons p n1 a1 k1 (.cons q n2 a2 k2 r)) => if nd.op = 5 then rec_ ms (n1, a1, k1) && branchRR rec_ n (-3 :: ms) (n2, a2, k2) else rec_ ms (nd, a, .cons p n1 a1 k1 (.cons q n2 a2 k2 r))
 | _ + 1, ms, y => rec_ ms y
def branchesRR (rec_ : List Int → TT → Bool) (ca : Nat → Nat) (ms : List Int) : Nat → List TT → Bool
 | _, [] => true
 | k, y :: ys => branchRR rec_ (ca k) ms y && branchesRR rec_ ca ms (k + 1) ys
def downR (ms : List Int) (x : TT) : Bool := lessR ms x || (x.1.op == 1 && ofR ms x.1.a == -2)
def callR (rec_ : List Int → TT → Bool) (places : List Int) (ms : List Int) (v : Int) (args : List TT) : Bool :=
 (match args[(places.getD (ofR ms v).toNat 0).toNat]? with | some y => lessR ms y | none => false) && args.all (rec_ ms)
def matchRR (rec_ : List Int → TT → Bool) (ca : Nat → Nat) (ms : List Int) : List TT → Bool
 | mo :: sc :: br => (rec_ ms mo && rec_ ms sc) && branchesRR rec_ (fun k => if downR ms sc then ca k else 0) ms 0 br
 | _ => true
def fineR (places : List Int) (ca : Int → Nat → Nat) : Nat → List Int → TT → Bool
 | 0, _, _ => true
 | f + 1, ms, x =>
  if (hdW x).1.1.op = 1 ∧ 0 ≤ ofR ms (hdW x).1.1.a then callR (fineR places ca f) places ms (hdW x).1.1.a (hdW x).2
  else if x.1.op = 11 then matchRR (fineR places ca f) (ca x.1.a) ms (kidL x.2.2)
  else kidsRR (fineR places ca f) ms x.1 0 (kidL x.2.2)
theorem fineR_suc (places : List Int) (ca : Int → Nat → Nat) (f : Nat) (ms : List Int) (x : TT) : fineR places ca (f + 1) ms x = if (hdW x).1.1.op = 1 ∧ 0 ≤ ofR ms (hdW x).1.1.a then callR (fineR places ca f) places ms (hdW x).1.1.a (hdW x).2
 else if x.1.op = 11 then matchRR (fineR places ca f) (ca x.1.a) ms (kidL x.2.2)
 else kidsRR (fineR places ca f) ms x.1 0 (kidL x.2.2) := rfl
def mkC (z : Int) : Int := if z = 0 then -1 else if z = 1 then -2 else if z = 2 then -3 else z - 100
def mkR (zs : List Int) : List Int := (zs.map mkC).reverse
theorem mkR_len (zs : List Int) : (mkR zs).length = zs.length := by simp [mkR]
theorem mkR_add (zs : List Int) (z : Int) : mkR (zs ++ [z]) = mkC z :: mkR zs := by simp [mkR]
theorem mkR_many (zs : List Int) (m : Nat) : mkR (zs ++ List.replicate m 0) = List.replicate m (-1) ++ mkR zs := by
 have : mkC 0 = -1 := rfl
 simp [mkR, this]
theorem ofR_mk (zs : List Int) {v : Int} (hv : 0 ≤ v) : ofR (mkR zs) v = mkC (ofI zs v) := by
 unfold ofR ofI
 rw [mkR_len]
 by_cases h : v < (zs.length : Int)
 · rw [if_pos h, if_neg (by omega)]
   obtain ⟨u, rfl⟩ : ∃ u : Nat, v = (u : Int) := ⟨v.toNat, by omega⟩
   rw [Int.toNat_natCast]
   have hu : u < zs.length := by omega
   unfold mkR
   rw [List.getD_eq_getElem?_getD, List.getElem?_reverse (by simpa using hu), List.length_map, List.getElem?_map, List.getD_eq_getElem?_getD, List.getElem?_eq_getElem (by omega)]
   rfl
 rw [if_neg h, if_pos (by omega)]
 rfl
theorem mkC_cases {nq : Nat} {z : Int} (h : (0 ≤ z ∧ z ≤ 2) ∨ (100 ≤ z ∧ z < 100 + (nq : Int))) : (0 ≤ mkC z ↔ 100 ≤ z) ∧ (mkC z = -3 ↔ z = 2) ∧ (mkC z = -2 ↔ z = 1) ∧ (100 ≤ z → mkC z = z - 100) := by
 unfold mkC
 repeat' split
 all_goals omega
theorem RtX.kid {n : Nd} {a : List Nd} {k : Fo} (h : RtX (n, a, k)) : ∀ {y : TT}, y ∈ kidL k → RtX y := by
 obtain ⟨_, _, hw⟩ := Rt.wf h
 have hf : (rowT (n, a, k)).length ≤ 4096 := Rt.few h
 simp only at hw
 have hl : (row k).length ≤ 4096 := by simp only [rowT, List.length_cons, List.length_append] at hf; omega
 clear h hf
 have key : ∀ (F : Fo) (dl : List Bool), Wf dl F → (row F).length ≤ 4096 → ∀ y ∈ kidL F, RtX y := by
  intro F
  induction F with
  | nil => intro dl _ _ y hy; cases hy
  | cons p n a k x _ ih =>
   intro dl h hl y hy
   cases dl with
   | nil => exact h.elim
   | cons d dr =>
    obtain ⟨_, h1, h2, h3, h4⟩ := h
    rw [sz_cons] at hl
    rw [show kidL (.cons p n a k x) = (n, a, k) :: kidL x from rfl] at hy
    rcases List.mem_cons.1 hy with rfl | hy
    · exact rt_make h1 h2 h3 (by have : szT (n, a, k) ≤ 4096 := by omega
                                 exact this)
    · exact ih dr h4 (by omega) y hy
 intro y hy
 exact key k _ hw hl y hy
theorem RtX.kids_len {n : Nd} {a : List Nd} {k : Fo} (h : RtX (n, a, k)) : (kidL k).length = (ds n).length := by
 obtain ⟨_, _, hw⟩ := Rt.wf h
 have : ∀ (F : Fo) (dl : List Bool), Wf dl F → (kidL F).length = dl.length := by
  intro F
  induction F with
  | nil => intro dl h; cases dl with
   | nil => rfl
   | cons _ _ => exact h.elim
  | cons p n a k x _ ih => intro dl h; cases dl with
   | nil => exact h.elim
   | cons d dr => obtain ⟨_, _, _, _, hx⟩ := h; simp only [kidL, List.length_cons, ih dr hx]
 exact this k _ hw
theorem RtX.hd {x : TT} (h : RtX x) : RtX (hdW x).1 ∧ ∀ y ∈ (hdW x).2, RtX y := by
 obtain ⟨h1, _, _, h4, _⟩ := hd_right _ x h (Nat.le_refl _)
 exact ⟨h1, fun y hy => (h4 y hy).1⟩
theorem less_mk {nq : Nat} {zs : List Int} (hz : GM nq zs) {x : TT} (hx : RtX x) : lessR (mkR zs) x = lessT zs x := by
 show ((hdW x).1.1.op == 1 && ofR (mkR zs) (hdW x).1.1.a == -3) = ((hdW x).1.1.op == 1 && ofI zs (hdW x).1.1.a == 2)
 have hva := var_a hx.hd.1
 rw [ofR_mk zs hva]
 have := (mkC_cases (hz.of hva)).2.1
 congr 1
 rw [Bool.eq_iff_iff, beq_iff_eq, beq_iff_eq]
 exact this
theorem down_mk {nq : Nat} {zs : List Int} (hz : GM nq zs) {x : TT} (hx : RtX x) : downR (mkR zs) x = downT zs x := by
 unfold downR
 rw [less_mk hz hx]
 show ((hdW x).1.1.op == 1 && ofI zs (hdW x).1.1.a == 2 || (x.1.op == 1 && ofR (mkR zs) x.1.a == -2)) = ((if (hdW x).1.1.op = 1 then ofI zs (hdW x).1.1.a else 0) == 2 || ((if (hdW x).1.1.op = 1 then ofI zs (hdW x).1.1.a else 0) == 1 && (hdW x).2.isEmpty))
 by_cases h6 : x.1.op = 6
 · obtain ⟨n, a, k⟩ := x
   obtain ⟨n1, a1, k1, n2, a2, k2, rfl, _, _⟩ := app_split hx h6
   rw [hdW_app h6]
   have h1 : (n.op == 1) = false := by rw [beq_eq_false_iff_ne]; simp only at h6; omega
   simp only [h1, Bool.false_and, Bool.or_false]
   by_cases h : (hdW (n1, a1, k1)).1.1.op = 1
   · simp [h]
   simp [h]
 rw [hdW_stop h6]
 simp only [List.isEmpty_nil, Bool.and_true]
 have hva := var_a hx
 rw [ofR_mk zs hva]
 have h2 := (mkC_cases (hz.of hva)).2.2.1
 by_cases h : x.1.op = 1
 · have e : (mkC (ofI zs x.1.a) == -2) = (ofI zs x.1.a == 1) := by rw [Bool.eq_iff_iff, beq_iff_eq, beq_iff_eq]; exact h2
   simp [h, e]
 simp [h]
theorem branch_mk {nq : Nat} {r1 r2 : List Int → TT → Bool} : ∀ (m : Nat) (zs : List Int) (y : TT), GM nq zs → RtX y → (∀ zs' y', GM nq zs' → RtX y' → szT y' ≤ szT y → r1 (mkR zs') y' = r2 zs' y') → branchRR r1 m (mkR zs) y = branchT r2 m zs y
 | 0, zs, y, hz, hy, h => h zs y hz hy (Nat.le_refl _)
 | m + 1, zs, (nd, a, .nil), hz, hy, h => h zs _ hz hy (Nat.le_refl _)
 | m + 1, zs, (nd, a, .cons p n1 a1 k1 .nil), hz, hy, h => h zs _ hz hy (Nat.le_refl _)
 | m + 1, zs, (nd, a, .cons p n1 a1 k1 (.cons q n2 a2 k2 r)), hz, hy, h => by
  have h0 : szT (nd, a, .cons p n1 a1 k1 (.cons q n2 a2 k2 r)) = 1 + a.length + (p.length + szT (n1, a1, k1) + (q.length + szT (n2, a2, k2) + (row r).length)) := by rw [szT_eq, sz_cons, sz_cons]
  have k1' : RtX (n1, a1, k1) := hy.kid (by simp [kidL])
  have k2' : RtX (n2, a2, k2) := hy.kid (by simp [kidL])
  simp only [branchT, branchRR]
  rw [h zs (n1, a1, k1) hz k1' (by omega), h zs _ hz hy (Nat.le_refl _), show (-3 : Int) :: mkR zs = mkR (zs ++ [2]) from (mkR_add zs 2).symm, branch_mk m (zs ++ [2]) (n2, a2, k2) (hz.add (by omega) (by omega)) k2' (fun zs' y' g1 g2 hy => h zs' y' g1 g2 (by omega))]
theorem branches_mk {nq : Nat} {r1 r2 : List Int → TT → Bool} {ca1 ca2 : Nat → Nat} {zs : List Int} (hz : GM nq zs) (hc : ∀ k, ca1 k = ca2 k) : ∀ (k : Nat) (L : List TT), (∀ y ∈ L, RtX y) → (∀ y ∈ L, ∀ zs' y', GM nq zs' → RtX y' → szT y' ≤ szT y → r1 (mkR zs') y' = r2 zs' y') → branchesRR r1 ca1 (mkR zs) k L = branchesT r2 ca2 zs k L
 | _, [], _, _ => rfl
 | k, y :: L, hr, h => by
  simp only [branchesRR, branchesT]
  rw [hc, branch_mk _ zs y hz (hr y (by simp)) (h y (by simp)), branches_mk hz hc (k + 1) L (fun z hz => hr z (by simp [hz])) (fun z hz => h z (by simp [hz]))]
theorem pairs_mk {nq : Nat} {r1 r2 : List Int → TT → Bool} {zs : List Int} {n : Nd} (h12 : n.op = 12) (hz : GM nq zs) : ∀ (L : List TT) (i : Nat), i % 2 = 0 → L.length % 2 = 0 → (∀ y ∈ L, RtX y) → (∀ y ∈ L, ∀ zs', GM nq zs' → r1 (mkR zs') y = r2 zs' y) → kidsRR r1 (mkR zs) n i L = pairsT r2 zs (zs ++ List.replicate n.b.toNat 0) L
 | [], _, _, _, _, _ => rfl
 | [_], _, _, h, _, _ => by simp at h
 | t :: b :: L, i, hi, hl, hr, h => by
  have a0 : aroundI n.op n.b (i : Int) = 0 := by unfold aroundI; rw [if_neg (by omega), if_neg (by omega)]
  have a1 : aroundI n.op n.b ((i + 1 : Nat) : Int) = n.b := by unfold aroundI; rw [if_neg (by omega), if_pos (by omega)]
  simp only [kidsRR, pairsT]
  rw [a0, a1, show List.replicate (Int.toNat 0) (-1 : Int) ++ mkR zs = mkR zs from rfl, ← mkR_many, h t (by simp) zs hz, h b (by simp) _ hz.many, pairs_mk h12 hz L (i + 1 + 1) (by omega) (by simp only [List.length_cons] at hl; omega) (fun z hz => hr z (by simp [hz])) (fun z hz => h z (by simp [hz]))]
set_option maxHeartbeats 1000000 in
theorem fine_ref {places : List Int} {ca : Int → Nat → Nat} : ∀ (s : Nat) (x : TT) (zs : List Int), szT x ≤ s → RtX x → GM places.length zs → fineR places ca s (mkR zs) x = fineW places ca zs x
 | 0, (n, a, k), _, h, _, _ => by rw [szT_eq] at h; omega
 | s + 1, x, zs, hs, hx, hz => by
  rw [fineR_suc, fineW_eq]
  have hva := var_a hx.hd.1
  have hm := mkC_cases (hz.of hva)
  have ho := ofR_mk zs hva
  obtain ⟨hs1, hs2⟩ := hdW_size x
  have hkid : ∀ y ∈ kidL x.2.2, RtX y ∧ szT y ≤ s := fun y hy => ⟨RtX.kid (n := x.1) (a := x.2.1) hx hy, by
   have h1 := sz_kid hy
   have h2 := szT_eq x.1 x.2.1 x.2.2
   have h3 : szT x = szT (x.1, x.2.1, x.2.2) := rfl
   omega⟩
  by_cases hf : (hdW x).1.1.op = 1 ∧ 0 ≤ ofR (mkR zs) (hdW x).1.1.a
  · rw [if_pos hf]
    have h100 : 100 ≤ ofI zs (hdW x).1.1.a := hm.1.1 (by rw [← ho]; exact hf.2)
    unfold callR headW
    rw [if_pos hf.1, if_neg (by omega), ho, hm.2.2.2 h100, Bool.and_comm]
    congr 1
    · exact all_congr' fun y hy => fine_ref s y zs (by have := hs2 y hy; omega) (hx.hd.2 y hy) hz
    cases hq : (hdW x).2[(places.getD (ofI zs (hdW x).1.1.a - 100).toNat 0).toNat]? with
    | none => rfl
    | some y => exact less_mk hz (hx.hd.2 y (List.mem_of_getElem? hq))
  rw [if_neg hf]
  have hnf : (hdW x).1.1.op = 1 → ofI zs (hdW x).1.1.a < 100 := fun h1 => by
   have h2 : ¬ 0 ≤ mkC (ofI zs (hdW x).1.1.a) := fun h => hf ⟨h1, by rw [ho]; exact h⟩
   have h3 := hm.1
   omega
  by_cases h6 : x.1.op = 6
  · rw [if_neg (by omega)]
    obtain ⟨n, a, k⟩ := x
    obtain ⟨n1, a1, k1, n2, a2, k2, rfl, hsp⟩ := app_split hx h6
    have e0 : aroundI n.op n.b ((0 : Nat) : Int) = 0 := by simp only at h6; unfold aroundI; rw [if_neg (by omega), if_neg (by omega)]
    have e1 : aroundI n.op n.b ((0 + 1 : Nat) : Int) = 0 := by simp only at h6; unfold aroundI; rw [if_neg (by omega), if_neg (by omega)]
    rw [hdW_app h6] at hnf ⊢
    simp only [kidL, kidsRR] at hkid ⊢
    rw [e0, e1, show List.replicate (Int.toNat 0) (-1 : Int) ++ mkR zs = mkR zs from rfl, fine_ref s (n1, a1, k1) zs (hkid _ (by simp)).2 (hkid _ (by simp)).1 hz, fine_ref s (n2, a2, k2) zs (hkid _ (by simp)).2 (hkid _ (by simp)).1 hz, fineW_eq places ca zs (n1, a1, k1), List.all_append, Bool.and_true]
    have hh : ∀ L L', headW places ca (fineW places ca) zs (hdW (n1, a1, k1)).1 L = headW places ca (fineW places ca) zs (hdW (n1, a1, k1)).1 L' := by
     intro L L'
     unfold headW
     by_cases h1 : (hdW (n1, a1, k1)).1.1.op = 1
     · rw [if_pos h1, if_pos h1, if_pos (hnf h1), if_pos (hnf h1)]
     rw [if_neg h1, if_neg h1]
    rw [hh ((hdW (n1, a1, k1)).2 ++ [(n2, a2, k2)]) (hdW (n1, a1, k1)).2]
    simp only [List.all_cons, List.all_nil, Bool.and_true]
    cases (hdW (n1, a1, k1)).2.all (fineW places ca zs) <;> cases headW places ca (fineW places ca) zs (hdW (n1, a1, k1)).1 (hdW (n1, a1, k1)).2 <;> cases fineW places ca zs (n2, a2, k2) <;> rfl
  rw [hdW_stop h6] at hnf ⊢
  simp only [List.all_nil, Bool.true_and]
  obtain ⟨n, a, k⟩ := x
  have hkl := hx.kids_len
  simp only at h6 hnf hkid ⊢
  unfold headW
  simp only
  have hok := (Rt.wf hx).1
  simp only [okN, Bool.and_eq_true] at hok
  have hpl := plainB_iff.1 hok.1.1
  have h13 : n.op ≠ 13 := of_decide_eq_true hok.2
  have hds : n.op ≠ 12 → (ds n).length = (kidsI n.op n.b).toNat := fun h => by unfold ds; rw [if_neg h, List.length_replicate]
  have IH : ∀ y ∈ kidL k, ∀ zs', GM places.length zs' → fineR places ca s (mkR zs') y = fineW places ca zs' y := fun y hy zs' hz' => fine_ref s y zs' (hkid y hy).2 (hkid y hy).1 hz'
  by_cases h11 : n.op = 11
  · rw [if_pos h11, if_neg (by omega), if_pos h11]
    unfold matchRR
    generalize kidL k = L at *
    match L with
    | [] => rfl
    | [_] => rfl
    | mo :: sc :: br =>
     simp only
     rw [IH mo (by simp) zs hz, IH sc (by simp) zs hz, branches_mk (r2 := fineW places ca) hz (ca2 := fun k => if downT zs sc then ca n.a k else 0) (fun k => by rw [down_mk hz (hkid sc (by simp)).1]) 0 br (fun y hy => (hkid y (by simp [hy])).1) (fun y hy zs' y' g1 g2 g3 => fine_ref s y' zs' (by have := (hkid y (by simp [hy])).2; omega) g2 g1)]
  rw [if_neg h11]
  by_cases h1 : n.op = 1
  · rw [if_pos h1, if_pos (hnf h1)]
    rw [hds (by omega), h1, show (kidsI 1 n.b).toNat = 0 from rfl] at hkl
    rw [List.eq_nil_of_length_eq_zero hkl]
    rfl
  rw [if_neg h1, if_neg h11]
  by_cases h45 : n.op = 4 ∨ n.op = 5
  · rw [if_pos h45]
    have hk2 : (kidL k).length = 2 := by
     rw [hkl, hds (by omega)]
     rcases h45 with h | h <;> rw [h] <;> rfl
    have e0 : aroundI n.op n.b ((0 : Nat) : Int) = 0 := by unfold aroundI; rw [if_neg (by omega), if_neg (by omega)]
    have e1 : aroundI n.op n.b ((0 + 1 : Nat) : Int) = 1 := by unfold aroundI; rw [if_pos (.inl ⟨h45, rfl⟩)]
    generalize kidL k = L at *
    match L, hk2 with
    | [x, y], _ =>
     simp only [kidsRR]
     rw [e0, e1, show List.replicate (Int.toNat 0) (-1 : Int) ++ mkR zs = mkR zs from rfl, show List.replicate (Int.toNat 1) (-1 : Int) ++ mkR zs = mkR (zs ++ [0]) from (mkR_add zs 0).symm, IH x (by simp) zs hz, IH y (by simp) _ (hz.add (by omega) (by omega)), Bool.and_true]
  rw [if_neg h45]
  by_cases h7 : n.op = 7
  · rw [if_pos h7]
    have hk2 : (kidL k).length = 3 := by
     rw [hkl, hds (by omega), h7]; rfl
    have e0 : aroundI n.op n.b ((0 : Nat) : Int) = 0 := by unfold aroundI; rw [if_neg (by omega), if_neg (by omega)]
    have e1 : aroundI n.op n.b ((0 + 1 : Nat) : Int) = 0 := by unfold aroundI; rw [if_neg (by omega), if_neg (by omega)]
    have e2 : aroundI n.op n.b ((0 + 1 + 1 : Nat) : Int) = 1 := by unfold aroundI; rw [if_pos (.inr ⟨h7, rfl⟩)]
    generalize kidL k = L at *
    match L, hk2 with
    | [x, y, z], _ =>
     simp only [kidsRR]
     rw [e0, e1, e2, show List.replicate (Int.toNat 0) (-1 : Int) ++ mkR zs = mkR zs from rfl, show List.replicate (Int.toNat 1) (-1 : Int) ++ mkR zs = mkR (zs ++ [0]) from (mkR_add zs 0).symm, IH x (by simp) zs hz, IH y (by simp) zs hz, IH z (by simp) _ (hz.add (by omega) (by omega)), Bool.and_true, Bool.and_assoc]
  rw [if_neg h7]
  by_cases h12 : n.op = 12
  · rw [if_pos h12]
    refine pairs_mk h12 hz _ 0 rfl ?_ (fun y hy => (hkid y hy).1) IH
    rw [hkl]
    unfold ds
    rw [if_pos h12]
    simp
  · rw [if_neg h12]
    have : (kidsI n.op n.b).toNat = 0 := by
     unfold kidsI
     rw [if_neg (by omega), if_neg (by omega), if_neg h6, if_neg h13, if_neg h7, if_neg h11, if_neg h12]
     rfl
    rw [hds h12, this] at hkl
    rw [List.eq_nil_of_length_eq_zero hkl]
    rfl
end
section
open Go.RowKit
def FineRH (b : Bk) (v : BkVal) (places : List Int) (rec_ : List Int → TT → Bool) (m : Nat) : Prop :=
 ∀ (w : World) (t : TrV) (x : TT) (A : Option Addr) (n c : Nat) (ms : List Int) (P : Option Addr) (np cp : Nat), BookV w v b → TrW w t x → RtX x → JE b.entries.length x → szT x ≤ m → IntsR (· < w.heap.size) w A n c ms → (A = none → n = 0 ∧ c = 0) → n + 5 * szT x ≤ 30000 → (∀ z ∈ ms, -3 ≤ z ∧ z < (places.length : Int)) → IntsR (· < w.heap.size) w P np cp places →
  Calls Try.prog 66 #[.agg #[.int .i64 b.vars, .slice v.Ao v.no v.co, .slice v.Ae v.ne v.ce, .int .i64 b.nat, .slice v.Ap v.np v.cp], .agg #[.int .i64 x.1.op, .int .i64 x.1.a, .int .i64 x.1.b, .slice t.Ak t.nk t.ck, .slice t.Aa t.na t.ca, .slice t.Af t.nf t.cf], .slice A n c, .slice P np cp] w (BoolP (rec_ ms x) w)
theorem own_cellsZ {w : World} {base j d z : Nat} {B : Option Addr} {e : TypeId} {xs : List Value} (h : w.ownsRow base e z (.slice B j d) j xs) : ∀ ad, B = some ad → ∀ i u, xs[i]? = some u → w.cell? (ad.add i) = some u := by
 intro ad he i u hu
 have h0 := h
 rcases h.2 with ⟨hv, _⟩ | ⟨g, cap, cur, hv, _⟩
 · injection hv with e1
   rw [he] at e1
   cases e1
 injection hv with e1
 rw [he] at e1
 injection e1 with e1
 subst e1
 subst he
 exact World.ownsRow.cells h0 (g := g) rfl i u hu
theorem own_zeroZ {w : World} {base j d z : Nat} {B : Option Addr} {e : TypeId} {xs : List Value} (h : w.ownsRow base e z (.slice B j d) j xs) : B = none → j = 0 := by
 intro hB
 rcases h.2 with ⟨_, h2⟩ | ⟨g, cap, cur, hv, _⟩
 · exact h2
 injection hv with e1
 rw [hB] at e1
 cases e1
theorem foc_one {R : Nat → Prop} {w : World} : ∀ (F : Fo) (xs : List Value), FoC R w F xs → ∀ u ∈ xs, u.oneCell' = true
 | .nil, xs, h, u, hu => by
  have : xs = [] := h
  subst this
  cases hu
 | .cons _ n atoms kids next, xs, h, u, hu => by
  obtain ⟨ys, zs, rfl, ⟨sk, sa, sf, rfl, ⟨_, _, _, rfl, _⟩, ⟨_, _, _, rfl, _⟩, ⟨_, _, _, rfl, _⟩⟩, h2⟩ := h
  rcases List.mem_append.1 hu with hu | hu
  · simp only [List.mem_cons, List.not_mem_nil, or_false] at hu
    rcases hu with rfl | rfl | rfl | rfl | rfl | rfl <;> rfl
  · exact foc_one next zs h2 u hu
theorem foc_below {w w' : World} {F : Fo} {xs : List Value} (h : FoC (· < w.heap.size) w F xs) (hb : Below w.heap.size w w') : FoC (· < w'.heap.size) w' F xs :=
 FoC.keep (fun b hb2 => ⟨Nat.lt_of_lt_of_le hb2 hb.size, fun o => hb.cell (p := ⟨b, o, none⟩) hb2⟩) F xs h
theorem args_kids {w wr : World} {base j d : Nat} {B : Option Addr} {G : Fo} {vs : List Value} (ho : wr.ownsRow base 71 6 (.slice B j d) j vs) (hf : FoC (· < w.heap.size) w G vs) (hb : Below w.heap.size w wr) (hj : flen G = j) : KidsR (· < wr.heap.size) wr B j d G := by
 subst hj
 obtain ⟨A, n, c, e, h⟩ := kids_of_own ho (foc_below hf hb) (fun g hg => (ownsRow_block ho hg).2.1)
 injection e with e1 e2 e3
 subst e1 e2 e3
 exact h
theorem around_bd {op va vb : Int} (h : plainB op va vb = true) (k : Int) : 0 ≤ aroundI op vb k ∧ aroundI op vb k ≤ 4 := by
 rw [plainB_iff] at h
 unfold aroundI
 repeat' split
 all_goals omega
theorem kidAt_drop {F : Fo} {i : Nat} (h : i < (kidL F).length) : (kidL F).drop i = kidAt F i :: (kidL F).drop (i + 1) := by
 rw [List.drop_eq_getElem_cons h]
 unfold kidAt
 rw [List.getD_eq_getElem?_getD, List.getElem?_eq_getElem h]
 rfl
theorem kidAt_mem {F : Fo} {i : Nat} (h : i < (kidL F).length) : kidAt F i ∈ kidL F := by
 unfold kidAt
 rw [List.getD_eq_getElem?_getD, List.getElem?_eq_getElem h]
 exact List.getElem_mem h
theorem sz_kidx {n : Nd} {a : List Nd} {k : Fo} {y : TT} (h : y ∈ kidL k) : szT y < szT (n, a, k) := by
 have h1 := sz_kid h
 have h2 := szT_eq n a k
 omega
theorem mr_under {nq k : Nat} {ms : List Int} {z : Int} (h : ∀ z ∈ ms, -3 ≤ z ∧ z < (nq : Int)) (h1 : -3 ≤ z) (h2 : z < 0) : ∀ u ∈ List.replicate k z ++ ms, -3 ≤ u ∧ u < (nq : Int) := by
 intro u hu
 rcases List.mem_append.1 hu with hu | hu
 · rw [List.mem_replicate] at hu
   omega
 exact h u hu
theorem ofR_lt {nq : Nat} {ms : List Int} {v : Int} (h : ∀ z ∈ ms, -3 ≤ z ∧ z < (nq : Int)) (hv : 0 ≤ v) (h0 : 0 ≤ ofR ms v) : ofR ms v < (nq : Int) := by
 unfold ofR at h0 ⊢
 by_cases hl : v < (ms.length : Int)
 · rw [if_pos hl]
   rw [List.getD_eq_getElem?_getD, List.getElem?_eq_getElem (by omega)]
   exact (h _ (List.getElem_mem _)).2
 rw [if_neg hl] at h0
 omega
end
end Go.Proofs.Ytjllmblbbgojbaa
