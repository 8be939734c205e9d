/- Merged: DeepP, Nums, Deep. -/
import Derived.Test.YtjllmblbbgojbaaKSub
import Derived.Test.YtjllmblbbgojbaaKRights
import Derived.Test.YtjllmblbbgojbaaKLeafs
namespace Go.Proofs.Ytjllmblbbgojbaa
open Go.Lib (hid)
set_option maxHeartbeats 2000000
set_option maxRecDepth 100000
set_option linter.unusedSimpArgs false
section
open Go.RowKit
def oneF (x : TT) (k : Fo) : Fo := .cons [] x.1 x.2.1 x.2.2 k
def dInd : TT := (⟨9, 0, 0⟩, [], .nil)
def dVar (v : Int) : TT := (⟨1, v, 0⟩, [], .nil)
def dLam (x y : TT) : TT := (⟨5, 0, 0⟩, [], oneF x (oneF y .nil))
def dT (fv d : Int) : Nat → TT
 | 0 => (⟨6, 0, 0⟩, [], oneF (dVar fv) (oneF (dVar d) .nil))
 | j + 1 => (⟨11, 0, 2⟩, [], oneF (dLam dInd dInd) (oneF (dVar 0) (oneF (⟨10, 0, 0⟩, [], .nil) (oneF (dLam dInd (dT fv d j)) .nil))))
def dFo (fv d : Int) (k : Nat) : Fo := .cons [⟨13, 0, 0⟩] ⟨4, 0, 0⟩ [] (oneF dInd (oneF dInd .nil)) (oneF (dLam dInd (dT fv d k)) .nil)
def dStep : List Nd := [⟨11, 0, 2⟩, ⟨5, 0, 0⟩, ⟨9, 0, 0⟩, ⟨9, 0, 0⟩, ⟨1, 0, 0⟩, ⟨10, 0, 0⟩, ⟨5, 0, 0⟩, ⟨9, 0, 0⟩]
def dHead : List Nd := [⟨12, 0, 1⟩, ⟨13, 0, 0⟩, ⟨4, 0, 0⟩, ⟨9, 0, 0⟩, ⟨9, 0, 0⟩, ⟨5, 0, 0⟩, ⟨9, 0, 0⟩]
def dTail (fv d : Int) : List Nd := [⟨6, 0, 0⟩, ⟨1, fv, 0⟩, ⟨1, d, 0⟩]
def dSteps : Nat → List Nd
 | 0 => []
 | j + 1 => dSteps j ++ dStep
theorem dSteps_front : ∀ j, dSteps (j + 1) = dStep ++ dSteps j
 | 0 => by simp [dSteps]
 | j + 1 => by
  show dSteps (j + 1) ++ dStep = dStep ++ (dSteps j ++ dStep)
  rw [dSteps_front j, List.append_assoc]
theorem dSteps_len : ∀ j, (dSteps j).length = 8 * j
 | 0 => rfl
 | j + 1 => by rw [dSteps, List.length_append, dSteps_len j]; simp [dStep]; omega
def downL (k : Nat) (far : Int) : List Nd := dHead ++ dSteps k ++ dTail ((k : Int) + 1) far
theorem rowT_dT (fv d : Int) : ∀ j, rowT (dT fv d j) = dSteps j ++ dTail fv d
 | 0 => rfl
 | j + 1 => by
  have ih := rowT_dT fv d j
  rw [dSteps_front, List.append_assoc, ← ih]
  simp [dT, rowT, row, oneF, dLam, dInd, dVar, dStep]
theorem downL_row (k : Nat) (far : Int) : downL k far = rowT (⟨12, 0, 1⟩, [], dFo ((k : Int) + 1) far k) := by
 have := rowT_dT ((k : Int) + 1) far k
 unfold downL
 rw [List.append_assoc, ← this]
 simp [rowT, row, oneF, dFo, dLam, dInd, dHead]
theorem downL_len (k : Nat) (far : Int) : (downL k far).length = 10 + 8 * k := by
 unfold downL
 simp [dSteps_len, dHead, dTail]
 omega
theorem dT_wf (fv d : Int) (h1 : okN ⟨1, fv, 0⟩ = true) (h2 : okN ⟨1, d, 0⟩ = true) : ∀ j, okN (dT fv d j).1 = true ∧ AtOk (dT fv d j).1 (dT fv d j).2.1 ∧ Wf (ds (dT fv d j).1) (dT fv d j).2.2
 | 0 => ⟨(by decide : okN ⟨6, 0, 0⟩ = true), rfl, rfl, h1, rfl, trivial, rfl, h2, rfl, trivial, trivial⟩
 | j + 1 => by
  obtain ⟨i1, i2, i3⟩ := dT_wf fv d h1 h2 j
  exact ⟨(by decide : okN ⟨11, 0, 2⟩ = true), rfl, rfl, by decide, rfl, ⟨rfl, by decide, rfl, trivial, rfl, by decide, rfl, trivial, trivial⟩, rfl, by decide, rfl, trivial, rfl, by decide, rfl, trivial, rfl, (by decide : okN ⟨5, 0, 0⟩ = true), rfl, ⟨rfl, by decide, rfl, trivial, rfl, i1, i2, i3, trivial⟩, trivial⟩
theorem okVar {v : Int} (h0 : 0 ≤ v) (h1 : v ≤ 1048576) : okN ⟨1, v, 0⟩ = true := by
 simp [okN, plainB]
 omega
theorem down_rt {k : Nat} {far : Int} (hk : k ≤ 500) (h0 : 0 ≤ far) (h1 : far ≤ k) : Rt (downL k far) ⟨12, 0, 1⟩ [] (dFo ((k : Int) + 1) far k) := by
 obtain ⟨i1, i2, i3⟩ := dT_wf ((k : Int) + 1) far (okVar (by omega) (by omega)) (okVar h0 (by omega)) k
 have hl := downL_len k far
 rw [downL_row] at hl ⊢
 refine rt_make (by decide : okN ⟨12, 0, 1⟩ = true) rfl ⟨⟨_, rfl, by decide⟩, by decide, rfl, ⟨rfl, by decide, rfl, trivial, rfl, by decide, rfl, trivial, trivial⟩, rfl, (by decide : okN ⟨5, 0, 0⟩ = true), rfl, ⟨rfl, by decide, rfl, trivial, rfl, i1, i2, i3, trivial⟩, trivial⟩ ?_
 show (rowT (⟨12, 0, 1⟩, [], dFo ((k : Int) + 1) far k)).length ≤ 4096
 omega
def pz (x a : Int) : Bool := decide (max 0 0 ≤ x - a)
theorem pz_no {x a : Int} (h : x < a) : pz x a = false := by
 unfold pz
 exact decide_eq_false (by omega)
theorem dT_ex (fv d : Int) : ∀ (j : Nat) (a : Int), 0 < a → fv < a + j → d < a + j → exT pz a (dT fv d j).1 (dT fv d j).2.2 = false
 | 0, a, h0, h1, h2 => by
  simp [dT, exT, exF, oneF, dVar, aroundI, pz_no (x := fv) (a := a) (by omega), pz_no (x := d) (a := a) (by omega)]
 | j + 1, a, h0, h1, h2 => by
  have ih := dT_ex fv d j (a + 1) (by omega) (by omega) (by omega)
  simp only [exT] at ih
  simp [dT, exT, exF, oneF, dVar, dLam, dInd, aroundI, pz_no (x := 0) (a := a) (by omega)]
  simpa using ih
theorem down_below {k : Nat} {far : Int} (hk : k ≤ 500) (h0 : 0 ≤ far) (h1 : far ≤ k) : belowB (downL k far) 0 = true := by
 have hr := down_rt hk h0 h1
 have h2 := dT_ex ((k : Int) + 1) far k 2 (by omega) (by omega) (by omega)
 simp only [exT] at h2
 unfold belowB exR
 rw [hr.shape, hr.pp]
 show (true && !exT pz 0 ⟨12, 0, 1⟩ (dFo ((k : Int) + 1) far k)) = true
 simp [exT, dFo, exF, oneF, dInd, dLam, aroundI]
 simp at h2
 exact ⟨by by_cases h : (dT ((k : Int) + 1) far k).1.op = 1 <;> simp [h] <;> exact h2.1 h, h2.2⟩
def numsB : Bk := ⟨0, [], [⟨1, [⟨2, 1, 1⟩, ⟨3, 0, 0⟩], [], [], [⟨[], []⟩, ⟨[[⟨9, 0, 0⟩]], []⟩], [], []⟩], 0, []⟩
theorem nums_right : rightE numsB = 0 := by decide +kernel
theorem down_nodes {k : Nat} {far : Int} : ∀ m ∈ downL k far, nodeB numsB 1 (-1) m = true := by
 have hs : ∀ j, ∀ m ∈ dSteps j, nodeB numsB 1 (-1) m = true := by
  intro j
  induction j with
  | zero => intro m hm; cases hm
  | succ j ih =>
   intro m hm
   rw [dSteps, List.mem_append] at hm
   rcases hm with hm | hm
   · exact ih m hm
   · revert m
     decide
 intro m hm
 unfold downL at hm
 rw [List.mem_append, List.mem_append] at hm
 rcases hm with (hm | hm) | hm
 · revert m
   decide
 · exact hs k m hm
 simp only [dTail, List.mem_cons, List.not_mem_nil, or_false] at hm
 rcases hm with rfl | rfl | rfl <;> rfl
theorem down_fits {k : Nat} {far : Int} (hk : k ≤ 500) (h0 : 0 ≤ far) (h1 : far ≤ k) : fitsE numsB 0 (downL k far) = 0 := by
 unfold fitsE
 rw [nums_right, if_neg (by simp), if_neg (by simp)]
 unfold rowE
 rw [(down_rt hk h0 h1).shape, if_neg (by simp), down_below hk h0 h1, if_neg (by simp), if_pos]
 rw [List.all_eq_true]
 exact down_nodes
def mk2 (i : Nat) : List Int := [100, 1] ++ List.replicate i 2
theorem mk2_snoc (i : Nat) : mk2 i ++ [2] = mk2 (i + 1) := by
 unfold mk2
 rw [List.append_assoc, List.replicate_succ']
theorem mk2_len (i : Nat) : (mk2 i).length = i + 2 := by simp [mk2]
theorem mk2_get (i q : Nat) : (mk2 i).getD q 0 = if q = 0 then 100 else if q = 1 then 1 else if q < i + 2 then 2 else 0 := by
 match q with
 | 0 => rfl
 | 1 => rfl
 | q + 2 =>
  rw [if_neg (by omega), if_neg (by omega)]
  show (List.replicate i (2 : Int)).getD q 0 = _
  rw [List.getD_eq_getElem?_getD, List.getElem?_replicate]
  split
  · rw [if_pos (by omega)]; rfl
  · rw [if_neg (by omega)]; rfl
theorem mk2_of (i q : Nat) : ofI (mk2 i) (q : Int) = if q < i then 2 else if q = i then 1 else if q = i + 1 then 100 else 0 := by
 unfold ofI
 rw [mk2_len, Int.toNat_natCast]
 split
 · rw [if_neg (by omega), if_neg (by omega), if_neg (by omega)]
 rw [mk2_get]
 split
 · rw [if_neg (by omega), if_neg (by omega), if_pos (by omega)]
 split
 · rw [if_neg (by omega), if_pos (by omega)]
 rw [if_pos (by omega), if_pos (by omega)]
theorem fine_plain {pl : List Int} {ca : Int → Nat → Nat} {x : TT} (h6 : x.1.op ≠ 6) (h1 : x.1.op ≠ 1) (h11 : x.1.op ≠ 11) (h4 : x.1.op ≠ 4) (h5 : x.1.op ≠ 5) (h7 : x.1.op ≠ 7) (h12 : x.1.op ≠ 12) : ∀ (f : Nat) (zs : List Int), fineT pl ca f zs x = true
 | 0, _ => rfl
 | f + 1, zs => by
  simp only [fineT, hd_stop h6, List.all_nil, Bool.true_and]
  rw [if_neg h1, if_neg h11, if_neg (by simp [h4, h5]), if_neg h7, if_neg h12]
theorem fine_dVar {pl : List Int} {ca : Int → Nat → Nat} {v : Int} {zs : List Int} (h : ofI zs v < 100) : ∀ (f : Nat), fineT pl ca f zs (dVar v) = true
 | 0 => rfl
 | f + 1 => by
  simp only [fineT, hd_stop (x := dVar v) (show (1 : Int) ≠ 6 by decide), List.all_nil, Bool.true_and]
  show (if (1 : Int) = 1 then (if ofI zs v < 100 then true else _) else _) = true
  rw [if_pos rfl, if_pos h]
theorem fine_dInd {pl : List Int} {ca : Int → Nat → Nat} (f : Nat) (zs : List Int) : fineT pl ca f zs dInd = true := fine_plain (by decide) (by decide) (by decide) (by decide) (by decide) (by decide) (by decide) f zs
theorem fine_dLam {pl : List Int} {ca : Int → Nat → Nat} (x y : TT) (f : Nat) (zs : List Int) : fineT pl ca (f + 1) zs (dLam x y) = (fineT pl ca f zs x && fineT pl ca f (zs ++ [0]) y) := by
 simp only [fineT, hd_stop (x := dLam x y) (show (5 : Int) ≠ 6 by decide), List.all_nil, Bool.true_and]
 rfl
theorem fine_match {ca : Int → Nat → Nat} {pl zs : List Int} {fv d : Int} {j f : Nat} (c0 : ca 0 0 = 0) (c1 : ca 0 1 = 1) (h : ofI zs 0 = 1 ∨ ofI zs 0 = 2) : fineT pl ca (f + 1) zs (dT fv d (j + 1)) = fineT pl ca f (zs ++ [2]) (dT fv d j) := by
 have hd0 : downT zs (dVar 0) = true := by
  simp only [downT, hd_stop (x := dVar 0) (by decide)]
  show ((if (1 : Int) = 1 then ofI zs 0 else 0) == 2 || ((if (1 : Int) = 1 then ofI zs 0 else 0) == 1 && true)) = true
  rw [if_pos rfl]
  rcases h with h | h <;> rw [h] <;> rfl
 have e : fineT pl ca (f + 1) zs (dT fv d (j + 1)) = ((fineT pl ca f zs (dLam dInd dInd) && fineT pl ca f zs (dVar 0)) && (branchT (fineT pl ca f) (if downT zs (dVar 0) then ca 0 0 else 0) zs (⟨10, 0, 0⟩, [], .nil) && (branchT (fineT pl ca f) (if downT zs (dVar 0) then ca 0 1 else 0) zs (dLam dInd (dT fv d j)) && true))) := by
  simp only [fineT, hd_stop (x := dT fv d (j + 1)) (show (11 : Int) ≠ 6 by decide), List.all_nil, Bool.true_and]
  rfl
 have hm : fineT pl ca f zs (dLam dInd dInd) = true := by
  cases f with
  | zero => rfl
  | succ f => rw [fine_dLam, fine_dInd, fine_dInd]; rfl
 rw [e, hd0, if_pos rfl, if_pos rfl, c0, c1, hm, fine_dVar (by omega)]
 have hc : fineT pl ca f zs (⟨10, 0, 0⟩, [], .nil) = true := fine_plain (by decide) (by decide) (by decide) (by decide) (by decide) (by decide) (by decide) f zs
 show ((true && true) && (fineT pl ca f zs (⟨10, 0, 0⟩, [], .nil) && ((fineT pl ca f zs dInd && fineT pl ca f (zs ++ [2]) (dT fv d j)) && true))) = _
 rw [hc, fine_dInd]
 simp
theorem fine_call {ca : Int → Nat → Nat} {zs : List Int} {fv d : Int} {f : Nat} (hf : ofI zs fv = 100) (hd' : ofI zs d < 100) : fineT [0] ca (f + 1) zs (dT fv d 0) = (ofI zs d == 2) := by
 have eh : hd (rowT (dT fv d 0)).length (dT fv d 0) = (dVar fv, [dVar d]) := rfl
 simp only [fineT, eh, List.all_cons, List.all_nil, fine_dVar hd', Bool.true_and]
 show (if (1 : Int) = 1 then (if ofI zs fv < 100 then true else match ([dVar d] : List TT)[(([0] : List Int).getD (ofI zs fv - 100).toNat 0).toNat]? with | some y => lessT zs y | none => false) else _) = _
 rw [if_pos rfl, hf, if_neg (by decide)]
 rfl
theorem fine_down {ca : Int → Nat → Nat} (c0 : ca 0 0 = 0) (c1 : ca 0 1 = 1) {K d : Nat} (hd : d ≤ K) : ∀ (j i f : Nat), i + j = K → j < f → fineT [0] ca f (mk2 i) (dT ((K : Int) + 1) d j) = decide (d < K)
 | 0, i, f, hij, hf => by
  obtain ⟨f, rfl⟩ : ∃ g, f = g + 1 := ⟨f - 1, by omega⟩
  obtain rfl : i = K := by omega
  have h1 := mk2_of i d
  have h2 := mk2_of i (i + 1)
  rw [if_neg (by omega), if_neg (by omega), if_pos rfl] at h2
  rw [fine_call (by push_cast at h2; exact h2) (by rw [h1]; split <;> (try split) <;> omega), h1]
  by_cases h : d < i
  · rw [if_pos h, decide_eq_true h]; rfl
  · rw [if_neg h, if_pos (by omega), decide_eq_false h]; rfl
 | j + 1, i, f, hij, hf => by
  obtain ⟨f, rfl⟩ : ∃ g, f = g + 1 := ⟨f - 1, by omega⟩
  have h0 := mk2_of i 0
  rw [fine_match c0 c1 (by
   rw [show ((0 : Nat) : Int) = 0 from rfl] at h0
   rw [h0]
   by_cases hi : 0 < i
   · rw [if_pos hi]; exact .inr rfl
   rw [if_neg hi, if_pos (by omega)]; exact .inl rfl), mk2_snoc]
  exact fine_down c0 c1 hd j (i + 1) f (by omega) (by omega)
theorem down_guard {k d : Nat} (hd : d ≤ k) (m : Nat) (hm : k < m) : guardT (argsB numsB) m (⟨12, 0, 1⟩, [], dFo ((k : Int) + 1) d k) = decide (d < k) := by
 have h := fine_down (ca := argsB numsB) rfl rfl hd k 0 m (by omega) hm
 have e : guardT (argsB numsB) m (⟨12, 0, 1⟩, [], dFo ((k : Int) + 1) d k) = ((true && (fineT [0] (argsB numsB) m [100] dInd && fineT [0] (argsB numsB) m (mk2 0) (dT ((k : Int) + 1) d k))) && true) := rfl
 rw [e, h, fine_dInd]
 simp
theorem down_fixE {k d : Nat} (hk : k ≤ 500) (hd : d ≤ k) : fixE numsB 0 (downL k d) = if d < k then 0 else 18 := by
 have hr := down_rt (far := (d : Int)) hk (by omega) (by omega)
 unfold fixE
 rw [down_fits hk (by omega) (by omega), if_neg (by simp), if_neg, treeAt_rt hr, down_guard hd _ (by rw [downL_len]; omega)]
 · by_cases h : d < k <;> simp [h]
 rw [downL_row]
 simp [rowT, nth]
end
section
open Go.RowKit
def litC (l : List Nd) : Array Value := (flat l).toArray
theorem lit_term {w : World} {g : Nat} {l : List Nd} {n c : Nat} (h : Blk w g 34 (litC l)) (hl : l.length = n) (hc : n ≤ c) (hf : n ≤ 5864062014805) : TermV w (some ⟨g, 0, none⟩) n c l := by
 refine ⟨hl, hc, hf, (fun e => by cases e), fun hn => ⟨g, 0, rfl, h.lt, fun k hk => ?_⟩⟩
 obtain ⟨h1, h2, h3⟩ := flat_at l k hk
 have hcell := h.cell
 rw [Nat.zero_add, hcell, hcell, hcell]
 simp only [litC, List.getElem?_toArray]
 exact ⟨h1, h2, h3⟩
theorem OwnN.termV {w : World} {base : Nat} {A : Option Addr} {n c : Nat} {l : List Nd} (h : OwnN w base (.slice A n c) l) (hl : l.length ≤ 5864062014805) : TermV w A n c l := by
 obtain ⟨A', n', c', e, ht⟩ := OwnN.termS h hl
 injection e with e1 e2 e3
 subst e1 e2 e3
 exact ht.keep fun b hb => ⟨(ownsRow_block h hb).2.1, fun _ => rfl⟩
theorem blk_new {w : World} {g : Nat} {t : TypeId} {cs : Array Value} (h : g = w.heap.size) : Blk (w.alloc (.cells cs t)) g t cs := by
 subst h
 exact Blk.new _ _ _
theorem RowsV.nil (w : World) : RowsV w none 0 0 [] := ⟨rfl, by decide, fun h => absurd h (by decide)⟩
theorem nums_book {w : World} {g1 g2 g3 g4 g5 : Nat} (h1 : Blk w g1 34 #[.int .i64 2, .int .i64 1, .int .i64 1, .int .i64 3, .int .i64 0, .int .i64 0]) (h2 : Blk w g2 34 #[.int .i64 9, .int .i64 0, .int .i64 0]) (h3 : Blk w g3 28 #[.slice (some ⟨g2, 0, none⟩) 1 1])
 (h4 : Blk w g4 62 #[.slice none 0 0, .slice none 0 0, .slice (some ⟨g3, 0, none⟩) 1 1, .slice none 0 0])
 (h5 : Blk w g5 52 #[.int .i64 1, .slice (some ⟨g1, 0, none⟩) 2 2, .slice none 0 0, .slice none 0 0, .slice (some ⟨g4, 0, none⟩) 2 2, .slice none 0 0, .slice none 0 0]) : BookV w ⟨none, 0, 0, some ⟨g5, 0, none⟩, 1, 1, none, 0, 0⟩ numsB := by
 have e2 : TermV w (some ⟨g1, 0, none⟩) 2 2 [⟨2, 1, 1⟩, ⟨3, 0, 0⟩] := lit_term (l := [⟨2, 1, 1⟩, ⟨3, 0, 0⟩]) h1 rfl (by decide) (by decide)
 have e3 : TermV w (some ⟨g2, 0, none⟩) 1 1 [⟨9, 0, 0⟩] := lit_term (l := [⟨9, 0, 0⟩]) h2 rfl (by decide) (by decide)
 have e4 : RowsV w (some ⟨g3, 0, none⟩) 1 1 [[⟨9, 0, 0⟩]] := ⟨rfl, by decide, fun _ => ⟨g3, 0, rfl, h3.lt, fun k hk => by
  obtain rfl : k = 0 := by omega
  exact ⟨some ⟨g2, 0, none⟩, 1, 1, h3.cell 0, e3⟩⟩⟩
 have e5 : CtsV w (some ⟨g4, 0, none⟩) 2 2 [⟨[], []⟩, ⟨[[⟨9, 0, 0⟩]], []⟩] := ⟨rfl, by decide, fun _ => ⟨g4, 0, rfl, h4.lt, fun k hk => by
  have hk2 : k = 0 ∨ k = 1 := by omega
  rcases hk2 with rfl | rfl
  · exact ⟨none, 0, 0, none, 0, 0, h4.cell 0, h4.cell 1, RowsV.nil w, RowsV.nil w⟩
  exact ⟨some ⟨g3, 0, none⟩, 1, 1, none, 0, 0, h4.cell 2, h4.cell 3, e4, RowsV.nil w⟩⟩⟩
 have e6 : EnsV w (some ⟨g5, 0, none⟩) 1 1 numsB.entries := ⟨rfl, by decide, fun _ => ⟨g5, 0, rfl, h5.lt, fun k hk => by
  obtain rfl : k = 0 := by omega
  exact ⟨⟨some ⟨g1, 0, none⟩, 2, 2, none, 0, 0, none, 0, 0, some ⟨g4, 0, none⟩, 2, 2, none, 0, 0, none, 0, 0⟩, h5.cell 0, h5.cell 1, h5.cell 2, h5.cell 3, h5.cell 4, h5.cell 5, h5.cell 6, ⟨e2, RowsV.nil w, RowsV.nil w, e5, TermV.nil w, TermV.nil w⟩⟩⟩⟩
 have e7 : PrsV w none 0 0 numsB.prims := ⟨rfl, by decide, fun h => absurd h (by decide)⟩
 exact ⟨TermV.nil w, e6, e7, by decide, by decide, by decide, by decide⟩
theorem nums_any {w : World} : Calls Try.prog 25 #[] w (fun e w' => ∃ g : Nat, e = .returned (.agg #[.int .i64 0, .slice none 0 0, .slice (some ⟨g, 0, none⟩) 1 1, .int .i64 0, .slice none 0 0]) ∧ BookV w' ⟨none, 0, 0, some ⟨g, 0, none⟩, 1, 1, none, 0, 0⟩ numsB ∧ Below w.heap.size w w') := by
 go_in
 go_wp2_with fail
 refine bodyPost_ret (v := .agg #[.int .i64 0, .slice none 0 0, .slice (some ⟨w.heap.size + 1 + 1 + 1 + 1 + 1, 0, none⟩) 1 1, .int .i64 0, .slice none 0 0]) (by simp [results, Try.results25, go_sem]) rfl ⟨_, rfl, ?_, ?_⟩
 · exact nums_book (g1 := w.heap.size + 1) (g2 := w.heap.size + 1 + 1) (g3 := w.heap.size + 1 + 1 + 1) (g4 := w.heap.size + 1 + 1 + 1 + 1) (((((blk_new (by simp)).alloc _).alloc _).alloc _).alloc _) ((((blk_new (by simp)).alloc _).alloc _).alloc _) (((blk_new (by simp)).alloc _).alloc _) ((blk_new (by simp)).alloc _) (blk_new (by simp))
 exact (((((below_alloc w _).alloc (by simp) _).alloc (by simp; omega) _).alloc (by simp; omega) _).alloc (by simp; omega) _).alloc (by simp; omega) _
theorem down_any {w : World} (k : Nat) (d : Int) (hk : k ≤ 500) : Calls Try.prog 26 #[.int .i64 (k : Int), .int .i64 d] w (fun e w' => ∃ A n c, e = .returned (.slice A n c) ∧ TermV w' A n c (downL k d) ∧ Below w.heap.size w w') := by
 obtain ⟨i0, hi, hy0, hy1, hy2⟩ := info_parts infoN'
 have HI0 := hid hi
 have HY0 := hid hy0
 have HY1 := hid hy1
 have HY2 := hid hy2
 clear hi hy0 hy1 hy2
 have H0 : Hid (Below w.heap.size w (((w.alloc (.cells #[.int .i64 9, .int .i64 0, .int .i64 0] 34)).alloc (.cells #[.int .i64 1, .int .i64 0, .int .i64 0] 34)).alloc (.cells (#[.int .i64 12, .int .i64 0, .int .i64 1, .int .i64 13, .int .i64 0, .int .i64 0, .int .i64 4, .int .i64 0, .int .i64 0, .int .i64 9, .int .i64 0, .int .i64 0, .int .i64 9, .int .i64 0, .int .i64 0, .int .i64 5, .int .i64 0, .int .i64 0, .int .i64 9, .int .i64 0, .int .i64 0]) 34))) := hid (((below_alloc w _).alloc (by simp) _).alloc (by simp; omega) _)
 have H1 : Hid (Blk (((w.alloc (.cells #[.int .i64 9, .int .i64 0, .int .i64 0] 34)).alloc (.cells #[.int .i64 1, .int .i64 0, .int .i64 0] 34)).alloc (.cells (#[.int .i64 12, .int .i64 0, .int .i64 1, .int .i64 13, .int .i64 0, .int .i64 0, .int .i64 4, .int .i64 0, .int .i64 0, .int .i64 9, .int .i64 0, .int .i64 0, .int .i64 9, .int .i64 0, .int .i64 0, .int .i64 5, .int .i64 0, .int .i64 0, .int .i64 9, .int .i64 0, .int .i64 0]) 34)) w.heap.size 34 #[.int .i64 9, .int .i64 0, .int .i64 0]) := hid (((blk_new (by simp)).alloc _).alloc _)
 have H2 : Hid (Blk (((w.alloc (.cells #[.int .i64 9, .int .i64 0, .int .i64 0] 34)).alloc (.cells #[.int .i64 1, .int .i64 0, .int .i64 0] 34)).alloc (.cells (#[.int .i64 12, .int .i64 0, .int .i64 1, .int .i64 13, .int .i64 0, .int .i64 0, .int .i64 4, .int .i64 0, .int .i64 0, .int .i64 9, .int .i64 0, .int .i64 0, .int .i64 9, .int .i64 0, .int .i64 0, .int .i64 5, .int .i64 0, .int .i64 0, .int .i64 9, .int .i64 0, .int .i64 0]) 34)) (w.heap.size + 1) 34 #[.int .i64 1, .int .i64 0, .int .i64 0]) := hid ((blk_new (by simp)).alloc _)
 have H3 : Hid (OwnN (((w.alloc (.cells #[.int .i64 9, .int .i64 0, .int .i64 0] 34)).alloc (.cells #[.int .i64 1, .int .i64 0, .int .i64 0] 34)).alloc (.cells (#[.int .i64 12, .int .i64 0, .int .i64 1, .int .i64 13, .int .i64 0, .int .i64 0, .int .i64 4, .int .i64 0, .int .i64 0, .int .i64 9, .int .i64 0, .int .i64 0, .int .i64 9, .int .i64 0, .int .i64 0, .int .i64 5, .int .i64 0, .int .i64 0, .int .i64 9, .int .i64 0, .int .i64 0]) 34)) (w.heap.size + 1 + 1) (.slice (some ⟨w.heap.size + 1 + 1, 0, none⟩) 7 7) (dHead ++ dSteps 0)) := hid ⟨rfl, .inr ⟨w.heap.size + 1 + 1, 7, _, rfl, Nat.le_refl _, blk_new (by simp), Nat.le_refl _, by unfold maxLen; omega, rfl, rfl⟩⟩
 go_in
 go_wp2_with fail
 go_loopw [7, 8] (fun tv iv wr => ∃ (i n c : Nat) (A : Option Addr), i ≤ k ∧ n = 7 + 8 * i ∧ tv = .slice A n c ∧ iv = .int .i64 (i : Int) ∧ Hid (OwnN wr (w.heap.size + 1 + 1) (.slice A n c) (dHead ++ dSteps i)) ∧ Hid (Blk wr w.heap.size 34 #[.int .i64 9, .int .i64 0, .int .i64 0]) ∧ Hid (Blk wr (w.heap.size + 1) 34 #[.int .i64 1, .int .i64 0, .int .i64 0]) ∧ Hid (Below w.heap.size w wr)) (fun _ i _ => k - (intOf i).toNat)
 case atStart => exact ⟨0, 7, 7, _, by omega, by omega, rfl, rfl, H3, H1, H2, H0⟩
 case round =>
  obtain ⟨i, n, c, A, hik, hn, rfl, rfl, hown, hb1, hb2, hbw⟩ := hrel
  have HN := hid hn
  clear hn
  have hl2 := hb2.out.lt
  by_cases hlt : i < k
  · have hib : decide ((i : Int) < (k : Int)) = true := decide_eq_true (by omega)
    have z1 := Blk.cell hb1.out
    have z2 := Blk.cell hb2.out
    have HA := hid (below_alloc wr (.cells (#[.int .i64 11, .int .i64 0, .int .i64 2, .int .i64 5, .int .i64 0, .int .i64 0, .int .i64 9, .int .i64 0, .int .i64 0, .int .i64 9, .int .i64 0, .int .i64 0, .int .i64 1, .int .i64 0, .int .i64 0, .int .i64 10, .int .i64 0, .int .i64 0, .int .i64 5, .int .i64 0, .int .i64 0, .int .i64 9, .int .i64 0, .int .i64 0]) 34))
    have HT : Hid (TermV (wr.alloc (.cells (#[.int .i64 11, .int .i64 0, .int .i64 2, .int .i64 5, .int .i64 0, .int .i64 0, .int .i64 9, .int .i64 0, .int .i64 0, .int .i64 9, .int .i64 0, .int .i64 0, .int .i64 1, .int .i64 0, .int .i64 0, .int .i64 10, .int .i64 0, .int .i64 0, .int .i64 5, .int .i64 0, .int .i64 0, .int .i64 9, .int .i64 0, .int .i64 0]) 34)) (some ⟨wr.heap.size, 0, none⟩) 8 8 dStep) := hid (lit_term (Blk.new _ _ _) rfl (by decide) (by decide))
    have HO : Hid (OwnN (wr.alloc (.cells (#[.int .i64 11, .int .i64 0, .int .i64 2, .int .i64 5, .int .i64 0, .int .i64 0, .int .i64 9, .int .i64 0, .int .i64 0, .int .i64 9, .int .i64 0, .int .i64 0, .int .i64 1, .int .i64 0, .int .i64 0, .int .i64 10, .int .i64 0, .int .i64 0, .int .i64 5, .int .i64 0, .int .i64 0, .int .i64 9, .int .i64 0, .int .i64 0]) 34)) (w.heap.size + 1 + 1) (.slice A n c) (dHead ++ dSteps i)) := hid (hown.out.alloc _)
    have HLN : Hid ((dHead ++ dSteps i).length = n) := hid (by rw [List.length_append, dSteps_len, HN.out]; rfl)
    go_wp2_with (at_builtin; go_loud (refine wpList_oper rfl (oper_append_row (.tmp 24) (.tmp 33) 28 28 rfl (w.heap.size + 1 + 1) i0 Try.underlying28 Try.underlying28 HI0.out HY0.out HY1.out HY2.out (.slice A n c) (dHead ++ dSteps i) dStep rfl HO.out rfl HT.out (by rw [HLN.out, HN.out]; omega) (by simp; omega) ?_)); intro A4 c4 w4 hown4 happ4; rw [HLN.out] at hown4 happ4; rw [HLN.out]; have HO4 := hid hown4; have HP4 := hid happ4; clear hown4 happ4)
    have hbs := hbw.out.size
    have HB4 := hid ((hbw.out.trans (HA.out.mono hbs)).grown HP4.out.grown (by simp; omega) (fun g hg => by have := (ownsRow_block HO.out hg).1; omega))
    have HK1 := hid ((hb1.out.alloc (.cells #[.int .i64 11, .int .i64 0, .int .i64 2, .int .i64 5, .int .i64 0, .int .i64 0, .int .i64 9, .int .i64 0, .int .i64 0, .int .i64 9, .int .i64 0, .int .i64 0, .int .i64 1, .int .i64 0, .int .i64 0, .int .i64 10, .int .i64 0, .int .i64 0, .int .i64 5, .int .i64 0, .int .i64 0, .int .i64 9, .int .i64 0, .int .i64 0] 34)).grown HP4.out.grown (own_ne HO.out (by omega)))
    have HK2 := hid ((hb2.out.alloc (.cells #[.int .i64 11, .int .i64 0, .int .i64 2, .int .i64 5, .int .i64 0, .int .i64 0, .int .i64 9, .int .i64 0, .int .i64 0, .int .i64 9, .int .i64 0, .int .i64 0, .int .i64 1, .int .i64 0, .int .i64 0, .int .i64 10, .int .i64 0, .int .i64 0, .int .i64 5, .int .i64 0, .int .i64 0, .int .i64 9, .int .i64 0, .int .i64 0] 34)).grown HP4.out.grown (own_ne HO.out (by omega)))
    clear z1 z2
    go_wp2_with fail
    go_roundw
    case rel => exact ⟨i + 1, n + 8, c4, A4, by omega, by rw [HN.out]; omega, by first | rfl | go_num, by go_num, hid (OwnN.cast HO4.out rfl (by rw [List.append_assoc]; rfl)), HK1, HK2, HB4⟩
    case measure => simp [intOf]; omega
  have hib : decide ((i : Int) < (k : Int)) = false := decide_eq_false (by omega)
  obtain rfl : i = k := by omega
  have HA := hid (below_alloc wr (.cells #[.int .i64 6, .int .i64 0, .int .i64 0, .int .i64 1, .int .i64 ((i : Int) + 1), .int .i64 0, .int .i64 1, .int .i64 d, .int .i64 0] 34))
  have HT : Hid (TermV (wr.alloc (.cells #[.int .i64 6, .int .i64 0, .int .i64 0, .int .i64 1, .int .i64 ((i : Int) + 1), .int .i64 0, .int .i64 1, .int .i64 d, .int .i64 0] 34)) (some ⟨wr.heap.size, 0, none⟩) 3 3 (dTail ((i : Int) + 1) d)) := hid (lit_term (Blk.new _ _ _) rfl (by decide) (by decide))
  have HO : Hid (OwnN (wr.alloc (.cells #[.int .i64 6, .int .i64 0, .int .i64 0, .int .i64 1, .int .i64 ((i : Int) + 1), .int .i64 0, .int .i64 1, .int .i64 d, .int .i64 0] 34)) (w.heap.size + 1 + 1) (.slice A n c) (dHead ++ dSteps i)) := hid (hown.out.alloc _)
  have HLN : Hid ((dHead ++ dSteps i).length = n) := hid (by rw [List.length_append, dSteps_len, HN.out]; rfl)
  go_wp2_with (at_builtin; go_loud (refine wpList_oper rfl (oper_append_row (.tmp 35) (.tmp 42) 28 28 rfl (w.heap.size + 1 + 1) i0 Try.underlying28 Try.underlying28 HI0.out HY0.out HY1.out HY2.out (.slice A n c) (dHead ++ dSteps i) (dTail ((i : Int) + 1) d) rfl HO.out rfl HT.out (by rw [HLN.out, HN.out]; omega) (by simp; omega) ?_)); intro A4 c4 w4 hown4 happ4; rw [HLN.out] at hown4 happ4; rw [HLN.out]; have HO4 := hid hown4; have HP4 := hid happ4; clear hown4 happ4)
  have hbs := hbw.out.size
  have HB4 := hid ((hbw.out.trans (HA.out.mono hbs)).grown HP4.out.grown (by simp; omega) (fun g hg => by have := (ownsRow_block HO.out hg).1; omega))
  go_ret
  refine ⟨A4, n + 3, c4, rfl, ?_, HB4.out⟩
  exact OwnN.termV HO4.out (by rw [downL_len]; omega)
end
section
open Go.RowKit
theorem nfix_any {w : World} {g : Nat} (hb : BookV w ⟨none, 0, 0, some ⟨g, 0, none⟩, 1, 1, none, 0, 0⟩ numsB) {A : Option Addr} {n c k d : Nat} (ht : TermV w A n c (downL k d)) (hk : k ≤ 500) (hd : d ≤ k) :
 Calls Try.prog 12 #[.agg #[.int .i64 0, .slice none 0 0, .slice (some ⟨g, 0, none⟩) 1 1, .int .i64 0, .slice none 0 0], .int .i64 0, .slice A n c] w (ErrP (if d < k then 0 else 18) w) := by
 rw [← down_fixE hk hd]
 exact gfix_any hb 0 ht
theorem gawake_any {w : World} : Calls Try.prog 7 #[] w (BoolP true w) := by
 go_in
 go_wp2_with fail
 refine nums_any.mono ?_
 rintro e w1 ⟨g, rfl, hb1, hw1⟩
 have HB1 := hid hb1
 have HW1 := hid hw1
 clear hb1 hw1
 go_wp2_with fail
 refine (down_any 1 (0 : Nat) (by omega)).mono ?_
 rintro e w2 ⟨A, n, c, rfl, ht, hw2⟩
 have HF := hid (nfix_any (HB1.out.below hw2) ht (by omega) (by omega))
 have HW2 := bto HW1 hw2
 clear ht hw2
 rw [if_pos (by omega)] at HF
 go_wp2_with fail
 refine HF.out.mono ?_
 rintro e w3 ⟨rfl, hw3⟩
 have HW3 := bto HW2 hw3
 clear hw3 HF
 go_wp2_with fail
 refine nums_any.mono ?_
 rintro e w4 ⟨g4, rfl, hb4, hw4⟩
 have HB4 := hid hb4
 have HW4 := bto HW3 hw4
 clear hb4 hw4
 go_wp2_with fail
 refine (down_any 1 (1 : Nat) (by omega)).mono ?_
 rintro e w5 ⟨A5, n5, c5, rfl, ht, hw5⟩
 have HF := hid (nfix_any (HB4.out.below hw5) ht (by omega) (by omega))
 have HW5 := bto HW4 hw5
 clear ht hw5
 rw [if_neg (by omega)] at HF
 go_wp2_with fail
 refine HF.out.mono ?_
 rintro e w6 ⟨rfl, hw6⟩
 have HW6 := bto HW5 hw6
 clear hw6 HF
 go_wp2_with fail
 go_ret
 exact ⟨rfl, HW6.out⟩
end
end Go.Proofs.Ytjllmblbbgojbaa
