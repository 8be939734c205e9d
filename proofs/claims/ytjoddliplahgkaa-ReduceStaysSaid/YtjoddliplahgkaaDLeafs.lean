/- Merged: Leaf, Leaf2, Atoms, Row, Cut, Rev, AppOne, Marks, AppZ, WalkP. -/
import Derived.Test.YtjoddliplahgkaaProg
import Derived.Test.YtjoddliplahgkaaDBase
import Derived.WalkKit
import Derived.WalkLawsBesides
import Derived.WalkSpells
import Derived.Lib.Hide
import Derived.Deep.QuietTactic
import Derived.BigQuiet
import Derived.Lib.SliceRun
namespace Go.Proofs.Ytjoddliplahgkaa
open Go.Lib (hid)
set_option maxHeartbeats 2000000
set_option maxRecDepth 100000
section
open Go.RowKit
theorem entry_any (op a b : Int) (w : World) :
 Calls Try.prog 70 #[.agg #[.int .i64 op, .int .i64 a, .int .i64 b]] w fun e w' => e = .returned (.bool (decide (0 ≤ a) && decide (a < 64))) ∧ w.alloc (.cells #[.int .i64 op, .int .i64 a, .int .i64 b] 50) = w' := by
 go_in
 go_wp2
 all_goals
  go_ret
  exact ⟨ret_bool (by simp <;> omega), rfl⟩
def PlainPost (op a b : Int) (w : World) (e : Ending) (w' : World) : Prop := e = .returned (.bool (plainB op a b)) ∧ Below w.heap.size w w'
theorem plain_any (op a b : Int) (w : World) :
 Calls Try.prog 40 #[.agg #[.int .i64 op, .int .i64 a, .int .i64 b]] w (PlainPost op a b w) := by
 by_cases h : 1 ≤ op ∧ op ≤ 13
 · obtain ⟨h0, h13⟩ := h
   obtain ⟨k, rfl⟩ := Int.eq_ofNat_of_zero_le (by omega : 0 ≤ op)
   have : k = 1 ∨ k = 2 ∨ k = 3 ∨ k = 4 ∨ k = 5 ∨ k = 6 ∨ k = 7 ∨ k = 8 ∨ k = 9 ∨ k = 10 ∨ k = 11 ∨ k = 12 ∨ k = 13 := by omega
   clear h0 h13
   rcases this with rfl | rfl | rfl | rfl | rfl | rfl | rfl | rfl | rfl | rfl | rfl | rfl | rfl
   all_goals
    go_in
    go_wp2_with (go_at_call 70; refine (entry_any _ _ _ _).mono ?_; rintro e w' ⟨rfl, rfl⟩)
    all_goals
     go_ret
     refine ⟨ret_bool ?_, by first | exact below_alloc _ _ | exact below_alloc2 _ _ _⟩
     rw [Bool.eq_iff_iff]
     simp [plainB]
     try omega
 have b1 : (op == 1) = false := beq_eq_false_iff_ne.2 (by omega)
 have b2 : (op == 2) = false := beq_eq_false_iff_ne.2 (by omega)
 have b3 : (op == 3) = false := beq_eq_false_iff_ne.2 (by omega)
 have b4 : (op == 4) = false := beq_eq_false_iff_ne.2 (by omega)
 have b5 : (op == 5) = false := beq_eq_false_iff_ne.2 (by omega)
 have b6 : (op == 6) = false := beq_eq_false_iff_ne.2 (by omega)
 have b7 : (op == 7) = false := beq_eq_false_iff_ne.2 (by omega)
 have b8 : (op == 8) = false := beq_eq_false_iff_ne.2 (by omega)
 have b9 : (op == 9) = false := beq_eq_false_iff_ne.2 (by omega)
 have b10 : (op == 10) = false := beq_eq_false_iff_ne.2 (by omega)
 have b11 : (op == 11) = false := beq_eq_false_iff_ne.2 (by omega)
 have b12 : (op == 12) = false := beq_eq_false_iff_ne.2 (by omega)
 have b13 : (op == 13) = false := beq_eq_false_iff_ne.2 (by omega)
 have hp : plainB op a b = false := by
  simp only [plainB]
  repeat rw [if_neg (by omega)]
 have HP := hid hp
 clear hp h
 go_in
 go_wp2
 go_ret
 exact ⟨ret_bool HP.out.symm, below_alloc _ _⟩
end
section
open Go.RowKit
theorem kids_any (op a b : Int) (w : World) (hb : -1000 ≤ b ∧ b ≤ 1000) :
 Calls Try.prog 42 #[.agg #[.int .i64 op, .int .i64 a, .int .i64 b]] w fun e w' => e = .returned (.int .i64 (kidsI op b)) ∧ w.alloc (.cells #[.int .i64 op, .int .i64 a, .int .i64 b] 50) = w' := by
 obtain ⟨hb1, hb2⟩ := hb
 by_cases h : op = 4 ∨ op = 5 ∨ op = 6 ∨ op = 7 ∨ op = 11 ∨ op = 12 ∨ op = 13
 · rcases h with rfl | rfl | rfl | rfl | rfl | rfl | rfl
   all_goals
    go_in
    go_wp2
    all_goals
     go_ret
     refine ⟨ret_int ?_, rfl⟩
     simp [kidsI]
 ·
  have b4 : (op == 4) = false := beq_eq_false_iff_ne.2 (by omega)
  have b5 : (op == 5) = false := beq_eq_false_iff_ne.2 (by omega)
  have b6 : (op == 6) = false := beq_eq_false_iff_ne.2 (by omega)
  have b7 : (op == 7) = false := beq_eq_false_iff_ne.2 (by omega)
  have b11 : (op == 11) = false := beq_eq_false_iff_ne.2 (by omega)
  have b12 : (op == 12) = false := beq_eq_false_iff_ne.2 (by omega)
  have b13 : (op == 13) = false := beq_eq_false_iff_ne.2 (by omega)
  have hp : kidsI op b = 0 := by
   simp only [kidsI]
   repeat rw [if_neg (by omega)]
  have HP := hid hp
  clear hp h
  go_in
  go_wp2
  go_ret
  exact ⟨ret_int HP.out.symm, rfl⟩
theorem binders_any (op a b k : Int) (w : World) :
 Calls Try.prog 73 #[.agg #[.int .i64 op, .int .i64 a, .int .i64 b], .int .i64 k] w fun e w' => e = .returned (.int .i64 (bindersI op k)) ∧ w.alloc (.cells #[.int .i64 op, .int .i64 a, .int .i64 b] 50) = w' := by
 by_cases h : op = 4 ∨ op = 5 ∨ op = 7
 · rcases h with rfl | rfl | rfl
   all_goals
    by_cases k1 : k = 1
    · subst k1
      go_in
      go_wp2
      all_goals
       go_ret
       refine ⟨ret_int ?_, rfl⟩
       simp [bindersI]
    by_cases k2 : k = 2
    · subst k2
      go_in
      go_wp2
      all_goals
       go_ret
       refine ⟨ret_int ?_, rfl⟩
       simp [bindersI]
    have c1 : (k == 1) = false := beq_eq_false_iff_ne.2 k1
    have c2 : (k == 2) = false := beq_eq_false_iff_ne.2 k2
    have K1 := hid k1
    have K2 := hid k2
    clear k1 k2
    go_in
    go_wp2
    all_goals
     go_ret
     refine ⟨ret_int ?_, rfl⟩
     simp [bindersI, K1.out, K2.out]
 ·
  have b4 : (op == 4) = false := beq_eq_false_iff_ne.2 (by omega)
  have b5 : (op == 5) = false := beq_eq_false_iff_ne.2 (by omega)
  have b7 : (op == 7) = false := beq_eq_false_iff_ne.2 (by omega)
  have hp : bindersI op k = 0 := by
   simp only [bindersI]
   rw [if_neg (by omega)]
  have HP := hid hp
  clear hp h
  go_in
  go_wp2
  go_ret
  exact ⟨ret_int HP.out.symm, rfl⟩
end
section
open Go.RowKit
def IntPost (n : Int) (w : World) (e : Ending) (w' : World) : Prop := e = .returned (.int .i64 n) ∧ Below w.heap.size w w'
theorem atoms_any {A : Option Addr} {n c : Nat} {l : List Nd} {w : World} (h : TermV w A n c l) (a0 b0 : Int) (p0 k : Nat) (ha0 : a0 = p0) (hb0 : b0 = k) (hp0 : p0 ≤ n) (hk : k ≤ 1000) :
 Calls Try.prog 41 #[.slice A n c, .int .i64 a0, .int .i64 b0] w (IntPost (optI (atEnds k (-1) l p0)) w) := by
 have hfew := h.few
 subst ha0 hb0
 go_in
 go_wp2
 go_loopw [1, 7, 9] (fun a t i wr => ∃ (p j : Nat) (last : Int), p ≤ n ∧ j ≤ k ∧ a = .int .i64 p ∧ t = .int .i64 last ∧ i = .int .i64 j ∧ atEnds (k - j) last l p = atEnds k (-1) l p0 ∧ Below w.heap.size w wr) (fun _ _ i _ => k - (intOf i).toNat)
 case atStart => exact ⟨p0, 0, -1, hp0, Nat.zero_le _, rfl, rfl, rfl, by rw [Nat.sub_zero], Below.refl _ _⟩
 case round =>
  obtain ⟨p, j, last, hp, hj, rfl, rfl, rfl, he, hbw⟩ := hrel
  have HE := hid he
  clear he
  have h' := h.below hbw
  by_cases hlt : j < k
  rotate_left
  · go_wp2
    go_ret
    refine ⟨ret_int ?_, hbw⟩
    rw [← HE.out, show k - j = 0 from by omega]
    rfl
  have hstep : atEnds (k - j) last l p = if p < l.length ∧ (nth l p).op = 3 ∧ plainB (nth l p).op (nth l p).a (nth l p).b = true ∧ last < (nth l p).a then atEnds (k - (j + 1)) (nth l p).a l (p + 1) else none := by
   rw [show k - j = (k - (j + 1)) + 1 from by omega]; rfl
  have HS := hid hstep
  clear hstep
  by_cases hpn : p < n
  rotate_left
  · go_wp2
    go_ret
    refine ⟨ret_int ?_, hbw⟩
    rw [← HE.out, HS.out, if_neg (fun hh => hpn (by rw [← h.len]; exact hh.1))]
    rfl
  obtain ⟨b, off, rfl, hb, c0, c1, c2⟩ := h'.at_ hpn
  by_cases hop : (nth l p).op = 3
  rotate_left
  · have hob : ((nth l p).op != 3) = true := by simp [hop]
    have HOP := hid hop
    clear hop
    go_wp2
    go_ret
    refine ⟨ret_int ?_, hbw⟩
    rw [← HE.out, HS.out, if_neg (fun hh => HOP.out hh.2.1)]
    rfl
  have hob : ((nth l p).op != 3) = false := by simp [hop]
  have HOP := hid hop
  clear hop
  cases hpl : plainB (nth l p).op (nth l p).a (nth l p).b
  · go_wp2_with (go_at_call 40; refine (plain_any _ _ _ _).mono ?_; rintro e w1 ⟨rfl, hb1⟩; obtain ⟨hc1, hf1⟩ := bcell hb1)
    go_ret
    refine ⟨ret_int ?_, hbw.trans (hb1.mono hbw.size)⟩
    rw [← HE.out, HS.out, if_neg (fun hh => by rw [hpl] at hh; cases hh.2.2.1)]
    rfl
  by_cases hla : last < (nth l p).a
  · have hla2 : decide ((nth l p).a ≤ last) = false := by simp; omega
    go_wp2_with (go_at_call 40; refine (plain_any _ _ _ _).mono ?_; rintro e w1 ⟨rfl, hb1⟩; obtain ⟨hc1, hf1⟩ := bcell hb1)
    go_roundw
    case rel => exact ⟨p + 1, j + 1, (nth l p).a, hpn, hlt, by go_num, rfl, by go_num, by rw [← HE.out, HS.out, if_pos ⟨by rw [h.len]; exact hpn, HOP.out, hpl, hla⟩], hbw.trans (hb1.mono hbw.size)⟩
    case measure => simp [intOf]; omega
  have hla2 : decide ((nth l p).a ≤ last) = true := by simp; omega
  go_wp2_with (go_at_call 40; refine (plain_any _ _ _ _).mono ?_; rintro e w1 ⟨rfl, hb1⟩; obtain ⟨hc1, hf1⟩ := bcell hb1)
  go_ret
  refine ⟨ret_int ?_, hbw.trans (hb1.mono hbw.size)⟩
  rw [← HE.out, HS.out, if_neg (fun hh => by have := hh.2.2.2; omega)]
  rfl
end
section
open Go.RowKit
theorem infoN' : (Try.prog.info? 50).map (fun i => (i.zero, i.size, i.bytes)) = some (some (.agg #[.int .i64 0, .int .i64 0, .int .i64 0]), 3, 24) := by kernel_rfl
def RowPost (l : List Nd) (w : World) (e : Ending) (w' : World) : Prop := Below w.heap.size w w' ∧ ∃ A n c, e = .returned (.slice A n c) ∧ TermR (fresh w w') w' A n c l
end
section
open Go.RowKit
theorem TermR.cutAt {R : Nat → Prop} {w : World} {A : Option Addr} {n c : Nat} {l : List Nd} (h : TermR R w A n c l) {k : Nat} (hk : k ≤ n) :
 TermR R w (if c = k then A else A.map (·.add (k * 3))) (n - k) (c - k) (l.drop k) := by
 refine ⟨by rw [List.length_drop, h.len], by have := h.cap; omega, by have := h.few; omega, fun e => ?_, fun hn => ?_⟩
 · split at e
   · omega
   have := h.nul (by simpa using e); omega
 obtain ⟨b, off, rfl, hb, hc⟩ := h.mem (by omega)
 have := h.cap
 rw [if_neg (by omega)]
 refine ⟨b, off + k * 3, ?_, hb, ?_⟩
 · simp only [Option.map_some, Addr.add]
   split
   · rename_i h0; rw [h0, Nat.add_zero]
   rfl
 intro j hj
 rw [List.length_drop, h.len] at hj
 rw [nth_drop]
 have := hc (k + j) (by rw [h.len]; omega)
 rwa [Nat.add_mul, ← Nat.add_assoc] at this
theorem TermR.frontAt {R : Nat → Prop} {w : World} {A : Option Addr} {n c : Nat} {l : List Nd} (h : TermR R w A n c l) {k : Nat} (hk : k ≤ n) : TermR R w A k c (l.take k) := by
 refine ⟨by rw [List.length_take, h.len]; omega, by have := h.cap; omega, by have := h.few; omega, h.nul, fun hn => ?_⟩
 obtain ⟨b, off, e, hb, hc⟩ := h.mem (by omega)
 refine ⟨b, off, e, hb, ?_⟩
 intro j hj
 rw [List.length_take] at hj
 rw [nth_take (by omega)]
 exact hc j (by omega)
theorem size_node (w : World) : (sizeOf 50).run Try.prog w = .ok 3 w := by kernel_rfl
theorem cut_from (A : Option Addr) (n c k : Nat) (hk : k ≤ n) : ∃ A', (∀ w : World, (Instr.slice 29 (.slice A n c) (some (.int .i64 (k : Int))) none none).run Try.prog w = .ok (.slice A' (n - k) (c - k)) w) ∧
 ∀ (R : Nat → Prop) (w : World) (l : List Nd), TermR R w A n c l → TermR R w A' (n - k) (c - k) (l.drop k) := by
 refine ⟨if c = k then A else A.map (·.add (k * 3)), fun w => ?_, fun R w l h => h.cutAt hk⟩
 rw [run_slice_l w 29 A n c (by kernel_rfl) .i64 (k : Int) (by omega) (by omega)]
 have e : Try.prog.elem 29 = 50 := by kernel_rfl
 rw [e, size_node]
 rfl
theorem cut_mid (A : Option Addr) (n c j k : Nat) (hj : j ≤ k) (hk : k ≤ n) (hc : n ≤ c) : ∃ A', (∀ w : World, (Instr.slice 29 (.slice A n c) (some (.int .i64 (j : Int))) (some (.int .i64 (k : Int))) none).run Try.prog w = .ok (.slice A' (k - j) (c - j)) w) ∧
 ∀ (R : Nat → Prop) (w : World) (l : List Nd), TermR R w A n c l → TermR R w A' (k - j) (c - j) ((l.take k).drop j) := by
 refine ⟨if c = j then A else A.map (·.add (j * 3)), fun w => ?_, fun R w l h => (h.frontAt hk).cutAt hj⟩
 rw [run_slice_lh w 29 A n c (by kernel_rfl) .i64 .i64 (j : Int) (k : Int) (by omega) (by omega) (by omega)]
 have e : Try.prog.elem 29 = 50 := by kernel_rfl
 rw [e, size_node]
 rfl
end
section
open Go.RowKit
theorem own_setv {w : World} {base g n c : Nat} {e : TypeId} {xs : List Value} (h : w.ownsRow base e 1 (.slice (some ⟨g, 0, none⟩) n c) n xs) (i : Nat) (u : Value) : (w.setCell ⟨g, i, none⟩ u).ownsRow base e 1 (.slice (some ⟨g, 0, none⟩) n c) n (xs.set i u) := by
 obtain ⟨hl, hc⟩ := h
 refine ⟨by simpa using hl, .inr ?_⟩
 rcases hc with ⟨h1, _⟩ | ⟨g', cap, cur, hv, hg, hh, h1, h2, h3, h4⟩
 · cases h1
 injection hv with e1 e2 e3
 injection e1 with e1
 injection e1 with e1
 subst e1 e3
 refine ⟨g, c, cur.setIfInBounds i u, rfl, hg, ?_, h1, h2, by simpa using h3, ?_⟩
 · have hb : Blk w g e cur := hh
   exact hb.set_ i u
 rw [Array.toList_setIfInBounds, List.take_set, h4]
structure RvS (xs l : List Value) (i : Nat) : Prop where
 len : l.length = xs.length
 at_ : ∀ p, p < xs.length → l[p]? = if p < i ∨ xs.length ≤ p + i then xs[xs.length - 1 - p]? else xs[p]?
theorem RvS.start (xs : List Value) : RvS xs xs 0 := ⟨rfl, fun p hp => by rw [if_neg (by omega)]⟩
theorem RvS.step {xs l : List Value} {i j : Nat} {u v : Value} (h : RvS xs l i) (hij : i < j) (hj : j + i + 1 = xs.length) (hu : l[i]? = some u) (hv : l[j]? = some v) : RvS xs ((l.set i v).set j u) (i + 1) := by
 have hl := h.len
 refine ⟨by simpa using hl, fun p hp => ?_⟩
 have hi := h.at_ i (by omega)
 have hjj := h.at_ j (by omega)
 rw [if_neg (by omega)] at hi hjj
 rw [hu] at hi
 rw [hv] at hjj
 rw [List.getElem?_set, List.getElem?_set]
 by_cases e1 : j = p
 · subst e1
   rw [if_pos rfl, if_pos (by simp; omega), if_pos (by omega), show xs.length - 1 - j = i from by omega, ← hi]
 rw [if_neg e1]
 by_cases e2 : i = p
 · subst e2
   rw [if_pos rfl, if_pos (by omega), if_pos (by omega), show xs.length - 1 - i = j from by omega, ← hjj]
 rw [if_neg e2, h.at_ p hp]
 by_cases e3 : p < i ∨ xs.length ≤ p + i
 · rw [if_pos e3, if_pos (by omega)]
 rw [if_neg e3, if_neg (by omega)]
theorem RvS.fin {xs l : List Value} {i : Nat} (h : RvS xs l i) (hi : xs.length ≤ 2 * i + 1) : l = xs.reverse := by
 apply List.ext_getElem?
 intro p
 by_cases hp : p < xs.length
 · rw [h.at_ p hp, List.getElem?_reverse hp]
   by_cases e : p < i ∨ xs.length ≤ p + i
   · rw [if_pos e]
   rw [if_neg e]; congr 1; omega
 rw [List.getElem?_eq_none (by rw [h.len]; omega), List.getElem?_eq_none (by simp; omega)]
theorem grown_setv (W : World) (g k : Nat) (v : Value) : W.grownBy (W.setCell ⟨g, k, none⟩ v) (some g) :=
 ⟨rfl, rfl, rfl, by simp, fun i _ h2 => Below.heap_setCell _ _ _ _ (fun e => h2 (by rw [e]))⟩
def RevPost (base : Nat) (A : Option Addr) (n c : Nat) (xs : List Value) (w : World) (e : Ending) (w' : World) : Prop := e = .returned (.tuple #[]) ∧ w'.ownsRow base 29 1 (.slice A n c) n xs.reverse ∧ w.grownBy w' (Value.slice A n c).ownBlock
theorem reverse_any {A : Option Addr} {n c base : Nat} {xs : List Value} {w : World} (h : w.ownsRow base 29 1 (.slice A n c) n xs) (hf : n ≤ 1000000) (hxs : ∀ x ∈ xs, ∃ A' n' c', x = .slice A' n' c') :
 Calls Try.prog 89 #[.slice A n c] w (RevPost base A n c xs w) := by
 have hln : xs.length = n := by have := h.1; omega
 have H := hid h
 have HXS := hid hxs
 clear h hxs
 go_in
 go_wp2_with fail
 go_loopw [2, 3] (fun iv jv wr => ∃ (i : Nat) (l : List Value), iv = .int .i64 (i : Int) ∧ jv = .int .i64 ((n : Int) - 1 - (i : Int)) ∧ 2 * i ≤ n + 1 ∧ Hid (RvS xs l i) ∧ Hid (wr.ownsRow base 29 1 (.slice A n c) n l) ∧ Hid (w.grownBy wr (Value.slice A n c).ownBlock)) (fun i _ _ => n - (intOf i).toNat)
 case atStart => exact ⟨0, xs, rfl, by go_num, by omega, hid (RvS.start xs), H, hid (World.grownBy.refl _ _)⟩
 case round =>
  obtain ⟨i, l, rfl, rfl, hi, hrv, hown, hgr⟩ := hrel
  by_cases hlt : (i : Int) < (n : Int) - 1 - (i : Int)
  rotate_left
  · have HE := hid (hrv.out.fin (by omega))
    go_wp2_with fail
    go_end0
    refine ⟨rfl, ?_, hgr.out⟩
    rw [← HE.out]
    exact hown.out
  obtain ⟨j, hj⟩ : ∃ j : Nat, j + i + 1 = n := ⟨n - 1 - i, by omega⟩
  have hji : (n : Int) - 1 - (i : Int) = (j : Int) := by omega
  have hij : i < j := by omega
  have hjn : j < n := by omega
  obtain ⟨u, hu⟩ : ∃ u, l[i]? = some u := ⟨_, List.getElem?_eq_getElem (by rw [hrv.out.len]; omega)⟩
  obtain ⟨v, hv⟩ : ∃ v, l[j]? = some v := ⟨_, List.getElem?_eq_getElem (by rw [hrv.out.len]; omega)⟩
  have hmem : ∀ p x, l[p]? = some x → x ∈ xs := fun p x hp => by
   have hpl := (List.getElem?_eq_some_iff.1 hp).1
   rw [hrv.out.len] at hpl
   rw [hrv.out.at_ p hpl] at hp
   split at hp <;> exact List.mem_of_getElem? hp
  obtain ⟨Au, nu, cu, rfl⟩ := HXS.out _ (hmem _ _ hu)
  obtain ⟨Av, nv, cv, rfl⟩ := HXS.out _ (hmem _ _ hv)
  have hST := hrv.out.step hij (by omega) hu hv
  obtain ⟨_, hcase⟩ := hown.out
  rcases hcase with ⟨_, h2⟩ | ⟨g, cap', cur, he, hg, hh, _⟩
  · omega
  injection he with e1 e2 e3
  subst e1
  subst e3
  clear e2
  have hblk : Blk wr g 29 cur := hh
  have hci : wr.cell? ⟨g, i, none⟩ = some (.slice Au nu cu) := by rw [hown.out.cellAt i (by omega), hu]
  have hcj : wr.cell? ⟨g, j, none⟩ = some (.slice Av nv cv) := by rw [hown.out.cellAt j (by omega), hv]
  have hfz := Blk.frozen hblk
  have HST := hid hST
  have hne : i ≠ j := by omega
  rw [hji]
  clear hu hv hmem hST hh hblk hji
  go_wp2_with fail
  go_region
  go_wp2_with fail
  have h3 : w.grownBy ((wr.setCell ⟨g, i, none⟩ (.slice Av nv cv)).setCell ⟨g, j, none⟩ (.slice Au nu cu)) (some g) :=
   (World.grownBy.trans (show w.grownBy wr (some g) from hgr.out) (grown_setv wr g i _)).trans (grown_setv _ g j _)
  have H3 := hid h3
  clear h3
  go_roundw
  case rel => exact ⟨i + 1, (l.set i (.slice Av nv cv)).set j (.slice Au nu cu), by go_num, by go_num, by omega, HST, hid (own_setv (own_setv hown.out i (.slice Av nv cv)) j (.slice Au nu cu)), hid ⟨H3.out.os, H3.out.tape, H3.out.output, H3.out.size, H3.out.block⟩⟩
  case measure => simp [intOf]; omega
end
section
open Go.RowKit
theorem oper_append_one {P : Program} {o : Oper} {a : Act} {w : World} {K : Act → World → Prop} {Q : Exit → Act → World → Prop}
 (s x : Operand) (t e : TypeId) (hop : o.op = Op.call { callee := Callee.builtin Builtin.append, args := #[s, x], argTypes := #[t, t] })
 (base : Nat) (i : TypeInfo) (z : Value) (bytes : Nat) (h1 : P.underlying t = some (.slice e)) (h2 : P.info? e = some i) (h3 : i.zero = some z) (h4 : i.size = 1) (h5 : i.bytes = bytes) (h6 : z.cells.size = 1) (hby : bytes ≤ 24)
 (v : Value) (n : Nat) (xs : List Value) (u : Value) (hone : u.oneCell' = true) (W : World) (hW : w = W.alloc (.cells #[u] e)) (hs : a.eval s = v) (hown : W.ownsRow base e 1 v n xs)
 (g : Nat) (hx : a.eval x = .slice (some ⟨g, 0, none⟩) 1 1) (hgW : g = W.heap.size) (b1 : n + 1 ≤ 1000000000) (b3 : base ≤ W.heap.size)
 (hK : ∀ A' c' w', Appended W w' base e 1 v A' (n + 1) c' (xs ++ [u]) → K (a.put o.dst (.slice A' (n + 1) c')) w') : Oper.wp P o a w K Q := by
 subst hW
 subst hgW
 refine oper_append_mine s x t hop base _ i _ 1 bytes h1 h2 h3 h4 h5 h6 (by decide) v n xs hs (World.ownsRow.alloc hown _) _ 1 1 [u] hx (by simp) (fun e => by cases e) (fun ad e j u' hu => ?_) (fun q hq => by simp at hq; subst hq; exact hone) (by unfold maxLen; omega) ?_ (by simp; omega) ?_
 · injection e with e
   subst e
   have ea : (⟨W.heap.size, 0, none⟩ : Addr).add j = ⟨W.heap.size, j, none⟩ := by unfold Addr.add; split <;> simp_all
   rw [ea, World.cell?_alloc_new, ← hu]
   simp
 · exact Nat.le_trans (Nat.mul_le_mul b1 hby) (by decide)
 intro A' c' w' h
 refine hK A' c' w' ⟨h.own, ?_, fun g hg => (h.new g hg).imp id (fun hh => by simp at hh; omega)⟩
 refine ⟨h.grown.os, h.grown.tape, h.grown.output, Nat.le_trans (by simp) h.grown.size, fun k hk hne => ?_⟩
 rw [h.grown.block k (by simp; omega) hne]
 exact Below.heap_alloc _ _ _ hk
end
section
open Go.RowKit
end
section
open Go.RowKit
end
section
open Go.RowKit
structure Vis (σ : Type) where
 em : σ → Nd → Int → List Nd
 nx : σ → Nd → Int → σ
 ok : σ → Nd → Int → Bool
 dm : σ → Nd → Int → Prop
section
variable {σ : Type} (V : Vis σ)
def Vis.S (pop pb : Int) : Nat → Int → σ → Fo → σ
 | _, _, s, .nil => s
 | j, a, s, .cons _ n _ k x => Vis.S pop pb (j + 1) a (Vis.S n.op n.b 0 (a + aroundI pop pb j) (V.nx s n (a + aroundI pop pb j)) k) x
def Vis.E (pop pb : Int) : Nat → Int → σ → Fo → List Nd
 | _, _, _, .nil => []
 | j, a, s, .cons p n at' k x => p ++ (V.em s n (a + aroundI pop pb j) ++ (at' ++ (Vis.E n.op n.b 0 (a + aroundI pop pb j) (V.nx s n (a + aroundI pop pb j)) k ++ Vis.E pop pb (j + 1) a (V.S n.op n.b 0 (a + aroundI pop pb j) (V.nx s n (a + aroundI pop pb j)) k) x)))
def Vis.G (pop pb : Int) : Nat → Int → σ → Fo → Bool
 | _, _, _, .nil => true
 | j, a, s, .cons _ n _ k x => V.ok s n (a + aroundI pop pb j) && (Vis.G n.op n.b 0 (a + aroundI pop pb j) (V.nx s n (a + aroundI pop pb j)) k && Vis.G pop pb (j + 1) a (V.S n.op n.b 0 (a + aroundI pop pb j) (V.nx s n (a + aroundI pop pb j)) k) x)
def Vis.D (pop pb : Int) : Nat → Int → σ → Fo → Prop
 | _, _, _, .nil => True
 | j, a, s, .cons _ n _ k x => V.dm s n (a + aroundI pop pb j) ∧ Vis.D n.op n.b 0 (a + aroundI pop pb j) (V.nx s n (a + aroundI pop pb j)) k ∧ Vis.D pop pb (j + 1) a (V.S n.op n.b 0 (a + aroundI pop pb j) (V.nx s n (a + aroundI pop pb j)) k) x
theorem Vis.S_app (pop pb : Int) : ∀ (j : Nat) (a : Int) (s : σ) (F G : Fo), V.S pop pb j a s (F.app G) = V.S pop pb (j + flen F) a (V.S pop pb j a s F) G
 | _, _, _, .nil, G => by simp [Fo.app, Vis.S, flen]
 | j, a, s, .cons p n at' k x, G => by
  simp only [Fo.app, Vis.S, flen]
  rw [Vis.S_app pop pb (j + 1) a _ x G, show j + 1 + flen x = j + (flen x + 1) from by omega]
theorem Vis.E_app (pop pb : Int) : ∀ (j : Nat) (a : Int) (s : σ) (F G : Fo), V.E pop pb j a s (F.app G) = V.E pop pb j a s F ++ V.E pop pb (j + flen F) a (V.S pop pb j a s F) G
 | _, _, _, .nil, G => by simp [Fo.app, Vis.E, Vis.S, flen]
 | j, a, s, .cons p n at' k x, G => by
  simp only [Fo.app, Vis.E, Vis.S, flen]
  rw [Vis.E_app pop pb (j + 1) a _ x G, show j + 1 + flen x = j + (flen x + 1) from by omega]
  simp only [List.append_assoc]
theorem Vis.G_app (pop pb : Int) : ∀ (j : Nat) (a : Int) (s : σ) (F G : Fo), V.G pop pb j a s (F.app G) = (V.G pop pb j a s F && V.G pop pb (j + flen F) a (V.S pop pb j a s F) G)
 | _, _, _, .nil, G => by simp [Fo.app, Vis.G, Vis.S, flen]
 | j, a, s, .cons p n at' k x, G => by
  simp only [Fo.app, Vis.G, Vis.S, flen]
  rw [Vis.G_app pop pb (j + 1) a _ x G, show j + 1 + flen x = j + (flen x + 1) from by omega]
  simp only [Bool.and_assoc]
theorem Vis.D_app (pop pb : Int) : ∀ (j : Nat) (a : Int) (s : σ) (F G : Fo), V.D pop pb j a s (F.app G) ↔ V.D pop pb j a s F ∧ V.D pop pb (j + flen F) a (V.S pop pb j a s F) G
 | _, _, _, .nil, G => by simp [Fo.app, Vis.D, Vis.S, flen]
 | j, a, s, .cons p n at' k x, G => by
  simp only [Fo.app, Vis.D, Vis.S, flen]
  rw [Vis.D_app pop pb (j + 1) a _ x G, show j + 1 + flen x = j + (flen x + 1) from by omega]
  simp only [and_assoc]
def Vis.S1 (a : Int) (s : σ) (n : Nd) (k : Fo) : σ := V.S n.op n.b 0 a (V.nx s n a) k
def Vis.E1 (a : Int) (s : σ) (n : Nd) (at' : List Nd) (k : Fo) : List Nd := V.em s n a ++ (at' ++ V.E n.op n.b 0 a (V.nx s n a) k)
def Vis.G1 (a : Int) (s : σ) (n : Nd) (k : Fo) : Bool := V.ok s n a && V.G n.op n.b 0 a (V.nx s n a) k
def Vis.D1 (a : Int) (s : σ) (n : Nd) (k : Fo) : Prop := V.dm s n a ∧ V.D n.op n.b 0 a (V.nx s n a) k
theorem Vis.S_cons (pop pb : Int) (j : Nat) (a : Int) (s : σ) (p : List Nd) (n : Nd) (at' : List Nd) (k x : Fo) : V.S pop pb j a s (.cons p n at' k x) = V.S pop pb (j + 1) a (V.S1 (a + aroundI pop pb j) s n k) x := rfl
theorem Vis.E_cons (pop pb : Int) (j : Nat) (a : Int) (s : σ) (p : List Nd) (n : Nd) (at' : List Nd) (k x : Fo) : V.E pop pb j a s (.cons p n at' k x) = p ++ (V.E1 (a + aroundI pop pb j) s n at' k ++ V.E pop pb (j + 1) a (V.S1 (a + aroundI pop pb j) s n k) x) := by
 simp only [Vis.E, Vis.E1, Vis.S1, List.append_assoc]
theorem Vis.G_cons (pop pb : Int) (j : Nat) (a : Int) (s : σ) (p : List Nd) (n : Nd) (at' : List Nd) (k x : Fo) : V.G pop pb j a s (.cons p n at' k x) = (V.G1 (a + aroundI pop pb j) s n k && V.G pop pb (j + 1) a (V.S1 (a + aroundI pop pb j) s n k) x) := by
 simp only [Vis.G, Vis.G1, Vis.S1, Bool.and_assoc]
theorem Vis.D_cons (pop pb : Int) (j : Nat) (a : Int) (s : σ) (p : List Nd) (n : Nd) (at' : List Nd) (k x : Fo) : V.D pop pb j a s (.cons p n at' k x) ↔ V.D1 (a + aroundI pop pb j) s n k ∧ V.D pop pb (j + 1) a (V.S1 (a + aroundI pop pb j) s n k) x := by
 simp only [Vis.D, Vis.D1, Vis.S1, and_assoc]
end
structure Moved (S : Nat → Prop) (row : Option Nat) (w w' : World) : Prop where
 os : w'.os = w.os
 tape : w'.tape = w.tape
 output : w'.output = w.output
 size : w.heap.size ≤ w'.heap.size
 block : ∀ k, k < w.heap.size → ¬ S k → some k ≠ row → w'.heap[k]? = w.heap[k]?
section
variable {S S' : Nat → Prop} {row row' : Option Nat} {w w' w'' : World}
theorem Moved.refl (S : Nat → Prop) (row : Option Nat) (w : World) : Moved S row w w := ⟨rfl, rfl, rfl, Nat.le_refl _, fun _ _ _ _ => rfl⟩
theorem Moved.mono (h : Moved S row w w') (hS : ∀ k, S k → S' k) : Moved S' row w w' := ⟨h.os, h.tape, h.output, h.size, fun k hk hs hr => h.block k hk (fun x => hs (hS k x)) hr⟩
theorem Moved.trans (h : Moved S row w w') (h' : Moved S row' w' w'') (hr : ∀ g, row' = some g → row = some g ∨ w.heap.size ≤ g) : Moved S row w w'' :=
 ⟨h'.os.trans h.os, h'.tape.trans h.tape, h'.output.trans h.output, Nat.le_trans h.size h'.size, fun k hk hs hn =>
  (h'.block k (Nat.lt_of_lt_of_le hk h.size) hs (fun e => by
   rcases hr k e.symm with h1 | h1
   · exact hn h1.symm
   · omega)).trans (h.block k hk hs hn)⟩
theorem Moved.of_below (h : Below w.heap.size w w') : Moved S row w w' := ⟨h.os, h.tape, h.output, h.size, fun k hk _ _ => h.block k hk⟩
theorem Moved.of_grown (h : w.grownBy w' row) : Moved S row w w' := ⟨h.os, h.tape, h.output, h.size, fun k hk _ hn => h.block k hk hn⟩
theorem Moved.to_below {B : Nat} (h : Moved S row w w') (hB : B ≤ w.heap.size) (hS : ∀ k, S k → B ≤ k) (hr : ∀ g, row = some g → B ≤ g) : Below B w w' :=
 ⟨h.os, h.tape, h.output, h.size, fun k hk => h.block k (by omega) (fun x => by have := hS k x; omega) (fun e => by have := hr k e.symm; omega)⟩
theorem Moved.alloc (h : Moved S row w w') (o : Obj) : Moved S row w (w'.alloc o) := h.trans (row' := none) (Moved.of_below (below_alloc _ _)) (fun _ e => by cases e)
theorem Moved.setCell (h : Moved S row w w') {p : Addr} (hp : S p.block) (u : Value) : Moved S row w (w'.setCell p u) :=
 h.trans (row' := none) ⟨rfl, rfl, rfl, by simp [World.setCell], fun k _ hs _ => Below.heap_setCell _ _ _ _ (fun e => hs (e ▸ hp))⟩ (fun _ e => by cases e)
theorem Moved.setNew (h : Moved S row w w') {p : Addr} (hp : w.heap.size ≤ p.block) (u : Value) : Moved S row w (w'.setCell p u) :=
 ⟨h.os, h.tape, h.output, by simpa [World.setCell] using h.size, fun k hk hs hn => (Below.heap_setCell _ _ _ _ (by omega)).trans (h.block k hk hs hn)⟩
theorem Moved.over (hb : Below w.heap.size w w') (h : Moved S' row w' w'') (hS : ∀ k, k < w.heap.size → S' k → S k) : Moved S row w w'' :=
 ⟨h.os.trans hb.os, h.tape.trans hb.tape, h.output.trans hb.output, Nat.le_trans hb.size h.size, fun k hk hs hn => (h.block k (Nat.lt_of_lt_of_le hk hb.size) (fun x => hs (hS k hk x)) hn).trans (hb.block k hk)⟩
theorem Moved.drew (h : Moved S row w w') : Moved S row w w'.drew := ⟨h.os, h.tape, h.output, h.size, h.block⟩
theorem Blk.moved {g : Nat} {t : TypeId} {cs : Array Value} (h : Blk w g t cs) (hm : Moved S row w w') (hs : ¬ S g) (hr : row ≠ some g) : Blk w' g t cs := (hm.block g h.lt hs (fun e => hr e.symm)).trans h
theorem Blk.same {g : Nat} {t : TypeId} {cs : Array Value} (h : Blk w g t cs) (e : w'.heap[g]? = w.heap[g]?) : Blk w' g t cs := e.trans h
theorem Blk.new' {g : Nat} {t : TypeId} {cs : Array Value} (hg : g = w.heap.size) : Blk (w.alloc (.cells cs t)) g t cs := by subst hg; exact Blk.new _ _ _
theorem cell_of_heap {b : Nat} (h : w'.heap[b]? = w.heap[b]?) (o : Nat) : w'.cell? ⟨b, o, none⟩ = w.cell? ⟨b, o, none⟩ := World.cell?_of_block (a := ⟨b, o, none⟩) h
end
theorem TermR.mid {R : Nat → Prop} {w : World} {b off n c p m : Nat} {l x rest : List Nd} (h : TermR R w (some ⟨b, off, none⟩) n c l) (e : l.drop p = x ++ rest) (hm : x.length = m) (hp : p ≤ n) (hm0 : 0 < m) : TermR R w (some ⟨b, off + p * 3, none⟩) m (c - p) x := by
 have hl : l.length = p + m + rest.length := by
  have h1 := congrArg List.length e
  rw [List.length_drop, List.length_append] at h1
  have := h.len
  omega
 have hc := h.cap
 have hf := h.few
 have hn := h.len
 refine ⟨hm, by omega, by omega, (fun e => by cases e), fun _ => ?_⟩
 obtain ⟨b', off', e', hR, hmem⟩ := h.mem (by omega)
 injection e' with e'
 injection e' with e1 e2
 subst e1 e2
 refine ⟨b, off + p * 3, rfl, hR, fun k hk => ?_⟩
 have hx : nth x k = nth l (p + k) := by
  rw [← nth_drop, e]
  simp [nth, hk, List.getElem?_append_left]
 have := hmem (p + k) (by omega)
 rw [hx]
 rwa [Nat.add_mul, ← Nat.add_assoc] at this
theorem pp_atoms {l : List Nd} {q : Nat} {n : Nd} {ats : List Nd} {k x : Fo} {rest : List Nd} (h : pp [false] (l.drop q) = some (.cons [] n ats k x, rest)) (h2 : n.op = 2) : k = .nil ∧ x = .nil ∧ ats.length = n.b.toNat ∧ l.drop (q + 1) = ats ++ rest ∧ 1 ≤ n.b ∧ n.b ≤ 4 := by
 have hr := pp_row h
 cases hd : l.drop q with
 | nil => rw [hd] at hr; simp [row] at hr
 | cons y t =>
  rw [hd] at h hr
  simp only [row, List.nil_append, List.cons_append, List.cons.injEq] at hr
  obtain ⟨rfl, hr⟩ := hr
  have hok : okN y = true := by
   rw [pp_cons] at h
   simp only [preOf, Option.bind_some] at h
   split at h
   · assumption
   cases h
  rw [pp_sort (l := y :: t) (Nat.succ_pos _) hok h2] at h
  simp only [nth, List.getD_cons_zero, List.drop_one, List.tail_cons, Option.map_eq_some_iff, Prod.mk.injEq, Fo.cons.injEq] at h
  obtain ⟨z, hz, ⟨_, _, rfl, rfl, rfl⟩, rfl⟩ := h
  obtain ⟨h5, h6⟩ := takeAtoms_len _ _ _ _ hz
  have hdd : l.drop (q + 1) = t := by rw [← List.drop_drop, hd]; rfl
  have hpl : plainB y.op y.a y.b = true := by simp only [okN, Bool.and_eq_true] at hok; exact hok.1.1
  rw [plainB_iff] at hpl
  exact ⟨rfl, rfl, h6, by rw [hdd]; exact h5, by omega, by omega⟩
theorem pp_kids {l : List Nd} {q : Nat} {n : Nd} {ats : List Nd} {k x : Fo} {rest : List Nd} (h : pp [false] (l.drop q) = some (.cons [] n ats k x, rest)) (h2 : n.op ≠ 2) : x = .nil ∧ ats = [] ∧ pp (ds n) (l.drop (q + 1)) = some (k, rest) := by
 have hr := pp_row h
 cases hd : l.drop q with
 | nil => rw [hd] at hr; simp [row] at hr
 | cons y t =>
  rw [hd] at h hr
  simp only [row, List.nil_append, List.cons_append, List.cons.injEq] at hr
  obtain ⟨rfl, hr⟩ := hr
  have hok : okN y = true := by
   rw [pp_cons] at h
   simp only [preOf, Option.bind_some] at h
   split at h
   · assumption
   cases h
  rw [pp_node (l := y :: t) (Nat.succ_pos _) hok h2] at h
  simp only [nth, List.getD_cons_zero, List.drop_one, List.tail_cons, Option.map_eq_some_iff, Prod.mk.injEq, Fo.cons.injEq] at h
  obtain ⟨z, hz, ⟨_, _, rfl, rfl, rfl⟩, rfl⟩ := h
  have hdd : l.drop (q + 1) = t := by rw [← List.drop_drop, hd]; rfl
  exact ⟨rfl, rfl, by rw [hdd]; exact hz⟩
theorem pp_first {l : List Nd} {q : Nat} {dr : List Bool} {F : Fo} {rest : List Nd} (h : pp (false :: dr) (l.drop q) = some (F, rest)) (hq : q ≤ l.length) :
 ∃ n ats k F' q2, F = .cons [] n ats k F' ∧ q < q2 ∧ q2 ≤ l.length ∧ pp [false] (l.drop q) = some (.cons [] n ats k .nil, l.drop q2) ∧ pp dr (l.drop q2) = some (F', rest) := by
 rw [pp_false] at h
 simp only [Option.bind_eq_some_iff, Option.map_eq_some_iff, Prod.mk.injEq] at h
 obtain ⟨x, hx, y, hy, e1, e2⟩ := h
 obtain ⟨n, ats, k, hn⟩ := pp_one hx
 obtain ⟨h1, h2, h3⟩ := pp_drop hx hq
 have h4 := pp_lt hx (by simp)
 rw [List.length_drop] at h4
 obtain ⟨x1, x2⟩ := x
 obtain ⟨y1, y2⟩ := y
 simp only at hn h1 h2 h3 h4 hy e1 e2
 subst hn e1 e2
 refine ⟨n, ats, k, y1, l.length - x2.length, rfl, by omega, by omega, ?_, ?_⟩
 · rw [← h1]; exact hx
 rw [← h1]; exact hy
theorem pp_ofix {l : List Nd} {q : Nat} {dr : List Bool} {F : Fo} {rest : List Nd} (h : pp (true :: dr) (l.drop q) = some (F, rest)) :
 q < l.length ∧ okF (nth l q) = true ∧ ∃ F', pp (false :: dr) (l.drop (q + 1)) = some (F', rest) ∧ F = F'.setPre [nth l q] := by
 by_cases hq : q < l.length
 · rw [drop_nth hq, pp_true] at h
   split at h
   · rename_i hf
     refine ⟨hq, hf, ?_⟩
     simp only [Option.bind_eq_some_iff, Option.map_eq_some_iff, Prod.mk.injEq] at h
     obtain ⟨x, hx, y, hy, e1, e2⟩ := h
     obtain ⟨n, ats, k, hn⟩ := pp_one hx
     refine ⟨x.1.app y.1, ?_, ?_⟩
     · rw [pp_false]
       simp only [Option.bind_eq_some_iff, Option.map_eq_some_iff, Prod.mk.injEq]
       exact ⟨x, hx, y, hy, rfl, e2⟩
     rw [← e1, hn]; rfl
   cases h
 rw [List.drop_eq_nil_of_le (by omega), pp_cons] at h
 simp [preOf] at h
theorem OwnN.moved {S : Nat → Prop} {row : Option Nat} {w w' : World} {base : Nat} {v : Value} {l : List Nd} (h : OwnN w base v l) (hm : Moved S row w w') (hs : ∀ g, v.ownBlock = some g → ¬ S g ∧ row ≠ some g) : OwnN w' base v l := by
 unfold OwnN at h ⊢
 obtain ⟨h1, h2⟩ := h
 refine ⟨h1, ?_⟩
 rcases h2 with h2 | ⟨g, cap, cur, hv, hg, hh, r⟩
 · exact Or.inl h2
 subst hv
 have hb := hs g rfl
 exact Or.inr ⟨g, cap, cur, rfl, hg, (hm.block g (Array.getElem?_eq_some_iff.1 hh).1 hb.1 (fun e => hb.2 e.symm)).trans hh, r⟩
theorem OwnN.slice {w : World} {base : Nat} {v : Value} {l : List Nd} (h : OwnN w base v l) : ∃ A c, v = .slice A l.length c := by
 rcases h.2 with ⟨rfl, h0⟩ | ⟨g, cap, cur, rfl, _⟩
 · rw [h0]; exact ⟨none, 0, rfl⟩
 exact ⟨_, _, rfl⟩
def newRow (v v' : Value) (w : World) : Prop := ∀ g, v'.ownBlock = some g → v.ownBlock = some g ∨ w.heap.size ≤ g
theorem newRow.refl (v : Value) (w : World) : newRow v v w := fun _ h => .inl h
theorem newRow.trans {v v' v'' : Value} {w w' : World} (h : newRow v v' w) (h' : newRow v' v'' w') (hs : w.heap.size ≤ w'.heap.size) : newRow v v'' w := fun g hg => by
 rcases h' g hg with h1 | h1
 · exact h g h1
 exact .inr (Nat.le_trans hs h1)
def OnePost {σ : Type} (V : Vis σ) (J : World → σ → Prop) (S : Nat → Prop) (base : Nat) (pan : List PanicEntry) (w : World) (s : σ) (v : Value) (o : List Nd) (n : Nd) (a : Int) (e : Ending) (w' : World) : Prop :=
 (V.ok s n a = true ∧ Moved S v.ownBlock w w' ∧ J w' (V.nx s n a) ∧ ∃ v', e = .returned v' ∧ OwnN w' base v' (o ++ V.em s n a) ∧ newRow v v' w) ∨
 (V.ok s n a = false ∧ e = .panicked pan ∧ Moved S v.ownBlock w w')
def OneOk (P : Program) (K : FuncId) (caps : Array Value) {σ : Type} (V : Vis σ) (J : World → σ → Prop) (KK S : Nat → Prop) (base H : Nat) (pan : List PanicEntry) (M : Nat) : Prop :=
 ∀ (w : World) (s : σ) (v : Value) (o : List Nd) (n : Nd) (a : Int), H ≤ w.heap.size → J w s → OwnN w base v o → (∀ k, v.ownBlock = some k → ¬ KK k) → okN n = true → V.dm s n a → 0 ≤ a → a ≤ 1000000000000 → o.length + (V.em s n a).length ≤ M →
  Calls P K (#[v, .agg #[.int .i64 n.op, .int .i64 n.a, .int .i64 n.b], .int .i64 a] ++ caps) w (OnePost V J S base pan w s v o n a)
structure WkC (σ : Type) where
 H : Nat
 base : Nat
 A : Option Addr
 nn : Nat
 c : Nat
 l : List Nd
 R : Nat → Prop
 KK : Nat → Prop
 S : Nat → Prop
 fn : FuncId
 caps : Array Value
 J : World → σ → Prop
 V : Vis σ
 pan : List PanicEntry
 M : Nat
section
variable {σ : Type} (C : WkC σ)
structure WkC.Good : Prop where
 hbase : C.base ≤ C.H
 hR : ∀ b, C.R b → b < C.H ∧ ¬ C.S b
 hK : ∀ b, C.KK b → b < C.H
 hS : ∀ b, C.S b → C.KK b
 hJ : ∀ w w' s, C.J w s → (∀ k, C.KK k → w'.heap[k]? = w.heap[k]?) → C.J w' s
 hM : C.M ≤ 1000000000000
 en : ∀ args w, (callFunc C.fn args).run Try.prog w = .ok (.enter C.fn args) w
 one : OneOk Try.prog C.fn C.caps C.V C.J C.KK C.S C.base C.H C.pan C.M
def WkC.tv : Value := .func (.func 72) #[] #[.pointer (some ⟨C.H, 0, none⟩), .pointer (some ⟨C.H + 5, 0, none⟩), .pointer (some ⟨C.H + 2, 0, none⟩), .pointer (some ⟨C.H + 1, 0, none⟩), .pointer (some ⟨C.H + 6, 0, none⟩)]
structure WkC.St (w : World) (v : Value) (q : Nat) (s : σ) (o : List Nd) : Prop where
 bt : Blk w C.H 29 #[.slice C.A C.nn C.c]
 bo : Blk w (C.H + 1) 29 #[v]
 bf : Blk w (C.H + 2) 93 #[.func (.func C.fn) #[] C.caps]
 ba : Blk w (C.H + 5) 3 #[.int .i64 q]
 br : Blk w (C.H + 6) 119 #[C.tv]
 tm : TermR C.R w C.A C.nn C.c C.l
 own : OwnN w C.base v o
 j : C.J w s
 hv : ∀ g, v.ownBlock = some g → ¬ C.KK g ∧ ¬ C.R g ∧ (g < C.H ∨ C.H + 7 ≤ g)
def WkC.S' (k : Nat) : Prop := C.S k ∨ k = C.H + 1 ∨ k = C.H + 5
variable {C} {w w' : World} {v v' : Value} {q : Nat} {s s' : σ} {o o' : List Nd}
theorem WkC.St.size (h : C.St w v q s o) : C.H + 7 ≤ w.heap.size := h.br.lt
theorem WkC.St.row (h : C.St w v q s o) (g : Nat) (hg : v.ownBlock = some g) : g < w.heap.size := (ownsRow_block h.own hg).2.1
theorem WkC.St.below (hG : C.Good) (h : C.St w v q s o) (hb : Below w.heap.size w w') : C.St w' v q s o := by
 have hsz := h.size
 exact ⟨h.bt.below hb h.bt.lt, h.bo.below hb h.bo.lt, h.bf.below hb h.bf.lt, h.ba.below hb h.ba.lt, h.br.below hb h.br.lt,
  h.tm.keep fun b hR => ⟨hR, fun o => cell_of_heap (hb.block _ (by have := (hG.hR b hR).1; omega)) o⟩, h.own.below hb, hG.hJ _ _ _ h.j (fun k hk => hb.block k (by have := hG.hK k hk; omega)), h.hv⟩
theorem WkC.St.drew (hG : C.Good) (h : C.St w v q s o) : C.St w.drew v q s o :=
 ⟨h.bt, h.bo, h.bf, h.ba, h.br, h.tm.keep fun _ hR => ⟨hR, fun _ => rfl⟩, h.own, hG.hJ _ _ _ h.j (fun _ _ => rfl), h.hv⟩
theorem WkC.St.goOn (hG : C.Good) (h : C.St w v q s o) (x : Int) (p : Nat) (hx : x = p) : C.St (w.setCell ⟨C.H + 5, 0, none⟩ (.int .i64 x)) v p s o := by
 subst hx
 have hsz := h.size
 have hne : ∀ g, v.ownBlock = some g → g ≠ C.H + 5 := fun g hg => by have := (h.hv g hg).2.2; omega
 refine ⟨h.bt.far (by simp) _, h.bo.far (by simp) _, h.bf.far (by simp) _, ?_, h.br.far (by simp) _, ?_, ?_, ?_, h.hv⟩
 · have := h.ba.set_ 0 (.int .i64 p); simpa using this
 · exact h.tm.keep fun b hR => ⟨hR, fun o => cell_of_heap (Below.heap_setCell _ _ _ _ (by have := (hG.hR b hR).1; simp; omega)) o⟩
 · exact ownsRow_setCell_other h.own (fun e => hne _ e rfl) _
 exact hG.hJ _ _ _ h.j fun k hk => Below.heap_setCell _ _ _ _ (by have := hG.hK k hk; simp; omega)
theorem WkC.St.laid (hG : C.Good) (h : C.St w v q s o) (hg : w.grownBy w' v.ownBlock) (hown : OwnN w' C.base v' o') (hn : newRow v v' w) : C.St (w'.setCell ⟨C.H + 1, 0, none⟩ v') v' q s o' := by
 have hsz := h.size
 have hrow : ∀ k, (C.KK k ∨ C.R k ∨ (C.H ≤ k ∧ k < C.H + 7)) → some k ≠ v.ownBlock := fun k hk e => by
  have := h.hv k e.symm
  rcases hk with hk | hk | hk
  · exact this.1 hk
  · exact this.2.1 hk
  omega
 have hnew : ∀ g, v'.ownBlock = some g → ¬ C.KK g ∧ ¬ C.R g ∧ (g < C.H ∨ C.H + 7 ≤ g) := fun g hg => by
  rcases hn g hg with h1 | h1
  · exact h.hv g h1
  exact ⟨fun x => by have := hG.hK g x; omega, fun x => by have := (hG.hR g x).1; omega, .inr (by omega)⟩
 have hne : ∀ g, v'.ownBlock = some g → g ≠ C.H + 1 := fun g hg => by have := (hnew g hg).2.2; omega
 refine ⟨(h.bt.grown hg (hrow _ (by omega))).far (by simp) _, ?_, (h.bf.grown hg (hrow _ (by omega))).far (by simp) _, (h.ba.grown hg (hrow _ (by omega))).far (by simp) _, (h.br.grown hg (hrow _ (by omega))).far (by simp) _, ?_, ?_, ?_, hnew⟩
 · have := (h.bo.grown hg (hrow _ (by omega))).set_ 0 v'; simpa using this
 · refine h.tm.keep fun b hR => ⟨hR, fun o => ?_⟩
   have := (hG.hR b hR).1
   exact cell_of_heap ((Below.heap_setCell _ _ _ _ (by simp; omega)).trans (hg.block b (by omega) (hrow b (by simp [hR])))) o
 · exact ownsRow_setCell_other hown (fun e => hne _ e rfl) _
 refine hG.hJ _ _ _ h.j fun k hk => ?_
 have := hG.hK k hk
 exact (Below.heap_setCell _ _ _ _ (by simp; omega)).trans (hg.block k (by omega) (hrow k (by simp [hk])))
theorem WkC.St.called (hG : C.Good) (h : C.St w v q s o) (hm : Moved C.S v.ownBlock w w') (hown : OwnN w' C.base v' o') (hn : newRow v v' w) (hj : C.J w' s') : C.St (w'.setCell ⟨C.H + 1, 0, none⟩ v') v' q s' o' := by
 have hsz := h.size
 have hrow : ∀ k, (C.KK k ∨ C.R k ∨ (C.H ≤ k ∧ k < C.H + 7)) → some k ≠ v.ownBlock := fun k hk e => by
  have := h.hv k e.symm
  rcases hk with hk | hk | hk
  · exact this.1 hk
  · exact this.2.1 hk
  omega
 have hS : ∀ k, C.H ≤ k → ¬ C.S k := fun k hk hs => by have := hG.hK k (hG.hS k hs); omega
 have hnew : ∀ g, v'.ownBlock = some g → ¬ C.KK g ∧ ¬ C.R g ∧ (g < C.H ∨ C.H + 7 ≤ g) := fun g hg => by
  rcases hn g hg with h1 | h1
  · exact h.hv g h1
  exact ⟨fun x => by have := hG.hK g x; omega, fun x => by have := (hG.hR g x).1; omega, .inr (by omega)⟩
 have hne : ∀ g, v'.ownBlock = some g → g ≠ C.H + 1 := fun g hg => by have := (hnew g hg).2.2; omega
 have hk : ∀ k, (C.H ≤ k ∧ k < C.H + 7) → w'.heap[k]? = w.heap[k]? := fun k hk => hm.block k (by omega) (hS k hk.1) (hrow k (by simp [hk]))
 refine ⟨(h.bt.same (hk _ (by omega))).far (by simp) _, ?_, (h.bf.same (hk _ (by omega))).far (by simp) _, (h.ba.same (hk _ (by omega))).far (by simp) _, (h.br.same (hk _ (by omega))).far (by simp) _, ?_, ?_, ?_, hnew⟩
 · have := (h.bo.same (hk _ (by omega))).set_ 0 v'; simpa using this
 · refine h.tm.keep fun b hR => ⟨hR, fun o => ?_⟩
   have h1 := hG.hR b hR
   exact cell_of_heap ((Below.heap_setCell _ _ _ _ (by simp; omega)).trans (hm.block b (by omega) h1.2 (hrow b (by simp [hR])))) o
 · exact ownsRow_setCell_other hown (fun e => hne _ e rfl) _
 refine hG.hJ _ _ _ hj fun k hk => ?_
 have := hG.hK k hk
 exact Below.heap_setCell _ _ _ _ (by simp; omega)
theorem WkC.S_lt (hG : C.Good) {k : Nat} (hk : C.H ≤ k) : ¬ C.S k := fun hs => by have := hG.hK k (hG.hS k hs); omega
theorem WkC.St.keep (hG : C.Good) (h : C.St w v q s o) (hm : Moved C.S v.ownBlock w w') {k : Nat} (hk : C.H ≤ k) (hk' : k < C.H + 7) : w'.heap[k]? = w.heap[k]? := by
 have hsz := h.size
 exact hm.block k (by omega) (WkC.S_lt hG hk) (fun e => by have := (h.hv k e.symm).2.2; omega)
theorem WkC.St.rowKeep (_hG : C.Good) (h : C.St w v q s o) (hg : w.grownBy w' v.ownBlock) {k : Nat} (hk : (C.H ≤ k ∧ k < C.H + 7) ∨ (v.ownBlock ≠ some k ∧ k < w.heap.size)) : w'.heap[k]? = w.heap[k]? := by
 have hsz := h.size
 rcases hk with hk | hk
 · exact hg.block k (by omega) (fun e => by have := (h.hv k e.symm).2.2; omega)
 exact hg.block k hk.2 (fun e => hk.1 e.symm)
theorem WkC.S'_new (hG : C.Good) {k : Nat} (hk : C.H + 7 ≤ k) : ¬ C.S' k := fun hs => by
 rcases hs with h | h | h
 · have := hG.hK k (hG.hS k h); omega
 · omega
 omega
theorem WkC.S_S' (k : Nat) (h : C.S k) : C.S' k := .inl h
def WkC.Post (C : WkC σ) (w : World) (v : Value) (o : List Nd) (q' : Nat) (E : List Nd) (s' : σ) (g : Bool) (e : Ending) (w' : World) : Prop :=
 (g = true ∧ e = .returned (.tuple #[]) ∧ Moved C.S' v.ownBlock w w' ∧ ∃ v', C.St w' v' q' s' (o ++ E) ∧ newRow v v' w) ∨ (g = false ∧ e = .panicked C.pan ∧ Moved C.S' v.ownBlock w w')
end
end
end Go.Proofs.Ytjoddliplahgkaa
