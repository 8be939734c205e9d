/- Merged: End, Shape, TermW, Rt, Below. -/
import Derived.Test.YtjoddliplahgkaaProg
import Derived.Test.YtjoddliplahgkaaDBase
import Derived.Test.YtjoddliplahgkaaDLeafs
import Derived.WalkKit
import Derived.WalkLawsBesides
import Derived.WalkSpells
import Derived.Lib.Hide
import Derived.Deep.QuietTactic
import Derived.BigQuiet
import Derived.Test.YtjoddliplahgkaaDWalks
namespace Go.Proofs.Ytjoddliplahgkaa
open Go.Lib (hid)
set_option maxHeartbeats 2000000
set_option maxRecDepth 100000
section
open Go.RowKit
theorem end_neg {A : Option Addr} {n c : Nat} {w : World} (a : Int) (ha : a < 0) :
 Calls Try.prog 24 #[.slice A n c, .int .i64 a] w (IntPost (-1) w) := by
 go_in
 go_wp2_with fail
 go_ret
 exact ⟨rfl, Below.refl _ _⟩
theorem end_out {A : Option Addr} {n c : Nat} {w : World} (a : Int) (p : Nat) (ha : a = p) (hp : n ≤ p) (_hn : n ≤ 5864062014805) :
 Calls Try.prog 24 #[.slice A n c, .int .i64 a] w (IntPost (-1) w) := by
 subst ha
 have h0 : (0 : Int) ≤ (p : Int) := by omega
 go_in
 go_wp2_with fail
 go_ret
 exact ⟨rfl, Below.refl _ _⟩
theorem end_bad {A : Option Addr} {n c : Nat} {l : List Nd} {w : World} (h : TermV w A n c l) (a : Int) (p : Nat) (ha : a = p) (hp : p < n) (hbad : okN (nth l p) = false) :
 Calls Try.prog 24 #[.slice A n c, .int .i64 a] w (IntPost (-1) w) := by
 subst ha
 have hfew := h.few
 have h0 : (0 : Int) ≤ (p : Int) := by omega
 obtain ⟨b, off, rfl, hb, c0, c1, c2⟩ := h.at_ hp
 cases hpl : plainB (nth l p).op (nth l p).a (nth l p).b
 · clear hbad
   go_in
   go_wp2_with (go_at_call 40; refine (plain_any _ _ _ _).mono ?_; rintro e w1 ⟨rfl, hb1⟩; obtain ⟨hc1, hf1⟩ := bcell hb1)
   go_ret
   exact ⟨rfl, hb1⟩
 by_cases h3 : (nth l p).op = 3
 · have hb3 : ((nth l p).op == 3) = true := by simp [h3]
   clear h3 hbad
   go_in
   go_wp2_with (go_at_call 40; refine (plain_any _ _ _ _).mono ?_; rintro e w1 ⟨rfl, hb1⟩; obtain ⟨hc1, hf1⟩ := bcell hb1)
   go_ret
   exact ⟨rfl, hb1⟩
 have h13 : (nth l p).op = 13 := by simpa [okN, hpl, h3] using hbad
 have hb3 : ((nth l p).op == 3) = false := by simp [h3]
 have hb13 : ((nth l p).op == 13) = true := by simp [h13]
 clear h3 h13 hbad
 go_in
 go_wp2_with (go_at_call 40; refine (plain_any _ _ _ _).mono ?_; rintro e w1 ⟨rfl, hb1⟩; obtain ⟨hc1, hf1⟩ := bcell hb1)
 go_ret
 exact ⟨rfl, hb1⟩
theorem end_step {A : Option Addr} {n c : Nat} {l : List Nd} (p : Nat) (hp : p < n) (hok : okN (nth l p) = true)
 (ih : ∀ (w : World) (a : Int) (q : Nat), TermV w A n c l → a = q → p < q → Calls Try.prog 24 #[.slice A n c, .int .i64 a] w (IntPost (optI (ends [false] l q)) w))
 {w : World} (h : TermV w A n c l) :
 Calls Try.prog 24 #[.slice A n c, .int .i64 p] w (IntPost (optI (ends [false] l p)) w) := by
 have hfew := h.few
 have h0 : (0 : Int) ≤ (p : Int) := by omega
 have HI := hid ih
 clear ih
 have hpl : plainB (nth l p).op (nth l p).a (nth l p).b = true := by
  simp only [okN, Bool.and_eq_true] at hok; exact hok.1.1
 have hb3 : ((nth l p).op == 3) = false := by
  simp only [okN, Bool.and_eq_true, decide_eq_true_eq] at hok; simp [hok.1.2]
 have hb13 : ((nth l p).op == 13) = false := by
  simp only [okN, Bool.and_eq_true, decide_eq_true_eq] at hok; simp [hok.2]
 have he1 : ends [false] l p = if (nth l p).op = 2 then atEnds (nth l p).b.toNat (-1) l (p + 1) else ends (ds (nth l p)) l (p + 1) := by
  rw [ends_one (by rw [h.len]; exact hp), if_pos hok]
 have HE1 := hid he1
 have HOK := hid hok
 clear he1 hok
 obtain ⟨hb0, hb1000⟩ := plainB_b hpl
 obtain ⟨hk0, hk18⟩ := kidsI_bd hpl
 obtain ⟨b, off, rfl, hb, c0, c1, c2⟩ := h.at_ hp
 by_cases h2 : (nth l p).op = 2
 · have hb2 : ((nth l p).op == 2) = true := by simp [h2]
   have H2 := hid h2
   clear h2
   go_in
   go_wp2_with (go_at_call 40; refine (plain_any _ _ _ _).mono ?_; rintro e w1 ⟨rfl, hb1⟩; obtain ⟨hc1, hf1⟩ := bcell hb1)
   refine (atoms_any ((h.below hb1).alloc _) _ _ (p + 1) (nth l p).b.toNat (by omega) (by omega) (by omega) (by omega)).mono ?_
   rintro e w2 ⟨rfl, hb2⟩
   go_wp2
   go_ret
   refine ⟨ret_int ?_, hb1.trans ((((Below.refl _ _).alloc (Nat.le_refl _) _).trans (hb2.mono (by simp))).mono hb1.size)⟩
   rw [HE1.out, if_pos H2.out]
 have hb2 : ((nth l p).op == 2) = false := by simp [h2]
 have he2 : ends [false] l p = ends (ds (nth l p)) l (p + 1) := by rw [HE1.out, if_neg h2]
 have HE := hid he2
 clear HE1 he2 h2
 go_in
 go_wp2_with (first | (go_at_call 40; refine (plain_any _ _ _ _).mono ?_; rintro e w1 ⟨rfl, hb1⟩; obtain ⟨hc1, hf1⟩ := bcell hb1) | (go_at_call 42; refine (kids_any _ _ _ _ (by omega)).mono ?_; rintro e w2 ⟨rfl, rfl⟩))
 have h1 := (h.below hb1).alloc (.cells #[.int .i64 (nth l p).op, .int .i64 (nth l p).a, .int .i64 (nth l p).b] 50)
 go_loopw [1, 54] (fun a i wr => ∃ (q j : Nat), q ≤ n ∧ p < q ∧ (j : Int) ≤ kidsI (nth l p).op (nth l p).b ∧ a = .int .i64 q ∧ i = .int .i64 j ∧ ends (remd (nth l p) j) l q = ends (ds (nth l p)) l (p + 1) ∧ Below (w1.heap.size + 1) (w1.alloc (.cells #[.int .i64 (nth l p).op, .int .i64 (nth l p).a, .int .i64 (nth l p).b] 50)) wr) (fun _ i _ => (kidsI (nth l p).op (nth l p).b).toNat - (intOf i).toNat)
 case atStart => exact ⟨p + 1, 0, hp, by omega, hk0, by go_num, rfl, by rw [remd_zero], (Below.refl _ _).alloc (by simp) _⟩
 case round =>
  obtain ⟨q, j, hq, hpq, hj, rfl, rfl, he, hbw⟩ := hrel
  have HR := hid he
  clear he
  have hwr := h1.below (hbw.mono (by simp))
  have g0 : wr.cell? ⟨w1.heap.size, 0, none⟩ = some (.int .i64 (nth l p).op) := (hbw.cell (by simp)).trans (box_cell _ _ _ _ _ _ _ rfl)
  have hbt : ∀ w2 : World, Below wr.heap.size wr w2 → Below w.heap.size w w2 := fun _ hx => hb1.trans (((below_alloc w1 _).trans ((hbw.mono (by omega)).trans (hx.mono (by have := hbw.size; simp at this; omega)))).mono hb1.size)
  have hbt2 : ∀ w2 : World, Below wr.heap.size wr w2 → Below (w1.heap.size + 1) (w1.alloc (.cells #[.int .i64 (nth l p).op, .int .i64 (nth l p).a, .int .i64 (nth l p).b] 50)) w2 := fun _ hx => hbw.trans (hx.mono (by have := hbw.size; simp at this; omega))
  have HT := hid hbt
  have HT2 := hid hbt2
  clear hbt hbt2
  by_cases hlt : (j : Int) < kidsI (nth l p).op (nth l p).b
  rotate_left
  · have hre := remd_end (nth l p) (i := j) (by omega)
    have hno : ends (remd (nth l p) j) l q = some q := by rw [hre, ends_nil (by rw [h.len]; exact hq)]
    have HNO := hid hno
    clear hno hre
    go_wp2_with fail
    go_ret
    refine ⟨ret_int ?_, HT.out _ (Below.refl _ _)⟩
    rw [HE.out, ← HR.out, HNO.out]
    rfl
  by_cases h12 : (nth l p).op = 12
  · have hb12 : ((nth l p).op == 12) = true := by simp [h12]
    have hjb : (j : Int) < (nth l p).b := by simpa [kidsI, h12] using hlt
    have hre := remd_fix h12 hjb
    have HRE := hid hre
    clear hre h12 hjb
    by_cases hqn : q < n
    rotate_left
    · have hno : ends (remd (nth l p) j) l q = none := by rw [HRE.out, ends_out _ _ (by rw [h.len]; omega)]
      have HNO := hid hno
      clear hno
      go_wp2_with fail
      go_ret
      refine ⟨ret_int ?_, HT.out _ (Below.refl _ _)⟩
      rw [HE.out, ← HR.out, HNO.out]
      rfl
    have hef : ends (remd (nth l p) j) l q = if okF (nth l q) then ends (false :: false :: remd (nth l p) (j + 1)) l (q + 1) else none := by
     rw [HRE.out, ends_fun _ (by rw [h.len]; exact hqn)]
    obtain ⟨hbr, d0, d1, d2⟩ := hwr.cells hqn
    cases hf : okF (nth l q)
    · have hno : ends (remd (nth l p) j) l q = none := by rw [hef, hf]; rfl
      have HNO := hid hno
      clear hno hef
      by_cases h13 : (nth l q).op = 13
      · have hpf : plainB (nth l q).op (nth l q).a (nth l q).b = false := by simpa [okF, h13] using hf
        have hq13 : ((nth l q).op != 13) = false := by simp [h13]
        clear h13 hf
        go_wp2_with (go_at_call 40; refine (plain_any _ _ _ _).mono ?_; rintro e w2 ⟨rfl, hb2⟩; obtain ⟨hc2, hf2⟩ := bcell hb2)
        go_ret
        refine ⟨ret_int ?_, HT.out _ hb2⟩
        rw [HE.out, ← HR.out, HNO.out]
        rfl
      have hq13 : ((nth l q).op != 13) = true := by simp [h13]
      clear h13 hf
      go_wp2_with fail
      go_ret
      refine ⟨ret_int ?_, HT.out _ (Below.refl _ _)⟩
      rw [HE.out, ← HR.out, HNO.out]
      rfl
    have hpf : plainB (nth l q).op (nth l q).a (nth l q).b = true := by
     simp only [okF, Bool.and_eq_true] at hf; exact hf.1
    have hq13 : ((nth l q).op != 13) = false := by
     simp only [okF, Bool.and_eq_true, decide_eq_true_eq] at hf; simp [hf.2]
    have hgo : ends (remd (nth l p) j) l q = (ends [false] l (q + 1)).bind fun q1 => (ends [false] l q1).bind (ends (remd (nth l p) (j + 1)) l) := by
     rw [hef, if_pos hf, ends_cons false _ (by rw [h.len]; omega)]
     refine Option.bind_congr fun q1 hq1 => ?_
     rw [ends_cons false _ (ends_bd hq1 (by rw [h.len]; omega)).2.1]
    have HGO := hid hgo
    clear hgo hef hf
    go_wp2_with (go_at_call 40; refine (plain_any _ _ _ _).mono ?_; rintro e w2 ⟨rfl, hb2⟩; obtain ⟨hc2, hf2⟩ := bcell hb2)
    have hw2 := hwr.below hb2
    refine (HI.out w2 _ (q + 1) hw2 (by omega) (by omega)).mono ?_
    rintro e w3 ⟨rfl, hb3'⟩
    have hw3 := hw2.below hb3'
    cases hq1 : ends [false] l (q + 1) with
    | none =>
     have hno : ends (remd (nth l p) j) l q = none := by rw [HGO.out, hq1]; rfl
     have HNO := hid hno
     clear hno hq1
     simp only [optI]
     go_wp2_with fail
     refine (end_neg (w := w3) _ (by omega)).mono ?_
     rintro e w4 ⟨rfl, hb4⟩
     go_wp2_with fail
     go_ret
     refine ⟨ret_int ?_, HT.out _ (hb2.trans ((hb3'.trans (hb4.mono hb3'.size)).mono hb2.size))⟩
     rw [HE.out, ← HR.out, HNO.out]
     rfl
    | some q1 =>
     obtain ⟨hq1a, hq1b, hq1c⟩ := ends_bd hq1 (by rw [h.len]; omega)
     rw [h.len] at hq1b
     have hgo2 : ends (remd (nth l p) j) l q = (ends [false] l q1).bind (ends (remd (nth l p) (j + 1)) l) := by rw [HGO.out, hq1]; rfl
     have HGO2 := hid hgo2
     clear hgo2 hq1 hq1c
     simp only [optI]
     go_wp2_with fail
     refine (HI.out w3 _ q1 hw3 rfl (by omega)).mono ?_
     rintro e w4 ⟨rfl, hb4⟩
     have hb24 : Below wr.heap.size wr w4 := hb2.trans ((hb3'.trans (hb4.mono hb3'.size)).mono hb2.size)
     cases hq2 : ends [false] l q1 with
     | none =>
      have hno : ends (remd (nth l p) j) l q = none := by rw [HGO2.out, hq2]; rfl
      have HNO := hid hno
      clear hno hq2
      simp only [optI]
      go_wp2_with fail
      go_ret
      refine ⟨ret_int ?_, HT.out _ hb24⟩
      rw [HE.out, ← HR.out, HNO.out]
      rfl
     | some q2 =>
      obtain ⟨hq2a, hq2b, hq2c⟩ := ends_bd hq2 (by rw [h.len]; omega)
      rw [h.len] at hq2b
      have hgo3 : ends (remd (nth l p) j) l q = ends (remd (nth l p) (j + 1)) l q2 := by rw [HGO2.out, hq2]; rfl
      have HGO3 := hid hgo3
      clear hgo3 hq2 hq2c
      simp only [optI]
      have hq20 : (0 : Int) ≤ (q2 : Int) := by omega
      go_wp2_with fail
      go_roundw
      case rel => exact ⟨q2, j + 1, hq2b, by omega, by omega, rfl, by go_num, by rw [← HGO3.out, HR.out], HT2.out _ hb24⟩
      case measure => simp [intOf]; omega
  have hb12 : ((nth l p).op == 12) = false := by simp [h12]
  have hre := remd_one h12 hlt
  have hgo : ends (remd (nth l p) j) l q = (ends [false] l q).bind (ends (remd (nth l p) (j + 1)) l) := by
   rw [hre, ends_cons false _ (by rw [h.len]; omega)]
  have HGO := hid hgo
  clear hre hgo h12
  go_wp2_with fail
  refine (HI.out wr _ q hwr rfl (by omega)).mono ?_
  rintro e w4 ⟨rfl, hb4⟩
  cases hq2 : ends [false] l q with
  | none =>
   have hno : ends (remd (nth l p) j) l q = none := by rw [HGO.out, hq2]; rfl
   have HNO := hid hno
   clear hno hq2
   simp only [optI]
   go_wp2_with fail
   go_ret
   refine ⟨ret_int ?_, HT.out _ hb4⟩
   rw [HE.out, ← HR.out, HNO.out]
   rfl
  | some q2 =>
   obtain ⟨hq2a, hq2b, hq2c⟩ := ends_bd hq2 (by rw [h.len]; omega)
   rw [h.len] at hq2b
   have hgo3 : ends (remd (nth l p) j) l q = ends (remd (nth l p) (j + 1)) l q2 := by rw [HGO.out, hq2]; rfl
   have HGO3 := hid hgo3
   clear hgo3 hq2 hq2c
   simp only [optI]
   have hq20 : (0 : Int) ≤ (q2 : Int) := by omega
   go_wp2_with fail
   go_roundw
   case rel => exact ⟨q2, j + 1, hq2b, by omega, by omega, rfl, by go_num, by rw [← HGO3.out, HR.out], HT2.out _ hb4⟩
   case measure => simp [intOf]; omega
theorem end_nat {A : Option Addr} {n c : Nat} {l : List Nd} : ∀ (m : Nat) (w : World) (a : Int) (p : Nat), TermV w A n c l → a = p → n ≤ p + m →
 Calls Try.prog 24 #[.slice A n c, .int .i64 a] w (IntPost (optI (ends [false] l p)) w) := by
 intro m
 induction m with
 | zero =>
  intro w a p h ha hm
  rw [ends_out _ _ (by rw [h.len]; omega)]
  exact end_out a p ha (by omega) h.few
 | succ m ih =>
  intro w a p h ha hm
  by_cases hp : p < n
  · cases hok : okN (nth l p)
    · have : ends [false] l p = none := by rw [ends_one (by rw [h.len]; exact hp), hok]; rfl
      rw [this]
      exact end_bad h a p ha hp hok
    subst ha
    exact end_step p hp hok (fun w a q h ha hq => ih w a q h ha (by omega)) h
  · rw [ends_out _ _ (by rw [h.len]; omega)]
    exact end_out a p ha (by omega) h.few
theorem end_any {A : Option Addr} {n c : Nat} {l : List Nd} {w : World} (h : TermV w A n c l) (a : Int) :
 Calls Try.prog 24 #[.slice A n c, .int .i64 a] w (IntPost (endI l a) w) := by
 by_cases h0 : 0 ≤ a
 · obtain ⟨p, rfl⟩ := Int.eq_ofNat_of_zero_le h0
   rw [endI_nat]
   exact end_nat n w p p h rfl (by omega)
 have : endI l a = -1 := by simp only [endI]; rw [if_neg (by omega)]
 rw [this]
 exact end_neg a (by omega)
end
section
open Go.RowKit
def shapeI (l : List Nd) : Int := if 4096 < l.length then 9 else if endI l 0 = l.length then 0 else 8
theorem shape_any {A : Option Addr} {nn c : Nat} {l : List Nd} {w : World} (h : TermV w A nn c l) :
 Calls Try.prog 13 #[.slice A nn c] w (IntPost (shapeI l) w) := by
 have hfew := h.few
 have hlen := h.len
 by_cases h1 : 4096 < nn
 · have hs : shapeI l = 9 := by unfold shapeI; rw [if_pos (by omega)]
   have HS := hid hs
   have h1b : (4096 : Int) < (nn : Int) := by omega
   clear hs hlen
   go_in
   go_wp2_with fail
   go_ret
   exact ⟨ret_int HS.out.symm, Below.refl _ _⟩
 have h1b : decide ((4096 : Int) < (nn : Int)) = false := by simp; omega
 by_cases h2 : endI l 0 = nn
 · have hs : shapeI l = 0 := by unfold shapeI; rw [if_neg (by omega), if_pos (by omega)]
   have HS := hid hs
   have h2b : (endI l 0 != (nn : Int)) = false := by simp [h2]
   clear hs hlen h2
   go_in
   go_wp2_with (go_at_call 24; refine (end_any h 0).mono ?_; rintro e w2 ⟨rfl, hb2⟩)
   go_ret
   exact ⟨ret_int HS.out.symm, hb2⟩
 have hs : shapeI l = 8 := by unfold shapeI; rw [if_neg (by omega), if_neg (by omega)]
 have HS := hid hs
 have h2b : (endI l 0 != (nn : Int)) = true := by simp [h2]
 clear hs hlen h2
 go_in
 go_wp2_with (go_at_call 24; refine (end_any h 0).mono ?_; rintro e w2 ⟨rfl, hb2⟩)
 go_ret
 exact ⟨ret_int HS.out.symm, hb2⟩
theorem fsize_le_row : ∀ (F : Fo), fsize F ≤ (row F).length
 | .nil => Nat.le_refl _
 | .cons p n a k x => by
  have h1 := fsize_le_row k
  have h2 := fsize_le_row x
  simp only [fsize, row, List.length_append, List.length_cons]
  omega
theorem shape_ok {l : List Nd} (h : shapeI l = 0) : l.length ≤ 4096 ∧ ∃ n ats k, pp [false] l = some (.cons [] n ats k .nil, []) ∧ l = n :: (ats ++ row k) ∧ fsize k ≤ 4096 := by
 unfold shapeI at h
 split at h
 · cases h
 split at h
 · rename_i h1 h2
   refine ⟨by omega, ?_⟩
   unfold endI at h2
   split at h2
   rotate_left
   · omega
   rename_i h3
   split at h2
   rotate_left
   · omega
   rename_i q hq
   simp only [ends, Option.map_eq_some_iff, Int.toNat_zero, List.drop_zero] at hq
   obtain ⟨x, hx, hxl⟩ := hq
   obtain ⟨n, ats, k, hn⟩ := pp_one hx
   have hr := pp_row hx
   have hrl := congrArg List.length hr
   rw [List.length_append] at hrl
   have h0 : x.2 = [] := List.eq_nil_of_length_eq_zero (by omega)
   obtain ⟨x1, x2⟩ := x
   simp only at hn h0 hr hx
   subst hn h0
   have hl : l = n :: (ats ++ row k) := by simpa [row] using hr
   refine ⟨n, ats, k, hx, hl, ?_⟩
   have h5 := fsize_le_row k
   have h6 := congrArg List.length hl
   simp only [List.length_cons, List.length_append] at h6
   omega
 cases h
def liftT (l : List Nd) (up fr : Int) : List Nd × Int :=
 match pp [false] l with
 | some (.cons _ n ats k _, _) => if (raV up (min fr 1048577)).G1 0 () n k = true then ((raV up (min fr 1048577)).E1 0 () n ats k, 0) else ([], 6)
 | _ => ([], 0)
def liftR (l : List Nd) (up fr : Int) : List Nd × Int := if shapeI l = 0 then (if up < 0 ∨ fr < 0 then ([], 1) else liftT l up fr) else ([], shapeI l)
theorem raV_len (up fr : Int) (pop pb : Int) : ∀ (j : Nat) (a : Int) (F : Fo), ((raV up fr).E pop pb j a () F).length = (row F).length
 | _, _, .nil => rfl
 | j, a, .cons p n at' k x => by
  rw [Vis.E_cons, Vis.E1]
  have h1 := raV_len up fr n.op n.b 0 (a + aroundI pop pb j) k
  have h2 := raV_len up fr pop pb (j + 1) a x
  have h3 : ((raV up fr).em () n (a + aroundI pop pb j)).length = 1 := by
   simp only [raV]; split <;> rfl
  simp only [List.length_append, row, List.length_cons]
  have e : ∀ s : Unit, s = () := fun _ => rfl
  rw [e ((raV up fr).nx () n (a + aroundI pop pb j)), e ((raV up fr).S1 (a + aroundI pop pb j) () n k), h1, h2, h3]
  omega
theorem raV_len1 (up fr : Int) (a : Int) (n : Nd) (ats : List Nd) (k : Fo) : ((raV up fr).E1 a () n ats k).length = (n :: (ats ++ row k)).length := by
 have h3 : ((raV up fr).em () n a).length = 1 := by simp only [raV]; split <;> rfl
 have e : ∀ s : Unit, s = () := fun _ => rfl
 rw [Vis.E1, List.length_append, List.length_append, h3, e ((raV up fr).nx () n a), raV_len]
 simp only [List.length_cons, List.length_append]; omega
def RowErr (r : List Nd × Int) (w : World) (e : Ending) (w' : World) : Prop := Below w.heap.size w w' ∧ ∃ A n c, e = .returned (.tuple #[.slice A n c, .int .i64 r.2]) ∧ OwnN w' w.heap.size (.slice A n c) r.1
theorem row_err_nil {r : List Nd × Int} {x : Int} {w w' : World} (hb : Below w.heap.size w w') (hr : r = ([], x)) : RowErr r w (.returned (.tuple #[.slice none 0 0, .int .i64 x])) w' := by
 subst hr
 exact ⟨hb, _, _, _, rfl, OwnN.nil _ _⟩
theorem lift_end' {r : List Nd × Int} {w w2 w' : World} {A : Option Addr} {m c : Nat} {l : List Nd} (hb : Below w.heap.size w w2) (hm : Moved (fun _ => False) (Value.slice none ([] : List Nd).length 0).ownBlock w2 w') (hr : r = (l, 0)) (hown : OwnN w' w.heap.size (.slice A m c) ([] ++ l)) : RowErr r w (.returned (.tuple #[.slice A m c, .int .i64 0])) w' := by
 subst hr
 exact ⟨hb.trans (hm.to_below hb.size (fun _ h => h.elim) (fun g hg => by simp [Value.ownBlock] at hg)), _, _, _, rfl, hown⟩
theorem lift_any {A : Option Addr} {nn c : Nat} {l : List Nd} {w : World} (h : TermV w A nn c l) (up fr : Int) (hup : up ≤ 9223372036854775807) :
 Calls Try.prog 85 #[.slice A nn c, .int .i64 up, .int .i64 fr] w (RowErr (liftR l up fr) w) := by
 by_cases hs : shapeI l = 0
 rotate_left
 · have hr : liftR l up fr = ([], shapeI l) := by unfold liftR; rw [if_neg hs]
   have hsb : (shapeI l != 0) = true := by simp [hs]
   have HR := hid hr
   have HS := hid hs
   clear hr hs
   go_in
   go_wp2_with (go_at_call 13; refine (shape_any h).mono ?_; rintro e w2 ⟨rfl, hb2⟩)
   go_ret2
   exact row_err_nil hb2 HR.out
 obtain ⟨hl, n, ats, k, hpp, hrow, hfs⟩ := shape_ok hs
 have hsb : (shapeI l != 0) = false := by simp [hs]
 by_cases h1 : up < 0
 · have hr : liftR l up fr = ([], 1) := by unfold liftR; rw [if_pos hs, if_pos (.inl h1)]
   have HR := hid hr
   have HS := hid hs
   clear hr hs hpp hrow
   go_in
   go_wp2_with (go_at_call 13; refine (shape_any h).mono ?_; rintro e w2 ⟨rfl, hb2⟩)
   go_ret2
   exact row_err_nil hb2 HR.out
 by_cases h2 : fr < 0
 · have hr : liftR l up fr = ([], 1) := by unfold liftR; rw [if_pos hs, if_pos (.inr h2)]
   have h1b : decide (up < 0) = false := by simp; omega
   have HR := hid hr
   have HS := hid hs
   clear hr hs hpp hrow h1
   go_in
   go_wp2_with (go_at_call 13; refine (shape_any h).mono ?_; rintro e w2 ⟨rfl, hb2⟩)
   go_ret2
   exact row_err_nil hb2 HR.out
 have h1b : decide (up < 0) = false := by simp; omega
 have h2b : decide (fr < 0) = false := by simp; omega
 have hup0 : 0 ≤ up := by omega
 have hfr0 : 0 ≤ fr := by omega
 have hr : liftR l up fr = liftT l up fr := by unfold liftR; rw [if_pos hs, if_neg (by omega)]
 have hlt : liftT l up fr = if (raV up (min fr 1048577)).G1 0 () n k = true then ((raV up (min fr 1048577)).E1 0 () n ats k, 0) else ([], 6) := by unfold liftT; rw [hpp]
 have hlen : ∀ f, ((raV up f).E1 0 () n ats k).length ≤ 1000000000000 := fun f => by rw [raV_len1, ← hrow]; omega
 have HR := hid (hr.trans hlt)
 have HS := hid hs
 have HPP := hid hpp
 have HLEN := hid hlen
 have H := hid h
 clear hr hs hpp hrow hlt h1 h2 hlen
 by_cases hm : fr ≤ 1048577
 · have hmf : min fr 1048577 = fr := by omega
   have HR2 := HR.out
   rw [hmf] at HR2
   have HR3 := hid HR2
   clear HR2 hmf
   go_in
   go_wp2_with (go_at_call 13; refine (shape_any H.out).mono ?_; rintro e w2 ⟨rfl, hb2⟩)
   refine (raised_any (base := w.heap.size) (R := (· < w.heap.size)) hb2.size (fun b hb => Nat.lt_of_lt_of_le hb hb2.size) (H.out.keep fun b hb => ⟨hb, fun o => cell_of_heap (hb2.block b hb) o⟩) (OwnN.nil _ _) (fun g hg => by simp [Value.ownBlock] at hg) HPP.out (by omega) (by simpa using HLEN.out fr) hup0 hup hfr0 (by omega)).mono ?_
   rintro e w3 ⟨hm3, (⟨hg, v', rfl, hown, hnr⟩ | ⟨hg, rfl⟩)⟩
   · obtain ⟨A', c', rfl⟩ := hown.slice
     have HOWN := hid hown
     have HG := hid hg
     clear hown hg
     go_wp2_with fail
     go_ret2
     exact lift_end' hb2 hm3 (by rw [HR3.out, if_pos HG.out]) HOWN.out
   have HG := hid hg
   clear hg
   go_wp2_with fail
   go_ret2
   exact row_err_nil (hb2.trans (hm3.to_below hb2.size (fun _ h => h.elim) (fun g hg => by simp [Value.ownBlock] at hg))) (by rw [HR3.out, if_neg (by rw [HG.out]; simp)])
 have hmf : min fr 1048577 = 1048577 := by omega
 have hm' : 1048577 < fr := by omega
 have HR2 := HR.out
 rw [hmf] at HR2
 have HR3 := hid HR2
 clear HR2 hmf hm
 go_in
 go_wp2_with (go_at_call 13; refine (shape_any H.out).mono ?_; rintro e w2 ⟨rfl, hb2⟩)
 refine (raised_any (base := w.heap.size) (R := (· < w.heap.size)) hb2.size (fun b hb => Nat.lt_of_lt_of_le hb hb2.size) (H.out.keep fun b hb => ⟨hb, fun o => cell_of_heap (hb2.block b hb) o⟩) (OwnN.nil _ _) (fun g hg => by simp [Value.ownBlock] at hg) HPP.out (by omega) (by simpa using HLEN.out 1048577) hup0 hup (by omega) (by omega)).mono ?_
 rintro e w3 ⟨hm3, (⟨hg, v', rfl, hown, hnr⟩ | ⟨hg, rfl⟩)⟩
 · obtain ⟨A', c', rfl⟩ := hown.slice
   have HOWN := hid hown
   have HG := hid hg
   clear hown hg
   go_wp2_with fail
   go_ret2
   exact lift_end' hb2 hm3 (by rw [HR3.out, if_pos HG.out]) HOWN.out
 have HG := hid hg
 clear hg
 go_wp2_with fail
 go_ret2
 exact row_err_nil (hb2.trans (hm3.to_below hb2.size (fun _ h => h.elim) (fun g hg => by simp [Value.ownBlock] at hg))) (by rw [HR3.out, if_neg (by rw [HG.out]; simp)])
end
section
open Go.RowKit
def AtOk (n : Nd) (ats : List Nd) : Prop := if n.op = 2 then takeAtoms n.b.toNat (-1) ats = some (ats, []) else ats = []
def Wf : List Bool → Fo → Prop
 | [], .nil => True
 | d :: dr, .cons p n ats k x => (match d with | false => p = [] | true => ∃ f, p = [f] ∧ okF f = true) ∧ okN n = true ∧ AtOk n ats ∧ Wf (ds n) k ∧ Wf dr x
 | _, _ => False
theorem takeAtoms_more : ∀ (k : Nat) (last : Int) (l m rest : List Nd), takeAtoms k last l = some (m, []) → takeAtoms k last (l ++ rest) = some (m, rest)
 | 0, _, l, m, rest, h => by
  simp only [takeAtoms, Option.some.injEq, Prod.mk.injEq] at h
  obtain ⟨rfl, rfl⟩ := h
  simp [takeAtoms]
 | k + 1, last, [], m, rest, h => by simp [takeAtoms] at h
 | k + 1, last, x :: l, m, rest, h => by
  simp only [takeAtoms, List.cons_append] at h ⊢
  split at h
  · rename_i hc
    rw [if_pos hc]
    simp only [Option.map_eq_some_iff, Prod.mk.injEq] at h ⊢
    obtain ⟨q, hq, rfl, hq2⟩ := h
    obtain ⟨q1, q2⟩ := q
    simp only at hq2
    subst hq2
    exact ⟨_, takeAtoms_more k x.a l q1 rest hq, rfl, rfl⟩
  · cases h
theorem takeAtoms_less : ∀ (k : Nat) (last : Int) (l : List Nd) (p : List Nd × List Nd), takeAtoms k last l = some p → takeAtoms k last p.1 = some (p.1, [])
 | 0, _, l, p, h => by
  simp only [takeAtoms, Option.some.injEq] at h
  subst h; rfl
 | k + 1, last, [], p, h => by simp [takeAtoms] at h
 | k + 1, last, x :: l, p, h => by
  simp only [takeAtoms] at h
  split at h
  · rename_i hc
    simp only [Option.map_eq_some_iff] at h
    obtain ⟨q, hq, rfl⟩ := h
    simp only [takeAtoms]
    rw [if_pos hc, takeAtoms_less k x.a l q hq]
    rfl
  · cases h
theorem atoms_wf {n : Nd} {l : List Nd} {q : List Nd × List Nd} (h : atomsOf n l = some q) : AtOk n q.1 := by
 unfold atomsOf at h
 unfold AtOk
 split at h
 · rename_i h2
   rw [if_pos h2]
   exact takeAtoms_less _ _ _ _ h
 rename_i h2
 rw [if_neg h2]
 simp only [Option.some.injEq] at h
 subst h; rfl
theorem atoms_of {n : Nd} {ats : List Nd} (h : AtOk n ats) (rest : List Nd) : atomsOf n (ats ++ rest) = some (ats, rest) := by
 unfold AtOk at h
 unfold atomsOf
 split at h
 · rename_i h2
   rw [if_pos h2]
   exact takeAtoms_more _ _ _ _ _ h
 rename_i h2
 rw [if_neg h2, h]; rfl
theorem pp_of_wf : ∀ (F : Fo) (dl : List Bool) (rest : List Nd), Wf dl F → pp dl (row F ++ rest) = some (F, rest)
 | .nil, [], rest, _ => by rw [pp_nil]; rfl
 | .nil, _ :: _, _, h => h.elim
 | .cons _ _ _ _ _, [], _, h => h.elim
 | .cons p n ats k x, d :: dr, rest, h => by
  obtain ⟨hp, hok, hat, hk, hx⟩ := h
  have e : row (.cons p n ats k x) ++ rest = p ++ (n :: (ats ++ (row k ++ (row x ++ rest)))) := by simp [row]
  have hpre : preOf d (p ++ (n :: (ats ++ (row k ++ (row x ++ rest))))) = some (p, n :: (ats ++ (row k ++ (row x ++ rest)))) := by
   cases d with
   | false => simp only at hp; subst hp; rfl
   | true =>
    obtain ⟨f, rfl, hf⟩ := hp
    simp only [List.cons_append, List.nil_append, preOf, hf, if_true]
  rw [e, pp_cons, hpre]
  simp only [Option.bind_some, hok, if_true, atoms_of hat]
  rw [pp_of_wf k (ds n) _ hk]
  simp only [Option.bind_some]
  rw [pp_of_wf x dr rest hx]
  rfl
theorem wf_of_pars : ∀ (f : Nat) (dl : List Bool) (l : List Nd) (x : Fo × List Nd), pars f dl l = some x → Wf dl x.1
 | 0, _, _, _, h => by simp [pars] at h
 | _ + 1, [], l, x, h => by simp only [pars, Option.some.injEq] at h; subst h; trivial
 | f + 1, d :: dr, l, x, h => by
  simp only [pars, Option.bind_eq_some_iff] at h
  obtain ⟨p, hp, h⟩ := h
  split at h
  · cases h
  · split at h
    · rename_i hok
      simp only [Option.bind_eq_some_iff] at h
      obtain ⟨q, hq, k, hk, y, hy, h⟩ := h
      simp only [Option.some.injEq] at h
      subst h
      refine ⟨?_, hok, atoms_wf hq, wf_of_pars f _ _ _ hk, wf_of_pars f _ _ _ hy⟩
      cases d with
      | false => simp only [preOf, Option.some.injEq] at hp; subst hp; rfl
      | true =>
       cases l with
       | nil => simp [preOf] at hp
       | cons z l =>
        simp only [preOf] at hp
        split at hp
        · rename_i hz
          simp only [Option.some.injEq] at hp
          subst hp
          exact ⟨z, rfl, hz⟩
        · cases hp
    cases h
theorem wf_of_pp {dl : List Bool} {l : List Nd} {x : Fo × List Nd} (h : pp dl l = some x) : Wf dl x.1 := wf_of_pars _ _ _ _ h
theorem shape_of_pp {l : List Nd} {x : Fo} (h : pp [false] l = some (x, [])) (hl : l.length ≤ 4096) : shapeI l = 0 := by
 have h0 := pp_lt h (by simp)
 simp only [List.length_nil] at h0
 have he : endI l 0 = l.length := by
  unfold endI
  rw [if_pos (by omega)]
  have : ends [false] l 0 = some l.length := by
   unfold ends
   rw [List.drop_zero, h]; rfl
  simp only [Int.toNat_zero, this]
 unfold shapeI
 rw [if_neg (by omega), if_pos he]
end
section
open Go.RowKit
structure Rt (t : List Nd) (n : Nd) (a : List Nd) (k : Fo) : Prop where
 pp : pp [false] t = some (.cons [] n a k .nil, [])
 few : t.length ≤ 4096
theorem rt_of {t : List Nd} (h : shapeI t = 0) : ∃ n a k, Rt t n a k := by
 obtain ⟨h1, n, a, k, h2, _, _⟩ := shape_ok h
 exact ⟨n, a, k, h2, h1⟩
theorem Rt.shape {t : List Nd} {n : Nd} {a : List Nd} {k : Fo} (h : Rt t n a k) : shapeI t = 0 := shape_of_pp h.pp h.few
theorem Rt.eq {t : List Nd} {n : Nd} {a : List Nd} {k : Fo} (h : Rt t n a k) : t = n :: (a ++ row k) := by
 have := pp_row h.pp
 simpa [row] using this
theorem Rt.wf {t : List Nd} {n : Nd} {a : List Nd} {k : Fo} (h : Rt t n a k) : okN n = true ∧ AtOk n a ∧ Wf (ds n) k := by
 obtain ⟨_, h1, h2, h3, _⟩ := wf_of_pp h.pp
 exact ⟨h1, h2, h3⟩
theorem rt_make {n : Nd} {a : List Nd} {k : Fo} (h1 : okN n = true) (h2 : AtOk n a) (h3 : Wf (ds n) k) (hl : (n :: (a ++ row k)).length ≤ 4096) : Rt (n :: (a ++ row k)) n a k := by
 refine ⟨?_, hl⟩
 have := pp_of_wf (.cons [] n a k .nil) [false] [] ⟨rfl, h1, h2, h3, trivial⟩
 simpa [row] using this
theorem app_node {n : Nd} (h : okN n = true) (h6 : n.op = 6) : n = ⟨6, 0, 0⟩ := by
 obtain ⟨op, a, b⟩ := n
 simp only at h6
 subst h6
 simp only [okN, Bool.and_eq_true] at h
 have h1 := plainB_iff.1 h.1.1
 obtain ⟨rfl, rfl⟩ : a = 0 ∧ b = 0 := by omega
 rfl
structure AppS (t : List Nd) (n1 : Nd) (a1 : List Nd) (k1 : Fo) (n2 : Nd) (a2 : List Nd) (k2 : Fo) : Prop where
 fst : Rt (n1 :: (a1 ++ row k1)) n1 a1 k1
 snd : Rt (n2 :: (a2 ++ row k2)) n2 a2 k2
 eq : t = ⟨6, 0, 0⟩ :: ((n1 :: (a1 ++ row k1)) ++ (n2 :: (a2 ++ row k2)))
 end_ : endI t 1 = ((1 + (n1 :: (a1 ++ row k1)).length : Nat) : Int)
theorem app_split {t : List Nd} {n : Nd} {a : List Nd} {k : Fo} (h : Rt t n a k) (h6 : n.op = 6) : ∃ n1 a1 k1 n2 a2 k2, k = .cons [] n1 a1 k1 (.cons [] n2 a2 k2 .nil) ∧ AppS t n1 a1 k1 n2 a2 k2 := by
 obtain ⟨hok, hat, hw⟩ := h.wf
 have hrow := h.eq
 have hn := app_node hok h6
 have ha : a = [] := by
  unfold AtOk at hat
  rwa [if_neg (by omega)] at hat
 have hds : ds n = [false, false] := by rw [hn]; rfl
 rw [hds] at hw
 match k, hw with
 | .cons p1 n1 a1 k1 (.cons p2 n2 a2 k2 .nil), hw =>
  obtain ⟨hp1, o1, t1, w1, hp2, o2, t2, w2, _⟩ := hw
  simp only at hp1 hp2
  subst hp1 hp2
  have hr : t = ⟨6, 0, 0⟩ :: ((n1 :: (a1 ++ row k1)) ++ (n2 :: (a2 ++ row k2))) := by
   rw [hrow, ha, hn]
   simp [row]
  have hl := h.few
  rw [hr] at hl
  simp only [List.length_cons, List.length_append] at hl
  have f1 := rt_make o1 t1 w1 (by simp; omega)
  have f2 := rt_make o2 t2 w2 (by simp; omega)
  refine ⟨n1, a1, k1, n2, a2, k2, rfl, f1, f2, hr, ?_⟩
  have he := endI_nat t 1
  rw [show ((1 : Nat) : Int) = 1 from rfl] at he
  rw [he]
  have hpp := pp_of_wf (.cons [] n1 a1 k1 .nil) [false] (n2 :: (a2 ++ row k2)) ⟨rfl, o1, t1, w1, trivial⟩
  have hd : t.drop 1 = row (.cons [] n1 a1 k1 .nil) ++ (n2 :: (a2 ++ row k2)) := by rw [hr]; simp [row]
  unfold ends
  rw [hd, hpp]
  simp only [Option.map_some, optI]
  rw [hr]
  simp only [List.length_cons, List.length_append]
  omega
end
section
open Go.RowKit
def exM (p : Int → Int → Bool) : Met Unit := { an := fun _ v a => p v a, nx := fun _ _ _ => () }
def boxJ (pb : Nat) (x : Int) (w : World) (_ : Unit) : Prop := Blk w pb 3 #[.int .i64 x]
theorem below1_ok {pb H : Nat} {x : Int} (hpb : pb < H) : MetOk Try.prog 91 #[.pointer (some ⟨pb, 0, none⟩)] (exM fun v a => decide (max x 0 ≤ v - a)) (boxJ pb x) (fun _ => False) H := by
 intro w t v a hH hj hv0 hv1 ha0 ha1
 have cb := Blk.cell hj
 have hl : pb < w.heap.size := by omega
 have HJ := hid hj
 clear hj
 show Calls Try.prog 91 #[.int .i64 v, .int .i64 a, .pointer (some ⟨pb, 0, none⟩)] w _
 go_in
 go_wp2_with fail
 all_goals
  go_ret
  refine ⟨ret_bool ?_, Moved.refl _ _ _, HJ.out⟩
  simp only [exM]
  rw [decide_eq_decide]
  omega
def exF (p : Int → Int → Bool) (pop pb : Int) : Nat → Int → Fo → Bool
 | _, _, .nil => false
 | j, a, .cons _ n _ k x => ((decide (n.op = 1) && p n.a (a + aroundI pop pb j)) || exF p n.op n.b 0 (a + aroundI pop pb j) k) || exF p pop pb (j + 1) a x
def exT (p : Int → Int → Bool) (a : Int) (n : Nd) (k : Fo) : Bool := (decide (n.op = 1) && p n.a a) || exF p n.op n.b 0 a k
theorem exF_cons (p : Int → Int → Bool) (pop pb : Int) (j : Nat) (a : Int) (pre : List Nd) (n : Nd) (ats : List Nd) (k x : Fo) : exF p pop pb j a (.cons pre n ats k x) = (exT p (a + aroundI pop pb j) n k || exF p pop pb (j + 1) a x) := rfl
theorem exM_nx (p : Int → Int → Bool) (f : Bool) (n : Nd) (a : Int) : (eaV (exM p)).nx (f, ()) n a = ((f || (decide (n.op = 1) && p n.a a)), ()) := by
 simp only [eaV, exM]
 cases f
 · by_cases h : n.op = 1 <;> simp [h]
 simp
theorem exM_S (p : Int → Int → Bool) (pop pb : Int) : ∀ (j : Nat) (a : Int) (f : Bool) (F : Fo), (eaV (exM p)).S pop pb j a (f, ()) F = ((f || exF p pop pb j a F), ())
 | _, _, _, .nil => by simp [Vis.S, exF]
 | j, a, f, .cons pre n ats k x => by
  rw [Vis.S_cons, Vis.S1, exM_nx, exM_S p n.op n.b 0 _ _ k, exM_S p pop pb (j + 1) a _ x, exF_cons, exT]
  simp only [Bool.or_assoc]
theorem eachR_ex (p : Int → Int → Bool) (n : Nd) (k : Fo) : (eachR (exM p) () n k).1 = exT p 0 n k := by
 rw [eachR, Vis.S1, exM_nx, exM_S, exT, Bool.false_or]
theorem eaV_len {τ : Type} (T : Met τ) (pop pb : Int) : ∀ (j : Nat) (a : Int) (s : Bool × τ) (F : Fo), ((eaV T).E pop pb j a s F).length ≤ (row F).length
 | _, _, _, .nil => Nat.le_refl _
 | j, a, s, .cons p n at' k x => by
  rw [Vis.E_cons, Vis.E1]
  have h1 := eaV_len T n.op n.b 0 (a + aroundI pop pb j) ((eaV T).nx s n (a + aroundI pop pb j)) k
  have h2 := eaV_len T pop pb (j + 1) a ((eaV T).S1 (a + aroundI pop pb j) s n k) x
  have h3 : ((eaV T).em s n (a + aroundI pop pb j)).length = 0 := rfl
  simp only [List.length_append, row, List.length_cons]
  omega
theorem eaV_len1 {τ : Type} (T : Met τ) (a : Int) (s : Bool × τ) (n : Nd) (ats : List Nd) (k : Fo) : ((eaV T).E1 a s n ats k).length ≤ (n :: (ats ++ row k)).length := by
 have h1 := eaV_len T n.op n.b 0 a ((eaV T).nx s n a) k
 have h3 : ((eaV T).em s n a).length = 0 := rfl
 rw [Vis.E1, List.length_append, List.length_append, h3]
 simp only [List.length_cons, List.length_append]; omega
def exR (p : Int → Int → Bool) (l : List Nd) : Bool :=
 match pp [false] l with
 | some (.cons _ n _ k _, _) => exT p 0 n k
 | _ => false
def belowB (l : List Nd) (v : Int) : Bool := decide (shapeI l = 0) && !exR (fun x a => decide (max v 0 ≤ x - a)) l
def BoolPost (b : Bool) (w : World) (e : Ending) (w' : World) : Prop := e = .returned (.bool b) ∧ Below w.heap.size w w'
theorem each_box {p : Int → Int → Bool} {mk : FuncId} {x : Int} {A : Option Addr} {nn c : Nat} {l : List Nd} {w w2 : World} (h : TermV w A nn c l) (hs : shapeI l = 0) (hb : Below w.heap.size w w2) (hg : w.heap.size < w2.heap.size) (hbx : Blk w2 w.heap.size 3 #[.int .i64 x])
 (hen : ∀ args w, (callFunc mk args).run Try.prog w = .ok (.enter mk args) w) (hmet : ∀ H pb, pb < H → MetOk Try.prog mk #[.pointer (some ⟨pb, 0, none⟩)] (exM p) (boxJ pb x) (fun _ => False) H) :
 Calls Try.prog 25 #[.slice A nn c, .func (.func mk) #[] #[.pointer (some ⟨w.heap.size, 0, none⟩)]] w2 (BoolPost (exR p l) w2) := by
 obtain ⟨hl, n, ats, k, hpp, hrow, hfs⟩ := shape_ok hs
 refine (each_any (T := exM p) (J := boxJ w.heap.size x) (K := fun k => k = w.heap.size) (S := fun _ => False) (R := (· < w.heap.size)) (t := ()) (fun b hb' => ⟨by omega, fun h => h⟩) (h.keep fun b hb' => ⟨hb', fun o => cell_of_heap (hb.block b hb') o⟩) (fun k hk => by omega) (fun k hk => hk.elim)
  (fun w w' t hj hk => hj.same (hk _ rfl)) hen (hmet _ _ hg) hbx hpp (by omega) (by have := eaV_len1 (exM p) 0 (false, ()) n ats k; rw [← hrow] at this; omega)).mono ?_
 rintro e w3 ⟨rfl, hm, _⟩
 refine ⟨ret_bool ?_, hm.to_below (Nat.le_refl _) (fun _ h => h.elim) (fun g hg => by cases hg)⟩
 rw [eachR_ex]
 unfold exR
 rw [hpp]
theorem below_any {A : Option Addr} {nn c : Nat} {l : List Nd} {w : World} (h : TermV w A nn c l) (v : Int) :
 Calls Try.prog 68 #[.slice A nn c, .int .i64 v] w (BoolPost (belowB l v) w) := by
 have hmf : ∀ (fn : Fn) (first cap : Array Value) (w : World), (Instr.makeFunc fn first cap).run Try.prog w = .ok (.func fn first cap) w := fun _ _ _ _ => rfl
 have hbw := below_alloc w (.cells #[.int .i64 v] 3)
 by_cases hs : shapeI l = 0
 · have hf : belowB l v = !exR (fun x a => decide (max v 0 ≤ x - a)) l := by simp [belowB, hs]
   have hsb : (shapeI l == 0) = true := by simp [hs]
   have HF := hid hf
   have HS := hid hs
   have H := hid h
   have HBW := hid hbw
   have HA := hid (h.below hbw)
   clear hf hs h hbw
   go_in
   go_wp2_with (go_at_call 13; refine (shape_any HA.out).mono ?_; rintro e w2 ⟨rfl, hb2⟩)
   have hb3 : Below w.heap.size w w2 := HBW.out.trans (hb2.mono HBW.out.size)
   have hx : Blk w2 w.heap.size 3 #[.int .i64 v] := (Blk.new w _ _).below hb2 (by simp)
   refine (each_box H.out HS.out hb3 hx.lt hx (fun _ _ => by kernel_rfl) (fun H pb hp => below1_ok hp)).mono ?_
   rintro e w4 ⟨rfl, hb4⟩
   go_wp2_with fail
   go_ret
   exact ⟨ret_bool HF.out.symm, hb3.trans (hb4.mono hb3.size)⟩
 have hf : belowB l v = false := by simp [belowB, hs]
 have hsb : (shapeI l == 0) = false := by simp [hs]
 have HF := hid hf
 have HBW := hid hbw
 have HA := hid (h.below hbw)
 clear hf hs h hbw
 go_in
 go_wp2_with (go_at_call 13; refine (shape_any HA.out).mono ?_; rintro e w2 ⟨rfl, hb2⟩)
 go_ret
 exact ⟨ret_bool HF.out.symm, HBW.out.trans (hb2.mono HBW.out.size)⟩
end
end Go.Proofs.Ytjoddliplahgkaa
