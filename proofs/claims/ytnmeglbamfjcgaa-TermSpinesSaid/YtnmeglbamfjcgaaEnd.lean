/- End: the place behind the term that begins at a place; Shape: is a row a term? -/
import Derived.Test.YtnmeglbamfjcgaaProg
import Derived.Test.YtnmeglbamfjcgaaMem
import Derived.Test.YtnmeglbamfjcgaaTree
import Derived.Test.YtnmeglbamfjcgaaLeaf
import Derived.Test.YtnmeglbamfjcgaaLeaf2
import Derived.Test.YtnmeglbamfjcgaaAtoms
import Derived.WalkKit
import Derived.WalkLawsBesides
import Derived.WalkSpells
import Derived.Lib.Hide
import Derived.Deep.QuietTactic
import Derived.BigQuiet
namespace Go.Proofs.Ytnmeglbamfjcgaa
open Go.RowKit

theorem okN_false {x : Nd} (h : plainB x.op x.a x.b = false) : okN x = false := by simp [okN, h]

set_option maxRecDepth 100000 in
set_option maxHeartbeats 400000 in
theorem end_neg {A : Option Addr} {n c : Nat} {w : World} (a : Int) (ha : a < 0) :
    Calls Try.prog 26 #[.slice A n c, .int .i64 a] w (IntPost (-1) w) := by
  go_enter Try.func26, Try.ntmps26
  go_wp2_with fail
  go_ret
  exact ⟨rfl, Below.refl _ _⟩

set_option maxRecDepth 100000 in
set_option maxHeartbeats 400000 in
theorem end_out {A : Option Addr} {n c : Nat} {w : World} (a : Int) (p : Nat) (ha : a = p) (hp : n ≤ p) (_hn : n ≤ 5864062014805) :
    Calls Try.prog 26 #[.slice A n c, .int .i64 a] w (IntPost (-1) w) := by
  subst ha
  have h0 : (0 : Int) ≤ (p : Int) := by omega
  go_enter Try.func26, Try.ntmps26
  go_wp2_with fail
  go_ret
  exact ⟨rfl, Below.refl _ _⟩

set_option maxRecDepth 100000 in
set_option maxHeartbeats 1000000 in
theorem end_bad {A : Option Addr} {n c : Nat} {l : List Nd} {w : World} (h : TermV w A n c l) (a : Int) (p : Nat) (ha : a = p) (hp : p < n) (hbad : okN (nth l p) = false) :
    Calls Try.prog 26 #[.slice A n c, .int .i64 a] w (IntPost (-1) w) := by
  subst ha
  have hfew := h.few
  have h0 : (0 : Int) ≤ (p : Int) := by omega
  obtain ⟨b, off, rfl, hb, c0, c1, c2⟩ := h.at_ hp
  cases hpl : plainB (nth l p).op (nth l p).a (nth l p).b
  · clear hbad
    go_enter Try.func26, Try.ntmps26
    go_wp2_with (go_at_call 58; refine (plain_any _ _ _ _).mono ?_; rintro e w1 ⟨rfl, hb1⟩; obtain ⟨hc1, hf1⟩ := bcell hb1)
    go_ret
    exact ⟨rfl, hb1⟩
  · by_cases h3 : (nth l p).op = 3
    · have hb3 : ((nth l p).op == 3) = true := by simp [h3]
      clear h3 hbad
      go_enter Try.func26, Try.ntmps26
      go_wp2_with (go_at_call 58; refine (plain_any _ _ _ _).mono ?_; rintro e w1 ⟨rfl, hb1⟩; obtain ⟨hc1, hf1⟩ := bcell hb1)
      go_ret
      exact ⟨rfl, hb1⟩
    · have h13 : (nth l p).op = 13 := by simpa [okN, hpl, h3] using hbad
      have hb3 : ((nth l p).op == 3) = false := by simp [h3]
      have hb13 : ((nth l p).op == 13) = true := by simp [h13]
      clear h3 h13 hbad
      go_enter Try.func26, Try.ntmps26
      go_wp2_with (go_at_call 58; refine (plain_any _ _ _ _).mono ?_; rintro e w1 ⟨rfl, hb1⟩; obtain ⟨hc1, hf1⟩ := bcell hb1)
      go_ret
      exact ⟨rfl, hb1⟩

set_option maxRecDepth 100000 in
set_option maxHeartbeats 2000000 in
theorem end_step {A : Option Addr} {n c : Nat} {l : List Nd} (p : Nat) (hp : p < n) (hok : okN (nth l p) = true)
    (ih : ∀ (w : World) (a : Int) (q : Nat), TermV w A n c l → a = q → p < q → Calls Try.prog 26 #[.slice A n c, .int .i64 a] w (IntPost (optI (ends [false] l q)) w))
    {w : World} (h : TermV w A n c l) :
    Calls Try.prog 26 #[.slice A n c, .int .i64 p] w (IntPost (optI (ends [false] l p)) w) := by
  have hfew := h.few
  have h0 : (0 : Int) ≤ (p : Int) := by omega
  have HI := Lib.hid ih
  clear ih
  have hpl : plainB (nth l p).op (nth l p).a (nth l p).b = true := by
    simp only [okN, Bool.and_eq_true] at hok; exact hok.1.1
  have hb3 : ((nth l p).op == 3) = false := by
    simp only [okN, Bool.and_eq_true, decide_eq_true_eq] at hok; simp [hok.1.2]
  have hb13 : ((nth l p).op == 13) = false := by
    simp only [okN, Bool.and_eq_true, decide_eq_true_eq] at hok; simp [hok.2]
  have he1 : ends [false] l p = if (nth l p).op = 2 then atEnds (nth l p).b.toNat (-1) l (p + 1) else ends (ds (nth l p)) l (p + 1) := by
    rw [ends_one (by rw [h.len]; exact hp), if_pos hok]
  have HE1 := Lib.hid he1
  have HOK := Lib.hid hok
  clear he1 hok
  obtain ⟨hb0, hb1000⟩ := plainB_b hpl
  obtain ⟨hk0, hk18⟩ := kidsI_bd hpl
  obtain ⟨b, off, rfl, hb, c0, c1, c2⟩ := h.at_ hp
  by_cases h2 : (nth l p).op = 2
  · have hb2 : ((nth l p).op == 2) = true := by simp [h2]
    have H2 := Lib.hid h2
    clear h2
    go_enter Try.func26, Try.ntmps26
    go_wp2_with (go_at_call 58; refine (plain_any _ _ _ _).mono ?_; rintro e w1 ⟨rfl, hb1⟩; obtain ⟨hc1, hf1⟩ := bcell hb1)
    refine (atoms_any ((h.below hb1).alloc _) _ _ (p + 1) (nth l p).b.toNat (by omega) (by omega) (by omega) (by omega)).mono ?_
    rintro e w2 ⟨rfl, hb2⟩
    go_wp2
    go_ret
    refine ⟨ret_int ?_, hb1.trans ((((Below.refl _ _).alloc (Nat.le_refl _) _).trans (hb2.mono (by simp))).mono hb1.size)⟩
    rw [HE1.out, if_pos H2.out]
  · have hb2 : ((nth l p).op == 2) = false := by simp [h2]
    have he2 : ends [false] l p = ends (ds (nth l p)) l (p + 1) := by rw [HE1.out, if_neg h2]
    have HE := Lib.hid he2
    clear HE1 he2 h2
    go_enter Try.func26, Try.ntmps26
    go_wp2_with (first | (go_at_call 58; refine (plain_any _ _ _ _).mono ?_; rintro e w1 ⟨rfl, hb1⟩; obtain ⟨hc1, hf1⟩ := bcell hb1) | (go_at_call 60; refine (kids_any _ _ _ _ (by omega)).mono ?_; rintro e w2 ⟨rfl, rfl⟩))
    have h1 := (h.below hb1).alloc (.cells #[.int .i64 (nth l p).op, .int .i64 (nth l p).a, .int .i64 (nth l p).b] 53)
    go_loopw [1, 54] (fun a i wr => ∃ (q j : Nat), q ≤ n ∧ p < q ∧ (j : Int) ≤ kidsI (nth l p).op (nth l p).b ∧ a = .int .i64 q ∧ i = .int .i64 j ∧ ends (remd (nth l p) j) l q = ends (ds (nth l p)) l (p + 1) ∧ Below (w1.heap.size + 1) (w1.alloc (.cells #[.int .i64 (nth l p).op, .int .i64 (nth l p).a, .int .i64 (nth l p).b] 53)) wr) (fun _ i _ => (kidsI (nth l p).op (nth l p).b).toNat - (intOf i).toNat)
    case atStart => exact ⟨p + 1, 0, hp, by omega, hk0, by go_num, rfl, by rw [remd_zero], (Below.refl _ _).alloc (by simp) _⟩
    case round =>
      obtain ⟨q, j, hq, hpq, hj, rfl, rfl, he, hbw⟩ := hrel
      have HR := Lib.hid he
      clear he
      have hwr := h1.below (hbw.mono (by simp))
      have g0 : wr.cell? ⟨w1.heap.size, 0, none⟩ = some (.int .i64 (nth l p).op) := (hbw.cell (by simp)).trans (box_cell _ _ _ _ _ _ _ rfl)
      have hbt : ∀ w2 : World, Below wr.heap.size wr w2 → Below w.heap.size w w2 := fun _ hx => hb1.trans (((below_alloc w1 _).trans ((hbw.mono (by omega)).trans (hx.mono (by have := hbw.size; simp at this; omega)))).mono hb1.size)
      have hbt2 : ∀ w2 : World, Below wr.heap.size wr w2 → Below (w1.heap.size + 1) (w1.alloc (.cells #[.int .i64 (nth l p).op, .int .i64 (nth l p).a, .int .i64 (nth l p).b] 53)) w2 := fun _ hx => hbw.trans (hx.mono (by have := hbw.size; simp at this; omega))
      have HT := Lib.hid hbt
      have HT2 := Lib.hid hbt2
      clear hbt hbt2
      by_cases hlt : (j : Int) < kidsI (nth l p).op (nth l p).b
      · by_cases h12 : (nth l p).op = 12
        · have hb12 : ((nth l p).op == 12) = true := by simp [h12]
          have hjb : (j : Int) < (nth l p).b := by simpa [kidsI, h12] using hlt
          have hre := remd_fix h12 hjb
          have HRE := Lib.hid hre
          clear hre h12 hjb
          by_cases hqn : q < n
          · have hef : ends (remd (nth l p) j) l q = if okF (nth l q) then ends (false :: false :: remd (nth l p) (j + 1)) l (q + 1) else none := by
              rw [HRE.out, ends_fun _ (by rw [h.len]; exact hqn)]
            obtain ⟨hbr, d0, d1, d2⟩ := hwr.cells hqn
            cases hf : okF (nth l q)
            · have hno : ends (remd (nth l p) j) l q = none := by rw [hef, hf]; rfl
              have HNO := Lib.hid hno
              clear hno hef
              by_cases h13 : (nth l q).op = 13
              · have hpf : plainB (nth l q).op (nth l q).a (nth l q).b = false := by simpa [okF, h13] using hf
                have hq13 : ((nth l q).op != 13) = false := by simp [h13]
                clear h13 hf
                go_wp2_with (go_at_call 58; refine (plain_any _ _ _ _).mono ?_; rintro e w2 ⟨rfl, hb2⟩; obtain ⟨hc2, hf2⟩ := bcell hb2)
                go_ret
                refine ⟨ret_int ?_, HT.out _ hb2⟩
                rw [HE.out, ← HR.out, HNO.out]
                rfl
              · have hq13 : ((nth l q).op != 13) = true := by simp [h13]
                clear h13 hf
                go_wp2_with fail
                go_ret
                refine ⟨ret_int ?_, HT.out _ (Below.refl _ _)⟩
                rw [HE.out, ← HR.out, HNO.out]
                rfl
            · have hpf : plainB (nth l q).op (nth l q).a (nth l q).b = true := by
                simp only [okF, Bool.and_eq_true] at hf; exact hf.1
              have hq13 : ((nth l q).op != 13) = false := by
                simp only [okF, Bool.and_eq_true, decide_eq_true_eq] at hf; simp [hf.2]
              have hgo : ends (remd (nth l p) j) l q = (ends [false] l (q + 1)).bind fun q1 => (ends [false] l q1).bind (ends (remd (nth l p) (j + 1)) l) := by
                rw [hef, if_pos hf, ends_cons false _ (by rw [h.len]; omega)]
                refine Option.bind_congr fun q1 hq1 => ?_
                rw [ends_cons false _ (ends_bd hq1 (by rw [h.len]; omega)).2.1]
              have HGO := Lib.hid hgo
              clear hgo hef hf
              go_wp2_with (go_at_call 58; refine (plain_any _ _ _ _).mono ?_; rintro e w2 ⟨rfl, hb2⟩; obtain ⟨hc2, hf2⟩ := bcell hb2)
              have hw2 := hwr.below hb2
              refine (HI.out w2 _ (q + 1) hw2 (by omega) (by omega)).mono ?_
              rintro e w3 ⟨rfl, hb3'⟩
              have hw3 := hw2.below hb3'
              cases hq1 : ends [false] l (q + 1) with
              | none =>
                have hno : ends (remd (nth l p) j) l q = none := by rw [HGO.out, hq1]; rfl
                have HNO := Lib.hid hno
                clear hno hq1
                simp only [optI]
                go_wp2_with fail
                refine (end_neg (w := w3) _ (by omega)).mono ?_
                rintro e w4 ⟨rfl, hb4⟩
                go_wp2_with fail
                go_ret
                refine ⟨ret_int ?_, HT.out _ (hb2.trans ((hb3'.trans (hb4.mono hb3'.size)).mono hb2.size))⟩
                rw [HE.out, ← HR.out, HNO.out]
                rfl
              | some q1 =>
                obtain ⟨hq1a, hq1b, hq1c⟩ := ends_bd hq1 (by rw [h.len]; omega)
                rw [h.len] at hq1b
                have hgo2 : ends (remd (nth l p) j) l q = (ends [false] l q1).bind (ends (remd (nth l p) (j + 1)) l) := by rw [HGO.out, hq1]; rfl
                have HGO2 := Lib.hid hgo2
                clear hgo2 hq1 hq1c
                simp only [optI]
                go_wp2_with fail
                refine (HI.out w3 _ q1 hw3 rfl (by omega)).mono ?_
                rintro e w4 ⟨rfl, hb4⟩
                have hb24 : Below wr.heap.size wr w4 := hb2.trans ((hb3'.trans (hb4.mono hb3'.size)).mono hb2.size)
                cases hq2 : ends [false] l q1 with
                | none =>
                  have hno : ends (remd (nth l p) j) l q = none := by rw [HGO2.out, hq2]; rfl
                  have HNO := Lib.hid hno
                  clear hno hq2
                  simp only [optI]
                  go_wp2_with fail
                  go_ret
                  refine ⟨ret_int ?_, HT.out _ hb24⟩
                  rw [HE.out, ← HR.out, HNO.out]
                  rfl
                | some q2 =>
                  obtain ⟨hq2a, hq2b, hq2c⟩ := ends_bd hq2 (by rw [h.len]; omega)
                  rw [h.len] at hq2b
                  have hgo3 : ends (remd (nth l p) j) l q = ends (remd (nth l p) (j + 1)) l q2 := by rw [HGO2.out, hq2]; rfl
                  have HGO3 := Lib.hid hgo3
                  clear hgo3 hq2 hq2c
                  simp only [optI]
                  have hq20 : (0 : Int) ≤ (q2 : Int) := by omega
                  go_wp2_with fail
                  go_roundw
                  case rel => exact ⟨q2, j + 1, hq2b, by omega, by omega, rfl, by go_num, by rw [← HGO3.out, HR.out], HT2.out _ hb24⟩
                  case measure => simp [intOf]; omega
          · have hno : ends (remd (nth l p) j) l q = none := by rw [HRE.out, ends_out _ _ (by rw [h.len]; omega)]
            have HNO := Lib.hid hno
            clear hno
            go_wp2_with fail
            go_ret
            refine ⟨ret_int ?_, HT.out _ (Below.refl _ _)⟩
            rw [HE.out, ← HR.out, HNO.out]
            rfl
        · have hb12 : ((nth l p).op == 12) = false := by simp [h12]
          have hre := remd_one h12 hlt
          have hgo : ends (remd (nth l p) j) l q = (ends [false] l q).bind (ends (remd (nth l p) (j + 1)) l) := by
            rw [hre, ends_cons false _ (by rw [h.len]; omega)]
          have HGO := Lib.hid hgo
          clear hre hgo h12
          go_wp2_with fail
          refine (HI.out wr _ q hwr rfl (by omega)).mono ?_
          rintro e w4 ⟨rfl, hb4⟩
          cases hq2 : ends [false] l q with
          | none =>
            have hno : ends (remd (nth l p) j) l q = none := by rw [HGO.out, hq2]; rfl
            have HNO := Lib.hid hno
            clear hno hq2
            simp only [optI]
            go_wp2_with fail
            go_ret
            refine ⟨ret_int ?_, HT.out _ hb4⟩
            rw [HE.out, ← HR.out, HNO.out]
            rfl
          | some q2 =>
            obtain ⟨hq2a, hq2b, hq2c⟩ := ends_bd hq2 (by rw [h.len]; omega)
            rw [h.len] at hq2b
            have hgo3 : ends (remd (nth l p) j) l q = ends (remd (nth l p) (j + 1)) l q2 := by rw [HGO.out, hq2]; rfl
            have HGO3 := Lib.hid hgo3
            clear hgo3 hq2 hq2c
            simp only [optI]
            have hq20 : (0 : Int) ≤ (q2 : Int) := by omega
            go_wp2_with fail
            go_roundw
            case rel => exact ⟨q2, j + 1, hq2b, by omega, by omega, rfl, by go_num, by rw [← HGO3.out, HR.out], HT2.out _ hb4⟩
            case measure => simp [intOf]; omega
      · have hre := remd_end (nth l p) (i := j) (by omega)
        have hno : ends (remd (nth l p) j) l q = some q := by rw [hre, ends_nil (by rw [h.len]; exact hq)]
        have HNO := Lib.hid hno
        clear hno hre
        go_wp2_with fail
        go_ret
        refine ⟨ret_int ?_, HT.out _ (Below.refl _ _)⟩
        rw [HE.out, ← HR.out, HNO.out]
        rfl

theorem end_nat {A : Option Addr} {n c : Nat} {l : List Nd} : ∀ (m : Nat) (w : World) (a : Int) (p : Nat), TermV w A n c l → a = p → n ≤ p + m →
    Calls Try.prog 26 #[.slice A n c, .int .i64 a] w (IntPost (optI (ends [false] l p)) w) := by
  intro m
  induction m with
  | zero =>
    intro w a p h ha hm
    rw [ends_out _ _ (by rw [h.len]; omega)]
    exact end_out a p ha (by omega) h.few
  | succ m ih =>
    intro w a p h ha hm
    by_cases hp : p < n
    · cases hok : okN (nth l p)
      · have : ends [false] l p = none := by rw [ends_one (by rw [h.len]; exact hp), hok]; rfl
        rw [this]
        exact end_bad h a p ha hp hok
      · subst ha
        exact end_step p hp hok (fun w a q h ha hq => ih w a q h ha (by omega)) h
    · rw [ends_out _ _ (by rw [h.len]; omega)]
      exact end_out a p ha (by omega) h.few

theorem end_any {A : Option Addr} {n c : Nat} {l : List Nd} {w : World} (h : TermV w A n c l) (a : Int) :
    Calls Try.prog 26 #[.slice A n c, .int .i64 a] w (IntPost (endI l a) w) := by
  by_cases h0 : 0 ≤ a
  · obtain ⟨p, rfl⟩ := Int.eq_ofNat_of_zero_le h0
    rw [endI_nat]
    exact end_nat n w p p h rfl (by omega)
  · have : endI l a = -1 := by simp only [endI]; rw [if_neg (by omega)]
    rw [this]
    exact end_neg a (by omega)

end Go.Proofs.Ytnmeglbamfjcgaa
