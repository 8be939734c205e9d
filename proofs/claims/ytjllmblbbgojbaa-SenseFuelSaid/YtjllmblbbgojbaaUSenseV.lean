/- sense: isValue. -/
import Derived.Test.YtjllmblbbgojbaaUShort2
import Derived.Test.YtjllmblbbgojbaaUSenseB
namespace Go.Proofs.Ytjllmblbbgojbaa
open Go.Lib (hid)
open Go.RowKit
theorem own_at1 {w : World} {base z n c : Nat} {e : TypeId} {A : Option Addr} {vs : List Value} (h : w.ownsRow base e z (.slice A n c) n vs) {i : Nat} {u : Value} (hu : vs[i]? = some u) : ∃ g, A = some ⟨g, 0, none⟩ ∧ g < w.heap.size ∧ base ≤ g ∧ w.cell? ⟨g, i, none⟩ = some u := by
 have hl := h.1
 have hi : i < vs.length := (List.getElem?_eq_some_iff.1 hu).1
 rcases h.2 with ⟨_, h2⟩ | ⟨g, cap', cur, hv, hg, hh, _⟩
 · subst h2
   have : vs.length = 0 := by simpa using hl
   omega
 injection hv with e1 e2 e3
 subst e1
 have h3 := ownsRow_block h (g := g) rfl
 exact ⟨g, rfl, h3.2.1, h3.1, own_cellH h hu⟩
theorem hdW_right {x : TT} (h : RtX x) : RtX (hdW x).1 ∧ (hdW x).1.1.op ≠ 6 ∧ ∀ y ∈ (hdW x).2, RtX y ∧ szT y < szT x := by
 obtain ⟨e1, e2, _, e4, _⟩ := hd_right (szT x) x h (Nat.le_refl _)
 exact ⟨e1, e2, e4⟩
set_option linter.unusedSimpArgs false in
set_option linter.unusedVariables false in
set_option maxRecDepth 100000 in
set_option maxHeartbeats 8000000 in
theorem isVal_step {m : Nat} (H : ∀ (w : World) (A : Option Addr) (n c : Nat) (x : TT), TermV w A n c (rowT x) → RtX x → szT x ≤ m → Calls Try.prog 40 #[.slice A n c] w (BoolP (valW x) w))
 {w : World} {A : Option Addr} {n c : Nat} {x : TT} (ht : TermV w A n c (rowT x)) (hrt : RtX x) (hm : szT x ≤ m + 1) :
 Calls Try.prog 40 #[.slice A n c] w (BoolP (valW x) w) := by
 have HAP := hid (apart_any ht hrt)
 have hV := valW_eq x
 obtain ⟨hr1, hr6, hr2⟩ := hdW_right hrt
 have HR2 := hid (fun y hy => (⟨(hr2 y hy).1, by have := (hr2 y hy).2; omega⟩ : RtX y ∧ szT y ≤ m))
 have hpb : (hdW x).1.1.op = 12 → 0 ≤ placeT (hdW x).1 ∧ placeT (hdW x).1 < 16 := fun h12 => place_bd ⟨(Rt.wf hr1).1, (Rt.wf hr1).2.1, (Rt.wf hr1).2.2⟩ h12
 have hLb : (hdW x).2.length ≤ 4096 := by
  have h3 : (hdW x).2.length < szT x := hd_len (szT x) x hrt
  have h4 : szT x ≤ 4096 := hrt.few
  omega
 generalize hdW x = qq at *
 obtain ⟨F, L⟩ := qq
 simp only at hV hr1 hr6 HR2 HAP hpb hLb
 have HRF := hid hr1
 have HV := hid hV
 generalize valW x = res at *
 have HH := hid H
 have HT := hid (fun (w' : World) (h : Below w.heap.size w w') => ht.below h)
 have HL0 : Hid (L.isEmpty = ((L.length : Int) == 0)) := hid (by cases L <;> simp <;> omega)
 obtain ⟨k, hk⟩ : ∃ k, k = L.length := ⟨_, rfl⟩
 have HK := hid hk
 unfold ApartP at HAP
 simp only at HAP
 rw [← hk] at HAP hLb HL0
 generalize rowT x = tx at *
 clear hV hr1 hr2 H ht hrt hm hk
 go_in
 go_wp2_with fail
 refine (HAP.out).mono ?_
 rintro e w1 ⟨hd1, A1, n1, c1, B, d, vs, rfl, hpc, hown, hps⟩
 have hbs := hd1.size
 have HB2 := hid (hd1.trans ((below_alloc w1 (.cells #[.slice A1 n1 c1, .slice B k d] 118)).mono hbs))
 have HKS := hid (Blk.new w1 118 #[.slice A1 n1 c1, .slice B k d])
 have HOW := hid (own_below hown (below_alloc w1 (.cells #[.slice A1 n1 c1, .slice B k d] 118)))
 have HPS := hid hps
 have htf : TermV (w1.alloc (.cells #[.slice A1 n1 c1, .slice B k d] 118)) A1 n1 c1 (rowT F) := hpc _ _ (HT.out _ HB2.out)
 have HTF := hid htf
 have hn1 : 0 < n1 := by rw [← htf.len]; simp [rowT]
 obtain ⟨bf, of, rfl, hbf, hcf, _, _⟩ := TermV.at_ htf hn1
 rw [Nat.zero_mul, Nat.add_zero, show nth (rowT F) 0 = F.1 from rfl] at hcf
 obtain ⟨op, hop⟩ : ∃ op, op = F.1.op := ⟨_, rfl⟩
 have HOP := hid hop
 rw [← hop] at hcf hr6 hpb
 have HV2 := HV.out
 rw [← hop] at HV2
 have HV3 := hid HV2
 have hn10 : (0 : Int) < (n1 : Int) := by omega
 have hk0 : (0 : Int) ≤ (k : Int) := by omega
 clear hd1 hown hps htf HV2 hop hbs
 by_cases ha : op = 5 ∨ op = 4 ∨ op = 2
 · have HRES : Hid (res = ((k : Int) == 0)) := hid (by rw [HV3.out, if_pos ha, HL0.out])
   rcases ha with rfl | rfl | rfl
   all_goals
    go_wp2_with fail
    go_ret
    rw [HRES.out]
    exact ⟨rfl, HB2.out⟩
 have b5 : (op == 5) = false := beq_eq_false_iff_ne.2 (by omega)
 have b4 : (op == 4) = false := beq_eq_false_iff_ne.2 (by omega)
 have b2 : (op == 2) = false := beq_eq_false_iff_ne.2 (by omega)
 by_cases h12 : op = 12
 · obtain ⟨hp0, hp16⟩ := hpb h12
   have HPO := hid (fun (w' : World) (h : Below w.heap.size w w') => splaceOf_any (hpc _ _ (HT.out w' h)) HRF.out (by rw [← HOP.out]; exact h12))
   have HV4 : Hid (res = (decide ((k : Int) ≤ placeT F) && L.all valW)) := hid (by rw [HV3.out, if_neg ha, if_pos h12, HK.out])
   generalize placeT F = pz at *
   have b12 : (op == 12) = true := beq_iff_eq.2 h12
   have HBd := hid (below_drewN HB2.out 1)
   have HKd := hid (HKS.out.drewN 1)
   have zk0 : (w1.alloc (.cells #[.slice (some ⟨bf, of, none⟩) n1 c1, .slice B k d] 118)).drew.cell? ⟨w1.heap.size, 0, none⟩ = some (.slice (some ⟨bf, of, none⟩) n1 c1) := HKd.out.cell 0
   have zk1 : (w1.alloc (.cells #[.slice (some ⟨bf, of, none⟩) n1 c1, .slice B k d] 118)).drew.cell? ⟨w1.heap.size, 1, none⟩ = some (.slice B k d) := HKd.out.cell 1
   clear h12 ha hpb
   go_wp2_with fail
   refine wp_region_held_drew (S := (fun w' => w'.cell? ⟨w1.heap.size, 0, none⟩ = some (.slice (some ⟨bf, of, none⟩) n1 c1) ∧ w'.cell? ⟨w1.heap.size, 1, none⟩ = some (.slice B k d))) (by kernel_rfl) ?_ (fun hHeld => ?_)
   · (try dsimp only); exact ⟨zk0, zk1⟩
   refine tq 0 hHeld ?_
   try simp only [p7]
   refine tq 1 hHeld ?_
   try simp only [p7]
   refine tq 2 hHeld ?_
   try simp only [p7]
   refine tq 3 hHeld ?_
   try simp only [p7]
   refine tq 4 hHeld ?_
   try simp only [p7]
   refine r1 5 fun K hK => ?_
   go_simp
   go_at_call 73
   refine (HPO.out _ HBd.out).mono ?_
   rintro e W5 ⟨rfl, hd5⟩
   have HB5 := bto HBd hd5
   have HK5 := bko HKd hd5
   have HD5 : Hid (Below (w1.alloc (.cells #[.slice (some ⟨bf, of, none⟩) n1 c1, .slice B k d] 118)).heap.size (w1.alloc (.cells #[.slice (some ⟨bf, of, none⟩) n1 c1, .slice B k d] 118)) W5) := hid ((below_drewN (Below.refl _ _) 1).trans hd5)
   clear hd5
   go_wp2_with fail
   refine hK.out _ _ (by exact ⟨HK5.out.cell 0, HK5.out.cell 1⟩) fun hHeld => ?_
   clear hK K
   try simp only [p7]
   refine tq 6 hHeld ?_
   try simp only [p7]
   refine wpAnyH_done (by kernel_rfl) ?_ _
   by_cases hle : (k : Int) ≤ pz
   case neg =>
    have d1 : pz < (k : Int) := by omega
    have d2 : decide ((k : Int) > pz) = true := decide_eq_true d1
    have HRES : Hid (res = false) := hid (by rw [HV4.out, decide_eq_false hle, Bool.false_and])
    clear hle
    go_wp2_with fail
    go_ret
    rw [HRES.out]
    exact ⟨rfl, HB5.out⟩
   have d1 : decide (pz < (k : Int)) = false := decide_eq_false (by omega)
   have d2 : decide ((k : Int) > pz) = false := decide_eq_false (by omega)
   have d3 : (k : Int) ≤ pz := hle
   have HRES : Hid (res = L.all valW) := hid (by rw [HV4.out, decide_eq_true hle, Bool.true_and])
   have zk := Blk.cell HK5.out
   have HOW5 := hid (own_below HOW.out HD5.out)
   clear hle zk0 zk1 hcf
   obtain ⟨w5, rfl⟩ : ∃ x : World, x = W5 := ⟨_, rfl⟩
   go_wp2_with fail
   (try simp only [d1])
   go_loopw [36] (fun iv wr => ∃ i : Nat, iv = .int .i64 (i : Int) ∧ i ≤ k ∧ Hid ((L.take i).all valW = true) ∧ Hid (Below w.heap.size w wr) ∧ Hid (Below w5.heap.size w5 wr)) (fun iv _ => k - (intOf iv).toNat)
   case atStart => exact ⟨0, rfl, by omega, hid rfl, HB5, hid (Below.refl _ _)⟩
   case round =>
    obtain ⟨i, rfl, hi, hall, hbw, hb5⟩ := hrel
    by_cases hlt : i < k
    rotate_left
    · have y1 : decide ((i : Int) < (k : Int)) = false := decide_eq_false (by omega)
      have y2 : decide (i < k) = false := decide_eq_false hlt
      have HRF2 : Hid (res = true) := hid (by
       have h1 := hall.out
       rw [List.take_of_length_le (by rw [← HK.out]; omega)] at h1
       rw [HRES.out, h1])
      clear hlt
      go_wp2_with fail
      go_ret
      rw [HRF2.out]
      exact ⟨rfl, hbw.out⟩
    have y1 : decide ((i : Int) < (k : Int)) = true := decide_eq_true (by omega)
    have y2 : decide (i < k) = true := decide_eq_true hlt
    have hil : i < L.length := by rw [← HK.out]; exact hlt
    obtain ⟨A3, n3, c3, hv, hp3⟩ := PcsP.at_ i HPS.out hil
    obtain ⟨g, hBg, hg, _, hcg⟩ := own_at1 HOW5.out hv
    subst hBg
    have hcg2 := (hb5.out.cell (p := ⟨g, i, none⟩) hg).trans hcg
    have HRY := HR2.out L[i] (List.getElem_mem hil)
    have HC := hid (HH.out wr A3 n3 c3 L[i] (hp3 _ _ (HT.out wr hbw.out)) HRY.1 HRY.2)
    have htk : (L.take (i + 1)).all valW = ((L.take i).all valW && valW L[i]) := by
     rw [List.take_succ_eq_append_getElem hil, List.all_append]
     simp
    have hdr : L.all valW = ((L.take (i + 1)).all valW && (L.drop (i + 1)).all valW) := by rw [← List.all_append, List.take_append_drop]
    have HTK := hid htk
    have HDR := hid hdr
    have hi0 : (0 : Int) ≤ (i : Int) := by omega
    have hi1 : (i : Int) < (k : Int) := by omega
    obtain ⟨vy, hvy⟩ : ∃ v, v = valW L[i] := ⟨_, rfl⟩
    rw [← hvy] at HC HTK
    clear hcg hv hp3 HRY htk hdr hvy hil
    go_wp2_with fail
    refine (HC.out).mono ?_
    rintro e w7 ⟨rfl, hd7⟩
    have HB7 := bto hbw hd7
    have HB57 := bto hb5 hd7
    clear hd7 hcg2
    cases vy with
    | true =>
     have HAL : Hid ((L.take (i + 1)).all valW = true) := hid (by rw [HTK.out, hall.out]; rfl)
     go_wp2_with fail
     go_roundw
     case rel => exact ⟨i + 1, by go_num, by omega, HAL, HB7, HB57⟩
     case measure => simp [intOf]; omega
    | false =>
     have HRF2 : Hid (res = false) := hid (by rw [HRES.out, HDR.out, HTK.out, Bool.and_false, Bool.false_and])
     go_wp2_with fail
     go_ret
     rw [HRF2.out]
     exact ⟨rfl, HB7.out⟩
 have b12 : (op == 12) = false := beq_eq_false_iff_ne.2 h12
 by_cases h9 : op = 9 ∨ op = 10
 rotate_left
 · have b9 : (op == 9) = false := beq_eq_false_iff_ne.2 (by omega)
   have b10 : (op == 10) = false := beq_eq_false_iff_ne.2 (by omega)
   have HRES : Hid (res = false) := hid (by rw [HV3.out, if_neg ha, if_neg h12, if_neg h9])
   clear ha h12 h9
   go_wp2_with fail
   go_ret
   rw [HRES.out]
   exact ⟨rfl, HB2.out⟩
 have HRES : Hid (res = L.all valW) := hid (by rw [HV3.out, if_neg ha, if_neg h12, if_pos h9])
 have HB5 := HB2
 have HOW5 := HOW
 have zk := Blk.cell HKS.out
 rcases h9 with rfl | rfl
 all_goals
  go_wp2_with fail
  go_loopw [36] (fun iv wr => ∃ i : Nat, iv = .int .i64 (i : Int) ∧ i ≤ k ∧ Hid ((L.take i).all valW = true) ∧ Hid (Below w.heap.size w wr) ∧ Hid (Below (w1.alloc (.cells #[.slice (some ⟨bf, of, none⟩) n1 c1, .slice B k d] 118)).heap.size (w1.alloc (.cells #[.slice (some ⟨bf, of, none⟩) n1 c1, .slice B k d] 118)) wr)) (fun iv _ => k - (intOf iv).toNat)
  case atStart => exact ⟨0, rfl, by omega, hid rfl, HB5, hid (Below.refl _ _)⟩
  case round =>
   obtain ⟨i, rfl, hi, hall, hbw, hb5⟩ := hrel
   by_cases hlt : i < k
   rotate_left
   · have y1 : decide ((i : Int) < (k : Int)) = false := decide_eq_false (by omega)
     have y2 : decide (i < k) = false := decide_eq_false hlt
     have HRF2 : Hid (res = true) := hid (by
      have h1 := hall.out
      rw [List.take_of_length_le (by rw [← HK.out]; omega)] at h1
      rw [HRES.out, h1])
     clear hlt
     go_wp2_with fail
     go_ret
     rw [HRF2.out]
     exact ⟨rfl, hbw.out⟩
   have y1 : decide ((i : Int) < (k : Int)) = true := decide_eq_true (by omega)
   have y2 : decide (i < k) = true := decide_eq_true hlt
   have hil : i < L.length := by rw [← HK.out]; exact hlt
   obtain ⟨A3, n3, c3, hv, hp3⟩ := PcsP.at_ i HPS.out hil
   obtain ⟨g, hBg, hg, _, hcg⟩ := own_at1 HOW5.out hv
   subst hBg
   have hcg2 := (hb5.out.cell (p := ⟨g, i, none⟩) hg).trans hcg
   have HRY := HR2.out L[i] (List.getElem_mem hil)
   have HC := hid (HH.out wr A3 n3 c3 L[i] (hp3 _ _ (HT.out wr hbw.out)) HRY.1 HRY.2)
   have htk : (L.take (i + 1)).all valW = ((L.take i).all valW && valW L[i]) := by
    rw [List.take_succ_eq_append_getElem hil, List.all_append]
    simp
   have hdr : L.all valW = ((L.take (i + 1)).all valW && (L.drop (i + 1)).all valW) := by rw [← List.all_append, List.take_append_drop]
   have HTK := hid htk
   have HDR := hid hdr
   have hi0 : (0 : Int) ≤ (i : Int) := by omega
   have hi1 : (i : Int) < (k : Int) := by omega
   obtain ⟨vy, hvy⟩ : ∃ v, v = valW L[i] := ⟨_, rfl⟩
   rw [← hvy] at HC HTK
   clear hcg hv hp3 HRY htk hdr hvy hil
   go_wp2_with fail
   refine (HC.out).mono ?_
   rintro e w7 ⟨rfl, hd7⟩
   have HB7 := bto hbw hd7
   have HB57 := bto hb5 hd7
   clear hd7 hcg2
   cases vy with
   | true =>
    have HAL : Hid ((L.take (i + 1)).all valW = true) := hid (by rw [HTK.out, hall.out]; rfl)
    go_wp2_with fail
    go_roundw
    case rel => exact ⟨i + 1, by go_num, by omega, HAL, HB7, HB57⟩
    case measure => simp [intOf]; omega
   | false =>
    have HRF2 : Hid (res = false) := hid (by rw [HRES.out, HDR.out, HTK.out, Bool.and_false, Bool.false_and])
    go_wp2_with fail
    go_ret
    rw [HRF2.out]
    exact ⟨rfl, HB7.out⟩
theorem isVal_any : ∀ (m : Nat) (w : World) (A : Option Addr) (n c : Nat) (x : TT), TermV w A n c (rowT x) → RtX x → szT x ≤ m → Calls Try.prog 40 #[.slice A n c] w (BoolP (valW x) w)
 | 0, _, _, _, _, (n, a, k), _, _, h => by rw [szT_eq] at h; omega
 | m + 1, w, A, n, c, x, ht, hr, hm => isVal_step (isVal_any m) ht hr hm
end Go.Proofs.Ytjllmblbbgojbaa
