/- retortlaw13: numbers, awake. -/
import Derived.Test.YtjllmblbbgojbaaUShort2
import Derived.Test.YtjllmblbbgojbaaUSenseJ
import Derived.Test.YtjllmblbbgojbaaUDeeps
namespace Go.Proofs.Ytjllmblbbgojbaa
open Go.Lib (hid)
set_option maxHeartbeats 4000000
set_option maxRecDepth 100000
set_option linter.unusedSimpArgs false
open Go.RowKit
theorem aw1 : evalQ numsB [⟨6, 0, 0⟩, ⟨5, 0, 0⟩, ⟨9, 0, 0⟩, ⟨1, 0, 0⟩, ⟨10, 0, 0⟩] 9 = ([⟨10, 0, 0⟩], 5, 0) := by kernel_rfl
theorem aw2 : (evalQ numsB ([⟨11, 0, 0⟩, ⟨9, 0, 0⟩] ++ [⟨5, 0, 0⟩, ⟨9, 0, 0⟩, ⟨1, 0, 0⟩]) 9).2.2 = 24 := by kernel_rfl
theorem aw3 : fitsE numsB 0 [⟨5, 0, 0⟩, ⟨9, 0, 0⟩, ⟨1, 0, 0⟩] = 0 ∧ valW (treeAt [⟨5, 0, 0⟩, ⟨9, 0, 0⟩, ⟨1, 0, 0⟩]) = true := ⟨by kernel_rfl, by kernel_rfl⟩
abbrev numV (g : Nat) : BkVal := ⟨none, 0, 0, some ⟨g, 0, none⟩, 1, 1, none, 0, 0⟩
def NumsP (w : World) (e : Ending) (w' : World) : Prop := Below w.heap.size w w' ∧ ∃ g : Nat, e = .returned (.agg #[.int .i64 0, .slice none 0 0, .slice (some ⟨g, 0, none⟩) 1 1, .int .i64 0, .slice none 0 0]) ∧ ∀ w'' : World, (∀ q, w.heap.size ≤ q → q < w'.heap.size → w''.heap[q]? = w'.heap[q]?) → BookV w'' (numV g) numsB
theorem snums_any {w : World} : Calls Try.prog 21 #[] w (NumsP w) := by
 go_in
 go_wp2_with fail
 refine bodyPost_ret (v := .agg #[.int .i64 0, .slice none 0 0, .slice (some ⟨w.heap.size + 1 + 1 + 1 + 1 + 1, 0, none⟩) 1 1, .int .i64 0, .slice none 0 0]) (by simp [results, Try.results21, go_sem]) rfl ⟨?_, _, rfl, fun w'' hw => ?_⟩
 · exact (((((below_alloc w _).alloc (by simp) _).alloc (by simp; omega) _).alloc (by simp; omega) _).alloc (by simp; omega) _).alloc (by simp; omega) _
 have hb : ∀ {t : TypeId} {cs : Array Value} (k : Nat), k ≤ 5 → Blk _ (w.heap.size + k) t cs → Blk w'' (w.heap.size + k) t cs := fun k hk h => h.same (hw _ (by omega) (by simp; omega))
 exact nums_book (g1 := w.heap.size + 1) (g2 := w.heap.size + 1 + 1) (g3 := w.heap.size + 1 + 1 + 1) (g4 := w.heap.size + 1 + 1 + 1 + 1)
  (hb 1 (by omega) (((((blk_new (by simp)).alloc _).alloc _).alloc _).alloc _)) (hb 2 (by omega) ((((blk_new (by simp)).alloc _).alloc _).alloc _)) (hb 3 (by omega) (((blk_new (by simp)).alloc _).alloc _)) (hb 4 (by omega) ((blk_new (by simp)).alloc _)) (hb 5 (by omega) (blk_new (by simp)))
def wakeL : List Nd := [⟨6, 0, 0⟩, ⟨5, 0, 0⟩, ⟨9, 0, 0⟩, ⟨1, 0, 0⟩, ⟨10, 0, 0⟩]
set_option linter.unusedVariables false in
theorem sawake_any {w : World} : Calls Try.prog 17 #[] w (BoolP true w) := by
 obtain ⟨i0, hi, hy0, hy1, hy2⟩ := info_parts infoN'
 have HI0 := hid hi
 have HY0 := hid hy0
 have HY1 := hid hy1
 have HY2 := hid hy2
 clear hi hy0 hy1 hy2
 obtain ⟨W1, hW1⟩ : ∃ W1 : World, W1 = w.alloc (.cells #[.int .i64 6, .int .i64 0, .int .i64 0, .int .i64 5, .int .i64 0, .int .i64 0, .int .i64 9, .int .i64 0, .int .i64 0, .int .i64 1, .int .i64 0, .int .i64 0, .int .i64 10, .int .i64 0, .int .i64 0] 34) := ⟨_, rfl⟩
 have hb1 : Below w.heap.size w W1 := by rw [hW1]; exact below_alloc _ _
 have hk1 : Blk W1 w.heap.size 34 (litC wakeL) := by rw [hW1]; exact Blk.new _ _ _
 have HW1 := hid hW1.symm
 have HB1 := hid hb1
 have HK1 := hid hk1
 have hsz1 : W1.heap.size = w.heap.size + 1 := by rw [hW1]; simp
 have HT1 : Hid (∀ w', Below W1.heap.size W1 w' → TermV w' (some ⟨w.heap.size, 0, none⟩) 5 5 wakeL) := hid (fun w' h => (lit_term hk1 rfl (by decide) (by decide)).below h)
 obtain ⟨Ac, hcut, hcutr⟩ := cut_mid (some ⟨w.heap.size, 0, none⟩) 5 5 1 4 (by omega) (by omega) (by omega)
 have hcut' : ∀ w' : World, (Instr.slice 28 (.slice (some ⟨w.heap.size, 0, none⟩) 5 5) (some (.int .i64 1)) (some (.int .i64 4)) none).run Try.prog w' = .ok (.slice Ac 3 4) w' := fun w' => hcut w'
 have HCR : Hid (∀ w', Below W1.heap.size W1 w' → TermV w' Ac 3 4 [⟨5, 0, 0⟩, ⟨9, 0, 0⟩, ⟨1, 0, 0⟩]) := hid (fun w' h => hcutr _ _ _ (HT1.out w' h))
 clear hW1 hb1 hk1 hcut hcutr
 go_in
 go_upto_region 2 with fail
 rw [HW1.out]
 go_wp2_with fail
 refine snums_any.mono ?_
 rintro e w2 ⟨hb2, g2, rfl, hbk2⟩
 have HEV2 := hid (seval_any (hbk2 w2 (fun _ _ _ => rfl)) 9 (HT1.out w2 hb2))
 have HB2 := hid hb2
 clear hbk2 hb2
 go_wp2_with fail
 refine (HEV2.out).mono ?_
 rintro e w3 ⟨hb3, A3, n3, c3, rfl, ht3⟩
 rw [show evalQ numsB wakeL 9 = ([⟨10, 0, 0⟩], 5, 0) from aw1] at ht3 ⊢
 simp only at ht3 ⊢
 have HB3 := bto HB2 hb3
 have hs3 := HB3.out.size
 have HT3 : Hid (TermV w3 A3 n3 c3 [⟨10, 0, 0⟩]) := hid (ht3.keep fun q hq => ⟨hq.2, fun _ => rfl⟩)
 have HB13 : Hid (Below W1.heap.size W1 w3) := bto HB2 hb3
 have hlt3 : w.heap.size < w3.heap.size := by have := HB13.out.size; omega
 have HB3w := hid (HB1.out.trans (HB13.out.mono HB1.out.size))
 have HZ1 := hid ((HK1.out.below HB3.out (by omega)).cell 0)
 clear hb3 ht3 HEV2
 go_upto_region 3 with fail
 go_cut [7] (fun tv wx => tv = .int .i64 24 ∧ Hid (Below w3.heap.size w3 wx))
 case first =>
  have HSL : Hid ((w3.drew.alloc (.cells #[.int .i64 11, .int .i64 0, .int .i64 0, .int .i64 9, .int .i64 0, .int .i64 0] 34)).heap.size = w3.heap.size + 1) := hid (by rw [World.size_alloc]; rfl)
  have HBl : Hid (Below w3.heap.size w3 (w3.drew.alloc (.cells #[.int .i64 11, .int .i64 0, .int .i64 0, .int .i64 9, .int .i64 0, .int .i64 0] 34))) := hid ((below_drewN (Below.refl w3.heap.size w3) 1).trans ((below_alloc w3.drew (.cells #[.int .i64 11, .int .i64 0, .int .i64 0, .int .i64 9, .int .i64 0, .int .i64 0] 34)).mono (Nat.le_refl _)))
  have HOl : Hid (OwnN (w3.drew.alloc (.cells #[.int .i64 11, .int .i64 0, .int .i64 0, .int .i64 9, .int .i64 0, .int .i64 0] 34)) w3.heap.size (.slice (some ⟨w3.drew.heap.size, 0, none⟩) 2 2) [⟨11, 0, 0⟩, ⟨9, 0, 0⟩]) := hid (World.ownsRow_lit w3.drew #[.int .i64 11, .int .i64 0, .int .i64 0, .int .i64 9, .int .i64 0, .int .i64 0] 2 (Nat.le_refl _) (by unfold maxLen; omega) rfl)
  refine wp_region_held_drew (S := (fun w' => w'.cell? ⟨w.heap.size, 0, none⟩ = some (.int .i64 6))) (by kernel_rfl) ?_ (fun hHeld => ?_)
  · (try dsimp only); exact HZ1.out
  refine tq 1 hHeld ?_
  try simp only [p7]
  refine tq 2 hHeld ?_
  try simp only [p7]
  refine tq 4 hHeld ?_
  try simp only [p7]
  refine tq 5 hHeld ?_
  try simp only [p7]
  refine wpAnyH_ready (rs := [0, 3]) (by kernel_rfl) (by simp) ?_
  refine AllReadyH.cons rfl (fun K hK => ?_) (AllReadyH.cons rfl (fun K hK => ?_) (AllReadyH.nil))
  · go_simp
    refine snums_any.mono ?_
    rintro e wa ⟨hba, ga, rfl, hbka⟩
    have HBa : Hid (Below w3.heap.size w3 wa) := hid ((below_drewN (Below.refl w3.heap.size w3) 1).trans (hba.mono (below_drewN (Below.refl w3.heap.size w3) 1).size))
    have HKA := hid hbka
    have HBQ := hid hba
    clear hba hbka
    go_wp2_with fail
    refine hK.out _ _ (by exact ((HBa.out).cell (p := ⟨w.heap.size, 0, none⟩) hlt3).trans HZ1.out) fun hHeld => ?_
    clear hK K
    try simp only [p7]
    have HOl : Hid (OwnN (wa.alloc (.cells #[.int .i64 11, .int .i64 0, .int .i64 0, .int .i64 9, .int .i64 0, .int .i64 0] 34)) w3.heap.size (.slice (some ⟨wa.heap.size, 0, none⟩) 2 2) [⟨11, 0, 0⟩, ⟨9, 0, 0⟩]) := hid (World.ownsRow_lit wa #[.int .i64 11, .int .i64 0, .int .i64 0, .int .i64 9, .int .i64 0, .int .i64 0] 2 HBa.out.size (by unfold maxLen; omega) rfl)
    refine r1 3 fun K hK => ?_
    go_simp
    refine hK.out _ _ (by exact ((HBa.out.trans ((below_alloc wa _).mono HBa.out.size)).cell (p := ⟨w.heap.size, 0, none⟩) hlt3).trans HZ1.out) fun hHeld => ?_
    clear hK K
    try simp only [p7]
    refine r1 6 fun K hK => ?_
    refine oper_append_row (.tmp 27) (.tmp 29) 28 28 rfl w3.heap.size i0 Try.underlying28 Try.underlying28 HI0.out HY0.out HY1.out HY2.out (.slice (some ⟨wa.heap.size, 0, none⟩) 2 2) [⟨11, 0, 0⟩, ⟨9, 0, 0⟩] [⟨5, 0, 0⟩, ⟨9, 0, 0⟩, ⟨1, 0, 0⟩] (by rfl) HOl.out (by rfl) (HCR.out _ ((HB13.out.trans (HBa.out.mono HB13.out.size)).trans ((below_alloc wa _).mono (HB13.out.trans (HBa.out.mono HB13.out.size)).size))) (by decide) (Nat.le_trans HBa.out.size (below_alloc wa _).size) ?_
    intro A4 c4 w4 hown4 happ4
    have HB4a : Hid (Below wa.heap.size wa w4) := hid ((below_alloc wa (.cells #[.int .i64 11, .int .i64 0, .int .i64 0, .int .i64 9, .int .i64 0, .int .i64 0] 34)).grown happ4.grown (below_alloc wa _).size (fun g hg => by injection hg with hg; exact Nat.le_of_eq hg))
    have HB4 : Hid (Below w3.heap.size w3 w4) := hid (HBa.out.trans (HB4a.out.mono HBa.out.size))
    have HBK4 : Hid (BookV w4 (numV ga) numsB) := hid (HKA.out w4 (fun q h1 h2 => HB4a.out.block q h2))
    have HT4 : Hid (TermV w4 A4 5 c4 ([⟨11, 0, 0⟩, ⟨9, 0, 0⟩] ++ [⟨5, 0, 0⟩, ⟨9, 0, 0⟩, ⟨1, 0, 0⟩])) := hid (OwnN.termV hown4 (by decide))
    clear hown4 happ4
    refine hK.out _ _ (by exact ((HB4.out).cell (p := ⟨w.heap.size, 0, none⟩) hlt3).trans HZ1.out) fun hHeld => ?_
    clear hK K
    try simp only [p7]
    refine r1 7 fun K hK => ?_
    go_simp
    have HEV := hid (seval_any HBK4.out 9 HT4.out)
    refine (HEV.out).mono ?_
    rintro e w9 ⟨hb9, A9, n9, c9, rfl, _⟩
    rw [aw2]
    have HB9 : Hid (Below w3.heap.size w3 w9) := bto HB4 hb9
    clear hb9
    go_wp2_with fail
    refine hK.out _ _ (by exact ((HB9.out).cell (p := ⟨w.heap.size, 0, none⟩) hlt3).trans HZ1.out) fun hHeld => ?_
    clear hK K
    try simp only [p7]
    refine tq 8 hHeld ?_
    try simp only [p7]
    refine tq 9 hHeld ?_
    try simp only [p7]
    refine tq 10 hHeld ?_
    try simp only [p7]
    refine tq 11 hHeld ?_
    try simp only [p7]
    refine tq 12 hHeld ?_
    try simp only [p7]
    refine tq 13 hHeld ?_
    try simp only [p7]
    refine tq 14 hHeld ?_
    try simp only [p7]
    refine wpAnyH_done (by kernel_rfl) ?_ _
    go_wp2_with fail
    go_meet
    exact ⟨rfl, HB9⟩
  go_simp
  refine hK.out _ _ (by exact ((HBl.out).cell (p := ⟨w.heap.size, 0, none⟩) hlt3).trans HZ1.out) fun hHeld => ?_
  clear hK K
  try simp only [p7]
  refine r1 0 fun K hK => ?_
  go_simp
  refine snums_any.mono ?_
  rintro e wa ⟨hba, ga, rfl, hbka⟩
  have HBa : Hid (Below w3.heap.size w3 wa) := hid ((HBl.out).trans (hba.mono (HBl.out).size))
  have HKA := hid hbka
  have HBQ := hid hba
  clear hba hbka
  go_wp2_with fail
  refine hK.out _ _ (by exact ((HBa.out).cell (p := ⟨w.heap.size, 0, none⟩) hlt3).trans HZ1.out) fun hHeld => ?_
  clear hK K
  try simp only [p7]
  have HOw := hid (own_below HOl.out HBQ.out)
  refine r1 6 fun K hK => ?_
  refine oper_append_row (.tmp 27) (.tmp 29) 28 28 rfl w3.heap.size i0 Try.underlying28 Try.underlying28 HI0.out HY0.out HY1.out HY2.out (.slice (some ⟨w3.drew.heap.size, 0, none⟩) 2 2) [⟨11, 0, 0⟩, ⟨9, 0, 0⟩] [⟨5, 0, 0⟩, ⟨9, 0, 0⟩, ⟨1, 0, 0⟩] (by rfl) HOw.out (by rfl) (HCR.out _ (HB13.out.trans (HBa.out.mono HB13.out.size))) (by decide) HBa.out.size ?_
  intro A4 c4 w4 hown4 happ4
  have HB4 : Hid (Below w3.heap.size w3 w4) := hid (HBa.out.grown happ4.grown HBa.out.size (fun g hg => (ownsRow_block HOw.out hg).1))
  have HBK4 : Hid (BookV w4 (numV ga) numsB) := hid (HKA.out w4 (fun q h1 h2 => happ4.grown.block q h2 (fun e => by injection e with e; have e2 : q = w3.heap.size := e; have h3 : w3.heap.size + 1 ≤ q := HSL.out ▸ h1; omega)))
  have HT4 : Hid (TermV w4 A4 5 c4 ([⟨11, 0, 0⟩, ⟨9, 0, 0⟩] ++ [⟨5, 0, 0⟩, ⟨9, 0, 0⟩, ⟨1, 0, 0⟩])) := hid (OwnN.termV hown4 (by decide))
  clear hown4 happ4
  refine hK.out _ _ (by exact ((HB4.out).cell (p := ⟨w.heap.size, 0, none⟩) hlt3).trans HZ1.out) fun hHeld => ?_
  clear hK K
  try simp only [p7]
  refine r1 7 fun K hK => ?_
  go_simp
  have HEV := hid (seval_any HBK4.out 9 HT4.out)
  refine (HEV.out).mono ?_
  rintro e w9 ⟨hb9, A9, n9, c9, rfl, _⟩
  rw [aw2]
  have HB9 : Hid (Below w3.heap.size w3 w9) := bto HB4 hb9
  clear hb9
  go_wp2_with fail
  refine hK.out _ _ (by exact ((HB9.out).cell (p := ⟨w.heap.size, 0, none⟩) hlt3).trans HZ1.out) fun hHeld => ?_
  clear hK K
  try simp only [p7]
  refine tq 8 hHeld ?_
  try simp only [p7]
  refine tq 9 hHeld ?_
  try simp only [p7]
  refine tq 10 hHeld ?_
  try simp only [p7]
  refine tq 11 hHeld ?_
  try simp only [p7]
  refine tq 12 hHeld ?_
  try simp only [p7]
  refine tq 13 hHeld ?_
  try simp only [p7]
  refine tq 14 hHeld ?_
  try simp only [p7]
  refine wpAnyH_done (by kernel_rfl) ?_ _
  go_wp2_with fail
  go_meet
  exact ⟨rfl, HB9⟩
 case rest =>
 obtain ⟨rfl, hb4⟩ := hcut
 have HB4w := hid (HB3w.out.trans (hb4.out.mono HB3w.out.size))
 have HB14 := hid (HB13.out.trans (hb4.out.mono HB13.out.size))
 have HZ4 := hid ((hb4.out.cell (p := ⟨w.heap.size, 0, none⟩) hlt3).trans HZ1.out)
 obtain ⟨b3, o3, rfl, hb3, hc3, _, _⟩ := TermV.at_ HT3.out (p := 0) (by rw [← HT3.out.len]; decide)
 have hn3 : n3 = 1 := HT3.out.len.symm
 subst hn3
 simp only [Nat.zero_mul, Nat.add_zero] at hc3
 have hc3' : w3.cell? ⟨b3, o3, none⟩ = some (.int .i64 10) := hc3
 have hc4 := (hb4.out.cell (p := ⟨b3, o3, none⟩) hb3).trans hc3'
 have hsz4 := HB14.out.size
 have hb34 : b3 < wc.heap.size := Nat.lt_of_lt_of_le hb3 hb4.out.size
 have hlt4 : w.heap.size < wc.heap.size := by have := hb4.out.size; omega
 clear hc3 hc3' HT3 HZ1 hb3
 go_upto_region 4 with fail
 refine wp_region_held_drew (S := (fun w' => w'.cell? ⟨w.heap.size, 0, none⟩ = some (.int .i64 6))) (by kernel_rfl) ?_ (fun hHeld => ?_)
 · (try dsimp only); exact HZ4.out
 refine tq 1 hHeld ?_
 try simp only [p7]
 refine tq 2 hHeld ?_
 try simp only [p7]
 refine r1 0 fun K hK => ?_
 go_simp
 refine snums_any.mono ?_
 rintro e wa ⟨hba, ga, rfl, hbka⟩
 have HBa : Hid (Below wc.heap.size wc wa) := hid ((below_drewN (Below.refl wc.heap.size wc) 1).trans (hba.mono (below_drewN (Below.refl wc.heap.size wc) 1).size))
 have HV := hid (svalue_any (hbka wa (fun _ _ _ => rfl)) (HCR.out wa (HB14.out.trans (HBa.out.mono HB14.out.size))))
 rw [aw3.1, aw3.2] at HV
 clear hba hbka
 go_wp2_with fail
 refine hK.out _ _ (by exact ((HBa.out).cell (p := ⟨w.heap.size, 0, none⟩) hlt4).trans HZ4.out) fun hHeld => ?_
 clear hK K
 try simp only [p7]
 refine r1 3 fun K hK => ?_
 go_simp
 refine (HV.out).mono ?_
 rintro e w5 ⟨rfl, hb5⟩
 have HB5 : Hid (Below wc.heap.size wc w5) := bto HBa hb5
 clear hb5
 go_wp2_with fail
 refine hK.out _ _ (by exact ((HB5.out).cell (p := ⟨w.heap.size, 0, none⟩) hlt4).trans HZ4.out) fun hHeld => ?_
 clear hK K
 try simp only [p7]
 refine tq 4 hHeld ?_
 try simp only [p7]
 refine tq 5 hHeld ?_
 try simp only [p7]
 refine tq 6 hHeld ?_
 try simp only [p7]
 refine tq 7 hHeld ?_
 try simp only [p7]
 refine tq 8 hHeld ?_
 try simp only [p7]
 refine wpAnyH_done (by kernel_rfl) ?_ _
 have hc5 := (HBa.out.cell (p := ⟨b3, o3, none⟩) hb34).trans hc4
 have hc6 := (HB5.out.cell (p := ⟨b3, o3, none⟩) hb34).trans hc4
 clear hc4 hc5
 go_wp2_with fail
 go_ret
 exact ⟨rfl, HB4w.out.trans (HB5.out.mono HB4w.out.size)⟩
end Go.Proofs.Ytjllmblbbgojbaa
