/- Merged: Read, Read2, Read3. -/
import Derived.Test.YtplecfbdchmogaaGreatProg
import Derived.Test.YtplecfbdchmogaaGreatVBase
import Derived.Test.YtplecfbdchmogaaGreatVLeafs
import Derived.Test.YtplecfbdchmogaaGreatVKidss
import Derived.WalkKit
import Derived.WalkLawsBesides
import Derived.WalkSpells
import Derived.Lib.Hide
import Derived.Deep.QuietTactic
import Derived.BigQuiet
namespace Go.Proofs.YtplecfbdchmogaaGreat
open Go.Lib (hid)
set_option maxHeartbeats 4000000
set_option maxRecDepth 100000
section
open Go.RowKit
def treeNil : Value := .agg #[.int .i64 0, .int .i64 0, .int .i64 0, .slice none 0 0, .slice none 0 0, .slice none 0 0]
def ReadPost (l : List Nd) (w : World) (e : Ending) (w' : World) : Prop :=
 Below w.heap.size w w' ∧ match pp [false] l with
  | some (.cons _ n atoms kids _, r) => ∃ xs, e = .returned (.tuple #[.agg xs.toArray, .int .i64 ((l.length - r.length : Nat) : Int), .bool true]) ∧ TreeC (fresh w w') w' xs n atoms kids
  | _ => e = .returned (.tuple #[treeNil, .int .i64 0, .bool false])
theorem Tryz.infoN : (Tryz.prog.info? 53).map (fun i => (i.zero, i.size, i.bytes)) = some (some (.agg #[.int .i64 0, .int .i64 0, .int .i64 0]), 3, 24) := by kernel_rfl
theorem Tryz.infoT : (Tryz.prog.info? 131).map (fun i => (i.zero, i.size, i.bytes)) = some (some treeNil, 6, 96) := by kernel_rfl
theorem readPost_none {l : List Nd} {w w' : World} (h : pp [false] l = none) (hb : Below w.heap.size w w') : ReadPost l w (.returned (.tuple #[treeNil, .int .i64 0, .bool false])) w' := by
 refine ⟨hb, ?_⟩
 rw [h]
theorem below_six {B g : Nat} {w w' : World} (h : Below B w w') (hg : B ≤ g) (a b c d e f : Value) : Below B w ((((((w'.setCell ⟨g, 0, none⟩ a).setCell ⟨g, 1, none⟩ b).setCell ⟨g, 2, none⟩ c).setCell ⟨g, 3, none⟩ d).setCell ⟨g, 4, none⟩ e).setCell ⟨g, 5, none⟩ f) :=
 (((((h.setCell (p := ⟨g, 0, none⟩) hg a).setCell (p := ⟨g, 1, none⟩) hg b).setCell (p := ⟨g, 2, none⟩) hg c).setCell (p := ⟨g, 3, none⟩) hg d).setCell (p := ⟨g, 4, none⟩) hg e).setCell (p := ⟨g, 5, none⟩) hg f
theorem results_read {w : World} {g : Nat} {c0 c1 c2 c3 c4 c5 : Value} {tmps : Array Value} (h : Blk w g 131 #[c0, c1, c2, c3, c4, c5]) (ht : tmps.getD 2 undef = .pointer (some ⟨g, 0, none⟩)) :
 (results Tryz.f123 tmps).run Tryz.prog w = .ok (.tuple #[.agg #[c0, c1, c2, c3, c4, c5], tmps.getD 3 undef, tmps.getD 4 undef]) w := by
 have hc := h.cell
 have ht' : tmps[2]?.getD undef = .pointer (some ⟨g, 0, none⟩) := by rw [← ht]; simp
 simp [results, Tryz.results123, go_sem, ht', hc]
theorem read_none {A : Option Addr} {c : Nat} {l : List Nd} {w : World} (h : TermV w A 0 c l) :
 Calls Tryz.prog 123 #[.slice A 0 c] w (ReadPost l w) := by
 have hl : pp [false] l = none := pp_bad _ (fun hp => by rw [h.len] at hp; omega)
 have HPP := hid hl
 clear hl
 go_in
 go_wp2_with fail
 refine bodyPost_ret (v := .tuple #[treeNil, .int .i64 0, .bool false]) (by simp [results, Tryz.results123, go_sem, treeNil]) rfl (readPost_none HPP.out (below_alloc _ _))
theorem read_sort {A : Option Addr} {n c : Nat} {l : List Nd} {w : World} (h : TermV w A n c l) (hn : 0 < n) (hop : ((nth l 0).op == 2) = true) (hok : okN (nth l 0) = true) (K : Nat) (hK : (nth l 0).b = K) :
 Calls Tryz.prog 123 #[.slice A n c] w (ReadPost l w) := by
 have hfew := h.few
 have hK4 : K ≤ 4 := by
  simp at hop
  rw [okN_iff, plainB_iff] at hok; omega
 obtain ⟨b, off, rfl, hb, c0, c1, c2⟩ := h.at_ hn
 have hpp : pp [false] l = (takeAtoms K (-1) (l.drop 1)).map fun q => (.cons [] (nth l 0) q.1 .nil .nil, q.2) := by
  rw [pp_sort (by rw [h.len]; exact hn) hok (by simpa using hop), hK, Int.toNat_natCast]
 have HPP := hid hpp
 clear hpp
 have hok2 : okN ⟨(nth l 0).op, (nth l 0).a, K⟩ = true := by rw [← hK]; exact hok
 have HK := hid hK
 simp only [Nat.zero_mul, Nat.add_zero, hK] at c0 c1 c2
 clear hK
 have hnk : nkI (nth l 0).op (K : Int) = 0 := by simp at hop; simp [nkI, hop]
 have hn0 : (((n : Nat) : Int) == 0) = false := by simp; omega
 go_in
 go_wp2_with (go_at_call 140; refine (count_yes _ _ _ _ hok2).mono ?_; rintro e w1 ⟨rfl, hb1⟩; obtain ⟨hc1, hf1⟩ := bcell hb1; have hbw : b < w1.heap.size := by (have := hb1.size; simp at this; omega))
 have hz2 : Blk w1 w.heap.size 131 #[.int .i64 0, .int .i64 0, .int .i64 0, .slice none 0 0, .slice none 0 0, .slice none 0 0] := (Blk.new _ _ _).below hb1 (by simp)
 have h1 : TermV w1 (some ⟨b, off, none⟩) n c l := (h.alloc _).below hb1
 have hsz : w.heap.size < w1.heap.size := by have := hb1.size; simp at this; omega
 clear hc1 hf1
 go_loopw [8, 9] (fun a i wr => ∃ (p j : Nat) (ats : List Nd) (A0 : Option Addr) (m0 k0 : Nat), j ≤ K ∧ p ≤ n ∧ a = .int .i64 (p : Int) ∧ i = .int .i64 (j : Int) ∧ p = j + 1 ∧
  takeAtoms K (-1) (l.drop 1) = (takeAtoms (K - j) (if j = 0 then -1 else (nth l j).a) (l.drop p)).map (fun p => (ats ++ p.1, p.2)) ∧ ats.length = j ∧
  Blk wr w1.heap.size 131 #[.int .i64 (nth l 0).op, .int .i64 (nth l 0).a, .int .i64 K, .slice none 0 0, .slice A0 m0 k0, .slice none 0 0] ∧
  OwnN wr (w1.heap.size + 1) (.slice A0 m0 k0) ats ∧ Below w1.heap.size w1 wr) (fun _ i _ => K - (intOf i).toNat)
 case atStart =>
  refine ⟨1, 0, [], none, 0, 0, Nat.zero_le _, hn, rfl, rfl, rfl, ?_, rfl, Blk.new _ _ _, OwnN.nil _ _, below_alloc _ _⟩
  simp only [Nat.sub_zero, if_true, List.nil_append]
  cases takeAtoms K (-1) (l.drop 1) <;> rfl
 case round =>
  obtain ⟨p, j, ats, A0, m0, k0, hj, hpn1, rfl, rfl, hpj, he, hlen, hblk, hown, hbw2⟩ := hrel
  have HP := hid hpj
  have HE := hid he
  have HL := hid hlen
  have hz2' := Blk.below hz2 hbw2 hsz
  have hbx : ∀ (m : Nat) (x : Value), Below w.heap.size w ((((((wr.drewN m).setCell ⟨w.heap.size, 0, none⟩ (.int .i64 0)).setCell ⟨w.heap.size, 1, none⟩ (.int .i64 0)).setCell ⟨w.heap.size, 2, none⟩ (.int .i64 0)).setCell ⟨w.heap.size, 3, none⟩ (.slice none 0 0)).setCell ⟨w.heap.size, 4, none⟩ (.slice none 0 0) |>.setCell ⟨w.heap.size, 5, none⟩ (.slice none 0 0)) := fun m _ =>
   below_six (below_drewN ((below_alloc w _).trans ((hb1.trans (hbw2.mono hb1.size)).mono (by simp))) m) (Nat.le_refl _) _ _ _ _ _ _
  have HBW := hid hbx
  clear hbx
  have hbsz : w1.heap.size + 1 ≤ wr.heap.size := Blk.lt hblk
  have hwr := h1.below hbw2
  have e0 := (h1.below hbw2).cells (p := 0) hn
  simp only [Nat.zero_mul, Nat.add_zero, HK.out] at e0
  obtain ⟨hbr, e0, e1, e2⟩ := e0
  have hprev : ((p : Int) - 1).toNat = j := by rw [hpj]; omega
  have hprev0 : (0 : Int) ≤ (p : Int) - 1 := by rw [hpj]; omega
  have HPR := hid hprev
  clear he hlen c0 c1 c2 hpj hprev
  by_cases hlt : j < K
  rotate_left
  · go_wp2_with fail
    refine wp_loop_once ?_
    have zc7 := Blk.cell hblk
    have zc2 := Blk.cell hz2'
    have zf2 := Blk.frozen hz2'
    go_wp2_with fail
    have hval : pp [false] l = some (.cons [] (nth l 0) ats .nil .nil, l.drop p) := by
     rw [HPP.out, HE.out, show K - j = 0 from by omega]; simp [takeAtoms]
    have hX := ((((((hz2'.set_ 0 (.int .i64 (nth l 0).op)).set_ 1 (.int .i64 (nth l 0).a)).set_ 2 (.int .i64 K)).set_ 3 (.slice none 0 0)).set_ 4 (.slice A0 m0 k0)).set_ 5 (.slice none 0 0))
    have hsl : w.heap.size < w1.heap.size + 1 := by omega
    have hO := (((((hown.setCell (a := ⟨w.heap.size, 0, none⟩) hsl (.int .i64 (nth l 0).op)).setCell (a := ⟨w.heap.size, 1, none⟩) hsl (.int .i64 (nth l 0).a)).setCell (a := ⟨w.heap.size, 2, none⟩) hsl (.int .i64 K)).setCell (a := ⟨w.heap.size, 3, none⟩) hsl (.slice none 0 0)).setCell (a := ⟨w.heap.size, 4, none⟩) hsl (.slice A0 m0 k0)).setCell (a := ⟨w.heap.size, 5, none⟩) hsl (.slice none 0 0)
    have hb0 : Below w.heap.size w wr := (below_alloc w _).trans ((hb1.trans (hbw2.mono hb1.size)).mono (by simp))
    refine bodyPost_ret (v := .tuple #[.agg #[.int .i64 (nth l 0).op, .int .i64 (nth l 0).a, .int .i64 K, .slice none 0 0, .slice A0 m0 k0, .slice none 0 0], .int .i64 p, .bool true]) (results_read hX rfl) rfl ⟨below_six hb0 (Nat.le_refl _) _ _ _ _ _ _, ?_⟩
    rw [hval]
    refine ⟨[.int .i64 (nth l 0).op, .int .i64 (nth l 0).a, .int .i64 K, .slice none 0 0, .slice A0 m0 k0, .slice none 0 0], ?_, _, _, _, by rw [HK.out], KidsS.nil _ _, (hO.termS (by have := HL.out; omega)).keep fun b hb => ⟨⟨?_, ?_⟩, fun _ => rfl⟩, TermS.nil _ _⟩
    · rw [List.length_drop, h.len, show n - (n - p) = p from by omega]
    · have := (ownsRow_block hO hb).1; omega
    exact (ownsRow_block hO hb).2.1
  by_cases hpn : p < n
  · obtain ⟨_, d0, d1, d2⟩ := hwr.cells hpn
    have hge : decide (n ≤ p) = false := by simp; omega
    by_cases h3 : (nth l p).op = 3
    rotate_left
    · have h3b : ((nth l p).op != 3) = true := by simp [h3]
      have H3 := hid h3
      clear h3
      go_wp2_with fail
      go_quiet ((go_at_call 141; first | exact within_qt _ _ _ _ _ (by omega) | exact within_qf _ _ _ _ _ (by omega)))
      have zc2 := Blk.cell hz2'
      have zf2 := Blk.frozen hz2'
      go_wp2_with fail
      refine bodyPost_ret (v := .tuple #[treeNil, .int .i64 0, .bool false]) (results_read ((((((((hz2'.drewN _).set_ 0 _).set_ 1 _).set_ 2 _).set_ 3 _).set_ 4 _).set_ 5 _)) rfl) rfl (readPost_none ?_ (HBW.out _ (.int .i64 0)))
      rw [HPP.out, HE.out, show K - j = (K - (j + 1)) + 1 from by omega, takeAtoms_fail (fun _ hh _ _ => H3.out hh)]; rfl
    have h3b : ((nth l p).op != 3) = false := by simp [h3]
    have hpl : (0 ≤ (nth l p).a ∧ (nth l p).a ≤ 16) ∧ (0 ≤ (nth l p).b ∧ (nth l p).b ≤ 1000) → plainB (nth l p).op (nth l p).a (nth l p).b = true := fun hh => by rw [plainB_iff]; omega
    have hpl2 : plainB (nth l p).op (nth l p).a (nth l p).b = true → (0 ≤ (nth l p).a ∧ (nth l p).a ≤ 16) ∧ (0 ≤ (nth l p).b ∧ (nth l p).b ≤ 1000) := fun hh => by rw [plainB_iff] at hh; omega
    have HPL := hid hpl
    have HPL2 := hid hpl2
    have H3 := hid h3
    clear h3 hpl hpl2
    by_cases ha : 0 ≤ (nth l p).a ∧ (nth l p).a ≤ 16
    rotate_left
    · go_wp2_with fail
      go_quiet ((go_at_call 141; first | exact within_qt _ _ _ _ _ (by omega) | exact within_qf _ _ _ _ _ (by omega)))
      have zc2 := Blk.cell hz2'
      have zf2 := Blk.frozen hz2'
      go_wp2_with fail
      refine bodyPost_ret (v := .tuple #[treeNil, .int .i64 0, .bool false]) (results_read ((((((((hz2'.drewN _).set_ 0 _).set_ 1 _).set_ 2 _).set_ 3 _).set_ 4 _).set_ 5 _)) rfl) rfl (readPost_none ?_ (HBW.out _ (.int .i64 0)))
      rw [HPP.out, HE.out, show K - j = (K - (j + 1)) + 1 from by omega, takeAtoms_fail (fun _ _ hh _ => ha (HPL2.out hh).1)]; rfl
    by_cases hbb : 0 ≤ (nth l p).b ∧ (nth l p).b ≤ 1000
    · by_cases hj0 : 0 < j
      · obtain ⟨_, f0, f1, f2⟩ := hwr.cells (p := j) (by have := HP.out; omega)
        have hjb : decide (0 < j) = true := by simp [hj0]
        have hprev2 : (p : Int) - 1 < n := by omega
        have hprevw : IntKind.i64.wrap ((p : Int) - 1) = (p : Int) - 1 := IntWalk.i64_in _ (by omega)
        by_cases hla : (nth l p).a ≤ (nth l j).a
        · have hla1 : decide ((nth l p).a ≤ (nth l j).a) = true := by simp [hla]
          have hprev := HPR.out
          go_wp2_with fail
          go_quiet ((go_at_call 141; first | exact within_qt _ _ _ _ _ (by omega) | exact within_qf _ _ _ _ _ (by omega)))
          clear hprev hprevw hprev2
          have zc2 := Blk.cell hz2'
          have zf2 := Blk.frozen hz2'
          go_wp2_with fail
          refine bodyPost_ret (v := .tuple #[treeNil, .int .i64 0, .bool false]) (results_read ((((((((hz2'.drewN _).set_ 0 _).set_ 1 _).set_ 2 _).set_ 3 _).set_ 4 _).set_ 5 _)) rfl) rfl (readPost_none ?_ (HBW.out _ (.int .i64 0)))
          rw [HPP.out, HE.out, show K - j = (K - (j + 1)) + 1 from by omega, takeAtoms_fail (fun _ _ _ hh => by rw [if_neg (by omega)] at hh; omega)]; rfl
        have hla1 : decide ((nth l p).a ≤ (nth l j).a) = false := by simp; omega
        have hprev := HPR.out
        go_wp2_with fail
        go_quiet ((go_at_call 141; first | exact within_qt _ _ _ _ _ (by omega) | exact within_qf _ _ _ _ _ (by omega)))
        clear hprev hprevw hprev2
        go_wp2_with fail
        have z0a : ∀ (m : Nat) (o : Obj), ((wr.drewN m).alloc o).cell? ⟨w1.heap.size, 4, none⟩ = some (.slice A0 m0 k0) := fun m o => (Blk.alloc (hblk.drewN m) o).cell 4
        have z0 : wr.cell? ⟨w1.heap.size, 4, none⟩ = some (.slice A0 m0 k0) := hblk.cell 4
        obtain ⟨i0, hi, hy0, hy1, hy2⟩ := info_parts Tryz.infoN
        have HI := hid hi
        have HY0 := hid hy0
        have HY1 := hid hy1
        have HY2 := hid hy2
        clear hi hy0 hy1 hy2
        go_region_law (refine step_oper rfl (oper_append_node (.tmp 95) (.tmp 100) 27 rfl (w1.heap.size + 1) i0 Tryz.underlying27 HI.out HY0.out HY1.out HY2.out (.slice A0 m0 k0) ats (nth l p) _ rfl rfl hown _ rfl (by simp) (by have := HL.out; omega) hbsz ?_); intro A' c' w' hown' happ; have hgrow' := happ.grown; have zb := Blk.grown (hblk.drewN _) hgrow' (own_ne hown (Nat.lt_succ_self _)); have zc : w'.cell? ⟨w1.heap.size, 4, none⟩ = some (.slice A0 m0 k0) := zb.cell 4; have zf := zb.frozen 4)
        all_goals
         go_wp2_with fail
         go_roundw
         case rel =>
          refine ⟨p + 1, j + 1, ats ++ [nth l p], _, _, _, hlt, hpn, by go_num, by go_num, by have := HP.out; omega, ?_, by simp [HL.out], zb.set_ 4 _, hown'.setCell (Nat.lt_succ_self _) _, ((below_drewN hbw2 _).grown hgrow' (by simp; omega) (fun g hg => by have := (ownsRow_block hown hg).1; omega)).setCell (Nat.le_refl _) _⟩
          rw [HE.out, show K - j = (K - (j + 1)) + 1 from by omega, takeAtoms_step (by rw [h.len]; exact hpn) H3.out (HPL.out ⟨by omega, by omega⟩) (by rw [if_neg (by omega)]; omega), if_neg (by omega), ← HP.out]
          rw [Option.map_map]; congr 1; funext q; simp
         case measure => simp [intOf]; omega
      have hj0b : decide (0 < j) = false := by simp [hj0]
      go_wp2_with fail
      go_quiet ((go_at_call 141; first | exact within_qt _ _ _ _ _ (by omega) | exact within_qf _ _ _ _ _ (by omega)))
      go_wp2_with fail
      have z0a : ∀ (m : Nat) (o : Obj), ((wr.drewN m).alloc o).cell? ⟨w1.heap.size, 4, none⟩ = some (.slice A0 m0 k0) := fun m o => (Blk.alloc (hblk.drewN m) o).cell 4
      have z0 : wr.cell? ⟨w1.heap.size, 4, none⟩ = some (.slice A0 m0 k0) := hblk.cell 4
      obtain ⟨i0, hi, hy0, hy1, hy2⟩ := info_parts Tryz.infoN
      have HI := hid hi
      have HY0 := hid hy0
      have HY1 := hid hy1
      have HY2 := hid hy2
      clear hi hy0 hy1 hy2
      go_region_law (refine step_oper rfl (oper_append_node (.tmp 95) (.tmp 100) 27 rfl (w1.heap.size + 1) i0 Tryz.underlying27 HI.out HY0.out HY1.out HY2.out (.slice A0 m0 k0) ats (nth l p) _ rfl rfl hown _ rfl (by simp) (by have := HL.out; omega) hbsz ?_); intro A' c' w' hown' happ; have hgrow' := happ.grown; have zb := Blk.grown (hblk.drewN _) hgrow' (own_ne hown (Nat.lt_succ_self _)); have zc : w'.cell? ⟨w1.heap.size, 4, none⟩ = some (.slice A0 m0 k0) := zb.cell 4; have zf := zb.frozen 4)
      all_goals
       go_wp2_with fail
       go_roundw
       case rel =>
        refine ⟨p + 1, j + 1, ats ++ [nth l p], _, _, _, hlt, hpn, by go_num, by go_num, by have := HP.out; omega, ?_, by simp [HL.out], zb.set_ 4 _, hown'.setCell (Nat.lt_succ_self _) _, ((below_drewN hbw2 _).grown hgrow' (by simp; omega) (fun g hg => by have := (ownsRow_block hown hg).1; omega)).setCell (Nat.le_refl _) _⟩
        rw [HE.out, show K - j = (K - (j + 1)) + 1 from by omega, takeAtoms_step (by rw [h.len]; exact hpn) H3.out (HPL.out ⟨by omega, by omega⟩) (by rw [if_pos (by omega)]; omega), if_neg (by omega), ← HP.out]
        rw [Option.map_map]; congr 1; funext q; simp
       case measure => simp [intOf]; omega
    go_wp2_with fail
    go_quiet ((go_at_call 141; first | exact within_qt _ _ _ _ _ (by omega) | exact within_qf _ _ _ _ _ (by omega)))
    have zc2 := Blk.cell hz2'
    have zf2 := Blk.frozen hz2'
    go_wp2_with fail
    refine bodyPost_ret (v := .tuple #[treeNil, .int .i64 0, .bool false]) (results_read ((((((((hz2'.drewN _).set_ 0 _).set_ 1 _).set_ 2 _).set_ 3 _).set_ 4 _).set_ 5 _)) rfl) rfl (readPost_none ?_ (HBW.out _ (.int .i64 0)))
    rw [HPP.out, HE.out, show K - j = (K - (j + 1)) + 1 from by omega, takeAtoms_fail (fun _ _ hh _ => hbb (HPL2.out hh).2)]; rfl
  have hge : decide (n ≤ p) = true := by simp; omega
  go_wp2_with fail
  go_quiet ((go_at_call 141; first | exact within_qt _ _ _ _ _ (by omega) | exact within_qf _ _ _ _ _ (by omega)))
  have zc2 := Blk.cell hz2'
  have zf2 := Blk.frozen hz2'
  go_wp2_with fail
  refine bodyPost_ret (v := .tuple #[treeNil, .int .i64 0, .bool false]) (results_read ((((((((hz2'.drewN _).set_ 0 _).set_ 1 _).set_ 2 _).set_ 3 _).set_ 4 _).set_ 5 _)) rfl) rfl (readPost_none ?_ (HBW.out _ (.int .i64 0)))
  rw [HPP.out, HE.out, show K - j = (K - (j + 1)) + 1 from by omega, takeAtoms_fail (fun hh _ _ _ => hpn (by rw [h.len] at hh; exact hh))]; rfl
end
section
open Go.RowKit
def Beside (B : Nat) (w : World) (u v : Value) (b : Nat) : Prop := B ≤ b ∧ b < w.heap.size ∧ u.ownBlock ≠ some b ∧ v.ownBlock ≠ some b
theorem foc_step {B : Nat} {wr w2 W w' wf : World} {e1 e2 : TypeId} {s1 s2 n1 n2 : Nat} {u v : Value} {x1 x2 : List Value} {F : Fo} {xs ys : List Value} {nd : Nd} {ats : List Nd} {ks : Fo} {pre : List Nd} {A' : Option Addr} {m c' : Nat} {zs : List Value}
 (hfc : FoC (Beside B wr u v) wr F xs) (ht : TreeC (fresh wr w2) w2 ys nd ats ks) (hb : Below wr.heap.size wr w2) (hB : B ≤ wr.heap.size)
 (h1 : wr.ownsRow B e1 s1 u n1 x1) (h2 : wr.ownsRow B e2 s2 v n2 x2) (hW : Below w2.heap.size w2 W) (hap : Appended W w' B e1 s1 u A' m c' zs)
 (hwf : ∀ b, B ≤ b → ∀ o, wf.cell? ⟨b, o, none⟩ = w'.cell? ⟨b, o, none⟩) (hws : wf.heap.size = w'.heap.size) :
 FoC (Beside B wf (.slice A' m c') v) wf (F.app (.cons pre nd ats ks .nil)) (xs ++ ys) := by
 have hWs := hW.size
 have hbs := hb.size
 have hgs := hap.grown.size
 have hcell : ∀ b, b < w2.heap.size → B ≤ b → u.ownBlock ≠ some b → ∀ o, wf.cell? ⟨b, o, none⟩ = w2.cell? ⟨b, o, none⟩ := fun b hb1 hb2 hb3 o => by
  rw [hwf b hb2 o, World.cell?_of_block (w := W) (hap.grown.block b (by omega) (fun e => hb3 e.symm)), hW.cell (p := ⟨b, o, none⟩) hb1]
 have hnew : ∀ b, b < w2.heap.size → u.ownBlock ≠ some b → (Value.slice A' m c').ownBlock ≠ some b := fun b hb1 hb2 e => by
  rcases hap.new b e with e | e
  · exact hb2 e
  omega
 refine FoC.app F _ xs ys (FoC.keep ?_ F xs hfc) ?_
 · rintro b ⟨hb1, hb2, hb3, hb4⟩
   refine ⟨⟨hb1, by omega, hnew b (by omega) hb3, hb4⟩, fun o => ?_⟩
   rw [hcell b (by omega) hb1 hb3, hb.cell (p := ⟨b, o, none⟩) hb2]
 refine ⟨ys, [], by simp, ht.keep ?_, rfl⟩
 rintro b ⟨hb1, hb2⟩
 have hu : u.ownBlock ≠ some b := fun e => by have := (ownsRow_block h1 e).2.1; omega
 have hv : v.ownBlock ≠ some b := fun e => by have := (ownsRow_block h2 e).2.1; omega
 exact ⟨⟨by omega, by omega, hnew b hb2 hu, hv⟩, hcell b hb2 (by omega) hu⟩
theorem foc_funs {B : Nat} {wr w' : World} {u v : Value} {F : Fo} {xs : List Value} {A' : Option Addr} {m c' base : Nat} {e : TypeId} {sz : Nat} {zs : List Value} (hfc : FoC (Beside B wr u v) wr F xs) (hap : Appended wr.drew w' base e sz v A' m c' zs)
 (g i : Nat) (x : Value) (hg : g < B) : FoC (Beside B (w'.setCell ⟨g, i, none⟩ x) u (.slice A' m c')) (w'.setCell ⟨g, i, none⟩ x) F xs := by
 refine FoC.keep ?_ F xs hfc
 rintro b ⟨hb1, hb2, hb3, hb4⟩
 have hs := hap.grown.size
 have hs' : wr.heap.size ≤ w'.heap.size := hs
 refine ⟨⟨hb1, by simp [World.setCell]; omega, hb3, fun hh => ?_⟩, fun o => ?_⟩
 · rcases hap.new b hh with hh | hh
   · exact hb4 hh
   have : wr.heap.size ≤ b := hh
   omega
 rw [World.cell?_setCell_other _ _ _ _ (fun hh => by injection hh with hh; omega), World.cell?_of_block (w := wr.drew) (hap.grown.block b hb2 (fun hh => hb4 hh.symm))]
 rfl
theorem own_six {w : World} {base : Nat} {e : TypeId} {size : Nat} {v : Value} {n : Nat} {xs : List Value} (h : w.ownsRow base e size v n xs) {g : Nat} (hg : g < base) (a b c d x y : Value) :
 ((((((w.setCell ⟨g, 0, none⟩ a).setCell ⟨g, 1, none⟩ b).setCell ⟨g, 2, none⟩ c).setCell ⟨g, 3, none⟩ d).setCell ⟨g, 4, none⟩ x).setCell ⟨g, 5, none⟩ y).ownsRow base e size v n xs :=
 ownsRow_setCell_below (ownsRow_setCell_below (ownsRow_setCell_below (ownsRow_setCell_below (ownsRow_setCell_below (ownsRow_setCell_below h (a := ⟨g, 0, none⟩) hg a) (a := ⟨g, 1, none⟩) hg b) (a := ⟨g, 2, none⟩) hg c) (a := ⟨g, 3, none⟩) hg d) (a := ⟨g, 4, none⟩) hg x) (a := ⟨g, 5, none⟩) hg y
theorem cell_six (w : World) {g b' : Nat} (hb : b' ≠ g) (a b c d x y : Value) (o : Nat) :
 ((((((w.setCell ⟨g, 0, none⟩ a).setCell ⟨g, 1, none⟩ b).setCell ⟨g, 2, none⟩ c).setCell ⟨g, 3, none⟩ d).setCell ⟨g, 4, none⟩ x).setCell ⟨g, 5, none⟩ y).cell? ⟨b', o, none⟩ = w.cell? ⟨b', o, none⟩ := by
 have hne : ∀ i, (⟨g, i, none⟩ : Addr) ≠ ⟨b', o, none⟩ := fun i hh => by injection hh with hh; exact hb hh.symm
 rw [World.cell?_setCell_other _ _ _ _ (hne 5), World.cell?_setCell_other _ _ _ _ (hne 4), World.cell?_setCell_other _ _ _ _ (hne 3), World.cell?_setCell_other _ _ _ _ (hne 2), World.cell?_setCell_other _ _ _ _ (hne 1), World.cell?_setCell_other _ _ _ _ (hne 0)]
theorem read_node {A : Option Addr} {n c : Nat} {l : List Nd} {w : World} (h : TermV w A n c l) (hn : 0 < n) (hop : ((nth l 0).op == 2) = false) (hok : okN (nth l 0) = true)
 (ih : ∀ (w : World) (A : Option Addr) (m c : Nat) (l' : List Nd), TermV w A m c l' → m < n → Calls Tryz.prog 123 #[.slice A m c] w (ReadPost l' w)) :
 Calls Tryz.prog 123 #[.slice A n c] w (ReadPost l w) := by
 have hfew := h.few
 have HI := hid ih
 have hpp : pp [false] l = (pp (ds (nth l 0)) (l.drop 1)).map fun q => (.cons [] (nth l 0) [] q.1 .nil, q.2) := pp_node (by rw [h.len]; exact hn) hok (by simpa using hop)
 have HPP := hid hpp
 clear hpp ih
 obtain ⟨hk0, hk18⟩ := nkI_bd hok
 obtain ⟨K, hK⟩ := Int.eq_ofNat_of_zero_le hk0
 have hK18 : K ≤ 18 := by omega
 have hdl : (ds (nth l 0)).length = K := by rw [ds_len hok, hK]; rfl
 have HDL := hid hdl
 clear hk0 hk18 hdl
 obtain ⟨b, off, rfl, hb, c0, c1, c2⟩ := h.at_ hn
 simp only [Nat.zero_mul, Nat.add_zero] at c0 c1 c2
 have hok2 : okN ⟨(nth l 0).op, (nth l 0).a, (nth l 0).b⟩ = true := hok
 have hn0 : (((n : Nat) : Int) == 0) = false := by simp; omega
 go_in
 go_wp2_with (go_at_call 140; refine (count_yes _ _ _ _ hok2).mono ?_; rintro e w1 ⟨rfl, hb1⟩; obtain ⟨hc1, hf1⟩ := bcell hb1; have hbw : b < w1.heap.size := by (have := hb1.size; simp at this; omega))
 have hz2 : Blk w1 w.heap.size 131 #[.int .i64 0, .int .i64 0, .int .i64 0, .slice none 0 0, .slice none 0 0, .slice none 0 0] := (Blk.new _ _ _).below hb1 (by simp)
 have h1 : TermV w1 (some ⟨b, off, none⟩) n c l := (h.alloc _).below hb1
 have hsz : w.heap.size < w1.heap.size := by have := hb1.size; simp at this; omega
 clear hc1 hf1
 go_loopw [8, 10] (fun a i wr => ∃ (p j : Nat) (F : Fo) (A1 : Option Addr) (k1 : Nat) (A2 : Option Addr) (m2 k2 : Nat) (xs : List Value), j ≤ K ∧ p ≤ n ∧ 1 ≤ p ∧ a = .int .i64 (p : Int) ∧ i = .int .i64 (j : Int) ∧
  pp (ds (nth l 0)) (l.drop 1) = (pp ((ds (nth l 0)).drop j) (l.drop p)).map (fun y => (F.app y.1, y.2)) ∧ flen F = j ∧ (press F).length ≤ j ∧
  Blk wr w1.heap.size 131 #[.int .i64 (nth l 0).op, .int .i64 (nth l 0).a, .int .i64 (nth l 0).b, .slice A1 j k1, .slice none 0 0, .slice A2 m2 k2] ∧
  wr.ownsRow (w1.heap.size + 1) 131 6 (.slice A1 j k1) j xs ∧ FoC (Beside (w1.heap.size + 1) wr (.slice A1 j k1) (.slice A2 m2 k2)) wr F xs ∧
  OwnN wr (w1.heap.size + 1) (.slice A2 m2 k2) (press F) ∧ Below w1.heap.size w1 wr) (fun _ i _ => K - (intOf i).toNat)
 case atStart =>
  refine ⟨1, 0, .nil, none, 0, none, 0, 0, [], Nat.zero_le _, hn, Nat.le_refl _, rfl, rfl, ?_, rfl, Nat.zero_le _, Blk.new _ _ _, World.ownsRow_nil _ _ _ _, rfl, OwnN.nil _ _, below_alloc _ _⟩
  simp only [List.drop_zero, Fo.app]
  cases pp (ds (nth l 0)) (l.drop 1) <;> rfl
 case round =>
  obtain ⟨p, j, F, A1, k1, A2, m2, k2, xs, hj, hpn1, hp1, rfl, rfl, he, hlen, hpl, hblk, hown, hfc, hown2, hbw2⟩ := hrel
  have HE := hid he
  have HL := hid hlen
  have HPL := hid hpl
  have hz2' := Blk.below hz2 hbw2 hsz
  have hwr := h1.below hbw2
  have e0 := (h1.below hbw2).cells (p := 0) hn
  simp only [Nat.zero_mul, Nat.add_zero] at e0
  obtain ⟨hbr, e0, e1, e2⟩ := e0
  have hb0 : Below w.heap.size w wr := (below_alloc w _).trans ((hb1.trans (hbw2.mono hb1.size)).mono (by simp))
  have HB0 := hid hb0
  clear he hlen c0 c1 c2 hpl hb0
  by_cases hlt : j < K
  rotate_left
  · obtain rfl : j = K := by omega
    have zc7 := Blk.cell hblk
    have zc2 := Blk.cell hz2'
    have zf2 := Blk.frozen hz2'
    go_wp2_with fail
    have hval : pp [false] l = some (.cons [] (nth l 0) [] F .nil, l.drop p) := by
     rw [HPP.out, HE.out, List.drop_of_length_le (by rw [HDL.out]; omega), pp_nil]; simp [app_nil]
    have hsl : w.heap.size < w1.heap.size + 1 := by omega
    have hO := own_six hown hsl (.int .i64 (nth l 0).op) (.int .i64 (nth l 0).a) (.int .i64 (nth l 0).b) (.slice A1 j k1) (.slice none 0 0) (.slice A2 m2 k2)
    have hO2 : OwnN _ _ _ _ := own_six hown2 hsl (.int .i64 (nth l 0).op) (.int .i64 (nth l 0).a) (.int .i64 (nth l 0).b) (.slice A1 j k1) (.slice none 0 0) (.slice A2 m2 k2)
    refine bodyPost_ret (v := .tuple #[.agg #[.int .i64 (nth l 0).op, .int .i64 (nth l 0).a, .int .i64 (nth l 0).b, .slice A1 j k1, .slice none 0 0, .slice A2 m2 k2], .int .i64 p, .bool true]) (results_read ((((((hz2'.set_ 0 _).set_ 1 _).set_ 2 _).set_ 3 _).set_ 4 _).set_ 5 _) rfl) rfl ⟨below_six HB0.out (Nat.le_refl _) _ _ _ _ _ _, ?_⟩
    rw [hval]
    refine ⟨[.int .i64 (nth l 0).op, .int .i64 (nth l 0).a, .int .i64 (nth l 0).b, .slice A1 j k1, .slice none 0 0, .slice A2 m2 k2], ?_, _, _, _, rfl, kids_of_own (by rw [HL.out]; exact hO) (hfc.keep ?_) ?_, TermS.nil _ _, (hO2.termS (by have := HPL.out; omega)).keep fun b hb => ⟨⟨?_, ?_⟩, fun _ => rfl⟩⟩
    · rw [List.length_drop, h.len, show n - (n - p) = p from by omega]
    · rintro b' ⟨hb1', hb2', _, _⟩
      refine ⟨⟨by omega, by simp [World.setCell]; exact hb2'⟩, fun o => ?_⟩
      exact cell_six wr (Nat.ne_of_gt (by omega : w.heap.size < b')) _ _ _ _ _ _ o
    · intro b' hb'
      exact ⟨by have := (ownsRow_block hO hb').1; omega, (ownsRow_block hO hb').2.1⟩
    · have := (ownsRow_block hO2 hb).1; omega
    exact (ownsRow_block hO2 hb).2.1
  have hdd : (ds (nth l 0)).drop j = decide ((nth l 0).op = 12 ∧ j % 2 = 0) :: (ds (nth l 0)).drop (j + 1) := ds_drop (by rw [HDL.out]; exact hlt)
  have HDD := hid hdd
  clear hdd
  by_cases h12 : (nth l 0).op = 12
  rotate_left
  · have h12b : ((nth l 0).op == 12) = false := by simp [h12]
    have H12 := hid h12
    clear h12
    have hdd2 : (ds (nth l 0)).drop j = false :: (ds (nth l 0)).drop (j + 1) := by rw [HDD.out, decide_eq_false (fun hh => H12.out hh.1)]
    have hst : pp ((ds (nth l 0)).drop j) (l.drop p) = (pp [false] (l.drop p)).bind fun x => (pp ((ds (nth l 0)).drop (j + 1)) x.2).map fun y => (x.1.app y.1, y.2) := by rw [hdd2, pp_false]
    have HST := hid hst
    clear hdd2 hst
    obtain ⟨A', hcut, hT⟩ := cut_from (some ⟨b, off, none⟩) n c p hpn1
    have hT' := hT _ _ _ hwr
    go_wp2_with fail
    refine (HI.out wr A' (n - p) (c - p) (l.drop p) hT' (by omega)).mono ?_
    rintro e w2 ⟨hb2, hpost⟩
    clear hcut hT
    have hblk2 := Blk.below hblk hb2 (Blk.lt hblk)
    have hz22 := Blk.below hz2' hb2 (Blk.lt hz2')
    cases hq : pp [false] (l.drop p) with
    | none =>
     rw [hq] at hpost
     obtain rfl := hpost
     have hno : pp [false] l = none := by rw [HPP.out, HE.out, HST.out, hq]; rfl
     have HNO := hid hno
     clear hno hq
     have zc2 := fun o => Blk.cell (hz22.alloc o)
     have zf2 := fun o => Blk.frozen (hz22.alloc o)
     simp only [treeNil]
     go_wp2_with fail
     refine bodyPost_ret (v := .tuple #[treeNil, .int .i64 0, .bool false]) (results_read (((((((hz22.alloc _).set_ 0 _).set_ 1 _).set_ 2 _).set_ 3 _).set_ 4 _).set_ 5 _) rfl) rfl (readPost_none HNO.out (below_six (HB0.out.trans ((hb2.trans ((below_alloc w2 _).mono hb2.size)).mono HB0.out.size)) (Nat.le_refl _) _ _ _ _ _ _))
    | some x =>
     obtain ⟨nd, ats, ks, hx⟩ := pp_one hq
     obtain ⟨x1, r⟩ := x
     simp only at hx
     subst hx
     rw [hq] at hpost
     obtain ⟨ys, rfl, hty⟩ := hpost
     obtain ⟨sk, sa, sf, rfl, ⟨Ak, nk, ck, rfl, hkk⟩, ⟨Aa, na, ca, rfl, haa⟩, ⟨Af, nf, cf, rfl, hff⟩⟩ := id hty
     have hst2 : pp (ds (nth l 0)) (l.drop 1) = (pp ((ds (nth l 0)).drop (j + 1)) r).map fun y => ((F.app (.cons [] nd ats ks .nil)).app y.1, y.2) := by
      rw [HE.out, HST.out, hq, Option.bind_some, Option.map_map]
      simp only [Function.comp_def, app_assoc]
     have hrr := pp_drop hq (by rw [h.len]; exact hpn1)
     rw [h.len] at hrr
     have hrr2 := hrr.2.1
     have HST2 := hid hst2
     have HRR := hid hrr
     have hlr : (l.drop p).length - r.length = (n - r.length) - p := by rw [List.length_drop, h.len]; omega
     have hlt2 := pp_lt hq (by simp)
     rw [List.length_drop, h.len] at hlt2
     simp only at hlt2
     clear hst2 hq hrr
     rw [hlr]
     clear hlr
     obtain ⟨i0, hi, hy0, hy1, hy2⟩ := info_parts Tryz.infoT
     have HI0 := hid hi
     have HY0 := hid hy0
     have HY1 := hid hy1
     have HY2 := hid hy2
     clear hi hy0 hy1 hy2
     have zc7 := fun o => Blk.cell (hblk2.alloc o)
     have hone : ∀ u ∈ [Value.int .i64 nd.op, .int .i64 nd.a, .int .i64 nd.b, .slice Ak nk ck, .slice Aa na ca, .slice Af nf cf], u.oneCell' = true := by
      intro u hu
      simp at hu
      rcases hu with rfl | rfl | rfl | rfl | rfl | rfl <;> rfl
     have HON := hid hone
     clear hone
     have hbsz : w1.heap.size + 1 ≤ w2.heap.size := hblk2.lt
     go_wp2_with (at_builtin; refine wpList_oper rfl (oper_append_tree (.tmp 173) (.tmp 175) 129 rfl (w1.heap.size + 1) i0 _ Tryz.underlying129 HI0.out HY0.out HY1.out HY2.out rfl (.slice A1 j k1) j xs [.int .i64 nd.op, .int .i64 nd.a, .int .i64 nd.b, .slice Ak nk ck, .slice Aa na ca, .slice Af nf cf] rfl HON.out _ rfl rfl ((own_below hown hb2).alloc _) _ rfl (by simp) (by omega) (by simp; omega) ?_); intro A' c' w' happ; have zb := Blk.grown (hblk2.alloc _) happ.grown (own_ne hown (Nat.lt_succ_self _)); have zc := zb.cell; have zf := zb.frozen)
     refine ⟨⟨n - r.length, j + 1, F.app (.cons [] nd ats ks .nil), A', c', A2, m2, k2, _, hlt, by omega, by omega, congrArg (Value.int .i64) (by omega), by go_num, ?_, by rw [flen_app]; simp [flen, HL.out], ?_, zb.set_ 3 _, ownsRow_setCell_below happ.own (Nat.lt_succ_self _) _, foc_step hfc hty hb2 (Blk.lt hblk) hown hown2 (below_alloc _ _) happ ?_ (by simp [World.setCell]), ?_, ?_⟩, by simp [intOf]; omega⟩
     · rw [HST2.out, ← HRR.out.1]
     · have := HPL.out
       rw [press_app]; simp [press]; omega
     · intro b' hb' o
       exact World.cell?_setCell_other _ _ _ _ (fun e => by injection e with e; omega)
     · rw [press_app]
       have hk := own_kept (World.ownsRow.alloc (own_below hown2 hb2) _) ((own_below hown hb2).alloc _) (by decide) happ.grown
       have hk2 := ownsRow_setCell_below hk (a := ⟨w1.heap.size, 3, none⟩) (Nat.lt_succ_self _) (.slice A' (j + 1) c')
       simpa [press, OwnN] using hk2
     · exact ((((hbw2.trans (hb2.mono hbw2.size)).alloc (by omega) _).grown happ.grown (by simp; omega) (fun g hg => by have := (ownsRow_block hown hg).1; omega)).setCell (Nat.le_refl _) _)
  have h12b : ((nth l 0).op == 12) = true := by simp [h12]
  have H12 := hid h12
  clear h12
  by_cases hpar : j % 2 = 0
  rotate_left
  · have hparb : ((j : Int) % 2 == 0) = false := by simp; omega
    have hdd2 : (ds (nth l 0)).drop j = false :: (ds (nth l 0)).drop (j + 1) := by rw [HDD.out, decide_eq_false (fun hh => hpar hh.2)]
    have hst : pp ((ds (nth l 0)).drop j) (l.drop p) = (pp [false] (l.drop p)).bind fun x => (pp ((ds (nth l 0)).drop (j + 1)) x.2).map fun y => (x.1.app y.1, y.2) := by rw [hdd2, pp_false]
    have HST := hid hst
    clear hdd2 hst
    obtain ⟨A', hcut, hT⟩ := cut_from (some ⟨b, off, none⟩) n c p hpn1
    have hT' := hT _ _ _ hwr
    go_wp2_with fail
    refine (HI.out wr A' (n - p) (c - p) (l.drop p) hT' (by omega)).mono ?_
    rintro e w2 ⟨hb2, hpost⟩
    clear hcut hT
    have hblk2 := Blk.below hblk hb2 (Blk.lt hblk)
    have hz22 := Blk.below hz2' hb2 (Blk.lt hz2')
    cases hq : pp [false] (l.drop p) with
    | none =>
     rw [hq] at hpost
     obtain rfl := hpost
     have hno : pp [false] l = none := by rw [HPP.out, HE.out, HST.out, hq]; rfl
     have HNO := hid hno
     clear hno hq
     have zc2 := fun o => Blk.cell (hz22.alloc o)
     have zf2 := fun o => Blk.frozen (hz22.alloc o)
     simp only [treeNil]
     go_wp2_with fail
     refine bodyPost_ret (v := .tuple #[treeNil, .int .i64 0, .bool false]) (results_read (((((((hz22.alloc _).set_ 0 _).set_ 1 _).set_ 2 _).set_ 3 _).set_ 4 _).set_ 5 _) rfl) rfl (readPost_none HNO.out (below_six (HB0.out.trans ((hb2.trans ((below_alloc w2 _).mono hb2.size)).mono HB0.out.size)) (Nat.le_refl _) _ _ _ _ _ _))
    | some x =>
     obtain ⟨nd, ats, ks, hx⟩ := pp_one hq
     obtain ⟨x1, r⟩ := x
     simp only at hx
     subst hx
     rw [hq] at hpost
     obtain ⟨ys, rfl, hty⟩ := hpost
     obtain ⟨sk, sa, sf, rfl, ⟨Ak, nk, ck, rfl, hkk⟩, ⟨Aa, na, ca, rfl, haa⟩, ⟨Af, nf, cf, rfl, hff⟩⟩ := id hty
     have hst2 : pp (ds (nth l 0)) (l.drop 1) = (pp ((ds (nth l 0)).drop (j + 1)) r).map fun y => ((F.app (.cons [] nd ats ks .nil)).app y.1, y.2) := by
      rw [HE.out, HST.out, hq, Option.bind_some, Option.map_map]
      simp only [Function.comp_def, app_assoc]
     have hrr := pp_drop hq (by rw [h.len]; exact hpn1)
     rw [h.len] at hrr
     have hrr2 := hrr.2.1
     have HST2 := hid hst2
     have HRR := hid hrr
     have hlr : (l.drop p).length - r.length = (n - r.length) - p := by rw [List.length_drop, h.len]; omega
     have hlt2 := pp_lt hq (by simp)
     rw [List.length_drop, h.len] at hlt2
     simp only at hlt2
     clear hst2 hq hrr
     rw [hlr]
     clear hlr
     obtain ⟨i0, hi, hy0, hy1, hy2⟩ := info_parts Tryz.infoT
     have HI0 := hid hi
     have HY0 := hid hy0
     have HY1 := hid hy1
     have HY2 := hid hy2
     clear hi hy0 hy1 hy2
     have zc7 := fun o => Blk.cell (hblk2.alloc o)
     have hone : ∀ u ∈ [Value.int .i64 nd.op, .int .i64 nd.a, .int .i64 nd.b, .slice Ak nk ck, .slice Aa na ca, .slice Af nf cf], u.oneCell' = true := by
      intro u hu
      simp at hu
      rcases hu with rfl | rfl | rfl | rfl | rfl | rfl <;> rfl
     have HON := hid hone
     clear hone
     have hbsz : w1.heap.size + 1 ≤ w2.heap.size := hblk2.lt
     go_wp2_with (at_builtin; refine wpList_oper rfl (oper_append_tree (.tmp 173) (.tmp 175) 129 rfl (w1.heap.size + 1) i0 _ Tryz.underlying129 HI0.out HY0.out HY1.out HY2.out rfl (.slice A1 j k1) j xs [.int .i64 nd.op, .int .i64 nd.a, .int .i64 nd.b, .slice Ak nk ck, .slice Aa na ca, .slice Af nf cf] rfl HON.out _ rfl rfl ((own_below hown hb2).alloc _) _ rfl (by simp) (by omega) (by simp; omega) ?_); intro A' c' w' happ; have zb := Blk.grown (hblk2.alloc _) happ.grown (own_ne hown (Nat.lt_succ_self _)); have zc := zb.cell; have zf := zb.frozen)
     refine ⟨⟨n - r.length, j + 1, F.app (.cons [] nd ats ks .nil), A', c', A2, m2, k2, _, hlt, by omega, by omega, congrArg (Value.int .i64) (by omega), by go_num, ?_, by rw [flen_app]; simp [flen, HL.out], ?_, zb.set_ 3 _, ownsRow_setCell_below happ.own (Nat.lt_succ_self _) _, foc_step hfc hty hb2 (Blk.lt hblk) hown hown2 (below_alloc _ _) happ ?_ (by simp [World.setCell]), ?_, ?_⟩, by simp [intOf]; omega⟩
     · rw [HST2.out, ← HRR.out.1]
     · have := HPL.out
       rw [press_app]; simp [press]; omega
     · intro b' hb' o
       exact World.cell?_setCell_other _ _ _ _ (fun e => by injection e with e; omega)
     · rw [press_app]
       have hk := own_kept (World.ownsRow.alloc (own_below hown2 hb2) _) ((own_below hown hb2).alloc _) (by decide) happ.grown
       have hk2 := ownsRow_setCell_below hk (a := ⟨w1.heap.size, 3, none⟩) (Nat.lt_succ_self _) (.slice A' (j + 1) c')
       simpa [press, OwnN] using hk2
     · exact ((((hbw2.trans (hb2.mono hbw2.size)).alloc (by omega) _).grown happ.grown (by simp; omega) (fun g hg => by have := (ownsRow_block hown hg).1; omega)).setCell (Nat.le_refl _) _)
  have hparb : ((j : Int) % 2 == 0) = true := by simp; omega
  have hdd2 : (ds (nth l 0)).drop j = true :: (ds (nth l 0)).drop (j + 1) := by rw [HDD.out, decide_eq_true ⟨H12.out, by omega⟩]
  by_cases hqn : p < n
  rotate_left
  · have hno : pp [false] l = none := by rw [HPP.out, HE.out, hdd2, show pp (true :: (ds (nth l 0)).drop (j + 1)) (l.drop p) = none from by rw [show l.drop p = [] from List.drop_eq_nil_of_le (by rw [h.len]; omega), pp_cons]; rfl]; rfl
    have HNO := hid hno
    clear hno hdd2
    have zc2 := Blk.cell hz2'
    have zf2 := Blk.frozen hz2'
    go_wp2_with (go_at_call 141; refine (within_any _ _ _ _).mono ?_; rintro e w2 ⟨rfl, rfl⟩)
    refine bodyPost_ret (v := .tuple #[treeNil, .int .i64 0, .bool false]) (results_read ((((((hz2'.set_ 0 _).set_ 1 _).set_ 2 _).set_ 3 _).set_ 4 _).set_ 5 _) rfl) rfl (readPost_none HNO.out (below_six HB0.out (Nat.le_refl _) _ _ _ _ _ _))
  obtain ⟨_, d0, d1, d2⟩ := hwr.cells hqn
  have hfn : pp (true :: (ds (nth l 0)).drop (j + 1)) (l.drop p) = if okF (nth l p) then (pp [false] (l.drop (p + 1))).bind fun x => (pp ((ds (nth l 0)).drop (j + 1)) x.2).map fun y => ((x.1.setPre [nth l p]).app y.1, y.2) else none := by
   rw [drop_nth (by rw [h.len]; exact hqn), pp_true]
  have HFN := hid hfn
  clear hfn
  by_cases h13 : (nth l p).op = 13
  rotate_left
  · have h13b : ((nth l p).op != 13) = true := by simp [h13]
    have hno : pp [false] l = none := by rw [HPP.out, HE.out, hdd2, HFN.out, if_neg (by simp [okF, h13])]; rfl
    have HNO := hid hno
    clear hno hdd2
    have zc2 := Blk.cell hz2'
    have zf2 := Blk.frozen hz2'
    go_wp2_with (go_at_call 141; refine (within_any _ _ _ _).mono ?_; rintro e w2 ⟨rfl, rfl⟩)
    refine bodyPost_ret (v := .tuple #[treeNil, .int .i64 0, .bool false]) (results_read ((((((hz2'.set_ 0 _).set_ 1 _).set_ 2 _).set_ 3 _).set_ 4 _).set_ 5 _) rfl) rfl (readPost_none HNO.out (below_six HB0.out (Nat.le_refl _) _ _ _ _ _ _))
  have h13b : ((nth l p).op != 13) = false := by simp [h13]
  have H13 := hid h13
  clear h13
  by_cases ha : 0 ≤ (nth l p).a ∧ (nth l p).a ≤ 15
  rotate_left
  · have hab : (decide (0 ≤ (nth l p).a) && decide ((nth l p).a ≤ 15)) = false := by rw [Bool.and_eq_false_iff, decide_eq_false_iff_not, decide_eq_false_iff_not]; omega
    have hno : pp [false] l = none := by rw [HPP.out, HE.out, hdd2, HFN.out, if_neg (by simp [okF, plainB_iff]; omega)]; rfl
    have HNO := hid hno
    clear hno hdd2
    have zc2 := Blk.cell hz2'
    have zf2 := Blk.frozen hz2'
    go_wp2_with (go_at_call 141; refine (within_any _ _ _ _).mono ?_; rintro e w2 ⟨rfl, rfl⟩)
    refine bodyPost_ret (v := .tuple #[treeNil, .int .i64 0, .bool false]) (results_read ((((((hz2'.set_ 0 _).set_ 1 _).set_ 2 _).set_ 3 _).set_ 4 _).set_ 5 _) rfl) rfl (readPost_none HNO.out (below_six HB0.out (Nat.le_refl _) _ _ _ _ _ _))
  obtain ⟨ha1, ha2⟩ := ha
  by_cases hbb : (nth l p).b = 0
  rotate_left
  · have hb0b : ((nth l p).b != 0) = true := by simp [hbb]
    have hno : pp [false] l = none := by rw [HPP.out, HE.out, hdd2, HFN.out, if_neg (by simp [okF, plainB_iff]; omega)]; rfl
    have HNO := hid hno
    clear hno hdd2
    have zc2 := Blk.cell hz2'
    have zf2 := Blk.frozen hz2'
    go_wp2_with (go_at_call 141; refine (within_any _ _ _ _).mono ?_; rintro e w2 ⟨rfl, rfl⟩)
    refine bodyPost_ret (v := .tuple #[treeNil, .int .i64 0, .bool false]) (results_read ((((((hz2'.set_ 0 _).set_ 1 _).set_ 2 _).set_ 3 _).set_ 4 _).set_ 5 _) rfl) rfl (readPost_none HNO.out (below_six HB0.out (Nat.le_refl _) _ _ _ _ _ _))
  have hb0b : ((nth l p).b != 0) = false := by simp [hbb]
  have hok3 : okF (nth l p) = true := by
   have := H13.out
   simp only [okF, Bool.and_eq_true, decide_eq_true_eq]
   refine ⟨?_, this⟩
   rw [plainB_iff]; omega
  have hst : pp ((ds (nth l 0)).drop j) (l.drop p) = (pp [false] (l.drop (p + 1))).bind fun x => (pp ((ds (nth l 0)).drop (j + 1)) x.2).map fun y => ((x.1.setPre [nth l p]).app y.1, y.2) := by rw [hdd2, HFN.out, if_pos hok3]
  have HST := hid hst
  clear hst hdd2 hok3 hbb
  go_wp2_with (go_at_call 141; refine (within_any _ _ _ _).mono ?_; rintro e w2 ⟨rfl, rfl⟩)
  have z0b : ∀ (o : Obj), (wr.alloc o).cell? ⟨w1.heap.size, 5, none⟩ = some (.slice A2 m2 k2) := fun o => (Blk.alloc hblk o).cell 5
  have z0 : wr.cell? ⟨w1.heap.size, 5, none⟩ = some (.slice A2 m2 k2) := hblk.cell 5
  obtain ⟨i0, hi, hy0, hy1, hy2⟩ := info_parts Tryz.infoN
  have HI0 := hid hi
  have HY0 := hid hy0
  have HY1 := hid hy1
  have HY2 := hid hy2
  clear hi hy0 hy1 hy2
  have hbsz1 : w1.heap.size + 1 ≤ wr.heap.size := hblk.lt
  go_region_law (refine step_oper rfl (oper_append_node (.tmp 151) (.tmp 156) 27 rfl (w1.heap.size + 1) i0 Tryz.underlying27 HI0.out HY0.out HY1.out HY2.out (.slice A2 m2 k2) (press F) (nth l p) wr.drew rfl rfl hown2 _ rfl (by simp) (by have := HPL.out; omega) hbsz1 ?_); intro A2' k2' wf hown2' happ; have hgrow' := happ.grown; have zb := Blk.grown (show Blk wr.drew _ _ _ from hblk) hgrow' (own_ne hown2 (Nat.lt_succ_self _)); have zc : wf.cell? ⟨w1.heap.size, 5, none⟩ = some (.slice A2 m2 k2) := zb.cell 5; have zf := zb.frozen 5)
  all_goals
   have hbwq : Below w1.heap.size w1 (wf.setCell ⟨w1.heap.size, 5, none⟩ (.slice A2' ((press F).length + 1) k2')) := ((hbw2.drew).grown happ.grown (Nat.le_of_lt hbsz1) (fun g hg => by have := (ownsRow_block hown2 hg).1; omega)).setCell (Nat.le_refl _) _
   have hwrq := h1.below hbwq
   have hblkq := zb.set_ 5 (.slice A2' ((press F).length + 1) k2')
   have hownq := ownsRow_setCell_below (own_kept (show wr.drew.ownsRow _ _ _ _ _ _ from hown) hown2 (by decide) happ.grown) (a := ⟨w1.heap.size, 5, none⟩) (Nat.lt_succ_self _) (.slice A2' ((press F).length + 1) k2')
   have hown2q := hown2'.setCell (a := ⟨w1.heap.size, 5, none⟩) (Nat.lt_succ_self _) (.slice A2' ((press F).length + 1) k2')
   have hfcq := foc_funs hfc happ w1.heap.size 5 (.slice A2' ((press F).length + 1) k2') (Nat.lt_succ_self _)
   have hz2q := Blk.far (Blk.grown (show Blk wr.drew _ _ _ from hz2') happ.grown (own_ne hown2 (by omega))) (p := ⟨w1.heap.size, 5, none⟩) (Nat.ne_of_lt hsz) (.slice A2' ((press F).length + 1) k2')
   have hb0q : Below w.heap.size w (wf.setCell ⟨w1.heap.size, 5, none⟩ (.slice A2' ((press F).length + 1) k2')) := (below_alloc w _).trans ((hb1.trans (hbwq.mono hb1.size)).mono (by simp))
   clear z0b z0 zc zf
   obtain ⟨A', hcut, hT⟩ := cut_from (some ⟨b, off, none⟩) n c (p + 1) hqn
   have hT' := hT _ _ _ hwrq
   simp only [Int.natCast_add, Int.cast_ofNat_Int] at hcut
   go_wp2_with fail
   refine (HI.out (wf.setCell ⟨w1.heap.size, 5, none⟩ (.slice A2' ((press F).length + 1) k2')) A' (n - (p + 1)) (c - (p + 1)) (l.drop (p + 1)) hT' (by omega)).mono ?_
   rintro e w2 ⟨hb2, hpost⟩
   clear hcut hT
   have hblk2 := Blk.below hblkq hb2 (Blk.lt hblkq)
   have hz22 := Blk.below hz2q hb2 (Blk.lt hz2q)
   cases hq : pp [false] (l.drop (p + 1)) with
   | none =>
    rw [hq] at hpost
    obtain rfl := hpost
    have hno : pp [false] l = none := by rw [HPP.out, HE.out, HST.out, hq]; rfl
    have HNO := hid hno
    clear hno hq
    have zc2 := fun o => Blk.cell (hz22.alloc o)
    have zf2 := fun o => Blk.frozen (hz22.alloc o)
    simp only [treeNil]
    go_wp2_with fail
    refine bodyPost_ret (v := .tuple #[treeNil, .int .i64 0, .bool false]) (results_read (((((((hz22.alloc _).set_ 0 _).set_ 1 _).set_ 2 _).set_ 3 _).set_ 4 _).set_ 5 _) rfl) rfl (readPost_none HNO.out (below_six (hb0q.trans ((hb2.trans ((below_alloc w2 _).mono hb2.size)).mono hb0q.size)) (Nat.le_refl _) _ _ _ _ _ _))
   | some x =>
    obtain ⟨nd, ats, ks, hx⟩ := pp_one hq
    obtain ⟨x1, r⟩ := x
    simp only at hx
    subst hx
    rw [hq] at hpost
    obtain ⟨ys, rfl, hty⟩ := hpost
    obtain ⟨sk, sa, sf, rfl, ⟨Ak, nk, ck, rfl, hkk⟩, ⟨Aa, na, ca, rfl, haa⟩, ⟨Af, nf, cf, rfl, hff⟩⟩ := id hty
    have hst2 : pp (ds (nth l 0)) (l.drop 1) = (pp ((ds (nth l 0)).drop (j + 1)) r).map fun y => ((F.app (.cons [nth l p] nd ats ks .nil)).app y.1, y.2) := by
     rw [HE.out, HST.out, hq, Option.bind_some, Option.map_map]
     simp only [Function.comp_def, app_assoc]
     rfl
    have hrr := pp_drop hq (by rw [h.len]; exact hqn)
    rw [h.len] at hrr
    have hrr2 := hrr.2.1
    have HST2 := hid hst2
    have HRR := hid hrr
    have hlr : (l.drop (p + 1)).length - r.length = (n - r.length) - (p + 1) := by rw [List.length_drop, h.len]; omega
    have hlt2 := pp_lt hq (by simp)
    rw [List.length_drop, h.len] at hlt2
    simp only at hlt2
    clear hst2 hq hrr
    rw [hlr]
    clear hlr
    obtain ⟨i0, hi, hy0, hy1, hy2⟩ := info_parts Tryz.infoT
    have HI0 := hid hi
    have HY0 := hid hy0
    have HY1 := hid hy1
    have HY2 := hid hy2
    clear hi hy0 hy1 hy2
    have zc7 := fun o => Blk.cell (hblk2.alloc o)
    have hone : ∀ u ∈ [Value.int .i64 nd.op, .int .i64 nd.a, .int .i64 nd.b, .slice Ak nk ck, .slice Aa na ca, .slice Af nf cf], u.oneCell' = true := by
     intro u hu
     simp at hu
     rcases hu with rfl | rfl | rfl | rfl | rfl | rfl <;> rfl
    have HON := hid hone
    clear hone
    have hbsz : w1.heap.size + 1 ≤ w2.heap.size := hblk2.lt
    go_wp2_with (at_builtin; refine wpList_oper rfl (oper_append_tree (.tmp 173) (.tmp 175) 129 rfl (w1.heap.size + 1) i0 _ Tryz.underlying129 HI0.out HY0.out HY1.out HY2.out rfl (.slice A1 j k1) j xs [.int .i64 nd.op, .int .i64 nd.a, .int .i64 nd.b, .slice Ak nk ck, .slice Aa na ca, .slice Af nf cf] rfl HON.out _ rfl rfl ((own_below hownq hb2).alloc _) _ rfl (by simp) (by omega) (by simp; omega) ?_); intro A' c' w' happ; have zb := Blk.grown (hblk2.alloc _) happ.grown (own_ne hownq (Nat.lt_succ_self _)); have zc := zb.cell; have zf := zb.frozen)
    refine ⟨⟨n - r.length, j + 1, F.app (.cons [nth l p] nd ats ks .nil), A', c', A2', ((press F).length + 1), k2', _, hlt, by omega, by omega, congrArg (Value.int .i64) (by omega), by go_num, ?_, by rw [flen_app]; simp [flen, HL.out], ?_, zb.set_ 3 _, ownsRow_setCell_below happ.own (Nat.lt_succ_self _) _, foc_step hfcq hty hb2 (Blk.lt hblkq) hownq hown2q (below_alloc _ _) happ ?_ (by simp [World.setCell]), ?_, ?_⟩, by simp [intOf]; omega⟩
    · rw [HST2.out, ← HRR.out.1]
    · have := HPL.out
      rw [press_app]; simp [press]; omega
    · intro b' hb' o
      exact World.cell?_setCell_other _ _ _ _ (fun e => by injection e with e; omega)
    · rw [press_app]
      have hk := own_kept (World.ownsRow.alloc (own_below hown2q hb2) _) ((own_below hownq hb2).alloc _) (by decide) happ.grown
      have hk2 := ownsRow_setCell_below hk (a := ⟨w1.heap.size, 3, none⟩) (Nat.lt_succ_self _) (.slice A' (j + 1) c')
      simpa [press, OwnN] using hk2
    · exact ((((hbwq.trans (hb2.mono hbwq.size)).alloc (by omega) _).grown happ.grown (by simp; omega) (fun g hg => by have := (ownsRow_block hownq hg).1; omega)).setCell (Nat.le_refl _) _)
end
section
open Go.RowKit
theorem read_bad {A : Option Addr} {n c : Nat} {l : List Nd} {w : World} (h : TermV w A n c l) (hn : 0 < n) (hok : okN (nth l 0) = false) :
 Calls Tryz.prog 123 #[.slice A n c] w (ReadPost l w) := by
 have hl : pp [false] l = none := pp_bad _ (fun _ => hok)
 have HPP := hid hl
 clear hl
 obtain ⟨b, off, rfl, hb, c0, c1, c2⟩ := h.at_ hn
 simp only [Nat.zero_mul, Nat.add_zero] at c0 c1 c2
 have hn0 : (((n : Nat) : Int) == 0) = false := by simp; omega
 have hok2 : okN ⟨(nth l 0).op, (nth l 0).a, (nth l 0).b⟩ = false := hok
 go_in
 go_wp2_with fail
 refine (count_no _ _ _ _ hok2).mono ?_
 rintro e w1 ⟨⟨k, rfl⟩, hb1⟩
 have hz2 : Blk w1 w.heap.size 131 #[.int .i64 0, .int .i64 0, .int .i64 0, .slice none 0 0, .slice none 0 0, .slice none 0 0] := (Blk.new _ _ _).below hb1 (by simp)
 have zc2 := Blk.cell hz2
 have zf2 := Blk.frozen hz2
 go_wp2_with fail
 refine bodyPost_ret (v := .tuple #[treeNil, .int .i64 0, .bool false]) (results_read ((((((hz2.set_ 0 _).set_ 1 _).set_ 2 _).set_ 3 _).set_ 4 _).set_ 5 _) rfl) rfl (readPost_none HPP.out (below_six ((below_alloc w _).trans (hb1.mono (by simp))) (Nat.le_refl _) _ _ _ _ _ _))
theorem read_all : ∀ (m : Nat) (w : World) (A : Option Addr) (n c : Nat) (l : List Nd), TermV w A n c l → n < m → Calls Tryz.prog 123 #[.slice A n c] w (ReadPost l w)
 | 0, _, _, _, _, _, _, hm => absurd hm (by omega)
 | m + 1, w, A, n, c, l, h, hm => by
  by_cases hn : 0 < n
  · cases hok : okN (nth l 0)
    · exact read_bad h hn hok
    by_cases h2 : (nth l 0).op = 2
    · have hpl := (okN_iff _).1 hok
      obtain ⟨K, hK⟩ := Int.eq_ofNat_of_zero_le (plainB_b hpl.1).1
      exact read_sort h hn (by simp [h2]) hok K hK
    exact read_node h hn (by simp [h2]) hok (fun w A k c l' hl hk => read_all m w A k c l' hl (by omega))
  · obtain rfl : n = 0 := by omega
    exact read_none h
theorem read_any {A : Option Addr} {n c : Nat} {l : List Nd} {w : World} (h : TermV w A n c l) : Calls Tryz.prog 123 #[.slice A n c] w (ReadPost l w) :=
 read_all (n + 1) w A n c l h (Nat.lt_succ_self _)
end
end Go.Proofs.YtplecfbdchmogaaGreat
