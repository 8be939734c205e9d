/- Read of the reference: the tree at the beginning of a row. -/
import Derived.Test.YtnmeglbamfjcgaaProg
import Derived.Test.YtnmeglbamfjcgaaMem
import Derived.Test.YtnmeglbamfjcgaaTree
import Derived.Test.YtnmeglbamfjcgaaOwn
import Derived.Test.YtnmeglbamfjcgaaOwn2
import Derived.Test.YtnmeglbamfjcgaaLeaf
import Derived.Test.YtnmeglbamfjcgaaCount
import Derived.WalkKit
import Derived.WalkLawsBesides
import Derived.WalkSpells
import Derived.Lib.Hide
import Derived.Deep.QuietTactic
import Derived.BigQuiet
namespace Go.Proofs.Ytnmeglbamfjcgaa
open Go.RowKit

def treeNil : Value := .agg #[.int .i64 0, .int .i64 0, .int .i64 0, .slice none 0 0, .slice none 0 0, .slice none 0 0]
def ReadPost (l : List Nd) (w : World) (e : Ending) (w' : World) : Prop :=
  Below w.heap.size w w' ∧ match pp [false] l with
    | some (.cons _ n atoms kids _, r) => ∃ xs, e = .returned (.tuple #[.agg xs.toArray, .int .i64 ((l.length - r.length : Nat) : Int), .bool true]) ∧ TreeC (fresh w w') w' xs n atoms kids
    | _ => e = .returned (.tuple #[treeNil, .int .i64 0, .bool false])

theorem Try.infoN : (Try.prog.info? 53).map (fun i => (i.zero, i.size, i.bytes)) = some (some (.agg #[.int .i64 0, .int .i64 0, .int .i64 0]), 3, 24) := by kernel_rfl
theorem Try.infoT : (Try.prog.info? 64).map (fun i => (i.zero, i.size, i.bytes)) = some (some treeNil, 6, 96) := by kernel_rfl

theorem readPost_none {l : List Nd} {w w' : World} (h : pp [false] l = none) (hb : Below w.heap.size w w') : ReadPost l w (.returned (.tuple #[treeNil, .int .i64 0, .bool false])) w' := by
  refine ⟨hb, ?_⟩
  rw [h]
theorem below_six {B g : Nat} {w w' : World} (h : Below B w w') (hg : B ≤ g) (a b c d e f : Value) : Below B w ((((((w'.setCell ⟨g, 0, none⟩ a).setCell ⟨g, 1, none⟩ b).setCell ⟨g, 2, none⟩ c).setCell ⟨g, 3, none⟩ d).setCell ⟨g, 4, none⟩ e).setCell ⟨g, 5, none⟩ f) :=
  (((((h.setCell (p := ⟨g, 0, none⟩) hg a).setCell (p := ⟨g, 1, none⟩) hg b).setCell (p := ⟨g, 2, none⟩) hg c).setCell (p := ⟨g, 3, none⟩) hg d).setCell (p := ⟨g, 4, none⟩) hg e).setCell (p := ⟨g, 5, none⟩) hg f

theorem results_read {w : World} {g : Nat} {c0 c1 c2 c3 c4 c5 : Value} {tmps : Array Value} (h : Blk w g 64 #[c0, c1, c2, c3, c4, c5]) (ht : tmps.getD 2 undef = .pointer (some ⟨g, 0, none⟩)) :
    (results Try.f57 tmps).run Try.prog w = .ok (.tuple #[.agg #[c0, c1, c2, c3, c4, c5], tmps.getD 3 undef, tmps.getD 4 undef]) w := by
  have hc := h.cell
  have ht' : tmps[2]?.getD undef = .pointer (some ⟨g, 0, none⟩) := by rw [← ht]; simp
  simp [results, Try.results57, go_sem, ht', hc]

set_option maxRecDepth 100000 in
set_option maxHeartbeats 1000000 in
theorem read_none {A : Option Addr} {c : Nat} {l : List Nd} {w : World} (h : TermV w A 0 c l) :
    Calls Try.prog 57 #[.slice A 0 c] w (ReadPost l w) := by
  have hl : pp [false] l = none := pp_bad _ (fun hp => by rw [h.len] at hp; omega)
  have HPP := Lib.hid hl
  clear hl
  go_enter Try.func57, Try.ntmps57
  go_wp2_with fail
  refine bodyPost_ret (v := .tuple #[treeNil, .int .i64 0, .bool false]) (by simp [results, Try.results57, go_sem, treeNil]) rfl (readPost_none HPP.out (below_alloc _ _))

set_option maxRecDepth 100000 in
set_option maxHeartbeats 4000000 in
theorem read_sort {A : Option Addr} {n c : Nat} {l : List Nd} {w : World} (h : TermV w A n c l) (hn : 0 < n) (hop : ((nth l 0).op == 2) = true) (hok : okN (nth l 0) = true) (K : Nat) (hK : (nth l 0).b = K) :
    Calls Try.prog 57 #[.slice A n c] w (ReadPost l w) := by
  have hfew := h.few
  have hK4 : K ≤ 4 := by
    simp at hop
    rw [okN_iff, plainB_iff] at hok; omega
  obtain ⟨b, off, rfl, hb, c0, c1, c2⟩ := h.at_ hn
  have hpp : pp [false] l = (takeAtoms K (-1) (l.drop 1)).map fun q => (.cons [] (nth l 0) q.1 .nil .nil, q.2) := by
    rw [pp_sort (by rw [h.len]; exact hn) hok (by simpa using hop), hK, Int.toNat_natCast]
  have HPP := Lib.hid hpp
  clear hpp
  have hok2 : okN ⟨(nth l 0).op, (nth l 0).a, K⟩ = true := by rw [← hK]; exact hok
  have HK := Lib.hid hK
  simp only [Nat.zero_mul, Nat.add_zero, hK] at c0 c1 c2
  clear hK
  have hnk : nkI (nth l 0).op (K : Int) = 0 := by simp at hop; simp [nkI, hop]
  have hn0 : (((n : Nat) : Int) == 0) = false := by simp; omega
  go_enter Try.func57, Try.ntmps57
  go_wp2_with (go_at_call 71; refine (count_yes _ _ _ _ hok2).mono ?_; rintro e w1 ⟨rfl, hb1⟩; obtain ⟨hc1, hf1⟩ := bcell hb1; have hbw : b < w1.heap.size := by (have := hb1.size; simp at this; omega))
  have hz2 : Blk w1 w.heap.size 64 #[.int .i64 0, .int .i64 0, .int .i64 0, .slice none 0 0, .slice none 0 0, .slice none 0 0] := (Blk.new _ _ _).below hb1 (by simp)
  have h1 : TermV w1 (some ⟨b, off, none⟩) n c l := (h.alloc _).below hb1
  have hsz : w.heap.size < w1.heap.size := by have := hb1.size; simp at this; omega
  clear hc1 hf1
  go_loopw [8, 9] (fun a i wr => ∃ (p j : Nat) (ats : List Nd) (A0 : Option Addr) (m0 k0 : Nat), j ≤ K ∧ p ≤ n ∧ a = .int .i64 (p : Int) ∧ i = .int .i64 (j : Int) ∧ p = j + 1 ∧
      takeAtoms K (-1) (l.drop 1) = (takeAtoms (K - j) (if j = 0 then -1 else (nth l j).a) (l.drop p)).map (fun p => (ats ++ p.1, p.2)) ∧ ats.length = j ∧
      Blk wr w1.heap.size 64 #[.int .i64 (nth l 0).op, .int .i64 (nth l 0).a, .int .i64 K, .slice none 0 0, .slice A0 m0 k0, .slice none 0 0] ∧
      OwnN wr (w1.heap.size + 1) (.slice A0 m0 k0) ats ∧ Below w1.heap.size w1 wr) (fun _ i _ => K - (intOf i).toNat)
  case atStart =>
    refine ⟨1, 0, [], none, 0, 0, Nat.zero_le _, hn, rfl, rfl, rfl, ?_, rfl, Blk.new _ _ _, OwnN.nil _ _, below_alloc _ _⟩
    simp only [Nat.sub_zero, if_true, List.nil_append]
    cases takeAtoms K (-1) (l.drop 1) <;> rfl
  case round =>
    obtain ⟨p, j, ats, A0, m0, k0, hj, hpn1, rfl, rfl, hpj, he, hlen, hblk, hown, hbw2⟩ := hrel
    have HP := Lib.hid hpj
    have HE := Lib.hid he
    have HL := Lib.hid hlen
    have hz2' := Blk.below hz2 hbw2 hsz
    have hbx : ∀ (m : Nat) (x : Value), Below w.heap.size w ((((((wr.drewN m).setCell ⟨w.heap.size, 0, none⟩ (.int .i64 0)).setCell ⟨w.heap.size, 1, none⟩ (.int .i64 0)).setCell ⟨w.heap.size, 2, none⟩ (.int .i64 0)).setCell ⟨w.heap.size, 3, none⟩ (.slice none 0 0)).setCell ⟨w.heap.size, 4, none⟩ (.slice none 0 0) |>.setCell ⟨w.heap.size, 5, none⟩ (.slice none 0 0)) := fun m _ =>
      below_six (below_drewN ((below_alloc w _).trans ((hb1.trans (hbw2.mono hb1.size)).mono (by simp))) m) (Nat.le_refl _) _ _ _ _ _ _
    have HBW := Lib.hid hbx
    clear hbx
    have hbsz : w1.heap.size + 1 ≤ wr.heap.size := Blk.lt hblk
    have hwr := h1.below hbw2
    have e0 := (h1.below hbw2).cells (p := 0) hn
    simp only [Nat.zero_mul, Nat.add_zero, HK.out] at e0
    obtain ⟨hbr, e0, e1, e2⟩ := e0
    have hprev : ((p : Int) - 1).toNat = j := by rw [hpj]; omega
    have hprev0 : (0 : Int) ≤ (p : Int) - 1 := by rw [hpj]; omega
    have HPR := Lib.hid hprev
    clear he hlen c0 c1 c2 hpj hprev
    by_cases hlt : j < K
    · by_cases hpn : p < n
      · obtain ⟨_, d0, d1, d2⟩ := hwr.cells hpn
        have hge : decide (n ≤ p) = false := by simp; omega
        by_cases h3 : (nth l p).op = 3
        · have h3b : ((nth l p).op != 3) = false := by simp [h3]
          have hpl : (0 ≤ (nth l p).a ∧ (nth l p).a ≤ 16) ∧ (0 ≤ (nth l p).b ∧ (nth l p).b ≤ 1000) → plainB (nth l p).op (nth l p).a (nth l p).b = true := fun hh => by rw [plainB_iff]; omega
          have hpl2 : plainB (nth l p).op (nth l p).a (nth l p).b = true → (0 ≤ (nth l p).a ∧ (nth l p).a ≤ 16) ∧ (0 ≤ (nth l p).b ∧ (nth l p).b ≤ 1000) := fun hh => by rw [plainB_iff] at hh; omega
          have HPL := Lib.hid hpl
          have HPL2 := Lib.hid hpl2
          have H3 := Lib.hid h3
          clear h3 hpl hpl2
          by_cases ha : 0 ≤ (nth l p).a ∧ (nth l p).a ≤ 16
          · by_cases hbb : 0 ≤ (nth l p).b ∧ (nth l p).b ≤ 1000
            · by_cases hj0 : 0 < j
              · obtain ⟨_, f0, f1, f2⟩ := hwr.cells (p := j) (by have := HP.out; omega)
                have hjb : decide (0 < j) = true := by simp [hj0]
                have hprev2 : (p : Int) - 1 < n := by omega
                have hprevw : IntKind.i64.wrap ((p : Int) - 1) = (p : Int) - 1 := IntWalk.i64_in _ (by omega)
                by_cases hla : (nth l p).a ≤ (nth l j).a
                · have hla1 : decide ((nth l p).a ≤ (nth l j).a) = true := by simp [hla]
                  have hprev := HPR.out
                  go_wp2_with fail
                  go_quiet ((go_at_call 72; first | exact within_qt _ _ _ _ _ (by omega) | exact within_qf _ _ _ _ _ (by omega)))
                  clear hprev hprevw hprev2
                  have zc2 := Blk.cell hz2'
                  have zf2 := Blk.frozen hz2'
                  go_wp2_with fail
                  refine bodyPost_ret (v := .tuple #[treeNil, .int .i64 0, .bool false]) (results_read ((((((((hz2'.drewN _).set_ 0 _).set_ 1 _).set_ 2 _).set_ 3 _).set_ 4 _).set_ 5 _)) rfl) rfl (readPost_none ?_ (HBW.out _ (.int .i64 0)))
                  rw [HPP.out, HE.out, show K - j = (K - (j + 1)) + 1 from by omega, takeAtoms_fail (fun _ _ _ hh => by rw [if_neg (by omega)] at hh; omega)]; rfl
                · have hla1 : decide ((nth l p).a ≤ (nth l j).a) = false := by simp; omega
                  have hprev := HPR.out
                  go_wp2_with fail
                  go_quiet ((go_at_call 72; first | exact within_qt _ _ _ _ _ (by omega) | exact within_qf _ _ _ _ _ (by omega)))
                  clear hprev hprevw hprev2
                  go_wp2_with fail
                  have z0a : ∀ (m : Nat) (o : Obj), ((wr.drewN m).alloc o).cell? ⟨w1.heap.size, 4, none⟩ = some (.slice A0 m0 k0) := fun m o => (Blk.alloc (hblk.drewN m) o).cell 4
                  have z0 : wr.cell? ⟨w1.heap.size, 4, none⟩ = some (.slice A0 m0 k0) := hblk.cell 4
                  obtain ⟨i0, hi, hy0, hy1, hy2⟩ := info_parts Try.infoN
                  have HI := Lib.hid hi
                  have HY0 := Lib.hid hy0
                  have HY1 := Lib.hid hy1
                  have HY2 := Lib.hid hy2
                  clear hi hy0 hy1 hy2
                  go_region_law (refine step_oper rfl (oper_append_node (.tmp 95) (.tmp 100) 22 rfl (w1.heap.size + 1) i0 Try.underlying22 HI.out HY0.out HY1.out HY2.out (.slice A0 m0 k0) ats (nth l p) _ rfl rfl hown _ rfl (by simp) (by have := HL.out; omega) hbsz ?_); intro A' c' w' hown' happ; have hgrow' := happ.grown; have zb := Blk.grown (hblk.drewN _) hgrow' (own_ne hown (Nat.lt_succ_self _)); have zc : w'.cell? ⟨w1.heap.size, 4, none⟩ = some (.slice A0 m0 k0) := zb.cell 4; have zf := zb.frozen 4)
                  all_goals
                    go_wp2_with fail
                    go_roundw
                    case rel =>
                      refine ⟨p + 1, j + 1, ats ++ [nth l p], _, _, _, hlt, hpn, by go_num, by go_num, by have := HP.out; omega, ?_, by simp [HL.out], zb.set_ 4 _, hown'.setCell (Nat.lt_succ_self _) _, ((below_drewN hbw2 _).grown hgrow' (by simp; omega) (fun g hg => by have := (ownsRow_block hown hg).1; omega)).setCell (Nat.le_refl _) _⟩
                      rw [HE.out, show K - j = (K - (j + 1)) + 1 from by omega, takeAtoms_step (by rw [h.len]; exact hpn) H3.out (HPL.out ⟨by omega, by omega⟩) (by rw [if_neg (by omega)]; omega), if_neg (by omega), ← HP.out]
                      rw [Option.map_map]; congr 1; funext q; simp
                    case measure => simp [intOf]; omega
              · have hj0b : decide (0 < j) = false := by simp [hj0]
                go_wp2_with fail
                go_quiet ((go_at_call 72; first | exact within_qt _ _ _ _ _ (by omega) | exact within_qf _ _ _ _ _ (by omega)))
                go_wp2_with fail
                have z0a : ∀ (m : Nat) (o : Obj), ((wr.drewN m).alloc o).cell? ⟨w1.heap.size, 4, none⟩ = some (.slice A0 m0 k0) := fun m o => (Blk.alloc (hblk.drewN m) o).cell 4
                have z0 : wr.cell? ⟨w1.heap.size, 4, none⟩ = some (.slice A0 m0 k0) := hblk.cell 4
                obtain ⟨i0, hi, hy0, hy1, hy2⟩ := info_parts Try.infoN
                have HI := Lib.hid hi
                have HY0 := Lib.hid hy0
                have HY1 := Lib.hid hy1
                have HY2 := Lib.hid hy2
                clear hi hy0 hy1 hy2
                go_region_law (refine step_oper rfl (oper_append_node (.tmp 95) (.tmp 100) 22 rfl (w1.heap.size + 1) i0 Try.underlying22 HI.out HY0.out HY1.out HY2.out (.slice A0 m0 k0) ats (nth l p) _ rfl rfl hown _ rfl (by simp) (by have := HL.out; omega) hbsz ?_); intro A' c' w' hown' happ; have hgrow' := happ.grown; have zb := Blk.grown (hblk.drewN _) hgrow' (own_ne hown (Nat.lt_succ_self _)); have zc : w'.cell? ⟨w1.heap.size, 4, none⟩ = some (.slice A0 m0 k0) := zb.cell 4; have zf := zb.frozen 4)
                all_goals
                  go_wp2_with fail
                  go_roundw
                  case rel =>
                    refine ⟨p + 1, j + 1, ats ++ [nth l p], _, _, _, hlt, hpn, by go_num, by go_num, by have := HP.out; omega, ?_, by simp [HL.out], zb.set_ 4 _, hown'.setCell (Nat.lt_succ_self _) _, ((below_drewN hbw2 _).grown hgrow' (by simp; omega) (fun g hg => by have := (ownsRow_block hown hg).1; omega)).setCell (Nat.le_refl _) _⟩
                    rw [HE.out, show K - j = (K - (j + 1)) + 1 from by omega, takeAtoms_step (by rw [h.len]; exact hpn) H3.out (HPL.out ⟨by omega, by omega⟩) (by rw [if_pos (by omega)]; omega), if_neg (by omega), ← HP.out]
                    rw [Option.map_map]; congr 1; funext q; simp
                  case measure => simp [intOf]; omega
            · go_wp2_with fail
              go_quiet ((go_at_call 72; first | exact within_qt _ _ _ _ _ (by omega) | exact within_qf _ _ _ _ _ (by omega)))
              have zc2 := Blk.cell hz2'
              have zf2 := Blk.frozen hz2'
              go_wp2_with fail
              refine bodyPost_ret (v := .tuple #[treeNil, .int .i64 0, .bool false]) (results_read ((((((((hz2'.drewN _).set_ 0 _).set_ 1 _).set_ 2 _).set_ 3 _).set_ 4 _).set_ 5 _)) rfl) rfl (readPost_none ?_ (HBW.out _ (.int .i64 0)))
              rw [HPP.out, HE.out, show K - j = (K - (j + 1)) + 1 from by omega, takeAtoms_fail (fun _ _ hh _ => hbb (HPL2.out hh).2)]; rfl
          · go_wp2_with fail
            go_quiet ((go_at_call 72; first | exact within_qt _ _ _ _ _ (by omega) | exact within_qf _ _ _ _ _ (by omega)))
            have zc2 := Blk.cell hz2'
            have zf2 := Blk.frozen hz2'
            go_wp2_with fail
            refine bodyPost_ret (v := .tuple #[treeNil, .int .i64 0, .bool false]) (results_read ((((((((hz2'.drewN _).set_ 0 _).set_ 1 _).set_ 2 _).set_ 3 _).set_ 4 _).set_ 5 _)) rfl) rfl (readPost_none ?_ (HBW.out _ (.int .i64 0)))
            rw [HPP.out, HE.out, show K - j = (K - (j + 1)) + 1 from by omega, takeAtoms_fail (fun _ _ hh _ => ha (HPL2.out hh).1)]; rfl
        · have h3b : ((nth l p).op != 3) = true := by simp [h3]
          have H3 := Lib.hid h3
          clear h3
          go_wp2_with fail
          go_quiet ((go_at_call 72; first | exact within_qt _ _ _ _ _ (by omega) | exact within_qf _ _ _ _ _ (by omega)))
          have zc2 := Blk.cell hz2'
          have zf2 := Blk.frozen hz2'
          go_wp2_with fail
          refine bodyPost_ret (v := .tuple #[treeNil, .int .i64 0, .bool false]) (results_read ((((((((hz2'.drewN _).set_ 0 _).set_ 1 _).set_ 2 _).set_ 3 _).set_ 4 _).set_ 5 _)) rfl) rfl (readPost_none ?_ (HBW.out _ (.int .i64 0)))
          rw [HPP.out, HE.out, show K - j = (K - (j + 1)) + 1 from by omega, takeAtoms_fail (fun _ hh _ _ => H3.out hh)]; rfl
      · have hge : decide (n ≤ p) = true := by simp; omega
        go_wp2_with fail
        go_quiet ((go_at_call 72; first | exact within_qt _ _ _ _ _ (by omega) | exact within_qf _ _ _ _ _ (by omega)))
        have zc2 := Blk.cell hz2'
        have zf2 := Blk.frozen hz2'
        go_wp2_with fail
        refine bodyPost_ret (v := .tuple #[treeNil, .int .i64 0, .bool false]) (results_read ((((((((hz2'.drewN _).set_ 0 _).set_ 1 _).set_ 2 _).set_ 3 _).set_ 4 _).set_ 5 _)) rfl) rfl (readPost_none ?_ (HBW.out _ (.int .i64 0)))
        rw [HPP.out, HE.out, show K - j = (K - (j + 1)) + 1 from by omega, takeAtoms_fail (fun hh _ _ _ => hpn (by rw [h.len] at hh; exact hh))]; rfl
    · go_wp2_with fail
      refine wp_loop_once ?_
      have zc7 := Blk.cell hblk
      have zc2 := Blk.cell hz2'
      have zf2 := Blk.frozen hz2'
      go_wp2_with fail
      have hval : pp [false] l = some (.cons [] (nth l 0) ats .nil .nil, l.drop p) := by
        rw [HPP.out, HE.out, show K - j = 0 from by omega]; simp [takeAtoms]
      have hX := ((((((hz2'.set_ 0 (.int .i64 (nth l 0).op)).set_ 1 (.int .i64 (nth l 0).a)).set_ 2 (.int .i64 K)).set_ 3 (.slice none 0 0)).set_ 4 (.slice A0 m0 k0)).set_ 5 (.slice none 0 0))
      have hsl : w.heap.size < w1.heap.size + 1 := by omega
      have hO := (((((hown.setCell (a := ⟨w.heap.size, 0, none⟩) hsl (.int .i64 (nth l 0).op)).setCell (a := ⟨w.heap.size, 1, none⟩) hsl (.int .i64 (nth l 0).a)).setCell (a := ⟨w.heap.size, 2, none⟩) hsl (.int .i64 K)).setCell (a := ⟨w.heap.size, 3, none⟩) hsl (.slice none 0 0)).setCell (a := ⟨w.heap.size, 4, none⟩) hsl (.slice A0 m0 k0)).setCell (a := ⟨w.heap.size, 5, none⟩) hsl (.slice none 0 0)
      have hb0 : Below w.heap.size w wr := (below_alloc w _).trans ((hb1.trans (hbw2.mono hb1.size)).mono (by simp))
      refine bodyPost_ret (v := .tuple #[.agg #[.int .i64 (nth l 0).op, .int .i64 (nth l 0).a, .int .i64 K, .slice none 0 0, .slice A0 m0 k0, .slice none 0 0], .int .i64 p, .bool true]) (results_read hX rfl) rfl ⟨below_six hb0 (Nat.le_refl _) _ _ _ _ _ _, ?_⟩
      rw [hval]
      refine ⟨[.int .i64 (nth l 0).op, .int .i64 (nth l 0).a, .int .i64 K, .slice none 0 0, .slice A0 m0 k0, .slice none 0 0], ?_, _, _, _, by rw [HK.out], KidsS.nil _ _, (hO.termS (by have := HL.out; omega)).keep fun b hb => ⟨⟨?_, ?_⟩, fun _ => rfl⟩, TermS.nil _ _⟩
      · rw [List.length_drop, h.len, show n - (n - p) = p from by omega]
      · have := (ownsRow_block hO hb).1; omega
      · exact (ownsRow_block hO hb).2.1

end Go.Proofs.Ytnmeglbamfjcgaa
