/- Row of the reference: a tree is written as a row. -/
import Derived.Test.YtnmeglbamfjcgaaProg
import Derived.Test.YtnmeglbamfjcgaaMem
import Derived.Test.YtnmeglbamfjcgaaTree
import Derived.Test.YtnmeglbamfjcgaaOwn
import Derived.Test.YtnmeglbamfjcgaaOwn2
import Derived.WalkKit
import Derived.WalkLawsBesides
import Derived.WalkSpells
import Derived.Lib.Hide
namespace Go.Proofs.Ytnmeglbamfjcgaa
open Go.RowKit

theorem infoN' : (Try.prog.info? 53).map (fun i => (i.zero, i.size, i.bytes)) = some (some (.agg #[.int .i64 0, .int .i64 0, .int .i64 0]), 3, 24) := by kernel_rfl

theorem press_at {F1 F2 : Fo} {f nd : Nd} {ats : List Nd} {ks : Fo} (h : PreOk true 0 (F1.app (.cons [f] nd ats ks F2))) (hp : flen F1 % 2 = 0) :
    nth (press (F1.app (.cons [f] nd ats ks F2))) (flen F1 / 2) = f ∧ flen F1 / 2 < (press (F1.app (.cons [f] nd ats ks F2))).length := by
  rw [PreOk.app] at h
  have h1 := press_len F1 0 h.1
  have h2 : (press F1).length = flen F1 / 2 := by omega
  rw [press_app]
  simp only [press, nth]
  refine ⟨?_, by simp; omega⟩
  rw [← h2]
  simp

/-- A slice of nodes comes back, in new memory. -/
def RowPost (l : List Nd) (w : World) (e : Ending) (w' : World) : Prop := Below w.heap.size w w' ∧ ∃ A n c, e = .returned (.slice A n c) ∧ TermR (fresh w w') w' A n c l

set_option maxRecDepth 100000 in
set_option maxHeartbeats 2000000 in
theorem row_step (m : Nat) (ih : ∀ (w : World) (R : Nat → Prop) (xs : List Value) (n : Nd) (atoms : List Nd) (kids : Fo), (∀ b, R b → b < w.heap.size) → TreeC R w xs n atoms kids → PreOk (decide (n.op = 12)) 0 kids → (row (.cons [] n atoms kids .nil)).length ≤ 5864062014805 → fsize kids < m →
      Calls Try.prog 51 #[.agg xs.toArray] w (RowPost (row (.cons [] n atoms kids .nil)) w))
    (w : World) (R : Nat → Prop) (xs : List Value) (n : Nd) (atoms : List Nd) (kids : Fo) (hR : ∀ b, R b → b < w.heap.size) (ht : TreeC R w xs n atoms kids) (hp : PreOk (decide (n.op = 12)) 0 kids) (hlen : (row (.cons [] n atoms kids .nil)).length ≤ 5864062014805) (hsz : fsize kids ≤ m) :
    Calls Try.prog 51 #[.agg xs.toArray] w (RowPost (row (.cons [] n atoms kids .nil)) w) := by
  have HI := Lib.hid ih
  clear ih
  obtain ⟨sk, sa, sf, rfl, ⟨Ak, nk, ck, rfl, hkk⟩, ⟨Aa, na, ca, rfl, haa⟩, ⟨Af, nf, cf, rfl, hff⟩⟩ := ht
  obtain ⟨i0, hi, hy0, hy1, hy2⟩ := info_parts infoN'
  have HI0 := Lib.hid hi
  have HY0 := Lib.hid hy0
  have HY1 := Lib.hid hy1
  have HY2 := Lib.hid hy2
  clear hi hy0 hy1 hy2
  have hlen2 : atoms.length + (row kids).length + 1 ≤ 5864062014805 := by
    simp only [row, List.nil_append, List.length_cons, List.length_append, List.append_nil] at hlen; omega
  have HLEN := Lib.hid hlen2
  clear hlen hlen2
  go_enter Try.func51, Try.ntmps51
  go_wp2_with (at_builtin; refine wpList_oper rfl (oper_append_row (.tmp 7) (.tmp 9) 23 22 rfl (w.heap.size + 1) i0 Try.underlying23 Try.underlying22 HI0.out HY0.out HY1.out HY2.out (.slice (some ⟨w.heap.size + 1, 0, none⟩) 1 1) [n] atoms rfl (own_new' (by simp) (by simp) n) rfl (haa.keep (R' := fun _ => True) fun b hb => ⟨trivial, fun o => by have := hR b hb; rw [World.cell?_alloc_lt _ _ _ (by simp; omega), World.cell?_alloc_lt _ _ _ this]⟩) (by have := HLEN.out; have := haa.len; simp <;> omega) (by simp <;> omega) ?_); intro A1 c1 w1 hown1 happ1)
  -- LOOP
  have hb1 : Below w.heap.size w w1 := (below_alloc2 w _ _).grown happ1.grown (by simp; omega) (fun g hg => by
    have : w.heap.size + 1 = g := by simpa [Value.ownBlock] using hg
    omega)
  have hbk1 : Blk w1 w.heap.size 64 #[.int .i64 n.op, .int .i64 n.a, .int .i64 n.b, .slice Ak nk ck, .slice Aa na ca, .slice Af nf cf] := Blk.grown ((Blk.new _ _ _).alloc _) happ1.grown (fun e => by
    simp [Value.ownBlock] at e)
  have HSZ := Lib.hid hsz
  have HP := Lib.hid hp
  have HKL := Lib.hid hkk.len
  clear hsz hp happ1
  have hnk : nk ≤ 1000000000000000 := by
    have h1 := HLEN.out
    have h2 := HKL.out
    have h3 := flen_le kids
    omega
  go_loopw [3, 4] (fun v i wr => ∃ (F1 F2 : Fo) (j : Nat) (A1 : Option Addr) (k1 c1 : Nat), kids = F1.app F2 ∧ flen F1 = j ∧ v = .slice A1 k1 c1 ∧ i = .int .i64 (j : Int) ∧ OwnN wr (w.heap.size + 1) (.slice A1 k1 c1) (n :: (atoms ++ row F1)) ∧ Below w.heap.size w wr ∧
      Blk wr w.heap.size 64 #[.int .i64 n.op, .int .i64 n.a, .int .i64 n.b, .slice Ak nk ck, .slice Aa na ca, .slice Af nf cf]) (fun _ i _ => nk - (intOf i).toNat)
  case atStart => exact ⟨.nil, kids, 0, A1, _, c1, rfl, rfl, rfl, rfl, by simpa [row] using hown1, hb1, hbk1⟩
  case round =>
    obtain ⟨F1, F2, j, A1, k1, c1, hk, hj, rfl, rfl, hown, hbw, hblk⟩ := hrel
    have HK := Lib.hid hk
    have HJ := Lib.hid hj
    have hszb : w.heap.size + 1 ≤ wr.heap.size := Blk.lt hblk
    have hkkr := hkk.keep (R' := R) (w' := wr) (fun b hb => ⟨hb, fun o => hbw.cell (p := ⟨b, o, none⟩) (hR b hb)⟩)
    have hffr := hff.keep (R' := R) (w' := wr) (fun b hb => ⟨hb, fun o => hbw.cell (p := ⟨b, o, none⟩) (hR b hb)⟩)
    have zc := Blk.cell hblk
    cases F2 with
    | nil =>
      have hjn : j = nk := by rw [← HKL.out, hk, flen_app, hj]; rfl
      have hjn2 : ¬ j < nk := by omega
      clear hk hj hjn
      go_wp2_with fail
      go_ret
      refine ⟨hbw, A1, k1, c1, rfl, ?_⟩
      have hd : row (.cons [] n atoms kids .nil) = n :: (atoms ++ row F1) := by rw [HK.out, app_nil]; simp [row]
      rw [hd]
      have hl : (n :: (atoms ++ row F1)).length ≤ 5864062014805 := by
        have := HLEN.out; rw [HK.out, app_nil] at this; simp; omega
      obtain ⟨A', n', c', e, ht⟩ := hown.termS hl
      injection e with e1 e2 e3
      subst e1 e2 e3
      exact ht.keep fun b hb => ⟨⟨by have := (ownsRow_block hown hb).1; omega, (ownsRow_block hown hb).2.1⟩, fun _ => rfl⟩
    | cons pre nd ats ks F2 =>
      have hjn : j < nk := by rw [← HKL.out, hk, flen_app, hj]; simp [flen]
      have hkk2 : KidsR R wr Ak nk ck (F1.app (.cons pre nd ats ks F2)) := by rw [← hk]; exact hkkr
      have hp2 : PreOk (decide (n.op = 12)) 0 (F1.app (.cons pre nd ats ks F2)) := by rw [← hk]; exact HP.out
      obtain ⟨b, off, sk', sa', sf', rfl, hrb, htree, g0, g1, g2, g3, g4, g5⟩ := hkk2.at_
      rw [hj] at g0 g1 g2 g3 g4 g5
      obtain ⟨hpl, hpk, _⟩ := (PreOk.app F1 _ 0).1 hp2 |>.2
      rw [Nat.zero_add, hj] at hpl
      have HP2 := Lib.hid hp2
      have hff2 : TermR R wr Af nf cf (press (F1.app (.cons pre nd ats ks F2))) := by rw [← hk]; exact hffr
      clear hk hj hkk2 hp2 hkkr hffr
      by_cases h12 : n.op = 12
      · have h12b : (n.op == 12) = true := by simp [h12]
        by_cases hpar : j % 2 = 0
        · have hparb : ((j : Int) % 2 == 0) = true := by simp; omega
          obtain ⟨f, rfl⟩ : ∃ f, pre = [f] := List.length_eq_one_iff.1 (by rw [hpl, if_pos ⟨by simp [h12], hpar⟩])
          obtain ⟨hf1, hf2⟩ := press_at (by have := HP2.out; rwa [decide_eq_true h12] at this) (by rw [HJ.out]; exact hpar)
          rw [HJ.out] at hf1 hf2
          rw [hff2.len] at hf2
          obtain ⟨bf, offf, hAf, hrf, hnf⟩ := hff2.mem (by omega)
          obtain ⟨p0, p1, p2⟩ := hnf (j / 2) (by rw [hff2.len]; exact hf2)
          subst hAf
          rw [hf1] at p0 p1 p2
          clear h12 hpar hpl hf1 hnf hff2
          have HF2 := Lib.hid hf2
          have hsame : ∀ w5 : World, Below w.heap.size w w5 → ∀ b', R b' → ∀ o, w5.cell? ⟨b', o, none⟩ = wr.cell? ⟨b', o, none⟩ := fun w5 hb5 b' hb' o => (hb5.cell (p := ⟨b', o, none⟩) (hR b' hb')).trans (hbw.cell (p := ⟨b', o, none⟩) (hR b' hb')).symm
          have HSAME := Lib.hid hsame
          clear hsame
          have hl1 : (n :: (atoms ++ row F1)).length + 1 ≤ 5864062014805 := by
            have := HLEN.out
            rw [HK.out, row_app] at this
            simp only [row, List.length_append, List.length_cons] at this ⊢
            omega
          have HL1 := Lib.hid hl1
          clear hl1
          go_wp2_with (at_builtin; refine wpList_oper rfl (oper_append_node (.tmp 27) (.tmp 34) 23 rfl (w.heap.size + 1) i0 Try.underlying23 HI0.out HY0.out HY1.out HY2.out (.slice A1 k1 c1) (n :: (atoms ++ row F1)) f wr rfl rfl hown _ rfl (by simp) HL1.out hszb ?_); intro A5 c5 w5 hown5 happ5; simp only [List.length_cons, List.length_append] at hown5; have hblk5 := Blk.grown hblk happ5.grown (own_ne hown (Nat.lt_succ_self _)); have hbw5 := hbw.grown happ5.grown (Nat.le_of_lt hszb) (fun g hg => by have := (ownsRow_block hown hg).1; omega); have zc5 := Blk.cell hblk5; have zk := HSAME.out w5 hbw5 b hrb)
          refine (HI.out w5 R [.int .i64 nd.op, .int .i64 nd.a, .int .i64 nd.b, sk', sa', sf'] nd ats ks (fun b hb => Nat.lt_of_lt_of_le (hR b hb) hbw5.size) (htree.keep (R' := R) (w' := w5) fun b hb => ⟨hb, HSAME.out w5 hbw5 b hb⟩) hpk (by have := HLEN.out; rw [HK.out, row_app] at this; simp only [row, List.length_append, List.length_cons, List.nil_append, List.append_nil] at this ⊢; omega) (by have := HSZ.out; rw [HK.out, fsize_app] at this; simp only [fsize] at this; omega)).mono ?_
          rintro e w2 ⟨hb2, A3, n3, c3, rfl, ht3⟩
          have hn3 : n3 + (row F1).length + atoms.length + 1 + 1 ≤ 5864062014805 := by
            have := HLEN.out
            rw [HK.out, row_app] at this
            have h3 := ht3.len
            simp only [row, List.length_append, List.length_cons, List.nil_append, List.append_nil] at this h3
            skip
            omega
          have hown2 := OwnN.below hown5 hb2
          have hbB : w.heap.size + 1 ≤ w2.heap.size := Nat.le_trans (Blk.lt hblk5) hb2.size
          go_wp2_with (at_builtin; refine wpList_oper rfl (oper_append_row (.tmp 36) (.tmp 42) 23 23 rfl (w.heap.size + 1) i0 Try.underlying23 Try.underlying23 HI0.out HY0.out HY1.out HY2.out _ (n :: (atoms ++ row F1) ++ [f]) _ rfl hown2 rfl ht3 (by simp <;> omega) hbB ?_); intro A4 c4 w4 hown4 happ4)
          go_roundw
          case rel =>
            refine ⟨F1.app (.cons [f] nd ats ks .nil), F2, j + 1, A4, _, c4, by rw [HK.out, app_assoc]; rfl, by rw [flen_app]; simp [flen, HJ.out], rfl, by go_num, ?_, ((hbw5.trans (hb2.mono hbw5.size)).grown happ4.grown (by omega) (fun g hg => by have := (ownsRow_block hown2 hg).1; omega)), Blk.grown (Blk.below hblk5 hb2 (Blk.lt hblk5)) happ4.grown (own_ne hown2 (Nat.lt_succ_self _))⟩
            have e : (n :: (atoms ++ row (F1.app (.cons [f] nd ats ks .nil)))) = (n :: (atoms ++ row F1) ++ [f]) ++ row (.cons [] nd ats ks .nil) := by
              skip
              rw [row_app]; simp [row]
            exact hown4.cast (by simp <;> omega) e.symm
          case measure => simp [intOf]; omega
        · have hparb : ((j : Int) % 2 == 0) = false := by simp; omega
          have hpe : pre = [] := List.eq_nil_of_length_eq_zero (by rw [hpl, if_neg (fun hh => hpar hh.2)])
          have HPE := Lib.hid hpe
          clear h12 hpar hpl hpe hff2
          go_wp2_with fail
          refine (HI.out wr R [.int .i64 nd.op, .int .i64 nd.a, .int .i64 nd.b, sk', sa', sf'] nd ats ks (fun b hb => Nat.lt_of_lt_of_le (hR b hb) hbw.size) htree hpk (by have := HLEN.out; rw [HK.out, row_app] at this; simp only [row, List.length_append, List.length_cons, List.nil_append, List.append_nil] at this ⊢; omega) (by have := HSZ.out; rw [HK.out, fsize_app] at this; simp only [fsize] at this; omega)).mono ?_
          rintro e w2 ⟨hb2, A3, n3, c3, rfl, ht3⟩
          have hn3 : n3 + (row F1).length + atoms.length + 1 ≤ 5864062014805 := by
            have := HLEN.out
            rw [HK.out, row_app] at this
            have h3 := ht3.len
            simp only [row, List.length_append, List.length_cons, List.nil_append, List.append_nil] at this h3
            omega
          have hown2 := OwnN.below hown hb2
          have hbB : w.heap.size + 1 ≤ w2.heap.size := Nat.le_trans hszb hb2.size
          go_wp2_with (at_builtin; refine wpList_oper rfl (oper_append_row (.tmp 36) (.tmp 42) 23 23 rfl (w.heap.size + 1) i0 Try.underlying23 Try.underlying23 HI0.out HY0.out HY1.out HY2.out _ (n :: (atoms ++ row F1)) _ rfl hown2 rfl ht3 (by simp <;> omega) hbB ?_); intro A4 c4 w4 hown4 happ4)
          go_roundw
          case rel =>
            refine ⟨F1.app (.cons pre nd ats ks .nil), F2, j + 1, A4, _, c4, by rw [HK.out, app_assoc]; rfl, by rw [flen_app]; simp [flen, HJ.out], rfl, by go_num, ?_, ((hbw.trans (hb2.mono hbw.size)).grown happ4.grown (by omega) (fun g hg => by have := (ownsRow_block hown2 hg).1; omega)), Blk.grown (Blk.below hblk hb2 (Blk.lt hblk)) happ4.grown (own_ne hown2 (Nat.lt_succ_self _))⟩
            have e : (n :: (atoms ++ row (F1.app (.cons pre nd ats ks .nil)))) = (n :: (atoms ++ row F1)) ++ row (.cons [] nd ats ks .nil) := by
              have hpe := HPE.out
              subst hpe
              rw [row_app]; simp [row]
            exact hown4.cast (by simp <;> omega) e.symm
          case measure => simp [intOf]; omega
      · have h12b : (n.op == 12) = false := by simp [h12]
        have hpe : pre = [] := List.eq_nil_of_length_eq_zero (by rw [hpl, if_neg (fun hh => h12 (by simpa using hh.1))])
        have HPE := Lib.hid hpe
        clear h12 hpl hpe hff2
        go_wp2_with fail
        refine (HI.out wr R [.int .i64 nd.op, .int .i64 nd.a, .int .i64 nd.b, sk', sa', sf'] nd ats ks (fun b hb => Nat.lt_of_lt_of_le (hR b hb) hbw.size) htree hpk (by have := HLEN.out; rw [HK.out, row_app] at this; simp only [row, List.length_append, List.length_cons, List.nil_append, List.append_nil] at this ⊢; omega) (by have := HSZ.out; rw [HK.out, fsize_app] at this; simp only [fsize] at this; omega)).mono ?_
        rintro e w2 ⟨hb2, A3, n3, c3, rfl, ht3⟩
        have hn3 : n3 + (row F1).length + atoms.length + 1 ≤ 5864062014805 := by
          have := HLEN.out
          rw [HK.out, row_app] at this
          have h3 := ht3.len
          simp only [row, List.length_append, List.length_cons, List.nil_append, List.append_nil] at this h3
          omega
        have hown2 := OwnN.below hown hb2
        have hbB : w.heap.size + 1 ≤ w2.heap.size := Nat.le_trans hszb hb2.size
        go_wp2_with (at_builtin; refine wpList_oper rfl (oper_append_row (.tmp 36) (.tmp 42) 23 23 rfl (w.heap.size + 1) i0 Try.underlying23 Try.underlying23 HI0.out HY0.out HY1.out HY2.out _ (n :: (atoms ++ row F1)) _ rfl hown2 rfl ht3 (by simp <;> omega) hbB ?_); intro A4 c4 w4 hown4 happ4)
        go_roundw
        case rel =>
          refine ⟨F1.app (.cons pre nd ats ks .nil), F2, j + 1, A4, _, c4, by rw [HK.out, app_assoc]; rfl, by rw [flen_app]; simp [flen, HJ.out], rfl, by go_num, ?_, ((hbw.trans (hb2.mono hbw.size)).grown happ4.grown (by omega) (fun g hg => by have := (ownsRow_block hown2 hg).1; omega)), Blk.grown (Blk.below hblk hb2 (Blk.lt hblk)) happ4.grown (own_ne hown2 (Nat.lt_succ_self _))⟩
          have e : (n :: (atoms ++ row (F1.app (.cons pre nd ats ks .nil)))) = (n :: (atoms ++ row F1)) ++ row (.cons [] nd ats ks .nil) := by
            have hpe := HPE.out
            subst hpe
            rw [row_app]; simp [row]
          exact hown4.cast (by simp <;> omega) e.symm
        case measure => simp [intOf]; omega

end Go.Proofs.Ytnmeglbamfjcgaa
