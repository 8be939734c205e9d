/- Merged: SenseK, WhK. -/
import Derived.Test.YtjoddliplahgkaaDKidss
import Derived.Test.YtjoddliplahgkaaDSenseM
import Derived.Test.YtjoddliplahgkaaDWhW
import Derived.Test.YtjoddliplahgkaaDGuarded
namespace Go.Proofs.Ytjoddliplahgkaa
section
open Go.RowKit
theorem size_term (w : World) : (sizeOf 29).run Try.prog w = .ok 1 w := by kernel_rfl
end
section
open Go.Lib (hid)
set_option maxHeartbeats 4000000
set_option maxRecDepth 100000
set_option linter.unusedVariables false
set_option linter.unusedSimpArgs false
open Go.RowKit
def KidsOwn (ls : List (List Nd)) (w : World) (e : Ending) (w' : World) : Prop := Below w.heap.size w w' ∧ ∃ A n c xs, e = .returned (.slice A n c) ∧ w'.ownsRow w.heap.size 29 1 (.slice A n c) n xs ∧ RowsC (Aside w.heap.size w' (.slice A n c)) w' xs ls
theorem kids7_any {A : Option Addr} {nn c : Nat} {l : List Nd} {w : World} (h : TermV w A nn c l) (hs : shapeI l = 0) :
 Calls Try.prog 74 #[.slice A nn c] w (KidsOwn (rowsL (topOf l).2) w) := by
 obtain ⟨_, n, ats, k, hpp, hrow, hfs⟩ := shape_ok hs
 have htop : topOf l = (n, k) := by
  unfold topOf
  rw [if_pos hs, hpp]
 have hfl : flen k ≤ 4096 := by have := flen_le_fsize k; omega
 have HTOP := hid htop
 have hsh := shape_any h
 rw [hs] at hsh
 have hparts : ∀ w2, Below w.heap.size w w2 → Calls Try.prog 93 #[.slice A nn c] w2 (PartsPost n k w2) := fun w2 hb => parts_any (h.below hb) hs hpp
 have HSH := hid hsh
 have HPARTS := hid hparts
 clear hsh hparts htop hs hpp hrow h
 go_in
 go_wp2_with fail
 refine (HSH.out).mono ?_
 rintro e w2 ⟨rfl, hb2⟩
 have HB2 := hid hb2
 clear hb2
 go_wp2_with fail
 refine (HPARTS.out _ HB2.out).mono ?_
 rintro e w3 ⟨hb3, A1, k1, A2, k2, xs1, rfl, ho1, ho2, hr⟩
 have HB3 := hid hb3
 have HO1 := hid ho1
 have HR := hid hr
 clear hb3 ho1 ho2 hr
 go_wp2_with fail
 go_loopw [16] (fun i wr => ∃ (F1 F2 : Fo) (j : Nat) (xa xb : List Value), Hid (k = F1.app F2) ∧ Hid (flen F1 = j) ∧ i = .int .i64 (j : Int) ∧ Hid (wr.ownsRow (w2.heap.size + 5) 29 1 (.slice A1 (flen k) k1) (flen k) (xa ++ xb)) ∧
  Hid (RowsC (Aside (w2.heap.size + 5) wr (.slice A1 (flen k) k1)) wr xa (rowsL F1)) ∧ Hid (RowsC (· < w2.heap.size) w2 xb (rowsL F2)) ∧ Hid (Below w2.heap.size w2 wr)) (fun i _ => flen k - (intOf i).toNat)
 case atStart => exact ⟨.nil, k, 0, [], xs1, hid rfl, hid rfl, rfl, HO1, hid trivial, HR, HB3⟩
 case round =>
  obtain ⟨F1, F2, j, xa, xb, hk, hj, rfl, hown, hra, hrb, hbw⟩ := hrel
  cases F2 with
  | nil =>
   have hkf : k = F1 := hk.out.trans (app_nil F1)
   have hjn : ¬ j < flen k := by rw [hkf, hj.out]; omega
   have HKF := hid hkf
   clear hkf
   match xb, hrb with
   | _ :: _, hrb => exact hrb.out.elim
   | [], hrb =>
   go_wp2_with fail
   go_ret
   rw [HTOP.out]
   refine ⟨HB2.out.trans (hbw.out.mono HB2.out.size), _, _, _, _, rfl, own_baseT hown.out (by have := HB2.out.size; omega), ?_⟩
   rw [List.append_nil]
   have := hra.out
   rw [← HKF.out] at this
   exact RowsC.keep (fun q hq => ⟨⟨by have := HB2.out.size; have := hq.1; omega, hq.2⟩, fun _ => rfl⟩) this
  | cons pre nd a ks F3 =>
   have hjn : j < flen k := by rw [hk.out, flen_app, hj.out]; simp [flen]
   match xb, hrb with
   | [], hrb => exact hrb.out.elim
   | x :: xb, hrb =>
   obtain ⟨⟨A', n', c', rfl, ht⟩, hrb2⟩ := hrb.out
   obtain ⟨_, hcase⟩ := hown.out
   rcases hcase with ⟨_, h2⟩ | ⟨g, cap', cur, hv, hg, hh, _⟩
   · omega
   injection hv with e1 e2 e3
   subst e1
   subst e3
   clear e2
   have hxa : xa.length = j := by rw [hra.out.len, rowsL_len, hj.out]
   have hblk : Blk wr g 29 cur := hh
   have hcell : wr.cell? ⟨g, j, none⟩ = some (.slice A' n' c') := by
    have := hown.out.cellAt (g := g) j (by omega)
    rw [this, List.getElem?_append_right (by omega), hxa, Nat.sub_self]
    rfl
   have HCLONE := hid (clone_any (ht.keep (R' := (· < wr.heap.size)) (w' := wr) fun b hb => ⟨Nat.lt_of_lt_of_le hb hbw.out.size, fun o => cell_of_heap (hbw.out.block b hb) o⟩))
   have HG := hid hg
   have HBLK := hid hblk
   have HT := hid ht
   have HRB2 := hid hrb2
   have HXA := hid hxa
   clear hg hh hblk ht hrb2 hxa
   go_wp2_with fail
   refine (HCLONE.out).mono ?_
   rintro e w4 ⟨hb4, A4, n4, c4, rfl, ht4⟩
   have hblk4 : Blk w4 g 29 cur := HBLK.out.below hb4 HBLK.out.lt
   have hcell4 : w4.cell? ⟨g, j, none⟩ = some (.slice A' n' c') := (cell_of_heap (hb4.block g HBLK.out.lt) j).trans hcell
   have hfz4 := hblk4.frozen
   have HB4 := hid hb4
   have HT4 := hid ht4
   have HZ := hid (HBLK.out.lt)
   clear hb4 ht4 hcell hblk4
   go_wp2_with fail
   go_roundw
   case rel =>
    have hown4 := own_set (own_below hown.out HB4.out) j (.slice A4 n4 c4)
    rw [List.set_append_right _ _ (by have := HXA.out; omega), HXA.out, Nat.sub_self, List.set_cons_zero] at hown4
    have hsz : wr.heap.size ≤ w4.heap.size := HB4.out.size
    have hcW : ∀ b, b ≠ g → ∀ o, (w4.setCell ⟨g, j, none⟩ (.slice A4 n4 c4)).cell? ⟨b, o, none⟩ = w4.cell? ⟨b, o, none⟩ := fun b hb o => cell_of_heap (Below.heap_setCell _ _ _ _ hb) o
    have hszW : (w4.setCell ⟨g, j, none⟩ (.slice A4 n4 c4)).heap.size = w4.heap.size := by simp [World.setCell]
    have hgo : (Value.slice (some ⟨g, 0, none⟩) (flen k) k1).ownBlock = some g := rfl
    have hs2 := hbw.out.size
    refine ⟨F1.app (.cons pre nd a ks .nil), F3, j + 1, xa ++ [.slice A4 n4 c4], xb, hid (by rw [hk.out, app_assoc]; rfl), hid (by rw [flen_app, hj.out]; rfl), by go_num, hid ?_, hid ?_, HRB2, hid ?_⟩
    · rw [List.append_assoc]; exact hown4
    · rw [rowsL_add]
      refine RowsC.add (HT4.out.keep fun b hb => ?_) (hra.out.keep fun b hb => ?_)
      · obtain ⟨q1, q2⟩ := hb
        have hgz := HZ.out
        have hgb := HG.out
        have hne : b ≠ g := by omega
        exact ⟨⟨by omega, by rw [hszW]; exact q2, by rw [hgo]; intro e; injection e with e; exact hne e.symm⟩, hcW b hne⟩
      obtain ⟨q1, q2, q3⟩ := hb
      have hne : b ≠ g := fun e => q3 (by rw [hgo, e])
      refine ⟨⟨q1, by rw [hszW]; omega, q3⟩, fun o => ?_⟩
      rw [hcW b hne o]
      exact cell_of_heap (HB4.out.block b q2) o
    have := HG.out
    exact (hbw.out.trans (HB4.out.mono hs2)).setCell (by simp; omega) _
   case measure => simp [intOf]; omega
theorem kids_rows : ∀ (F : Fo), rowsL F = (kidL F).map rowT
 | .nil => rfl
 | .cons p n a k x => by rw [kidL_cons]; simp only [rowsL, List.map_cons, kids_rows x]; simp [row, rowT]
theorem top_fit {b : Bk} {free : Int} {x : TT} (hx : FitT b free x) : rowsL (topOf (rowT x)).2 = (kidL x.2.2).map rowT := by
 rw [rt_top hx.rt]
 exact kids_rows _
structure PS2 (tt : List Nd) (kk : Fo) (nb q p : Nat) (dF : Fo) (zq : List Int) : Prop where
 at_ : At tt p (dsF (nb - q)) dF
 pl : zq ++ (press dF).map (·.a) = placesT kk
 len : zq.length = q
theorem cplaceOf_any {A : Option Addr} {n c : Nat} {x : TT} {w : World} (ht : TermV w A n c (rowT x)) (hy : RtX x) (h12 : x.1.op = 12) :
 Calls Try.prog 79 #[.slice A n c] w (fun e w' => e = .returned (.int .i64 (placeT x)) ∧ Below w.heap.size w w') := by
 have hok := (Rt.wf hy).1
 have hpl := plainB_iff.1 (by simp only [okN, Bool.and_eq_true] at hok; exact hok.1.1)
 obtain ⟨nb, hnb⟩ : ∃ nb : Nat, x.1.b = (nb : Int) := ⟨x.1.b.toNat, by omega⟩
 obtain ⟨na, hna⟩ : ∃ na : Nat, x.1.a = (na : Int) := ⟨x.1.a.toNat, by omega⟩
 have hb1 : 1 ≤ nb ∧ nb ≤ 4 ∧ na < nb := by omega
 have hat : At (rowT x) 1 (ds x.1) x.2.2 := At.first (n := x.1) (a := x.2.1) (k := x.2.2) hy (by omega)
 rw [ds_fix h12 hnb] at hat
 have hlenF := ht.len
 have hn4 : n ≤ 4096 := by rw [← hlenF]; exact Rt.few hy
 have hn0 : 0 < n := by rw [← hlenF]; simp [rowT]
 obtain ⟨bf, off, rfl, hbf, hc0, hc1, hc2⟩ := ht.at_ hn0
 simp only [Nat.zero_mul, Nat.add_zero] at hc1
 rw [show nth (rowT x) 0 = x.1 from rfl, hna] at hc1
 have HTF := hid (fun (w' : World) (h : Below w.heap.size w w') => ht.below h)
 have hpt : placeT x = (placesT x.2.2).getD na 0 := by unfold placeT; rw [hna]; rfl
 obtain ⟨pt, hptt⟩ : ∃ z, z = placeT x := ⟨_, rfl⟩
 rw [← hptt] at hpt ⊢
 have HPT := hid hpt
 obtain ⟨tt, htt⟩ : ∃ tt, tt = rowT x := ⟨_, rfl⟩
 rw [← htt] at hat hlenF HTF
 have HAT := hid hat
 have HLN := hid hlenF
 obtain ⟨nd, a, kk⟩ := x
 simp only at HAT HPT
 clear hok hpl hat htt ht hy h12 hnb hna hc0 hc2 hlenF hpt hptt
 go_in
 go_wp2_with fail
 go_loopw [3, 8] (fun av iv wr => ∃ (q p : Nat) (dF : Fo) (zq : List Int), av = .int .i64 (p : Int) ∧ iv = .int .i64 (q : Int) ∧ q ≤ na ∧ p ≤ n ∧ Hid (PS2 tt kk nb q p dF zq) ∧ Hid (Below w.heap.size w wr)) (fun _ iv _ => na - (intOf iv).toNat)
 case atStart => exact ⟨0, 1, kk, [], rfl, rfl, by omega, by omega, hid ⟨HAT.out, rfl, rfl⟩, hid (Below.refl _ _)⟩
 case round =>
  obtain ⟨q, p, dF, zq, rfl, rfl, hqa, hpn, hs, hbw⟩ := hrel
  obtain ⟨hAt, hZ, hL⟩ := hs.out
  have hfl := AtF_len _ hAt
  obtain ⟨r, hr⟩ : ∃ r, nb - q = r + 1 := ⟨nb - q - 1, by omega⟩
  rw [hr] at hAt hfl
  rw [show dsF (r + 1) = true :: false :: dsF r from rfl] at hAt
  obtain ⟨pre1, n1, a1, k1, nx1, rfl, s1⟩ := hAt.step
  obtain ⟨pre2, n2', a2, k2, nx2, rfl, s2⟩ := s1.next.step
  obtain ⟨fd, rfl, hfd, hnf⟩ := s1.fun_ rfl
  have hpl2 : pre2.length = 0 := s2.plen
  obtain rfl := List.eq_nil_of_length_eq_zero hpl2
  have hnx := s2.next
  have hfl2 := AtF_len _ hnx
  obtain ⟨e1, l1⟩ := (⟨s1.end_, s1.le⟩ : _ ∧ _)
  obtain ⟨e2, c2', l2⟩ := (⟨s2.end_, s2.cut, s2.le⟩ : _ ∧ _ ∧ _)
  simp only [List.length_cons, List.length_nil, Nat.zero_add, Nat.add_zero] at e1 l1 e2 c2' l2 hnx hfl2
  rw [press_cons, press_cons, List.nil_append, List.singleton_append, List.map_cons] at hZ
  obtain ⟨y1, hy1⟩ : ∃ y1, y1 = ((n1, a1, k1) : TT) := ⟨_, rfl⟩
  obtain ⟨y2, hy2⟩ : ∃ y2, y2 = ((n2', a2, k2) : TT) := ⟨_, rfl⟩
  rw [← hy1] at e1 l1 e2 c2' l2 hnx hfl2
  rw [← hy2] at e2 c2' l2 hnx hfl2
  obtain ⟨g1, hg1⟩ : ∃ g, g = p + 1 + (rowT y1).length := ⟨_, rfl⟩
  obtain ⟨g2, hg2⟩ : ∃ g, g = g1 + (rowT y2).length := ⟨_, rfl⟩
  rw [← hg1] at e1 l1 e2 c2' l2 hnx hfl2
  rw [← hg2] at e2 c2' l2 hnx hfl2
  rw [HLN.out] at l1 l2 hfl hfl2
  have hpos1 : 0 < (rowT y1).length := by simp [rowT]
  rw [show ((p + 1 : Nat) : Int) = (p : Int) + 1 from by omega] at e1
  obtain ⟨b', o', e', _, _, hcp, _⟩ := TermV.at_ (HTF.out w (Below.refl _ _)) (p := p) (by omega)
  injection e' with e'
  injection e' with e1' e2'
  subst e1' e2'
  rw [hnf] at hcp
  by_cases hlt : q < na
  · have HEN1 := hid (fun (wr : World) (h : Below w.heap.size w wr) => end_any (HTF.out wr h) ((p : Int) + 1))
    rw [e1] at HEN1
    have HEN2 := hid (fun (wr : World) (h : Below w.heap.size w wr) => end_any (HTF.out wr h) (g1 : Int))
    rw [e2] at HEN2
    have HPS : Hid (PS2 tt kk nb (q + 1) g2 nx2 (zq ++ [fd.a])) := hid ⟨by rw [show nb - (q + 1) = r from by omega]; exact hnx, by rw [List.append_assoc]; exact hZ, by simp [hL]⟩
    have y1' : decide ((q : Int) < (na : Int)) = true := decide_eq_true (by omega)
    obtain ⟨hpg, hgg, hgn⟩ : p + 1 ≤ g1 ∧ g1 ≤ g2 ∧ g2 ≤ n := by omega
    clear hAt hfl s1 s2 hpl2 hnx hfl2 e1 l1 e2 c2' l2 hy1 hy2 hg1 hg2 hr hnf hfd hcp hZ hL hpos1 hs
    go_wp2_with fail
    refine (HEN1.out wr hbw.out).mono ?_
    rintro e w6 ⟨rfl, hd6⟩
    have HB6 := bto hbw hd6
    clear hd6
    go_wp2_with fail
    refine (HEN2.out w6 HB6.out).mono ?_
    rintro e w7 ⟨rfl, hd7⟩
    have HB7 := bto HB6 hd7
    clear hd7
    go_wp2_with fail
    go_roundw
    case rel => exact ⟨q + 1, g2, nx2, zq ++ [fd.a], rfl, by go_num, by omega, hgn, HPS, HB7⟩
    case measure => simp [intOf]; omega
  obtain rfl : q = na := by omega
  have y1' : decide ((q : Int) < (q : Int)) = false := decide_eq_false (by omega)
  have hfa : fd.a = pt := by
   rw [HPT.out, ← hZ, List.getD_eq_getElem?_getD, List.getElem?_append_right (by omega), hL, Nat.sub_self]
   rfl
  rw [hfa] at hcp
  have hip : (0 : Int) ≤ (p : Int) := by omega
  have hipn : (p : Int) < (n : Int) := by omega
  have hcpr := (hbw.out.cell (p := ⟨bf, off + p * 3 + 1, none⟩) hbf).trans hcp
  clear hAt hfl s1 s2 hpl2 hnx hfl2 e1 l1 e2 c2' l2 hy1 hy2 hg1 hg2 hr hnf hfd hcp hZ hL hpos1 hs hlt hfa
  go_wp2_with fail
  go_ret
  exact ⟨rfl, hbw.out⟩
end
end Go.Proofs.Ytjoddliplahgkaa
