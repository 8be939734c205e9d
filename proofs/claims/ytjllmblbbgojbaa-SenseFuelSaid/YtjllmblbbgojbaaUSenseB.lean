/- sense: places, and placeOf: the places of a fix's functions, and where their bodies begin. -/
import Derived.Test.YtjllmblbbgojbaaUSenseA
import Derived.Test.YtjllmblbbgojbaaUSenseM
import Derived.Test.YtjllmblbbgojbaaUFineX
namespace Go.Proofs.Ytjllmblbbgojbaa
open Go.Lib (hid)
set_option maxHeartbeats 4000000
set_option maxRecDepth 100000
set_option linter.unusedVariables false
set_option linter.unusedSimpArgs false
open Go.RowKit
def BdP (t : List Nd) (n : Nat) : List Int → List TT → Prop
 | [], [] => True
 | z :: zs, y :: ys => (∃ g1 g2 : Nat, z = (g1 : Int) ∧ endI t (g1 : Int) = (g2 : Int) ∧ g1 ≤ g2 ∧ g2 ≤ n ∧ (t.take g2).drop g1 = rowT y) ∧ BdP t n zs ys
 | _, _ => False
theorem BdP.add {t : List Nd} {n g1 g2 : Nat} {y : TT} (h1 : endI t (g1 : Int) = (g2 : Int)) (h2 : g1 ≤ g2) (h3 : g2 ≤ n) (h4 : (t.take g2).drop g1 = rowT y) : ∀ {zs : List Int} {ys : List TT}, BdP t n zs ys → BdP t n (zs ++ [(g1 : Int)]) (ys ++ [y])
 | [], [], _ => ⟨⟨g1, g2, rfl, h1, h2, h3, h4⟩, trivial⟩
 | [], _ :: _, h => h.elim
 | _ :: _, [], h => h.elim
 | _ :: _, _ :: _, h => ⟨h.1, h.2.add h1 h2 h3 h4⟩
theorem BdP.at_ {t : List Nd} {n : Nat} : ∀ {zs : List Int} {ys : List TT} (j : Nat) (y : TT), BdP t n zs ys → ys[j]? = some y → ∃ g1 g2 : Nat, zs[j]? = some (g1 : Int) ∧ endI t (g1 : Int) = (g2 : Int) ∧ g1 ≤ g2 ∧ g2 ≤ n ∧ (t.take g2).drop g1 = rowT y
 | [], [], j, y, _, h => by simp at h
 | [], _ :: _, _, _, h, _ => h.elim
 | _ :: _, [], _, _, h, _ => h.elim
 | z :: zs, x :: ys, 0, y, hb, h => by
  simp only [List.getElem?_cons_zero, Option.some.injEq] at h
  subst h
  obtain ⟨g1, g2, rfl, h1⟩ := hb.1
  exact ⟨g1, g2, rfl, h1⟩
 | z :: zs, x :: ys, j + 1, y, hb, h => by
  obtain ⟨g1, g2, e, h1⟩ := BdP.at_ j y hb.2 (by simpa using h)
  exact ⟨g1, g2, by simpa using e, h1⟩
def PlacesP (x : TT) (n nb : Nat) (w : World) (e : Ending) (w' : World) : Prop := Below w.heap.size w w' ∧ ∃ A1 c1 A2 c2 bq, e = .returned (.tuple #[.slice A1 nb c1, .slice A2 nb c2]) ∧ OwnI w' w.heap.size A1 nb c1 (placesT x.2.2) ∧ OwnI w' w.heap.size A2 nb c2 bq ∧ BdP (rowT x) n bq (bdsT (kidL x.2.2))
structure PS1 (tt : List Nd) (kk : Fo) (nb n q p : Nat) (dF : Fo) (L : List TT) (zq bq : List Int) : Prop where
 at_ : At tt p (dsF (nb - q)) dF
 pl : zq ++ (press dF).map (·.a) = placesT kk
 bd : L ++ bdsT (kidL dF) = bdsT (kidL kk)
 bp : BdP tt n bq L
theorem splaces_any {A : Option Addr} {n c nb : Nat} {x : TT} {w : World} (ht : TermV w A n c (rowT x)) (hy : RtX x) (h12 : x.1.op = 12) (hnb : x.1.b = (nb : Int)) :
 Calls Try.prog 106 #[.slice A n c] w (PlacesP x n nb w) := by
 have hok := (Rt.wf hy).1
 have hpl := plainB_iff.1 (by simp only [okN, Bool.and_eq_true] at hok; exact hok.1.1)
 have hb1 : 1 ≤ nb ∧ nb ≤ 4 := by omega
 have hat : At (rowT x) 1 (ds x.1) x.2.2 := At.first (n := x.1) (a := x.2.1) (k := x.2.2) hy (by omega)
 rw [ds_fix h12 hnb] at hat
 have hlenF := ht.len
 have hn4 : n ≤ 4096 := by rw [← hlenF]; exact Rt.few hy
 have hn0 : 0 < n := by rw [← hlenF]; simp [rowT]
 obtain ⟨bf, off, rfl, hbf, hc0, hc1, hc2⟩ := ht.at_ hn0
 simp only [Nat.zero_mul, Nat.add_zero] at hc2
 rw [show nth (rowT x) 0 = x.1 from rfl, hnb] at hc2
 have HTF := hid (fun (w' : World) (h : Below w.heap.size w w') => ht.below h)
 unfold PlacesP
 obtain ⟨tt, htt⟩ : ∃ tt, tt = rowT x := ⟨_, rfl⟩
 rw [← htt] at hat hlenF HTF ⊢
 have HAT := hid hat
 have HLN := hid hlenF
 obtain ⟨nd, a, kk⟩ := x
 simp only at HAT ⊢
 obtain ⟨i0, hi, hz0, hz1, hz2⟩ := info_parts infoI
 have HI0 := hid hi
 have HY0 := hid hz0
 have HY1 := hid hz1
 have HY2 := hid hz2
 clear hi hz0 hz1 hz2 hok hpl hat htt ht hy h12 hnb hc0 hc1 hlenF
 go_in
 go_wp2_with fail
 go_loopw [2, 3, 4, 10] (fun ov bv av iv wr => ∃ (q p : Nat) (dF : Fo) (L : List TT) (zq bq : List Int) (A1 A2 : Option Addr) (c1 c2 : Nat), ov = .slice A1 q c1 ∧ bv = .slice A2 q c2 ∧ av = .int .i64 (p : Int) ∧ iv = .int .i64 (q : Int) ∧ q ≤ nb ∧ 1 + 3 * q ≤ p ∧ p ≤ n ∧ Hid (PS1 tt kk nb n q p dF L zq bq) ∧ Hid (OwnI wr w.heap.size A1 q c1 zq) ∧ Hid (OwnI wr w.heap.size A2 q c2 bq) ∧ Hid (Sep (.slice A1 q c1) (.slice A2 q c2)) ∧ Hid (Below w.heap.size w wr)) (fun _ _ _ i _ => nb - (intOf i).toNat)
 case atStart => exact ⟨0, 1, kk, [], [], [], none, none, 0, 0, rfl, rfl, rfl, rfl, by omega, by omega, by omega, hid ⟨HAT.out, rfl, rfl, trivial⟩, hid (World.ownsRow_nil _ _ _ _), hid (World.ownsRow_nil _ _ _ _), hid (fun g hg => by cases hg), hid (Below.refl _ _)⟩
 case round =>
  obtain ⟨q, p, dF, L, zq, bq, A1, A2, c1, c2, rfl, rfl, rfl, rfl, hqb, hp3, hpn, hs, ho1, ho2, hsep, hbw⟩ := hrel
  obtain ⟨hAt, hZ, hD, hB⟩ := hs.out
  by_cases hlt : q < nb
  rotate_left
  · have y1' : decide ((q : Int) < (nb : Int)) = false := decide_eq_false (by omega)
    obtain rfl : q = nb := by omega
    have hdn : dF = .nil := by
     rw [Nat.sub_self] at hAt
     exact hAt.done
    subst hdn
    have HZ : Hid (zq = placesT kk) := hid (by simpa [press] using hZ)
    have HD : Hid (L = bdsT (kidL kk)) := hid (by simpa [kidL, bdsT] using hD)
    have HB := hid hB
    clear hlt hZ hD hB hAt hs
    go_wp2_with fail
    go_ret2
    refine ⟨hbw.out, A1, c1, A2, c2, bq, rfl, ?_, ho2.out, ?_⟩
    · rw [← HZ.out]; exact ho1.out
    rw [← HD.out]; exact HB.out
  have hfl := AtF_len _ hAt
  obtain ⟨r, hr⟩ : ∃ r, nb - q = r + 1 := ⟨nb - q - 1, by omega⟩
  rw [hr] at hAt hfl
  rw [show dsF (r + 1) = true :: false :: dsF r from rfl] at hAt
  obtain ⟨pre1, n1, a1, k1, nx1, rfl, s1⟩ := hAt.step
  obtain ⟨pre2, n2', a2, k2, nx2, rfl, s2⟩ := s1.next.step
  obtain ⟨fd, rfl, hfd, hnf⟩ := s1.fun_ rfl
  have hpl2 : pre2.length = 0 := s2.plen
  obtain rfl := List.eq_nil_of_length_eq_zero hpl2
  have hnx := s2.next
  have hfl2 := AtF_len _ hnx
  obtain ⟨e1, l1⟩ := (⟨s1.end_, s1.le⟩ : _ ∧ _)
  obtain ⟨e2, c2', l2⟩ := (⟨s2.end_, s2.cut, s2.le⟩ : _ ∧ _ ∧ _)
  simp only [List.length_cons, List.length_nil, Nat.zero_add, Nat.add_zero] at e1 l1 e2 c2' l2 hnx hfl2
  rw [press_cons, press_cons, List.nil_append, List.singleton_append, List.map_cons] at hZ
  rw [show kidL (.cons [fd] n1 a1 k1 (.cons [] n2' a2 k2 nx2)) = (n1, a1, k1) :: (n2', a2, k2) :: kidL nx2 from rfl] at hD
  obtain ⟨y1, hy1⟩ : ∃ y1, y1 = ((n1, a1, k1) : TT) := ⟨_, rfl⟩
  obtain ⟨y2, hy2⟩ : ∃ y2, y2 = ((n2', a2, k2) : TT) := ⟨_, rfl⟩
  rw [← hy1] at e1 l1 e2 c2' l2 hnx hD hfl2
  rw [← hy2] at e2 c2' l2 hnx hD hfl2
  obtain ⟨g1, hg1⟩ : ∃ g, g = p + 1 + (rowT y1).length := ⟨_, rfl⟩
  obtain ⟨g2, hg2⟩ : ∃ g, g = g1 + (rowT y2).length := ⟨_, rfl⟩
  rw [← hg1] at e1 l1 e2 c2' l2 hnx hfl2
  rw [← hg2] at e2 c2' l2 hnx hfl2
  rw [HLN.out] at l1 l2 hfl hfl2
  have hpos1 : 0 < (rowT y1).length := by simp [rowT]
  have hpos2 : 0 < (rowT y2).length := by simp [rowT]
  rw [show ((p + 1 : Nat) : Int) = (p : Int) + 1 from by omega] at e1
  have HEN1 := hid (fun (wr : World) (h : Below w.heap.size w wr) => end_any (HTF.out wr h) ((p : Int) + 1))
  rw [e1] at HEN1
  have HEN2 := hid (fun (wr : World) (h : Below w.heap.size w wr) => end_any (HTF.out wr h) (g1 : Int))
  rw [e2] at HEN2
  obtain ⟨b', o', e', _, _, hcp, _⟩ := TermV.at_ (HTF.out w (Below.refl _ _)) (p := p) (by omega)
  injection e' with e'
  injection e' with e1' e2'
  subst e1' e2'
  rw [hnf] at hcp
  obtain ⟨fa, hfae⟩ : ∃ fa, fa = fd.a := ⟨_, rfl⟩
  rw [← hfae] at hcp hZ
  have HPS : Hid (PS1 tt kk nb n (q + 1) g2 nx2 (L ++ [y2]) (zq ++ [fa]) (bq ++ [(g1 : Int)])) := hid ⟨by rw [show nb - (q + 1) = r from by omega]; exact hnx, by rw [List.append_assoc]; exact hZ, by rw [List.append_assoc]; exact hD, BdP.add e2 (by omega) (by omega) c2' hB⟩
  have hip : (0 : Int) ≤ (p : Int) := by omega
  have hipn : (p : Int) < (n : Int) := by omega
  have y1' : decide ((q : Int) < (nb : Int)) = true := decide_eq_true (by omega)
  obtain ⟨hpg, hgg, hgn, h3g⟩ : p + 1 ≤ g1 ∧ g1 ≤ g2 ∧ g2 ≤ n ∧ 1 + 3 * (q + 1) ≤ g2 := by omega
  have hcpr := (hbw.out.cell (p := ⟨bf, off + p * 3 + 1, none⟩) hbf).trans hcp
  have hbs := hbw.out.size
  have hmz : Hid ((zq ++ [fa]).map (Value.int .i64) = zq.map (Value.int .i64) ++ [.int .i64 fa]) := hid (by simp)
  have hmb : Hid ((bq ++ [(g1 : Int)]).map (Value.int .i64) = bq.map (Value.int .i64) ++ [.int .i64 (g1 : Int)]) := hid (by simp)
  clear hAt hfl s1 s2 hpl2 hnx hfl2 e1 l1 e2 c2' l2 hy1 hy2 hg1 hg2 hr hnf hfd hfae hcp hZ hD hB hpos1 hpos2 hs
  go_wp2_with (at_builtin; go_loud (refine wpList_oper rfl (oper_append_one (.tmp 12) (.tmp 18) 96 3 rfl w.heap.size i0 _ 8 Try.underlying96 HI0.out HY0.out HY1.out HY2.out rfl (by decide) (.slice A1 q c1) q (zq.map (Value.int .i64)) (.int .i64 fa) rfl wr rfl rfl ho1.out _ rfl rfl (by omega) (by omega) ?_)); intro A5 c5 w5 happ5)
  have HB5 := hid (hbw.out.grown happ5.grown hbs (fun g hg => (ownsRow_block ho1.out hg).1))
  have HO5 : Hid (OwnI w5 w.heap.size A5 (q + 1) c5 (zq ++ [fa])) := hid (by unfold OwnI; rw [hmz.out]; exact happ5.own)
  have HO6 : Hid (OwnI w5 w.heap.size A2 q c2 bq) := hid (own_sep ho2.out happ5.grown hsep.out.symm)
  have HS5 := hid (Sep.symm (Sep.app ho2.out hsep.out.symm happ5))
  clear happ5 hcpr
  go_wp2_with fail
  refine (HEN1.out w5 HB5.out).mono ?_
  rintro e w6 ⟨rfl, hd6⟩
  have HB6 := bto HB5 hd6
  have HO7 := hid (own_below HO5.out hd6)
  have HO8 := hid (own_below HO6.out hd6)
  have hb6 := HB6.out.size
  clear hd6
  go_wp2_with (at_builtin; go_loud (refine wpList_oper rfl (oper_append_one (.tmp 24) (.tmp 26) 96 3 rfl w.heap.size i0 _ 8 Try.underlying96 HI0.out HY0.out HY1.out HY2.out rfl (by decide) (.slice A2 q c2) q (bq.map (Value.int .i64)) (.int .i64 (g1 : Int)) rfl w6 rfl rfl HO8.out _ rfl rfl (by omega) (by omega) ?_)); intro A9 c9 w9 happ9)
  have HB9 := hid (HB6.out.grown happ9.grown hb6 (fun g hg => (ownsRow_block HO8.out hg).1))
  have HO9 : Hid (OwnI w9 w.heap.size A9 (q + 1) c9 (bq ++ [(g1 : Int)])) := hid (by unfold OwnI; rw [hmb.out]; exact happ9.own)
  have HO10 : Hid (OwnI w9 w.heap.size A5 (q + 1) c5 (zq ++ [fa])) := hid (own_sep HO7.out happ9.grown HS5.out)
  have HS9 := hid (Sep.app HO7.out HS5.out happ9)
  clear happ9
  go_wp2_with fail
  refine (HEN2.out w9 HB9.out).mono ?_
  rintro e w10 ⟨rfl, hd10⟩
  have HB10 := bto HB9 hd10
  have HO11 := hid (own_below HO9.out hd10)
  have HO12 := hid (own_below HO10.out hd10)
  clear hd10
  go_wp2_with fail
  go_roundw
  case rel => exact ⟨q + 1, g2, nx2, L ++ [y2], zq ++ [fa], bq ++ [(g1 : Int)], A5, A9, c5, c9, rfl, rfl, rfl, by go_num, by omega, h3g, hgn, HPS, HO12, HO11, HS9, HB10⟩
  case measure => simp [intOf]; omega
theorem own_cellH {w : World} {base j d z g : Nat} {e : TypeId} {xs : List Value} (h : w.ownsRow base e z (.slice (some ⟨g, 0, none⟩) j d) j xs) {i : Nat} {u : Value} (hu : xs[i]? = some u) : w.cell? ⟨g, i, none⟩ = some u := by
 have h1 := World.ownsRow.cells h (g := g) rfl i u hu
 have ea : (⟨g, 0, none⟩ : Addr).add i = ⟨g, i, none⟩ := by unfold Addr.add; split <;> simp_all
 rw [ea] at h1
 exact h1
theorem OwnI.at_ {w : World} {base n c : Nat} {A : Option Addr} {zs : List Int} (h : OwnI w base A n c zs) {i : Nat} {z : Int} (hz : zs[i]? = some z) : ∃ g, A = some ⟨g, 0, none⟩ ∧ g < w.heap.size ∧ base ≤ g ∧ w.cell? ⟨g, i, none⟩ = some (.int .i64 z) ∧ i < n := by
 have hl := h.1
 have hi : i < zs.length := (List.getElem?_eq_some_iff.1 hz).1
 rw [List.length_map] at hl
 rcases h.2 with ⟨_, h2⟩ | ⟨g, cap', cur, hv, hg, hh, _⟩
 · omega
 injection hv with e1 e2 e3
 subst e1
 have h3 := ownsRow_block h (g := g) rfl
 have h4 := own_cellH h (i := i) (u := .int .i64 z) (by rw [List.getElem?_map, hz]; rfl)
 exact ⟨g, rfl, h3.2.1, h3.1, h4, by omega⟩
theorem splaceOf_any {A : Option Addr} {n c : Nat} {x : TT} {w : World} (ht : TermV w A n c (rowT x)) (hy : RtX x) (h12 : x.1.op = 12) :
 Calls Try.prog 73 #[.slice A n c] w (fun e w' => e = .returned (.int .i64 (placeT x)) ∧ Below w.heap.size w w') := by
 have hOk : OkT x := ⟨(Rt.wf hy).1, (Rt.wf hy).2.1, (Rt.wf hy).2.2⟩
 obtain ⟨f1, f2, f3, f4, _⟩ := fix_parts hOk h12
 obtain ⟨q1, _⟩ := fixk hOk h12
 obtain ⟨nb, hnb⟩ : ∃ nb : Nat, x.1.b = (nb : Int) := ⟨x.1.b.toNat, by omega⟩
 obtain ⟨ia, hia⟩ : ∃ ia : Nat, x.1.a = (ia : Int) := ⟨x.1.a.toNat, by omega⟩
 have hpl : (placesT x.2.2)[ia]? = some (placeT x) := by
  have hl : ia < (placesT x.2.2).length := by unfold placesT; rw [List.length_map, q1]; omega
  unfold placeT
  rw [show x.1.a.toNat = ia from by omega, List.getD_eq_getElem?_getD, List.getElem?_eq_getElem hl]
  rfl
 have hn0 : 0 < n := by rw [← ht.len]; simp [rowT]
 have HPL := hid (splaces_any ht hy h12 hnb)
 obtain ⟨bf, off, rfl, hbf, _, hc1, _⟩ := ht.at_ hn0
 simp only [Nat.zero_mul, Nat.add_zero] at hc1
 rw [show nth (rowT x) 0 = x.1 from rfl, hia] at hc1
 have hin : ia < nb := by omega
 have HP := hid hpl
 generalize placeT x = pz at *
 clear ht hy h12 hOk f1 f2 f3 f4 q1 hpl hia hnb
 go_in
 go_wp2_with fail
 refine (HPL.out).mono ?_
 rintro e w2 ⟨hd, A1, c1, A2, c2, bq, rfl, ho1, ho2, _⟩
 obtain ⟨g, rfl, hg, _, hcg, _⟩ := ho1.at_ HP.out
 have hca := (hd.cell (p := ⟨bf, off + 1, none⟩) hbf).trans hc1
 have hi0 : (0 : Int) ≤ (ia : Int) := by omega
 have hi1 : (ia : Int) < (nb : Int) := by omega
 have HD := hid hd
 clear hd ho1 ho2 hc1
 go_wp2_with fail
 go_ret
 exact ⟨rfl, HD.out⟩
end Go.Proofs.Ytjllmblbbgojbaa
