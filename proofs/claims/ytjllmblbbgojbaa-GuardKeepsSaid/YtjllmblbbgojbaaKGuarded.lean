/- The guard checker's walks: Guarded. -/
import Derived.Test.YtjllmblbbgojbaaKShort2
import Derived.Test.YtjllmblbbgojbaaKFines
import Derived.Test.YtjllmblbbgojbaaKBase
namespace Go.Proofs.Ytjllmblbbgojbaa
open Go.Lib (hid)
open Go.RowKit
theorem press_cons (p : List Nd) (n : Nd) (a : List Nd) (k x : Fo) : press (.cons p n a k x) = p ++ press x := rfl
theorem okF_a {f : Nd} (h : okF f = true) : 0 ≤ f.a ∧ f.a < 16 := by
 simp only [okF, Bool.and_eq_true, decide_eq_true_eq] at h
 have := plainB_iff.1 h.1
 omega
theorem own_off {w : World} {base : Nat} {e : TypeId} {size : Nat} {v : Value} {n : Nat} {xs : List Value} (h : w.ownsRow base e size v n xs) {g : Nat} (hg : g < base) : v.ownBlock = none ∨ v.ownBlock ≠ some g := .inr fun e => by
 have := (ownsRow_block h e).1
 omega
theorem pcs_own2 {w0 w : World} {base : Nat} {B : Option Addr} {n d : Nat} {vs : List Value} {ys : List TT} (h : OwnT w base B n d vs) (hp : PcsC w0 vs ys) (hb : Below w0.heap.size w0 w) (hn : n ≤ 1000000) : PcsR w B n ys := by
 have hl := hp.len
 have hv : vs.length = n := by have := h.1; omega
 refine ⟨by omega, hn, fun hpos => ?_⟩
 have h0 := h
 rcases h.2 with ⟨_, h2⟩ | ⟨g, cap', cur, hvv, hg, hh, _⟩
 · omega
 injection hvv with e1 e2 e3
 subst e1
 refine ⟨g, 0, rfl, (ownsRow_block h0 rfl).2.1, fun k hk => ?_⟩
 obtain ⟨A, n', c', e, ht⟩ := PcsC.at_ k hp hk
 refine ⟨A, n', c', ?_, fun w' h' => ht w' (hb.trans (h'.mono hb.size))⟩
 rw [Nat.zero_add, h0.cellAt k (by omega)]
 exact e
theorem sx_keep {wo w2 : World} {g bt ot bq oq i : Nat} {lk : Array Value} {v u : Value} (h : Below wo.heap.size wo w2) (hz : ∀ k, wo.cell? ⟨g, k, none⟩ = lk[k]?) (hg : g < wo.heap.size) (hbt : bt < wo.heap.size) (hct : wo.cell? ⟨bt, ot + i, none⟩ = some v) (hbq : bq < wo.heap.size) (hcq : wo.cell? ⟨bq, oq + i, none⟩ = some u) :
 (w2.cell? ⟨g, 0, none⟩ = lk[0]? ∧ w2.cell? ⟨g, 1, none⟩ = lk[1]? ∧ w2.cell? ⟨g, 2, none⟩ = lk[2]? ∧ w2.cell? ⟨g, 3, none⟩ = lk[3]? ∧ w2.cell? ⟨g, 4, none⟩ = lk[4]? ∧ w2.cell? ⟨g, 5, none⟩ = lk[5]?) ∧ w2.cell? ⟨bt, ot + i, none⟩ = some v ∧ w2.cell? ⟨bq, oq + i, none⟩ = some u := by
 have hc := fun k => (h.cell (p := ⟨g, k, none⟩) hg).trans (hz k)
 exact ⟨⟨hc 0, hc 1, hc 2, hc 3, hc 4, hc 5⟩, (h.cell (p := ⟨bt, ot + i, none⟩) hbt).trans hct, (h.cell (p := ⟨bq, oq + i, none⟩) hbq).trans hcq⟩
structure GS1 (tt : List Nd) (kk : Fo) (nb ne n q p : Nat) (dF : Fo) (L1 L2 : List TT) (zq : List Int) : Prop where
 at_ : At tt p (dsF (nb - q)) dF
 pl : zq ++ (press dF).map (·.a) = placesT kk
 ty : L1 ++ tysT (kidL dF) = tysT (kidL kk)
 bd : L2 ++ bdsT (kidL dF) = bdsT (kidL kk)
 r1 : ∀ y ∈ L1, RtX y ∧ (rowT y).length ≤ n
 r2 : ∀ y ∈ L2, RtX y ∧ (rowT y).length ≤ n ∧ JE ne y
 p16 : ∀ z ∈ zq, 0 ≤ z ∧ z < 16
 jx : ∀ y ∈ kidL dF, JE ne y
structure GS2 (w wr : World) (q : Nat) (A8 : Option Addr) (c8 : Nat) (vs2 : List Value) (A9 : Option Addr) (c9 : Nat) (vs1 : List Value) (L1 L2 : List TT) : Prop where
 o8 : OwnT wr (w.heap.size + 2) A8 q c8 vs2
 o9 : OwnT wr (w.heap.size + 2) A9 q c9 vs1
 sep : Sep (.slice A8 q c8) (.slice A9 q c9)
 p1 : PcsC w vs1 L1
 p2 : PcsC w vs2 L2
structure GS3 (w wr : World) (q nb : Nat) (Aq : Option Addr) (cq : Nat) (zq : List Int) (lk : Array Value) : Prop where
 oq : OwnI wr (w.heap.size + 2) Aq q cq zq
 om : OwnM wr (w.heap.size + 2) (some ⟨w.heap.size + 2, 0, none⟩) nb nb (marks0 q ++ List.replicate (nb - q) 0)
 bk : Blk wr (w.heap.size + 1) 98 lk
 bl : Below w.heap.size w wr
set_option linter.unusedSimpArgs false in
set_option linter.unusedVariables false in
set_option maxRecDepth 100000 in
set_option maxHeartbeats 8000000 in
theorem guarded_any {vars nat : Int} {Ao Ae Ap : Option Addr} {no co ne ce np cp : Nat} {ca : Int → Nat → Nat} {w : World} {A : Option Addr} {n c : Nat} {nd : Nd} {a : List Nd} {kk : Fo} (hE : EntR ⟨vars, nat, Ao, no, co, Ae, ne, ce, Ap, np, cp, none, 0, 0⟩ ca w) (ht : TermV w A n c (rowT (nd, a, kk))) (hy : RtX (nd, a, kk)) (h12 : nd.op = 12) (hJ : JE ne (nd, a, kk)) :
 Calls Try.prog 30 #[.agg #[.int .i64 vars, .slice Ao no co, .slice Ae ne ce, .int .i64 nat, .slice Ap np cp], .slice A n c] w (ErrP (if guardT ca (rowT (nd, a, kk)).length (nd, a, kk) then 0 else 18) w) := by
 have hok := (Rt.wf hy).1
 simp only at hok
 have hpl := plainB_iff.1 (by simp only [okN, Bool.and_eq_true] at hok; exact hok.1.1)
 have hb14 : 1 ≤ nd.b ∧ nd.b ≤ 4 := by omega
 have hat := At.first hy (by omega : nd.op ≠ 2)
 obtain ⟨nb, hnb⟩ : ∃ nb : Nat, nd.b = (nb : Int) := ⟨nd.b.toNat, by omega⟩
 rw [ds_fix h12 hnb] at hat
 have HJX : Hid (∀ y ∈ kidL kk, JE ne y) := hid (JE.kid hJ)
 have HGT : Hid (guardT ca (rowT (nd, a, kk)).length (nd, a, kk) = guardL (fineT (placesT kk) ca n) (marks0 nb) (placesT kk) (tysT (kidL kk)) (bdsT (kidL kk))) := hid (by
  unfold guardT
  rw [show nd.b.toNat = nb from by omega, ht.len])
 have hb1 : 1 ≤ nb ∧ nb ≤ 4 := by omega
 have hlenF := ht.len
 have hn4 : n ≤ 4096 := by rw [← hlenF]; exact Rt.few hy
 have hn0 : 0 < n := by rw [← hlenF]; simp [rowT]
 have hcapF := ht.cap
 obtain ⟨bf, off, rfl, hbf, hc0, hc1, hc2⟩ := ht.at_ hn0
 simp only [Nat.zero_mul, Nat.add_zero] at hc0 hc1 hc2
 rw [show nth (rowT (nd, a, kk)) 0 = nd from rfl] at hc0 hc1 hc2
 rw [hnb] at hc2
 have HTF := hid (fun (w' : World) (h : Below w.heap.size w w') => ht.below h)
 have HAT := hid hat
 have HE := hid hE
 obtain ⟨tt, htt⟩ : ∃ tt, tt = rowT (nd, a, kk) := ⟨_, rfl⟩
 obtain ⟨gt, hgt⟩ : ∃ gt, gt = guardT ca (rowT (nd, a, kk)).length (nd, a, kk) := ⟨_, rfl⟩
 rw [← hgt] at HGT ⊢
 obtain ⟨er, her⟩ : ∃ er : Int, er = if gt then 0 else 18 := ⟨_, rfl⟩
 rw [← her]
 have HER : Hid (er = if guardL (fineT (placesT kk) ca n) (marks0 nb) (placesT kk) (tysT (kidL kk)) (bdsT (kidL kk)) then 0 else 18) := hid (by rw [her, HGT.out])
 rw [← htt] at HAT hlenF HTF
 have hmk := make_mark nb (by omega)
 obtain ⟨i0, hi, hz0, hz1, hz2⟩ := info_parts infoI
 obtain ⟨j0, hj, hw0, hw1, hw2⟩ := info_parts infoR
 have HI0 := hid hi
 have HY0 := hid hz0
 have HY1 := hid hz1
 have HY2 := hid hz2
 have HJ0 := hid hj
 have HW0 := hid hw0
 have HW1 := hid hw1
 have HW2 := hid hw2
 clear hi hz0 hz1 hz2 hj hw0 hw1 hw2 hok hpl hat htt hgt her HGT hE ht hy hJ hnb hb14 hc0 hc1 h12
 -- the world ahead of the first loop
 have hW1 : ∃ W1, W1 = ((w.alloc (.cells #[.int .i64 vars, .slice Ao no co, .slice Ae ne ce, .int .i64 nat, .slice Ap np cp] 26)).alloc (.cells #[.int .i64 vars, .slice Ao no co, .slice Ae ne ce, .int .i64 nat, .slice Ap np cp, .slice none 0 0] 98)).alloc (.cells (Array.replicate nb (Value.int .i64 0)) 100) := ⟨_, rfl⟩
 obtain ⟨W1, hW1⟩ := hW1
 have HBel1 : Hid (Below w.heap.size w W1) := hid (by
  rw [hW1]
  exact (((Below.refl _ _).alloc (Nat.le_refl _) _).alloc (by simp) _).alloc (by simp; omega) _)
 have HBk1 : Hid (Blk W1 (w.heap.size + 1) 98 #[.int .i64 vars, .slice Ao no co, .slice Ae ne ce, .int .i64 nat, .slice Ap np cp, .slice none 0 0]) := hid (by
  rw [hW1]
  have h1 := Blk.new (w.alloc (.cells #[.int .i64 vars, .slice Ao no co, .slice Ae ne ce, .int .i64 nat, .slice Ap np cp] 26)) 98 #[.int .i64 vars, .slice Ao no co, .slice Ae ne ce, .int .i64 nat, .slice Ap np cp, .slice none 0 0]
  rw [show (w.alloc (.cells #[.int .i64 vars, .slice Ao no co, .slice Ae ne ce, .int .i64 nat, .slice Ap np cp] 26)).heap.size = w.heap.size + 1 from by simp] at h1
  exact h1.alloc _)
 have HMk1 : Hid (OwnM W1 (w.heap.size + 2) (some ⟨w.heap.size + 2, 0, none⟩) nb nb (marks0 0 ++ List.replicate (nb - 0) 0)) := hid (by
  rw [hW1]
  have h1 := own_full ((w.alloc (.cells #[.int .i64 vars, .slice Ao no co, .slice Ae ne ce, .int .i64 nat, .slice Ap np cp] 26)).alloc (.cells #[.int .i64 vars, .slice Ao no co, .slice Ae ne ce, .int .i64 nat, .slice Ap np cp, .slice none 0 0] 98)) (w.heap.size + 2) 100 (List.replicate nb (Value.int .i64 0)) (by simp) (by simp; unfold maxLen; omega)
  rw [show ((w.alloc (.cells #[.int .i64 vars, .slice Ao no co, .slice Ae ne ce, .int .i64 nat, .slice Ap np cp] 26)).alloc (.cells #[.int .i64 vars, .slice Ao no co, .slice Ae ne ce, .int .i64 nat, .slice Ap np cp, .slice none 0 0] 98)).heap.size = w.heap.size + 2 from by simp] at h1
  simp only [List.length_replicate, List.toArray_replicate] at h1
  have e : (marks0 0 ++ List.replicate (nb - 0) 0).map (Value.int .i64) = List.replicate nb (.int .i64 0) := by simp [marks0]
  show World.ownsRow _ _ _ _ _ _ ((marks0 0 ++ List.replicate (nb - 0) 0).map (Value.int .i64))
  rw [e]
  exact h1)
 go_in
 go_wp2_with fail
 rw [← hW1]
 clear hW1 hmk
 go_loopw [8, 9, 10, 24] (fun bv tv av iv wr => ∃ (q p : Nat) (dF : Fo) (L1 L2 : List TT) (vs1 vs2 : List Value) (zq : List Int) (A8 A9 Aq : Option Addr) (c8 c9 cq : Nat), bv = .slice A8 q c8 ∧ tv = .slice A9 q c9 ∧ av = .int .i64 (p : Int) ∧ iv = .int .i64 (q : Int) ∧ q ≤ nb ∧ 1 + 3 * q ≤ p ∧ p ≤ n ∧ Hid (GS1 tt kk nb ne n q p dF L1 L2 zq) ∧ Hid (GS2 w wr q A8 c8 vs2 A9 c9 vs1 L1 L2) ∧ Hid (GS3 w wr q nb Aq cq zq (#[.int .i64 vars, .slice Ao no co, .slice Ae ne ce, .int .i64 nat, .slice Ap np cp, .slice Aq q cq]))) (fun _ _ _ i _ => nb - (intOf i).toNat)
 case atStart => exact ⟨0, 1, kk, [], [], [], [], [], none, none, none, 0, 0, 0, rfl, rfl, rfl, rfl, by omega, by omega, by omega, hid ⟨HAT.out, rfl, rfl, rfl, fun y hy => (by cases hy), fun y hy => (by cases hy), fun z hz => (by cases hz), HJX.out⟩, hid ⟨World.ownsRow_nil _ _ _ _, World.ownsRow_nil _ _ _ _, fun g hg => (by simp [Value.ownBlock] at hg), trivial, trivial⟩, hid ⟨World.ownsRow_nil _ _ _ _, HMk1.out, HBk1.out, HBel1.out⟩⟩
 case round =>
  obtain ⟨q, p, dF, L1, L2, vs1, vs2, zq, A8, A9, Aq, c8, c9, cq, rfl, rfl, rfl, rfl, hqb, hp3, hpn, hL1, hL2, hL3⟩ := hrel
  obtain ⟨hAt, hZ, hT, hD, hR1, hR2, hP16, hjx⟩ := hL1.out
  obtain ⟨hO8, hO9, hSep, hP1, hP2⟩ := hL2.out
  obtain ⟨hOq, hOm, hBk, hBl⟩ := hL3.out
  by_cases hlt : q < nb
  · -- a function is read
    have hfl := AtF_len _ hAt
    obtain ⟨r, hr⟩ : ∃ r, nb - q = r + 1 := ⟨nb - q - 1, by omega⟩
    rw [hr] at hAt hfl
    rw [show dsF (r + 1) = true :: false :: dsF r from rfl] at hAt
    obtain ⟨pre1, n1, a1, k1, nx1, rfl, s1⟩ := hAt.step
    obtain ⟨pre2, n2', a2, k2, nx2, rfl, s2⟩ := s1.next.step
    obtain ⟨fd, rfl, hfd, hnf⟩ := s1.fun_ rfl
    have hpl2 : pre2.length = 0 := s2.plen
    obtain rfl := List.eq_nil_of_length_eq_zero hpl2
    have hnx := s2.next
    have hfl2 := AtF_len _ hnx
    obtain ⟨e1, c1, r1, l1⟩ := (⟨s1.end_, s1.cut, s1.rt, s1.le⟩ : _ ∧ _ ∧ _ ∧ _)
    obtain ⟨e2, c2', r2, l2⟩ := (⟨s2.end_, s2.cut, s2.rt, s2.le⟩ : _ ∧ _ ∧ _ ∧ _)
    simp only [List.length_cons, List.length_nil, Nat.zero_add, Nat.add_zero] at e1 c1 l1 e2 c2' l2 hnx hfl2
    have hjy2 := hjx (n2', a2, k2) (by simp [kidL])
    have HJ2 : Hid (∀ y ∈ kidL nx2, JE ne y) := hid fun y hy => hjx y (by simp [kidL, hy])
    rw [press_cons, press_cons, List.nil_append, List.singleton_append, List.map_cons] at hZ
    rw [show kidL (.cons [fd] n1 a1 k1 (.cons [] n2' a2 k2 nx2)) = (n1, a1, k1) :: (n2', a2, k2) :: kidL nx2 from rfl] at hT hD
    obtain ⟨y1, hy1⟩ : ∃ y1, y1 = ((n1, a1, k1) : TT) := ⟨_, rfl⟩
    obtain ⟨y2, hy2⟩ : ∃ y2, y2 = ((n2', a2, k2) : TT) := ⟨_, rfl⟩
    rw [← hy1] at e1 c1 l1 e2 c2' l2 r1 hnx hT hD hfl2
    rw [← hy2] at e2 c2' l2 r2 hjy2 hnx hT hD hfl2
    obtain ⟨g1, hg1⟩ : ∃ g, g = p + 1 + (rowT y1).length := ⟨_, rfl⟩
    obtain ⟨g2, hg2⟩ : ∃ g, g = g1 + (rowT y2).length := ⟨_, rfl⟩
    rw [← hg1] at e1 c1 l1 e2 c2' l2 hnx hfl2
    rw [← hg2] at e2 c2' l2 hnx hfl2
    rw [hlenF] at l1 l2 hfl hfl2
    have hpos1 : 0 < (rowT y1).length := by simp [rowT]
    have hpos2 : 0 < (rowT y2).length := by simp [rowT]
    obtain ⟨Ay1, hcut1, hcutr1⟩ := cut_mid (some ⟨bf, off, none⟩) n c (p + 1) g1 (by omega) (by omega) hcapF
    obtain ⟨Ay2, hcut2, hcutr2⟩ := cut_mid (some ⟨bf, off, none⟩) n c g1 g2 (by omega) (by omega) hcapF
    have HTY1 : Hid (∀ w', Below w.heap.size w w' → TermV w' Ay1 (g1 - (p + 1)) (c - (p + 1)) (rowT y1)) := hid fun w' h => by
     have := hcutr1 _ _ _ (HTF.out w' h)
     rwa [c1] at this
    have HTY2 : Hid (∀ w', Below w.heap.size w w' → TermV w' Ay2 (g2 - g1) (c - g1) (rowT y2)) := hid fun w' h => by
     have := hcutr2 _ _ _ (HTF.out w' h)
     rwa [c2'] at this
    rw [show ((p + 1 : Nat) : Int) = (p : Int) + 1 from by omega] at hcut1 e1
    have HEN1 := hid (fun (wr : World) (h : Below w.heap.size w wr) => end_any (HTF.out wr h) ((p : Int) + 1))
    rw [e1] at HEN1
    have HEN2 := hid (fun (wr : World) (h : Below w.heap.size w wr) => end_any (HTF.out wr h) (g1 : Int))
    rw [e2] at HEN2
    obtain ⟨b', o', e', _, _, hcp, _⟩ := (HTF.out w (Below.refl _ _)).at_ (p := p) (by omega)
    injection e' with e'
    injection e' with e1' e2'
    subst e1' e2'
    rw [hnf] at hcp
    have hfa := okF_a hfd
    obtain ⟨fa, hfae⟩ : ∃ fa, fa = fd.a := ⟨_, rfl⟩
    rw [← hfae] at hcp hfa hZ
    have HZ2 := hid hZ
    have HT2 := hid hT
    have HD2 := hid hD
    have hrr : r = nb - (q + 1) := by omega
    rw [hrr] at hnx
    have HNX2 := hid hnx
    have HR1' : Hid (∀ y ∈ L1 ++ [y1], RtX y ∧ (rowT y).length ≤ n) := hid fun y hy => by
     rcases List.mem_append.1 hy with hy | hy
     · exact hR1 y hy
     rw [List.mem_singleton] at hy; subst hy; exact ⟨r1, by omega⟩
    have HR2' : Hid (∀ y ∈ L2 ++ [y2], RtX y ∧ (rowT y).length ≤ n ∧ JE ne y) := hid fun y hy => by
     rcases List.mem_append.1 hy with hy | hy
     · exact hR2 y hy
     rw [List.mem_singleton] at hy; subst hy; exact ⟨r2, by omega, hjy2⟩
    have HP16' : Hid (∀ z ∈ zq ++ [fa], 0 ≤ z ∧ z < 16) := hid fun z hz => by
     rcases List.mem_append.1 hz with hz | hz
     · exact hP16 z hz
     rw [List.mem_singleton] at hz; subst hz; exact hfa
    have hqlt : decide ((q : Int) < (nb : Int)) = true := decide_eq_true (by omega)
    have hip : (0 : Int) ≤ (p : Int) := by omega
    have hipn : (p : Int) < (n : Int) := by omega
    have hp1g : p + 1 ≤ g1 ∧ g1 ≤ g2 ∧ g2 ≤ n ∧ 1 + 3 * (q + 1) ≤ g2 := by omega
    obtain ⟨hpg, hgg, hgn, h3g⟩ := hp1g
    have HO8 := hid hO8
    have HO9 := hid hO9
    have HSep := hid hSep
    have HP1 := hid hP1
    have HP2 := hid hP2
    have HOq : Hid (OwnI wr.drew (w.heap.size + 2) Aq q cq zq) := hid hOq
    have HOm := hid hOm
    have HBk := hid hBk
    have HBl := hid hBl
    have hbs : w.heap.size ≤ wr.heap.size := hBl.size
    have hbs2 : w.heap.size + 2 ≤ wr.heap.size := by
     have : w.heap.size + 2 < wr.heap.size := (ownsRow_block hOm (g := w.heap.size + 2) rfl).2.1
     omega
    have zb5 : wr.drew.cell? ⟨w.heap.size + 1, 5, none⟩ = some (.slice Aq q cq) := Blk.cell hBk 5
    have hcp0 : wr.drew.cell? ⟨bf, off + p * 3 + 1, none⟩ = some (.int .i64 fa) := (hBl.cell (p := ⟨bf, off + p * 3 + 1, none⟩) hbf).trans hcp
    have HCPW := hid hcp
    have hcp7 : (wr.drew.alloc (.cells #[.int .i64 fa] 3)).cell? ⟨bf, off + p * 3 + 1, none⟩ = some (.int .i64 fa) := ((below_alloc wr.drew (.cells #[.int .i64 fa] 3)).cell (p := ⟨bf, off + p * 3 + 1, none⟩) (Nat.lt_of_lt_of_le hbf hbs)).trans hcp0
    have zb57 : (wr.drew.alloc (.cells #[.int .i64 fa] 3)).cell? ⟨w.heap.size + 1, 5, none⟩ = some (.slice Aq q cq) := Blk.cell (Blk.alloc (show Blk wr.drew _ _ _ from hBk) (.cells #[.int .i64 fa] 3)) 5
    have hmkq : Hid ((zq ++ [fa]).map (Value.int .i64) = zq.map (Value.int .i64) ++ [.int .i64 fa]) := hid (by simp)
    clear hAt hfl s1 s2 hpl2 hnx hfl2 e1 c1 r1 l1 e2 c2' r2 l2 hjy2 hy1 hy2 hg1 hg2 hcutr1 hcutr2 hr hrr hnf hfd hfae hcp hL1 hL2 hL3 hO8 hO9 hSep hP1 hP2 hOq hOm hBk hBl hZ hT hD hR1 hR2 hP16 hjx hpos1 hpos2
    go_wp2_with fail
    refine wp_region_E 10 (fun w' => w'.cell? ⟨w.heap.size + 1, 5, none⟩ = some (.slice Aq q cq) ∧ w'.cell? ⟨bf, off + p * 3 + 1, none⟩ = some (.int .i64 fa)) (by kernel_rfl) ?_ (fun hHeld => ?_)
    · (try dsimp only); exact ⟨zb5, hcp0⟩
    refine wpAnyE_take' (i := 0) (v := ?_) rfl (by kernel_rfl) (by kernel_rfl) (by kernel_rfl) (by kernel_rfl) (by kernel_rfl) (fun _ _ _ h => h) (Or.inl ⟨by rfl, fun w hSw => ?_⟩) hHeld ?_
    rotate_left
    · ((try dsimp only at hSw); go_simp; try with_reducible rfl)
    try simp only [p7]
    refine wpAnyE_take' (i := 1) (v := ?_) rfl (by kernel_rfl) (by kernel_rfl) (by kernel_rfl) (by kernel_rfl) (by kernel_rfl) (fun _ _ _ h => h) (Or.inl ⟨by rfl, fun w hSw => ?_⟩) hHeld ?_
    rotate_left
    · ((try dsimp only at hSw); go_simp; try with_reducible rfl)
    try simp only [p7]
    refine wpAnyE_take' (i := 2) (v := ?_) rfl (by kernel_rfl) (by kernel_rfl) (by kernel_rfl) (by kernel_rfl) (by kernel_rfl) (fun _ _ _ h => h) (Or.inl ⟨by rfl, fun w hSw => ?_⟩) hHeld ?_
    rotate_left
    · ((try dsimp only at hSw); go_simp; try with_reducible rfl)
    try simp only [p7]
    refine wpAnyE_take' (i := 3) (v := ?_) rfl (by kernel_rfl) (by kernel_rfl) (by kernel_rfl) (by kernel_rfl) (by kernel_rfl) (fun _ _ _ h => h) (Or.inl ⟨by rfl, fun w hSw => ?_⟩) hHeld ?_
    rotate_left
    · ((try dsimp only at hSw); go_simp; try with_reducible rfl)
    try simp only [p7]
    refine wpAnyE_take' (i := 4) (v := ?_) rfl (by kernel_rfl) (by kernel_rfl) (by kernel_rfl) (by kernel_rfl) (by kernel_rfl) (fun _ _ _ h => h) (Or.inl ⟨by rfl, fun w hSw => ?_⟩) hHeld ?_
    rotate_left
    · ((try dsimp only at hSw); go_simp; try with_reducible rfl)
    try simp only [p7]
    refine wpAnyE_take' (i := 5) (v := ?_) rfl (by kernel_rfl) (by kernel_rfl) (by kernel_rfl) (by kernel_rfl) (by kernel_rfl) (fun _ _ _ h => h) (Or.inl ⟨by rfl, fun w hSw => ?_⟩) hHeld ?_
    rotate_left
    · ((try dsimp only at hSw); go_simp; try with_reducible rfl)
    try simp only [p7]
    refine wpAnyE_take' (i := 6) (v := ?_) rfl (by kernel_rfl) (by kernel_rfl) (by kernel_rfl) (by kernel_rfl) (by kernel_rfl) (fun _ _ _ h => h) (Or.inl ⟨by rfl, fun w hSw => ?_⟩) hHeld ?_
    rotate_left
    · ((try dsimp only at hSw); go_simp; try with_reducible rfl)
    try simp only [p7]
    refine wpAnyE_step (i := 7) (by kernel_rfl) rfl rfl (fun K hK => ?_)
    go_simp
    refine hK.out _ _ (fun _ => ?_) ?_
    · (try dsimp only); exact ⟨zb57, hcp7⟩
    clear hK K
    try simp only [p7]
    replace hHeld := (And.intro zb57 hcp7)
    refine wpAnyE_step (i := 8) (by kernel_rfl) rfl rfl (fun K hK => ?_)
    refine oper_append_one (.tmp 28) (.tmp 34) 96 3 rfl (w.heap.size + 2) i0 _ 8 Try.underlying96 HI0.out HY0.out HY1.out HY2.out rfl (by decide) (.slice Aq q cq) q (zq.map (Value.int .i64)) (.int .i64 fa) rfl wr.drew (by rfl) (by rfl) HOq.out _ (by rfl) (by rfl) (by omega) hbs2 ?_
    intro Aq' cq' w8 happ8
    have hblk8 := Blk.grown (show Blk wr.drew _ _ _ from HBk.out) happ8.grown (own_ne HOq.out (by omega))
    have hc85 : w8.cell? ⟨w.heap.size + 1, 5, none⟩ = some (.slice Aq q cq) := Blk.cell hblk8 5
    have hf85 : w8.frozen? ⟨w.heap.size + 1, 5, none⟩ = false := Blk.frozen hblk8 5
    have HBl8 := hid ((below_drewN HBl.out 1).grown happ8.grown hbs (fun g hg => by have := (ownsRow_block HOq.out hg).1; omega))
    have hcp8 : w8.cell? ⟨bf, off + p * 3 + 1, none⟩ = some (.int .i64 fa) := (HBl8.out.cell (p := ⟨bf, off + p * 3 + 1, none⟩) hbf).trans HCPW.out
    refine hK.out _ _ (fun _ => ?_) ?_
    · (try dsimp only); exact ⟨hc85, hcp8⟩
    clear hK K
    try simp only [p7]
    replace hHeld := (And.intro hc85 hcp8)
    refine wpAnyE_take' (i := 9) (v := ?_) rfl (by kernel_rfl) (by kernel_rfl) (by kernel_rfl) (by kernel_rfl) (by kernel_rfl) (fun _ _ _ h => h) (Or.inl ⟨by rfl, fun w hSw => ?_⟩) hHeld ?_
    rotate_left
    · ((try dsimp only at hSw); go_simp; try with_reducible rfl)
    try simp only [p7]
    refine wpAnyE_step (i := 10) (by kernel_rfl) rfl rfl (fun K hK => ?_)
    go_simp
    refine hK.out _ _ (fun h => absurd rfl h) ?_
    clear hK K
    try simp only [p7]
    refine wpAnyE_end (by kernel_rfl) ?_ _
    have HO88 := hid (own_kept (show OwnT wr.drew _ A8 q c8 vs2 from HO8.out) HOq.out (by decide) happ8.grown)
    have HO98 := hid (own_kept (show OwnT wr.drew _ A9 q c9 vs1 from HO9.out) HOq.out (by decide) happ8.grown)
    have HOm8 := hid (own_kept (show OwnM wr.drew _ _ nb nb _ from HOm.out) HOq.out (by decide) happ8.grown)
    have HOq8 : Hid (OwnI w8 (w.heap.size + 2) Aq' (q + 1) cq' (zq ++ [fa])) := hid (by have := happ8.own; rw [← hmkq.out] at this; exact this)
    have HBk9 := hid (Blk.set_ hblk8 5 (.slice Aq' (q + 1) cq'))
    have hbs8 := HBl8.out.size
    obtain ⟨w9, hw9⟩ : ∃ w9, w9 = w8.setCell ⟨w.heap.size + 1, 5, none⟩ (.slice Aq' (q + 1) cq') := ⟨_, rfl⟩
    have hG9 : w8.grownBy w9 (some (w.heap.size + 1)) := by rw [hw9]; exact grown_setv _ _ _ _
    have HO89 := hid (HO88.out.kept hG9 (own_off HO88.out (by omega)))
    have HO99 := hid (HO98.out.kept hG9 (own_off HO98.out (by omega)))
    have HOm9 := hid (HOm8.out.kept hG9 (own_off HOm8.out (by omega)))
    have HOq9 := hid (HOq8.out.kept hG9 (own_off HOq8.out (by omega)))
    have HBl9 := hid (HBl8.out.grown hG9 hbs8 (fun g hg => by injection hg with hg; omega))
    have HBk9' : Hid (Blk w9 (w.heap.size + 1) 98 #[.int .i64 vars, .slice Ao no co, .slice Ae ne ce, .int .i64 nat, .slice Ap np cp, .slice Aq' (q + 1) cq']) := hid (by rw [hw9]; exact HBk9.out)
    rw [← hw9]
    have hm9 : w9.cell? ⟨w.heap.size + 1 + 1, q, none⟩ = some (.int .i64 0) := by
     have h1 := HOm9.out.cellAt q (by omega)
     rw [show w.heap.size + 1 + 1 = w.heap.size + 2 from rfl, h1]
     have hm : (marks0 q).length = q := by simp [marks0]
     rw [List.getElem?_map, List.getElem?_append_right (by omega), hm, Nat.sub_self, List.getElem?_replicate, if_pos (by omega)]
     rfl
    have hf9 : w9.frozen? ⟨w.heap.size + 1 + 1, q, none⟩ = false := HOm9.out.frozenAt q
    have hbs9 := HBl9.out.size
    have hbs92 : w.heap.size + 2 ≤ w9.heap.size := by
     have : w.heap.size + 2 < w9.heap.size := (ownsRow_block HOm9.out (g := w.heap.size + 2) rfl).2.1
     omega
    clear hw9 hG9 HBk9 happ8 hblk8 hc85 hf85 hcp8 hHeld hcp0 hcp7 zb5 zb57 HO8 HO9 HOq HOm HBk HBl HO88 HO98 HOm8 HOq8 HBl8 hbs8 hbs hbs2
    go_wp2_with fail
    have hst := HOm9.out.stored q (.int .i64 (100 + (q : Int)))
    obtain ⟨w10, hw10⟩ : ∃ w10, w10 = w9.setCell ⟨w.heap.size + 1 + 1, q, none⟩ (.int .i64 (100 + (q : Int))) := ⟨_, rfl⟩
    rw [show (w9.setCell ⟨w.heap.size + 2, q, none⟩ (.int .i64 (100 + (q : Int)))) = w10 from hw10.symm, marks_set q nb hlt] at hst
    have hG10 := hst.2
    have HOmA := hid hst.1
    have HO8A := hid (own_kept HO89.out HOm9.out (by decide) (show w9.grownBy w10 (Value.slice (some ⟨w.heap.size + 2, 0, none⟩) nb nb).ownBlock from hG10))
    have HO9A := hid (own_kept HO99.out HOm9.out (by decide) (show w9.grownBy w10 (Value.slice (some ⟨w.heap.size + 2, 0, none⟩) nb nb).ownBlock from hG10))
    have HOqA := hid (own_kept HOq9.out HOm9.out (by decide) (show w9.grownBy w10 (Value.slice (some ⟨w.heap.size + 2, 0, none⟩) nb nb).ownBlock from hG10))
    have HBkA := hid (Blk.grown HBk9'.out hG10 (by intro e; injection e with e; omega))
    have HBlA := hid (HBl9.out.grown hG10 hbs9 (fun g hg => by injection hg with hg; omega))
    clear hst hG10 HO89 HO99 HOm9 HOq9 HBl9 HBk9' hm9 hf9 hbs9 hbs92
    rw [← hw10]
    refine (HEN1.out _ HBlA.out).mono ?_
    rintro e wa ⟨rfl, hba⟩
    have HBla := bto HBlA hba
    have HO8a := hid (own_below HO8A.out hba)
    have HO9a := hid (own_below HO9A.out hba)
    have HOqa := hid (own_below HOqA.out hba)
    have HOma := hid (own_below HOmA.out hba)
    have HBka := bko HBkA hba
    have hbsa := HBla.out.size
    have hbsa2 : w.heap.size + 2 ≤ wa.heap.size := by
     have : w.heap.size + 2 < wa.heap.size := (ownsRow_block HOma.out (g := w.heap.size + 2) rfl).2.1
     omega
    clear hba hw10 HO8A HO9A HOqA HOmA HBkA HBlA
    go_wp2_with (at_builtin; go_loud (refine wpList_oper rfl (oper_append_one (.tmp 46) (.tmp 52) 49 28 rfl (w.heap.size + 2) j0 _ 24 Try.underlying49 HJ0.out HW0.out HW1.out HW2.out rfl (by decide) (.slice A9 q c9) q vs1 (.slice Ay1 (g1 - (p + 1)) (c - (p + 1))) rfl wa rfl rfl HO9a.out _ rfl rfl (by omega) hbsa2 ?_)); intro A9' c9' wb happb)
    have HO9b := hid happb.own
    have HO8b := hid (own_sep HO8a.out happb.grown HSep.out)
    have HSepb := hid (Sep.app HO8a.out HSep.out happb)
    have HOqb := hid (own_kept HOqa.out HO9a.out (by decide) happb.grown)
    have HOmb := hid (own_kept HOma.out HO9a.out (by decide) happb.grown)
    have HBkb := hid (Blk.grown HBka.out happb.grown (own_ne HO9a.out (by omega)))
    have HBlb := hid (HBla.out.grown happb.grown hbsa (fun g hg => by have := (ownsRow_block HO9a.out hg).1; omega))
    have HP1b := hid (PcsC.add (HTY1.out) HP1.out)
    have hbsb := HBlb.out.size
    clear happb HO8a HO9a HOqa HOma HBka HBla hbsa hbsa2 HSep HP1
    go_wp2_with fail
    refine (HEN2.out _ HBlb.out).mono ?_
    rintro e wd ⟨rfl, hbd⟩
    have HBld := bto HBlb hbd
    have HO8d := hid (own_below HO8b.out hbd)
    have HO9d := hid (own_below HO9b.out hbd)
    have HOqd := hid (own_below HOqb.out hbd)
    have HOmd := hid (own_below HOmb.out hbd)
    have HBkd := bko HBkb hbd
    have hbsd := HBld.out.size
    have hbsd2 : w.heap.size + 2 ≤ wd.heap.size := by
     have : w.heap.size + 2 < wd.heap.size := (ownsRow_block HOmd.out (g := w.heap.size + 2) rfl).2.1
     omega
    clear hbd HO8b HO9b HOqb HOmb HBkb HBlb hbsb
    go_wp2_with (at_builtin; go_loud (refine wpList_oper rfl (oper_append_one (.tmp 57) (.tmp 62) 49 28 rfl (w.heap.size + 2) j0 _ 24 Try.underlying49 HJ0.out HW0.out HW1.out HW2.out rfl (by decide) (.slice A8 q c8) q vs2 (.slice Ay2 (g2 - g1) (c - g1)) rfl wd rfl rfl HO8d.out _ rfl rfl (by omega) hbsd2 ?_)); intro A8' c8' we happe)
    have HO8e := hid happe.own
    have HO9e := hid (own_sep HO9d.out happe.grown HSepb.out.symm)
    have HSepe := hid (Sep.app HO9d.out HSepb.out.symm happe).symm
    have HOqe := hid (own_kept HOqd.out HO8d.out (by decide) happe.grown)
    have HOme := hid (own_kept HOmd.out HO8d.out (by decide) happe.grown)
    have HBke := hid (Blk.grown HBkd.out happe.grown (own_ne HO8d.out (by omega)))
    have HBle := hid (HBld.out.grown happe.grown hbsd (fun g hg => by have := (ownsRow_block HO8d.out hg).1; omega))
    have HP2e := hid (PcsC.add (HTY2.out) HP2.out)
    have HGS1 : Hid (GS1 tt kk nb ne n (q + 1) g2 nx2 (L1 ++ [y1]) (L2 ++ [y2]) (zq ++ [fa])) := hid ⟨HNX2.out, by have := HZ2.out; rwa [List.append_cons] at this, by have := HT2.out; rw [show tysT (y1 :: y2 :: kidL nx2) = y1 :: tysT (kidL nx2) from rfl, List.append_cons] at this; exact this, by have := HD2.out; rw [show bdsT (y1 :: y2 :: kidL nx2) = y2 :: bdsT (kidL nx2) from rfl, List.append_cons] at this; exact this, HR1'.out, HR2'.out, HP16'.out, HJ2.out⟩
    have HGS2 : Hid (GS2 w we (q + 1) A8' c8' (vs2 ++ [.slice Ay2 (g2 - g1) (c - g1)]) A9' c9' (vs1 ++ [.slice Ay1 (g1 - (p + 1)) (c - (p + 1))]) (L1 ++ [y1]) (L2 ++ [y2])) := hid ⟨HO8e.out, HO9e.out, HSepe.out, HP1b.out, HP2e.out⟩
    have HGS3 : Hid (GS3 w we (q + 1) nb Aq' cq' (zq ++ [fa]) (#[.int .i64 vars, .slice Ao no co, .slice Ae ne ce, .int .i64 nat, .slice Ap np cp, .slice Aq' (q + 1) cq'])) := hid ⟨HOqe.out, HOme.out, HBke.out, HBle.out⟩
    clear happe HO8d HO9d HOqd HOmd HBkd HBld hbsd hbsd2 HSepb
    go_wp2_with fail
    go_roundw
    case rel => exact ⟨q + 1, g2, nx2, L1 ++ [y1], L2 ++ [y2], _, _, zq ++ [fa], A8', A9', Aq', c8', c9', cq', rfl, rfl, rfl, by go_num, by omega, by omega, by omega, HGS1, HGS2, HGS3⟩
    case measure => simp [intOf]; omega
  -- all functions are read
  obtain rfl : q = nb := by omega
  rw [Nat.sub_self] at hAt hOm
  rw [show dsF 0 = [] from rfl] at hAt
  have hd := hAt.done
  subst hd
  rw [show press Fo.nil = [] from rfl, List.map_nil, List.append_nil] at hZ
  rw [show kidL Fo.nil = [] from rfl, show tysT [] = [] from rfl, List.append_nil] at hT
  rw [show kidL Fo.nil = [] from rfl, show bdsT [] = [] from rfl, List.append_nil] at hD
  rw [List.replicate_zero, List.append_nil] at hOm
  have hl1 : L1.length = q := by have h1 := hP1.len; have h2 := hO9.1; omega
  have hl2 : L2.length = q := by have h1 := hP2.len; have h2 := hO8.1; omega
  have hlz : zq.length = q := by have h1 := hOq.1; simpa using h1
  have hER := HER.out
  rw [← hT, ← hD, ← hZ] at hER
  clear hjx hAt hZ hT hD HER HJX HAT
  obtain ⟨wo, rfl⟩ : ∃ wo : World, wo = wr := ⟨_, rfl⟩
  have hPR1 := pcs_own2 hO9 hP1 hBl (by omega)
  have hPR2 := pcs_own2 hO8 hP2 hBl (by omega)
  have hIQ := OwnI.ints hOq (by omega)
  have hIM := OwnM.ints hOm (by omega)
  have hnulM : (some ⟨w.heap.size + 2, 0, none⟩ : Option Addr) = none → q = 0 := fun e => by cases e
  have hEO := (EntR.places (Ar := Aq) (nr := q) (cr := cq) HE.out).below hBl
  have HFINE := fine_all (K := ⟨vars, nat, Ao, no, co, Ae, ne, ce, Ap, np, cp, Aq, q, cq⟩) (I := fun w' => EntR ⟨vars, nat, Ao, no, co, Ae, ne, ce, Ap, np, cp, Aq, q, cq⟩ ca w' ∧ IntsR (· < w'.heap.size) w' Aq q cq zq) (J := JE ne) (ca := ca) (places := zq) (fun _ _ h hb => ⟨h.1.below hb, h.2.below hb⟩) (fun _ h => h.1) (fun _ h => h.2) hP16 (fun _ _ _ h => JE.kid h) (fun _ _ _ h => JE.node h) n
  have HTK := hid (fun (w' : World) (y : TT) (A' : Option Addr) (n' c' pl : Nat) (h1 : TermV w' A' n' c' (rowT y)) (h2 : RtX y) (h3 : pl ≤ 100) => taken_any (p := pl) h1 h2 h3)
  have HBD := hid (fun (w' : World) (y : TT) (A' : Option Addr) (n' c' pl : Nat) (hb : Below wo.heap.size wo w') (h1 : TermV w' A' n' c' (rowT y)) (h2 : RtX y) (h3 : (rowT y).length ≤ n) (h4 : JE ne y) (h5 : pl ≤ 100) => body_any (p := pl) HFINE (fun _ _ h hb => ⟨h.1.below hb, h.2.below hb⟩) (fun zs z h0 h2 h => GM.add h0 h2 h) (fun n a n1 a1 k1 n2 a2 k2 h => ⟨JE.kid h _ (by simp [kidL]), JE.kid h _ (by simp [kidL])⟩) ⟨hEO.below hb, hIQ.below hb⟩ h1 h2 h3 h4 (by omega) (hIM.below hb) hnulM (by rw [hlz]; exact GM_marks0 q) h5)
  simp only at HBD
  have HPR1 := hid hPR1
  have HPR2 := hid hPR2
  have HIQ := hid hIQ
  have HR1 := hid hR1
  have HR2 := hid hR2
  have HP16 := hid hP16
  have HBlo := hid hBl
  have HBko := hid hBk
  have HERo := hid hER
  have HL := hid (And.intro hl1 (And.intro hl2 hlz))
  have hqlt : decide ((q : Int) < (q : Int)) = false := decide_eq_false (by omega)
  have hbso := hBl.size
  have hgo : w.heap.size + 1 < wo.heap.size := hBk.lt
  clear hPR1 hPR2 hIQ hIM hnulM hEO HFINE hR1 hR2 hP16 hBl hBk hER hl1 hl2 hlz hO8 hO9 hSep hP1 hP2 hOq hOm hL1 hL2 hL3
  generalize fineT zq ca n = rc at *
  go_wp2_with fail
  go_loopw [67] (fun iv w' => ∃ j : Nat, iv = .int .i64 (j : Int) ∧ j ≤ q ∧ Hid (guardL rc (marks0 q) (zq.drop j) (L1.drop j) (L2.drop j) = guardL rc (marks0 q) zq L1 L2) ∧ Hid (Below wo.heap.size wo w')) (fun i _ => q - (intOf i).toNat)
  case atStart => exact ⟨0, rfl, by omega, hid rfl, hid (Below.refl _ _)⟩
  case round =>
   obtain ⟨j, rfl, hjq, hgl, hbw⟩ := hrel
   obtain ⟨hl1, hl2, hlz⟩ := HL.out
   by_cases hlt2 : j < q
   rotate_left
   · have hjlt : decide ((j : Int) < (q : Int)) = false := decide_eq_false (by omega)
     have HE1 : Hid (er = 0) := hid (by
      have := hgl.out
      rw [List.drop_of_length_le (by omega)] at this
      rw [HERo.out, ← this]; rfl)
     go_wp2_with fail
     go_ret
     rw [HE1.out]
     exact ⟨rfl, HBlo.out.trans (hbw.out.mono hbso)⟩
   have hjlt : decide ((j : Int) < (q : Int)) = true := decide_eq_true (by omega)
   have hj0 : (0 : Int) ≤ (j : Int) := by omega
   have hj1 : (j : Int) < (q : Int) := by omega
   obtain ⟨bt, ot, rfl, hbt, hmt⟩ := HPR1.out.mem (by omega)
   obtain ⟨bd, od, rfl, hbd, hmd⟩ := HPR2.out.mem (by omega)
   obtain ⟨At1, nt1, ct1, hct, htt⟩ := hmt j (by omega)
   obtain ⟨Ad1, nd1, cd1, hcd, htd⟩ := hmd j (by omega)
   obtain ⟨bq, oq, rfl, hbq, hcq⟩ := HIQ.out.at_ (k := j) hlt2
   obtain ⟨y1, hy1⟩ : ∃ y, y = L1[j] := ⟨_, rfl⟩
   obtain ⟨y2, hy2⟩ : ∃ y, y = L2[j] := ⟨_, rfl⟩
   obtain ⟨z, hz⟩ : ∃ z, z = zq[j] := ⟨_, rfl⟩
   have hzd : zq.getD j 0 = z := by rw [List.getD_eq_getElem?_getD, List.getElem?_eq_getElem (by omega), hz]; rfl
   rw [hzd] at hcq
   have hzb := HP16.out z (by rw [hz]; exact List.getElem_mem _)
   obtain ⟨pl, rfl⟩ : ∃ pl : Nat, z = (pl : Int) := ⟨z.toNat, by omega⟩
   rw [← hy1] at htt
   rw [← hy2] at htd
   obtain ⟨hr1, hr1l⟩ := HR1.out y1 (by rw [hy1]; exact List.getElem_mem _)
   obtain ⟨hr2, hr2l, hr2j⟩ := HR2.out y2 (by rw [hy2]; exact List.getElem_mem _)
   have hgl2 := hgl.out
   rw [List.drop_eq_getElem_cons (l := zq) (i := j) (by omega), List.drop_eq_getElem_cons (l := L1) (i := j) (by omega), List.drop_eq_getElem_cons (l := L2) (i := j) (by omega), ← hz, ← hy1, ← hy2] at hgl2
   simp only [guardL, Int.toNat_natCast] at hgl2
   have zbo := Blk.cell HBko.out
   have hbws := hbw.out.size
   have HC1 := hid (HTK.out wr.drew y1 At1 nt1 ct1 pl (htt _ (below_drewN hbw.out 1)) hr1 (by omega))
   have HC2 := hid (fun (w2 : World) (h : Below wo.heap.size wo w2) => HBD.out w2 y2 Ad1 nd1 cd1 pl h (htd _ h) hr2 hr2l hr2j (by omega))
   obtain ⟨b1, hb1'⟩ : ∃ b1, b1 = takenT pl y1 := ⟨_, rfl⟩
   obtain ⟨b2, hb2'⟩ : ∃ b2, b2 = bodyT rc (pl + 1) (marks0 q) y2 := ⟨_, rfl⟩
   rw [← hb1'] at HC1 hgl2
   rw [← hb2'] at HC2 hgl2
   have HGL2 := hid hgl2
   have HSX := hid (fun (w2 : World) (h : Below wo.heap.size wo w2) => sx_keep (i := j) h zbo hgo hbt hct hbq hcq)
   have hcdw : wr.cell? ⟨bd, od + j, none⟩ = some (.slice Ad1 nd1 cd1) := (hbw.out.cell (p := ⟨bd, od + j, none⟩) hbd).trans hcd
   clear hct htt hcd htd hcq hy1 hy2 hz hzd hzb hr1 hr1l hr2 hr2l hr2j hgl2 hb1' hb2' zbo hmt hmd hbt hbd hbq
   have HSX1 := HSX.out _ (below_drewN hbw.out 1)
   cases b1 with
   | false =>
    have HE1 : Hid (er = 18) := hid (by
     have := HGL2.out
     simp only [Bool.false_and] at this
     rw [HERo.out, ← this]; rfl)
    go_wp2_with fail
    refine wp_region_held_drew (S := (fun w' => w'.cell? ⟨w.heap.size + 1, 0, none⟩ = some (.int .i64 vars) ∧ w'.cell? ⟨w.heap.size + 1, 1, none⟩ = some (.slice Ao no co) ∧ w'.cell? ⟨w.heap.size + 1, 2, none⟩ = some (.slice Ae ne ce) ∧ w'.cell? ⟨w.heap.size + 1, 3, none⟩ = some (.int .i64 nat) ∧ w'.cell? ⟨w.heap.size + 1, 4, none⟩ = some (.slice Ap np cp) ∧ w'.cell? ⟨w.heap.size + 1, 5, none⟩ = some (.slice (some ⟨bq, oq, none⟩) q cq) ∧ w'.cell? ⟨bt, ot + j, none⟩ = some (.slice At1 nt1 ct1) ∧ w'.cell? ⟨bq, oq + j, none⟩ = some (.int .i64 (pl : Int)))) (by kernel_rfl) ?_ (fun hHeld => ?_)
    · (try dsimp only); exact ⟨HSX1.1.1, HSX1.1.2.1, HSX1.1.2.2.1, HSX1.1.2.2.2.1, HSX1.1.2.2.2.2.1, HSX1.1.2.2.2.2.2, HSX1.2.1, HSX1.2.2⟩
    refine tq 0 hHeld ?_
    try simp only [p7]
    refine tq 1 hHeld ?_
    try simp only [p7]
    refine tq 2 hHeld ?_
    try simp only [p7]
    refine tq 3 hHeld ?_
    try simp only [p7]
    refine tq 4 hHeld ?_
    try simp only [p7]
    refine tq 5 hHeld ?_
    try simp only [p7]
    refine tq 6 hHeld ?_
    try simp only [p7]
    refine tq 7 hHeld ?_
    try simp only [p7]
    refine tq 8 hHeld ?_
    try simp only [p7]
    refine r1 9 fun K hK => ?_
    go_simp
    go_at_call 55
    refine (HC1.out).mono ?_
    rintro e w5 ⟨rfl, hb5⟩
    have HSX5 := HSX.out w5 ((below_drewN hbw.out 1).trans (hb5.mono hbws))
    go_wp2_with fail
    refine hK.out _ _ (by exact ⟨HSX5.1.1, HSX5.1.2.1, HSX5.1.2.2.1, HSX5.1.2.2.2.1, HSX5.1.2.2.2.2.1, HSX5.1.2.2.2.2.2, HSX5.2.1, HSX5.2.2⟩) fun hHeld => ?_
    clear hK K
    try simp only [p7]
    refine tq 10 hHeld ?_
    try simp only [p7]
    refine tq 11 hHeld ?_
    try simp only [p7]
    refine dk 12 hHeld ?_
    try simp only [p7]
    refine dk 13 hHeld ?_
    try simp only [p7]
    refine dk 14 hHeld ?_
    try simp only [p7]
    refine dk 15 hHeld ?_
    try simp only [p7]
    refine dk 16 hHeld ?_
    try simp only [p7]
    refine dk 17 hHeld ?_
    try simp only [p7]
    refine dk 18 hHeld ?_
    try simp only [p7]
    refine dk 19 hHeld ?_
    try simp only [p7]
    refine dk 20 hHeld ?_
    try simp only [p7]
    refine dk 21 hHeld ?_
    try simp only [p7]
    refine tq 22 hHeld ?_
    try simp only [p7]
    refine wpAnyH_done (by kernel_rfl) ?_ _
    have HB5 := hid (HBlo.out.trans (((below_drewN hbw.out 1).trans (hb5.mono hbws)).mono hbso))
    clear hb5
    go_wp2_with fail
    go_ret
    rw [HE1.out]
    exact ⟨rfl, HB5.out⟩
   | true =>
    cases b2 with
    | false =>
     have HE1 : Hid (er = 18) := hid (by
      have := HGL2.out
      simp only [Bool.true_and, Bool.false_and] at this
      rw [HERo.out, ← this]; rfl)
     go_wp2_with fail
     refine wp_region_held_drew (S := (fun w' => w'.cell? ⟨w.heap.size + 1, 0, none⟩ = some (.int .i64 vars) ∧ w'.cell? ⟨w.heap.size + 1, 1, none⟩ = some (.slice Ao no co) ∧ w'.cell? ⟨w.heap.size + 1, 2, none⟩ = some (.slice Ae ne ce) ∧ w'.cell? ⟨w.heap.size + 1, 3, none⟩ = some (.int .i64 nat) ∧ w'.cell? ⟨w.heap.size + 1, 4, none⟩ = some (.slice Ap np cp) ∧ w'.cell? ⟨w.heap.size + 1, 5, none⟩ = some (.slice (some ⟨bq, oq, none⟩) q cq) ∧ w'.cell? ⟨bt, ot + j, none⟩ = some (.slice At1 nt1 ct1) ∧ w'.cell? ⟨bq, oq + j, none⟩ = some (.int .i64 (pl : Int)))) (by kernel_rfl) ?_ (fun hHeld => ?_)
     · (try dsimp only); exact ⟨HSX1.1.1, HSX1.1.2.1, HSX1.1.2.2.1, HSX1.1.2.2.2.1, HSX1.1.2.2.2.2.1, HSX1.1.2.2.2.2.2, HSX1.2.1, HSX1.2.2⟩
     refine tq 0 hHeld ?_
     try simp only [p7]
     refine tq 1 hHeld ?_
     try simp only [p7]
     refine tq 2 hHeld ?_
     try simp only [p7]
     refine tq 3 hHeld ?_
     try simp only [p7]
     refine tq 4 hHeld ?_
     try simp only [p7]
     refine tq 5 hHeld ?_
     try simp only [p7]
     refine tq 6 hHeld ?_
     try simp only [p7]
     refine tq 7 hHeld ?_
     try simp only [p7]
     refine tq 8 hHeld ?_
     try simp only [p7]
     refine r1 9 fun K hK => ?_
     go_simp
     go_at_call 55
     refine (HC1.out).mono ?_
     rintro e w5 ⟨rfl, hb5⟩
     have HSX5 := HSX.out w5 ((below_drewN hbw.out 1).trans (hb5.mono hbws))
     go_wp2_with fail
     refine hK.out _ _ (by exact ⟨HSX5.1.1, HSX5.1.2.1, HSX5.1.2.2.1, HSX5.1.2.2.2.1, HSX5.1.2.2.2.2.1, HSX5.1.2.2.2.2.2, HSX5.2.1, HSX5.2.2⟩) fun hHeld => ?_
     clear hK K
     try simp only [p7]
     have HB5 := hid ((below_drewN hbw.out 1).trans (hb5.mono hbws))
     clear hb5
     refine tq 10 hHeld ?_
     try simp only [p7]
     refine tq 11 hHeld ?_
     try simp only [p7]
     refine tq 12 hHeld ?_
     try simp only [p7]
     refine tq 13 hHeld ?_
     try simp only [p7]
     refine tq 14 hHeld ?_
     try simp only [p7]
     refine tq 15 hHeld ?_
     try simp only [p7]
     refine tq 16 hHeld ?_
     try simp only [p7]
     refine tq 17 hHeld ?_
     try simp only [p7]
     refine tq 18 hHeld ?_
     try simp only [p7]
     refine tq 19 hHeld ?_
     try simp only [p7]
     refine r1 20 fun K hK => ?_
     go_simp
     go_at_call 56
     refine (HC2.out w5 HB5.out).mono ?_
     rintro e w8 ⟨rfl, hb8⟩
     have HSX8 := HSX.out w8 (HB5.out.trans (hb8.mono HB5.out.size))
     go_wp2_with fail
     refine hK.out _ _ (by exact ⟨HSX8.1.1, HSX8.1.2.1, HSX8.1.2.2.1, HSX8.1.2.2.2.1, HSX8.1.2.2.2.2.1, HSX8.1.2.2.2.2.2, HSX8.2.1, HSX8.2.2⟩) fun hHeld => ?_
     clear hK K
     try simp only [p7]
     refine tq 21 hHeld ?_
     try simp only [p7]
     refine tq 22 hHeld ?_
     try simp only [p7]
     refine wpAnyH_done (by kernel_rfl) ?_ _
     have HB8 := hid (HBlo.out.trans ((HB5.out.trans (hb8.mono HB5.out.size)).mono hbso))
     clear hb8
     go_wp2_with fail
     go_ret
     rw [HE1.out]
     exact ⟨rfl, HB8.out⟩
    | true =>
     have HGN : Hid (guardL rc (marks0 q) (zq.drop (j + 1)) (L1.drop (j + 1)) (L2.drop (j + 1)) = guardL rc (marks0 q) zq L1 L2) := hid (by
      have := HGL2.out
      simpa only [Bool.true_and] using this)
     go_wp2_with fail
     refine wp_region_held_drew (S := (fun w' => w'.cell? ⟨w.heap.size + 1, 0, none⟩ = some (.int .i64 vars) ∧ w'.cell? ⟨w.heap.size + 1, 1, none⟩ = some (.slice Ao no co) ∧ w'.cell? ⟨w.heap.size + 1, 2, none⟩ = some (.slice Ae ne ce) ∧ w'.cell? ⟨w.heap.size + 1, 3, none⟩ = some (.int .i64 nat) ∧ w'.cell? ⟨w.heap.size + 1, 4, none⟩ = some (.slice Ap np cp) ∧ w'.cell? ⟨w.heap.size + 1, 5, none⟩ = some (.slice (some ⟨bq, oq, none⟩) q cq) ∧ w'.cell? ⟨bt, ot + j, none⟩ = some (.slice At1 nt1 ct1) ∧ w'.cell? ⟨bq, oq + j, none⟩ = some (.int .i64 (pl : Int)))) (by kernel_rfl) ?_ (fun hHeld => ?_)
     · (try dsimp only); exact ⟨HSX1.1.1, HSX1.1.2.1, HSX1.1.2.2.1, HSX1.1.2.2.2.1, HSX1.1.2.2.2.2.1, HSX1.1.2.2.2.2.2, HSX1.2.1, HSX1.2.2⟩
     refine tq 0 hHeld ?_
     try simp only [p7]
     refine tq 1 hHeld ?_
     try simp only [p7]
     refine tq 2 hHeld ?_
     try simp only [p7]
     refine tq 3 hHeld ?_
     try simp only [p7]
     refine tq 4 hHeld ?_
     try simp only [p7]
     refine tq 5 hHeld ?_
     try simp only [p7]
     refine tq 6 hHeld ?_
     try simp only [p7]
     refine tq 7 hHeld ?_
     try simp only [p7]
     refine tq 8 hHeld ?_
     try simp only [p7]
     refine r1 9 fun K hK => ?_
     go_simp
     go_at_call 55
     refine (HC1.out).mono ?_
     rintro e w5 ⟨rfl, hb5⟩
     have HSX5 := HSX.out w5 ((below_drewN hbw.out 1).trans (hb5.mono hbws))
     go_wp2_with fail
     refine hK.out _ _ (by exact ⟨HSX5.1.1, HSX5.1.2.1, HSX5.1.2.2.1, HSX5.1.2.2.2.1, HSX5.1.2.2.2.2.1, HSX5.1.2.2.2.2.2, HSX5.2.1, HSX5.2.2⟩) fun hHeld => ?_
     clear hK K
     try simp only [p7]
     have HB5 := hid ((below_drewN hbw.out 1).trans (hb5.mono hbws))
     clear hb5
     refine tq 10 hHeld ?_
     try simp only [p7]
     refine tq 11 hHeld ?_
     try simp only [p7]
     refine tq 12 hHeld ?_
     try simp only [p7]
     refine tq 13 hHeld ?_
     try simp only [p7]
     refine tq 14 hHeld ?_
     try simp only [p7]
     refine tq 15 hHeld ?_
     try simp only [p7]
     refine tq 16 hHeld ?_
     try simp only [p7]
     refine tq 17 hHeld ?_
     try simp only [p7]
     refine tq 18 hHeld ?_
     try simp only [p7]
     refine tq 19 hHeld ?_
     try simp only [p7]
     refine r1 20 fun K hK => ?_
     go_simp
     go_at_call 56
     refine (HC2.out w5 HB5.out).mono ?_
     rintro e w8 ⟨rfl, hb8⟩
     have HSX8 := HSX.out w8 (HB5.out.trans (hb8.mono HB5.out.size))
     go_wp2_with fail
     refine hK.out _ _ (by exact ⟨HSX8.1.1, HSX8.1.2.1, HSX8.1.2.2.1, HSX8.1.2.2.2.1, HSX8.1.2.2.2.2.1, HSX8.1.2.2.2.2.2, HSX8.2.1, HSX8.2.2⟩) fun hHeld => ?_
     clear hK K
     try simp only [p7]
     refine tq 21 hHeld ?_
     try simp only [p7]
     refine tq 22 hHeld ?_
     try simp only [p7]
     refine wpAnyH_done (by kernel_rfl) ?_ _
     have HB8 := bto HB5 hb8
     clear hb8
     go_wp2_with fail
     go_roundw
     case rel => exact ⟨j + 1, by go_num, by omega, HGN, HB8⟩
     case measure => simp [intOf]; omega
end Go.Proofs.Ytjllmblbbgojbaa
