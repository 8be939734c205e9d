/- The guard checker's walks: fine. -/
import Derived.Test.YtjllmblbbgojbaaKShort2
import Derived.Test.YtjllmblbbgojbaaKFineS
namespace Go.Proofs.Ytjllmblbbgojbaa
open Go.Lib (hid)
open Go.RowKit
def dsF : Nat → List Bool
 | 0 => []
 | r + 1 => true :: false :: dsF r
theorem dsF_flat : ∀ r : Nat, (List.replicate r [true, false]).flatten = dsF r
 | 0 => rfl
 | r + 1 => by rw [List.replicate_succ, List.flatten_cons, dsF_flat r]; rfl
theorem ds_fix {n : Nd} {nb : Nat} (h : n.op = 12) (hb : n.b = (nb : Int)) : ds n = dsF nb := by
 unfold ds
 rw [if_pos h, hb, Int.toNat_natCast, dsF_flat]
theorem AtF_len : ∀ (r : Nat) {t : List Nd} {p : Nat} {F : Fo}, At t p (dsF r) F → p + 3 * r ≤ t.length
 | 0, t, p, F, h => by have := h.le; omega
 | r + 1, t, p, F, h => by
  obtain ⟨pre1, n1, a1, k1, nx1, rfl, s1⟩ := h.step
  obtain ⟨pre2, n2, a2, k2, nx2, rfl, s2⟩ := s1.next.step
  have h1 := AtF_len r s2.next
  have e1 : pre1.length = 1 := s1.plen
  have e2 : pre2.length = 0 := s2.plen
  have l1 : 0 < (rowT (n1, a1, k1)).length := by simp [rowT]
  have l2 : 0 < (rowT (n2, a2, k2)).length := by simp [rowT]
  omega
set_option linter.unusedSimpArgs false in
set_option linter.unusedVariables false in
set_option maxRecDepth 100000 in
set_option maxHeartbeats 8000000 in
theorem fine_fix {K : LK} {I : World → Prop} {J : TT → Prop} {ca : Int → Nat → Nat} {places : List Int} {f m : Nat} (H : FineH K I (GM places.length) J (fineT places ca f) m) (hI : ∀ w w', I w → Below w.heap.size w w' → I w') (hE : ∀ w, I w → EntR K ca w) (hP : ∀ w, I w → IntsR (· < w.heap.size) w K.Aq K.nq K.cq places) (hp16 : ∀ p ∈ places, 0 ≤ p ∧ p < 16) (hJK : ∀ n a k, J (n, a, k) → ∀ y ∈ kidL k, J y) (hJM : ∀ n a k, J (n, a, k) → n.op = 11 → n.a < (K.ne : Int)) (w : World) (x : TT) (zs : List Int) (A : Option Addr) (n c : Nat) (B : Option Addr) (k d : Nat) (hw : I w) (ht : TermV w A n c (rowT x)) (hy : RtX x) (hm : (rowT x).length ≤ m + 1) (hJ : J x) (hz : IntsR (· < w.heap.size) w B k d zs) (hnul : B = none → d = 0) (hk : k + (rowT x).length ≤ 9000) (hg : GM places.length zs) (hop : (hd (rowT x).length x).1.1.op = 12) :
 Calls Try.prog 83 #[.agg #[.int .i64 K.vars, .slice K.Ao K.no K.co, .slice K.Ae K.ne K.ce, .int .i64 K.nat, .slice K.Ap K.np K.cp, .slice K.Aq K.nq K.cq], .slice A n c, .slice B k d] w (BoolP (fineT places ca (f + 1) zs x) w) := by
 have HOP := hop
 clear hop
 obtain ⟨vars, nat, Ao, no, co, Ae, ne, ce, Ap, np, cp, Aq, nqq, cq⟩ := K
 have HK := hid H
 unfold FineH at H
 simp only at H hP ⊢
 obtain ⟨i0, hi, hy0, hy1, hy2⟩ := info_parts infoM
 have HI0 := hid hi
 have HY0 := hid hy0
 have HY1 := hid hy1
 have HY2 := hid hy2
 clear hi hy0 hy1 hy2
 obtain ⟨hr1, hr2, hr3, hr4, hr5⟩ := hd_right _ x hy (Nat.le_refl _)
 obtain ⟨hj1, hj2⟩ := hd_J hJK (rowT x).length x hy hJ
 have hll := hd_len (rowT x).length x hy
 have hxf : (rowT x).length ≤ 4096 := Rt.few hy
 have HHD := hid (fun (w' : World) (h : Below w.heap.size w w') => head_any (ht.below h) hy)
 obtain ⟨F, L, hFL⟩ : ∃ F L, hd (rowT x).length x = (F, L) := ⟨_, _, rfl⟩
 have HFT := hid (fineT_succ (places := places) (ca := ca) (f := f) (zs := zs) hFL)
 rw [hFL] at hr1 hr2 hr3 hr4 hr5 hj1 hj2 hll HHD HOP
 simp only at hr1 hr2 hr3 hr4 hr5 hj1 hj2 hll HFT HOP
 generalize hXL : (rowT x).length = xl at *
 have hva := var_a hr1
 have hLx : L.length ≤ 1000000 := by omega
 have HZ := hid hz
 have HG := hid hg
 have HALL := hid (fun (w0 wr : World) (B2 : Option Addr) (d2 : Nat) (vs : List Value) (h0 : Below w.heap.size w w0) (hb : Below w0.heap.size w0 wr) (ho : wr.ownsRow w0.heap.size 28 1 (.slice B2 L.length d2) L.length vs) (hp : PcsC w0 vs L) => all_any (c := d2) HK.out hI (hI _ _ hw (h0.trans (hb.mono h0.size))) (pcs_own ho hp hb hLx) (fun y hy => ⟨(hr4 y hy).1, by have := (hr4 y hy).2; omega, hj2 y hy, by have := (hr4 y hy).2; omega⟩) (hz.below (h0.trans (hb.mono h0.size))) hnul hg)
 have HBEL0 := hid (below_alloc w (.cells #[.int .i64 vars, .slice Ao no co, .slice Ae ne ce, .int .i64 nat, .slice Ap np cp, .slice Aq nqq cq] 98))
 have HBK0 := hid (Blk.new w 98 #[.int .i64 vars, .slice Ao no co, .slice Ae ne ce, .int .i64 nat, .slice Ap np cp, .slice Aq nqq cq])
 simp only at HALL
 obtain ⟨nd, fa, fk⟩ := F
 simp only at HOP hr1 hr3 hj1 hva HFT
 have hok := (Rt.wf hr1).1
 simp only at hok
 have hpl := plainB_iff.1 (by simp only [okN, Bool.and_eq_true] at hok; exact hok.1.1)
 have hb14 : 1 ≤ nd.b ∧ nd.b ≤ 4 := by omega
 have hat := At.first hr1 (by omega : nd.op ≠ 2)
 obtain ⟨nb, hnb⟩ : ∃ nb : Nat, nd.b = (nb : Int) := ⟨nd.b.toNat, by omega⟩
 rw [ds_fix HOP hnb] at hat
 have HJX : Hid (∀ y ∈ kidL fk, J y) := hid (hJK _ _ _ hj1)
 have HFT1 : Hid (restT places ca f zs ((nd, fa, fk), L) = pairsT (fineT places ca f) zs (zs ++ List.replicate nb 0) (kidL fk)) := hid (by unfold restT; simp only; rw [if_neg (by omega), if_neg (by omega), if_neg (by omega), if_neg (by omega), if_pos HOP, show nd.b.toNat = nb from by omega])
 rw [HFT1.out] at HFT
 obtain ⟨F, hFF⟩ : ∃ F, F = ((nd, fa, fk) : TT) := ⟨_, rfl⟩
 have hnd : F.1 = nd := by rw [hFF]
 rw [← hFF] at hat HHD hr3
 have HAT := hid hat
 have hb1 : 1 ≤ nb ∧ nb ≤ 4 := by omega
 have hkz := hz.len
 have HRC := hid (fun (wr : World) (y : TT) (A' : Option Addr) (n' c' : Nat) (h : Below w.heap.size w wr) (h1 : TermV wr A' n' c' (rowT y)) (h2 : RtX y) (h3 : (rowT y).length + 3 ≤ (rowT F).length) (h4 : J y) => H wr y zs A' n' c' B k d (hI _ _ hw h) h1 h2 (by omega) h4 (hz.below h) hnul (by omega) hg)
 have HRU := hid (fun (wr : World) (y : TT) (A' : Option Addr) (n' c' : Nat) (base : Nat) (B' : Option Addr) (d' : Nat) (h : Below w.heap.size w wr) (h1 : TermV wr A' n' c' (rowT y)) (h2 : RtX y) (h3 : (rowT y).length + 3 * nb ≤ (rowT F).length) (h4 : J y) (h6 : OwnM wr base B' (k + nb) d' (zs ++ List.replicate nb 0)) => H wr y (zs ++ List.replicate nb 0) A' n' c' B' (k + nb) d' (hI _ _ hw h) h1 h2 (by omega) h4 (OwnM.ints h6 (by omega)) (own_nul h6) (by omega) (GM.many hg))
 have HCL := hid (fun (wr : World) (h : Below w.heap.size w wr) => cloneM_any (hz.below h) (by omega) hnul)
 have HKZ := hid hkz
 have hk9 : k ≤ 9000 := by omega
 have hmk : Hid ((zs ++ List.replicate nb 0).map (Value.int .i64) = zs.map (Value.int .i64) ++ List.replicate nb (.int .i64 0)) := hid (by simp)
 clear hkz HFT1 H HK hI hE hP hp16 hJK hJM hw ht hy hJ hz hnul hg hr1 hr2 hr4 hr5 hj1 hj2 hFL hok hpl hFF hat hb14
 go_in
 go_wp2_with fail
 refine (HHD.out _ HBEL0.out).mono ?_
 rintro e w2 ⟨hb2, A2, n2, c2, B2, d2, vs, rfl, htf, ho2, hpc2⟩
 have HB2 := bto HBEL0 hb2
 have HBK2 := hid (Blk.below HBK0.out hb2 (by simp))
 have HHDB2 := hid hb2
 have HO2 := hid ho2
 have HPC2 := hid hpc2
 have HTF := hid (fun (w' : World) (h : Below w2.heap.size w2 w') => htf w' (hb2.trans (h.mono hb2.size)))
 have HC2 := hid (HALL.out _ _ _ _ _ HBEL0.out hb2 ho2 hpc2)
 have zc2 := Blk.cell HBK2.out
 have hbl2 := HBK2.out.lt
 clear hb2 ho2 hpc2 htf
 obtain ⟨rb, hrb⟩ : ∃ rb, rb = L.all (fineT places ca f zs) := ⟨_, rfl⟩
 rw [← hrb] at HC2 HFT
 clear hrb
 cases rb with
 | false =>
  rw [Bool.false_and] at HFT
  generalize fineT places ca (f + 1) zs x = res at *
  go_wp2_with fail
  refine (HC2.out).mono ?_
  rintro e w3 ⟨rfl, hb3⟩
  have HB3 := bto HB2 hb3
  clear hb3
  go_wp2_with fail
  go_ret
  rw [HFT.out]
  exact ⟨rfl, HB3.out⟩
 | true =>
  rw [Bool.true_and] at HFT
  generalize fineT places ca (f + 1) zs x = res at *
  go_wp2_with fail
  refine (HC2.out).mono ?_
  rintro e w3 ⟨rfl, hb3⟩
  have HB3 := bto HB2 hb3
  have HBK3 := hid (Blk.below HBK2.out hb3 hbl2)
  have HTF3 := hid (fun (w' : World) (h : Below w3.heap.size w3 w') => HTF.out w' (hb3.trans (h.mono hb3.size)))
  have HO3 := hid (own_pcs_keep HO2.out hb3)
  have HB03 := bto HHDB2 hb3
  have hf3 := HTF3.out w3 (Below.refl _ _)
  have hn3 : 0 < n2 := by have := hf3.len; rw [← this]; simp [rowT]
  obtain ⟨bf, off, rfl, hbf, hc30, hc31, hc32⟩ := hf3.at_ hn3
  simp only [Nat.zero_mul, Nat.add_zero] at hc30 hc31 hc32
  rw [show nth (rowT F) 0 = F.1 from rfl] at hc30 hc31 hc32
  have hlenF := hf3.len
  have hcapF := hf3.cap
  have hbs3 := HB3.out.size
  have hbl3 := HBK3.out.lt
  clear hb3 zc2 hf3
  have zc3 := Blk.cell HBK3.out
  rw [hnd] at hc30 hc31 hc32
  have hn4 : n2 ≤ 4096 := by omega
  rw [HOP] at hc30
  rw [hnb] at hc32
  clear HOP hnb hr3
  have HBa := hid (below_alloc w3 (.cells #[.int .i64 12, .int .i64 nd.a, .int .i64 nb] 34))
  have HN := hid (Blk.new w3 34 #[.int .i64 12, .int .i64 nd.a, .int .i64 nb])
  generalize nd.a = na at *
  have HD34 := hid (below_drewN HBa.out 1)
  have HD4 := hid (HB3.out.trans (HD34.out.mono hbs3))
  have hblk4 := Blk.below HBK3.out HD34.out hbl3
  have zn4 : (w3.alloc (.cells #[.int .i64 12, .int .i64 na, .int .i64 nb] 34)).drew.cell? ⟨w3.heap.size, 2, none⟩ = some (.int .i64 (nb : Int)) := Blk.cell HN.out 2
  go_wp2_with fail
  refine wp_region_held_drew (S := (fun w' => w'.cell? ⟨w3.heap.size, 2, none⟩ = some (.int .i64 (nb : Int)))) (by kernel_rfl) ?_ (fun hHeld => ?_)
  · (try dsimp only); exact zn4
  refine tq 0 hHeld ?_
  try simp only [p7]
  refine tq 2 hHeld ?_
  try simp only [p7]
  refine tq 3 hHeld ?_
  try simp only [p7]
  refine r1 1 fun K hK => ?_
  go_simp
  go_at_call 82
  refine (HCL.out _ HD4.out).mono ?_
  rintro e w6 ⟨hb6, A6, n6, c6, rfl, ho6⟩
  have hn6 : n6 = k := (by (have := ho6.1; rw [← HKZ.out]; simpa using this.symm))
  subst hn6
  have HB6 := bto HD4 hb6
  have HX6 := bto HD34 hb6
  have zn6 : w6.cell? ⟨w3.heap.size, 2, none⟩ = some (.int .i64 (nb : Int)) := (hb6.cell (p := ⟨w3.heap.size, 2, none⟩) (by simp)).trans zn4
  have hbn6 := Blk.below (show Blk (w3.alloc (.cells #[.int .i64 12, .int .i64 na, .int .i64 nb] 34)).drew w3.heap.size 34 _ from HN.out) hb6 (by simp)
  have HO6 : Hid (OwnM w6 (w3.heap.size + 1) A6 n6 c6 zs) := hid (by simpa using ho6)
  have hbs6 := HB6.out.size
  have hxs6 := HX6.out.size
  have hn6b : w3.heap.size + 1 ≤ w6.heap.size := (by simpa using hb6.size)
  clear hb6 ho6
  go_wp2_with fail
  refine hK.out _ _ (by exact zn6) fun hHeld => ?_
  clear hK K
  try simp only [p7]
  refine r1 4 fun K hK => ?_
  refine step_oper rfl (oper_append_zeros (.tmp 120) (.tmp 122) 99 3 rfl (w3.heap.size + 1) 100 .i64 i0 (.int .i64 0) 8 Try.underlying99 Try.underlying3 HI0.out HY0.out rfl rfl HY1.out HY2.out (by decide) (.slice A6 n6 c6) n6 (zs.map (Value.int .i64)) (by rfl) HO6.out nb (by rfl) (by omega) (by omega) hn6b ?_)
  intro A7 c7 w7 happ7
  have HO7 : Hid (OwnM w7 (w3.heap.size + 1) A7 (n6 + nb) c7 (zs ++ List.replicate nb 0)) := hid (by have := happ7.own; rw [← hmk.out] at this; exact this)
  have HB7 := hid (HB6.out.grown happ7.grown hbs6 (fun g hg => by have := (ownsRow_block HO6.out hg).1; omega))
  have HX7 := hid (HX6.out.grown happ7.grown hxs6 (fun g hg => by have := (ownsRow_block HO6.out hg).1; omega))
  have hbn7 := Blk.grown hbn6 happ7.grown (own_ne HO6.out (by omega))
  have zn7 : w7.cell? ⟨w3.heap.size, 2, none⟩ = some (.int .i64 (nb : Int)) := Blk.cell hbn7 2
  refine hK.out _ _ (by exact zn7) fun hHeld => ?_
  clear hK K
  try simp only [p7]
  refine tq 5 hHeld ?_
  try simp only [p7]
  refine wpAnyH_done (by kernel_rfl) ?_ _
  have HBK7 := hid (Blk.below HBK3.out HX7.out hbl3)
  clear happ7 hn6b hxs6 hbs6 hblk4 hHeld
  go_wp2_with fail
  obtain ⟨tt, htt⟩ : ∃ tt, tt = rowT F := ⟨_, rfl⟩
  rw [← htt] at HAT hlenF HRC HRU HTF3
  go_loopw [15, 126] (fun av iv wr => ∃ (q p : Nat) (dF : Fo), av = .int .i64 (p : Int) ∧ iv = .int .i64 (q : Int) ∧ q ≤ nb ∧ 1 + 3 * q ≤ p ∧ p ≤ n2 ∧ Hid (At tt p (dsF (nb - q)) dF) ∧ Hid (pairsT (fineT places ca f) zs (zs ++ List.replicate nb 0) (kidL dF) = res) ∧ Hid (∀ y ∈ kidL dF, J y) ∧ Hid (Blk wr w.heap.size 98 #[.int .i64 vars, .slice Ao no co, .slice Ae ne ce, .int .i64 nat, .slice Ap np cp, .slice Aq nqq cq]) ∧ Hid (Below w.heap.size w wr) ∧ Hid (Below w3.heap.size w3 wr) ∧ Hid (OwnM wr (w3.heap.size + 1) A7 (n6 + nb) c7 (zs ++ List.replicate nb 0))) (fun _ i _ => nb - (intOf i).toNat)
  case atStart => exact ⟨0, 1, fk, rfl, rfl, by omega, by omega, by omega, HAT, hid HFT.out.symm, HJX, HBK7, HB7, HX7, HO7⟩
  case round =>
   obtain ⟨q, p, dF, rfl, rfl, hqb, hp3, hpn, hAt, hbr, hjx, hblk, hbw, hbx, hown⟩ := hrel
   have hbs := hbw.out.size
   have hbxs := hbx.out.size
   have hbl := hblk.out.lt
   by_cases hlt : q < nb
   rotate_left
   · have HRES : Hid (res = true) := hid (by
      have h1 := hAt.out
      rw [show nb - q = 0 from by omega] at h1
      have h2 := h1.done
      subst h2
      exact hbr.out.symm)
     have hqlt : decide ((q : Int) < (nb : Int)) = false := decide_eq_false (by omega)
     go_wp2_with fail
     go_ret
     rw [HRES.out]
     exact ⟨rfl, hbw.out⟩
   have hat2 := hAt.out
   have hfl := AtF_len _ hat2
   obtain ⟨r, hr⟩ : ∃ r, nb - q = r + 1 := ⟨nb - q - 1, by omega⟩
   rw [hr] at hat2 hfl
   rw [show dsF (r + 1) = true :: false :: dsF r from rfl] at hat2
   obtain ⟨pre1, n1, a1, k1, nx1, rfl, s1⟩ := hat2.step
   obtain ⟨pre2, n2', a2, k2, nx2, rfl, s2⟩ := s1.next.step
   have hpl1 : pre1.length = 1 := s1.plen
   have hpl2 : pre2.length = 0 := s2.plen
   have hnx := s2.next
   have hfl2 := AtF_len _ hnx
   obtain ⟨e1, c1, r1, l1⟩ := (⟨s1.end_, s1.cut, s1.rt, s1.le⟩ : _ ∧ _ ∧ _ ∧ _)
   obtain ⟨e2, c2', r2, l2⟩ := (⟨s2.end_, s2.cut, s2.rt, s2.le⟩ : _ ∧ _ ∧ _ ∧ _)
   simp only [hpl1, hpl2, Nat.add_zero] at e1 c1 l1 e2 c2' l2 hnx hfl2
   have hjy1 := hjx.out (n1, a1, k1) (by simp [kidL])
   have hjy2 := hjx.out (n2', a2, k2) (by simp [kidL])
   have HJ2 : Hid (∀ y ∈ kidL nx2, J y) := hid fun y hy => hjx.out y (by simp [kidL, hy])
   have hbr2 := hbr.out
   rw [show kidL (.cons pre1 n1 a1 k1 (.cons pre2 n2' a2 k2 nx2)) = (n1, a1, k1) :: (n2', a2, k2) :: kidL nx2 from rfl] at hbr2
   obtain ⟨y1, hy1⟩ : ∃ y1, y1 = ((n1, a1, k1) : TT) := ⟨_, rfl⟩
   obtain ⟨y2, hy2⟩ : ∃ y2, y2 = ((n2', a2, k2) : TT) := ⟨_, rfl⟩
   rw [← hy1] at e1 c1 l1 e2 c2' l2 r1 hjy1 hnx hbr2 hfl2
   rw [← hy2] at e2 c2' l2 r2 hjy2 hnx hbr2 hfl2
   obtain ⟨g1, hg1⟩ : ∃ g, g = p + 1 + (rowT y1).length := ⟨_, rfl⟩
   obtain ⟨g2, hg2⟩ : ∃ g, g = g1 + (rowT y2).length := ⟨_, rfl⟩
   rw [← hg1] at e1 c1 l1 e2 c2' l2 hnx hfl2
   rw [← hg2] at e2 c2' l2 hnx hfl2
   rw [hlenF] at l1 l2 hfl hfl2
   have hpos1 : 0 < (rowT y1).length := by simp [rowT]
   have hpos2 : 0 < (rowT y2).length := by simp [rowT]
   obtain ⟨Ay1, hcut1, hcutr1⟩ := cut_mid (some ⟨bf, off, none⟩) n2 c2 (p + 1) g1 (by omega) (by omega) hcapF
   obtain ⟨Ay2, hcut2, hcutr2⟩ := cut_mid (some ⟨bf, off, none⟩) n2 c2 g1 g2 (by omega) (by omega) hcapF
   have HTY1 : Hid (∀ w', Below w3.heap.size w3 w' → TermV w' Ay1 (g1 - (p + 1)) (c2 - (p + 1)) (rowT y1)) := hid fun w' h => by
    have := hcutr1 _ _ _ (HTF3.out w' h)
    rwa [c1] at this
   have HTY2 : Hid (∀ w', Below w3.heap.size w3 w' → TermV w' Ay2 (g2 - g1) (c2 - g1) (rowT y2)) := hid fun w' h => by
    have := hcutr2 _ _ _ (HTF3.out w' h)
    rwa [c2'] at this
   rw [show ((p + 1 : Nat) : Int) = (p : Int) + 1 from by omega] at hcut1 e1
   have HEN1 := hid (fun (wr : World) (h : Below w3.heap.size w3 wr) => end_any (HTF3.out wr h) ((p : Int) + 1))
   rw [e1] at HEN1
   have HEN2 := hid (fun (wr : World) (h : Below w3.heap.size w3 wr) => end_any (HTF3.out wr h) (g1 : Int))
   rw [e2] at HEN2
   have HC1 := hid (fun (wr2 : World) (h2 : Below w.heap.size w wr2) (h3 : Below w3.heap.size w3 wr2) => HRC.out wr2 y1 Ay1 (g1 - (p + 1)) (c2 - (p + 1)) h2 (HTY1.out _ h3) r1 (by omega) hjy1)
   have HC2 := hid (fun (wr2 : World) (h2 : Below w.heap.size w wr2) (h3 : Below w3.heap.size w3 wr2) (h4 : OwnM wr2 (w3.heap.size + 1) A7 (n6 + nb) c7 (zs ++ List.replicate nb 0)) => HRU.out wr2 y2 Ay2 (g2 - g1) (c2 - g1) _ A7 c7 h2 (HTY2.out _ h3) r2 (by omega) hjy2 h4)
   have HNX2 := hid hnx
   obtain ⟨b1, hb1'⟩ : ∃ b1, b1 = fineT places ca f zs y1 := ⟨_, rfl⟩
   obtain ⟨b2, hb2'⟩ : ∃ b2, b2 = fineT places ca f (zs ++ List.replicate nb 0) y2 := ⟨_, rfl⟩
   have HBR2 : Hid ((b1 && (b2 && pairsT (fineT places ca f) zs (zs ++ List.replicate nb 0) (kidL nx2))) = res) := hid (by rw [hb1', hb2']; exact hbr2)
   rw [← hb1'] at HC1
   rw [← hb2'] at HC2
   have hqlt : decide ((q : Int) < (nb : Int)) = true := decide_eq_true (by omega)
   have hp1g : p + 1 ≤ g1 ∧ g1 ≤ g2 ∧ g2 ≤ n2 ∧ 1 + 3 * (q + 1) ≤ g2 := by omega
   have hrr : r = nb - (q + 1) := by omega
   rw [hrr] at HNX2
   obtain ⟨hpg, hgg, hgn, h3g⟩ := hp1g
   have hwp : IntKind.i64.wrap ((p : Int) + 1) = (p : Int) + 1 := IntWalk.i64_in _ (by omega)
   clear hat2 hfl s1 s2 hpl1 hpl2 hnx hfl2 e1 c1 r1 l1 e2 c2' r2 l2 hjy1 hjy2 hbr2 hy1 hy2 hg1 hg2 hcutr1 hcutr2 hb1' hb2' hr hrr
   go_wp2_with fail
   refine (HEN1.out _ hbx.out).mono ?_
   rintro e wa ⟨rfl, hba⟩
   have HBa1 := hid (hbw.out.trans (hba.mono hbs))
   have HXa1 := hid (hbx.out.trans (hba.mono hbxs))
   have HBKa := hid (Blk.below hblk.out hba hbl)
   have HOa := hid (own_below hown.out hba)
   clear hba
   go_wp2_with fail
   refine (HEN2.out _ HXa1.out).mono ?_
   rintro e wb ⟨rfl, hbb⟩
   have HBb := bto HBa1 hbb
   have HXb := bto HXa1 hbb
   have HBKb := bko HBKa hbb
   have HOb := hid (own_below HOa.out hbb)
   have zcb := Blk.cell HBKb.out
   have hblb := HBKb.out.lt
   have hbsb := HBb.out.size
   have hxsb := HXb.out.size
   clear hbb
   have HCw := hid (HC1.out wb.drew (below_drewN HBb.out 1) (below_drewN HXb.out 1))
   cases b1 with
   | false =>
    rw [Bool.false_and] at HBR2
    go_wp2_with fail
    refine wp_region_held_drew (S := (fun w' => w'.cell? ⟨w.heap.size, 0, none⟩ = some (.int .i64 vars) ∧ w'.cell? ⟨w.heap.size, 1, none⟩ = some (.slice Ao no co) ∧ w'.cell? ⟨w.heap.size, 2, none⟩ = some (.slice Ae ne ce) ∧ w'.cell? ⟨w.heap.size, 3, none⟩ = some (.int .i64 nat) ∧ w'.cell? ⟨w.heap.size, 4, none⟩ = some (.slice Ap np cp) ∧ w'.cell? ⟨w.heap.size, 5, none⟩ = some (.slice Aq nqq cq))) (by kernel_rfl) ?_ (fun hHeld => ?_)
    · (try dsimp only); exact ⟨zcb 0, zcb 1, zcb 2, zcb 3, zcb 4, zcb 5⟩
    refine tq 0 hHeld ?_
    try simp only [p7]
    refine tq 1 hHeld ?_
    try simp only [p7]
    refine tq 2 hHeld ?_
    try simp only [p7]
    refine tq 3 hHeld ?_
    try simp only [p7]
    refine tq 4 hHeld ?_
    try simp only [p7]
    refine tq 5 hHeld ?_
    try simp only [p7]
    refine tq 6 hHeld ?_
    try simp only [p7]
    refine r1 7 fun K hK => ?_
    go_simp
    go_at_call 83
    refine (HCw.out).mono ?_
    rintro e w5 ⟨rfl, hb5⟩
    have hblk5 := Blk.below (show Blk wb.drew w.heap.size 98 _ from HBKb.out) hb5 hblb
    have zc5 := Blk.cell hblk5
    go_wp2_with fail
    refine hK.out _ _ (by exact ⟨zc5 0, zc5 1, zc5 2, zc5 3, zc5 4, zc5 5⟩) fun hHeld => ?_
    clear hK K
    try simp only [p7]
    refine tq 8 hHeld ?_
    try simp only [p7]
    refine tq 9 hHeld ?_
    try simp only [p7]
    refine dk 10 hHeld ?_
    try simp only [p7]
    refine dk 11 hHeld ?_
    try simp only [p7]
    refine dk 12 hHeld ?_
    try simp only [p7]
    refine dk 13 hHeld ?_
    try simp only [p7]
    refine dk 14 hHeld ?_
    try simp only [p7]
    refine dk 15 hHeld ?_
    try simp only [p7]
    refine dk 16 hHeld ?_
    try simp only [p7]
    refine dk 17 hHeld ?_
    try simp only [p7]
    refine tq 18 hHeld ?_
    try simp only [p7]
    refine wpAnyH_done (by kernel_rfl) ?_ _
    have HB5 := hid ((below_drewN HBb.out 1).trans (hb5.mono hbsb))
    clear hb5
    go_wp2_with fail
    go_ret
    rw [← HBR2.out]
    exact ⟨rfl, HB5.out⟩
   | true =>
    rw [Bool.true_and] at HBR2
    cases b2 with
    | false =>
     rw [Bool.false_and] at HBR2
     go_wp2_with fail
     refine wp_region_held_drew (S := (fun w' => w'.cell? ⟨w.heap.size, 0, none⟩ = some (.int .i64 vars) ∧ w'.cell? ⟨w.heap.size, 1, none⟩ = some (.slice Ao no co) ∧ w'.cell? ⟨w.heap.size, 2, none⟩ = some (.slice Ae ne ce) ∧ w'.cell? ⟨w.heap.size, 3, none⟩ = some (.int .i64 nat) ∧ w'.cell? ⟨w.heap.size, 4, none⟩ = some (.slice Ap np cp) ∧ w'.cell? ⟨w.heap.size, 5, none⟩ = some (.slice Aq nqq cq))) (by kernel_rfl) ?_ (fun hHeld => ?_)
     · (try dsimp only); exact ⟨zcb 0, zcb 1, zcb 2, zcb 3, zcb 4, zcb 5⟩
     refine tq 0 hHeld ?_
     try simp only [p7]
     refine tq 1 hHeld ?_
     try simp only [p7]
     refine tq 2 hHeld ?_
     try simp only [p7]
     refine tq 3 hHeld ?_
     try simp only [p7]
     refine tq 4 hHeld ?_
     try simp only [p7]
     refine tq 5 hHeld ?_
     try simp only [p7]
     refine tq 6 hHeld ?_
     try simp only [p7]
     refine r1 7 fun K hK => ?_
     go_simp
     go_at_call 83
     refine (HCw.out).mono ?_
     rintro e w5 ⟨rfl, hb5⟩
     have hblk5 := Blk.below (show Blk wb.drew w.heap.size 98 _ from HBKb.out) hb5 hblb
     have zc5 := Blk.cell hblk5
     go_wp2_with fail
     refine hK.out _ _ (by exact ⟨zc5 0, zc5 1, zc5 2, zc5 3, zc5 4, zc5 5⟩) fun hHeld => ?_
     clear hK K
     try simp only [p7]
     have HB5 := hid ((below_drewN HBb.out 1).trans (hb5.mono hbsb))
     have HX5 := hid ((below_drewN HXb.out 1).trans (hb5.mono hxsb))
     have HO5 := hid (own_below (show OwnM wb.drew (w3.heap.size + 1) A7 (n6 + nb) c7 (zs ++ List.replicate nb 0) from HOb.out) hb5)
     have hbl5 := hblk5.lt
     clear hb5
     refine tq 8 hHeld ?_
     try simp only [p7]
     refine tq 9 hHeld ?_
     try simp only [p7]
     refine tq 10 hHeld ?_
     try simp only [p7]
     refine tq 11 hHeld ?_
     try simp only [p7]
     refine tq 12 hHeld ?_
     try simp only [p7]
     refine tq 13 hHeld ?_
     try simp only [p7]
     refine tq 14 hHeld ?_
     try simp only [p7]
     refine tq 15 hHeld ?_
     try simp only [p7]
     refine r1 16 fun K hK => ?_
     go_simp
     go_at_call 83
     refine (HC2.out w5 HB5.out HX5.out HO5.out).mono ?_
     rintro e w8 ⟨rfl, hb8⟩
     have hblk8 := Blk.below hblk5 hb8 hbl5
     have zc8 := Blk.cell hblk8
     go_wp2_with fail
     refine hK.out _ _ (by exact ⟨zc8 0, zc8 1, zc8 2, zc8 3, zc8 4, zc8 5⟩) fun hHeld => ?_
     clear hK K
     try simp only [p7]
     refine tq 17 hHeld ?_
     try simp only [p7]
     refine tq 18 hHeld ?_
     try simp only [p7]
     refine wpAnyH_done (by kernel_rfl) ?_ _
     have HB8 := bto HB5 hb8
     clear hb8
     go_wp2_with fail
     go_ret
     rw [← HBR2.out]
     exact ⟨rfl, HB8.out⟩
    | true =>
     rw [Bool.true_and] at HBR2
     go_wp2_with fail
     refine wp_region_held_drew (S := (fun w' => w'.cell? ⟨w.heap.size, 0, none⟩ = some (.int .i64 vars) ∧ w'.cell? ⟨w.heap.size, 1, none⟩ = some (.slice Ao no co) ∧ w'.cell? ⟨w.heap.size, 2, none⟩ = some (.slice Ae ne ce) ∧ w'.cell? ⟨w.heap.size, 3, none⟩ = some (.int .i64 nat) ∧ w'.cell? ⟨w.heap.size, 4, none⟩ = some (.slice Ap np cp) ∧ w'.cell? ⟨w.heap.size, 5, none⟩ = some (.slice Aq nqq cq))) (by kernel_rfl) ?_ (fun hHeld => ?_)
     · (try dsimp only); exact ⟨zcb 0, zcb 1, zcb 2, zcb 3, zcb 4, zcb 5⟩
     refine tq 0 hHeld ?_
     try simp only [p7]
     refine tq 1 hHeld ?_
     try simp only [p7]
     refine tq 2 hHeld ?_
     try simp only [p7]
     refine tq 3 hHeld ?_
     try simp only [p7]
     refine tq 4 hHeld ?_
     try simp only [p7]
     refine tq 5 hHeld ?_
     try simp only [p7]
     refine tq 6 hHeld ?_
     try simp only [p7]
     refine r1 7 fun K hK => ?_
     go_simp
     go_at_call 83
     refine (HCw.out).mono ?_
     rintro e w5 ⟨rfl, hb5⟩
     have hblk5 := Blk.below (show Blk wb.drew w.heap.size 98 _ from HBKb.out) hb5 hblb
     have zc5 := Blk.cell hblk5
     go_wp2_with fail
     refine hK.out _ _ (by exact ⟨zc5 0, zc5 1, zc5 2, zc5 3, zc5 4, zc5 5⟩) fun hHeld => ?_
     clear hK K
     try simp only [p7]
     have HB5 := hid ((below_drewN HBb.out 1).trans (hb5.mono hbsb))
     have HX5 := hid ((below_drewN HXb.out 1).trans (hb5.mono hxsb))
     have HO5 := hid (own_below (show OwnM wb.drew (w3.heap.size + 1) A7 (n6 + nb) c7 (zs ++ List.replicate nb 0) from HOb.out) hb5)
     have hbl5 := hblk5.lt
     clear hb5
     refine tq 8 hHeld ?_
     try simp only [p7]
     refine tq 9 hHeld ?_
     try simp only [p7]
     refine tq 10 hHeld ?_
     try simp only [p7]
     refine tq 11 hHeld ?_
     try simp only [p7]
     refine tq 12 hHeld ?_
     try simp only [p7]
     refine tq 13 hHeld ?_
     try simp only [p7]
     refine tq 14 hHeld ?_
     try simp only [p7]
     refine tq 15 hHeld ?_
     try simp only [p7]
     refine r1 16 fun K hK => ?_
     go_simp
     go_at_call 83
     refine (HC2.out w5 HB5.out HX5.out HO5.out).mono ?_
     rintro e w8 ⟨rfl, hb8⟩
     have hblk8 := Blk.below hblk5 hb8 hbl5
     have zc8 := Blk.cell hblk8
     go_wp2_with fail
     refine hK.out _ _ (by exact ⟨zc8 0, zc8 1, zc8 2, zc8 3, zc8 4, zc8 5⟩) fun hHeld => ?_
     clear hK K
     try simp only [p7]
     refine tq 17 hHeld ?_
     try simp only [p7]
     refine tq 18 hHeld ?_
     try simp only [p7]
     refine wpAnyH_done (by kernel_rfl) ?_ _
     have HB8 := bto HB5 hb8
     have HX8 := bto HX5 hb8
     have HO8 := hid (own_below HO5.out hb8)
     have HBK8 := hid hblk8
     clear hb8 hwp hHeld
     go_wp2_with fail
     go_roundw
     case rel => exact ⟨q + 1, g2, nx2, rfl, by go_num, by omega, by omega, by omega, HNX2, HBR2, HJ2, HBK8, HB8, HX8, HO8⟩
     case measure => simp [intOf]; omega
end Go.Proofs.Ytjllmblbbgojbaa
