/- The guard checker's walks: fine. -/
import Derived.Test.YtjllmblbbgojbaaKShort2
import Derived.Test.YtjllmblbbgojbaaKFineS
namespace Go.Proofs.Ytjllmblbbgojbaa
open Go.Lib (hid)
open Go.RowKit
set_option linter.unusedSimpArgs false in
set_option linter.unusedVariables false in
set_option maxRecDepth 100000 in
set_option maxHeartbeats 8000000 in
theorem fine_lam {K : LK} {I : World → Prop} {J : TT → Prop} {ca : Int → Nat → Nat} {places : List Int} {f m : Nat} (H : FineH K I (GM places.length) J (fineT places ca f) m) (hI : ∀ w w', I w → Below w.heap.size w w' → I w') (hE : ∀ w, I w → EntR K ca w) (hP : ∀ w, I w → IntsR (· < w.heap.size) w K.Aq K.nq K.cq places) (hp16 : ∀ p ∈ places, 0 ≤ p ∧ p < 16) (hJK : ∀ n a k, J (n, a, k) → ∀ y ∈ kidL k, J y) (hJM : ∀ n a k, J (n, a, k) → n.op = 11 → n.a < (K.ne : Int)) (w : World) (x : TT) (zs : List Int) (A : Option Addr) (n c : Nat) (B : Option Addr) (k d : Nat) (hw : I w) (ht : TermV w A n c (rowT x)) (hy : RtX x) (hm : (rowT x).length ≤ m + 1) (hJ : J x) (hz : IntsR (· < w.heap.size) w B k d zs) (hnul : B = none → d = 0) (hk : k + (rowT x).length ≤ 9000) (hg : GM places.length zs) (hop : (hd (rowT x).length x).1.1.op = 4 ∨ (hd (rowT x).length x).1.1.op = 5) :
 Calls Try.prog 83 #[.agg #[.int .i64 K.vars, .slice K.Ao K.no K.co, .slice K.Ae K.ne K.ce, .int .i64 K.nat, .slice K.Ap K.np K.cp, .slice K.Aq K.nq K.cq], .slice A n c, .slice B k d] w (BoolP (fineT places ca (f + 1) zs x) w) := by
 have HOP := hop
 clear hop
 obtain ⟨vars, nat, Ao, no, co, Ae, ne, ce, Ap, np, cp, Aq, nqq, cq⟩ := K
 have HK := hid H
 unfold FineH at H
 simp only at H hP ⊢
 obtain ⟨i0, hi, hy0, hy1, hy2⟩ := info_parts infoM
 have HI0 := hid hi
 have HY0 := hid hy0
 have HY1 := hid hy1
 have HY2 := hid hy2
 clear hi hy0 hy1 hy2
 obtain ⟨hr1, hr2, hr3, hr4, hr5⟩ := hd_right _ x hy (Nat.le_refl _)
 obtain ⟨hj1, hj2⟩ := hd_J hJK (rowT x).length x hy hJ
 have hll := hd_len (rowT x).length x hy
 have hxf : (rowT x).length ≤ 4096 := Rt.few hy
 have HHD := hid (fun (w' : World) (h : Below w.heap.size w w') => head_any (ht.below h) hy)
 obtain ⟨F, L, hFL⟩ : ∃ F L, hd (rowT x).length x = (F, L) := ⟨_, _, rfl⟩
 have HFT := hid (fineT_succ (places := places) (ca := ca) (f := f) (zs := zs) hFL)
 rw [hFL] at hr1 hr2 hr3 hr4 hr5 hj1 hj2 hll HHD HOP
 simp only at hr1 hr2 hr3 hr4 hr5 hj1 hj2 hll HFT HOP
 generalize hXL : (rowT x).length = xl at *
 have hva := var_a hr1
 have hLx : L.length ≤ 1000000 := by omega
 have HZ := hid hz
 have HG := hid hg
 have HALL := hid (fun (w0 wr : World) (B2 : Option Addr) (d2 : Nat) (vs : List Value) (h0 : Below w.heap.size w w0) (hb : Below w0.heap.size w0 wr) (ho : wr.ownsRow w0.heap.size 28 1 (.slice B2 L.length d2) L.length vs) (hp : PcsC w0 vs L) => all_any (c := d2) HK.out hI (hI _ _ hw (h0.trans (hb.mono h0.size))) (pcs_own ho hp hb hLx) (fun y hy => ⟨(hr4 y hy).1, by have := (hr4 y hy).2; omega, hj2 y hy, by have := (hr4 y hy).2; omega⟩) (hz.below (h0.trans (hb.mono h0.size))) hnul hg)
 have HBEL0 := hid (below_alloc w (.cells #[.int .i64 vars, .slice Ao no co, .slice Ae ne ce, .int .i64 nat, .slice Ap np cp, .slice Aq nqq cq] 98))
 have HBK0 := hid (Blk.new w 98 #[.int .i64 vars, .slice Ao no co, .slice Ae ne ce, .int .i64 nat, .slice Ap np cp, .slice Aq nqq cq])
 simp only at HALL
 obtain ⟨nd, fa, fk⟩ := F
 simp only at HOP hr1 hr3 hj1 hva HFT
 obtain ⟨n1, a1, k1, n2', a2, k2, rfl, rfl, hf1, hf2, hq, hend⟩ := two_split hr1 (by omega)
 have hJ1 := hJK _ _ _ hj1 (n1, a1, k1) (by simp [kidL])
 have hJ2 := hJK _ _ _ hj1 (n2', a2, k2) (by simp [kidL])
 have HFT1 : Hid (restT places ca f zs ((nd, [], Fo.cons [] n1 a1 k1 (.cons [] n2' a2 k2 .nil)), L) = (fineT places ca f zs (n1, a1, k1) && fineT places ca f (zs ++ [0]) (n2', a2, k2))) := hid (by unfold restT; simp only; rw [if_neg (by omega), if_neg (by omega), if_pos HOP]; rfl)
 rw [HFT1.out] at HFT
 obtain ⟨x1, hx1⟩ : ∃ x1, x1 = ((n1, a1, k1) : TT) := ⟨_, rfl⟩
 obtain ⟨x2, hx2⟩ : ∃ x2, x2 = ((n2', a2, k2) : TT) := ⟨_, rfl⟩
 obtain ⟨F, hFF⟩ : ∃ F, F = ((nd, [], Fo.cons [] n1 a1 k1 (.cons [] n2' a2 k2 .nil)) : TT) := ⟨_, rfl⟩
 have hnd : F.1 = nd := by rw [hFF]
 rw [← hx1, ← hx2, ← hFF] at hq
 rw [← hx1, ← hFF] at hend
 rw [← hx1] at hf1 hJ1
 rw [← hx2] at hf2 hJ2
 rw [← hx1, ← hx2] at HFT
 rw [← hFF] at HHD hr3
 have hx1l : 0 < (rowT x1).length := by simp [rowT]
 have hx2l : 0 < (rowT x2).length := by simp [rowT]
 have hql : (rowT F).length = 1 + (rowT x1).length + (rowT x2).length := by rw [hq]; simp; omega
 have HF1 := hid (fun (wr : World) (A' : Option Addr) (n' c' : Nat) (h : Below w.heap.size w wr) (h1 : TermV wr A' n' c' (rowT x1)) => H wr x1 zs A' n' c' B k d (hI _ _ hw h) h1 hf1 (by omega) hJ1 (hz.below h) hnul (by omega) hg)
 have HF2 := hid (fun (wr : World) (A' : Option Addr) (n' c' : Nat) (base : Nat) (B' : Option Addr) (d' : Nat) (h : Below w.heap.size w wr) (h1 : TermV wr A' n' c' (rowT x2)) (h2 : OwnM wr base B' (k + 1) d' (zs ++ [0])) => H wr x2 (zs ++ [0]) A' n' c' B' (k + 1) d' (hI _ _ hw h) h1 hf2 (by omega) hJ2 (OwnM.ints h2 (by omega)) (own_nul h2) (by omega) (GM.add (by omega) (by omega) hg))
 have HCL := hid (fun (wr : World) (h : Below w.heap.size w wr) => cloneM_any (hz.below h) (by omega) hnul)
 have hkz := hz.len
 have HKZ := hid hkz
 have hk9 : k ≤ 9000 := by omega
 have hmk : Hid ((zs ++ [0]).map (Value.int .i64) = zs.map (Value.int .i64) ++ [.int .i64 0]) := hid append_types2
 have HX := hid (And.intro hq hend)
 have HQL := hid hql
 clear hkz HFT1 H HK hI hE hP hp16 hJK hJM hw ht hy hJ hz hnul hg hr1 hr2 hr4 hr5 hj1 hj2 hFL hf1 hf2 hJ1 hJ2 hx1 hx2 hFF hq hend hql
 go_in
 go_wp2_with fail
 refine (HHD.out _ HBEL0.out).mono ?_
 rintro e w2 ⟨hb2, A2, n2, c2, B2, d2, vs, rfl, htf, ho2, hpc2⟩
 have HB2 := bto HBEL0 hb2
 have HBK2 := hid (Blk.below HBK0.out hb2 (by simp))
 have HHDB2 := hid hb2
 have HO2 := hid ho2
 have HPC2 := hid hpc2
 have HTF := hid (fun (w' : World) (h : Below w2.heap.size w2 w') => htf w' (hb2.trans (h.mono hb2.size)))
 have HC2 := hid (HALL.out _ _ _ _ _ HBEL0.out hb2 ho2 hpc2)
 have zc2 := Blk.cell HBK2.out
 have hbl2 := HBK2.out.lt
 clear hb2 ho2 hpc2 htf
 obtain ⟨rb, hrb⟩ : ∃ rb, rb = L.all (fineT places ca f zs) := ⟨_, rfl⟩
 rw [← hrb] at HC2 HFT
 clear hrb
 cases rb with
 | false =>
  rw [Bool.false_and] at HFT
  generalize fineT places ca (f + 1) zs x = res at *
  go_wp2_with fail
  refine (HC2.out).mono ?_
  rintro e w3 ⟨rfl, hb3⟩
  have HB3 := bto HB2 hb3
  clear hb3
  go_wp2_with fail
  go_ret
  rw [HFT.out]
  exact ⟨rfl, HB3.out⟩
 | true =>
  rw [Bool.true_and] at HFT
  generalize fineT places ca (f + 1) zs x = res at *
  go_wp2_with fail
  refine (HC2.out).mono ?_
  rintro e w3 ⟨rfl, hb3⟩
  have HB3 := bto HB2 hb3
  have HBK3 := hid (Blk.below HBK2.out hb3 hbl2)
  have HTF3 := hid (fun (w' : World) (h : Below w3.heap.size w3 w') => HTF.out w' (hb3.trans (h.mono hb3.size)))
  have HO3 := hid (own_pcs_keep HO2.out hb3)
  have HB03 := bto HHDB2 hb3
  have hf3 := HTF3.out w3 (Below.refl _ _)
  have hn3 : 0 < n2 := by have := hf3.len; rw [← this]; simp [rowT]
  obtain ⟨bf, off, rfl, hbf, hc30, hc31, hc32⟩ := hf3.at_ hn3
  simp only [Nat.zero_mul, Nat.add_zero] at hc30 hc31 hc32
  rw [show nth (rowT F) 0 = F.1 from rfl] at hc30 hc31 hc32
  have hlenF := hf3.len
  have hcapF := hf3.cap
  have hbs3 := HB3.out.size
  have hbl3 := HBK3.out.lt
  clear hb3 zc2 hf3
  have zc3 := Blk.cell HBK3.out
  obtain ⟨hq, hend⟩ := HX.out
  have hql := HQL.out
  rw [hnd] at hc30 hc31 hc32
  obtain ⟨e, he⟩ : ∃ e, e = 1 + (rowT x1).length := ⟨_, rfl⟩
  rw [← he] at hend
  have hne : n2 = e + (rowT x2).length := by omega
  obtain ⟨Aa, hcuta, hcutra⟩ := cut_mid (some ⟨bf, off, none⟩) n2 c2 1 e (by omega) (by omega) hcapF
  obtain ⟨Ab, hcutb, hcutrb⟩ := cut_from (some ⟨bf, off, none⟩) n2 c2 e (by omega)
  rw [show ((1 : Nat) : Int) = 1 from rfl] at hcuta
  have HTa : Hid (∀ w', Below w3.heap.size w3 w' → TermV w' Aa (e - 1) (c2 - 1) (rowT x1)) := hid fun w' h => by
   have := hcutra _ _ _ (HTF3.out w' h)
   rw [hq, he, Nat.add_comm, List.take_succ_cons, List.drop_succ_cons, List.drop_zero, List.take_left] at this
   rw [he, Nat.add_comm]
   exact this
  have HTb : Hid (∀ w', Below w3.heap.size w3 w' → TermV w' Ab (n2 - e) (c2 - e) (rowT x2)) := hid fun w' h => by
   have := hcutrb _ _ _ (HTF3.out w' h)
   rw [hq, he, Nat.add_comm, List.drop_succ_cons, List.drop_left] at this
   rw [he, Nat.add_comm]
   exact this
  have HEND := hid (fun (wr : World) (h : Below w3.heap.size w3 wr) => end_any (HTF3.out wr h) 1)
  rw [hend] at HEND
  have he1 : 1 ≤ e := by omega
  have hen : e < n2 := by omega
  have HBa := hid (below_alloc w3 (.cells #[.int .i64 nd.op, .int .i64 nd.a, .int .i64 nd.b] 34))
  clear hq hend hql he hne hcutra hcutrb HX HQL hlenF
  generalize nd.op = op at *
  generalize nd.a = na at *
  generalize nd.b = nb at *
  obtain ⟨r1, hr1⟩ : ∃ r1, r1 = fineT places ca f zs x1 := ⟨_, rfl⟩
  obtain ⟨r2, hr2⟩ : ∃ r2, r2 = fineT places ca f (zs ++ [0]) x2 := ⟨_, rfl⟩
  rw [← hr1, ← hr2] at HFT
  rw [← hr1] at HF1
  rw [← hr2] at HF2
  clear hr1 hr2
  rcases HOP with rfl | rfl
  all_goals
   go_wp2_with fail
   refine (HEND.out _ HBa.out).mono ?_
   rintro e1 w4 ⟨rfl, hb4⟩
   have HB34 := bto HBa hb4
   have HB4 := hid (HB3.out.trans (HB34.out.mono hbs3))
   have HBK4 := hid (Blk.below HBK3.out HB34.out hbl3)
   have zc4 := Blk.cell HBK4.out
   have hbl4 := HBK4.out.lt
   have hbs4 := HB4.out.size
   have hbs34 := HB34.out.size
   have HF1w := hid (HF1.out w4.drew Aa (e - 1) (c2 - 1) (below_drewN HB4.out 1) (HTa.out _ (below_drewN HB34.out 1)))
   clear hb4
   cases r1 with
   | false =>
    rw [Bool.false_and] at HFT
    go_wp2_with fail
    refine wp_region_held_drew (S := (fun w' => w'.cell? ⟨w.heap.size, 0, none⟩ = some (.int .i64 vars) ∧ w'.cell? ⟨w.heap.size, 1, none⟩ = some (.slice Ao no co) ∧ w'.cell? ⟨w.heap.size, 2, none⟩ = some (.slice Ae ne ce) ∧ w'.cell? ⟨w.heap.size, 3, none⟩ = some (.int .i64 nat) ∧ w'.cell? ⟨w.heap.size, 4, none⟩ = some (.slice Ap np cp) ∧ w'.cell? ⟨w.heap.size, 5, none⟩ = some (.slice Aq nqq cq))) (by kernel_rfl) ?_ (fun hHeld => ?_)
    · (try dsimp only); exact ⟨zc4 0, zc4 1, zc4 2, zc4 3, zc4 4, zc4 5⟩
    refine tq 0 hHeld ?_
    try simp only [p7]
    refine tq 1 hHeld ?_
    try simp only [p7]
    refine tq 2 hHeld ?_
    try simp only [p7]
    refine tq 3 hHeld ?_
    try simp only [p7]
    refine tq 4 hHeld ?_
    try simp only [p7]
    refine r1 5 fun K hK => ?_
    go_simp
    go_at_call 83
    refine (HF1w.out).mono ?_
    rintro e w5 ⟨rfl, hb5⟩
    have hblk5 := Blk.below (show Blk w4.drew w.heap.size 98 _ from HBK4.out) hb5 hbl4
    have zc5 := Blk.cell hblk5
    go_wp2_with fail
    refine hK.out _ _ (by exact ⟨zc5 0, zc5 1, zc5 2, zc5 3, zc5 4, zc5 5⟩) fun hHeld => ?_
    clear hK K
    try simp only [p7]
    refine tq 6 hHeld ?_
    try simp only [p7]
    refine dk 7 hHeld ?_
    try simp only [p7]
    refine dk 8 hHeld ?_
    try simp only [p7]
    refine dk 9 hHeld ?_
    try simp only [p7]
    refine dk 10 hHeld ?_
    try simp only [p7]
    refine dk 11 hHeld ?_
    try simp only [p7]
    refine dk 12 hHeld ?_
    try simp only [p7]
    refine dk 13 hHeld ?_
    try simp only [p7]
    refine dk 14 hHeld ?_
    try simp only [p7]
    refine dk 15 hHeld ?_
    try simp only [p7]
    refine tq 16 hHeld ?_
    try simp only [p7]
    refine tq 17 hHeld ?_
    try simp only [p7]
    refine wpAnyH_done (by kernel_rfl) ?_ _
    have HB5 := hid ((below_drewN HB4.out 1).trans (hb5.mono hbs4))
    clear hb5
    go_wp2_with fail
    go_ret
    rw [HFT.out]
    exact ⟨rfl, HB5.out⟩
   | true =>
    rw [Bool.true_and] at HFT
    go_wp2_with fail
    refine wp_region_held_drew (S := (fun w' => w'.cell? ⟨w.heap.size, 0, none⟩ = some (.int .i64 vars) ∧ w'.cell? ⟨w.heap.size, 1, none⟩ = some (.slice Ao no co) ∧ w'.cell? ⟨w.heap.size, 2, none⟩ = some (.slice Ae ne ce) ∧ w'.cell? ⟨w.heap.size, 3, none⟩ = some (.int .i64 nat) ∧ w'.cell? ⟨w.heap.size, 4, none⟩ = some (.slice Ap np cp) ∧ w'.cell? ⟨w.heap.size, 5, none⟩ = some (.slice Aq nqq cq))) (by kernel_rfl) ?_ (fun hHeld => ?_)
    · (try dsimp only); exact ⟨zc4 0, zc4 1, zc4 2, zc4 3, zc4 4, zc4 5⟩
    refine tq 0 hHeld ?_
    try simp only [p7]
    refine tq 1 hHeld ?_
    try simp only [p7]
    refine tq 2 hHeld ?_
    try simp only [p7]
    refine tq 3 hHeld ?_
    try simp only [p7]
    refine tq 4 hHeld ?_
    try simp only [p7]
    refine r1 5 fun K hK => ?_
    go_simp
    go_at_call 83
    refine (HF1w.out).mono ?_
    rintro e w5 ⟨rfl, hb5⟩
    have hblk5 := Blk.below (show Blk w4.drew w.heap.size 98 _ from HBK4.out) hb5 hbl4
    have zc5 := Blk.cell hblk5
    go_wp2_with fail
    refine hK.out _ _ (by exact ⟨zc5 0, zc5 1, zc5 2, zc5 3, zc5 4, zc5 5⟩) fun hHeld => ?_
    clear hK K
    try simp only [p7]
    have HB5 := hid ((below_drewN HB4.out 1).trans (hb5.mono hbs4))
    have HX5 := hid ((below_drewN HB34.out 1).trans (hb5.mono hbs34))
    have hblk5a := Blk.alloc hblk5 (.cells #[.int .i64 0] 100)
    have zc5a := Blk.cell hblk5a
    have hbl5 := hblk5.lt
    clear hb5
    refine tq 6 hHeld ?_
    try simp only [p7]
    refine tq 7 hHeld ?_
    try simp only [p7]
    refine tq 8 hHeld ?_
    try simp only [p7]
    refine tq 9 hHeld ?_
    try simp only [p7]
    refine tq 10 hHeld ?_
    try simp only [p7]
    refine tq 11 hHeld ?_
    try simp only [p7]
    refine wpAnyH_ready (rs := [12, 13]) (by kernel_rfl) (by simp) ?_
    refine AllReadyH.cons rfl (fun K hK => ?_) (AllReadyH.cons rfl (fun K hK => ?_) (AllReadyH.nil))
    · go_simp
      go_at_call 82
      refine (HCL.out w5 HB5.out).mono ?_
      rintro e w6 ⟨hb6, A6, n6, c6, rfl, ho6⟩
      have hn6 : n6 = k := (by (have := ho6.1; rw [← HKZ.out]; simpa using this.symm))
      subst hn6
      have hblk6 := Blk.below hblk5 hb6 hbl5
      have zc6 := Blk.cell hblk6
      have hblk6a := Blk.alloc hblk6 (.cells #[.int .i64 0] 100)
      have zc6a := Blk.cell hblk6a
      have HB6 := bto HB5 hb6
      have HX6 := bto HX5 hb6
      have hbl6 := hblk6.lt
      have hs56 := hb6.size
      have HO6 := hid ho6
      have hbs6 := HB6.out.size
      have hxs6 := HX6.out.size
      clear hb6 ho6
      go_wp2_with fail
      refine hK.out _ _ (by exact ⟨zc6 0, zc6 1, zc6 2, zc6 3, zc6 4, zc6 5⟩) fun hHeld => ?_
      clear hK K
      try simp only [p7]
      refine r1 13 fun K hK => ?_
      go_simp
      refine hK.out _ _ (by exact ⟨zc6a 0, zc6a 1, zc6a 2, zc6a 3, zc6a 4, zc6a 5⟩) fun hHeld => ?_
      clear hK K
      try simp only [p7]
      refine r1 14 fun K hK => ?_
      refine step_oper_g (by rfl) (oper_append_one (.tmp 83) (.tmp 84) 99 100 rfl w5.heap.size i0 _ 8 Try.underlying99 HI0.out HY0.out HY1.out HY2.out rfl (by decide) (.slice A6 n6 c6) n6 (zs.map (Value.int .i64)) (.int .i64 0) rfl w6 (by rfl) (by rfl) HO6.out _ (by rfl) (by rfl) (by omega) hs56 ?_)
      intro A7 c7 w7 happ7
      have HO7 : Hid (OwnM w7 w5.heap.size A7 (n6 + 1) c7 (zs ++ [0])) := hid (by have := happ7.own; rw [← hmk.out] at this; exact this)
      have HB7 := hid (HB6.out.grown happ7.grown hbs6 (fun g hg => by have := (ownsRow_block HO6.out hg).1; omega))
      have HX7 := hid (HX6.out.grown happ7.grown hxs6 (fun g hg => by have := (ownsRow_block HO6.out hg).1; have := HX5.out.size; omega))
      have hblk7 := Blk.grown hblk6 happ7.grown (own_ne HO6.out (by omega))
      have zc7 := Blk.cell hblk7
      clear happ7
      refine hK.out _ _ (by exact ⟨zc7 0, zc7 1, zc7 2, zc7 3, zc7 4, zc7 5⟩) fun hHeld => ?_
      clear hK K
      try simp only [p7]
      refine r1 15 fun K hK => ?_
      go_simp
      go_at_call 83
      refine (HF2.out w7 Ab _ _ w5.heap.size A7 c7 HB7.out (HTb.out _ HX7.out) HO7.out).mono ?_
      rintro e w8 ⟨rfl, hb8⟩
      have hblk8 := Blk.below hblk7 hb8 hblk7.lt
      have zc8 := Blk.cell hblk8
      go_wp2_with fail
      refine hK.out _ _ (by exact ⟨zc8 0, zc8 1, zc8 2, zc8 3, zc8 4, zc8 5⟩) fun hHeld => ?_
      clear hK K
      try simp only [p7]
      refine tq 16 hHeld ?_
      try simp only [p7]
      refine tq 17 hHeld ?_
      try simp only [p7]
      refine wpAnyH_done (by kernel_rfl) ?_ _
      have HB8 := bto HB7 hb8
      clear hb8
      go_wp2_with fail
      go_ret
      rw [HFT.out]
      exact ⟨rfl, HB8.out⟩
    · go_simp
      refine hK.out _ _ (by exact ⟨zc5a 0, zc5a 1, zc5a 2, zc5a 3, zc5a 4, zc5a 5⟩) fun hHeld => ?_
      clear hK K
      try simp only [p7]
      refine r1 12 fun K hK => ?_
      go_simp
      go_at_call 82
      refine (HCL.out (w5.alloc (.cells #[.int .i64 0] 100)) (HB5.out.alloc HB5.out.size _)).mono ?_
      rintro e w6 ⟨hb6, A6, n6, c6, rfl, ho6⟩
      have hn6 : n6 = k := (by (have := ho6.1; rw [← HKZ.out]; simpa using this.symm))
      subst hn6
      have hblk6 := Blk.below hblk5a hb6 (by simp; omega)
      have zc6 := Blk.cell hblk6
      have HB6 := hid ((HB5.out.alloc HB5.out.size (.cells #[.int .i64 0] 100)).trans (hb6.mono (by simp; have := HB5.out.size; omega)))
      have HX6 := hid ((HX5.out.alloc HX5.out.size (.cells #[.int .i64 0] 100)).trans (hb6.mono (by simp; have := HX5.out.size; omega)))
      have hbl6 := hblk6.lt
      have hs56 : w5.heap.size + 1 ≤ w6.heap.size := (by simpa using hb6.size)
      have HO6 : Hid (OwnM w6 (w5.heap.size + 1) A6 n6 c6 zs) := hid (by simpa using ho6)
      have hbs6 := HB6.out.size
      have hxs6 := HX6.out.size
      have HLC := hid (lit_cells (u := .int .i64 0) ((hb6.cell (p := ⟨w5.heap.size, 0, none⟩) (by simp)).trans (by simp)))
      clear hb6 ho6
      go_wp2_with fail
      refine hK.out _ _ (by exact ⟨zc6 0, zc6 1, zc6 2, zc6 3, zc6 4, zc6 5⟩) fun hHeld => ?_
      clear hK K
      try simp only [p7]
      refine r1 14 fun K hK => ?_
      refine step_oper_g (by rfl) (oper_append_mine (.tmp 83) (.tmp 84) 99 rfl (w5.heap.size + 1) 100 i0 _ 1 8 Try.underlying99 HI0.out HY0.out HY1.out HY2.out rfl (by decide) (.slice A6 n6 c6) n6 (zs.map (Value.int .i64)) (by rfl) HO6.out (some ⟨w5.heap.size, 0, none⟩) 1 1 [.int .i64 0] (by rfl) rfl (fun e => by cases e) HLC.out (fun u hu => by rw [List.mem_singleton] at hu; subst hu; rfl) (by unfold maxLen; omega) (by omega) hs56 ?_)
      intro A7 c7 w7 happ7
      have HO7 : Hid (OwnM w7 (w5.heap.size + 1) A7 (n6 + 1) c7 (zs ++ [0])) := hid (by have := happ7.own; rw [← hmk.out] at this; exact this)
      have HB7 := hid (HB6.out.grown happ7.grown hbs6 (fun g hg => by have := (ownsRow_block HO6.out hg).1; omega))
      have HX7 := hid (HX6.out.grown happ7.grown hxs6 (fun g hg => by have := (ownsRow_block HO6.out hg).1; have := HX5.out.size; omega))
      have hblk7 := Blk.grown hblk6 happ7.grown (own_ne HO6.out (by omega))
      have zc7 := Blk.cell hblk7
      clear happ7
      refine hK.out _ _ (by exact ⟨zc7 0, zc7 1, zc7 2, zc7 3, zc7 4, zc7 5⟩) fun hHeld => ?_
      clear hK K
      try simp only [p7]
      refine r1 15 fun K hK => ?_
      go_simp
      go_at_call 83
      refine (HF2.out w7 Ab _ _ (w5.heap.size + 1) A7 c7 HB7.out (HTb.out _ HX7.out) HO7.out).mono ?_
      rintro e w8 ⟨rfl, hb8⟩
      have hblk8 := Blk.below hblk7 hb8 hblk7.lt
      have zc8 := Blk.cell hblk8
      go_wp2_with fail
      refine hK.out _ _ (by exact ⟨zc8 0, zc8 1, zc8 2, zc8 3, zc8 4, zc8 5⟩) fun hHeld => ?_
      clear hK K
      try simp only [p7]
      refine tq 16 hHeld ?_
      try simp only [p7]
      refine tq 17 hHeld ?_
      try simp only [p7]
      refine wpAnyH_done (by kernel_rfl) ?_ _
      have HB8 := bto HB7 hb8
      clear hb8
      go_wp2_with fail
      go_ret
      rw [HFT.out]
      exact ⟨rfl, HB8.out⟩
end Go.Proofs.Ytjllmblbbgojbaa
