/- core: a machine in memory; fits. -/
import Derived.Test.YtjoddliplahgkaaDShort2
import Derived.Test.YtjoddliplahgkaaDWhK
import Derived.Test.YtjoddliplahgkaaDSenseD
import Derived.Deep.DeepCutAuto
namespace Go.Proofs.Ytjoddliplahgkaa
open Go.Lib (hid)
open Go.RowKit
structure CtxW (R : Nat → Prop) (w : World) (A : Option Addr) (n c : Nat) (cv : List (List Nd)) : Prop where
 len : cv.length = n
 cap : n ≤ c
 few : n ≤ 1000000
 nul : A = none → c = 0
 mem : 0 < n → ∃ b off, A = some ⟨b, off, none⟩ ∧ R b ∧ ∀ k, k < n → ∃ A1 n1 c1 A2 n2 c2, w.cell? ⟨b, off + k * 2, none⟩ = some (.slice A1 n1 c1) ∧ w.cell? ⟨b, off + k * 2 + 1, none⟩ = some (.slice A2 n2 c2) ∧ TermR R w A2 n2 c2 (cv.getD k [])
theorem CtxW.keep {R R' : Nat → Prop} {w w' : World} {A : Option Addr} {n c : Nat} {cv : List (List Nd)} (h : CtxW R w A n c cv) (hR : ∀ b, R b → R' b ∧ ∀ o, w'.cell? ⟨b, o, none⟩ = w.cell? ⟨b, o, none⟩) : CtxW R' w' A n c cv :=
 ⟨h.len, h.cap, h.few, h.nul, fun hn => by
  obtain ⟨b, off, e, hb, hm⟩ := h.mem hn
  refine ⟨b, off, e, (hR b hb).1, fun k hk => ?_⟩
  obtain ⟨A1, n1, c1, A2, n2, c2, h1, h2, h3⟩ := hm k hk
  exact ⟨A1, n1, c1, A2, n2, c2, ((hR b hb).2 _).trans h1, ((hR b hb).2 _).trans h2, h3.keep hR⟩⟩
structure MaW (w0 : World) (g : Nat) (v : BkVal) (b : Bk) (cA : Option Addr) (cn cc : Nat) (cv : List (List Nd)) (f : Nat) (w : World) : Prop where
 bel : Below w0.heap.size w0 w
 blk : Blk w g 79 #[.int .i64 b.vars, .slice v.Ao v.no v.co, .slice v.Ae v.ne v.ce, .int .i64 b.nat, .slice v.Ap v.np v.cp, .slice cA cn cc, .int .i64 (f : Int)]
 ge : w0.heap.size ≤ g
 ctx : CtxW (fun q => q < w.heap.size ∧ q ≠ g) w cA cn cc cv
section
variable {w0 w w' : World} {g f cn cc : Nat} {v : BkVal} {b : Bk} {cA : Option Addr} {cv : List (List Nd)}
theorem MaW.lt (h : MaW w0 g v b cA cn cc cv f w) : g < w.heap.size := h.blk.lt
theorem MaW.below (h : MaW w0 g v b cA cn cc cv f w) (hb : Below w.heap.size w w') : MaW w0 g v b cA cn cc cv f w' := ⟨h.bel.trans (hb.mono h.bel.size), h.blk.below hb h.blk.lt, h.ge, h.ctx.keep fun q hq => ⟨⟨Nat.lt_of_lt_of_le hq.1 hb.size, hq.2⟩, fun o => hb.cell (p := ⟨q, o, none⟩) hq.1⟩⟩
end
theorem node_matchC {b : Bk} {free : Int} {x : TT} (hx : FitT b free x) (h11 : x.1.op = 11) : 0 ≤ x.1.a ∧ x.1.a < (b.entries.length : Int) ∧ 0 ≤ x.1.b ∧ x.1.b ≤ 1000 := by
 have hn := hx.nod x.1 (by simp [rowT])
 have h3 := hx.okt.ok
 simp only [okN, Bool.and_eq_true] at h3
 have h4 := plainB_a h3.1.1
 have h5 := plainB_b h3.1.1
 unfold nodeB famB at hn
 rw [if_neg (by omega), if_neg (by omega), if_neg (by omega), if_pos h11, Bool.and_eq_true, decide_eq_true_eq] at hn
 exact ⟨h4.1, hn.1, h5.1, h5.2⟩
theorem node_ctorC {b : Bk} {free : Int} {x : TT} (hx : FitT b free x) (h10 : x.1.op = 10) : 0 ≤ x.1.a ∧ 0 ≤ x.1.b ∧ x.1.b < ((entB b x.1.a).ctors.length : Int) := by
 have hn := hx.nod x.1 (by simp [rowT])
 have h3 := hx.okt.ok
 simp only [okN, Bool.and_eq_true] at h3
 have h4 := plainB_a h3.1.1
 have h5 := plainB_b h3.1.1
 unfold nodeB at hn
 rw [if_neg (by omega), if_neg (by omega), if_neg (by omega), if_neg (by omega), if_pos h10, Bool.and_eq_true, decide_eq_true_eq] at hn
 exact ⟨h4.1, h5.1, hn.2⟩
set_option linter.unusedSimpArgs false in
set_option linter.unusedVariables false in
set_option maxRecDepth 100000 in
set_option maxHeartbeats 4000000 in
theorem cfits_any {w0 : World} {g : Nat} {v : BkVal} {b : Bk} {cA : Option Addr} {cn cc : Nat} {cv : List (List Nd)} {f : Nat} {w : World} (hr : rightE b = 0) (hb : BookV w0 v b) (hw : MaW w0 g v b cA cn cc cv f w) {nd : Nd} (ha0 : 0 ≤ nd.a) (ha1 : nd.a < (b.entries.length : Int)) {free : Int} {s : Fc} {A B : Option Addr} {ns c m d : Nat} (hs : FocI g w s A ns c B m d) (fs : FocG b free s) :
 Calls Try.prog 82 #[.pointer (some ⟨g, 0, none⟩), .agg #[.int .i64 nd.op, .int .i64 nd.a, .int .i64 nd.b], .agg #[.slice A ns c, .slice B m d]] w (BoolP (fitsM b nd s) w) := by
 obtain ⟨ia, hia⟩ : ∃ ia : Nat, nd.a = (ia : Int) := ⟨nd.a.toNat, by omega⟩
 have hel := hb.entries.len
 have hef := hb.entries.few
 have hin : ia < v.ne := by omega
 have hin2 : (ia : Int) < (v.ne : Int) := by omega
 obtain ⟨be, oe, ea, hlb, u, e0, e1, e2, e3, e4, e5, e6, hec⟩ := hb.entries.at_ hin
 have hx : b.entries.getD ia default = entB b nd.a := by rw [hia]; rfl
 rw [hx] at e0 hec
 obtain ⟨x, hxx⟩ : ∃ x, x = entB b nd.a := ⟨_, rfl⟩
 rw [← hxx] at e0 hec
 obtain ⟨kd, hkd⟩ : ∃ k, k = x.kind := ⟨_, rfl⟩
 rw [← hkd] at e0
 obtain ⟨w1, hw1e⟩ : ∃ w1 : World, w1 = (w.alloc (.cells #[.int .i64 nd.op, .int .i64 nd.a, .int .i64 nd.b] 50)).alloc (.cells #[.slice A ns c, .slice B m d] 70) := ⟨_, rfl⟩
 have hb1 : Below w.heap.size w w1 := by rw [hw1e]; exact below_alloc2 _ _ _
 have zn : Blk w1 w.heap.size 50 #[.int .i64 nd.op, .int .i64 nd.a, .int .i64 nd.b] := by rw [hw1e]; exact (Blk.new _ _ _).alloc _
 have zs : Blk w1 (w.heap.size + 1) 70 #[.slice A ns c, .slice B m d] := by rw [hw1e]; exact Blk.new' (by simp)
 have zg := hw.blk.below hb1 hw.blk.lt
 have hbe : be < w1.heap.size := Nat.lt_of_lt_of_le hlb (Nat.le_trans hw.bel.size hb1.size)
 have hbb := (hw.bel.trans (hb1.mono hw.bel.size))
 have x0 := (hbb.cell (p := ⟨be, oe + ia * 7, none⟩) hlb).trans e0
 have x1 := (hbb.cell (p := ⟨be, oe + ia * 7 + 1, none⟩) hlb).trans e1
 have x2 := (hbb.cell (p := ⟨be, oe + ia * 7 + 2, none⟩) hlb).trans e2
 have x3 := (hbb.cell (p := ⟨be, oe + ia * 7 + 3, none⟩) hlb).trans e3
 have x4 := (hbb.cell (p := ⟨be, oe + ia * 7 + 4, none⟩) hlb).trans e4
 have x5 := (hbb.cell (p := ⟨be, oe + ia * 7 + 5, none⟩) hlb).trans e5
 have x6 := (hbb.cell (p := ⟨be, oe + ia * 7 + 6, none⟩) hlb).trans e6
 have hns0 : 0 < ns := by have := hs.1.len; rw [← this]; exact rowT_pos _
 obtain ⟨bs, os, rfl, hbs, h0, h1, h2⟩ := TermV.at_ (hs.below hb1).head hns0
 rw [Nat.zero_mul, Nat.add_zero, show nth (rowT s.1) 0 = s.1.1 from rfl] at h0 h1 h2
 obtain ⟨so, hso⟩ : ∃ z, z = s.1.1.op := ⟨_, rfl⟩
 obtain ⟨sa, hsa⟩ : ∃ z, z = s.1.1.a := ⟨_, rfl⟩
 obtain ⟨sb, hsb⟩ : ∃ z, z = s.1.1.b := ⟨_, rfl⟩
 rw [← hso] at h0
 rw [← hsa] at h1
 rw [← hsb] at h2
 have hml : s.2.length = m := by have := hs.2.1.len; simpa using this
 have hct := fun h => node_ctorC fs.head h
 have hgl : g < w1.heap.size := zg.lt
 have hnl : w.heap.size < w1.heap.size := zn.lt
 have hsl : w.heap.size + 1 < w1.heap.size := zs.lt
 have c0 := zs.cell 0
 have c1 := zn.cell 1
 have c2 := zg.cell 2
 have HZN := hid zn
 have HZS := hid zs
 have HB1 := hid hb1
 have HEC := hid (hec.below hbb)
 have HML := hid hml
 have HCT := hid hct
 have HXX := hid hxx
 have HSO := hid hso
 have HSA := hid hsa
 have HSB := hid hsb
 have HIA := hid hia
 obtain ⟨res, hres⟩ : ∃ r, r = fitsM b nd s := ⟨_, rfl⟩
 rw [← hres]
 have HRES := hid hres
 have hmf := hs.2.1.few
 rw [hia]
 rw [ea] at c2
 rw [hia] at c1
 clear hr hb hw ha0 ha1 hs fs hia hel hef hx hxx hkd hb1 zn zs zg hbb hec e0 e1 e2 e3 e4 e5 e6 hct hml hso hsa hsb hres
 go_in
 go_upto_region 1 with fail
 rw [← HIA.out, ← hw1e]
 rw [HIA.out]
 go_cut [7, 8] (fun pv ev wx => ∃ g7 g8 : Nat, pv = .pointer (some ⟨g7, 0, none⟩) ∧ ev = .pointer (some ⟨g8, 0, none⟩) ∧ Hid (Below w1.heap.size w1 wx) ∧ Hid (Blk wx g7 50 #[.int .i64 so, .int .i64 sa, .int .i64 sb]) ∧ Hid (Blk wx g8 62 #[.int .i64 kd, .slice u.As u.ns u.cs, .slice u.Ap u.np u.cp, .slice u.Ai u.ni u.ci, .slice u.Ac u.nc u.cc, .slice u.At u.nt u.ct, .slice u.Ab u.nb u.cb]))
 case first =>
  refine wp_region_held_drew (S := (fun w' => Below w1.heap.size w1 w')) (by kernel_rfl) ?_ (fun hHeld => ?_)
  · (try dsimp only); exact below_drewN (Below.refl _ _) 1
  have HBD : Hid (Below w1.heap.size w1 w1.drew) := hid (below_drewN (Below.refl _ _) 1)
  generalize w1.drew = W1 at *
  refine wpAnyH_take (i := 0) (v := ?_) rfl (by kernel_rfl) (by kernel_rfl) (by kernel_rfl) (fun _ _ _ h => h) (Or.inl ⟨by rfl, fun wq hSw => ?_⟩) hHeld ?_
  rotate_left
  · ((try dsimp only at hSw); go_simp; try with_reducible rfl)
  try simp only [p7]
  refine wpAnyH_take (i := 1) (v := ?_) rfl (by kernel_rfl) (by kernel_rfl) (by kernel_rfl) (fun _ _ _ h => h) (Or.inl ⟨by rfl, fun wq hSw => ?_⟩) hHeld ?_
  rotate_left
  · (have f0 := (hSw.cell (p := ⟨w.heap.size + 1, 0, none⟩) hsl).trans c0; go_simp; try with_reducible rfl)
  try simp only [p7]
  refine wpAnyH_take (i := 2) (v := ?_) rfl (by kernel_rfl) (by kernel_rfl) (by kernel_rfl) (fun _ _ _ h => h) (Or.inl ⟨by rfl, fun wq hSw => ?_⟩) hHeld ?_
  rotate_left
  · ((try dsimp only at hSw); go_simp; try with_reducible rfl)
  try simp only [p7]
  refine wpAnyH_take (i := 3) (v := ?_) rfl (by kernel_rfl) (by kernel_rfl) (by kernel_rfl) (fun _ _ _ h => h) (Or.inl ⟨by rfl, fun wq hSw => ?_⟩) hHeld ?_
  rotate_left
  · (have f0 := (hSw.cell (p := ⟨bs, os, none⟩) hbs).trans h0; have f1 := (hSw.cell (p := ⟨bs, os + 1, none⟩) hbs).trans h1; have f2 := (hSw.cell (p := ⟨bs, os + 2, none⟩) hbs).trans h2; go_simp; try with_reducible rfl)
  try simp only [p7]
  refine wpAnyH_take (i := 4) (v := ?_) rfl (by kernel_rfl) (by kernel_rfl) (by kernel_rfl) (fun _ _ _ h => h) (Or.inl ⟨by rfl, fun wq hSw => ?_⟩) hHeld ?_
  rotate_left
  · ((try dsimp only at hSw); go_simp; try with_reducible rfl)
  try simp only [p7]
  refine wpAnyH_take (i := 5) (v := ?_) rfl (by kernel_rfl) (by kernel_rfl) (by kernel_rfl) (fun _ _ _ h => h) (Or.inl ⟨by rfl, fun wq hSw => ?_⟩) hHeld ?_
  rotate_left
  · ((try dsimp only at hSw); go_simp; try with_reducible rfl)
  try simp only [p7]
  refine wpAnyH_take (i := 6) (v := ?_) rfl (by kernel_rfl) (by kernel_rfl) (by kernel_rfl) (fun _ _ _ h => h) (Or.inl ⟨by rfl, fun wq hSw => ?_⟩) hHeld ?_
  rotate_left
  · ((try dsimp only at hSw); go_simp; try with_reducible rfl)
  try simp only [p7]
  refine wpAnyH_take (i := 7) (v := ?_) rfl (by kernel_rfl) (by kernel_rfl) (by kernel_rfl) (fun _ _ _ h => h) (Or.inl ⟨by rfl, fun wq hSw => ?_⟩) hHeld ?_
  rotate_left
  · ((try dsimp only at hSw); go_simp; try with_reducible rfl)
  try simp only [p7]
  refine wpAnyH_take (i := 8) (v := ?_) rfl (by kernel_rfl) (by kernel_rfl) (by kernel_rfl) (fun _ _ _ h => h) (Or.inl ⟨by rfl, fun wq hSw => ?_⟩) hHeld ?_
  rotate_left
  · (have f0 := (hSw.cell (p := ⟨g, 2, none⟩) hgl).trans c2; go_simp; try with_reducible rfl)
  try simp only [p7]
  refine wpAnyH_take (i := 9) (v := ?_) rfl (by kernel_rfl) (by kernel_rfl) (by kernel_rfl) (fun _ _ _ h => h) (Or.inl ⟨by rfl, fun wq hSw => ?_⟩) hHeld ?_
  rotate_left
  · ((try dsimp only at hSw); go_simp; try with_reducible rfl)
  try simp only [p7]
  refine wpAnyH_take (i := 10) (v := ?_) rfl (by kernel_rfl) (by kernel_rfl) (by kernel_rfl) (fun _ _ _ h => h) (Or.inl ⟨by rfl, fun wq hSw => ?_⟩) hHeld ?_
  rotate_left
  · (have f0 := (hSw.cell (p := ⟨w.heap.size, 1, none⟩) hnl).trans c1; go_simp; try with_reducible rfl)
  try simp only [p7]
  refine wpAnyH_take (i := 11) (v := ?_) rfl (by kernel_rfl) (by kernel_rfl) (by kernel_rfl) (fun _ _ _ h => h) (Or.inl ⟨by rfl, fun wq hSw => ?_⟩) hHeld ?_
  rotate_left
  · ((try dsimp only at hSw); go_simp; try with_reducible rfl)
  try simp only [p7]
  refine wpAnyH_take (i := 12) (v := ?_) rfl (by kernel_rfl) (by kernel_rfl) (by kernel_rfl) (fun _ _ _ h => h) (Or.inl ⟨by rfl, fun wq hSw => ?_⟩) hHeld ?_
  rotate_left
  · (have y0 := (hSw.cell (p := ⟨be, oe + ia * 7, none⟩) hbe).trans x0; have y1 := (hSw.cell (p := ⟨be, oe + ia * 7 + 1, none⟩) hbe).trans x1; have y2 := (hSw.cell (p := ⟨be, oe + ia * 7 + 2, none⟩) hbe).trans x2; have y3 := (hSw.cell (p := ⟨be, oe + ia * 7 + 3, none⟩) hbe).trans x3; have y4 := (hSw.cell (p := ⟨be, oe + ia * 7 + 4, none⟩) hbe).trans x4; have y5 := (hSw.cell (p := ⟨be, oe + ia * 7 + 5, none⟩) hbe).trans x5; have y6 := (hSw.cell (p := ⟨be, oe + ia * 7 + 6, none⟩) hbe).trans x6; go_simp; try with_reducible rfl)
  try simp only [p7]
  refine wpAnyH_ready (rs := [13, 14]) (by kernel_rfl) (by simp) ?_
  refine AllReadyH.cons rfl (fun K hK => ?_) (AllReadyH.cons rfl (fun K hK => ?_) (AllReadyH.nil))
  · go_simp
    refine hK.out _ _ ?_ (fun hHeld => ?_)
    · (try dsimp only); first | exact HBD.out.alloc HBD.out.size _ | exact (HBD.out.alloc HBD.out.size _).alloc (by simp; exact Nat.le_succ_of_le HBD.out.size) _
    clear hK K
    try simp only [p7]
    refine r1 14 fun K hK => ?_
    go_simp
    refine hK.out _ _ ?_ (fun hHeld => ?_)
    · (try dsimp only); first | exact HBD.out.alloc HBD.out.size _ | exact (HBD.out.alloc HBD.out.size _).alloc (by simp; exact Nat.le_succ_of_le HBD.out.size) _
    clear hK K
    try simp only [p7]
    refine r1 15 fun K hK => ?_
    go_simp
    refine hK.out _ _ ?_ (fun hHeld => ?_)
    · (try dsimp only); first | exact HBD.out.alloc HBD.out.size _ | exact (HBD.out.alloc HBD.out.size _).alloc (by simp; exact Nat.le_succ_of_le HBD.out.size) _
    clear hK K
    try simp only [p7]
    refine r1 16 fun K hK => ?_
    go_simp
    refine hK.out _ _ ?_ (fun hHeld => ?_)
    · (try dsimp only); first | exact HBD.out.alloc HBD.out.size _ | exact (HBD.out.alloc HBD.out.size _).alloc (by simp; exact Nat.le_succ_of_le HBD.out.size) _
    clear hK K
    try simp only [p7]
    refine wpAnyH_done (by kernel_rfl) ?_ _
    go_wp2_with fail
    go_meet
    exact ⟨_, _, rfl, rfl, hid ((HBD.out.alloc HBD.out.size _).alloc (by simp; exact Nat.le_succ_of_le HBD.out.size) _), hid ((Blk.new _ _ _).alloc _), hid (Blk.new' (by simp))⟩
  go_simp
  refine hK.out _ _ ?_ (fun hHeld => ?_)
  · (try dsimp only); first | exact HBD.out.alloc HBD.out.size _ | exact (HBD.out.alloc HBD.out.size _).alloc (by simp; exact Nat.le_succ_of_le HBD.out.size) _
  clear hK K
  try simp only [p7]
  refine r1 13 fun K hK => ?_
  go_simp
  refine hK.out _ _ ?_ (fun hHeld => ?_)
  · (try dsimp only); first | exact HBD.out.alloc HBD.out.size _ | exact (HBD.out.alloc HBD.out.size _).alloc (by simp; exact Nat.le_succ_of_le HBD.out.size) _
  clear hK K
  try simp only [p7]
  refine r1 15 fun K hK => ?_
  go_simp
  refine hK.out _ _ ?_ (fun hHeld => ?_)
  · (try dsimp only); first | exact HBD.out.alloc HBD.out.size _ | exact (HBD.out.alloc HBD.out.size _).alloc (by simp; exact Nat.le_succ_of_le HBD.out.size) _
  clear hK K
  try simp only [p7]
  refine r1 16 fun K hK => ?_
  go_simp
  refine hK.out _ _ ?_ (fun hHeld => ?_)
  · (try dsimp only); first | exact HBD.out.alloc HBD.out.size _ | exact (HBD.out.alloc HBD.out.size _).alloc (by simp; exact Nat.le_succ_of_le HBD.out.size) _
  clear hK K
  try simp only [p7]
  refine wpAnyH_done (by kernel_rfl) ?_ _
  go_wp2_with fail
  go_meet
  exact ⟨_, _, rfl, rfl, hid ((HBD.out.alloc HBD.out.size _).alloc (by simp; exact Nat.le_succ_of_le HBD.out.size) _), hid (Blk.new' (by simp)), hid ((Blk.new _ _ _).alloc _)⟩
 case rest =>
 obtain ⟨g7, g8, rfl, rfl, hbx, hk7, hk8⟩ := hcut
 obtain ⟨w2, rfl⟩ : ∃ x : World, x = wc := ⟨_, rfl⟩
 have HBX := hid (HB1.out.trans (hbx.out.mono HB1.out.size))
 have zk7 := hk7.out.cell
 have zk8 := hk8.out.cell
 have zn2 := (HZN.out.below hbx.out HZN.out.lt).cell
 have zs2 := (HZS.out.below hbx.out HZS.out.lt).cell
 have HBX1 := hid hbx.out
 have HEC2 := hid (HEC.out.below hbx.out)
 rw [HIA.out] at zn2
 clear hbx hk7 hk8 x0 x1 x2 x3 x4 x5 x6 h0 h1 h2 c0 c1 c2
 by_cases q1 : so = 10
 rotate_left
 · have d1 : (so == 10) = false := by simpa using q1
   have hr : res = false := by rw [HRES.out]; unfold fitsM; rw [← HSO.out, d1]; rfl
   have HR := hid hr
   clear q1 hr
   go_upto_region 2 with fail
   go_quiet (fail)
   go_wp2_with fail
   go_ret
   rw [HR.out]
   exact ⟨rfl, below_drewN HBX.out _⟩
 have d1 : (so == 10) = true := by simpa using q1
 obtain ⟨t1, t2, t3⟩ := HCT.out (HSO.out.symm.trans q1)
 rw [← HSA.out] at t1 t3
 rw [← HSB.out] at t2 t3
 clear q1
 by_cases q2 : sa = (ia : Int)
 rotate_left
 · have d2 : (sa == (ia : Int)) = false := by simpa using q2
   have hr : res = false := by rw [HRES.out]; unfold fitsM; rw [← HSO.out, d1, ← HSA.out, HIA.out, d2]; rfl
   have HR := hid hr
   clear q2 hr t1 t2 t3
   go_upto_region 2 with fail
   go_quiet (fail)
   go_wp2_with fail
   go_ret
   rw [HR.out]
   exact ⟨rfl, below_drewN HBX.out _⟩
 have d2 : (sa == (ia : Int)) = true := by simpa using q2
 by_cases q3 : sb < nd.b
 rotate_left
 · have d3 : decide (sb < nd.b) = false := decide_eq_false q3
   have hr : res = false := by rw [HRES.out]; unfold fitsM; rw [← HSO.out, d1, ← HSA.out, HIA.out, d2, ← HSB.out, d3]; rfl
   have HR := hid hr
   clear q2 q3 hr t1 t2 t3
   go_upto_region 2 with fail
   go_quiet (fail)
   go_wp2_with fail
   go_ret
   rw [HR.out]
   exact ⟨rfl, below_drewN HBX.out _⟩
 have d3 : decide (sb < nd.b) = true := decide_eq_true q3
 obtain ⟨ib, hib⟩ : ∃ ib : Nat, sb = (ib : Int) := ⟨sb.toNat, by omega⟩
 have hxs : entB b sa = x := by rw [HXX.out, HIA.out, q2]
 rw [hxs] at t3
 have hcl := HEC2.out.ctors.len
 have hcf := HEC2.out.ctors.few
 have hpf := HEC2.out.params.few
 have hpl := HEC2.out.params.len
 have hibn : ib < u.nc := by omega
 have hib2 : (ib : Int) < (u.nc : Int) := by omega
 obtain ⟨bc, oc, A1, n1, c1, ec, hlc, k0, hal⟩ := HEC2.out.ctors.arg_at hibn
 rw [ec] at zk8
 have hr : res = (m == u.np + n1) := by
  rw [HRES.out]
  unfold fitsM
  rw [← HSO.out, d1, ← HSA.out, HIA.out, d2, ← HSB.out, d3, ← HIA.out, ← HXX.out, HML.out, hpl, hib, show ((ib : Int)).toNat = ib from by omega, hal]
  rfl
 have d4 : ((m : Int) == (u.np : Int) + (n1 : Int)) = (m == u.np + n1) := by
  rw [Bool.eq_iff_iff]
  simp only [beq_iff_eq]
  omega
 have hn1f : n1 ≤ 5864062014805 := by
  obtain ⟨_, _, _, _, hm9⟩ := HEC2.out.ctors.mem (by omega)
  obtain ⟨A9, n9, c9, _, _, _, _, _, hr9, _⟩ := hm9 ib hibn
  have := hr9.len
  have := hr9.few
  omega
 have HR := hid hr
 subst hib
 clear q2 q3 hr t1 t2 t3 hcl hal
 generalize (m == u.np + n1) = rb at *
 go_upto_region 2 with fail
 go_quiet (fail)
 go_wp2_with fail
 go_ret
 rw [HR.out]
 exact ⟨rfl, below_drewN HBX.out _⟩
end Go.Proofs.Ytjoddliplahgkaa
