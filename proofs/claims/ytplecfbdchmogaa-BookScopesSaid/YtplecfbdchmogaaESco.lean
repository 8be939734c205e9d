/- BookScopes: the law, walked. -/
import Derived.Test.YtplecfbdchmogaaEShort2
import Derived.Test.YtplecfbdchmogaaEScoP
import Derived.Test.YtplecfbdchmogaaEAwk
import Derived.Test.YtplecfbdchmogaaESenseK
import Derived.Deep.DeepCutAuto
namespace Go.Proofs.Ytplecfbdchmogaa
open Go.Lib (hid)
open Go.RowKit
theorem rowE_u {q : List Nd × Int} {w w' : World} {e : Ending} (h : RowEPost q w e w') : Below w.heap.size w w' ∧ ∃ A n c, e = .returned (.tuple #[.slice A n c, .int .i64 q.2]) ∧ TermV w' A n c q.1 := by
 obtain ⟨h1, A, n, c, h2, h3⟩ := h
 exact ⟨h1, A, n, c, h2, h3.keep fun q hq => ⟨hq.2, fun _ => rfl⟩⟩
theorem EnsV.front {w : World} {A : Option Addr} {n c m : Nat} {es : List En} (h : EnsV w A n c es) (hm : m ≤ n) (c' : Nat) : EnsV w A m c' (es.take m) := by
 refine ⟨by rw [List.length_take, h.len]; omega, by have := h.few; omega, fun h0 => ?_⟩
 obtain ⟨b, off, e, hb, hc⟩ := h.mem (by omega)
 refine ⟨b, off, e, hb, fun k hk => ?_⟩
 have := hc k (by omega)
 rwa [show es.getD k default = (es.take m).getD k default from by simp [List.getD_eq_getElem?_getD, hk]] at this
theorem BookV.pre {w : World} {v : BkVal} {b : Bk} (h : BookV w v b) {m : Nat} (hm : m ≤ v.ne) (c' : Nat) : BookV w ⟨v.Ao, v.no, v.co, v.Ae, m, c', none, 0, 0⟩ (preB b m) :=
 ⟨h.orders, h.entries.front hm c', ⟨rfl, (by decide : (0 : Nat) ≤ 8796093021952), fun h => absurd h (Nat.lt_irrefl 0)⟩, h.vars, (by decide : (Lit.int .i64 (-1)).wf = true), fun x hx => h.kinds x (List.mem_of_mem_take hx), fun p hp => by cases hp⟩
set_option linter.unusedSimpArgs false in
set_option linter.unusedVariables false in
set_option maxRecDepth 100000 in
set_option maxHeartbeats 16000000 in
theorem scopes_law {w : World} {v : BkVal} {b : Bk} (hb : BookV w v b) (hcp : v.ne ≤ v.ce) :
 Calls Try.prog 5 #[.agg #[.int .i64 b.vars, .slice v.Ao v.no v.co, .slice v.Ae v.ne v.ce, .int .i64 b.nat, .slice v.Ap v.np v.cp]] w (BoolP true w) := by
 have HSZ := hid (fun (w' : World) (h : Below w.heap.size w w') => heavy5_any (hb.below h))
 have HRT := hid (fun (w' : World) (h : Below w.heap.size w w') => right_any (hb.below h))
 have HB0 := hid (below_alloc w (.cells #[.int .i64 b.vars, .slice v.Ao v.no v.co, .slice v.Ae v.ne v.ce, .int .i64 b.nat, .slice v.Ap v.np v.cp] 26))
 have HK0 := hid (Blk.new w 26 #[.int .i64 b.vars, .slice v.Ao v.no v.co, .slice v.Ae v.ne v.ce, .int .i64 b.nat, .slice v.Ap v.np v.cp])
 have HBK := hid hb
 generalize decide (12000 ≤ sizeB 12000 b) = hv at *
 obtain ⟨rz, hrz⟩ : ∃ z, z = rightE b := ⟨_, rfl⟩
 rw [← hrz] at HRT
 have HRZ := hid hrz
 have hel := hb.entries.len
 have hef := hb.entries.few
 clear hb hrz
 go_in
 go_wp2_with fail
 refine awake5_any.mono ?_
 rintro en w1 ⟨rfl, hw1⟩
 have HB1 := bto HB0 hw1
 have HK1 := hid (Blk.below HK0.out hw1 (by simp))
 have z0 := Blk.cell HK1.out
 clear hw1
 go_wp2_with fail
 refine (HSZ.out _ HB1.out).mono ?_
 rintro en w2 ⟨rfl, hw2⟩
 have HB2 := bto HB1 hw2
 have HK2 := bko HK1 hw2
 clear hw2 z0
 have z0 := Blk.cell HK2.out
 cases hv
 rotate_left
 · go_wp2_with fail
   go_ret
   exact ⟨rfl, HB2.out⟩
 go_wp2_with fail
 refine (HRT.out _ HB2.out).mono ?_
 rintro en w3 ⟨rfl, hw3⟩
 have HB3 := bto HB2 hw3
 have HK3 := bko HK2 hw3
 clear hw3 z0
 by_cases hr : rz = 0
 rotate_left
 · have dz : (rz != 0) = true := by simpa using hr
   clear hr
   go_wp2_with fail
   go_ret
   exact ⟨rfl, HB3.out⟩
 have HR0 : Hid (rightE b = 0) := hid (HRZ.out.symm.trans hr)
 subst hr
 go_wp2_with fail
 go_loopw [3] (fun iv wr => ∃ i : Nat, iv = .int .i64 (i : Int) ∧ i ≤ v.ne ∧ Hid (Below w.heap.size w wr) ∧ Hid (Blk wr w.heap.size 26 #[.int .i64 b.vars, .slice v.Ao v.no v.co, .slice v.Ae v.ne v.ce, .int .i64 b.nat, .slice v.Ap v.np v.cp])) (fun iv _ => v.ne - (intOf iv).toNat)
 case atStart => exact ⟨0, rfl, Nat.zero_le _, HB3, HK3⟩
 case round =>
  obtain ⟨i, rfl, hin, hbw, hkw⟩ := hrel
  obtain ⟨w4, hw4⟩ : ∃ W : World, W = wr := ⟨_, rfl⟩
  rw [← hw4] at hbw hkw ⊢
  clear hw4
  have HB4 := hid hbw.out
  have HK4 := hid hkw.out
  clear hbw hkw
  have z0 := Blk.cell HK4.out
  by_cases hlt : i < v.ne
  rotate_left
  · have d1 : decide ((i : Int) < (v.ne : Int)) = false := decide_eq_false (by omega)
    have d2 : decide (i < v.ne) = false := decide_eq_false hlt
    clear hlt
    by_cases h0 : v.ne = 0
    · have d3 : ((v.ne : Int) == 0) = true := by rw [h0]; rfl
      clear h0
      go_wp2_with fail
      go_ret
      exact ⟨rfl, HB4.out⟩
    have d3 : ((v.ne : Int) == 0) = false := by
     have : (v.ne : Int) ≠ 0 := by omega
     simpa using this
    obtain ⟨bb, off, ea, hlb, _⟩ := HBK.out.entries.mem (by omega)
    have hpre := (fun (W : World) (h : Below w.heap.size w W) => right_any ((HBK.out.below h).pre (m := v.ne - 1) (by omega) v.ce))
    rw [scope_pre HR0.out] at hpre
    simp only at hpre
    rw [ea] at hpre z0
    have HPRE := hid hpre
    obtain ⟨k1, hk1⟩ : ∃ k1, k1 = v.ne - 1 := ⟨_, rfl⟩
    rw [← hk1] at HPRE
    have hwk : IntKind.i64.wrap ((v.ne : Int) - 1) = (k1 : Int) := by rw [IntKind.wrap_i64]; omega
    have hk2 : k1 ≤ v.ce := by omega
    clear hk1
    have HZ := hid z0
    clear hpre h0
    go_upto_region 31 with fail
    refine wp_region_held_drew (S := (fun w' => w'.cell? ⟨w.heap.size, 0, none⟩ = some (.int .i64 b.vars) ∧ w'.cell? ⟨w.heap.size, 1, none⟩ = some (.slice v.Ao v.no v.co) ∧ w'.cell? ⟨w.heap.size, 2, none⟩ = some (.slice (some ⟨bb, off, none⟩) v.ne v.ce))) (by kernel_rfl) ?_ (fun hHeld => ?_)
    · (try dsimp only); exact ⟨HZ.out 0, HZ.out 1, HZ.out 2⟩
    refine tq 0 hHeld ?_
    try simp only [p7]
    refine tq 1 hHeld ?_
    try simp only [p7]
    refine tq 2 hHeld ?_
    try simp only [p7]
    refine tq 3 hHeld ?_
    try simp only [p7]
    refine tq 4 hHeld ?_
    try simp only [p7]
    refine tq 5 hHeld ?_
    try simp only [p7]
    refine tq 6 hHeld ?_
    try simp only [p7]
    refine tq 7 hHeld ?_
    try simp only [p7]
    refine tq 8 hHeld ?_
    try simp only [p7]
    refine tq 9 hHeld ?_
    try simp only [p7]
    refine tq 10 hHeld ?_
    try simp only [p7]
    refine tq 11 hHeld ?_
    try simp only [p7]
    refine r1 12 fun K hK => ?_
    go_simp
    go_at_call 12
    refine (HPRE.out _ (below_drew HB4.out)).mono ?_
    rintro en w9 ⟨rfl, hb9⟩
    have HB9 := hid ((below_drew HB4.out).trans (hb9.mono (below_drew HB4.out).size))
    have HK9 := hid ((blk_drew HK4.out).below hb9 HK4.out.lt)
    have HZ9 := hid (Blk.cell HK9.out)
    rw [ea] at HZ9
    go_wp2_with fail
    refine hK.out _ _ (by exact ⟨HZ9.out 0, HZ9.out 1, HZ9.out 2⟩) fun hHeld => ?_
    clear hK K
    try simp only [p7]
    refine tq 13 hHeld ?_
    try simp only [p7]
    refine tq 14 hHeld ?_
    try simp only [p7]
    refine wpAnyH_done (by kernel_rfl) ?_ _
    go_wp2_with fail
    go_ret
    exact ⟨rfl, HB9.out⟩
  have d1 : decide ((i : Int) < (v.ne : Int)) = true := decide_eq_true (by omega)
  have d2 : decide (i < v.ne) = true := decide_eq_true hlt
  have hin2 : (i : Int) < (v.ne : Int) := by omega
  obtain ⟨bb, off, ea, hlb, u, c0, c1, c2, c3, c4, c5, c6, hec⟩ := HBK.out.entries.at_ hlt
  rw [ea] at z0
  have HEC : Hid (EnC w u (entB b (i : Int))) := hid hec
  have HKD : Hid ((entB b (i : Int)).kind = (b.entries.getD i default).kind) := hid rfl
  obtain ⟨kd, hkd⟩ : ∃ k, k = (b.entries.getD i default).kind := ⟨_, rfl⟩
  rw [← hkd] at c0 HKD
  have HC0 := hid c0
  have HC2 := hid c2
  have HC3 := hid c3
  have HC4 := hid c4
  have HLB := hid hlb
  have HEA := hid ea
  have k0 := (HB4.out.cell (p := ⟨bb, off + i * 7, none⟩) hlb).trans c0
  clear hec hkd c0 c1 c2 c3 c4 c5 c6 ea
  by_cases hk : kd = 1
  rotate_left
  · have d5 : (kd != 1) = true := by simpa using hk
    clear hk hlt
    go_wp2_with fail
    go_roundw
    case rel => exact ⟨i + 1, by go_num, by omega, HB4, HK4⟩
    case measure => simp [intOf]; omega
  subst hk
  have HFM : Hid (famE b (i : Int) = 0) := hid (by unfold famE; rw [if_neg (by rw [HR0.out]; simp), if_neg (by rw [HKD.out]; rintro (h | h | h); omega; omega; exact h rfl)])
  have HI := hid (fun (W : World) (h : Below w.heap.size w W) => bind5_any (HBK.out.below h) (i : Int) (by omega) (by omega))
  have HSI := hid (scope_ind HFM.out)
  obtain ⟨qi, hqi⟩ : ∃ q, q = binT b (i : Int) := ⟨_, rfl⟩
  rw [← hqi] at HI HSI
  obtain ⟨il, iz⟩ := qi
  clear hqi
  rw [HEA.out] at HI
  go_wp2_with fail
  refine (HI.out _ HB4.out).mono ?_
  rintro en w5 hpo
  obtain ⟨hb5, A5, n5, c5, rfl, ht5⟩ := rowE_u hpo
  simp only at ht5 ⊢
  have HB5 := bto HB4 hb5
  have HK5 := bko HK4 hb5
  have HT5 := hid ht5
  have HF5 := hid (fun (W : World) (h : Below w5.heap.size w5 W) => fits_any (HBK.out.below (HB5.out.trans (h.mono HB5.out.size))) 0 (ht5.below h))
  rw [HEA.out] at HF5
  clear hpo hb5 ht5 z0 k0
  have z0 := Blk.cell HK5.out
  rw [HEA.out] at z0
  go_upto_region 10 with fail
  go_cut [53] (fun bv wx => bv = .bool false ∧ Hid (Below w5.heap.size w5 wx))
  case first =>
   by_cases h9 : iz = 9
   · have d6 : (iz != 9) = false := by rw [h9]; rfl
     clear h9
     go_wp2_with fail
     go_meet
     exact ⟨rfl, hid (Below.refl _ _)⟩
   have d6 : (iz != 9) = true := by simpa using h9
   obtain ⟨g1, g2⟩ : iz = 0 ∧ fitsE b 0 il = 0 := by
    rcases HSI.out with h | h
    · exact absurd h h9
    exact h
   have HFF := hid (HF5.out w5 (Below.refl _ _))
   rw [g2] at HFF
   subst g1
   clear h9 g2 d6
   go_wp2_with fail
   refine (HFF.out).mono ?_
   rintro en w6 ⟨rfl, hw6⟩
   have HB6 := hid hw6
   clear hw6
   go_wp2_with fail
   go_meet
   exact ⟨rfl, HB6⟩
  case rest =>
  obtain ⟨rfl, hb6⟩ := hcut
  obtain ⟨w6, rfl⟩ : ∃ x : World, x = wc := ⟨_, rfl⟩
  have HB6 := hid (HB5.out.trans (hb6.out.mono HB5.out.size))
  have HK6 := hid (Blk.below HK5.out hb6.out HK5.out.lt)
  clear hb6 z0
  have hcl := HEC.out.ctors.len
  have hcf := HEC.out.ctors.few
  have hpf := HEC.out.params.few
  go_wp2_with fail
  go_loopw [6] (fun jv wr => ∃ j : Nat, jv = .int .i64 (j : Int) ∧ j ≤ u.nc ∧ Hid (Below w.heap.size w wr) ∧ Hid (Blk wr w.heap.size 26 #[.int .i64 b.vars, .slice v.Ao v.no v.co, .slice v.Ae v.ne v.ce, .int .i64 b.nat, .slice v.Ap v.np v.cp])) (fun jv _ => u.nc - (intOf jv).toNat)
  case atStart => exact ⟨0, rfl, Nat.zero_le _, HB6, HK6⟩
  case round =>
   obtain ⟨j, rfl, hjn, hbw, hkw⟩ := hrel
   obtain ⟨w7, hw7⟩ : ∃ W : World, W = wr := ⟨_, rfl⟩
   rw [← hw7] at hbw hkw ⊢
   clear hw7
   have HB7 := hid hbw.out
   have HK7 := hid hkw.out
   clear hbw hkw
   have z0 := Blk.cell HK7.out
   rw [HEA.out] at z0
   have k4 := (HB7.out.cell (p := ⟨bb, off + i * 7 + 4, none⟩) HLB.out).trans HC4.out
   by_cases hjlt : j < u.nc
   rotate_left
   · have e1 : decide ((j : Int) < (u.nc : Int)) = false := decide_eq_false (by omega)
     have e2 : decide (j < u.nc) = false := decide_eq_false hjlt
     clear hjlt
     go_wp2_with fail
     go_roundw
     case rel => exact ⟨i + 1, by go_num, by omega, HB7, HK7⟩
     case measure => simp [intOf]; omega
   have e1 : decide ((j : Int) < (u.nc : Int)) = true := decide_eq_true (by omega)
   have e2 : decide (j < u.nc) = true := decide_eq_true hjlt
   have hjn2 : (j : Int) < (u.nc : Int) := by omega
   have HC := hid (fun (W : World) (h : Below w.heap.size w W) => bctor_any (HBK.out.below h) (i : Int) (j : Int) (by omega) (by omega))
   have HSC := hid (scope_ctor (b := b) (e := (i : Int)) (k := (j : Int)) HFM.out (by omega) (by omega))
   obtain ⟨qc, hqc⟩ : ∃ q, q = bctT b (i : Int) (j : Int) := ⟨_, rfl⟩
   rw [← hqc] at HC HSC
   obtain ⟨cl, cz⟩ := qc
   clear hqc
   rw [HEA.out] at HC
   go_wp2_with fail
   refine (HC.out _ HB7.out).mono ?_
   rintro en w8 hpo
   obtain ⟨hb8, A8, n8, c8, rfl, ht8⟩ := rowE_u hpo
   simp only at ht8 ⊢
   have HB8 := bto HB7 hb8
   have HK8 := bko HK7 hb8
   have HT8 := hid ht8
   have HF8 := hid (fits_any (HBK.out.below HB8.out) 0 ht8)
   rw [HEA.out] at HF8
   clear hpo hb8 ht8 z0 k4
   have z0 := Blk.cell HK8.out
   rw [HEA.out] at z0
   by_cases h9 : cz = 9
   · have d6 : (cz == 9) = true := by rw [h9]; rfl
     clear h9
     go_wp2_with fail
     go_roundw
     case rel => exact ⟨j + 1, by go_num, by omega, HB8, HK8⟩
     case measure => simp [intOf]; omega
   have d6 : (cz == 9) = false := by simpa using h9
   obtain ⟨g1, g2⟩ := (HSC.out).resolve_left h9
   try simp only at g1 g2
   subst g1
   obtain ⟨g3, s, g4, g5, g6, g7, L, g8, g9⟩ := g2
   rw [g3] at HF8
   clear h9 g3 d6 HC HSC
   go_wp2_with fail
   refine (HF8.out).mono ?_
   rintro en w9 ⟨rfl, hw9⟩
   have HB9 := bto HB8 hw9
   have HK9 := bko HK8 hw9
   have HT9 := hid (HT8.out.below hw9)
   clear hw9 z0
   obtain ⟨bc, oc, ec, hlc, A1, m1, q1, A2, m2, q2, f0, f1, hr1, hr2⟩ := HEC.out.ctors.both hjlt
   obtain ⟨c, hcc⟩ : ∃ c, c = (entB b (i : Int)).ctors.getD j default := ⟨_, rfl⟩
   rw [show ((j : Int)).toNat = j from by omega, ← hcc] at g4 g5
   rw [← hcc] at hr1 hr2
   obtain ⟨ls, hls⟩ : ∃ ls, ls = (entB b (i : Int)).params ++ c.args := ⟨_, rfl⟩
   have hll : ls.length = u.np + m1 := by rw [hls, List.length_append, HEC.out.params.len, hr1.len]
   have hil : (entB b (i : Int)).indices.length = u.ni := HEC.out.indices.len
   have hpl : (entB b (i : Int)).params.length = u.np := HEC.out.params.len
   rw [hil, hpl] at g9
   rw [← hls] at g4 g5
   have hm1 := hr1.few
   have hif := HEC.out.indices.few
   have HG4 := hid g4
   have HG5 := hid g5
   have HG6 := hid g6
   have HG7 := hid g7
   have HG8 := hid g8
   have HG9 := hid g9
   have HLL := hid hll
   have HF0 := hid f0
   have HLC := hid hlc
   have HECE := hid ec
   have HC4b := HC4
   rw [ec] at HC4b
   have HCLD := hid (rfl : cl = cl)
   clear g4 g5 g6 g7 g8 g9 hll hil hpl hls hr1 hr2 hcc f0 f1 ec
   go_wp2_with fail
   go_loopw [9, 7] (fun tv uv wr => ∃ (t n' c' : Nat) (A' : Option Addr), tv = .int .i64 (t : Int) ∧ uv = .slice A' n' c' ∧ t ≤ u.np + m1 ∧ Hid (Below w.heap.size w wr) ∧ Hid (Blk wr w.heap.size 26 #[.int .i64 b.vars, .slice v.Ao v.no v.co, .slice v.Ae v.ne v.ce, .int .i64 b.nat, .slice v.Ap v.np v.cp]) ∧ Hid (TermV wr A' n' c' (bindL 4 (ls.drop t) ++ s)) ∧ Hid (firstBad (ls.drop t) = 0) ∧ Hid ((bindL 4 (ls.drop t) ++ s).length ≤ 4096)) (fun tv _ _ => u.np + m1 - (intOf tv).toNat)
   case atStart => exact ⟨0, n8, c8, A8, rfl, rfl, Nat.zero_le _, HB9, HK9, hid (by rw [List.drop_zero, ← HG4.out]; exact HT9.out), hid (by rw [List.drop_zero]; exact HG5.out), hid (by rw [List.drop_zero, ← HG4.out]; exact HG7.out)⟩
   case round =>
    obtain ⟨t, n', c', A', rfl, rfl, htn, hbw, hkw, htt, hfb, hln⟩ := hrel
    obtain ⟨w10, hw10⟩ : ∃ W : World, W = wr := ⟨_, rfl⟩
    rw [← hw10] at hbw hkw htt ⊢
    clear hw10
    have HB10 := hid hbw.out
    have HK10 := hid hkw.out
    have z0 := Blk.cell HK10.out
    rw [HEA.out] at z0
    have k2 := (HB10.out.cell (p := ⟨bb, off + i * 7 + 2, none⟩) HLB.out).trans HC2.out
    have k3 := (HB10.out.cell (p := ⟨bb, off + i * 7 + 3, none⟩) HLB.out).trans HC3.out
    have k4 := (HB10.out.cell (p := ⟨bb, off + i * 7 + 4, none⟩) HLB.out).trans HC4b.out
    have kc := (HB10.out.cell (p := ⟨bc, oc + j * 2, none⟩) HLC.out).trans HF0.out
    clear hbw hkw
    by_cases htl : t < u.np + m1
    rotate_left
    · have f1 : decide ((t : Int) < (u.np : Int) + (m1 : Int)) = false := decide_eq_false (by omega)
      have hdr : ls.drop t = [] := List.drop_eq_nil_of_le (by have := HLL.out; omega)
      rw [hdr] at htt
      have HTT : Hid (TermV w10 A' n' c' s) := hid (by simpa [bindL] using htt.out)
      have HSP := hid (fun m : Nat => spine_any (HTT.out.below (below_drewN (Below.refl _ _) m)))
      rw [HG8.out] at HSP
      clear htl hdr htt hfb hln
      go_upto_region 20 with fail
      go_quiet (fail)
      go_wp2_with fail
      refine (HSP.out _).mono ?_
      rintro en w11 ⟨hb11, Ah, nh, ch, Bs, ms, ds', xs11, rfl, hth, hos, hrs⟩
      simp only at hth hrs ⊢
      have hms : ms = u.np + u.ni := by have h5 := hrs.len; have h6 := hos.1; rw [HG9.out] at h5; omega
      have hnh := hth.len
      obtain rfl : nh = 1 := by simpa using hnh.symm
      have HB11 := hid ((below_drewN HB10.out nq).trans (hb11.mono HB10.out.size))
      have HK11 := hid (Blk.below (HK10.out.drewN nq) hb11 HK10.out.lt)
      obtain ⟨gh, oh, rfl, hgh, y0, y1, y2⟩ := TermV.at_ (hth.keep (R' := (· < w11.heap.size)) fun q hq => ⟨hq.2.1, fun _ => rfl⟩) (p := 0) Nat.one_pos
      rw [Nat.zero_mul, Nat.add_zero] at y0 y1 y2
      rw [show nth [(⟨9, (i : Int), 0⟩ : Nd)] 0 = ⟨9, (i : Int), 0⟩ from rfl] at y0 y1 y2
      simp only at y0 y1 y2
      have l2 := (HB11.out.cell (p := ⟨bb, off + i * 7 + 2, none⟩) HLB.out).trans HC2.out
      have l3 := (HB11.out.cell (p := ⟨bb, off + i * 7 + 3, none⟩) HLB.out).trans HC3.out
      have l0 := Blk.cell HK11.out
      rw [HEA.out] at l0
      subst hms
      have f2 : (((u.np + u.ni : Nat) : Int) != (u.np : Int) + (u.ni : Int)) = false := by simp
      clear hb11 hth hos hrs hnh z0 k2 k3 k4 kc
      go_upto_region 27 with fail
      go_quiet (fail)
      go_wp2_with fail
      go_roundw
      case rel => exact ⟨j + 1, by go_num, by omega, hid (below_drewN HB11.out _), hid (HK11.out.drewN _)⟩
      case measure => simp [intOf]; omega
    have f1 : decide ((t : Int) < (u.np : Int) + (m1 : Int)) = true := decide_eq_true (by omega)
    obtain ⟨d, r, hdr⟩ : ∃ d r, ls.drop t = d :: r := by
     cases h : ls.drop t with
     | nil => have := congrArg List.length h; rw [List.length_drop, HLL.out] at this; simp at this; omega
     | cons d r => exact ⟨d, r, rfl⟩
    have hdr2 : ls.drop (t + 1) = r := by rw [← List.drop_drop, hdr]; rfl
    rw [hdr] at htt hfb hln
    have HKD2 := hid (fun m : Nat => kids6_any (htt.out.below (below_drewN (Below.refl _ _) m)))
    rw [kids_tele hfb.out HG6.out hln.out] at HKD2
    have HFB : Hid (firstBad (ls.drop (t + 1)) = 0) := hid (by rw [hdr2]; exact (firstBad_cons hfb.out).2)
    have HLN : Hid ((bindL 4 (ls.drop (t + 1)) ++ s).length ≤ 4096) := hid (by have := hln.out; rw [bindL_cons] at this; simp only [List.cons_append, List.append_assoc, List.length_cons, List.length_append] at this; rw [hdr2, List.length_append]; omega)
    have HDR := hid hdr2
    clear hdr hdr2 htt hfb hln
    go_upto_region 20 with fail
    go_quiet (fail)
    go_wp2_with fail
    refine (HKD2.out _).mono ?_
    rintro en w11 ⟨hb11, A11, n11, c11, rfl, hr11⟩
    have hn11 := hr11.len
    obtain rfl : n11 = 2 := by simpa using hn11.symm
    have HB11 := hid ((below_drewN HB10.out nq).trans (hb11.mono HB10.out.size))
    have HK11 := hid (Blk.below (HK10.out.drewN nq) hb11 HK10.out.lt)
    obtain ⟨gk, ok, rfl, hgk, hck⟩ := hr11.mem (by decide)
    obtain ⟨Ar, nr, cr, y1, y2⟩ := hck 1 (by decide)
    have HTR : Hid (TermV w11 Ar nr cr (bindL 4 (ls.drop (t + 1)) ++ s)) := hid (by rw [HDR.out]; exact y2.keep fun q hq => ⟨hq.2, fun _ => rfl⟩)
    clear hb11 hr11 hn11 hck y2 z0 k2 k3 k4 kc
    go_wp2_with fail
    go_roundw
    case rel => exact ⟨t + 1, nr, cr, Ar, by go_num, rfl, by omega, HB11, HK11, HTR, HFB, HLN⟩
    case measure => simp [intOf]; omega
end Go.Proofs.Ytplecfbdchmogaa
