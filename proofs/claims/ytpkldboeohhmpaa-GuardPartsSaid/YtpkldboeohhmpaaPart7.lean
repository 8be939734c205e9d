/- GuardParts: the law, walked. -/
import Derived.Test.YtpkldboeohhmpaaShort2
import Derived.Test.YtpkldboeohhmpaaDeeps
import Derived.Test.YtpkldboeohhmpaaSized
import Derived.Test.YtpkldboeohhmpaaPartG
import Derived.Test.YtpkldboeohhmpaaErr18
namespace Go.Proofs.Ytpkldboeohhmpaa
open Go.RowKit

set_option linter.unusedSimpArgs false in
set_option linter.unusedVariables false in
set_option maxRecDepth 100000 in
set_option maxHeartbeats 8000000 in
theorem parts7_law {w : World} {v : BkVal} {b : Bk} (hb : BookV w v b) {A : Option Addr} {n c : Nat} {t : List Nd} (ht : TermV w A n c t) (free : Int) (hf0 : 0 ≤ free) (hf1 : free ≤ 255) :
    Calls Try.prog 7 #[.agg #[.int .i64 b.vars, .slice v.Ao v.no v.co, .slice v.Ae v.ne v.ce, .int .i64 b.nat, .slice v.Ap v.np v.cp], .slice A n c, .int .u8 free] w (BoolP true w) := by
  have HSZ := Lib.hid (fun (w' : World) (h : Below w.heap.size w w') => size_any (hb.below h) 4000 (by omega))
  have HCK := Lib.hid (fun (w' : World) (h : Below w.heap.size w w') => gcheck_any (hb.below h) free (ht.below h))
  have HFX := Lib.hid (fun (w' : World) (h : Below w.heap.size w w') => gfix_any (hb.below h) free (ht.below h))
  have HCK3 := Lib.hid (fun (w' : World) (h : Below w.heap.size w w') (fr : Int) (A' : Option Addr) (n' c' : Nat) (l : List Nd) (h2 : TermV w' A' n' c' l) => gcheck_any (hb.below h) fr h2)
  have HKD := Lib.hid (fun (w' : World) (h : Below w.heap.size w w') => kids4_any (ht.below h))
  have HBD := Lib.hid (fun (w' : World) (h : Below w.heap.size w w') => binders4_any (ht.below h))
  have HFT := Lib.hid (fun (h : chkGE b free t = 0 ∨ chkGE b free t = 18) => chk_fits h)
  have HT0 := Lib.hid (fun (w' : World) (h : Below w.heap.size w w') => ht.below h)
  have HTL := Lib.hid ht.len
  have HB0 := Lib.hid (below_alloc w (.cells #[.int .i64 b.vars, .slice v.Ao v.no v.co, .slice v.Ae v.ne v.ce, .int .i64 b.nat, .slice v.Ap v.np v.cp] 30))
  have HK0 := Lib.hid (Blk.new w 30 #[.int .i64 b.vars, .slice v.Ao v.no v.co, .slice v.Ae v.ne v.ce, .int .i64 b.nat, .slice v.Ap v.np v.cp])
  generalize sizeB 4000 b = sz at *
  obtain ⟨ce, hce⟩ : ∃ ce, ce = chkGE b free t := ⟨_, rfl⟩
  obtain ⟨fe, hfe⟩ : ∃ fe, fe = fixE b free t := ⟨_, rfl⟩
  have HCE := Lib.hid hce
  have HFE := Lib.hid hfe
  rw [← hce] at HCK HFT
  rw [← hfe] at HFX
  clear hce hfe
  obtain ⟨Ao, no, co, Ae, ne, ce', Ap, np, cp⟩ := v
  simp only at HSZ HCK HCK3 HFX HB0 HK0 ⊢
  clear hb ht
  obtain ⟨bv, hbv⟩ : ∃ bv, bv = b.vars := ⟨_, rfl⟩
  obtain ⟨bn, hbn⟩ : ∃ bn, bn = b.nat := ⟨_, rfl⟩
  rw [← hbv] at HSZ HCK HCK3 HFX HB0 HK0 ⊢
  rw [← hbn] at HSZ HCK HCK3 HFX HB0 HK0 ⊢
  clear hbv hbn
  go_enter Try.func7, Try.ntmps7
  go_wp2_with fail
  refine gawake_any.mono ?_
  rintro e w1 ⟨rfl, hw1⟩
  have HB1 := Lib.hid (HB0.out.trans (hw1.mono HB0.out.size))
  have HK1 := Lib.hid (Blk.below HK0.out hw1 (by simp))
  have zk1 := Blk.cell HK1.out
  clear hw1
  go_wp2_with fail
  refine (HSZ.out _ HB1.out).mono ?_
  rintro e w2 ⟨rfl, hw2⟩
  have HB2 := Lib.hid (HB1.out.trans (hw2.mono HB1.out.size))
  have HK2 := Lib.hid (Blk.below HK1.out hw2 HK1.out.lt)
  have zk2 := Blk.cell HK2.out
  clear hw2 zk1
  by_cases h1 : 4000 ≤ sz
  · have d1 : decide (sz ≥ 4000) = true := decide_eq_true h1
    clear h1
    go_wp2_with fail
    go_ret
    exact ⟨rfl, HB2.out⟩
  have d1 : decide (sz ≥ 4000) = false := decide_eq_false h1
  clear h1
  by_cases h2 : 4000 < n
  · have d2 : decide ((n : Int) > 4000) = true := decide_eq_true (by omega)
    clear h2
    go_wp2_with fail
    go_ret
    exact ⟨rfl, HB2.out⟩
  have hn4 : n ≤ 4096 := by omega
  have d2 : decide ((n : Int) > 4000) = false := decide_eq_false (by omega)
  clear h2
  go_wp2_with fail
  refine (HCK.out _ HB2.out).mono ?_
  rintro e w3 ⟨rfl, hw3⟩
  have HB3 := Lib.hid (HB2.out.trans (hw3.mono HB2.out.size))
  have HK3 := Lib.hid (Blk.below HK2.out hw3 HK2.out.lt)
  have zk3 := Blk.cell HK3.out
  clear hw3 zk2
  by_cases h3 : ce = 0 ∨ ce = 18
  case neg =>
    have d3 : (ce != 0) = true := by simp; omega
    have d4 : (ce != 18) = true := by simp; omega
    clear h3
    go_wp2_with fail
    go_ret
    exact ⟨rfl, HB3.out⟩
  have hfit := HFT.out h3
  obtain ⟨nd, ats, k, hT⟩ := rt_of (row_nodes (fits_row hfit).2.2).1
  have HT := Lib.hid hT
  have HFIT := Lib.hid hfit
  have htop : topOf t = (nd, k) := by
    unfold topOf
    rw [if_pos hT.shape, hT.pp]
  rw [htop] at HKD HBD
  obtain ⟨nn, hn0, hnop⟩ : ∃ nn, n = nn + 1 ∧ (nth t 0).op = nd.op := ⟨n - 1, by rw [← HTL.out, hT.eq]; simp, by rw [hT.eq]; rfl⟩
  obtain ⟨tb, toff, hAe, htb, g0, _, _⟩ := (HT0.out w (Below.refl _ _)).at_ (p := 0) (by omega)
  rw [hnop, Nat.zero_mul, Nat.add_zero] at g0
  have hpos : 0 < n := by omega
  have HK12 : RowKit.Hid (nd.op ≠ 12 ∨ nd.op = 12) := Lib.hid (by omega)
  have HPT := Lib.hid (part_told hfit hT)
  rw [← HCE.out, ← HFE.out] at HPT
  have HKC := Lib.hid (fun (i : Nat) (y : TT) (hy : (kidL k)[i]? = some y) => kid_chk hfit hT hy)
  have HAR := Lib.hid (fun (i : Nat) (hi : i < flen k) => arL_at nd.op nd.b k 0 i hi)
  have HRK := Lib.hid (rowsL_kid k)
  have HKLN := Lib.hid (kidL_len k)
  have HARB : RowKit.Hid (∀ i : Nat, 0 ≤ aroundI nd.op nd.b (i : Int) ∧ aroundI nd.op nd.b (i : Int) ≤ 4) := Lib.hid (fun i => aroundI_bd hT.wf.1 _)
  subst hAe
  clear hfit hT htop hn0 hnop
  have HALN := Lib.hid (arL_len nd.op nd.b 0 k)
  have HRLN := Lib.hid (rowsL_len k)
  generalize arL nd.op nd.b 0 k = al at *
  have hm4 : flen k ≤ 4096 := by
    have e1 := flen_le k
    have e2 : t.length = 1 + ats.length + (row k).length := by rw [HT.out.eq]; simp; omega
    have e3 := HTL.out
    omega
  obtain ⟨m, hm⟩ : ∃ m, m = flen k := ⟨_, rfl⟩
  rw [← hm] at HAR HKLN HALN HRLN hm4
  clear hm
  rcases h3 with rfl | rfl
  · go_wp2_with fail
    refine (HKD.out _ HB3.out).mono ?_
    rintro e w4 ⟨hw4, Ak, nk, ck, rfl, hrows⟩
    have HB4 := Lib.hid (HB3.out.trans (hw4.mono HB3.out.size))
    have HK4 := Lib.hid (Blk.below HK3.out hw4 HK3.out.lt)
    have zk4 := Blk.cell HK4.out
    have HR4 := Lib.hid hrows
    obtain rfl : nk = m := by rw [← hrows.len]; exact HRLN.out
    clear hw4 zk3 hrows
    go_wp2_with fail
    refine (HBD.out _ HB4.out).mono ?_
    rintro e w5 ⟨hw5, Aa, na, ca, rfl, hints⟩
    have HB5 := Lib.hid (HB4.out.trans (hw5.mono HB4.out.size))
    have HK5 := Lib.hid (Blk.below HK4.out hw5 HK4.out.lt)
    have HR5 := Lib.hid (HR4.out.keep (R' := (· < w5.heap.size)) (w' := w5) (fun b hb' => ⟨Nat.lt_of_lt_of_le hb' hw5.size, fun o => hw5.cell (p := ⟨b, o, none⟩) hb'⟩))
    have HI5 := Lib.hid hints
    obtain rfl : na = nk := by rw [← hints.len]; exact HALN.out
    clear hw5 zk4 hints
    go_wp2_with fail
    go_loopw [11, 12] (fun okv iv wr => ∃ (i : Nat) (bb : Bool), okv = .bool bb ∧ iv = .int .i64 (i : Int) ∧ i ≤ na ∧ RowKit.Hid (bb = ((kidL k).take i).all (fixT (argsB b))) ∧ RowKit.Hid (Blk wr w.heap.size 30 #[.int .i64 bv, .slice Ao no co, .slice Ae ne ce', .int .i64 bn, .slice Ap np cp]) ∧ RowKit.Hid (Below w5.heap.size w5 wr) ∧ RowKit.Hid (Below w.heap.size w wr)) (fun _ i _ => na - (intOf i).toNat)
    case atStart => exact ⟨0, true, rfl, rfl, by omega, Lib.hid rfl, HK5, Lib.hid (Below.refl _ _), HB5⟩
    case round =>
      obtain ⟨i, bb, rfl, rfl, hi, hbb, hbk, hb5, hbw⟩ := hrel
      by_cases hlt : i < na
      · have hib : decide ((i : Int) < (na : Int)) = true := decide_eq_true (by omega)
        have hib2 : decide (i < na) = true := decide_eq_true hlt
        obtain ⟨y, hy⟩ : ∃ y, (kidL k)[i]? = some y := ⟨_, List.getElem?_eq_getElem (by rw [HKLN.out]; exact hlt)⟩
        obtain ⟨hkc, hyl⟩ := HKC.out i y hy
        obtain ⟨ba, oa, rfl, hba, hia⟩ := HI5.out.at_ hlt
        obtain ⟨bk, ok, rfl, hbkl, hik⟩ := HR5.out.mem (by omega)
        obtain ⟨A', n', c', hkcell, hkt⟩ := hik i hlt
        have har := HAR.out i hlt
        obtain ⟨hb1, hb2⟩ := HARB.out i
        obtain ⟨ar, hare⟩ : ∃ ar, ar = aroundI nd.op nd.b (i : Int) := ⟨_, rfl⟩
        rw [Nat.zero_add] at har
        rw [har] at hia
        rw [← hare] at hia hkc hb1 hb2
        have hrow : (rowsL k).getD i [] = rowT y := by
          rw [HRK.out, List.getD_eq_getElem?_getD, List.getElem?_map, hy]; rfl
        rw [hrow] at hkt
        have htk : (kidL k).take (i + 1) = (kidL k).take i ++ [y] := by
          rw [List.take_add_one, hy]; rfl
        have hna : ((kidL k).take (i + 1)).all (fixT (argsB b)) = (bb && fixT (argsB b) y) := by
          rw [htk, List.all_append, ← hbb.out]; simp
        have HBd := Lib.hid (below_drewN hbw.out 1)
        have HB5d := Lib.hid (below_drewN hb5.out 1)
        have HKd := Lib.hid (hbk.out.drewN 1)
        have zcd := Blk.cell HKd.out
        have zrd := (HB5d.out.cell (p := ⟨ba, oa + i, none⟩) hba).trans hia
        have zsd := (HB5d.out.cell (p := ⟨bk, ok + i, none⟩) hbkl).trans hkcell
        have hbad := Nat.lt_of_lt_of_le hba HB5d.out.size
        have hbkd := Nat.lt_of_lt_of_le hbkl HB5d.out.size
        have hwrap : IntKind.i64.wrap (free + ar) = free + ar := by rw [IntKind.wrap_i64]; omega
        have HC := Lib.hid (HCK3.out _ HBd.out (free + ar) A' n' c' (rowT y) (TermV.below hkt HB5d.out))
        rw [hkc] at HC
        generalize fixT (argsB b) y = fy at *
        cases bb with
        | true =>
          rw [Bool.true_and] at hna
          have HNA := Lib.hid hna
          clear hkc hia hkcell hkt har hare hrow htk hna hy hyl
          cases fy with
          | true =>
            rw [if_pos rfl] at HC
            go_wp2_with fail
            refine wp_region_held_drew (S := (fun w' => w'.cell? ⟨w.heap.size, 0, none⟩ = some (.int .i64 bv) ∧ w'.cell? ⟨w.heap.size, 1, none⟩ = some (.slice Ao no co) ∧ w'.cell? ⟨w.heap.size, 2, none⟩ = some (.slice Ae ne ce') ∧ w'.cell? ⟨w.heap.size, 3, none⟩ = some (.int .i64 bn) ∧ w'.cell? ⟨w.heap.size, 4, none⟩ = some (.slice Ap np cp) ∧ w'.cell? ⟨ba, oa + i, none⟩ = some (.int .i64 ar) ∧ w'.cell? ⟨bk, ok + i, none⟩ = some (.slice A' n' c'))) (by kernel_rfl) ?_ (fun hHeld => ?_)
            · (try dsimp only); exact ⟨zcd 0, zcd 1, zcd 2, zcd 3, zcd 4, zrd, zsd⟩
            refine tk 0 ?_ (fun w hSw => ?_) hHeld ?_; rotate_left
            · (try dsimp only at hSw); go_simp; try with_reducible rfl
            (try simp only [puts7])
            refine tk 1 ?_ (fun w hSw => ?_) hHeld ?_; rotate_left
            · (try dsimp only at hSw); go_simp; try with_reducible rfl
            (try simp only [puts7])
            refine tk 2 ?_ (fun w hSw => ?_) hHeld ?_; rotate_left
            · (try dsimp only at hSw); go_simp; try with_reducible rfl
            (try simp only [puts7])
            refine tk 3 ?_ (fun w hSw => ?_) hHeld ?_; rotate_left
            · (try dsimp only at hSw); go_simp; try with_reducible rfl
            (try simp only [puts7])
            refine tk 4 ?_ (fun w hSw => ?_) hHeld ?_; rotate_left
            · (try dsimp only at hSw); go_simp; try with_reducible rfl
            (try simp only [puts7])
            refine tk 5 ?_ (fun w hSw => ?_) hHeld ?_; rotate_left
            · (try dsimp only at hSw); go_simp; try with_reducible rfl
            (try simp only [puts7])
            refine tk 6 ?_ (fun w hSw => ?_) hHeld ?_; rotate_left
            · (try dsimp only at hSw); go_simp; try with_reducible rfl
            (try simp only [puts7])
            refine tk 7 ?_ (fun w hSw => ?_) hHeld ?_; rotate_left
            · (try dsimp only at hSw); go_simp; try with_reducible rfl
            (try simp only [puts7])
            refine tk 8 ?_ (fun w hSw => ?_) hHeld ?_; rotate_left
            · (try dsimp only at hSw); go_simp; try with_reducible rfl
            (try simp only [puts7])
            refine tk 9 ?_ (fun w hSw => ?_) hHeld ?_; rotate_left
            · (try dsimp only at hSw); go_simp; try with_reducible rfl
            (try simp only [puts7])
            refine tk 10 ?_ (fun w hSw => ?_) hHeld ?_; rotate_left
            · (try dsimp only at hSw); go_simp; try with_reducible rfl
            (try simp only [puts7])
            refine tk 11 ?_ (fun w hSw => ?_) hHeld ?_; rotate_left
            · (try dsimp only at hSw); go_simp; try with_reducible rfl
            (try simp only [puts7])
            refine tk 12 ?_ (fun w hSw => ?_) hHeld ?_; rotate_left
            · (try dsimp only at hSw); go_simp; try with_reducible rfl
            (try simp only [puts7])
            refine wpAnyH_ready (rs := [13]) (by kernel_rfl) (by simp) ?_
            refine AllReadyH.cons rfl (fun K hK => ?_) AllReadyH.nil
            go_simp
            go_at_call 15
            refine HC.out.mono ?_
            rintro e w7 ⟨rfl, hw7⟩
            have HB7 := Lib.hid (HBd.out.trans (hw7.mono HBd.out.size))
            have HB57 := Lib.hid (HB5d.out.trans (hw7.mono HB5d.out.size))
            have HK7 := Lib.hid (Blk.below HKd.out hw7 HKd.out.lt)
            have zc7 := Blk.cell HK7.out
            have zr7 := (hw7.cell (p := ⟨ba, oa + i, none⟩) hbad).trans zrd
            have zs7 := (hw7.cell (p := ⟨bk, ok + i, none⟩) hbkd).trans zsd
            clear hw7
            go_wp2_with fail
            refine hK.out _ _ ?_ (fun hHeld => ?_)
            · (try dsimp only); exact ⟨zc7 0, zc7 1, zc7 2, zc7 3, zc7 4, zr7, zs7⟩
            clear hK K
            (try simp only [puts7])
            refine tk 14 ?_ (fun w hSw => ?_) hHeld ?_; rotate_left
            · (try dsimp only at hSw); go_simp; try with_reducible rfl
            (try simp only [puts7])
            refine tk 15 ?_ (fun w hSw => ?_) hHeld ?_; rotate_left
            · (try dsimp only at hSw); go_simp; try with_reducible rfl
            (try simp only [puts7])
            refine tk 16 ?_ (fun w hSw => ?_) hHeld ?_; rotate_left
            · (try dsimp only at hSw); go_simp; try with_reducible rfl
            (try simp only [puts7])
            refine wpAnyH_done (by kernel_rfl) ?_ _
            go_wp2_with fail
            go_roundw
            case rel => exact ⟨i + 1, true, rfl, by go_num, by omega, Lib.hid HNA.out.symm, HK7, HB57, HB7⟩
            case measure => simp [intOf]; omega
          | false =>
            rw [if_neg (by simp)] at HC
            go_wp2_with fail
            refine wp_region_held_drew (S := (fun w' => w'.cell? ⟨w.heap.size, 0, none⟩ = some (.int .i64 bv) ∧ w'.cell? ⟨w.heap.size, 1, none⟩ = some (.slice Ao no co) ∧ w'.cell? ⟨w.heap.size, 2, none⟩ = some (.slice Ae ne ce') ∧ w'.cell? ⟨w.heap.size, 3, none⟩ = some (.int .i64 bn) ∧ w'.cell? ⟨w.heap.size, 4, none⟩ = some (.slice Ap np cp) ∧ w'.cell? ⟨ba, oa + i, none⟩ = some (.int .i64 ar) ∧ w'.cell? ⟨bk, ok + i, none⟩ = some (.slice A' n' c'))) (by kernel_rfl) ?_ (fun hHeld => ?_)
            · (try dsimp only); exact ⟨zcd 0, zcd 1, zcd 2, zcd 3, zcd 4, zrd, zsd⟩
            refine tk 0 ?_ (fun w hSw => ?_) hHeld ?_; rotate_left
            · (try dsimp only at hSw); go_simp; try with_reducible rfl
            (try simp only [puts7])
            refine tk 1 ?_ (fun w hSw => ?_) hHeld ?_; rotate_left
            · (try dsimp only at hSw); go_simp; try with_reducible rfl
            (try simp only [puts7])
            refine tk 2 ?_ (fun w hSw => ?_) hHeld ?_; rotate_left
            · (try dsimp only at hSw); go_simp; try with_reducible rfl
            (try simp only [puts7])
            refine tk 3 ?_ (fun w hSw => ?_) hHeld ?_; rotate_left
            · (try dsimp only at hSw); go_simp; try with_reducible rfl
            (try simp only [puts7])
            refine tk 4 ?_ (fun w hSw => ?_) hHeld ?_; rotate_left
            · (try dsimp only at hSw); go_simp; try with_reducible rfl
            (try simp only [puts7])
            refine tk 5 ?_ (fun w hSw => ?_) hHeld ?_; rotate_left
            · (try dsimp only at hSw); go_simp; try with_reducible rfl
            (try simp only [puts7])
            refine tk 6 ?_ (fun w hSw => ?_) hHeld ?_; rotate_left
            · (try dsimp only at hSw); go_simp; try with_reducible rfl
            (try simp only [puts7])
            refine tk 7 ?_ (fun w hSw => ?_) hHeld ?_; rotate_left
            · (try dsimp only at hSw); go_simp; try with_reducible rfl
            (try simp only [puts7])
            refine tk 8 ?_ (fun w hSw => ?_) hHeld ?_; rotate_left
            · (try dsimp only at hSw); go_simp; try with_reducible rfl
            (try simp only [puts7])
            refine tk 9 ?_ (fun w hSw => ?_) hHeld ?_; rotate_left
            · (try dsimp only at hSw); go_simp; try with_reducible rfl
            (try simp only [puts7])
            refine tk 10 ?_ (fun w hSw => ?_) hHeld ?_; rotate_left
            · (try dsimp only at hSw); go_simp; try with_reducible rfl
            (try simp only [puts7])
            refine tk 11 ?_ (fun w hSw => ?_) hHeld ?_; rotate_left
            · (try dsimp only at hSw); go_simp; try with_reducible rfl
            (try simp only [puts7])
            refine tk 12 ?_ (fun w hSw => ?_) hHeld ?_; rotate_left
            · (try dsimp only at hSw); go_simp; try with_reducible rfl
            (try simp only [puts7])
            refine wpAnyH_ready (rs := [13]) (by kernel_rfl) (by simp) ?_
            refine AllReadyH.cons rfl (fun K hK => ?_) AllReadyH.nil
            go_simp
            go_at_call 15
            refine HC.out.mono ?_
            rintro e w7 ⟨rfl, hw7⟩
            have HB7 := Lib.hid (HBd.out.trans (hw7.mono HBd.out.size))
            have HB57 := Lib.hid (HB5d.out.trans (hw7.mono HB5d.out.size))
            have HK7 := Lib.hid (Blk.below HKd.out hw7 HKd.out.lt)
            have zc7 := Blk.cell HK7.out
            have zr7 := (hw7.cell (p := ⟨ba, oa + i, none⟩) hbad).trans zrd
            have zs7 := (hw7.cell (p := ⟨bk, ok + i, none⟩) hbkd).trans zsd
            clear hw7
            go_wp2_with fail
            refine hK.out _ _ ?_ (fun hHeld => ?_)
            · (try dsimp only); exact ⟨zc7 0, zc7 1, zc7 2, zc7 3, zc7 4, zr7, zs7⟩
            clear hK K
            (try simp only [puts7])
            refine tk 14 ?_ (fun w hSw => ?_) hHeld ?_; rotate_left
            · (try dsimp only at hSw); go_simp; try with_reducible rfl
            (try simp only [puts7])
            refine tk 15 ?_ (fun w hSw => ?_) hHeld ?_; rotate_left
            · (try dsimp only at hSw); go_simp; try with_reducible rfl
            (try simp only [puts7])
            refine tk 16 ?_ (fun w hSw => ?_) hHeld ?_; rotate_left
            · (try dsimp only at hSw); go_simp; try with_reducible rfl
            (try simp only [puts7])
            refine wpAnyH_done (by kernel_rfl) ?_ _
            go_wp2_with fail
            go_roundw
            case rel => exact ⟨i + 1, false, rfl, by go_num, by omega, Lib.hid HNA.out.symm, HK7, HB57, HB7⟩
            case measure => simp [intOf]; omega
        | false =>
          rw [Bool.false_and] at hna
          have HNA := Lib.hid hna
          clear hkc hia hkcell hkt har hare hrow htk hna hy hyl HC zcd zrd zsd
          go_wp2_with fail
          refine wp_region_held_drew (S := (fun _ => True)) (by kernel_rfl) ?_ (fun hHeld => ?_)
          · exact trivial
          refine tk 0 ?_ (fun w hSw => ?_) hHeld ?_; rotate_left
          · (try dsimp only at hSw); go_simp; try with_reducible rfl
          (try simp only [puts7])
          refine tk 1 ?_ (fun w hSw => ?_) hHeld ?_; rotate_left
          · (try dsimp only at hSw); go_simp; try with_reducible rfl
          (try simp only [puts7])
          refine dk 2 hHeld ?_
          (try simp only [puts7])
          refine dk 3 hHeld ?_
          (try simp only [puts7])
          refine dk 4 hHeld ?_
          (try simp only [puts7])
          refine dk 5 hHeld ?_
          (try simp only [puts7])
          refine dk 6 hHeld ?_
          (try simp only [puts7])
          refine dk 7 hHeld ?_
          (try simp only [puts7])
          refine dk 8 hHeld ?_
          (try simp only [puts7])
          refine dk 9 hHeld ?_
          (try simp only [puts7])
          refine dk 10 hHeld ?_
          (try simp only [puts7])
          refine dk 11 hHeld ?_
          (try simp only [puts7])
          refine dk 12 hHeld ?_
          (try simp only [puts7])
          refine dk 13 hHeld ?_
          (try simp only [puts7])
          refine dk 14 hHeld ?_
          (try simp only [puts7])
          refine tk 15 ?_ (fun w hSw => ?_) hHeld ?_; rotate_left
          · (try dsimp only at hSw); go_simp; try with_reducible rfl
          (try simp only [puts7])
          refine tk 16 ?_ (fun w hSw => ?_) hHeld ?_; rotate_left
          · (try dsimp only at hSw); go_simp; try with_reducible rfl
          (try simp only [puts7])
          refine wpAnyH_done (by kernel_rfl) ?_ _
          go_wp2_with fail
          go_roundw
          case rel => exact ⟨i + 1, false, rfl, by go_num, by omega, Lib.hid HNA.out.symm, HKd, HB5d, HBd⟩
          case measure => simp [intOf]; omega
      · have hib : decide ((i : Int) < (na : Int)) = false := decide_eq_false (by omega)
        have hib2 : decide (i < na) = false := decide_eq_false hlt
        have hall : bb = (kidL k).all (fixT (argsB b)) := by
          rw [hbb.out, List.take_of_length_le (by rw [HKLN.out]; omega)]
        have zkr := Blk.cell hbk.out
        have g0r := (hbw.out.cell (p := ⟨tb, toff, none⟩) htb).trans g0
        rw [← hall] at HPT
        clear hbb hall
        rcases HK12.out with h12 | h12
        · obtain ⟨q1, q2⟩ := HPT.out.1 h12
          have d12 : (nd.op != 12) = true := by simpa using h12
          subst q1
          cases bb with
          | true =>
            clear q2 h12 HK12
            go_wp2_with fail
            refine (HFX.out _ hbw.out).mono ?_
            rintro e w8 ⟨rfl, hw8⟩
            have HB8 := Lib.hid (hbw.out.trans (hw8.mono hbw.out.size))
            have g8 := (HB8.out.cell (p := ⟨tb, toff, none⟩) htb).trans g0
            clear hw8 zkr g0r HPT
            go_wp2_with fail
            go_ret
            exact ⟨rfl, HB8.out⟩
          | false =>
            simp at q2
        · obtain ⟨g, q1, q2⟩ := HPT.out.2 h12
          have d12 : (nd.op != 12) = false := by simpa using h12
          cases g with
          | true =>
            rw [if_pos rfl] at q1
            cases bb with
            | true =>
              subst q1
              clear q2 h12 HK12
              go_wp2_with fail
              refine (HFX.out _ hbw.out).mono ?_
              rintro e w8 ⟨rfl, hw8⟩
              have HB8 := Lib.hid (hbw.out.trans (hw8.mono hbw.out.size))
              have g8 := (HB8.out.cell (p := ⟨tb, toff, none⟩) htb).trans g0
              clear hw8 zkr g0r HPT
              go_wp2_with fail
              go_ret
              exact ⟨rfl, HB8.out⟩
            | false =>
              simp at q2
          | false =>
            rw [if_neg (by simp)] at q1
            cases bb with
            | true =>
              simp at q2
            | false =>
              simp at q2
  · go_wp2_with fail
    refine (HKD.out _ HB3.out).mono ?_
    rintro e w4 ⟨hw4, Ak, nk, ck, rfl, hrows⟩
    have HB4 := Lib.hid (HB3.out.trans (hw4.mono HB3.out.size))
    have HK4 := Lib.hid (Blk.below HK3.out hw4 HK3.out.lt)
    have zk4 := Blk.cell HK4.out
    have HR4 := Lib.hid hrows
    obtain rfl : nk = m := by rw [← hrows.len]; exact HRLN.out
    clear hw4 zk3 hrows
    go_wp2_with fail
    refine (HBD.out _ HB4.out).mono ?_
    rintro e w5 ⟨hw5, Aa, na, ca, rfl, hints⟩
    have HB5 := Lib.hid (HB4.out.trans (hw5.mono HB4.out.size))
    have HK5 := Lib.hid (Blk.below HK4.out hw5 HK4.out.lt)
    have HR5 := Lib.hid (HR4.out.keep (R' := (· < w5.heap.size)) (w' := w5) (fun b hb' => ⟨Nat.lt_of_lt_of_le hb' hw5.size, fun o => hw5.cell (p := ⟨b, o, none⟩) hb'⟩))
    have HI5 := Lib.hid hints
    obtain rfl : na = nk := by rw [← hints.len]; exact HALN.out
    clear hw5 zk4 hints
    go_wp2_with fail
    go_loopw [11, 12] (fun okv iv wr => ∃ (i : Nat) (bb : Bool), okv = .bool bb ∧ iv = .int .i64 (i : Int) ∧ i ≤ na ∧ RowKit.Hid (bb = ((kidL k).take i).all (fixT (argsB b))) ∧ RowKit.Hid (Blk wr w.heap.size 30 #[.int .i64 bv, .slice Ao no co, .slice Ae ne ce', .int .i64 bn, .slice Ap np cp]) ∧ RowKit.Hid (Below w5.heap.size w5 wr) ∧ RowKit.Hid (Below w.heap.size w wr)) (fun _ i _ => na - (intOf i).toNat)
    case atStart => exact ⟨0, true, rfl, rfl, by omega, Lib.hid rfl, HK5, Lib.hid (Below.refl _ _), HB5⟩
    case round =>
      obtain ⟨i, bb, rfl, rfl, hi, hbb, hbk, hb5, hbw⟩ := hrel
      by_cases hlt : i < na
      · have hib : decide ((i : Int) < (na : Int)) = true := decide_eq_true (by omega)
        have hib2 : decide (i < na) = true := decide_eq_true hlt
        obtain ⟨y, hy⟩ : ∃ y, (kidL k)[i]? = some y := ⟨_, List.getElem?_eq_getElem (by rw [HKLN.out]; exact hlt)⟩
        obtain ⟨hkc, hyl⟩ := HKC.out i y hy
        obtain ⟨ba, oa, rfl, hba, hia⟩ := HI5.out.at_ hlt
        obtain ⟨bk, ok, rfl, hbkl, hik⟩ := HR5.out.mem (by omega)
        obtain ⟨A', n', c', hkcell, hkt⟩ := hik i hlt
        have har := HAR.out i hlt
        obtain ⟨hb1, hb2⟩ := HARB.out i
        obtain ⟨ar, hare⟩ : ∃ ar, ar = aroundI nd.op nd.b (i : Int) := ⟨_, rfl⟩
        rw [Nat.zero_add] at har
        rw [har] at hia
        rw [← hare] at hia hkc hb1 hb2
        have hrow : (rowsL k).getD i [] = rowT y := by
          rw [HRK.out, List.getD_eq_getElem?_getD, List.getElem?_map, hy]; rfl
        rw [hrow] at hkt
        have htk : (kidL k).take (i + 1) = (kidL k).take i ++ [y] := by
          rw [List.take_add_one, hy]; rfl
        have hna : ((kidL k).take (i + 1)).all (fixT (argsB b)) = (bb && fixT (argsB b) y) := by
          rw [htk, List.all_append, ← hbb.out]; simp
        have HBd := Lib.hid (below_drewN hbw.out 1)
        have HB5d := Lib.hid (below_drewN hb5.out 1)
        have HKd := Lib.hid (hbk.out.drewN 1)
        have zcd := Blk.cell HKd.out
        have zrd := (HB5d.out.cell (p := ⟨ba, oa + i, none⟩) hba).trans hia
        have zsd := (HB5d.out.cell (p := ⟨bk, ok + i, none⟩) hbkl).trans hkcell
        have hbad := Nat.lt_of_lt_of_le hba HB5d.out.size
        have hbkd := Nat.lt_of_lt_of_le hbkl HB5d.out.size
        have hwrap : IntKind.i64.wrap (free + ar) = free + ar := by rw [IntKind.wrap_i64]; omega
        have HC := Lib.hid (HCK3.out _ HBd.out (free + ar) A' n' c' (rowT y) (TermV.below hkt HB5d.out))
        rw [hkc] at HC
        generalize fixT (argsB b) y = fy at *
        cases bb with
        | true =>
          rw [Bool.true_and] at hna
          have HNA := Lib.hid hna
          clear hkc hia hkcell hkt har hare hrow htk hna hy hyl
          cases fy with
          | true =>
            rw [if_pos rfl] at HC
            go_wp2_with fail
            refine wp_region_held_drew (S := (fun w' => w'.cell? ⟨w.heap.size, 0, none⟩ = some (.int .i64 bv) ∧ w'.cell? ⟨w.heap.size, 1, none⟩ = some (.slice Ao no co) ∧ w'.cell? ⟨w.heap.size, 2, none⟩ = some (.slice Ae ne ce') ∧ w'.cell? ⟨w.heap.size, 3, none⟩ = some (.int .i64 bn) ∧ w'.cell? ⟨w.heap.size, 4, none⟩ = some (.slice Ap np cp) ∧ w'.cell? ⟨ba, oa + i, none⟩ = some (.int .i64 ar) ∧ w'.cell? ⟨bk, ok + i, none⟩ = some (.slice A' n' c'))) (by kernel_rfl) ?_ (fun hHeld => ?_)
            · (try dsimp only); exact ⟨zcd 0, zcd 1, zcd 2, zcd 3, zcd 4, zrd, zsd⟩
            refine tk 0 ?_ (fun w hSw => ?_) hHeld ?_; rotate_left
            · (try dsimp only at hSw); go_simp; try with_reducible rfl
            (try simp only [puts7])
            refine tk 1 ?_ (fun w hSw => ?_) hHeld ?_; rotate_left
            · (try dsimp only at hSw); go_simp; try with_reducible rfl
            (try simp only [puts7])
            refine tk 2 ?_ (fun w hSw => ?_) hHeld ?_; rotate_left
            · (try dsimp only at hSw); go_simp; try with_reducible rfl
            (try simp only [puts7])
            refine tk 3 ?_ (fun w hSw => ?_) hHeld ?_; rotate_left
            · (try dsimp only at hSw); go_simp; try with_reducible rfl
            (try simp only [puts7])
            refine tk 4 ?_ (fun w hSw => ?_) hHeld ?_; rotate_left
            · (try dsimp only at hSw); go_simp; try with_reducible rfl
            (try simp only [puts7])
            refine tk 5 ?_ (fun w hSw => ?_) hHeld ?_; rotate_left
            · (try dsimp only at hSw); go_simp; try with_reducible rfl
            (try simp only [puts7])
            refine tk 6 ?_ (fun w hSw => ?_) hHeld ?_; rotate_left
            · (try dsimp only at hSw); go_simp; try with_reducible rfl
            (try simp only [puts7])
            refine tk 7 ?_ (fun w hSw => ?_) hHeld ?_; rotate_left
            · (try dsimp only at hSw); go_simp; try with_reducible rfl
            (try simp only [puts7])
            refine tk 8 ?_ (fun w hSw => ?_) hHeld ?_; rotate_left
            · (try dsimp only at hSw); go_simp; try with_reducible rfl
            (try simp only [puts7])
            refine tk 9 ?_ (fun w hSw => ?_) hHeld ?_; rotate_left
            · (try dsimp only at hSw); go_simp; try with_reducible rfl
            (try simp only [puts7])
            refine tk 10 ?_ (fun w hSw => ?_) hHeld ?_; rotate_left
            · (try dsimp only at hSw); go_simp; try with_reducible rfl
            (try simp only [puts7])
            refine tk 11 ?_ (fun w hSw => ?_) hHeld ?_; rotate_left
            · (try dsimp only at hSw); go_simp; try with_reducible rfl
            (try simp only [puts7])
            refine tk 12 ?_ (fun w hSw => ?_) hHeld ?_; rotate_left
            · (try dsimp only at hSw); go_simp; try with_reducible rfl
            (try simp only [puts7])
            refine wpAnyH_ready (rs := [13]) (by kernel_rfl) (by simp) ?_
            refine AllReadyH.cons rfl (fun K hK => ?_) AllReadyH.nil
            go_simp
            go_at_call 15
            refine HC.out.mono ?_
            rintro e w7 ⟨rfl, hw7⟩
            have HB7 := Lib.hid (HBd.out.trans (hw7.mono HBd.out.size))
            have HB57 := Lib.hid (HB5d.out.trans (hw7.mono HB5d.out.size))
            have HK7 := Lib.hid (Blk.below HKd.out hw7 HKd.out.lt)
            have zc7 := Blk.cell HK7.out
            have zr7 := (hw7.cell (p := ⟨ba, oa + i, none⟩) hbad).trans zrd
            have zs7 := (hw7.cell (p := ⟨bk, ok + i, none⟩) hbkd).trans zsd
            clear hw7
            go_wp2_with fail
            refine hK.out _ _ ?_ (fun hHeld => ?_)
            · (try dsimp only); exact ⟨zc7 0, zc7 1, zc7 2, zc7 3, zc7 4, zr7, zs7⟩
            clear hK K
            (try simp only [puts7])
            refine tk 14 ?_ (fun w hSw => ?_) hHeld ?_; rotate_left
            · (try dsimp only at hSw); go_simp; try with_reducible rfl
            (try simp only [puts7])
            refine tk 15 ?_ (fun w hSw => ?_) hHeld ?_; rotate_left
            · (try dsimp only at hSw); go_simp; try with_reducible rfl
            (try simp only [puts7])
            refine tk 16 ?_ (fun w hSw => ?_) hHeld ?_; rotate_left
            · (try dsimp only at hSw); go_simp; try with_reducible rfl
            (try simp only [puts7])
            refine wpAnyH_done (by kernel_rfl) ?_ _
            go_wp2_with fail
            go_roundw
            case rel => exact ⟨i + 1, true, rfl, by go_num, by omega, Lib.hid HNA.out.symm, HK7, HB57, HB7⟩
            case measure => simp [intOf]; omega
          | false =>
            rw [if_neg (by simp)] at HC
            go_wp2_with fail
            refine wp_region_held_drew (S := (fun w' => w'.cell? ⟨w.heap.size, 0, none⟩ = some (.int .i64 bv) ∧ w'.cell? ⟨w.heap.size, 1, none⟩ = some (.slice Ao no co) ∧ w'.cell? ⟨w.heap.size, 2, none⟩ = some (.slice Ae ne ce') ∧ w'.cell? ⟨w.heap.size, 3, none⟩ = some (.int .i64 bn) ∧ w'.cell? ⟨w.heap.size, 4, none⟩ = some (.slice Ap np cp) ∧ w'.cell? ⟨ba, oa + i, none⟩ = some (.int .i64 ar) ∧ w'.cell? ⟨bk, ok + i, none⟩ = some (.slice A' n' c'))) (by kernel_rfl) ?_ (fun hHeld => ?_)
            · (try dsimp only); exact ⟨zcd 0, zcd 1, zcd 2, zcd 3, zcd 4, zrd, zsd⟩
            refine tk 0 ?_ (fun w hSw => ?_) hHeld ?_; rotate_left
            · (try dsimp only at hSw); go_simp; try with_reducible rfl
            (try simp only [puts7])
            refine tk 1 ?_ (fun w hSw => ?_) hHeld ?_; rotate_left
            · (try dsimp only at hSw); go_simp; try with_reducible rfl
            (try simp only [puts7])
            refine tk 2 ?_ (fun w hSw => ?_) hHeld ?_; rotate_left
            · (try dsimp only at hSw); go_simp; try with_reducible rfl
            (try simp only [puts7])
            refine tk 3 ?_ (fun w hSw => ?_) hHeld ?_; rotate_left
            · (try dsimp only at hSw); go_simp; try with_reducible rfl
            (try simp only [puts7])
            refine tk 4 ?_ (fun w hSw => ?_) hHeld ?_; rotate_left
            · (try dsimp only at hSw); go_simp; try with_reducible rfl
            (try simp only [puts7])
            refine tk 5 ?_ (fun w hSw => ?_) hHeld ?_; rotate_left
            · (try dsimp only at hSw); go_simp; try with_reducible rfl
            (try simp only [puts7])
            refine tk 6 ?_ (fun w hSw => ?_) hHeld ?_; rotate_left
            · (try dsimp only at hSw); go_simp; try with_reducible rfl
            (try simp only [puts7])
            refine tk 7 ?_ (fun w hSw => ?_) hHeld ?_; rotate_left
            · (try dsimp only at hSw); go_simp; try with_reducible rfl
            (try simp only [puts7])
            refine tk 8 ?_ (fun w hSw => ?_) hHeld ?_; rotate_left
            · (try dsimp only at hSw); go_simp; try with_reducible rfl
            (try simp only [puts7])
            refine tk 9 ?_ (fun w hSw => ?_) hHeld ?_; rotate_left
            · (try dsimp only at hSw); go_simp; try with_reducible rfl
            (try simp only [puts7])
            refine tk 10 ?_ (fun w hSw => ?_) hHeld ?_; rotate_left
            · (try dsimp only at hSw); go_simp; try with_reducible rfl
            (try simp only [puts7])
            refine tk 11 ?_ (fun w hSw => ?_) hHeld ?_; rotate_left
            · (try dsimp only at hSw); go_simp; try with_reducible rfl
            (try simp only [puts7])
            refine tk 12 ?_ (fun w hSw => ?_) hHeld ?_; rotate_left
            · (try dsimp only at hSw); go_simp; try with_reducible rfl
            (try simp only [puts7])
            refine wpAnyH_ready (rs := [13]) (by kernel_rfl) (by simp) ?_
            refine AllReadyH.cons rfl (fun K hK => ?_) AllReadyH.nil
            go_simp
            go_at_call 15
            refine HC.out.mono ?_
            rintro e w7 ⟨rfl, hw7⟩
            have HB7 := Lib.hid (HBd.out.trans (hw7.mono HBd.out.size))
            have HB57 := Lib.hid (HB5d.out.trans (hw7.mono HB5d.out.size))
            have HK7 := Lib.hid (Blk.below HKd.out hw7 HKd.out.lt)
            have zc7 := Blk.cell HK7.out
            have zr7 := (hw7.cell (p := ⟨ba, oa + i, none⟩) hbad).trans zrd
            have zs7 := (hw7.cell (p := ⟨bk, ok + i, none⟩) hbkd).trans zsd
            clear hw7
            go_wp2_with fail
            refine hK.out _ _ ?_ (fun hHeld => ?_)
            · (try dsimp only); exact ⟨zc7 0, zc7 1, zc7 2, zc7 3, zc7 4, zr7, zs7⟩
            clear hK K
            (try simp only [puts7])
            refine tk 14 ?_ (fun w hSw => ?_) hHeld ?_; rotate_left
            · (try dsimp only at hSw); go_simp; try with_reducible rfl
            (try simp only [puts7])
            refine tk 15 ?_ (fun w hSw => ?_) hHeld ?_; rotate_left
            · (try dsimp only at hSw); go_simp; try with_reducible rfl
            (try simp only [puts7])
            refine tk 16 ?_ (fun w hSw => ?_) hHeld ?_; rotate_left
            · (try dsimp only at hSw); go_simp; try with_reducible rfl
            (try simp only [puts7])
            refine wpAnyH_done (by kernel_rfl) ?_ _
            go_wp2_with fail
            go_roundw
            case rel => exact ⟨i + 1, false, rfl, by go_num, by omega, Lib.hid HNA.out.symm, HK7, HB57, HB7⟩
            case measure => simp [intOf]; omega
        | false =>
          rw [Bool.false_and] at hna
          have HNA := Lib.hid hna
          clear hkc hia hkcell hkt har hare hrow htk hna hy hyl HC zcd zrd zsd
          go_wp2_with fail
          refine wp_region_held_drew (S := (fun _ => True)) (by kernel_rfl) ?_ (fun hHeld => ?_)
          · exact trivial
          refine tk 0 ?_ (fun w hSw => ?_) hHeld ?_; rotate_left
          · (try dsimp only at hSw); go_simp; try with_reducible rfl
          (try simp only [puts7])
          refine tk 1 ?_ (fun w hSw => ?_) hHeld ?_; rotate_left
          · (try dsimp only at hSw); go_simp; try with_reducible rfl
          (try simp only [puts7])
          refine dk 2 hHeld ?_
          (try simp only [puts7])
          refine dk 3 hHeld ?_
          (try simp only [puts7])
          refine dk 4 hHeld ?_
          (try simp only [puts7])
          refine dk 5 hHeld ?_
          (try simp only [puts7])
          refine dk 6 hHeld ?_
          (try simp only [puts7])
          refine dk 7 hHeld ?_
          (try simp only [puts7])
          refine dk 8 hHeld ?_
          (try simp only [puts7])
          refine dk 9 hHeld ?_
          (try simp only [puts7])
          refine dk 10 hHeld ?_
          (try simp only [puts7])
          refine dk 11 hHeld ?_
          (try simp only [puts7])
          refine dk 12 hHeld ?_
          (try simp only [puts7])
          refine dk 13 hHeld ?_
          (try simp only [puts7])
          refine dk 14 hHeld ?_
          (try simp only [puts7])
          refine tk 15 ?_ (fun w hSw => ?_) hHeld ?_; rotate_left
          · (try dsimp only at hSw); go_simp; try with_reducible rfl
          (try simp only [puts7])
          refine tk 16 ?_ (fun w hSw => ?_) hHeld ?_; rotate_left
          · (try dsimp only at hSw); go_simp; try with_reducible rfl
          (try simp only [puts7])
          refine wpAnyH_done (by kernel_rfl) ?_ _
          go_wp2_with fail
          go_roundw
          case rel => exact ⟨i + 1, false, rfl, by go_num, by omega, Lib.hid HNA.out.symm, HKd, HB5d, HBd⟩
          case measure => simp [intOf]; omega
      · have hib : decide ((i : Int) < (na : Int)) = false := decide_eq_false (by omega)
        have hib2 : decide (i < na) = false := decide_eq_false hlt
        have hall : bb = (kidL k).all (fixT (argsB b)) := by
          rw [hbb.out, List.take_of_length_le (by rw [HKLN.out]; omega)]
        have zkr := Blk.cell hbk.out
        have g0r := (hbw.out.cell (p := ⟨tb, toff, none⟩) htb).trans g0
        rw [← hall] at HPT
        clear hbb hall
        rcases HK12.out with h12 | h12
        · obtain ⟨q1, q2⟩ := HPT.out.1 h12
          have d12 : (nd.op != 12) = true := by simpa using h12
          subst q1
          cases bb with
          | true =>
            simp at q2
          | false =>
            clear q2 h12 HK12
            go_wp2_with fail
            refine (HFX.out _ hbw.out).mono ?_
            rintro e w8 ⟨rfl, hw8⟩
            have HB8 := Lib.hid (hbw.out.trans (hw8.mono hbw.out.size))
            have g8 := (HB8.out.cell (p := ⟨tb, toff, none⟩) htb).trans g0
            clear hw8 zkr g0r HPT
            go_wp2_with fail
            go_ret
            exact ⟨rfl, HB8.out⟩
        · obtain ⟨g, q1, q2⟩ := HPT.out.2 h12
          have d12 : (nd.op != 12) = false := by simpa using h12
          cases g with
          | true =>
            rw [if_pos rfl] at q1
            cases bb with
            | true =>
              simp at q2
            | false =>
              subst q1
              clear q2 h12 HK12
              go_wp2_with fail
              refine (HFX.out _ hbw.out).mono ?_
              rintro e w8 ⟨rfl, hw8⟩
              have HB8 := Lib.hid (hbw.out.trans (hw8.mono hbw.out.size))
              have g8 := (HB8.out.cell (p := ⟨tb, toff, none⟩) htb).trans g0
              clear hw8 zkr g0r HPT
              go_wp2_with fail
              go_ret
              exact ⟨rfl, HB8.out⟩
          | false =>
            rw [if_neg (by simp)] at q1
            cases bb with
            | true =>
              subst q1
              clear q2 h12 HK12
              go_wp2_with fail
              refine (HFX.out _ hbw.out).mono ?_
              rintro e w8 ⟨rfl, hw8⟩
              have HB8 := Lib.hid (hbw.out.trans (hw8.mono hbw.out.size))
              have g8 := (HB8.out.cell (p := ⟨tb, toff, none⟩) htb).trans g0
              clear hw8 zkr g0r HPT
              go_wp2_with fail
              go_ret
              exact ⟨rfl, HB8.out⟩
            | false =>
              subst q1
              clear q2 h12 HK12
              go_wp2_with fail
              refine (HFX.out _ hbw.out).mono ?_
              rintro e w8 ⟨rfl, hw8⟩
              have HB8 := Lib.hid (hbw.out.trans (hw8.mono hbw.out.size))
              have g8 := (HB8.out.cell (p := ⟨tb, toff, none⟩) htb).trans g0
              clear hw8 zkr g0r HPT
              go_wp2_with fail
              go_ret
              exact ⟨rfl, HB8.out⟩

end Go.Proofs.Ytpkldboeohhmpaa
