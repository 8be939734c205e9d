/- Row and rows of the reference (books). -/
import Derived.Test.YtplecfbdchmogaaGreatVShort2
import Derived.Test.YtplecfbdchmogaaGreatVThere
import Derived.Test.YtplecfbdchmogaaGreatVRefTerm
import Derived.Test.YtplecfbdchmogaaGreatVProgW
namespace Go.Proofs.YtplecfbdchmogaaGreat
open Go.Lib (hid)
set_option maxHeartbeats 4000000
set_option maxRecDepth 100000
set_option linter.unusedVariables false
set_option linter.unusedSimpArgs false
open Go.RowKit
theorem node_13 {b : Bk} {known self : Int} {m : Nd} (h : m.op = 13) : nodeB b known self m = true := by
 unfold nodeB
 rw [if_neg (by omega), if_neg (by omega), if_neg (by omega), if_neg (by omega), if_neg (by omega)]
theorem node_3 {b : Bk} {known self : Int} {m : Nd} (h : m.op = 3) : nodeB b known self m = decide (m.a ≤ b.vars) := by
 unfold nodeB
 rw [if_pos h]
theorem all_same {α : Type} {f g : α → Bool} : ∀ {L : List α}, (∀ y ∈ L, f y = g y) → L.all f = L.all g
 | [], _ => rfl
 | x :: L, h => by
  simp only [List.all_cons]
  rw [h x (by simp), all_same (fun y hy => h y (by simp [hy]))]
theorem th_row {b : Bk} {known self : Int} : ∀ (F : Fo) (dl : List Bool), Wf dl F → (row F).all (nodeB b known self) = thF b known self F
 | .nil, _, _ => rfl
 | .cons _ _ _ _ _, [], h => h.elim
 | .cons p n a k x, d :: dr, h => by
  obtain ⟨hp, hok, hat, hk, hx⟩ := h
  have e1 : p.all (nodeB b known self) = true := by
   cases d with
   | false => simp only at hp; subst hp; rfl
   | true =>
    obtain ⟨f, rfl, hf⟩ := hp
    simp only [okF, Bool.and_eq_true, decide_eq_true_eq] at hf
    simp [node_13 hf.2]
  have e2 : a.all (nodeB b known self) = a.all (fun m => decide (m.a ≤ b.vars)) := by
   unfold AtOk at hat
   split at hat
   · exact all_same (fun m hm => node_3 (atoms_op _ _ _ _ hat m hm))
   subst hat; rfl
  simp only [row, List.all_append, List.all_cons, thF, e1, e2, th_row k _ hk, th_row x _ hx, Bool.true_and, Bool.and_assoc]
theorem th_rt {b : Bk} {known self : Int} {l : List Nd} {n : Nd} {a : List Nd} {k : Fo} (hpp : pp [false] l = some (.cons [] n a k .nil, [])) : l.all (nodeB b known self) = thT b known self n a k := by
 have hw := wf_of_pp hpp
 have hr := pp_row hpp
 simp only [List.append_nil] at hr
 rw [hr, th_row _ _ hw, thF_cons]
 simp [thF]
theorem refRow_any {w : World} {v : BkVal} {b : Bk} (hb : BookV w v b) (known self below : Int) (hkn : known ≤ b.entries.length) {A : Option Addr} {n c : Nat} {l : List Nd} (ht : TermV w A n c l) :
 Calls Tryz.prog 34 #[.agg #[.int .i64 b.vars, .slice v.Ao v.no v.co, .slice v.Ae v.ne v.ce, .int .i64 b.nat, .slice v.Ap v.np v.cp], .int .i64 known, .int .i64 self, .int .i64 below, .slice A n c] w (ErrP (rowE b known self l below) w) := by
 have HT := hid (fun (w' : World) (h : Below w.heap.size w w') => ht.below h)
 have HBV := hid (fun (w' : World) (h : Below w.heap.size w w') => hb.below h)
 have HTHR := hid (fun (w' : World) (h : Below w.heap.size w w') => there_all (v := v) (b := b) known self hkn)
 have HB0 := hid (below_alloc w (.cells #[.int .i64 b.vars, .slice v.Ao v.no v.co, .slice v.Ae v.ne v.ce, .int .i64 b.nat, .slice v.Ap v.np v.cp] 26))
 have HK0 := hid (Blk.new w 26 #[.int .i64 b.vars, .slice v.Ao v.no v.co, .slice v.Ae v.ne v.ce, .int .i64 b.nat, .slice v.Ap v.np v.cp])
 obtain ⟨bv, hbv⟩ : ∃ x, x = b.vars := ⟨_, rfl⟩
 obtain ⟨bn, hbn⟩ : ∃ x, x = b.nat := ⟨_, rfl⟩
 rw [← hbv] at HTHR HB0 HK0 ⊢
 rw [← hbn] at HTHR HB0 HK0 ⊢
 clear hbv hbn hb ht
 obtain ⟨Ao, no, co, Ae, ne, ce, Ap, np, cp⟩ := v
 simp only at HTHR HBV HB0 HK0 ⊢
 obtain ⟨res, hres⟩ : ∃ res, res = rowE b known self l below := ⟨_, rfl⟩
 rw [← hres]
 have HR := hid hres
 clear hres
 by_cases hs : shapeI l = 0
 case neg =>
  have hr : Hid (res = shapeI l) := hid (by rw [HR.out]; unfold rowE; rw [if_pos hs])
  have HSH := hid (refShape_any (HT.out _ HB0.out))
  have d1 : (shapeI l != 0) = true := by simpa using hs
  generalize shapeI l = s at *
  clear hs
  go_in
  go_wp2_with fail
  refine HSH.out.mono ?_
  rintro e w2 ⟨rfl, hb2⟩
  have HB2 := bto HB0 hb2
  clear hb2
  go_wp2_with fail
  go_ret
  rw [hr.out]
  exact ⟨rfl, HB2.out⟩
 have HSH := hid (refShape_any (HT.out _ HB0.out))
 rw [hs] at HSH
 have HS := hid hs
 clear hs
 go_in
 go_wp2_with fail
 refine HSH.out.mono ?_
 rintro e w2 ⟨rfl, hb2⟩
 have HB2 := bto HB0 hb2
 have HK2 := bko HK0 hb2
 clear hb2
 go_wp2_with fail
 refine (refOf_any (HT.out _ HB2.out)).mono ?_
 rintro e w3 ⟨hb3, ⟨hs, _⟩ | ⟨xs, n1, ats, k, rfl, htree, hpp, _⟩⟩
 · exact absurd HS.out hs
 obtain ⟨sk, sa, sf, rfl, hkk, haa, hff⟩ := htree
 obtain ⟨Ak, nk, ck, rfl, hkk⟩ := hkk
 obtain ⟨Aa, na, ca, rfl, haa⟩ := haa
 obtain ⟨Af, nf, cf, rfl, hff⟩ := hff
 have HTREE : Hid (TreeC (fresh w2 w3) w3 [.int .i64 n1.op, .int .i64 n1.a, .int .i64 n1.b, .slice Ak nk ck, .slice Aa na ca, .slice Af nf cf] n1 ats k) := hid ⟨_, _, _, rfl, ⟨Ak, nk, ck, rfl, hkk⟩, ⟨Aa, na, ca, rfl, haa⟩, ⟨Af, nf, cf, rfl, hff⟩⟩
 have HB3 := bto HB2 hb3
 have HK3 := bko HK2 hb3
 have HBX := hid (HB3.out.alloc HB3.out.size (.cells #[.int .i64 n1.op, .int .i64 n1.a, .int .i64 n1.b, .slice Ak nk ck, .slice Aa na ca, .slice Af nf cf] 131))
 have HKX := hid (HK3.out.alloc (.cells #[.int .i64 n1.op, .int .i64 n1.a, .int .i64 n1.b, .slice Ak nk ck, .slice Aa na ca, .slice Af nf cf] 131))
 have HXX := hid (Blk.new w3 131 #[.int .i64 n1.op, .int .i64 n1.a, .int .i64 n1.b, .slice Ak nk ck, .slice Aa na ca, .slice Af nf cf])
 have hw := wf_of_pp hpp
 obtain ⟨_, hok, _, hkw, _⟩ := hw
 have hall := pp_allok hpp
 have hfs : fsize k ≤ 4096 := by
  obtain ⟨_, n', a', k', h1, _, h2⟩ := shape_ok HS.out
  rw [hpp] at h1
  simp only [Option.some.injEq, Prod.mk.injEq, Fo.cons.injEq] at h1
  obtain ⟨⟨_, _, _, h3, _⟩, _⟩ := h1
  rw [h3]; exact h2
 have HTH := hid (th_rt (b := b) (known := known) (self := self) hpp)
 have HRB : Hid (∀ x y, belowB l below = x → thT b known self n1 ats k = y → res = if x && y then 0 else 8) := hid (fun x y h1 h2 => by
  rw [HR.out]
  unfold rowE
  rw [HS.out, if_neg (by simp), h1, HTH.out, h2]
  cases x <;> cases y <;> simp)
 have HCB := hid (fun (w' : World) (h : Below w3.heap.size w3 w') => HTHR.out w' (HB3.out.trans (h.mono HB3.out.size)) (fsize k + 1) (by omega) w' (fresh w2 w3) _ n1 ats k (HBV.out w' (HB3.out.trans (h.mono HB3.out.size))) (fun b' hb' => Nat.lt_of_lt_of_le hb'.2 h.size) (HTREE.out.keep fun b' hb' => ⟨hb', fun o => h.cell (p := ⟨b', o, none⟩) hb'.2⟩) hok hall.2.1 (Nat.lt_succ_self _))
 have HBL := hid (fun (w' : World) (h : Below w.heap.size w w') => refBelow_any (HT.out w' h) below)
 have hbx3 := hid (below_alloc w3 (.cells #[.int .i64 n1.op, .int .i64 n1.a, .int .i64 n1.b, .slice Ak nk ck, .slice Aa na ca, .slice Af nf cf] 131))
 generalize belowB l below = bb at *
 obtain ⟨tt, htt⟩ : ∃ tt, tt = thT b known self n1 ats k := ⟨_, rfl⟩
 rw [← htt] at HCB
 have HTT := hid htt
 have zx := Blk.cell HXX.out
 clear hkk haa hff hb3 hok hkw hall hfs hpp htt
 generalize n1.op = n1o at *
 generalize n1.a = n1a at *
 generalize n1.b = n1b at *
 go_wp2_with fail
 refine (HBL.out _ HBX.out).mono ?_
 rintro e w4 ⟨rfl, hb4⟩
 have HB4 := bto HBX hb4
 have HK4 := bko HKX hb4
 have HX4 := bko HXX hb4
 have HB34 := bto hbx3 hb4
 have zb4 := Blk.cell HK4.out
 have zx4 := Blk.cell HX4.out
 clear hb4 zx
 cases bb with
 | false =>
  have hr := HRB.out false _ rfl rfl
  rw [Bool.false_and, if_neg (by simp)] at hr
  have HRF := hid hr
  clear hr
  go_wp2_with fail
  go_ret
  rw [HRF.out]
  exact ⟨rfl, HB4.out⟩
 | true =>
  have HC := hid (HCB.out _ HB34.out)
  have hr := HRB.out true tt rfl HTT.out.symm
  rw [Bool.true_and] at hr
  have HRF := hid hr
  clear hr
  go_wp2_with fail
  refine HC.out.mono ?_
  rintro e w5 ⟨rfl, hb5⟩
  have HB5 := bto HB4 hb5
  clear hb5
  cases tt with
  | true =>
   go_wp2_with fail
   go_ret
   rw [HRF.out]
   exact ⟨rfl, HB5.out⟩
  | false =>
   go_wp2_with fail
   go_ret
   rw [HRF.out]
   exact ⟨rfl, HB5.out⟩
theorem refRows_any {w : World} {v : BkVal} {b : Bk} (hb : BookV w v b) (known self below : Int) (hkn : known ≤ b.entries.length) (hbl0 : 0 ≤ below) (hbl1 : below ≤ 1000) {A : Option Addr} {n c : Nat} {ls : List (List Nd)} (ht : RowsV w A n c ls) :
 Calls Tryz.prog 83 #[.agg #[.int .i64 b.vars, .slice v.Ao v.no v.co, .slice v.Ae v.ne v.ce, .int .i64 b.nat, .slice v.Ap v.np v.cp], .int .i64 known, .int .i64 self, .int .i64 below, .slice A n c] w (ErrP (rowsE b known self 1 ls below) w) := by
 have HT := hid (fun (w' : World) (h : Below w.heap.size w w') => ht.below h)
 have HRW := hid (fun (w' : World) (h : Below w.heap.size w w') (bl : Int) (A' : Option Addr) (n' c' : Nat) (l : List Nd) (h2 : TermV w' A' n' c' l) => refRow_any (hb.below h) known self bl hkn h2)
 have HB0 := hid (below_alloc w (.cells #[.int .i64 b.vars, .slice v.Ao v.no v.co, .slice v.Ae v.ne v.ce, .int .i64 b.nat, .slice v.Ap v.np v.cp] 26))
 have HK0 := hid (Blk.new w 26 #[.int .i64 b.vars, .slice v.Ao v.no v.co, .slice v.Ae v.ne v.ce, .int .i64 b.nat, .slice v.Ap v.np v.cp])
 obtain ⟨bv, hbv⟩ : ∃ x, x = b.vars := ⟨_, rfl⟩
 obtain ⟨bn, hbn⟩ : ∃ x, x = b.nat := ⟨_, rfl⟩
 rw [← hbv] at HRW HB0 HK0 ⊢
 rw [← hbn] at HRW HB0 HK0 ⊢
 have HLN := hid ht.len
 have hfew := ht.few
 clear hbv hbn hb ht
 obtain ⟨Ao, no, co, Ae, ne, ce, Ap, np, cp⟩ := v
 simp only at HRW HB0 HK0 ⊢
 obtain ⟨res, hres⟩ : ∃ res, res = rowsE b known self 1 ls below := ⟨_, rfl⟩
 rw [← hres]
 have HR := hid hres
 clear hres
 go_in
 go_wp2_with fail
 go_loopw [11] (fun iv wr => ∃ i : Nat, iv = .int .i64 (i : Int) ∧ i ≤ n ∧ Hid (rowsE b known self 1 (ls.drop i) (below + i) = res) ∧ Hid (Blk wr w.heap.size 26 #[.int .i64 bv, .slice Ao no co, .slice Ae ne ce, .int .i64 bn, .slice Ap np cp]) ∧ Hid (Below w.heap.size w wr)) (fun i _ => n - (intOf i).toNat)
 case atStart => exact ⟨0, rfl, by omega, hid (by rw [List.drop_zero, show below + ((0 : Nat) : Int) = below from by omega]; exact HR.out.symm), HK0, HB0⟩
 case round =>
  obtain ⟨i, rfl, hin, hrs, hkb, hbw⟩ := hrel
  by_cases hi2 : i < n
  rotate_left
  · have hib : decide ((i : Int) < (n : Int)) = false := decide_eq_false (by omega)
    have hib2 : decide (i < n) = false := decide_eq_false hi2
    have hrs2 := hrs.out
    rw [List.drop_of_length_le (by rw [HLN.out]; omega)] at hrs2
    have HRF : Hid (res = 0) := hid hrs2.symm
    clear hrs2
    go_wp2_with fail
    go_ret
    rw [HRF.out]
    exact ⟨rfl, hbw.out⟩
  have hib : decide ((i : Int) < (n : Int)) = true := decide_eq_true (by omega)
  have hib2 : decide (i < n) = true := decide_eq_true hi2
  have hil : i < ls.length := by rw [HLN.out]; exact hi2
  have hrs2 := hrs.out
  rw [List.drop_eq_getElem_cons hil, show ls[i] = ls.getD i [] from by rw [List.getD_eq_getElem?_getD, List.getElem?_eq_getElem hil]; rfl] at hrs2
  have hstep : ∀ (l : List Nd) (r : List (List Nd)) (bl : Int), rowsE b known self 1 (l :: r) bl = if rowE b known self l bl ≠ 0 then rowE b known self l bl else rowsE b known self 1 r (bl + 1) := fun _ _ _ => rfl
  rw [hstep] at hrs2
  have HBd := hid (below_drewN hbw.out 1)
  have HKd := hid (hkb.out.drewN 1)
  obtain ⟨bk, ok, A', n', c', rfl, hbk, hc, hti⟩ := (HT.out w (Below.refl _ _)).at_ hi2
  have zbd := Blk.cell HKd.out
  have zsd := (HBd.out.cell (p := ⟨bk, ok + i, none⟩) hbk).trans hc
  have hbkd := Nat.lt_of_lt_of_le hbk HBd.out.size
  have hwrap : IntKind.i64.wrap (below + (i : Int)) = below + (i : Int) := by rw [IntKind.wrap_i64]; omega
  have HC := hid (HRW.out _ HBd.out (below + (i : Int)) A' n' c' _ (hti.below HBd.out))
  generalize rowE b known self (ls.getD i []) (below + (i : Int)) = re at *
  clear hstep hc hti
  have HRS2 := hid hrs2
  clear hrs2
  go_wp2_with fail
  refine wp_region_held_drew (S := (fun w' => w'.cell? ⟨w.heap.size, 0, none⟩ = some (.int .i64 bv) ∧ w'.cell? ⟨w.heap.size, 1, none⟩ = some (.slice Ao no co) ∧ w'.cell? ⟨w.heap.size, 2, none⟩ = some (.slice Ae ne ce) ∧ w'.cell? ⟨w.heap.size, 3, none⟩ = some (.int .i64 bn) ∧ w'.cell? ⟨w.heap.size, 4, none⟩ = some (.slice Ap np cp) ∧ w'.cell? ⟨bk, ok + i, none⟩ = some (.slice A' n' c'))) (by kernel_rfl) ?_ (fun hHeld => ?_)
  · (try dsimp only); exact ⟨zbd 0, zbd 1, zbd 2, zbd 3, zbd 4, zsd⟩
  refine tq 0 hHeld ?_
  try simp only [p7]
  refine tq 1 hHeld ?_
  try simp only [p7]
  refine tq 2 hHeld ?_
  try simp only [p7]
  refine tq 3 hHeld ?_
  try simp only [p7]
  refine tq 4 hHeld ?_
  try simp only [p7]
  refine tq 5 hHeld ?_
  try simp only [p7]
  refine tq 6 hHeld ?_
  try simp only [p7]
  refine tq 7 hHeld ?_
  try simp only [p7]
  refine tq 8 hHeld ?_
  try simp only [p7]
  refine tq 9 hHeld ?_
  try simp only [p7]
  refine r1 10 fun K hK => ?_
  go_simp
  go_at_call 34
  refine HC.out.mono ?_
  rintro e' w7 ⟨rfl, hw7⟩
  have HB7 := bto HBd hw7
  have HK7 := bko HKd hw7
  have zb7 := Blk.cell HK7.out
  have zs7 := (hw7.cell (p := ⟨bk, ok + i, none⟩) hbkd).trans zsd
  clear hw7
  go_wp2_with fail
  refine hK.out _ _ (by exact ⟨zb7 0, zb7 1, zb7 2, zb7 3, zb7 4, zs7⟩) fun hHeld => ?_
  clear hK K
  try simp only [p7]
  refine tq 11 hHeld ?_
  try simp only [p7]
  refine wpAnyH_done (by kernel_rfl) ?_ _
  have hrs2 := HRS2.out
  by_cases h0 : re = 0
  · subst h0
    rw [if_neg (by simp)] at hrs2
    have HN : Hid (rowsE b known self 1 (ls.drop (i + 1)) (below + ((i + 1 : Nat) : Int)) = res) := hid (by rw [← hrs2]; congr 1; omega)
    clear hrs2
    go_wp2_with fail
    go_roundw
    case rel => exact ⟨i + 1, by go_num, by omega, HN, HK7, HB7⟩
    case measure => simp [intOf]; omega
  rw [if_pos h0] at hrs2
  have HRF := hid hrs2
  have d1 : (re != 0) = true := by simpa using h0
  clear hrs2 h0
  go_wp2_with fail
  go_ret
  rw [← HRF.out]
  exact ⟨rfl, HB7.out⟩
end Go.Proofs.YtplecfbdchmogaaGreat
