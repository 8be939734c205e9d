/- sense: eval, one level deeper. -/
import Derived.Test.YtjllmblbbgojbaaUShort2
import Derived.Test.YtjllmblbbgojbaaUSenseD
import Derived.Test.YtjllmblbbgojbaaUSenseG
namespace Go.Proofs.Ytjllmblbbgojbaa
open Go.Lib (hid)
open Go.RowKit
theorem two_pieces {x p q : TT} (hrt : RtX x) (h : x.1.op = 6 ∨ x.1.op = 5) (hk : kidL x.2.2 = [p, q]) : ∃ e : Nat, endI (rowT x) 1 = (e : Int) ∧ 1 ≤ e ∧ e ≤ (rowT x).length ∧ ((rowT x).take e).drop 1 = rowT p ∧ (rowT x).drop e = rowT q := by
 have hat : At (rowT x) 1 (ds x.1) x.2.2 := At.first (n := x.1) (a := x.2.1) (k := x.2.2) hrt (by omega)
 have hds : ds x.1 = [false, false] := by unfold ds; rw [if_neg (by omega)]; rcases h with h | h <;> rw [h] <;> rfl
 rw [hds] at hat
 obtain ⟨pre1, n1, a1, k1, nx1, e1, s1⟩ := hat.step
 obtain ⟨pre2, n2, a2, k2, nx2, rfl, s2⟩ := s1.next.step
 obtain rfl := List.eq_nil_of_length_eq_zero (show pre1.length = 0 from s1.plen)
 obtain rfl := List.eq_nil_of_length_eq_zero (show pre2.length = 0 from s2.plen)
 obtain rfl := s2.next.done
 rw [e1] at hk
 simp only [kidL, List.cons.injEq, and_true] at hk
 obtain ⟨rfl, rfl⟩ := hk
 have h1 := s1.end_
 have h2 := s1.cut
 have h3 := s1.le
 have h4 := s1.next.rest
 simp only [List.length_nil, Nat.add_zero] at h1 h2 h3 h4
 refine ⟨_, h1, by omega, h3, h2, ?_⟩
 rw [h4]
 simp [row, rowT]
theorem three_pieces {x p q r : TT} (hrt : RtX x) (h : x.1.op = 7) (hk : kidL x.2.2 = [p, q, r]) : ∃ e1 e2 : Nat, endI (rowT x) 1 = (e1 : Int) ∧ endI (rowT x) (e1 : Int) = (e2 : Int) ∧ 1 ≤ e1 ∧ e1 ≤ e2 ∧ e2 ≤ (rowT x).length ∧ ((rowT x).take e2).drop e1 = rowT q ∧ (rowT x).drop e2 = rowT r := by
 have hat : At (rowT x) 1 (ds x.1) x.2.2 := At.first (n := x.1) (a := x.2.1) (k := x.2.2) hrt (by omega)
 have hds : ds x.1 = [false, false, false] := by unfold ds; rw [if_neg (by omega), h]; rfl
 rw [hds] at hat
 obtain ⟨pre1, n1, a1, k1, nx1, e1, s1⟩ := hat.step
 obtain ⟨pre2, n2, a2, k2, nx2, rfl, s2⟩ := s1.next.step
 obtain ⟨pre3, n3, a3, k3, nx3, rfl, s3⟩ := s2.next.step
 obtain rfl := List.eq_nil_of_length_eq_zero (show pre1.length = 0 from s1.plen)
 obtain rfl := List.eq_nil_of_length_eq_zero (show pre2.length = 0 from s2.plen)
 obtain rfl := List.eq_nil_of_length_eq_zero (show pre3.length = 0 from s3.plen)
 obtain rfl := s3.next.done
 rw [e1] at hk
 simp only [kidL, List.cons.injEq, and_true] at hk
 obtain ⟨rfl, rfl, rfl⟩ := hk
 have h1 := s1.end_
 have h3 := s1.le
 have i1 := s2.end_
 have i2 := s2.cut
 have i3 := s2.le
 have i4 := s2.next.rest
 simp only [List.length_nil, Nat.add_zero] at h1 h3 i1 i2 i3 i4
 refine ⟨_, _, h1, i1, by omega, by omega, i3, i2, ?_⟩
 rw [i4]
 simp [row, rowT]
theorem sub_any {b : Bk} {g : Nat} {w : World} {A B : Option Addr} {n c m k : Nat} {x u : TT} (hg : g < w.heap.size) (hx : TermG g w A n c (rowT x)) (hu : TermG g w B m k (rowT u)) (fx : FitT b (0 + 1) x) (fu : FitT b 0 u) :
 Calls Try.prog 69 #[.slice A n c, .slice B m k, .int .i64 0] w (fun e w' => Below w.heap.size w w' ∧ ∃ A' n' c', e = .returned (.tuple #[.slice A' n' c', .int .i64 (subTT x u).2]) ∧ ((subTT x u).2 = 0 → TermG g w' A' n' c' (rowT (subTT x u).1))) := by
 obtain ⟨h1, h2, h3⟩ := sub_row (Int.le_refl 0) (by omega) fx fu
 refine (subst_any hx.gv hu.gv 0 (fun _ _ _ => h1)).mono ?_
 rintro e w' ⟨hb, A', n', c', rfl, ho⟩
 rw [h2] at ho
 refine ⟨hb, A', n', c', by rw [h2], fun h0 => ?_⟩
 simp only [if_pos h0] at ho
 exact own_G ho hg (by have := (h3 h0).few; have e : (rowT (subTT x u).1).length = szT (subTT x u).1 := rfl; omega)
theorem TermR.toG {w0 w : World} {g f n c : Nat} {v : BkVal} {b : Bk} {A : Option Addr} {l : List Nd} (h : TermV w0 A n c l) (hw : EvW w0 g v b f w) : TermG g w A n c l :=
 h.keep fun q hq => ⟨⟨Nat.lt_of_lt_of_le hq hw.bel.size, by have := hw.ge; omega⟩, fun o => hw.bel.cell (p := ⟨q, o, none⟩) hq⟩
set_option linter.unusedSimpArgs false in
set_option linter.unusedVariables false in
set_option maxRecDepth 100000 in
set_option maxHeartbeats 8000000 in
theorem seval_step {w0 : World} {g : Nat} {v : BkVal} {b : Bk} {d : Nat} (hr : rightE b = 0) (hb : BookV w0 v b) (H : EvH w0 g v b d) (HG : GvH w0 g v b d) : EvH w0 g v b (d + 1) := by
 intro w f A n c x hf hf1 hw hx fx
 rw [evD_succ]
 have zg := Blk.cell hw.blk
 have zf := hw.blk.frozen
 cases f with
 | zero =>
  have hmv : Hid (Moved (fun q => q = g) none w w) := hid (Moved.refl _ _ _)
  clear hx fx hw H HG hb hr
  go_in
  go_wp2_with fail
  exact ⟨rfl, hmv.out, rfl⟩
 | succ m =>
 obtain ⟨F, hF⟩ : ∃ F : Int, F = ((m + 1 : Nat) : Int) := ⟨_, rfl⟩
 rw [← hF] at zg
 have f0 : decide (F = 0) = false := decide_eq_false (by omega)
 have f0' : (F == 0) = false := by rw [beq_eq_false_iff_ne]; omega
 have f1 : IntKind.i64.wrap (F - 1) = (m : Int) := by rw [IntKind.wrap_i64]; omega
 obtain ⟨hwm, hmv⟩ := hw.fuel m
 have HW1 := hid hwm
 have HM1 := hid hmv
 have HX1 := hid (hx.movedG hmv)
 have HIV := hid (isVal_any (szT x) _ A n c x HX1.out.gv fx.rt (Nat.le_refl _))
 obtain ⟨res, hres⟩ : ∃ r, r = evStep b (evD b d) (gvD b d) (m + 1) x := ⟨_, rfl⟩
 rw [← hres]
 have hgl := hw.lt
 have HRT := hid hr
 have HB0 := hid hb
 have HH := hid H
 have HHG := hid HG
 have hmd : m < d := by omega
 have hm1 : m ≤ 100000 := by omega
 have hln := hx.len
 have hn0 : 0 < n := by rw [← hln]; simp [rowT]
 have hcap := hx.cap
 obtain ⟨bf, off, rfl, hbf, hc⟩ := HX1.out.mem hn0
 obtain ⟨d0, d1, d2⟩ := hc 0 (by rw [hln]; exact hn0)
 simp only [Nat.zero_mul, Nat.add_zero] at d0 d1 d2
 rw [show nth (rowT x) 0 = x.1 from rfl] at d0 d1 d2
 have hgw1 : g < (w.setCell ⟨g, 5, none⟩ (.int .i64 (m : Int))).heap.size := by have := hmv.size; omega
 cases hv : valW x with
 | true =>
  have HRZ : Hid (res = .ok x m) := hid (by rw [hres]; simp only [evStep, hv, if_true])
  rw [hv] at HIV
  clear hv hres hx fx hw H HG hb hr hwm hmv hc hF d0 d1 d2
  go_in
  go_wp2_with fail
  refine (HIV.out).mono ?_
  rintro e w2 ⟨rfl, hb2⟩
  have HW2 := hid (HW1.out.below hb2)
  have HM2 : Hid (Moved (fun q => q = g) none w w2) := hid (HM1.out.trans (row' := none) (Moved.of_below hb2) (fun _ e => by cases e))
  have HX2 := hid (HX1.out.belowG hb2)
  clear hb2
  go_wp2_with fail
  go_ret
  rw [HRZ.out]
  exact ⟨HM2.out, _, n, c, rfl, HW2.out, HX2.out⟩
 | false =>
 have HR0 : Hid (res = if x.1.op = 8 then evD b d m (treeAt (entB b x.1.a).body)
  else if x.1.op = 7 then (match kidL x.2.2 with
   | _ :: v :: bd :: _ => (evD b d m v).bind fun u f' => if (subTT bd u).2 = 0 then evD b d f' (subTT bd u).1 else .er (subTT bd u).2
   | _ => .er 0)
  else if x.1.op = 11 then mtR b (evD b d) (gvD b d) m x
  else (match kidL x.2.2 with
   | p :: q :: _ => (evD b d m p).bind fun g f1 => (evD b d f1 q).bind fun a f2 => gvD b d f2 g a
   | _ => .er 0)) := hid (by rw [hres]; simp only [evStep, hv, Bool.false_eq_true, if_false]; rfl)
 have HAO := hid (fun h7 h8 h11 => app_of fx hv h7 h8 h11)
 rw [hv] at HIV
 have HFX := hid fx
 have HFT := hid (ev_fit (b := b) hr d)
 have HC := hid hc
 obtain ⟨xo, hxo⟩ : ∃ z, z = x.1.op := ⟨_, rfl⟩
 obtain ⟨xa, hxa⟩ : ∃ z, z = x.1.a := ⟨_, rfl⟩
 obtain ⟨xb, hxb⟩ : ∃ z, z = x.1.b := ⟨_, rfl⟩
 have HXO := hid hxo
 have HXA := hid hxa
 clear hv hres hx fx hw H HG hb hr hwm hmv hF hc hxo hxa hxb d0 d1 d2
 go_in
 go_wp2_with fail
 refine (HIV.out).mono ?_
 rintro e w2 ⟨rfl, hb2⟩
 have hs2 := hb2.size
 have HW2 := hid (HW1.out.below hb2)
 have HM2 : Hid (Moved (fun q => q = g) none w w2) := hid (HM1.out.trans (row' := none) (Moved.of_below hb2) (fun _ e => by cases e))
 have HX2 := hid (HX1.out.belowG hb2)
 obtain ⟨d0, d1, d2⟩ := HC.out 0 (by rw [hln]; exact hn0)
 simp only [Nat.zero_mul, Nat.add_zero] at d0 d1 d2
 rw [show nth (rowT x) 0 = x.1 from rfl] at d0 d1 d2
 have d0' := (hb2.cell (p := ⟨bf, off, none⟩) hbf.1).trans d0
 have d1' := (hb2.cell (p := ⟨bf, off + 1, none⟩) hbf.1).trans d1
 have d2' := (hb2.cell (p := ⟨bf, off + 2, none⟩) hbf.1).trans d2
 rw [← HXO.out] at d0'
 rw [← HXA.out] at d1'
 generalize x.1.b = xb' at d2'
 have hi0 : (0 : Int) < (n : Int) := by omega
 have HB3 := hid (below_alloc w2 (.cells #[.int .i64 xo, .int .i64 xa, .int .i64 xb'] 34))
 have HN3 := hid (Blk.new w2 34 #[.int .i64 xo, .int .i64 xa, .int .i64 xb'])
 have zn3 := Blk.cell HN3.out
 clear hb2 d0 d1 d2 hbf zg zf f0 f0' f1
 go_upto_region 8 with fail
 obtain ⟨w3, hw3e⟩ : ∃ w3 : World, w3 = w2.alloc (.cells #[.int .i64 xo, .int .i64 xa, .int .i64 xb'] 34) := ⟨_, rfl⟩
 rw [← hw3e] at HB3 HN3 zn3 ⊢
 clear hw3e
 have hs3 := HB3.out.size
 have hw23 : w2.heap.size < w3.heap.size := HN3.out.lt
 have HW3 := hid (HW2.out.below HB3.out)
 have HM3 : Hid (Moved (fun q => q = g) none w w3) := hid (HM2.out.trans (row' := none) (Moved.of_below HB3.out) (fun _ e => by cases e))
 have HX3 := hid (HX2.out.belowG HB3.out)
 have hg3 : g < w3.heap.size := by omega
 by_cases t8 : xo = 8
 · have u8 : decide (xo = 8) = true := decide_eq_true t8
   have h8 : x.1.op = 8 := by rw [← HXO.out]; exact t8
   have hn := HFX.out.nod x.1 (by simp [rowT])
   have ha : 0 ≤ x.1.a := by have hok := HFX.out.okt.ok; simp only [okN, Bool.and_eq_true] at hok; exact (plainB_a hok.1.1).1
   unfold nodeB at hn
   rw [if_neg (by omega), if_pos h8, Bool.and_eq_true, decide_eq_true_eq, beq_iff_eq] at hn
   obtain ⟨hy1, hy2⟩ := fit_of (body_def HRT.out ha hn.1 hn.2)
   have HRZ : Hid (res = evD b d m (treeAt (entB b x.1.a).body)) := hid (by rw [HR0.out, if_pos h8])
   obtain ⟨ia, hia⟩ : ∃ ia : Nat, xa = (ia : Int) := ⟨x.1.a.toNat, by rw [HXA.out]; omega⟩
   have hxi : x.1.a = (ia : Int) := by rw [← HXA.out]; exact hia
   rw [hxi] at HRZ hy1 hy2 hn
   have hle := HB0.out.entries.len
   obtain ⟨be, oe, hAe, hbe, ⟨As, ns, cs, Ap, np, cp, Ai, ni, ci, Ac, nc, cc, At, nt, ct, Ab, nb, cb⟩, _, _, _, _, _, _, c6, hec⟩ := HB0.out.entries.at_ (k := ia) (by omega)
   have hen : entB b (ia : Int) = b.entries.getD ia default := by unfold entB; rw [Int.toNat_natCast]
   rw [← hen] at hec
   have hbd := hec.body
   rw [hy1] at hbd
   simp only at hbd c6
   obtain ⟨y, hy⟩ : ∃ y, y = treeAt (entB b (ia : Int)).body := ⟨_, rfl⟩
   rw [← hy] at hbd HRZ hy2
   have hbel3 := HW3.out.bel
   have hge3 := HW3.out.ge
   have HBD : Hid (TermG g w3.drew Ab nb cb (rowT y)) := hid (TermR.movedG (TermR.toG hbd HW3.out) (Moved.refl _ _ _).drew)
   have zg3 := Blk.cell HW3.out.blk
   rw [hAe] at zg3
   have c63 := (hbel3.cell (p := ⟨be, oe + ia * 7 + 6, none⟩) hbe).trans c6
   have hi1 : (0 : Int) ≤ (ia : Int) := by omega
   have hi2 : (ia : Int) < (v.ne : Int) := by omega
   have hbe3 : be < w3.heap.size := by have := hbel3.size; omega
   have hbeg : be ≠ g := by omega
   have HC4 := hid (HH.out w3.drew m Ab nb cb y hmd hm1 HW3.out.drew HBD.out hy2)
   subst hia
   have hAe2 : v.Ae = some ⟨be, oe, none⟩ := hAe
   clear hn ha hy1 hy2 hy hec hbd hen hxi c6 hle hAe h8
   cases hE4 : evD b d m y with
   | er z =>
    rw [hE4] at HC4 HRZ
    clear hE4
    go_upto_region 9 with fail
    refine wp_region_held_drew (S := (fun w' => w'.cell? ⟨g, 2, none⟩ = some (.slice (some ⟨be, oe, none⟩) v.ne v.ce) ∧ w'.cell? ⟨w2.heap.size, 1, none⟩ = some (.int .i64 (ia : Int)) ∧ w'.cell? ⟨be, oe + ia * 7 + 6, none⟩ = some (.slice Ab nb cb))) (by kernel_rfl) ?_ (fun hHeld => ?_)
    · (try dsimp only); exact ⟨zg3 2, zn3 1, c63⟩
    refine tq 0 hHeld ?_
    try simp only [p7]
    refine tq 1 hHeld ?_
    try simp only [p7]
    refine tq 2 hHeld ?_
    try simp only [p7]
    refine tq 3 hHeld ?_
    try simp only [p7]
    refine tq 4 hHeld ?_
    try simp only [p7]
    refine tq 5 hHeld ?_
    try simp only [p7]
    refine tq 6 hHeld ?_
    try simp only [p7]
    refine tq 7 hHeld ?_
    try simp only [p7]
    refine tq 8 hHeld ?_
    try simp only [p7]
    refine tq 9 hHeld ?_
    try simp only [p7]
    refine tq 10 hHeld ?_
    try simp only [p7]
    refine r1 11 fun K hK => ?_
    go_simp
    refine (HC4.out).mono ?_
    rintro e w4 ⟨hm4, he4⟩
    simp only at he4
    subst he4
    have HM4 : Hid (Moved (fun q => q = g) none w w4) := hid (HM3.out.drew.trans hm4 (fun _ e => by cases e))
    clear hm4
    go_wp2_with fail
    rw [HRZ.out]
    exact ⟨rfl, HM4.out, rfl⟩
   | ok y4 f4 =>
    rw [hE4] at HC4 HRZ
    clear hE4
    go_upto_region 9 with fail
    refine wp_region_held_drew (S := (fun w' => w'.cell? ⟨g, 2, none⟩ = some (.slice (some ⟨be, oe, none⟩) v.ne v.ce) ∧ w'.cell? ⟨w2.heap.size, 1, none⟩ = some (.int .i64 (ia : Int)) ∧ w'.cell? ⟨be, oe + ia * 7 + 6, none⟩ = some (.slice Ab nb cb))) (by kernel_rfl) ?_ (fun hHeld => ?_)
    · (try dsimp only); exact ⟨zg3 2, zn3 1, c63⟩
    refine tq 0 hHeld ?_
    try simp only [p7]
    refine tq 1 hHeld ?_
    try simp only [p7]
    refine tq 2 hHeld ?_
    try simp only [p7]
    refine tq 3 hHeld ?_
    try simp only [p7]
    refine tq 4 hHeld ?_
    try simp only [p7]
    refine tq 5 hHeld ?_
    try simp only [p7]
    refine tq 6 hHeld ?_
    try simp only [p7]
    refine tq 7 hHeld ?_
    try simp only [p7]
    refine tq 8 hHeld ?_
    try simp only [p7]
    refine tq 9 hHeld ?_
    try simp only [p7]
    refine tq 10 hHeld ?_
    try simp only [p7]
    refine r1 11 fun K hK => ?_
    go_simp
    refine (HC4.out).mono ?_
    rintro e w4 ⟨hm4, A4, n4, c4, rfl, hw4, ht4⟩
    have HM4 : Hid (Moved (fun q => q = g) none w w4) := hid (HM3.out.drew.trans hm4 (fun _ e => by cases e))
    have zg4 := Blk.cell hw4.blk
    rw [hAe2] at zg4
    have hmv4 : ∀ q o : Nat, q < w3.heap.size → q ≠ g → w4.cell? ⟨q, o, none⟩ = w3.cell? ⟨q, o, none⟩ := fun q o h1 h2 => cell_of_heap (hm4.block q h1 h2 (by simp)) o
    have HW4 := hid hw4
    have HT4 := hid ht4
    clear hm4 hw4 ht4
    go_wp2_with fail
    refine hK.out _ _ (by exact ⟨zg4 2, (hmv4 _ 1 hw23 (by omega)).trans (zn3 1), (hmv4 _ (oe + ia * 7 + 6) hbe3 hbeg).trans c63⟩) fun hHeld => ?_
    clear hK K
    try simp only [p7]
    refine tq 12 hHeld ?_
    try simp only [p7]
    refine wpAnyH_done (by kernel_rfl) ?_ _
    go_wp2_with fail
    go_ret
    rw [HRZ.out]
    exact ⟨HM4.out, A4, n4, c4, rfl, HW4.out, HT4.out⟩
 have u8 : decide (xo = 8) = false := decide_eq_false t8
 by_cases t7 : xo = 7
 · have u7 : decide (xo = 7) = true := decide_eq_true t7
   have h7 : x.1.op = 7 := by rw [← HXO.out]; exact t7
   obtain ⟨p, q, r, hk⟩ := kids_three HFX.out.okt h7
   obtain ⟨e1, e2, he1, he2, h1e, h12, h2n, hq, hr'⟩ := three_pieces HFX.out.rt h7 hk
   rw [hln] at h2n
   have HRA : Hid (res = (evD b d m q).bind fun u f' => if (subTT r u).2 = 0 then evD b d f' (subTT r u).1 else .er (subTT r u).2) := hid (by rw [HR0.out, if_neg (by omega), if_pos h7, hk])
   have HFQ : Hid (FitT b 0 q) := hid (HFX.out.kid0 (i := 1) (by rw [hk]; rfl) (by rw [h7]; simp [aroundI]))
   have HFR : Hid (FitT b (0 + 1) r) := hid (by
    have := HFX.out.kid (i := 2) (y := r) (by rw [hk]; rfl)
    rwa [show aroundI x.1.op x.1.b ((2 : Nat) : Int) = 1 from by rw [h7]; simp [aroundI]] at this)
   have HE1 := hid (end_any HX3.out.gv 1)
   have HE2 := hid (fun (w' : World) (hb : Below w3.heap.size w3 w') => end_any (HX3.out.gv.below hb) (e1 : Int))
   rw [he1] at HE1
   rw [he2] at HE2
   obtain ⟨Am, hm, hmr⟩ := cut_mid (some ⟨bf, off, none⟩) n c e1 e2 h12 h2n hcap
   obtain ⟨Af, hf_, hfr⟩ := cut_from (some ⟨bf, off, none⟩) n c e2 h2n
   have HQ := hid (fun (w' : World) (h : TermG g w' (some ⟨bf, off, none⟩) n c (rowT x)) => hmr _ _ _ h)
   have HRR := hid (fun (w' : World) (h : TermG g w' (some ⟨bf, off, none⟩) n c (rowT x)) => hfr _ _ _ h)
   rw [hq] at HQ
   rw [hr'] at HRR
   have h12' : (e1 : Int) ≤ (e2 : Int) := by omega
   have HFU := hid (fun v1 f1 h => HFT.out.1 m q v1 f1 HFQ.out h)
   clear he1 he2 h1e hq hr' hmr hfr hk h7 t8
   go_wp2_with fail
   refine (HE1.out).mono ?_
   rintro e w4 ⟨rfl, hb4⟩
   have HB4 := hid hb4
   clear hb4
   go_wp2_with fail
   refine (HE2.out w4 HB4.out).mono ?_
   rintro e w5 ⟨rfl, hb5⟩
   have HB5 := bto HB4 hb5
   have HW5 := hid (HW3.out.below HB5.out)
   have HX5 := hid (HX3.out.belowG HB5.out)
   have HM5 : Hid (Moved (fun q => q = g) none w w5) := hid (HM3.out.trans (row' := none) (Moved.of_below HB5.out) (fun _ e => by cases e))
   have HC6 := hid (HH.out w5 m Am (e2 - e1) (c - e1) q hmd hm1 HW5.out (HQ.out w5 HX5.out) HFQ.out)
   clear hb5
   cases hE6 : evD b d m q with
   | er z =>
    have HRZ : Hid (res = .er z) := hid (by rw [HRA.out, hE6]; rfl)
    rw [hE6] at HC6
    clear hE6 HFU
    go_wp2_with fail
    refine (HC6.out).mono ?_
    rintro e w6 ⟨hm6, he6⟩
    simp only at he6
    subst he6
    have HM6 : Hid (Moved (fun q => q = g) none w w6) := hid (HM5.out.trans hm6 (fun _ e => by cases e))
    clear hm6
    go_wp2_with fail
    rw [HRZ.out]
    exact ⟨rfl, HM6.out, rfl⟩
   | ok u f6 =>
    have HRB : Hid (res = if (subTT r u).2 = 0 then evD b d f6 (subTT r u).1 else .er (subTT r u).2) := hid (by rw [HRA.out, hE6]; rfl)
    have HFV := hid (HFU.out u f6 hE6)
    have hf6 := HFV.out.2
    rw [hE6] at HC6
    clear hE6 HFU
    go_wp2_with fail
    refine (HC6.out).mono ?_
    rintro e w6 ⟨hm6, A6, n6, c6, rfl, hw6, ht6⟩
    have HM6 : Hid (Moved (fun q => q = g) none w w6) := hid (HM5.out.trans hm6 (fun _ e => by cases e))
    have HMQ6 := hid hm6
    have HW6 := hid hw6
    have HT6 := hid ht6
    clear hm6 hw6 ht6
    have HX6 := hid (HX5.out.movedG HMQ6.out)
    have HS7 := hid (sub_any (b := b) HW6.out.lt (HRR.out w6 HX6.out) HT6.out HFR.out HFV.out.1.1)
    have HSF := hid (sub_row (Int.le_refl 0) (by omega) HFR.out HFV.out.1.1).2.2
    obtain ⟨⟨y7, z7⟩, hy7⟩ : ∃ q, q = subTT r u := ⟨_, rfl⟩
    rw [← hy7] at HS7 HSF HRB
    simp only at HS7 HSF HRB
    clear hy7
    by_cases h0 : z7 = 0
    · subst h0
      rw [if_pos rfl] at HRB
      have HFS := hid (HSF.out rfl)
      clear HSF
      go_wp2_with fail
      refine (HS7.out).mono ?_
      rintro e w7 ⟨hb7, A7, n7, c7, rfl, ht7⟩
      have HT7 := hid (by first | exact ht7 rfl | exact ht7 trivial)
      have HB7 := hid hb7
      have HW7 := hid (HW6.out.below hb7)
      have HM7 : Hid (Moved (fun q => q = g) none w w7) := hid (HM6.out.trans (row' := none) (Moved.of_below HB7.out) (fun _ e => by cases e))
      clear hb7 ht7
      go_wp2_with fail
      refine (must_ok).mono ?_
      rintro e wm ⟨rfl, hwm⟩
      subst wm
      have HC8 := hid (HH.out w7 f6 A7 n7 c7 y7 (by omega) (by omega) HW7.out HT7.out HFS.out)
      cases hE8 : evD b d f6 y7 with
      | er z =>
       rw [hE8] at HC8 HRB
       clear hE8
       go_wp2_with fail
       refine (HC8.out).mono ?_
       rintro e w8 ⟨hm8, he8⟩
       simp only at he8
       subst he8
       have HM8 : Hid (Moved (fun q => q = g) none w w8) := hid (HM7.out.trans hm8 (fun _ e => by cases e))
       clear hm8
       go_wp2_with fail
       rw [HRB.out]
       exact ⟨rfl, HM8.out, rfl⟩
      | ok y8 f8 =>
       rw [hE8] at HC8 HRB
       clear hE8
       go_wp2_with fail
       refine (HC8.out).mono ?_
       rintro e w8 ⟨hm8, A8, n8, c8, rfl, hw8, ht8⟩
       have HM8 : Hid (Moved (fun q => q = g) none w w8) := hid (HM7.out.trans hm8 (fun _ e => by cases e))
       have HMQ8 := hid hm8
       have HW8 := hid hw8
       have HT8 := hid ht8
       clear hm8 hw8 ht8
       go_wp2_with fail
       go_ret
       rw [HRB.out]
       exact ⟨HM8.out, A8, n8, c8, rfl, HW8.out, HT8.out⟩
    · have HRZ : Hid (res = .er z7) := hid (by rw [HRB.out, if_neg h0])
      have HZ7 := hid h0
      clear HSF HRB h0
      go_wp2_with fail
      refine (HS7.out).mono ?_
      rintro e w7 ⟨hb7, A7, n7, c7, rfl, ht7⟩
      have HM7 : Hid (Moved (fun q => q = g) none w w7) := hid (HM6.out.trans (row' := none) (Moved.of_below hb7) (fun _ e => by cases e))
      clear hb7 ht7
      go_wp2_with fail
      refine (must_er HZ7.out).mono ?_
      rintro e wm ⟨rfl, hwm⟩
      subst wm
      go_wp2_with fail
      rw [HRZ.out]
      exact ⟨rfl, HM7.out, rfl⟩
 have u7 : decide (xo = 7) = false := decide_eq_false t7
 by_cases t11 : xo = 11
 · have u11 : decide (xo = 11) = true := decide_eq_true t11
   have h11 : x.1.op = 11 := by rw [← HXO.out]; exact t11
   have HRZ : Hid (res = mtR b (evD b d) (gvD b d) m x) := hid (by rw [HR0.out, if_neg (by omega), if_neg (by omega), if_pos h11])
   have HC4 := hid (smatch_any HRT.out HB0.out HH.out HHG.out hmd hm1 HW3.out HX3.out HFX.out h11)
   clear h11 t8 t7
   cases hE4 : mtR b (evD b d) (gvD b d) m x with
   | er z =>
    rw [hE4] at HC4 HRZ
    clear hE4
    go_wp2_with fail
    refine (HC4.out).mono ?_
    rintro e w4 ⟨hm4, he4⟩
    simp only at he4
    subst he4
    have HM4 : Hid (Moved (fun q => q = g) none w w4) := hid (HM3.out.trans hm4 (fun _ e => by cases e))
    clear hm4
    go_wp2_with fail
    rw [HRZ.out]
    exact ⟨rfl, HM4.out, rfl⟩
   | ok y4 f4 =>
    rw [hE4] at HC4 HRZ
    clear hE4
    go_wp2_with fail
    refine (HC4.out).mono ?_
    rintro e w4 ⟨hm4, A4, n4, c4, rfl, hw4, ht4⟩
    have HM4 : Hid (Moved (fun q => q = g) none w w4) := hid (HM3.out.trans hm4 (fun _ e => by cases e))
    have HMQ4 := hid hm4
    have HW4 := hid hw4
    have HT4 := hid ht4
    clear hm4 hw4 ht4
    go_wp2_with fail
    go_ret
    rw [HRZ.out]
    exact ⟨HM4.out, A4, n4, c4, rfl, HW4.out, HT4.out⟩
 have u11 : decide (xo = 11) = false := decide_eq_false t11
 have h6 : x.1.op = 6 := HAO.out (by rw [← HXO.out]; exact t7) (by rw [← HXO.out]; exact t8) (by rw [← HXO.out]; exact t11)
 obtain ⟨p, q, hk⟩ := kids_two HFX.out.okt (Or.inl h6)
 obtain ⟨e1, he1, h1e, h1n, hp, hq⟩ := two_pieces HFX.out.rt (Or.inl h6) hk
 rw [hln] at h1n
 have hz : ∀ k : Int, aroundI x.1.op x.1.b k = 0 := around_plain (by omega) (by omega) (by omega) (by omega)
 have HRA : Hid (res = (evD b d m p).bind fun g f1 => (evD b d f1 q).bind fun a f2 => gvD b d f2 g a) := hid (by rw [HR0.out, if_neg (by omega), if_neg (by omega), if_neg (by omega), hk])
 have HFP : Hid (FitT b 0 p) := hid (HFX.out.kid0 (i := 0) (by rw [hk]; rfl) (hz _))
 have HFQ : Hid (FitT b 0 q) := hid (HFX.out.kid0 (i := 1) (by rw [hk]; rfl) (hz _))
 have HE1 := hid (end_any HX3.out.gv 1)
 rw [he1] at HE1
 obtain ⟨Am, hm, hmr⟩ := cut_mid (some ⟨bf, off, none⟩) n c 1 e1 h1e h1n hcap
 obtain ⟨Af, hf_, hfr⟩ := cut_from (some ⟨bf, off, none⟩) n c e1 h1n
 have hm' : ∀ w : World, (Instr.slice 28 (.slice (some ⟨bf, off, none⟩) n c) (some (.int .i64 1)) (some (.int .i64 (e1 : Int))) none).run Try.prog w = .ok (.slice Am (e1 - 1) (c - 1)) w := fun w => hm w
 have HP := hid (fun (w' : World) (h : TermG g w' (some ⟨bf, off, none⟩) n c (rowT x)) => hmr _ _ _ h)
 have HQ := hid (fun (w' : World) (h : TermG g w' (some ⟨bf, off, none⟩) n c (rowT x)) => hfr _ _ _ h)
 rw [hp] at HP
 rw [hq] at HQ
 have h12' : (1 : Int) ≤ (e1 : Int) := by omega
 have HFU := hid (fun v1 f1 h => HFT.out.1 m p v1 f1 HFP.out h)
 clear he1 h1e hp hq hmr hfr hk hz h6 hm HAO
 go_wp2_with fail
 refine (HE1.out).mono ?_
 rintro e w5 ⟨rfl, hb5⟩
 have HW5 := hid (HW3.out.below hb5)
 have HX5 := hid (HX3.out.belowG hb5)
 have HM5 : Hid (Moved (fun q => q = g) none w w5) := hid (HM3.out.trans (row' := none) (Moved.of_below hb5) (fun _ e => by cases e))
 have HC6 := hid (HH.out w5 m Am (e1 - 1) (c - 1) p hmd hm1 HW5.out (HP.out w5 HX5.out) HFP.out)
 clear hb5
 cases hE6 : evD b d m p with
 | er z =>
  have HRZ : Hid (res = .er z) := hid (by rw [HRA.out, hE6]; rfl)
  rw [hE6] at HC6
  clear hE6 HFU
  go_wp2_with fail
  refine (HC6.out).mono ?_
  rintro e w6 ⟨hm6, he6⟩
  simp only at he6
  subst he6
  have HM6 : Hid (Moved (fun q => q = g) none w w6) := hid (HM5.out.trans hm6 (fun _ e => by cases e))
  clear hm6
  go_wp2_with fail
  rw [HRZ.out]
  exact ⟨rfl, HM6.out, rfl⟩
 | ok u f6 =>
 have HRB : Hid (res = (evD b d f6 q).bind fun a f2 => gvD b d f2 u a) := hid (by rw [HRA.out, hE6]; rfl)
 have HFV := hid (HFU.out u f6 hE6)
 have hf6 := HFV.out.2
 rw [hE6] at HC6
 clear hE6 HFU
 go_wp2_with fail
 refine (HC6.out).mono ?_
 rintro e w6 ⟨hm6, A6, n6, c6, rfl, hw6, ht6⟩
 have HM6 : Hid (Moved (fun q => q = g) none w w6) := hid (HM5.out.trans hm6 (fun _ e => by cases e))
 have HMQ6 := hid hm6
 have HW6 := hid hw6
 have HT6 := hid ht6
 clear hm6 hw6 ht6
 have HX6 := hid (HX5.out.movedG HMQ6.out)
 have HFU := hid (fun v1 f1 h => HFT.out.1 f6 q v1 f1 HFQ.out h)
 have HC7 := hid (HH.out w6 f6 Af (n - e1) (c - e1) q (by omega) (by omega) HW6.out (HQ.out w6 HX6.out) HFQ.out)
 cases hE7 : evD b d f6 q with
 | er z =>
  have HRZ : Hid (res = .er z) := hid (by rw [HRB.out, hE7]; rfl)
  rw [hE7] at HC7
  clear hE7 HFU
  go_wp2_with fail
  refine (HC7.out).mono ?_
  rintro e w7 ⟨hm7, he7⟩
  simp only at he7
  subst he7
  have HM7 : Hid (Moved (fun q => q = g) none w w7) := hid (HM6.out.trans hm7 (fun _ e => by cases e))
  clear hm7
  go_wp2_with fail
  rw [HRZ.out]
  exact ⟨rfl, HM7.out, rfl⟩
 | ok a f7 =>
 have HRC : Hid (res = gvD b d f7 u a) := hid (by rw [HRB.out, hE7]; rfl)
 have HFW := hid (HFU.out a f7 hE7)
 have hf7 := HFW.out.2
 rw [hE7] at HC7
 clear hE7 HFU
 go_wp2_with fail
 refine (HC7.out).mono ?_
 rintro e w7 ⟨hm7, A7, n7, c7, rfl, hw7, ht7⟩
 have HM7 : Hid (Moved (fun q => q = g) none w w7) := hid (HM6.out.trans hm7 (fun _ e => by cases e))
 have HMQ7 := hid hm7
 have HW7 := hid hw7
 have HT7 := hid ht7
 clear hm7 hw7 ht7
 have HT67 := hid (HT6.out.movedG HMQ7.out)
 have HC8 := hid (HHG.out w7 f7 A6 n6 c6 A7 n7 c7 u a (by omega) (by omega) HW7.out HT67.out HT7.out HFV.out.1 HFW.out.1)
 cases hE8 : gvD b d f7 u a with
 | er z =>
  rw [hE8] at HC8 HRC
  clear hE8
  go_wp2_with fail
  refine (HC8.out).mono ?_
  rintro e w8 ⟨hm8, he8⟩
  simp only at he8
  subst he8
  have HM8 : Hid (Moved (fun q => q = g) none w w8) := hid (HM7.out.trans hm8 (fun _ e => by cases e))
  clear hm8
  go_wp2_with fail
  rw [HRC.out]
  exact ⟨rfl, HM8.out, rfl⟩
 | ok y8 f8 =>
  rw [hE8] at HC8 HRC
  clear hE8
  go_wp2_with fail
  refine (HC8.out).mono ?_
  rintro e w8 ⟨hm8, A8, n8, c8, rfl, hw8, ht8⟩
  have HM8 : Hid (Moved (fun q => q = g) none w w8) := hid (HM7.out.trans hm8 (fun _ e => by cases e))
  have HMQ8 := hid hm8
  have HW8 := hid hw8
  have HT8 := hid ht8
  clear hm8 hw8 ht8
  go_wp2_with fail
  go_ret
  rw [HRC.out]
  exact ⟨HM8.out, A8, n8, c8, rfl, HW8.out, HT8.out⟩
end Go.Proofs.Ytjllmblbbgojbaa
