/- Merged: Fue, Join. -/
import Derived.Test.YtjoddliplahgkaaCWhL
import Derived.Test.YtjoddliplahgkaaCNmE
import Derived.Test.YtjoddliplahgkaaChecked
import Derived.Test.YtjoddliplahgkaaCBase
import Derived.ProofKit
import Derived.SizedLaws
import Derived.Deep.Slices
import Derived.Deep.Fields
namespace Go.Proofs.Ytjoddliplahgkaa
section
open Go.Lib (hid)
set_option maxHeartbeats 4000000
set_option maxRecDepth 100000
set_option linter.unusedVariables false
set_option linter.unusedSimpArgs false
open Go.RowKit
theorem wh_err {b : Bk} {cv : List (List Nd)} : ∀ (g n : Nat) (f : Fc) (room z : Int), whF b cv g n f room = .bad z → z ≠ 0
 | 0, n, f, room, z, h => by injection h with h; omega
 | g + 1, n, f, room, z, h => by
  have key : ∀ (n : Nat) (f : Fc), whT b cv g n f room = .bad z → z ≠ 0 := by
   intro n f h
   unfold whT at h
   split at h
   · split at h
     · injection h with h; omega
     split at h
     · injection h with h; omega
     split at h
     · injection h with h; omega
     exact wh_err g _ _ _ z h
   cases h
  cases hp : partF f with
  | none =>
   rw [wh_none hp] at h
   exact key _ _ h
  | some p =>
   rw [wh_part hp] at h
   cases hw : whF b cv g n (hdW p) (room - fsz f + szT p) with
   | bad e =>
    rw [hw] at h
    injection h with h
    subst h
    exact wh_err g _ _ _ _ hw
   | done y m =>
    rw [hw] at h
    exact key _ _ h
theorem nms_err {nm : List (List Nd) → Nat → TT → NmR} {cvs : Nat → List (List Nd)} (H : ∀ cv n x z, nm cv n x = .bad z → z ≠ 0) : ∀ (L : List TT) (i n : Nat) (z : Int), nmsL nm cvs i L n = .bad z → z ≠ 0
 | [], _, _, _, h => by cases h
 | x :: r, i, n, z, h => by
  rw [nms_cons] at h
  cases h1 : nm (cvs i) n x with
  | bad e => rw [h1] at h; injection h with h; subst h; exact H _ _ _ _ h1
  | done y m =>
   rw [h1] at h
   simp only at h
   cases h2 : nmsL nm cvs (i + 1) r m with
   | bad e => rw [h2] at h; injection h with h; subst h; exact nms_err H r _ _ _ h2
   | done zs k => rw [h2] at h; cases h
theorem nmF_err {b : Bk} : ∀ (g : Nat) (cv : List (List Nd)) (n : Nat) (x : TT) (z : Int), nmF b g cv n x = .bad z → z ≠ 0
 | 0, _, _, _, _, h => by injection h with h; omega
 | g + 1, cv, n, x, z, h => by
  cases hw : whN b cv n (hdW x) 4096 with
  | bad e => rw [nmF_bad hw] at h; injection h with h; subst h; exact wh_err _ _ _ _ _ hw
  | done f m =>
   rw [nmF_done hw] at h
   cases h1 : nmsL (nmF b g) (kidCv cv f.1.1) 0 (kidL f.1.2.2) m with
   | bad e => rw [nmE_kbad h1] at h; injection h with h; subst h; exact nms_err (nmF_err g) _ _ _ _ h1
   | done ks n2 =>
    cases h2 : nmsL (nmF b g) (fun _ => cv) 0 f.2 n2 with
    | bad e => rw [nmE_abad h1 h2] at h; injection h with h; subst h; exact nms_err (nmF_err g) _ _ _ _ h2
    | done rs n3 =>
     rw [nmE_done h1 h2] at h
     split at h
     · injection h with h; omega
     · split at h
       · injection h with h; omega
       cases h
theorem clip_nat {F : Nat} (h : F ≤ 1000) : clipN (F : Int) = F := by unfold clipN; omega
def runL (norm : Bool) (b : Bk) (bs : List (List Nd × List Nd)) (l : List Nd) (fuel : Int) : List Nd × Int × Int := if norm = true then normC b bs l fuel else whnfC b bs l fuel
theorem fuel_cases (norm : Bool) (b : Bk) (bs : List (List Nd × List Nd)) (l : List Nd) {F : Nat} (hF : F ≤ 200) : (∃ z, z ≠ 0 ∧ runL norm b bs l (F : Int) = ([], 0, z)) ∨ ∃ (l' : List Nd) (m : Nat), m ≤ F ∧ l'.length ≤ 4096 ∧ runL norm b bs l (F : Int) = (l', (m : Int), 0) ∧ (∀ j : Nat, j ≤ 455 → F ≤ j + m → runL norm b bs l (j : Int) = (l', ((j + m - F : Nat) : Int), 0)) ∧ (∀ j : Nat, j ≤ 455 → j + m < F → runL norm b bs l (j : Int) = ([], 0, 10)) := by
 by_cases h0 : fitsC b bs l = 0
 rotate_left
 · refine .inl ⟨fitsC b bs l, h0, ?_⟩
   cases norm
   · show runC (fitsC b bs l) _ = _
     unfold runC
     rw [if_pos h0]
   show runC (fitsC b bs l) _ = _
   unfold runC
   rw [if_pos h0]
 obtain ⟨q1, q2, q3, q4, q5⟩ := fits_c h0
 have hsz := foc_sz q5
 have h4 : szT (treeAt l) ≤ 4096 := q5.few
 cases norm with
 | true =>
  have e : ∀ j : Nat, j ≤ 455 → runL true b bs l (j : Int) = runC 0 (nmQf (nmN b (cvO bs) j (treeAt l))) := fun j hj => by
   unfold runL normC nmQ
   rw [if_pos rfl, h0, clip_nat (by omega)]
  cases hn : nmN b (cvO bs) F (treeAt l) with
  | bad z => exact .inl ⟨z, nmF_err _ _ _ _ _ hn, by rw [e F (by omega), hn]; rfl⟩
  | done y m =>
   have hfit := nmN_fit q1 (nm_q h0 (by omega)) hn
   have hat := nm_at q1 _ (cvO bs) F (treeAt l) (nm_q h0 (by omega)) (Nat.lt_succ_self _) y m hn
   refine .inr ⟨rowT y, m, hfit.2, hfit.1.few, by rw [e F (by omega), hn]; rfl, fun j hj hl => ?_, fun j hj hl => ?_⟩
   · rw [e j hj, (hat j (nm_q h0 (by omega))).1 hl]; rfl
   · rw [e j hj, (hat j (nm_q h0 (by omega))).2 hl]; rfl
 | false =>
  have e : ∀ j : Nat, j ≤ 455 → runL false b bs l (j : Int) = runC 0 (whQf (whN b (cvO bs) j (hdW (treeAt l)) 4096)) := fun j hj => by
   unfold runL whnfC whQ
   rw [if_neg (by simp), h0, clip_nat (by omega)]
  cases hn : whN b (cvO bs) F (hdW (treeAt l)) 4096 with
  | bad z => exact .inl ⟨z, wh_err _ _ _ _ _ hn, by rw [e F (by omega), hn]; rfl⟩
  | done y m =>
   have hfit := whN_fit q1 q3 (foc q5) (by omega) (by omega) hn
   have hat := wh_at q1 q3 _ F (hdW (treeAt l)) 4096 (foc q5) (by omega) (by omega) (Nat.lt_succ_self _) y m hn
   have hy := hfit.1.fit (by have := hfit.2.1; omega)
   refine .inr ⟨rowT (rowF y), m, hfit.2.2, hy.few, by rw [e F (by omega), hn]; rfl, fun j hj hl => ?_, fun j hj hl => ?_⟩
   · have h9 : whN b (cvO bs) j (hdW (treeAt l)) 4096 = _ := (hat j).1 hl
     rw [e j hj, h9]; rfl
   · have h9 : whN b (cvO bs) j (hdW (treeAt l)) 4096 = _ := (hat j).2 hl
     rw [e j hj, h9]; rfl
theorem walk8_any {w : World} {v : BkVal} {b : Bk} (hb : BookV w v b) {cA : Option Addr} {cn cc : Nat} {bs : List (List Nd × List Nd)} (hc : CtxB (· < w.heap.size) w cA cn cc bs) {A : Option Addr} {n c : Nat} {l : List Nd} (ht : TermV w A n c l) (fuel F : Int) (hF : clipN F ≤ 480) (norm : Bool) :
 Calls Try.prog 15 #[.agg #[.int .i64 b.vars, .slice v.Ao v.no v.co, .slice v.Ae v.ne v.ce, .int .i64 b.nat, .slice v.Ap v.np v.cp, .slice cA cn cc, .slice A n c, .int .i64 fuel], .int .i64 F, .bool norm] w (RunO (runL norm b bs l F) w) := by
 obtain ⟨w1, hw1⟩ : ∃ w1 : World, w1 = w.alloc (.cells #[.int .i64 b.vars, .slice v.Ao v.no v.co, .slice v.Ae v.ne v.ce, .int .i64 b.nat, .slice v.Ap v.np v.cp, .slice cA cn cc, .slice A n c, .int .i64 fuel] 31) := ⟨_, rfl⟩
 have hb1 : Below w.heap.size w w1 := by rw [hw1]; exact below_alloc _ _
 have hk1 : Blk w1 w.heap.size 31 #[.int .i64 b.vars, .slice v.Ao v.no v.co, .slice v.Ae v.ne v.ce, .int .i64 b.nat, .slice v.Ap v.np v.cp, .slice cA cn cc, .slice A n c, .int .i64 fuel] := by rw [hw1]; exact Blk.new _ _ _
 have HNM := hid (rnorm_any (hb.below hb1) (hc.below hb1) (ht.below hb1) F hF)
 have HWH := hid (rwhnf_any (hb.below hb1) (hc.below hb1) (ht.below hb1) F)
 have HB1 := hid hb1
 have z1 := hk1.cell
 have hl1 : w.heap.size < w1.heap.size := hk1.lt
 clear hb hc ht hb1 hk1 hF
 go_in
 go_upto_region 1 with fail
 rw [← hw1]
 clear hw1
 cases norm with
 | true =>
  have HQ : Hid (runL true b bs l F = normC b bs l F) := hid rfl
  generalize runL true b bs l F = q at *
  generalize normC b bs l F = q2 at *
  go_wp2_with fail
  refine (HNM.out).mono ?_
  rintro e w2 ⟨hb2, A', n', c', rfl, ho⟩
  have HB2 := bto HB1 hb2
  have HO := hid (own_baseN ho HB1.out.size)
  clear hb2 ho
  go_wp2_with fail
  go_ret3
  rw [HQ.out]
  exact ⟨HB2.out, A', n', c', rfl, HO.out⟩
 | false =>
  have HQ : Hid (runL false b bs l F = whnfC b bs l F) := hid rfl
  generalize runL false b bs l F = q at *
  generalize whnfC b bs l F = q2 at *
  go_wp2_with fail
  refine (HWH.out).mono ?_
  rintro e w2 ⟨hb2, A', n', c', rfl, ho⟩
  have HB2 := bto HB1 hb2
  have HO := hid (own_baseN ho HB1.out.size)
  clear hb2 ho
  go_wp2_with fail
  go_ret3
  rw [HQ.out]
  exact ⟨HB2.out, A', n', c', rfl, HO.out⟩
theorem fuel8_law {w : World} {v : BkVal} {b : Bk} (hb : BookV w v b) {cA : Option Addr} {cn cc : Nat} {bs : List (List Nd × List Nd)} (hc : CtxB (· < w.heap.size) w cA cn cc bs) {A : Option Addr} {n c : Nat} {l : List Nd} (ht : TermV w A n c l) (fuel : Int) (mo : Int) (hp0 : 0 ≤ mo) (hp1 : mo ≤ 255) (norm : Bool) :
 Calls Try.prog 5 #[.agg #[.int .i64 b.vars, .slice v.Ao v.no v.co, .slice v.Ae v.ne v.ce, .int .i64 b.nat, .slice v.Ap v.np v.cp, .slice cA cn cc, .slice A n c, .int .i64 fuel], .int .u8 mo, .bool norm] w (BoolP true w) := by
 obtain ⟨w0, hw0⟩ : ∃ w0 : World, w0 = w.alloc (.cells #[.int .i64 b.vars, .slice v.Ao v.no v.co, .slice v.Ae v.ne v.ce, .int .i64 b.nat, .slice v.Ap v.np v.cp, .slice cA cn cc, .slice A n c, .int .i64 fuel] 31) := ⟨_, rfl⟩
 have hb0 : Below w.heap.size w w0 := by rw [hw0]; exact below_alloc _ _
 have hk0 : Blk w0 w.heap.size 31 #[.int .i64 b.vars, .slice v.Ao v.no v.co, .slice v.Ae v.ne v.ce, .int .i64 b.nat, .slice v.Ap v.np v.cp, .slice cA cn cc, .slice A n c, .int .i64 fuel] := by rw [hw0]; exact Blk.new _ _ _
 have HB0 := hid hb0
 have HK0 := hid hk0
 have HHV := hid (fun (W : World) (h : Below w.heap.size w W) => heavy8_any (hb.below h) (hc.below h) (A := A) (n := n) (c := c) fuel 200)
 have HNO := hid (fun h => heavy8_no (b := b) (bs := bs) (n := n) (fuel := fuel) (lim := 200) h)
 have HWK := hid (fun (W : World) (h : Below w.heap.size w W) (F : Int) (hF : clipN F ≤ 480) => walk8_any (hb.below h) (hc.below h) (ht.below h) fuel F hF norm)
 obtain ⟨mn, rfl⟩ : ∃ mn : Nat, mo = (mn : Int) := ⟨mo.toNat, by omega⟩
 have hwm : IntKind.i64.wrap (mn : Int) = (mn : Int) := by rw [IntKind.wrap_i64]; omega
 generalize heavy8 b bs n fuel 200 = hv at *
 clear hb hc ht hb0 hk0
 go_in
 go_upto_region 1 with fail
 rw [← hw0]
 clear hw0
 go_wp2_with fail
 refine awake8_any.mono ?_
 rintro e w1 ⟨rfl, hb1⟩
 have HB1 := bto HB0 hb1
 have HK1 := hid (HK0.out.below hb1 HK0.out.lt)
 have zk1 := HK1.out.cell
 clear hb1
 cases hv with
 | true =>
  go_wp2_with fail
  refine (HHV.out w1 HB1.out).mono ?_
  rintro e w2 ⟨rfl, hb2⟩
  have HB2 := bto HB1 hb2
  clear hb2
  go_wp2_with fail
  go_ret
  exact ⟨rfl, HB2.out⟩
 | false =>
 by_cases hneg : fuel < 0
 · have d0 : decide (fuel < 0) = true := decide_eq_true hneg
   clear hneg
   go_wp2_with fail
   refine (HHV.out w1 HB1.out).mono ?_
   rintro e w2 ⟨rfl, hb2⟩
   have HB2 := bto HB1 hb2
   have HK2 := hid (HK1.out.below hb2 HK1.out.lt)
   have zk2 := HK2.out.cell
   clear hb2 zk1
   go_wp2_with fail
   go_ret
   exact ⟨rfl, HB2.out⟩
 obtain ⟨F, rfl⟩ : ∃ F : Nat, fuel = (F : Int) := ⟨fuel.toNat, by omega⟩
 have d0 : decide ((F : Int) < 0) = false := decide_eq_false (by omega)
 have hF : F ≤ 200 := by have := (HNO.out rfl).2.2; omega
 clear hneg
 have hcs := fuel_cases norm b bs l hF
 have hwf : IntKind.i64.wrap ((F : Int) + (mn : Int)) = ((F + mn : Nat) : Int) := by rw [IntKind.wrap_i64]; omega
 have HC1 : Hid (clipN (F : Int) ≤ 480) := hid (by rw [clip_nat (by omega)]; omega)
 have HC2 : Hid (clipN ((F + mn : Nat) : Int) ≤ 480) := hid (by rw [clip_nat (by omega)]; omega)
 obtain ⟨fm, hfm⟩ : ∃ fm, fm = F + mn := ⟨_, rfl⟩
 rw [← hfm] at hwf HC2
 rcases hcs with ⟨z, hz, hq⟩ | ⟨l', m, hm, hll, hq, hq1, hq2⟩
 · have HQ := hid hq
   have dz : (z != 0) = true := by simpa using hz
   clear hq hz
   go_wp2_with fail
   refine (HHV.out w1 HB1.out).mono ?_
   rintro e w2 ⟨rfl, hb2⟩
   have HB2 := bto HB1 hb2
   have HK2 := hid (HK1.out.below hb2 HK1.out.lt)
   have zk2 := HK2.out.cell
   clear hb2 zk1
   go_wp2_with fail
   refine (HWK.out w2 HB2.out (F : Int) HC1.out).mono ?_
   rintro e w3 ⟨hb3, A3, n3, c3, rfl, ho3⟩
   rw [HQ.out] at ho3 ⊢
   have hn3 : n3 = 0 := (ownN_term ho3 (Nat.zero_le _)).len.symm
   subst hn3
   have HB3 := bto HB2 hb3
   clear hb3 ho3 zk2
   simp only
   go_wp2_with fail
   go_ret
   exact ⟨by simp, HB3.out⟩
 have HQ := hid hq
 have HQ1 := hid (hq1 fm (by omega) (by omega))
 have HLL := hid hll
 have hws : IntKind.i64.wrap ((m : Int) + (mn : Int)) = ((fm + m - F : Nat) : Int) := by rw [IntKind.wrap_i64]; omega
 obtain ⟨ms, hms⟩ : ∃ ms, ms = fm + m - F := ⟨_, rfl⟩
 rw [← hms] at hws HQ1
 by_cases hmf : m = F
 · have d1 : ((m : Int) == (F : Int)) = true := by rw [hmf]; simp
   clear hq hq1 hq2 hll hfm hms hmf
   go_wp2_with fail
   refine (HHV.out w1 HB1.out).mono ?_
   rintro e w2 ⟨rfl, hb2⟩
   have HB2 := bto HB1 hb2
   have HK2 := hid (HK1.out.below hb2 HK1.out.lt)
   have zk2 := HK2.out.cell
   clear hb2 zk1
   go_wp2_with fail
   refine (HWK.out w2 HB2.out (F : Int) HC1.out).mono ?_
   rintro e w3 ⟨hb3, A3, n3, c3, rfl, ho3⟩
   rw [HQ.out] at ho3 ⊢
   have HT3 : Hid (TermV w3 A3 n3 c3 l') := hid (ownN_term ho3 (by have := HLL.out; show l'.length ≤ _; omega))
   have HB3 := bto HB2 hb3
   have HK3 := hid (HK2.out.below hb3 HK2.out.lt)
   have zk3 := HK3.out.cell
   clear hb3 ho3 zk2
   simp only
   go_wp2_with fail
   refine (HWK.out w3 HB3.out (fm : Int) HC2.out).mono ?_
   rintro e w4 ⟨hb4, A4, n4, c4, rfl, ho4⟩
   rw [HQ1.out] at ho4 ⊢
   have HT4 : Hid (TermV w4 A4 n4 c4 l') := hid (ownN_term ho4 (by have := HLL.out; show l'.length ≤ _; omega))
   have HSM := hid (same_any w4 (HT3.out.below hb4) HT4.out)
   have HB4 := bto HB3 hb4
   have HK4 := hid (HK3.out.below hb4 HK3.out.lt)
   have zk4 := HK4.out.cell
   clear hb4 ho4 zk3
   simp only
   go_wp2_with fail
   refine (HSM.out).mono ?_
   rintro e w5 ⟨rfl, dm, rfl⟩
   go_wp2_with fail
   go_ret
   exact ⟨by simp, below_drewN HB4.out _⟩
 have d1 : ((m : Int) == (F : Int)) = false := by rw [beq_eq_false_iff_ne]; omega
 have HQ2 := hid (hq2 (F - m - 1) (by omega) (by omega))
 have HC3 : Hid (clipN ((F - m - 1 : Nat) : Int) ≤ 480) := hid (by rw [clip_nat (by omega)]; omega)
 have hv1 : IntKind.i64.wrap ((F : Int) - (m : Int)) = ((F - m : Nat) : Int) := by rw [IntKind.wrap_i64]; omega
 obtain ⟨f1, hf1⟩ : ∃ f1, f1 = F - m := ⟨_, rfl⟩
 have hv2 : IntKind.i64.wrap ((f1 : Int) - 1) = ((F - m - 1 : Nat) : Int) := by rw [IntKind.wrap_i64]; omega
 rw [← hf1] at hv1
 obtain ⟨f2, hf2⟩ : ∃ f2, f2 = F - m - 1 := ⟨_, rfl⟩
 rw [← hf2] at hv2 HQ2 HC3
 clear hq hq1 hq2 hll hfm hms hmf hf1 hf2
 go_wp2_with fail
 refine (HHV.out w1 HB1.out).mono ?_
 rintro e w2 ⟨rfl, hb2⟩
 have HB2 := bto HB1 hb2
 have HK2 := hid (HK1.out.below hb2 HK1.out.lt)
 have zk2 := HK2.out.cell
 clear hb2 zk1
 go_wp2_with fail
 refine (HWK.out w2 HB2.out (F : Int) HC1.out).mono ?_
 rintro e w3 ⟨hb3, A3, n3, c3, rfl, ho3⟩
 rw [HQ.out] at ho3 ⊢
 have HT3 : Hid (TermV w3 A3 n3 c3 l') := hid (ownN_term ho3 (by have := HLL.out; show l'.length ≤ _; omega))
 have HB3 := bto HB2 hb3
 have HK3 := hid (HK2.out.below hb3 HK2.out.lt)
 have zk3 := HK3.out.cell
 clear hb3 ho3 zk2
 simp only
 go_wp2_with fail
 refine (HWK.out w3 HB3.out (fm : Int) HC2.out).mono ?_
 rintro e w4 ⟨hb4, A4, n4, c4, rfl, ho4⟩
 rw [HQ1.out] at ho4 ⊢
 have HT4 : Hid (TermV w4 A4 n4 c4 l') := hid (ownN_term ho4 (by have := HLL.out; show l'.length ≤ _; omega))
 have HSM := hid (same_any w4 (HT3.out.below hb4) HT4.out)
 have HB4 := bto HB3 hb4
 have HK4 := hid (HK3.out.below hb4 HK3.out.lt)
 have zk4 := HK4.out.cell
 clear hb4 ho4 zk3
 simp only
 go_wp2_with fail
 refine (HSM.out).mono ?_
 rintro e w5 ⟨rfl, dm, rfl⟩
 have HB5 : Hid (Below w.heap.size w (w4.drewN dm)) := hid (below_drewN HB4.out dm)
 have zk5 : ∀ i, (w4.drewN dm).cell? ⟨w.heap.size, i, none⟩ = _ := zk4
 generalize w4.drewN dm = w5 at *
 clear zk4
 simp only [decide_true]
 go_wp2_with fail
 refine (HWK.out w5 HB5.out (f2 : Int) HC3.out).mono ?_
 rintro e w6 ⟨hb6, A6, n6, c6, rfl, ho6⟩
 rw [HQ2.out] at ho6 ⊢
 have HB6 := bto HB5 hb6
 clear hb6 ho6 zk5
 simp only
 go_wp2_with fail
 go_ret
 exact ⟨by simp, HB6.out⟩
end
section
open Go.ChangeShapes Go.WideShapes Go.ChangeAt Go.RowKit Go.Deep
theorem Try.own : ownKnob Try.prog.godebug = none := by kernel_rfl
theorem Try.laidOut : laidOutB Try.prog = true := by kernel_rfl
theorem nodeCells : Try.prog.cellsOf 50 = 3 := by kernel_rfl
theorem nodeBytes : Try.prog.bytesOf 50 = 24 := by kernel_rfl
theorem intCells : Try.prog.cellsOf 3 = 1 := by kernel_rfl
section
variable {H : Type} {enc : TypeId × Value → H}
set_option maxRecDepth 100000 in
theorem node_at {w : World} {base : Nat} {spare : Nat → Bool} {held : Bool} {n : Nat} {cs : List Value} {x : DataW H × List MemPlace} (h : DataW.trod enc Try.prog w base spare held n 50 cs = some x) : ∃ o a b : Int, cs = [.int .i64 o, .int .i64 a, .int .i64 b] := by
 obtain ⟨xs, m, _, _, hlen, hxs, hf⟩ := DataW.trod_struct Try.underlying50 h
 rw [nodeCells] at hlen
 have g0 : DataW.trod enc Try.prog w base spare held m 3 ((cs.drop 0).take (Try.prog.cellsOf 3)) = xs[0]? := hf 0 _ rfl
 have g1 : DataW.trod enc Try.prog w base spare held m 3 ((cs.drop 1).take (Try.prog.cellsOf 3)) = xs[1]? := hf 1 _ rfl
 have g2 : DataW.trod enc Try.prog w base spare held m 3 ((cs.drop 2).take (Try.prog.cellsOf 3)) = xs[2]? := hf 2 _ rfl
 have hx3 : xs.length = 3 := hxs
 rw [intCells] at g0 g1 g2
 match cs, hlen with
 | [c0, c1, c2], _ =>
  match xs, hx3 with
  | [y0, y1, y2], _ =>
   obtain ⟨o, ho, _⟩ := DataW.trod_int Try.underlying3 g0
   obtain ⟨a, ha, _⟩ := DataW.trod_int Try.underlying3 g1
   obtain ⟨b, hb, _⟩ := DataW.trod_int Try.underlying3 g2
   simp at ho ha hb
   subst ho ha hb
   exact ⟨o, a, b, rfl⟩
theorem shut_true {W : World} {base : Nat} {sp : Nat → Bool} {held : Bool} : DataW.Trod enc Try.prog W base sp held 4 (.bool true) (.lit (.bool true)) [] := ⟨1, by simp [DataW.trod, Value.cells, Try.underlying4]⟩
end
end
end Go.Proofs.Ytjoddliplahgkaa
