/- Merged: NmE, Fue. -/
import Derived.Test.YtjoddliplahgkaaDNmD
import Derived.Test.YtjoddliplahgkaaDWhG
import Derived.Test.YtjoddliplahgkaaDWhL
namespace Go.Proofs.Ytjoddliplahgkaa
section
open Go.Lib (hid)
set_option maxHeartbeats 4000000
set_option maxRecDepth 100000
set_option linter.unusedVariables false
set_option linter.unusedSimpArgs false
open Go.RowKit
def nmQf : NmR → RnR
 | .bad z => .bad z
 | .done y k => .done (rowT y) k
def nmQ (b : Bk) (cv : List (List Nd)) (x : TT) (F : Nat) : RnR := nmQf (nmN b cv F x)
theorem cnone_any {w0 : World} {g : Nat} {v : BkVal} {b : Bk} {cA : Option Addr} {cn cc : Nat} {cv : List (List Nd)} (hr : rightE b = 0) (hb : BookV w0 v b) {F : Nat} (hF : F ≤ 100000) {w : World} (hw : MaW w0 g v b cA cn cc cv F w) {p : Nat} {A : Option Addr} {n c : Nat} {x : TT} (hp : Blk w p 29 #[.slice A n c]) (ht : TermR (fun q => q < w.heap.size ∧ q ≠ g) w A n c (rowT x)) (hQ : NmQ b cv F x) :
 Calls Try.prog 45 #[.pointer (some ⟨g, 0, none⟩), .pointer (some ⟨p, 0, none⟩)] w (OneP g v b cA cn cc (nmQ b cv x F) w) := by
 have hgas := nm_gas (b := b) hr (F * 4097 + szT x + 1) cv F x hQ (by omega)
 have hnm := cnorm_any (g := g) hr hb (F * 4097 + szT x + 1) w cA cn cc cv F A n c x hw ht hQ hF hgas.1
 obtain ⟨r, hr9⟩ : ∃ r, r = nmN b cv F x := ⟨_, rfl⟩
 have e9 : nmF b (F * 4097 + szT x + 1) cv F x = r := hr9.symm
 rw [e9] at hnm
 have HNM := hid hnm
 have HQ : Hid (nmQ b cv x F = nmQf r) := hid (congrArg nmQf hr9.symm)
 have zp := hp.cell
 have hpl := hp.lt
 generalize nmQ b cv x F = rr at *
 clear hr hb hw hp ht hQ hgas hnm hr9 e9
 go_in
 go_wp2_with fail
 refine (HNM.out).mono ?_
 rintro e w2 ⟨hm2, h2⟩
 have HM2 := hid hm2
 clear hm2
 rcases h2 with ⟨z, hz, rfl⟩ | ⟨y, k, A3, n3, c3, hd, rfl, ho, hk⟩
 · have HE : Hid (rr = .bad z) := hid (HQ.out.trans (congrArg nmQf hz))
   clear hz
   go_wp2_with fail
   exact ⟨rfl, HM2.out, .inl ⟨z, HE.out, rfl⟩⟩
 have HE : Hid (rr = .done (rowT y) k) := hid (HQ.out.trans (congrArg nmQf hd))
 have HO := hid ho
 have HK := hid hk
 clear hd ho hk
 go_wp2_with fail
 go_ret
 exact ⟨HM2.out, .inr ⟨_, k, A3, n3, c3, HE.out, rfl, HO.out, HK.out⟩⟩
theorem coreNorm_any {w : World} {v : BkVal} {b : Bk} {cA : Option Addr} {cn cc : Nat} {cv : List (List Nd)} (hr : rightE b = 0) (hb : BookV w v b) (hcw : CtxW (· < w.heap.size) w cA cn cc cv) {A : Option Addr} {n c : Nat} {x : TT} (ht : TermV w A n c (rowT x)) (fuel : Int) (hQ : NmQ b cv (clipN fuel) x) :
 Calls Try.prog 27 #[.agg #[.int .i64 b.vars, .slice v.Ao v.no v.co, .slice v.Ae v.ne v.ce, .int .i64 b.nat, .slice v.Ap v.np v.cp], .slice cA cn cc, .slice A n c, .int .i64 fuel] w (RunA (nmQ b cv x (clipN fuel)) w) := by
 have hmf : ∀ (fn : Fn) (first cap : Array Value) (w : World), (Instr.makeFunc fn first cap).run Try.prog w = .ok (.func fn first cap) w := fun _ _ _ _ => rfl
 obtain ⟨w1, hw1⟩ : ∃ w1 : World, w1 = (w.alloc (.cells #[.int .i64 b.vars, .slice v.Ao v.no v.co, .slice v.Ae v.ne v.ce, .int .i64 b.nat, .slice v.Ap v.np v.cp] 26)).alloc (.cells #[.slice A n c] 29) := ⟨_, rfl⟩
 have hb1 : Below w.heap.size w w1 := by rw [hw1]; exact below_alloc2 _ _ _
 have k0 : Blk w1 w.heap.size 26 #[.int .i64 b.vars, .slice v.Ao v.no v.co, .slice v.Ae v.ne v.ce, .int .i64 b.nat, .slice v.Ap v.np v.cp] := by rw [hw1]; exact (Blk.new _ _ _).alloc _
 have k1 : Blk w1 (w.heap.size + 1) 29 #[.slice A n c] := by rw [hw1]; exact Blk.new' (by simp)
 have z0 := k0.cell
 have z1 := k1.cell
 have hl1 : w.heap.size + 1 < w1.heap.size := k1.lt
 have hF1 : clipN fuel ≤ 100000 := by unfold clipN; omega
 have HB1 := hid hb1
 have HRN := hid (crun_any (A := A) (n := n) (c := c) (hb.below hb1) (hcw.keep fun q hq => ⟨Nat.lt_of_lt_of_le hq hb1.size, fun o => hb1.cell (p := ⟨q, o, none⟩) hq⟩) fuel (fid := 45) (p := w.heap.size + 1) (r := nmQ b cv x (clipN fuel)) (fun _ _ => by kernel_rfl) (fun g W hB hM => cnone_any hr (hb.below hb1) hF1 hM (k1.below hB hl1) (TermR.keep ht (R' := fun q => q < W.heap.size ∧ q ≠ g) (w' := W) fun q hq => ⟨⟨Nat.lt_of_lt_of_le hq (Nat.le_trans hb1.size hB.size), by have := hM.ge; have := hb1.size; omega⟩, fun o => (hb1.trans (hB.mono hb1.size)).cell (p := ⟨q, o, none⟩) hq⟩) hQ))
 clear hr hb hcw ht hQ hb1 k0 k1 hF1
 generalize nmQ b cv x (clipN fuel) = rr at *
 go_in
 go_upto_region 1 with fail
 rw [← hw1]
 clear hw1
 go_wp2_with fail
 refine (HRN.out).mono ?_
 rintro e w2 h2
 have h3 := h2.base HB1.out
 clear h2
 obtain ⟨hb3, h4⟩ := h3
 rcases h4 with ⟨z, hz, rfl⟩ | ⟨l, k, A7, n7, c7, hd, rfl, ho⟩
 · have HP : Hid (RunA rr w (.returned (.tuple #[.slice none 0 0, .int .i64 0, .int .i64 z])) w2) := hid ⟨hb3, .inl ⟨z, hz, rfl⟩⟩
   clear hz hb3
   go_wp2_with fail
   go_ret3
   exact HP.out
 have HP : Hid (RunA rr w (.returned (.tuple #[.slice A7 n7 c7, .int .i64 (k : Int), .int .i64 0])) w2) := hid ⟨hb3, .inr ⟨l, k, A7, n7, c7, hd, rfl, ho⟩⟩
 clear hd hb3 ho
 go_wp2_with fail
 go_ret3
 exact HP.out
def normC (b : Bk) (bs : List (List Nd × List Nd)) (l : List Nd) (fuel : Int) : List Nd × Int × Int := runC (fitsC b bs l) (nmQ b (cvO bs) (treeAt l) (clipN fuel))
theorem nm_q {b : Bk} {bs : List (List Nd × List Nd)} {l : List Nd} {F : Nat} (h : fitsC b bs l = 0) (hF : F ≤ 480) : NmQ b (cvO bs) F (treeAt l) := by
 obtain ⟨q1, q2, q3, q4, q5⟩ := fits_c h
 have h4 : szT (treeAt l) ≤ 4096 := q5.few
 refine ⟨q3, q5, ?_⟩
 unfold Bud
 rw [List.length_map]
 omega
theorem rnorm_any {w : World} {v : BkVal} {b : Bk} (hb : BookV w v b) {cA : Option Addr} {cn cc : Nat} {bs : List (List Nd × List Nd)} (hc : CtxB (· < w.heap.size) w cA cn cc bs) {A : Option Addr} {n c : Nat} {l : List Nd} (ht : TermV w A n c l) (fuel : Int) (hF : clipN fuel ≤ 480) :
 Calls Try.prog 16 #[.agg #[.int .i64 b.vars, .slice v.Ao v.no v.co, .slice v.Ae v.ne v.ce, .int .i64 b.nat, .slice v.Ap v.np v.cp], .slice cA cn cc, .slice A n c, .int .i64 fuel] w (RunO (normC b bs l fuel) w) := by
 obtain ⟨w1, hw1⟩ : ∃ w1 : World, w1 = w.alloc (.cells #[.int .i64 b.vars, .slice v.Ao v.no v.co, .slice v.Ae v.ne v.ce, .int .i64 b.nat, .slice v.Ap v.np v.cp] 26) := ⟨_, rfl⟩
 have hb1 : Below w.heap.size w w1 := by rw [hw1]; exact below_alloc _ _
 have hk1 : Blk w1 w.heap.size 26 #[.int .i64 b.vars, .slice v.Ao v.no v.co, .slice v.Ae v.ne v.ce, .int .i64 b.nat, .slice v.Ap v.np v.cp] := by rw [hw1]; exact Blk.new _ _ _
 have HRN := hid (rrun_any (hb.below hb1) (hc.below hb1) (ht.below hb1) fuel (fid := 27) (r := nmQ b (cvO bs) (treeAt l) (clipN fuel)) (fun _ _ => by kernel_rfl) (fun h0 W hB => by
  obtain ⟨q1, q2, q3, q4, q5⟩ := fits_c h0
  have hcn : cn ≤ 256 := by have := hc.len; omega
  have hB2 := hb1.trans (hB.mono hb1.size)
  exact coreNorm_any (w := W) q1 (hb.below hB2) ((hc.below hB2).vals (by omega)) (by rw [← q4]; exact ht.below hB2) fuel (nm_q h0 hF)))
 have HB1 := hid hb1
 have z1 := hk1.cell
 unfold normC
 generalize runC (fitsC b bs l) (nmQ b (cvO bs) (treeAt l) (clipN fuel)) = q at *
 clear hb hc ht hb1 hk1 hF
 go_in
 go_upto_region 1 with fail
 rw [← hw1]
 clear hw1
 go_wp2_with fail
 refine (HRN.out).mono ?_
 rintro e w2 ⟨hb2, A', n', c', rfl, ho⟩
 have HB2 := bto HB1 hb2
 have HO := hid (own_baseN ho HB1.out.size)
 clear hb2 ho
 go_wp2_with fail
 go_ret3
 exact ⟨HB2.out, A', n', c', rfl, HO.out⟩
end
section
open Go.RowKit
theorem wh_err {b : Bk} {cv : List (List Nd)} : ∀ (g n : Nat) (f : Fc) (room z : Int), whF b cv g n f room = .bad z → z ≠ 0
 | 0, n, f, room, z, h => by injection h with h; omega
 | g + 1, n, f, room, z, h => by
  have key : ∀ (n : Nat) (f : Fc), whT b cv g n f room = .bad z → z ≠ 0 := by
   intro n f h
   unfold whT at h
   split at h
   · split at h
     · injection h with h; omega
     split at h
     · injection h with h; omega
     split at h
     · injection h with h; omega
     exact wh_err g _ _ _ z h
   cases h
  cases hp : partF f with
  | none =>
   rw [wh_none hp] at h
   exact key _ _ h
  | some p =>
   rw [wh_part hp] at h
   cases hw : whF b cv g n (hdW p) (room - fsz f + szT p) with
   | bad e =>
    rw [hw] at h
    injection h with h
    subst h
    exact wh_err g _ _ _ _ hw
   | done y m =>
    rw [hw] at h
    exact key _ _ h
theorem nms_err {nm : List (List Nd) → Nat → TT → NmR} {cvs : Nat → List (List Nd)} (H : ∀ cv n x z, nm cv n x = .bad z → z ≠ 0) : ∀ (L : List TT) (i n : Nat) (z : Int), nmsL nm cvs i L n = .bad z → z ≠ 0
 | [], _, _, _, h => by cases h
 | x :: r, i, n, z, h => by
  rw [nms_cons] at h
  cases h1 : nm (cvs i) n x with
  | bad e => rw [h1] at h; injection h with h; subst h; exact H _ _ _ _ h1
  | done y m =>
   rw [h1] at h
   simp only at h
   cases h2 : nmsL nm cvs (i + 1) r m with
   | bad e => rw [h2] at h; injection h with h; subst h; exact nms_err H r _ _ _ h2
   | done zs k => rw [h2] at h; cases h
theorem nmF_err {b : Bk} : ∀ (g : Nat) (cv : List (List Nd)) (n : Nat) (x : TT) (z : Int), nmF b g cv n x = .bad z → z ≠ 0
 | 0, _, _, _, _, h => by injection h with h; omega
 | g + 1, cv, n, x, z, h => by
  cases hw : whN b cv n (hdW x) 4096 with
  | bad e => rw [nmF_bad hw] at h; injection h with h; subst h; exact wh_err _ _ _ _ _ hw
  | done f m =>
   rw [nmF_done hw] at h
   cases h1 : nmsL (nmF b g) (kidCv cv f.1.1) 0 (kidL f.1.2.2) m with
   | bad e => rw [nmE_kbad h1] at h; injection h with h; subst h; exact nms_err (nmF_err g) _ _ _ _ h1
   | done ks n2 =>
    cases h2 : nmsL (nmF b g) (fun _ => cv) 0 f.2 n2 with
    | bad e => rw [nmE_abad h1 h2] at h; injection h with h; subst h; exact nms_err (nmF_err g) _ _ _ _ h2
    | done rs n3 =>
     rw [nmE_done h1 h2] at h
     split at h
     · injection h with h; omega
     · split at h
       · injection h with h; omega
       cases h
theorem clip_nat {F : Nat} (h : F ≤ 1000) : clipN (F : Int) = F := by unfold clipN; omega
end
end Go.Proofs.Ytjoddliplahgkaa
