/- core: norm. -/
import Derived.Test.YtjoddliplahgkaaDShort2
import Derived.Test.YtjoddliplahgkaaDNmC
namespace Go.Proofs.Ytjoddliplahgkaa
open Go.Lib (hid)
open Go.RowKit
theorem nmF_bad {b : Bk} {gas k : Nat} {cv : List (List Nd)} {x : TT} {z : Int} (h : whN b cv k (hdW x) 4096 = .bad z) : nmF b (gas + 1) cv k x = .bad z := by
 conv => lhs; unfold nmF
 rw [h]
theorem nmF_done {b : Bk} {gas k m : Nat} {cv : List (List Nd)} {x : TT} {f : Fc} (h : whN b cv k (hdW x) 4096 = .done f m) : nmF b (gas + 1) cv k x = nmE (nmF b gas) cv f m := by
 conv => lhs; unfold nmF
 rw [h]
theorem nmE_kbad {nm : List (List Nd) → Nat → TT → NmR} {cv : List (List Nd)} {f : Fc} {n : Nat} {z : Int} (h : nmsL nm (kidCv cv f.1.1) 0 (kidL f.1.2.2) n = .bad z) : nmE nm cv f n = .bad z := by
 unfold nmE
 rw [h]
theorem nmE_abad {nm : List (List Nd) → Nat → TT → NmR} {cv : List (List Nd)} {f : Fc} {n n2 : Nat} {ks : List TT} {z : Int} (h : nmsL nm (kidCv cv f.1.1) 0 (kidL f.1.2.2) n = .done ks n2) (h2 : nmsL nm (fun _ => cv) 0 f.2 n2 = .bad z) : nmE nm cv f n = .bad z := by
 unfold nmE
 rw [h]
 simp only
 rw [h2]
theorem nmE_done {nm : List (List Nd) → Nat → TT → NmR} {cv : List (List Nd)} {f : Fc} {n n2 n3 : Nat} {ks rs : List TT} (h : nmsL nm (kidCv cv f.1.1) 0 (kidL f.1.2.2) n = .done ks n2) (h2 : nmsL nm (fun _ => cv) 0 f.2 n2 = .done rs n3) : nmE nm cv f n = if 4096 < szT (withKs f.1 ks) then .bad 9 else if 4096 < szT (withKs f.1 ks) + argsN rs then .bad 9 else .done (apps (withKs f.1 ks) rs) n3 := by
 unfold nmE
 rw [h]
 simp only
 rw [h2]
def NormP (g : Nat) (v : BkVal) (b : Bk) (cA : Option Addr) (cn cc : Nat) (r : NmR) (w : World) (e : Ending) (w' : World) : Prop := Moved (fun q => q = g) none w w' ∧ ((∃ z, r = .bad z ∧ e = .panicked (CFail z)) ∨ ∃ y k A n c, r = .done y k ∧ e = .returned (.slice A n c) ∧ OwnN w' w.heap.size (.slice A n c) (rowT y) ∧ Blk w' g 79 (McA v b cA cn cc k))
def OrRow (g : Nat) (v : Value) (q : Nat) : Prop := q = g ∨ v.ownBlock = some q
theorem moved_row {g : Nat} {v : Value} {w w' : World} (h : Moved (fun q => q = g) none w w') : Moved (OrRow g v) none w w' := h.mono fun _ e => .inl e
theorem moved_old {g : Nat} {v : Value} {w w7 w' : World} (h : Moved (fun q => q = g) none w w7) (h2 : Moved (OrRow g v) none w7 w') (hv : ∀ q, v.ownBlock = some q → w.heap.size ≤ q) : Moved (fun q => q = g) none w w' :=
 ⟨h2.os.trans h.os, h2.tape.trans h.tape, h2.output.trans h.output, Nat.le_trans h.size h2.size, fun q hq hs hn => (h2.block q (Nat.lt_of_lt_of_le hq h.size) (fun e => by
  rcases e with e | e
  · exact hs e
  have := hv q e; omega) (by simp)).trans (h.block q hq hs hn)⟩
theorem own_moved {g base sz m : Nat} {w w' : World} {e : TypeId} {v : Value} {xs : List Value} (h : w.ownsRow base e sz v m xs) (hm : Moved (fun q => q = g) none w w') (hg : g < base) : w'.ownsRow base e sz v m xs := rows_movedT h hm hg
theorem aside_moved {g base : Nat} {w w' : World} {v : Value} {xs : List Value} {ls : List (List Nd)} (h : RowsC (Aside base w v) w xs ls) (hm : Moved (fun q => q = g) none w w') (hg : g < base) : RowsC (Aside base w' v) w' xs ls :=
 RowsC.keep (fun q hq => ⟨⟨hq.1, Nat.lt_of_lt_of_le hq.2.1 hm.size, hq.2.2⟩, fun o => cell_of_heap (hm.block q hq.2.1 (by have := hq.1; omega) (by simp)) o⟩) h
theorem row_put {base m c gk : Nat} {w : World} {xs : List Value} {L : List TT} (ho : w.ownsRow base 29 1 (.slice (some ⟨gk, 0, none⟩) m c) m xs) (hr : RowsC (Aside base w (.slice (some ⟨gk, 0, none⟩) m c)) w xs (L.map rowT)) {A : Option Addr} {n c' b2 : Nat} {y : TT} (hy : OwnN w b2 (.slice A n c') (rowT y)) (hb : base ≤ b2) (hgk : gk < b2) (hl : (rowT y).length ≤ 4096) (i : Nat) :
 (w.setCell ⟨gk, i, none⟩ (.slice A n c')).ownsRow base 29 1 (.slice (some ⟨gk, 0, none⟩) m c) m (xs.set i (.slice A n c')) ∧ RowsC (Aside base (w.setCell ⟨gk, i, none⟩ (.slice A n c')) (.slice (some ⟨gk, 0, none⟩) m c)) (w.setCell ⟨gk, i, none⟩ (.slice A n c')) (xs.set i (.slice A n c')) ((L.set i y).map rowT) := by
 refine ⟨own_setv ho i _, ?_⟩
 have hne : ∀ q, q ≠ gk → ∀ o, (w.setCell ⟨gk, i, none⟩ (.slice A n c')).cell? ⟨q, o, none⟩ = w.cell? ⟨q, o, none⟩ := fun q hq o => cell_of_heap (Below.heap_setCell w ⟨gk, i, none⟩ _ q hq) o
 have hown : ∀ q, (Value.slice (some ⟨gk, 0, none⟩) m c).ownBlock ≠ some q → q ≠ gk := fun q h e => h (by rw [e]; rfl)
 rw [List.map_set]
 refine RowsC.setAt ?_ i (RowsC.keep (fun q hq => ⟨⟨hq.1, by rw [size_setT]; exact hq.2.1, hq.2.2⟩, hne q (hown q hq.2.2)⟩) hr)
 have ht : TermV w A n c' (rowT y) := ownN_term hy (by omega)
 refine ⟨ht.len, ht.cap, ht.few, ht.nul, fun hp => ?_⟩
 obtain ⟨b, off, e, hb', hm⟩ := ht.mem hp
 subst e
 have hbl := ownsRow_block hy (g := b) rfl
 have hbg : b ≠ gk := by have := hbl.1; omega
 refine ⟨b, off, rfl, ⟨Nat.le_trans hb hbl.1, by rw [size_setT]; exact hb', fun e => by injection e with e; exact hbg e.symm⟩, fun j hj => ?_⟩
 obtain ⟨h1, h2, h3⟩ := hm j hj
 exact ⟨(hne b hbg _).trans h1, (hne b hbg _).trans h2, (hne b hbg _).trans h3⟩
set_option linter.unusedSimpArgs false in
set_option linter.unusedVariables false in
set_option maxRecDepth 100000 in
set_option maxHeartbeats 4000000 in
theorem cnorm_any {w0 : World} {g : Nat} {v : BkVal} {b : Bk} (hr : rightE b = 0) (hb : BookV w0 v b) : ∀ (gas : Nat) (w : World) (cA : Option Addr) (cn cc : Nat) (cv : List (List Nd)) (k : Nat) (A : Option Addr) (n c : Nat) (x : TT), MaW w0 g v b cA cn cc cv k w → TermR (fun q => q < w.heap.size ∧ q ≠ g) w A n c (rowT x) → NmQ b cv k x → k ≤ 100000 → nmF b gas cv k x ≠ .bad 99 →
 Calls Try.prog 46 #[.pointer (some ⟨g, 0, none⟩), .slice A n c] w (NormP g v b cA cn cc (nmF b gas cv k x) w) := by
 intro gas
 induction gas with
 | zero => intro w cA cn cc cv k A n c x _ _ _ _ h9; exact absurd rfl h9
 | succ gas ih =>
 intro w cA cn cc cv k A n c x hw ht hQ hk h99
 have IH := hid ih
 clear ih
 obtain ⟨hc, hx, hB⟩ := hQ
 have hcf := hc.few
 obtain ⟨res, hres⟩ : ∃ r, r = nmF b (gas + 1) cv k x := ⟨_, rfl⟩
 rw [← hres] at h99 ⊢
 have HRES := hid hres
 have H99 := hid h99
 have hsz := foc_sz hx
 have hszx : szT x ≤ 4096 := hx.few
 have HFO := hid (focused_any (ht.keep fun q hq => ⟨hq.1, fun _ => rfl⟩) hx)
 have hgas := wh_gas hr hc (k * 4097 + fsz (hdW x) + 1) k (hdW x) 4096 (foc hx) (by omega) (by omega) (by omega)
 obtain ⟨rwh, hr1⟩ : ∃ r, r = whN b cv k (hdW x) 4096 := ⟨_, rfl⟩
 have e9 : whF b cv (k * 4097 + fsz (hdW x) + 1) k (hdW x) 4096 = rwh := hr1.symm
 have HWH := hid (fun (W : World) (hB : Below w.heap.size w W) (A4 B4 : Option Addr) (n4 c4 m4 d4 : Nat) (h9 : FocO w.heap.size W (hdW x) A4 n4 c4 B4 m4 d4) => cwhnf_any (w0 := w0) (g := g) (cA := cA) (cn := cn) (cc := cc) hr hb hc (by omega) (k * 4097 + fsz (hdW x) + 1) _ (Nat.le_refl _) W (hdW x) A4 B4 n4 c4 m4 d4 w.heap.size k 4096 (hw.below hB) hw.lt hB.size h9 (foc hx) (by omega) (by omega) (by omega) hgas.1)
 rw [e9] at HWH
 have HW := hid hw
 have HBK := hid hb
 have HR := hid hr
 have HC := hid hc
 have HX := hid hx
 have HBU := hid hB
 have HKK := hid hk
 have HR1 := hid hr1
 have hgw := hw.lt
 have hgw0 := hw.ge
 clear hr hb hc hx hB hw ht hres h99 hsz hszx hgas hr1 e9 hk
 go_in
 go_wp2_with fail
 refine (HFO.out).mono ?_
 rintro e w2 ⟨hb2, A2, n2, c2, B2, m2, d2, rfl, hf2⟩
 have HB2 := hid hb2
 have HF2 := hid hf2
 clear hb2 hf2
 go_wp2_with fail
 refine (HWH.out w2 HB2.out A2 B2 n2 c2 m2 d2 HF2.out).mono ?_
 rintro e w3 ⟨hm3, h3⟩
 have HM3 : Hid (Moved (fun q => q = g) none w w3) := hid ((Moved.of_below HB2.out).trans (row' := none) hm3 (fun _ e => by cases e))
 clear hm3
 rcases h3 with ⟨z, hz, rfl⟩ | ⟨f, m, A3, n3, c3, B3, m3, d3, hd, rfl, hf3, hk3⟩
 · have HE : Hid (res = .bad z) := hid (HRES.out.trans (nmF_bad (HR1.out.symm.trans hz)))
   clear hz
   go_wp2_with fail
   exact ⟨rfl, HM3.out, .inl ⟨z, HE.out, rfl⟩⟩
 have hwd := HR1.out.symm.trans hd
 have HE : Hid (res = nmE (nmF b gas) cv f m) := hid (HRES.out.trans (nmF_done hwd))
 have HBD := hid (wh_bud HR.out HC.out HX.out HBU.out hwd)
 have HF3 := hid hf3
 have HK3 := hid hk3
 obtain ⟨b5, hb5⟩ : ∃ b5, b5 = w3.heap.size := ⟨_, rfl⟩
 obtain ⟨w4, hw4⟩ : ∃ w4 : World, w4 = w3.alloc (.cells #[.slice A3 n3 c3, .slice B3 m3 d3] 70) := ⟨_, rfl⟩
 have hb34 : Below w3.heap.size w3 w4 := by rw [hw4]; exact below_alloc _ _
 have hk5 : Blk w4 b5 70 #[.slice A3 n3 c3, .slice B3 m3 d3] := by rw [hw4]; exact Blk.new' hb5
 have HM4 : Hid (Moved (fun q => q = g) none w w4) := hid (HM3.out.trans (row' := none) (Moved.of_below hb34) (fun _ e => by cases e))
 have HF4 := hid (hf3.below hb34)
 have HG4 := hid (hk3.below hb34 hk3.lt)
 have HK5 := hid hk5
 have hs34 := hb34.size
 have hsw3 := HM3.out.size
 have hl5 : b5 < w4.heap.size := hk5.lt
 have z5 := hk5.cell
 have hft : FitT b (cv.length : Int) f.1 := HBD.out.1.head
 have hkid := kids7_any (w := w4) (HF4.out.1.keep (R' := (· < w4.heap.size)) fun q hq => ⟨hq.2.1, fun _ => rfl⟩) hft.rt.shape
 rw [top_fit hft] at hkid
 have HKI := hid hkid
 have HFT := hid hft
 have HLH := hid (fun (W : World) (hB : Below w4.heap.size w4 W) => TermR.keep HF4.out.1 (R' := (· < W.heap.size)) (w' := W) fun q hq => ⟨Nat.lt_of_lt_of_le hq.2.1 hB.size, fun o => hB.cell (p := ⟨q, o, none⟩) hq.2.1⟩)
 have hb5w : w.heap.size ≤ b5 := by omega
 have hb53 : w3.heap.size ≤ b5 := by omega
 clear hd hf3 hk3 hwd hk5 hb34 hft hkid
 go_upto_region 2 with fail
 rw [← hb5, ← hw4]
 clear hw4 hb5
 go_wp2_with fail
 refine (HKI.out).mono ?_
 rintro e w5 ⟨hb45, Ak, nk, ck, xs, rfl, hok, hrk⟩
 have HB45 := hid hb45
 have HOK5 := hid hok
 have HRK5 := hid hrk
 have hnk : nk = (kidL f.1.2.2).length := by have := hrk.len; have := hok.1; rw [List.length_map] at *; omega
 have HNK := hid hnk
 have hs45 := hb45.size
 have zf5 := fun i => (hb45.cell (p := ⟨b5, i, none⟩) hl5).trans (z5 i)
 have hbd := bindersF_any (HLH.out w5 hb45) HFT.out.rt.shape
 rw [(binders_fit HFT.out).1, (binders_fit HFT.out).2] at hbd
 have HBI := hid hbd
 clear hb45 hok hrk hnk hbd
 go_wp2_with fail
 refine (HBI.out).mono ?_
 rintro e w6 ⟨hb56, Ar, nr, cr, rfl, hir⟩
 have HB46 := bto HB45 hb56
 have HB56 := hid hb56
 have HIR6 := hid hir
 have hnr : nr = (kidL f.1.2.2).length := by have := hir.len; rw [arL_len] at this; rw [kid_flen]; exact this.symm
 have HNR := hid hnr
 have hs56 := hb56.size
 have zf6 := fun i => (HB46.out.cell (p := ⟨b5, i, none⟩) hl5).trans (z5 i)
 have HOK6 := hid (own_below HOK5.out hb56)
 have HRK6 : Hid (RowsC (Aside w4.heap.size w6 (.slice Ak nk ck)) w6 xs ((kidL f.1.2.2).map rowT)) := hid (RowsC.keep (fun q hq => ⟨⟨hq.1, Nat.lt_of_lt_of_le hq.2.1 hb56.size, hq.2.2⟩, fun o => hb56.cell (p := ⟨q, o, none⟩) hq.2.1⟩) HRK5.out)
 have hkf := kids_few HFT.out
 have HKR6 := hid (own_rowsQ HOK6.out (by rw [List.length_map]; exact HNK.out) (by have := HNK.out; omega) HRK6.out (R := (· < w6.heap.size)) (fun q hq => hq.2.1) (fun q hq => (ownsRow_block HOK6.out hq).2.1))
 have HBN := hid (cbinds_any (by omega) (by omega) (HLH.out w6 HB46.out) HFT.out HKR6.out)
 clear hb56 hir hnr zf5
 go_wp2_with fail
 refine (HBN.out).mono ?_
 rintro e w7 ⟨hb67, Ad, cd, bx, rfl, hbl, hbs, hob⟩
 have HB47 := bto HB46 hb67
 have hs67 := hb67.size
 obtain ⟨nd, hnd⟩ : ∃ nd, nd = bindsN f.1.1 := ⟨_, rfl⟩
 rw [← hnd] at hbl hob ⊢
 have hnd1 : nd ≤ 1000 := by
  have hok := HFT.out.okt.ok
  simp only [okN, Bool.and_eq_true] at hok
  have hpl := plainB_iff.1 hok.1.1
  rw [hnd]
  unfold bindsN
  split
  · omega
  split <;> omega
 have HND := hid hnd
 have HBW7 := hid (BndW.of_own hob hbl hbs hnd1)
 have HADF : Hid (∀ q, Ad = some ⟨q, 0, none⟩ → w6.heap.size ≤ q) := hid (fun q e => by subst e; exact (ownsRow_block hob rfl).1)
 have HOK7 := hid (own_below HOK6.out hb67)
 have HRK7 : Hid (RowsC (Aside w4.heap.size w7 (.slice Ak nk ck)) w7 xs ((kidL f.1.2.2).map rowT)) := hid (RowsC.keep (fun q hq => ⟨⟨hq.1, Nat.lt_of_lt_of_le hq.2.1 hb67.size, hq.2.2⟩, fun o => hb67.cell (p := ⟨q, o, none⟩) hq.2.1⟩) HRK6.out)
 have HIR7 : Hid (IntsR (fun q => w5.heap.size ≤ q ∧ q < w6.heap.size) w7 Ar nr cr (arL f.1.1.op f.1.1.b 0 f.1.2.2)) := hid (HIR6.out.keep fun q hq => ⟨hq, fun o => hb67.cell (p := ⟨q, o, none⟩) hq.2⟩)
 have HG7 := hid (HG4.out.below HB47.out HG4.out.lt)
 have HM7 : Hid (Moved (fun q => q = g) none w w7) := hid (HM4.out.trans (row' := none) (Moved.of_below HB47.out) (fun _ e => by cases e))
 have HKB : Hid (∀ q, (Value.slice Ak nk ck).ownBlock = some q → w4.heap.size ≤ q ∧ q < w5.heap.size) := hid (fun q e => ⟨(ownsRow_block HOK5.out e).1, (ownsRow_block HOK5.out e).2.1⟩)
 have zg7 := HG7.out.cell
 have hgl7 : g < w7.heap.size := HG7.out.lt
 have hg4 : g < w4.heap.size := HG4.out.lt
 have HCL := hid (fun (W : World) => clipB_any (w := W) HW.out.ctx.cap HW.out.ctx.nul)
 have hcn9 : cn ≤ 990000 := by have := HW.out.ctx.len; omega
 clear hb67 hbl hbs hob hnd hnd1 zf6
 go_upto_region 6 with fail
 go_wp2_with fail
 go_loopw [34] (fun iv wr => ∃ (i ki : Nat) (xs' : List Value) (ys : List TT), i ≤ nk ∧ iv = .int .i64 (i : Int) ∧ Hid (NsI (nmF b gas) (kidCv cv f.1.1) (kidL f.1.2.2) m i ys ki) ∧ Hid (∀ (j : Nat) (z : TT), ys[j]? = some z → FitT b ((kidCv cv f.1.1 j).length : Int) z) ∧ Hid (Moved (OrRow g (.slice Ak nk ck)) none w7 wr) ∧ Hid (wr.ownsRow w4.heap.size 29 1 (.slice Ak nk ck) nk xs') ∧ Hid (RowsC (Aside w4.heap.size wr (.slice Ak nk ck)) wr xs' ((ys ++ (kidL f.1.2.2).drop i).map rowT)) ∧ Hid (∃ (cA' : Option Addr) (cn' cc' : Nat), Blk wr g 79 (McA v b cA' cn' cc' ki))) (fun iv _ => nk - (intOf iv).toNat)
 case atStart => exact ⟨0, m, xs, [], by omega, rfl, hid (NsI.start _ _ _ _), hid (fun j z h => by simp at h), hid (Moved.refl _ _ _), HOK7, HRK7, hid ⟨_, _, _, HG7.out⟩⟩
 case round =>
  obtain ⟨i, ki, xs', ys, hi, rfl, hns, hfy, hmv, hok, hrk, hgx⟩ := hrel
  obtain ⟨wq, rfl⟩ : ∃ wq : World, wq = wr := ⟨_, rfl⟩
  have hlen := hns.out.len
  have hki := hns.out.le
  by_cases hlt : i < nk
  · have e1 : decide ((i : Int) < (nk : Int)) = true := decide_eq_true (by omega)
    have e2 : decide (i < nk) = true := decide_eq_true hlt
    have e3 : (i : Int) < (nk : Int) := by omega
    have hil : i < (kidL f.1.2.2).length := by have := HNK.out; omega
    obtain ⟨y0, hy0⟩ : ∃ y, (kidL f.1.2.2)[i]? = some y := ⟨_, List.getElem?_eq_getElem hil⟩
    obtain ⟨hq0, gk, A1, n1, c1, hAk, hgk1, hgk2, hcc, htk⟩ := kids_at hok.out hrk.out (i := i) (by rw [List.length_append, List.length_drop, hlen]; omega)
    rw [part_at hlen hy0] at htk
    clear hq0
    have HY0 := hid hy0
    have HNS := hid hns.out
    have HFY := hid hfy.out
    have HMV := hid hmv.out
    have HTK := hid htk
    subst hAk
    have HOK := hid hok.out
    have HRK := hid hrk.out
    obtain ⟨cA9, cn9, cc9, hg9⟩ := hgx.out
    have HG9 := hid hg9
    have hgkw5 : gk < w5.heap.size := (HKB.out gk rfl).2
    have hsz7 := hmv.out.size
    have hggk : g ≠ gk := by omega
    have hgkg : gk ≠ g := by omega
    -- what is read
    have hrow : ∃ bb oo, Ar = some ⟨bb, oo, none⟩ ∧ bb < wq.heap.size ∧ bb ≠ g ∧ wq.cell? ⟨bb, oo + i, none⟩ = some (.int .i64 (aroundI f.1.1.op f.1.1.b (i : Int))) := by
     have hir : i < nr := by rw [HNR.out]; exact hil
     obtain ⟨bb, oo, e, hbb, hm⟩ := HIR7.out.mem (by omega)
     have h9 := hm i hir
     rw [arL_at _ _ _ _ _ (by rw [← kid_flen]; exact hil), Nat.zero_add] at h9
     refine ⟨bb, oo, e, by have := hbb.2; omega, by have := hbb.1; omega, ?_⟩
     exact (cell_of_heap (hmv.out.block bb (by have := hbb.2; omega) (fun e => by
      rcases e with e | e
      · have := hbb.1; omega
      have := (HKB.out bb e).2; have := hbb.1; omega) (by simp)) _).trans h9
    obtain ⟨bb, oo, rfl, hbbl, hbbg, hbbc⟩ := hrow
    obtain ⟨ha0, ha1⟩ := around_binds (cv := cv) HBD.out.1 HBD.out.2.2.2.1 i
    obtain ⟨ai, hai⟩ : ∃ ai : Nat, aroundI f.1.1.op f.1.1.b (i : Int) = (ai : Int) := ⟨(aroundI f.1.1.op f.1.1.b (i : Int)).toNat, by omega⟩
    rw [hai] at hbbc ha1
    have hand : ai ≤ nd := by rw [HND.out]; simpa using ha1
    have hnS : ∀ q, Ad = some ⟨q, 0, none⟩ → ¬ OrRow g (Value.slice (some ⟨gk, 0, none⟩) nk ck) q := fun q e h => by
     have hq := HADF.out q e
     rcases h with h | h
     · omega
     have := (HKB.out q h).2; omega
    have HBWq := hid (HBW7.out.moved hmv.out hnS)
    have hacd : (ai : Int) ≤ (cd : Int) := by have := HBW7.out.cap; omega
    have hai0 : (0 : Int) ≤ (ai : Int) := by omega
    have HMWq : Hid (Moved (fun q => q = g) none w wq) := hid (moved_old HM7.out hmv.out (fun q e => by have := (HKB.out q e).1; have := HM4.out.size; omega))
    have HCWq : Hid (CtxW (fun q => q < w.heap.size ∧ q ≠ g) wq cA cn cc cv) := hid (HW.out.ctx.keep fun q hq => ⟨hq, fun o => cell_of_heap (HMWq.out.block q hq.1 hq.2 (by simp)) o⟩)
    have hgq : g < wq.heap.size := HG9.out.lt
    have hw7q := hmv.out.size
    have hw7s := HM7.out.size
    have HAI := hid hai
    have hinr : i < nr := by rw [HNR.out]; exact hil
    have hinr2 : (i : Int) < (nr : Int) := by omega
    clear hns hfy hmv hok hrk hgx htk hg9 hnS hai ha0 ha1 hlen hy0
    go_upto_region 9 with fail
    refine wp_region_held_drew (S := (fun w' => ∀ q, q < wq.heap.size → q ≠ g → w'.heap[q]? = wq.heap[q]?)) (by kernel_rfl) ?_ (fun hHeld => ?_)
    · (try dsimp only); exact fun q _ _ => rfl
    have HBE : Hid (Below wq.heap.size wq wq.drew) := hid (below_drewN (Below.refl _ _) 1)
    generalize wq.drew = W1 at *
    refine wpAnyH_take (i := 0) (v := ?_) rfl (by kernel_rfl) (by kernel_rfl) (by kernel_rfl) (fun _ _ _ h => h) (Or.inl ⟨by rfl, fun wz hSw => ?_⟩) hHeld ?_
    rotate_left
    · (go_simp; try with_reducible rfl)
    try simp only [p7]
    refine wpAnyH_take (i := 1) (v := ?_) rfl (by kernel_rfl) (by kernel_rfl) (by kernel_rfl) (fun _ _ _ h => h) (Or.inl ⟨by rfl, fun wz hSw => ?_⟩) hHeld ?_
    rotate_left
    · (go_simp; try with_reducible rfl)
    try simp only [p7]
    refine wpAnyH_take (i := 3) (v := ?_) rfl (by kernel_rfl) (by kernel_rfl) (by kernel_rfl) (fun _ _ _ h => h) (Or.inl ⟨by rfl, fun wz hSw => ?_⟩) hHeld ?_
    rotate_left
    · (go_simp; try with_reducible rfl)
    try simp only [p7]
    refine wpAnyH_take (i := 4) (v := ?_) rfl (by kernel_rfl) (by kernel_rfl) (by kernel_rfl) (fun _ _ _ h => h) (Or.inl ⟨by rfl, fun wz hSw => ?_⟩) hHeld ?_
    rotate_left
    · (go_simp; try with_reducible rfl)
    try simp only [p7]
    refine wpAnyH_take (i := 5) (v := ?_) rfl (by kernel_rfl) (by kernel_rfl) (by kernel_rfl) (fun _ _ _ h => h) (Or.inl ⟨by rfl, fun wz hSw => ?_⟩) hHeld ?_
    rotate_left
    · (go_simp; try with_reducible rfl)
    try simp only [p7]
    refine wpAnyH_take (i := 6) (v := ?_) rfl (by kernel_rfl) (by kernel_rfl) (by kernel_rfl) (fun _ _ _ h => h) (Or.inl ⟨by rfl, fun wz hSw => ?_⟩) hHeld ?_
    rotate_left
    · (go_simp; try with_reducible rfl)
    try simp only [p7]
    refine wpAnyH_take (i := 7) (v := ?_) rfl (by kernel_rfl) (by kernel_rfl) (by kernel_rfl) (fun _ _ _ h => h) (Or.inl ⟨by rfl, fun wz hSw => ?_⟩) hHeld ?_
    rotate_left
    · (have r0 := (cell_of_heap (hSw (bb) hbbl (by omega)) (oo + i)).trans hbbc; go_simp; try with_reducible rfl)
    try simp only [p7]
    refine wpAnyH_take (i := 8) (v := ?_) rfl (by kernel_rfl) (by kernel_rfl) (by kernel_rfl) (fun _ _ _ h => h) (Or.inl ⟨by rfl, fun wz hSw => ?_⟩) hHeld ?_
    rotate_left
    · (go_simp; try with_reducible rfl)
    try simp only [p7]
    refine r1 2 fun K hK => ?_
    go_simp
    go_at_call 77
    refine (HCL.out W1).mono ?_
    rintro en W1 ⟨rfl, rfl⟩
    go_wp2_with fail
    refine hK.out _ _ (by exact fun q h1 _ => HBE.out.block q h1) fun hHeld => ?_
    clear hK K
    try simp only [p7]
    have HCW1 := hid (HCWq.out.keep (R' := fun q => q < w.heap.size ∧ q ≠ g) (w' := W1) fun q hq => ⟨hq, fun o => HBE.out.cell (p := ⟨q, o, none⟩) (show q < wq.heap.size by have := hq.1; omega)⟩)
    have HBW1 := hid (HBWq.out.moved (Moved.of_below (S := fun _ => False) HBE.out) (fun _ _ h => h))
    refine r1 9 fun K hK => ?_
    refine oper_append_ctx rfl (.tmp 41) (.tmp 47) rfl HCW1.out (fun q hq => by have := hq.1; have := HBE.out.size; omega) hcn9 (by rfl) HBW1.out hand (by rfl) ?_
    intro cA' cc' w9 hb9 hcx9
    have HB9 := bto HBE hb9
    have HCX9 := hid hcx9
    clear hb9 hcx9
    refine hK.out _ _ (by exact fun q h1 _ => HB9.out.block q h1) fun hHeld => ?_
    clear hK K
    try simp only [p7]
    refine wpAnyH_take (i := 10) (v := ?_) rfl (by kernel_rfl) (by kernel_rfl) (by kernel_rfl) (fun _ _ _ h => h) (Or.inl ⟨by rfl, fun wz hSw => ?_⟩) hHeld ?_
    rotate_left
    · ((try dsimp only at hSw); go_simp; try with_reducible rfl)
    try simp only [p7]
    refine wpAnyH_take (i := 11) (v := ?_) rfl (by kernel_rfl) (by kernel_rfl) (by kernel_rfl) (fun _ _ _ h => h) (Or.inl ⟨by rfl, fun wz hSw => ?_⟩) hHeld ?_
    rotate_left
    · ((try dsimp only at hSw); go_simp; try with_reducible rfl)
    try simp only [p7]
    have HGG9 := hid (HG9.out.below HB9.out HG9.out.lt)
    have zgg := HGG9.out.cell
    have fgg := HGG9.out.frozen
    have hgg9 : g < w9.heap.size := HGG9.out.lt
    refine r1 12 fun K hK => ?_
    go_simp
    refine hK.out _ _ (by exact fun q h1 h2 => (Below.heap_setCell _ ⟨g, 5, none⟩ _ q h2).trans (HB9.out.block q h1)) fun hHeld => ?_
    clear hK K
    try simp only [p7]
    refine wpAnyH_done (by kernel_rfl) ?_ _
    obtain ⟨wn, hwn⟩ : ∃ wn : World, wn = w9.setCell ⟨g, 5, none⟩ (.slice cA' (cn + ai) cc') := ⟨_, rfl⟩
    have hsn : wn.heap.size = w9.heap.size := by rw [hwn]; exact size_setT _ _ _ _
    have hs9 := HB9.out.size
    have hkn : ∀ q, q < wq.heap.size → q ≠ g → wn.heap[q]? = wq.heap[q]? := fun q h1 h2 => by rw [hwn]; exact (Below.heap_setCell _ ⟨g, 5, none⟩ _ q h2).trans (HB9.out.block q h1)
    have hmn : Moved (fun q => q = g) none wq wn := by rw [hwn]; exact (Moved.of_below (S := fun q => q = g) (row := none) HB9.out).setCell (p := ⟨g, 5, none⟩) rfl _
    have HGn : Hid (Blk wn g 79 (McA v b cA' (cn + ai) cc' ki)) := hid (by rw [hwn]; have := (HG9.out.below HB9.out HG9.out.lt).set_ 5 (.slice cA' (cn + ai) cc'); simpa [McA] using this)
    have HCXn : Hid (CtxW (fun q => q < wn.heap.size ∧ q ≠ g) wn cA' (cn + ai) cc' (kidCv cv f.1.1 i)) := hid (by
     unfold kidCv
     rw [HAI.out, Int.toNat_natCast, hwn]
     refine HCX9.out.keep fun q hq => ?_
     have hqg : q ≠ g := by
      rcases hq with hq | hq
      · exact hq.2
      have := HBE.out.size; omega
     refine ⟨⟨?_, hqg⟩, fun o => cell_of_heap (Below.heap_setCell _ ⟨g, 5, none⟩ _ q hqg) o⟩
     rw [size_setT]
     rcases hq with hq | hq
     · omega
     exact hq.2)
    have HMWn : Hid (Moved (fun q => q = g) none w wn) := hid (HMWq.out.trans (row' := none) hmn (fun _ e => by cases e))
    have HMAn : Hid (MaW w0 g v b cA' (cn + ai) cc' (kidCv cv f.1.1 i) ki wn) := hid ⟨HW.out.bel.trans (HMWn.out.to_below HW.out.bel.size (fun q e => by rw [e]; exact HW.out.ge) (fun _ e => by cases e)), HGn.out, HW.out.ge, HCXn.out⟩
    have HMVn := hid (HMV.out.trans (row' := none) (moved_row (v := .slice (some ⟨gk, 0, none⟩) nk ck) hmn) (fun _ e => by cases e))
    have HOKn := hid (own_moved HOK.out hmn (by omega))
    have HRKn := hid (aside_moved HRK.out hmn (by omega))
    have HTn : Hid (TermR (fun q => q < wn.heap.size ∧ q ≠ g) wn A1 n1 c1 (rowT y0)) := hid (HTK.out.keep fun q hq => ⟨⟨by have := hq.2.1; omega, by have := hq.1; omega⟩, fun o => cell_of_heap (hkn q hq.2.1 (by have := hq.1; omega)) o⟩)
    have hkq := kid_q HC.out HBD.out.1 HBD.out.2.2.2.1 HBD.out.2.2.2.2.1 HY0.out
    have hq9 := hkq.1.mono hki
    have hnot : nmF b gas (kidCv cv f.1.1 i) ki y0 ≠ .bad 99 := fun e => H99.out (HE.out.trans (nmE_kbad (HNS.out.bad HY0.out e)))
    have hki2 : ki ≤ 100000 := by have := HBD.out.2.2.1; have := HKK.out; omega
    have HIH := hid (IH.out wn cA' (cn + ai) cc' (kidCv cv f.1.1 i) ki A1 n1 c1 y0 HMAn.out HTn.out hq9 hki2 hnot)
    obtain ⟨r3, hr3⟩ : ∃ r, r = nmF b gas (kidCv cv f.1.1 i) ki y0 := ⟨_, rfl⟩
    rw [← hr3] at HIH
    have HR3 := hid hr3
    have HQ9 := hid hq9
    clear hkq hq9 hnot hr3 hmn hkn
    go_upto_region 10 with fail
    rw [← hwn]
    clear hwn
    go_wp2_with fail
    refine (HIH.out).mono ?_
    rintro e wm ⟨hmm, hrr⟩
    have HMWm : Hid (Moved (fun q => q = g) none w wm) := hid (HMWn.out.trans (row' := none) hmm (fun _ e => by cases e))
    rcases hrr with ⟨z, hz, rfl⟩ | ⟨y, k2, A6, n6, c6, hd, rfl, ho6, hk6⟩
    · have HEND : Hid (res = .bad z) := hid (HE.out.trans (nmE_kbad (HNS.out.bad HY0.out (HR3.out.symm.trans hz))))
      clear hz hmm
      go_wp2_with fail
      exact ⟨rfl, HMWm.out, .inl ⟨z, HEND.out, rfl⟩⟩
    have hfit := nm_fit HR.out gas _ _ _ HQ9.out y k2 (HR3.out.symm.trans hd)
    have HNS2 := hid (HNS.out.next HY0.out (HR3.out.symm.trans hd) hfit.2)
    have HFY2 : Hid (∀ (j : Nat) (z : TT), (ys ++ [y])[j]? = some z → FitT b ((kidCv cv f.1.1 j).length : Int) z) := hid (fun j z hz => by
     by_cases hj : j < ys.length
     · rw [List.getElem?_append_left hj] at hz
       exact HFY.out j z hz
     rw [List.getElem?_append_right (by omega)] at hz
     have hj2 : j - ys.length < [y].length := (List.getElem?_eq_some_iff.1 hz).1
     have hj3 : j = i := by have := HNS.out.len; simp at hj2; omega
     have hz2 : z = y := by
      rw [show j - ys.length = 0 from by simp at hj2; omega] at hz
      simpa using hz.symm
     rw [hj3, hz2]
     exact hfit.1)
    have HOKm := hid (own_moved HOKn.out hmm (by omega))
    have HRKm := hid (aside_moved HRKn.out hmm (by omega))
    have HMVm := hid (HMVn.out.trans (row' := none) (moved_row (v := .slice (some ⟨gk, 0, none⟩) nk ck) hmm) (fun _ e => by cases e))
    have hput := row_put HOKm.out HRKm.out ho6 (by omega) (by omega) hfit.1.few i
    rw [set_part HNS.out.len hil] at hput
    have HPUT := hid hput
    obtain ⟨cur, hcur⟩ : ∃ cur, Blk wm gk 29 cur := by
     obtain ⟨gk2, cur, e, _, hblk, _⟩ := own_blk HOKm.out (by omega)
     simp only [Option.some.injEq, Addr.mk.injEq] at e
     exact ⟨cur, by rw [e.1]; exact hblk⟩
    have fk := hcur.frozen
    have hkl := hcur.lt
    have hck : ∃ u, wm.cell? ⟨gk, i, none⟩ = some u := by
     have h9 := HOKm.out.cellAt (g := gk) i (by omega)
     have hx3 : i < xs'.length := by have := HOKm.out.1; omega
     exact ⟨_, h9.trans (List.getElem?_eq_getElem hx3)⟩
    obtain ⟨u3, hu3⟩ := hck
    have HGm : Hid (Blk (wm.setCell ⟨gk, i, none⟩ (.slice A6 n6 c6)) g 79 (McA v b cA' (cn + ai) cc' k2)) := hid (hk6.far (p := ⟨gk, i, none⟩) hggk _)
    have HMVz := hid (HMVm.out.setCell (p := ⟨gk, i, none⟩) (.inr rfl) (.slice A6 n6 c6))
    clear hmm hd hfit ho6 hk6 hput hcur
    go_wp2_with fail
    go_roundw
    case rel => exact ⟨i + 1, k2, xs'.set i (.slice A6 n6 c6), ys ++ [y], by omega, by go_num, HNS2, HFY2, HMVz, hid HPUT.out.1, hid HPUT.out.2, hid ⟨_, _, _, HGm.out⟩⟩
    case measure => simp [intOf]; omega
  have e1 : decide ((i : Int) < (nk : Int)) = false := decide_eq_false (by omega)
  have e2 : decide (i < nk) = false := decide_eq_false hlt
  have hie : i = nk := by omega
  obtain ⟨cA9, cn9, cc9, hg9⟩ := hgx.out
  have HNSK := hid (hns.out.fin (by have := HNK.out; omega))
  have HKI2 := hid hki
  have HFY := hid hfy.out
  have hyl : ys.length = (kidL f.1.2.2).length := by rw [hlen, hie]; exact HNK.out
  have HYL := hid hyl
  have hdr : ys ++ (kidL f.1.2.2).drop i = ys := by rw [List.drop_of_length_le (by have := HNK.out; omega), List.append_nil]
  have hrk2 := hrk.out
  rw [hdr] at hrk2
  have HMWq : Hid (Moved (fun q => q = g) none w wq) := hid (moved_old HM7.out hmv.out (fun q e => by have := (HKB.out q e).1; have := HM4.out.size; omega))
  have hgq : g < wq.heap.size := hg9.lt
  have zgq := hg9.cell
  have fgq := hg9.frozen
  have hw7q := hmv.out.size
  have hw7s := HM7.out.size
  -- the machine has its context again
  obtain ⟨wp, hwp⟩ : ∃ wp : World, wp = wq.setCell ⟨g, 5, none⟩ (.slice cA cn cc) := ⟨_, rfl⟩
  have hsp : wp.heap.size = wq.heap.size := by rw [hwp]; exact size_setT _ _ _ _
  have hmp : Moved (fun q => q = g) none wq wp := by rw [hwp]; exact (Moved.refl (fun q => q = g) none wq).setCell (p := ⟨g, 5, none⟩) rfl _
  have HGp : Hid (Blk wp g 79 (McA v b cA cn cc ki)) := hid (by rw [hwp]; have := hg9.set_ 5 (.slice cA cn cc); simpa [McA] using this)
  have HMWp : Hid (Moved (fun q => q = g) none w wp) := hid (HMWq.out.trans (row' := none) hmp (fun _ e => by cases e))
  have HOKp := hid (own_moved hok.out hmp (by omega))
  have HRKp := hid (aside_moved hrk2 hmp (by omega))
  have HMVp : Hid (Moved (OrRow g (.slice Ak nk ck)) none w7 wp) := hid (hmv.out.trans (row' := none) (moved_row hmp) (fun _ e => by cases e))
  have hold : ∀ q, q < w4.heap.size → q ≠ g → wp.heap[q]? = w4.heap[q]? := fun q h1 h2 => (HMVp.out.block q (by omega) (fun e => by
   rcases e with e | e
   · exact h2 e
   have := (HKB.out q e).1; omega) (by simp)).trans (HB47.out.block q h1)
  have HFp : Hid (FocO w.heap.size wp f A3 n3 c3 B3 m3 d3) := hid (HF4.out.keep (fun q h1 h2 => hold q h2 (by omega)) (by omega) (fun ys9 h9 => own_heap h9 (fun q e => hold q (ownsRow_block h9 e).2.1 (by have := (ownsRow_block h9 e).1; omega))))
  have HK5p : Hid (Blk wp b5 70 #[.slice A3 n3 c3, .slice B3 m3 d3]) := hid (HK5.out.same (hold b5 hl5 (by omega)))
  have zp5 := HK5p.out.cell
  have hlp5 : b5 < wp.heap.size := HK5p.out.lt
  have hbg5 : b5 ≠ g := by omega
  obtain ⟨hhd, xa, hoa, hra⟩ := HFp.out
  have HOA := hid hoa
  have HRA := hid hra
  have HHD := hid hhd
  have hm3 : m3 = f.2.length := HFp.out.len.2
  have HM3L := hid hm3
  have hba : ∀ q, (Value.slice B3 m3 d3).ownBlock = some q → w.heap.size ≤ q ∧ q < w3.heap.size := fun q e => by
   obtain ⟨_, xs9, h9, _⟩ := HF3.out
   exact ⟨(ownsRow_block h9 e).1, (ownsRow_block h9 e).2.1⟩
  have HBA := hid hba
  have hm3f : m3 ≤ 4096 := by have := FocG.argsLen HBD.out.1 HBD.out.2.1; omega
  clear hns hfy hmv hok hrk hgx hg9 hmp hlt hie hyl hdr hrk2 hhd hoa hra hm3 hba hold hlen hki
  go_upto_region 13 with fail
  rw [← hwp]
  clear hwp zgq fgq
  go_wp2_with fail
  go_loopw [65] (fun iv wr => ∃ (i kj : Nat) (xs2 : List Value) (rs : List TT), i ≤ m3 ∧ iv = .int .i64 (i : Int) ∧ Hid (NsI (nmF b gas) (fun _ => cv) f.2 ki i rs kj) ∧ Hid (∀ (j : Nat) (z : TT), rs[j]? = some z → FitT b (cv.length : Int) z) ∧ Hid (Moved (OrRow g (.slice B3 m3 d3)) none wp wr) ∧ Hid (wr.ownsRow w.heap.size 29 1 (.slice B3 m3 d3) m3 xs2) ∧ Hid (RowsC (Aside w.heap.size wr (.slice B3 m3 d3)) wr xs2 ((rs ++ f.2.drop i).map rowT)) ∧ Hid (Blk wr g 79 (McA v b cA cn cc kj))) (fun iv _ => m3 - (intOf iv).toNat)
  case atStart => exact ⟨0, ki, xa, [], by omega, rfl, hid (NsI.start _ _ _ _), hid (fun j z h => by simp at h), hid (Moved.refl _ _ _), HOA, HRA, HGp⟩
  case round =>
   obtain ⟨i, kj, xs2, rs, hi, rfl, hns, hfy, hmv, hok, hrk, hgx⟩ := hrel
   obtain ⟨wq, rfl⟩ : ∃ wq : World, wq = wr := ⟨_, rfl⟩
   have hlen := hns.out.len
   have hkj := hns.out.le
   have hsz7 := hmv.out.size
   have HK5q : Hid (Blk wq b5 70 #[.slice A3 n3 c3, .slice B3 m3 d3]) := hid (HK5p.out.same (hmv.out.block b5 hlp5 (fun e => by
    rcases e with e | e
    · exact hbg5 e
    have := (HBA.out b5 e).2; omega) (by simp)))
   have zq5 := HK5q.out.cell
   have hlq5 : b5 < wq.heap.size := HK5q.out.lt
   have HMWq : Hid (Moved (fun q => q = g) none w wq) := hid (moved_old HMWp.out hmv.out (fun q e => (HBA.out q e).1))
   by_cases hlt : i < m3
   · have e1 : decide ((i : Int) < (m3 : Int)) = true := decide_eq_true (by omega)
     have e2 : decide (i < m3) = true := decide_eq_true hlt
     have e3 : (i : Int) < (m3 : Int) := by omega
     have hil : i < f.2.length := by have := HM3L.out; omega
     obtain ⟨y0, hy0⟩ : ∃ y, f.2[i]? = some y := ⟨_, List.getElem?_eq_getElem hil⟩
     obtain ⟨hq0, ga, A1, n1, c1, hAa, hga1, hga2, hcc, htk⟩ := kids_at hok.out hrk.out (i := i) (by rw [List.length_append, List.length_drop, hlen]; omega)
     rw [part_at hlen hy0] at htk
     clear hq0
     have HY0 := hid hy0
     have HNS := hid hns.out
     have HFY := hid hfy.out
     have HMV := hid hmv.out
     have HTK : Hid (TermR (fun q => q < wq.heap.size ∧ q ≠ g) wq A1 n1 c1 (rowT y0)) := hid (htk.keep fun q hq => ⟨⟨hq.2.1, by have := hq.1; omega⟩, fun _ => rfl⟩)
     subst hAa
     have HOK := hid hok.out
     have HRK := hid hrk.out
     have HGq := hid hgx.out
     have hgga : g ≠ ga := by omega
     have hb5a : b5 ≠ ga := by have := (HBA.out ga rfl).2; omega
     have HMAq : Hid (MaW w0 g v b cA cn cc cv kj wq) := hid (HW.out.moved HMWq.out HGq.out)
     have haq := arg_q HC.out HBD.out.1 HBD.out.2.2.2.2.1 HY0.out
     have hq9 := haq.1.mono (Nat.le_trans hkj HKI2.out)
     have hnot : nmF b gas cv kj y0 ≠ .bad 99 := fun e => H99.out (HE.out.trans (nmE_abad HNSK.out (HNS.out.bad HY0.out e)))
     have hkj2 : kj ≤ 100000 := by have := HBD.out.2.2.1; have := HKI2.out; have := HKK.out; omega
     have HIH := hid (fun (W : World) (hB : Below wq.heap.size wq W) => IH.out W cA cn cc cv kj A1 n1 c1 y0 (HMAq.out.below hB) (TermR.keep HTK.out (R' := fun q => q < W.heap.size ∧ q ≠ g) (w' := W) fun q hq => ⟨⟨Nat.lt_of_lt_of_le hq.1 hB.size, hq.2⟩, fun o => hB.cell (p := ⟨q, o, none⟩) hq.1⟩) hq9 hkj2 hnot)
     obtain ⟨r3, hr3⟩ : ∃ r, r = nmF b gas cv kj y0 := ⟨_, rfl⟩
     rw [← hr3] at HIH
     have HR3 := hid hr3
     have HQ9 := hid hq9
     clear hns hfy hmv hok hrk hgx htk haq hq9 hnot hr3 hlen hy0
     go_upto_region 16 with fail
     refine wp_region_held_drew (S := (fun w' => ∀ q, q < wq.heap.size → q ≠ g → q ≠ ga → w'.heap[q]? = wq.heap[q]?)) (by kernel_rfl) ?_ (fun hHeld => ?_)
     · (try dsimp only); exact fun q _ _ _ => rfl
     have HBE : Hid (Below wq.heap.size wq wq.drew) := hid (below_drewN (Below.refl _ _) 1)
     generalize wq.drew = W1 at *
     refine wpAnyH_take (i := 0) (v := ?_) rfl (by kernel_rfl) (by kernel_rfl) (by kernel_rfl) (fun _ _ _ h => h) (Or.inl ⟨by rfl, fun wz hSw => ?_⟩) hHeld ?_
     rotate_left
     · (go_simp; try with_reducible rfl)
     try simp only [p7]
     refine wpAnyH_take (i := 1) (v := ?_) rfl (by kernel_rfl) (by kernel_rfl) (by kernel_rfl) (fun _ _ _ h => h) (Or.inl ⟨by rfl, fun wz hSw => ?_⟩) hHeld ?_
     rotate_left
     · (have r0 := (cell_of_heap (hSw (b5) hlq5 (by omega) (by omega)) 1).trans (zq5 1); go_simp; try with_reducible rfl)
     try simp only [p7]
     refine wpAnyH_take (i := 2) (v := ?_) rfl (by kernel_rfl) (by kernel_rfl) (by kernel_rfl) (fun _ _ _ h => h) (Or.inl ⟨by rfl, fun wz hSw => ?_⟩) hHeld ?_
     rotate_left
     · (go_simp; try with_reducible rfl)
     try simp only [p7]
     refine wpAnyH_take (i := 3) (v := ?_) rfl (by kernel_rfl) (by kernel_rfl) (by kernel_rfl) (fun _ _ _ h => h) (Or.inl ⟨by rfl, fun wz hSw => ?_⟩) hHeld ?_
     rotate_left
     · (go_simp; try with_reducible rfl)
     try simp only [p7]
     refine wpAnyH_take (i := 4) (v := ?_) rfl (by kernel_rfl) (by kernel_rfl) (by kernel_rfl) (fun _ _ _ h => h) (Or.inl ⟨by rfl, fun wz hSw => ?_⟩) hHeld ?_
     rotate_left
     · (go_simp; try with_reducible rfl)
     try simp only [p7]
     refine r1 5 fun K hK => ?_
     go_simp
     go_at_call 46
     refine (HIH.out W1 HBE.out).mono ?_
     rintro en wm ⟨hmm, hrr⟩
     have HMWm : Hid (Moved (fun q => q = g) none w wm) := hid ((HMWq.out.trans (row' := none) (Moved.of_below HBE.out) (fun _ e => by cases e)).trans (row' := none) hmm (fun _ e => by cases e))
     rcases hrr with ⟨z, hz, rfl⟩ | ⟨y, k2, A6, n6, c6, hd, rfl, ho6, hk6⟩
     · have HEND : Hid (res = .bad z) := hid (HE.out.trans (nmE_abad HNSK.out (HNS.out.bad HY0.out (HR3.out.symm.trans hz))))
       clear hz hmm
       go_wp2_with fail
       exact ⟨rfl, HMWm.out, .inl ⟨z, HEND.out, rfl⟩⟩
     have hfit := nm_fit HR.out gas _ _ _ HQ9.out y k2 (HR3.out.symm.trans hd)
     have HNS2 := hid (HNS.out.next HY0.out (HR3.out.symm.trans hd) hfit.2)
     have HFY2 : Hid (∀ (j : Nat) (z : TT), (rs ++ [y])[j]? = some z → FitT b (cv.length : Int) z) := hid (fun j z hz => by
      by_cases hj : j < rs.length
      · rw [List.getElem?_append_left hj] at hz
        exact HFY.out j z hz
      rw [List.getElem?_append_right (by omega)] at hz
      have hj2 : j - rs.length < [y].length := (List.getElem?_eq_some_iff.1 hz).1
      have hz2 : z = y := by
       rw [show j - rs.length = 0 from by simp at hj2; omega] at hz
       simpa using hz.symm
      rw [hz2]
      exact hfit.1)
     have hmq : Moved (fun q => q = g) none wq wm := (Moved.of_below HBE.out).trans (row' := none) hmm (fun _ e => by cases e)
     have HMQ := hid hmq
     have HOKm := hid (own_moved HOK.out hmq (by omega))
     have HRKm := hid (aside_moved HRK.out hmq (by omega))
     have HMVm := hid (HMV.out.trans (row' := none) (moved_row (v := .slice (some ⟨ga, 0, none⟩) m3 d3) hmq) (fun _ e => by cases e))
     have hput := row_put HOKm.out HRKm.out ho6 (by have := HBE.out.size; have := HMWq.out.size; omega) (by have := HBE.out.size; omega) hfit.1.few i
     rw [set_part HNS.out.len hil] at hput
     have HPUT := hid hput
     obtain ⟨cur, hcur⟩ : ∃ cur, Blk wm ga 29 cur := by
      obtain ⟨gk2, cur, e, _, hblk, _⟩ := own_blk HOKm.out (by omega)
      simp only [Option.some.injEq, Addr.mk.injEq] at e
      exact ⟨cur, by rw [e.1]; exact hblk⟩
     have fk := hcur.frozen
     have hkl := hcur.lt
     have hck : ∃ u, wm.cell? ⟨ga, i, none⟩ = some u := by
      have h9 := HOKm.out.cellAt (g := ga) i (by omega)
      have hx3 : i < xs2.length := by have := HOKm.out.1; omega
      exact ⟨_, h9.trans (List.getElem?_eq_getElem hx3)⟩
     obtain ⟨u3, hu3⟩ := hck
     have HGm : Hid (Blk (wm.setCell ⟨ga, i, none⟩ (.slice A6 n6 c6)) g 79 (McA v b cA cn cc k2)) := hid (hk6.far (p := ⟨ga, i, none⟩) hgga _)
     have HMVz := hid (HMVm.out.setCell (p := ⟨ga, i, none⟩) (.inr rfl) (.slice A6 n6 c6))
     clear hmm hmq hd hfit ho6 hk6 hput hcur
     go_wp2_with fail
     refine hK.out _ _ (by exact fun q h1 h2 _ => HMQ.out.block q h1 h2 (by simp)) fun hHeld => ?_
     clear hK K
     try simp only [p7]
     refine wpAnyH_take (i := 6) (v := ?_) rfl (by kernel_rfl) (by kernel_rfl) (by kernel_rfl) (fun _ _ _ h => h) (Or.inl ⟨by rfl, fun wz hSw => ?_⟩) hHeld ?_
     rotate_left
     · ((try dsimp only at hSw); go_simp; try with_reducible rfl)
     try simp only [p7]
     refine r1 7 fun K hK => ?_
     go_simp
     refine hK.out _ _ (by exact fun q h1 h2 h3 => (Below.heap_setCell _ ⟨ga, i, none⟩ _ q h3).trans (HMQ.out.block q h1 h2 (by simp))) fun hHeld => ?_
     clear hK K
     try simp only [p7]
     refine wpAnyH_done (by kernel_rfl) ?_ _
     go_wp2_with fail
     go_roundw
     case rel => exact ⟨i + 1, k2, xs2.set i (.slice A6 n6 c6), rs ++ [y], by omega, by go_num, HNS2, HFY2, HMVz, hid HPUT.out.1, hid HPUT.out.2, HGm⟩
     case measure => simp [intOf]; omega
   have e1 : decide ((i : Int) < (m3 : Int)) = false := decide_eq_false (by omega)
   have e2 : decide (i < m3) = false := decide_eq_false hlt
   have hie : i = m3 := by omega
   have hrl : rs.length = f.2.length := by rw [hlen, hie]; exact HM3L.out
   have hdr : rs ++ f.2.drop i = rs := by rw [List.drop_of_length_le (by have := HM3L.out; omega), List.append_nil]
   have hrk2 := hrk.out
   rw [hdr] at hrk2
   have HNSA := hid (hns.out.fin (by have := HM3L.out; omega))
   have HNM : Hid (res = if 4096 < szT (withKs f.1 ys) then .bad 9 else if 4096 < szT (withKs f.1 ys) + argsN rs then .bad 9 else .done (apps (withKs f.1 ys) rs) kj) := hid (HE.out.trans (nmE_done HNSK.out HNSA.out))
   have HFR := hid hfy.out
   have HRL := hid hrl
   have HGq := hid hgx.out
   have HOAq := hid hok.out
   have HRAq := hid hrk2
   have holdq : ∀ q, q < wp.heap.size → q ≠ g → (Value.slice B3 m3 d3).ownBlock ≠ some q → wq.heap[q]? = wp.heap[q]? := fun q h1 h2 h3 => hmv.out.block q h1 (fun e => by
    rcases e with e | e
    · exact h2 e
    exact h3 e) (by simp)
   have HHDq : Hid (TermR (fun q => q < wq.heap.size ∧ q ≠ g) wq A3 n3 c3 (rowT f.1)) := hid (HHD.out.keep fun q hq => ⟨⟨by have := hq.2.1; omega, by have := hq.1; omega⟩, fun o => cell_of_heap (holdq q hq.2.1 (by have := hq.1; omega) hq.2.2) o⟩)
   have HOKq := hid (own_heap HOKp.out (fun q e => holdq q (by have := (HKB.out q e).2; omega) (by have := (HKB.out q e).1; omega) (fun e2 => by have := (HKB.out q e).1; have := (HBA.out q e2).2; omega)))
   have HRKq : Hid (RowsC (fun q => q < wq.heap.size) wq xs' (ys.map rowT)) := hid (RowsC.keep (fun q hq => ⟨by have := hq.2.1; omega, fun o => cell_of_heap (holdq q hq.2.1 (by have := hq.1; omega) (fun e2 => by have := (HBA.out q e2).2; have := hq.1; omega)) o⟩) HRKp.out)
   have hkf9 := kids_few HFT.out
   have HKRq := hid (own_rowsQ HOKq.out (by rw [List.length_map, HYL.out]; exact HNK.out) (by have := HNK.out; omega) HRKq.out (R := (· < wq.heap.size)) (fun q hq => hq) (fun q hq => (ownsRow_block HOKq.out hq).2.1))
   have hy4 : ∀ y ∈ ys, szT y ≤ 4096 := fun y hy => by
    obtain ⟨j, hj, rfl⟩ := List.getElem_of_mem hy
    exact (HFY.out j _ (List.getElem?_eq_getElem hj)).few
   have hwsz := withKs_sz (x := f.1) hy4
   have hfsz : szT f.1 ≤ 4096 := HFT.out.few
   have HRE := hid (crebuilt_any HHDq.out (fun q hq => hq.1) HFT.out HYL.out HKRq.out (by have := HYL.out; omega))
   have HARq := hid (own_rowsQ HOAq.out (by rw [List.length_map, HRL.out]; exact HM3L.out) (by omega) HRAq.out (R := fun q => q < wq.heap.size ∧ q ≠ g) (fun q hq => ⟨hq.2.1, by have := hq.1; omega⟩) (fun q hq => ⟨(ownsRow_block HOAq.out hq).2.1, by have := (ownsRow_block HOAq.out hq).1; omega⟩))
   have HNUL := hid (own_nulT HOAq.out)
   clear hns hfy hmv hok hrk hgx hlen hlt hie hrl hdr hrk2 holdq hy4 hkj
   go_wp2_with fail
   refine (HRE.out).mono ?_
   rintro e w8 ⟨hb8, A8, n8, c8, rfl, ht8⟩
   have HB8 := hid hb8
   have HK58 := hid (HK5q.out.below hb8 hlq5)
   have z8 := HK58.out.cell
   have f8 := HK58.out.frozen
   have hl8 : b5 < w8.heap.size := HK58.out.lt
   obtain ⟨wz, hwz⟩ : ∃ wz : World, wz = w8.setCell ⟨b5, 0, none⟩ (.slice A8 n8 c8) := ⟨_, rfl⟩
   have hsz8 : wz.heap.size = w8.heap.size := by rw [hwz]; exact size_setT _ _ _ _
   have HK5z : Hid (Blk wz b5 70 #[.slice A8 n8 c8, .slice B3 m3 d3]) := hid (by rw [hwz]; simpa using HK58.out.set_ 0 (.slice A8 n8 c8))
   have hkz : ∀ q, q < wq.heap.size → q ≠ b5 → wz.heap[q]? = wq.heap[q]? := fun q h1 h2 => by rw [hwz]; exact (Below.heap_setCell _ ⟨b5, 0, none⟩ _ q h2).trans (hb8.block q h1)
   have HMz : Hid (Moved (fun q => q = g) none w wz) := hid (by rw [hwz]; exact (HMWq.out.trans (row' := none) (Moved.of_below hb8) (fun _ e => by cases e)).setNew (p := ⟨b5, 0, none⟩) hb5w _)
   have HGz : Hid (Blk wz g 79 (McA v b cA cn cc kj)) := hid (by rw [hwz]; exact (HGq.out.below hb8 HGq.out.lt).far (p := ⟨b5, 0, none⟩) (fun e => hbg5 e.symm) _)
   have h8l : szT (withKs f.1 ys) = n8 := ht8.len
   have hbx5 : ∀ {R : Nat → Prop} {A' : Option Addr} {n' c' : Nat} {y : TT}, TermR R w8 A' n' c' (rowT y) → (∀ q, R q → q < w8.heap.size ∧ q ≠ g) → TermR (fun q => q < wz.heap.size ∧ q ≠ g) wz A' n' c' (rowT y) := fun h hR => h.box (rowT_pos _) HK58.out (fun q hq => by rw [hwz]; exact Below.heap_setCell _ ⟨b5, 0, none⟩ _ q hq) (fun q hq _ => ⟨by rw [hsz8]; exact (hR q hq).1, (hR q hq).2⟩)
   have hs8 := hb8.size
   have HT8 : Hid (TermR (fun q => q < wz.heap.size ∧ q ≠ g) wz A8 n8 c8 (rowT (withKs f.1 ys))) := hid (hbx5 ht8 (fun q hq => by
    rcases hq with hq | hq
    · exact ⟨by have := hq.1; omega, hq.2⟩
    exact ⟨hq.2, by have := hq.1; have := HGq.out.lt; omega⟩))
   have HOAz : Hid (wz.ownsRow w.heap.size 29 1 (.slice B3 m3 d3) m3 xs2) := hid (own_heap HOAq.out (fun q e => hkz q (ownsRow_block HOAq.out e).2.1 (by have := (HBA.out q e).2; omega)))
   have HRA8 : Hid (RowsC (fun q => q < w8.heap.size ∧ q ≠ g) w8 xs2 (rs.map rowT)) := hid (RowsC.keep (fun q hq => ⟨⟨by have := hq.2.1; omega, by have := hq.1; omega⟩, fun o => hb8.cell (p := ⟨q, o, none⟩) hq.2.1⟩) HRAq.out)
   have HRAz : Hid (RowsC (fun q => q < wz.heap.size ∧ q ≠ g) wz xs2 (rs.map rowT)) := hid (RowsC.box HK58.out (fun q hq => by rw [hwz]; exact Below.heap_setCell _ ⟨b5, 0, none⟩ _ q hq) (fun q hq _ => ⟨by rw [hsz8]; exact hq.1, hq.2⟩) HRA8.out)
   have HAZ := hid (own_rowsQ HOAz.out (by rw [List.length_map, HRL.out]; exact HM3L.out) (by omega) HRAz.out (R := fun q => q < wz.heap.size ∧ q ≠ g) (fun q hq => hq) (fun q hq => ⟨(ownsRow_block HOAz.out hq).2.1, by have := (ownsRow_block HOAz.out hq).1; omega⟩))
   have HI9 : Hid (FocI g wz ((withKs f.1 ys, rs) : Fc) A8 n8 c8 B3 m3 d3) := hid ⟨HT8.out, HAZ.out, HNUL.out⟩
   have zz5 := HK5z.out.cell
   have hlz5 : b5 < wz.heap.size := HK5z.out.lt
   have hwz9 : w.heap.size ≤ wz.heap.size := HMz.out.size
   have H8L := hid h8l
   clear hb8 ht8 hkz hbx5
   go_upto_region 19 with fail
   rw [← hwz]
   clear hwz z8 f8 hl8
   by_cases hbig : 4096 < n8
   · have d1 : decide ((n8 : Int) > 4096) = true := decide_eq_true (by omega)
     have d2 : decide ((4096 : Int) < (n8 : Int)) = true := decide_eq_true (by omega)
     have d3 : decide (4096 < n8) = true := decide_eq_true hbig
     have HEND : Hid (res = .bad 9) := hid (by rw [HNM.out, if_pos (by rw [H8L.out]; exact hbig)])
     clear hbig h8l
     go_wp2_with fail
     exact ⟨rfl, HMz.out, .inl ⟨9, HEND.out, rfl⟩⟩
   have d1 : decide ((n8 : Int) > 4096) = false := decide_eq_false (by omega)
   have d2 : decide ((4096 : Int) < (n8 : Int)) = false := decide_eq_false (by omega)
   have d4 : decide (4096 < n8) = false := decide_eq_false hbig
   have hfit : FitT b (cv.length : Int) (withKs f.1 ys) := ks_fit HFT.out HYL.out (fun j y hy => by
    have h9 := HFY.out j y hy
    have h0 := (around_binds (cv := cv) HBD.out.1 HBD.out.2.2.2.1 j).1
    have e : ((kidCv cv f.1.1 j).length : Int) = (cv.length : Int) + aroundI f.1.1.op f.1.1.b (j : Int) := by rw [kidCv_len]; omega
    rwa [e] at h9) (by rw [H8L.out]; omega)
   have HFG : Hid (FocG b (cv.length : Int) ((withKs f.1 ys, rs) : Fc)) := hid ⟨hfit, HBD.out.1.ne, fun a ha => by
    obtain ⟨j, hj, rfl⟩ := List.getElem_of_mem ha
    exact HFR.out j _ (List.getElem?_eq_getElem hj)⟩
   have HNM2 : Hid (res = if 4096 < szT (withKs f.1 ys) + argsN rs then .bad 9 else .done (apps (withKs f.1 ys) rs) kj) := hid (by have h := HNM.out; rw [if_neg (by rw [H8L.out]; exact hbig)] at h; exact h)
   clear hbig hfit h8l
   go_wp2_with fail
   refine (frow_any HI9.out HFG.out).mono ?_
   rintro e w9 ⟨hb9, h9⟩
   have HM9 : Hid (Moved (fun q => q = g) none w w9) := hid (HMz.out.trans (row' := none) (Moved.of_below hb9) (fun _ e => by cases e))
   have HG9 := hid (HGz.out.below hb9 HGz.out.lt)
   rcases h9 with ⟨hok9, A7, n7, c7, rfl, _, ho7⟩ | ⟨hbig, rfl⟩
   · have HEND : Hid (res = .done (apps (withKs f.1 ys) rs) kj) := hid (by
      have h : szT (withKs f.1 ys) + argsN rs ≤ 4096 := hok9
      rw [HNM2.out, if_neg (by omega)])
     have HO7 := hid (own_baseN ho7 hwz9)
     clear hb9 hok9 ho7
     go_wp2_with fail
     go_ret
     exact ⟨HM9.out, .inr ⟨_, kj, A7, n7, c7, HEND.out, rfl, HO7.out, HG9.out⟩⟩
   have HEND : Hid (res = .bad 9) := hid (by
    have h : 4096 < szT (withKs f.1 ys) + argsN rs := hbig
    rw [HNM2.out, if_pos h])
   clear hb9 hbig
   go_wp2_with fail
   exact ⟨rfl, HM9.out, .inl ⟨9, HEND.out, rfl⟩⟩
end Go.Proofs.Ytjoddliplahgkaa
