/- core: whnf. -/
import Derived.Test.YtjoddliplahgkaaDShort2
import Derived.Test.YtjoddliplahgkaaDWhY
namespace Go.Proofs.Ytjoddliplahgkaa
open Go.Lib (hid)
open Go.RowKit
abbrev McA (v : BkVal) (b : Bk) (cA : Option Addr) (cn cc f : Nat) : Array Value := #[.int .i64 b.vars, .slice v.Ao v.no v.co, .slice v.Ae v.ne v.ce, .int .i64 b.nat, .slice v.Ap v.np v.cp, .slice cA cn cc, .int .i64 (f : Int)]
theorem MaW.moved {w0 w w' : World} {g f f' cn cc : Nat} {v : BkVal} {b : Bk} {cA : Option Addr} {cv : List (List Nd)} (h : MaW w0 g v b cA cn cc cv f w) (hm : Moved (fun q => q = g) none w w') (hb : Blk w' g 79 (McA v b cA cn cc f')) : MaW w0 g v b cA cn cc cv f' w' :=
 ⟨h.bel.trans (hm.to_below h.bel.size (fun k e => by rw [e]; exact h.ge) (fun _ e => by cases e)), hb, h.ge, h.ctx.keep fun q hq => ⟨⟨Nat.lt_of_lt_of_le hq.1 hm.size, hq.2⟩, fun o => cell_of_heap (hm.block q hq.1 hq.2 (by simp)) o⟩⟩
def WhnfP (g : Nat) (v : BkVal) (b : Bk) (cA : Option Addr) (cn cc lo : Nat) (r : WhR) (w : World) (e : Ending) (w' : World) : Prop := Moved (fun q => q = g) none w w' ∧ ((∃ z, r = .bad z ∧ e = .panicked (CFail z)) ∨ ∃ y k A n c B m d, r = .done y k ∧ e = .returned (.agg #[.slice A n c, .slice B m d]) ∧ FocO lo w' y A n c B m d ∧ Blk w' g 79 (McA v b cA cn cc k))
theorem results_whnf {w : World} {g : Nat} {c0 c1 : Value} {tmps : Array Value} (h : Blk w g 70 #[c0, c1]) (ht : tmps.getD 6 undef = .pointer (some ⟨g, 0, none⟩)) :
 (results Try.f31 tmps).run Try.prog w = .ok (.agg #[c0, c1]) w := by
 have hc := h.cell
 have ht' : tmps[6]?.getD undef = .pointer (some ⟨g, 0, none⟩) := by rw [← ht]; simp
 simp [results, Try.results31, go_sem, ht', hc]
def fuelOf (g : Nat) (w : World) : Nat := match w.cell? ⟨g, 6, none⟩ with
 | some v => (intOf v).toNat
 | none => 0
theorem fuelOf_blk {w : World} {g : Nat} {v : BkVal} {b : Bk} {cA : Option Addr} {cn cc f : Nat} (h : Blk w g 79 (McA v b cA cn cc f)) : fuelOf g w = f := by
 unfold fuelOf
 rw [h.cell]
 simp [McA, intOf]
theorem whT_ready {b : Bk} {cv : List (List Nd)} {q k : Nat} {f : Fc} {room : Int} (h : readyF b cv f = true) : whT b cv q k f room = if k = 0 then .bad 10 else match ownF b cv f with
 | none => .bad 9
 | some y => if room < (fsz y : Int) then .bad 9 else whF b cv q (k - 1) y room := by
 unfold whT; rw [if_pos h]; rfl
theorem whT_still {b : Bk} {cv : List (List Nd)} {q k : Nat} {f : Fc} {room : Int} (h : ¬ readyF b cv f = true) : whT b cv q k f room = .done f k := by
 unfold whT; rw [if_neg h]
set_option linter.unusedSimpArgs false in
set_option linter.unusedVariables false in
set_option maxRecDepth 100000 in
set_option maxHeartbeats 4000000 in
theorem cwhnf_any {w0 : World} {g : Nat} {v : BkVal} {b : Bk} {cA : Option Addr} {cn cc : Nat} {cv : List (List Nd)} (hr : rightE b = 0) (hb : BookV w0 v b) (hc : CtxG b cv) (hcl : (cv.length : Int) ≤ 990000) : ∀ (G gas : Nat), gas ≤ G → ∀ (w : World) (s : Fc) (A B : Option Addr) (n c m d lo k : Nat) (room : Int), MaW w0 g v b cA cn cc cv k w → g < lo → lo ≤ w.heap.size → FocO lo w s A n c B m d → FocG b (cv.length : Int) s → (fsz s : Int) ≤ room → room ≤ 4096 → k ≤ 1000000 → whF b cv gas k s room ≠ .bad 99 →
 Calls Try.prog 31 #[.pointer (some ⟨g, 0, none⟩), .agg #[.slice A n c, .slice B m d], .int .i64 room] w (WhnfP g v b cA cn cc lo (whF b cv gas k s room) w) := by
 intro G
 induction G with
 | zero =>
  intro gas hg0 w s A B n c m d lo k room _ _ _ _ _ _ _ _ h9
  obtain rfl : gas = 0 := by omega
  exact absurd rfl h9
 | succ G ih =>
 intro gas hgas w s A B n c m d lo k room hw hgl hlo hs fs hsz hrm hk h99
 have IH := hid ih
 clear ih
 obtain ⟨w1, hw1e⟩ : ∃ w1 : World, w1 = (w.alloc (.cells #[.slice A n c, .slice B m d] 70)).alloc (.cells #[.slice none 0 0, .slice none 0 0] 70) := ⟨_, rfl⟩
 have hb1 : Below w.heap.size w w1 := by rw [hw1e]; exact below_alloc2 _ _ _
 have zs : Blk w1 w.heap.size 70 #[.slice A n c, .slice B m d] := by rw [hw1e]; exact (Blk.new _ _ _).alloc _
 have zr : Blk w1 (w.heap.size + 1) 70 #[.slice none 0 0, .slice none 0 0] := by rw [hw1e]; exact Blk.new' (by simp)
 obtain ⟨res, hres⟩ : ∃ r, r = whF b cv gas k s room := ⟨_, rfl⟩
 rw [← hres] at h99 ⊢
 have HW := hid hw
 have HBK := hid hb
 have HR := hid hr
 have HC := hid hc
 have HCL := hid hcl
 have HRM := hid hrm
 have HGL := hid hgl
 have HLO := hid hlo
 have H99 := hid h99
 have hgw := hw.lt
 have RL : ∃ RL : World → Prop, RL = fun wr => ∃ (q k' : Nat) (f' : Fc) (A' B' : Option Addr) (n' c' m' d' : Nat), res = whF b cv q k' f' room ∧ q ≤ G + 1 ∧ k' ≤ 1000000 ∧ Moved (fun q => q = g) none w wr ∧ Blk wr g 79 (McA v b cA cn cc k') ∧ Blk wr w.heap.size 70 #[.slice A' n' c', .slice B' m' d'] ∧ Blk wr (w.heap.size + 1) 70 #[.slice none 0 0, .slice none 0 0] ∧ FocO lo wr f' A' n' c' B' m' d' ∧ FocG b (cv.length : Int) f' ∧ (fsz f' : Int) ≤ room := ⟨_, rfl⟩
 obtain ⟨RL, hRL⟩ := RL
 have HRL := hid hRL
 have HST : Hid (RL w1) := hid (by
  rw [hRL]
  exact ⟨gas, k, s, A, B, n, c, m, d, hres, hgas, hk, Moved.of_below hb1, hw.blk.below hb1 hgw, zs, zr, hs.below hb1, fs, hsz⟩)
 clear hr hb hc hcl hw hs fs hres hb1 zs zr hsz hrm hgas hgl hlo hk h99 hRL
 go_in
 go_upto_region 1 with fail
 rw [← hw1e]
 clear hw1e
 go_loopw [] (fun wr => Hid (RL wr)) (fun wr => fuelOf g wr)
 case atStart => exact HST
 case round =>
  have hrl := hrel.out
  rw [HRL.out] at hrl
  obtain ⟨q, k', f', A', B', n', c', m', d', hres, hq, hk, hmv, hblk, hzs, hzr, hfo, hfg, hsz⟩ := hrl
  clear hrel HST
  obtain ⟨wb, rfl⟩ : ∃ x : World, x = wr := ⟨_, rfl⟩
  cases q with
  | zero => exact absurd (show res = .bad 99 from hres) H99.out
  | succ q =>
  have hml := hfo.len.2
  have ham := FocG.argsLen hfg (by have := HRM.out; omega)
  have hfz : fsz f' ≤ 4096 := by have := HRM.out; omega
  have HRES := hid hres
  have HM := hid hmv
  have HBM := hid hblk
  have HZS := hid hzs
  have HZR := hid hzr
  have HFO := hid hfo
  have HFG := hid hfg
  have HSZ := hid hsz
  have HFZ := hid hfz
  have HQ := hid hq
  have HKK := hid hk
  have HMA := hid (HW.out.moved hmv hblk)
  have HI := hid (hfo.read HGL.out (by omega))
  have hsl : w.heap.size < wb.heap.size := hzs.lt
  have hrl : w.heap.size + 1 < wb.heap.size := hzr.lt
  have hgb : g < wb.heap.size := hblk.lt
  have zs1 := hzs.cell
  have HFU : Hid (fuelOf g wb = k') := hid (fuelOf_blk hblk)
  have hlw : lo ≤ w.heap.size := HLO.out
  have hglo : g < lo := HGL.out
  clear hres hmv hblk hzs hzr hfo hfg hsz hml ham hfz hq hk
  go_wp2_with fail
  refine (cpart_any hgb HI.out HFG.out).mono ?_
  rintro en w3 ⟨hb3, h3⟩
  have HB3 := hid hb3
  have hp3 : ∃ (Ap : Option Addr) (np cp : Nat) (bl : Bool), en = .returned (.tuple #[.slice Ap np cp, .bool bl]) ∧ Hid ((bl = false ∧ partF f' = none) ∨ (bl = true ∧ ∃ p, partF f' = some p ∧ TermR (fun q => q < w3.heap.size ∧ q ≠ g) w3 Ap np cp (rowT p))) := by
   cases hpt : partF f' with
   | none => rw [hpt] at h3; exact ⟨none, 0, 0, false, h3, hid (.inl ⟨rfl, rfl⟩)⟩
   | some p => rw [hpt] at h3; obtain ⟨Ap, np, cp, e, ht⟩ := h3; exact ⟨Ap, np, cp, true, e, hid (.inr ⟨rfl, p, rfl, ht⟩)⟩
  obtain ⟨Ap, np, cp, bl, rfl, HP3⟩ := hp3
  have zs3 := fun i => (hb3.cell (p := ⟨w.heap.size, i, none⟩) hsl).trans (zs1 i)
  have hsl3 : w.heap.size < w3.heap.size := Nat.lt_of_lt_of_le hsl hb3.size
  have hgb3 : g < w3.heap.size := Nat.lt_of_lt_of_le hgb hb3.size
  have hrl3 : w.heap.size + 1 < w3.heap.size := Nat.lt_of_lt_of_le hrl hb3.size
  have HM3 : Hid (Moved (fun q => q = g) none w w3) := hid (HM.out.trans (row' := none) (Moved.of_below hb3) (fun _ e => by cases e))
  have HZS3 := hid (HZS.out.below hb3 hsl)
  have HZR3 := hid (HZR.out.below hb3 hrl)
  have HBM3 := hid (HBM.out.below hb3 hgb)
  have HFO3 := hid (HFO.out.below hb3)
  have HI3 := hid (HI.out.below hb3)
  have hlo3 : lo ≤ w3.heap.size := by omega
  clear hb3 h3
  go_upto_if 14 with fail
  go_cut [] (fun wx => ∃ (f2 : Fc) (k2 : Nat) (A2 B2 : Option Addr) (n2 c2 m2 d2 : Nat), Hid (res = whT b cv q k2 f2 room) ∧ Hid (k2 ≤ k') ∧ Hid (Moved (fun q => q = g) none w wx) ∧ Hid (Blk wx g 79 (McA v b cA cn cc k2)) ∧ Hid (Blk wx w.heap.size 70 #[.slice A2 n2 c2, .slice B2 m2 d2]) ∧ Hid (Blk wx (w.heap.size + 1) 70 #[.slice none 0 0, .slice none 0 0]) ∧ Hid (FocO lo wx f2 A2 n2 c2 B2 m2 d2) ∧ Hid (FocG b (cv.length : Int) f2) ∧ Hid ((fsz f2 : Int) ≤ room))
  case first =>
   cases bl with
   | false =>
    have HNO : Hid (res = whT b cv q k' f' room) := hid (by
     rcases HP3.out with ⟨_, h⟩ | ⟨h, _⟩
     · exact HRES.out.trans (wh_none h q k' room)
     cases h)
    go_wp2_with fail
    go_meet
    exact ⟨f', k', A', B', n', c', m', d', HNO, hid (Nat.le_refl _), HM3, HBM3, HZS3, HZR3, HFO3, HFG, HSZ⟩
   | true =>
    have hp4 : ∃ p, partF f' = some p ∧ TermR (fun q => q < w3.heap.size ∧ q ≠ g) w3 Ap np cp (rowT p) := by
     rcases HP3.out with ⟨h, _⟩ | ⟨_, h⟩
     · cases h
     exact h
    obtain ⟨p, hpt, htp⟩ := hp4
    have HP := hid htp
    have hpf := part_fit HFG.out hpt
    have hfsz := foc_sz hpf.1
    have hnp : szT p = np := htp.len
    obtain ⟨fz, hfz⟩ : ∃ z : Nat, z = fsz f' := ⟨_, rfl⟩
    have HST4 : Hid (res = match whF b cv q k' (hdW p) (room - (fz : Int) + (np : Int)) with | .bad e => .bad e | .done y m => whT b cv q m (withF f' (rowF y)) room) := hid (by rw [HRES.out, hfz, ← hnp]; exact wh_part hpt q k' room)
    have HPT := hid hpt
    have HPF := hid hpf
    have HFSZ := hid hfsz
    have HNP := hid hnp
    have h1 := HSZ.out
    have h2 := HRM.out
    have h4 := hpf.2
    rw [hnp] at h4
    rw [← hfz] at h1 h4
    have hw1' : IntKind.i64.wrap (room - (fz : Int)) = room - (fz : Int) := by rw [IntKind.wrap_i64]; omega
    obtain ⟨rm2, hrm2⟩ : ∃ z : Int, z = room - (fz : Int) + (np : Int) := ⟨_, rfl⟩
    have hw2' : IntKind.i64.wrap (room - (fz : Int) + (np : Int)) = rm2 := by rw [IntKind.wrap_i64]; omega
    rw [← hrm2] at HST4
    have HRM2 : Hid ((np : Int) ≤ rm2 ∧ rm2 ≤ 4096 ∧ rm2 + (fz : Int) = room + (np : Int)) := hid (by omega)
    have HFZE := hid hfz
    have HFOC := hid (fun (W : World) (hB : Below w3.heap.size w3 W) => focused_any (A := Ap) (n := np) (c := cp) (w := W) (TermR.keep HP.out (R' := (· < W.heap.size)) fun q hq => ⟨Nat.lt_of_lt_of_le hq.1 hB.size, fun o => hB.cell (p := ⟨q, o, none⟩) hq.1⟩) HPF.out.1)
    have HSI := hid (fun (W : World) (hB : Below w3.heap.size w3 W) => fsize_any (HI3.out.below hB) (by have := HFZ.out; omega))
    rw [← hfz] at HSI
    obtain ⟨r2, hst2⟩ : ∃ r, r = whF b cv q k' (hdW p) rm2 := ⟨_, rfl⟩
    rw [← hst2] at HST4
    have HN99 : Hid (r2 ≠ .bad 99) := hid (fun e => H99.out (by rw [HST4.out, e]))
    have HMW := hid (HW.out.moved HM3.out HBM3.out)
    have HIH := hid (fun (W : World) (hB : Below w3.heap.size w3 W) (A4 B4 : Option Addr) (n4 c4 m4 d4 l4 : Nat) (h3l : w3.heap.size ≤ l4) (hl : l4 ≤ W.heap.size) (h9 : FocO l4 W (hdW p) A4 n4 c4 B4 m4 d4) => IH.out q (by have := HQ.out; omega) W (hdW p) A4 B4 n4 c4 m4 d4 l4 k' rm2 (HMW.out.below hB) (by omega) hl h9 (foc HPF.out.1) (by rw [HFSZ.out, HNP.out]; exact HRM2.out.1) HRM2.out.2.1 HKK.out (by rw [← hst2]; exact HN99.out))
    rw [← hst2] at HIH
    have HST2 := hid hst2
    have hng : w.heap.size ≠ g := by omega
    have hng1 : w.heap.size + 1 ≠ g := by omega
    clear htp hpt hpf hfsz hnp hfz h1 h2 h4 hrm2 hst2
    go_upto_region 3 with fail
    refine wp_region_E 14 (fun w' => ∀ q, q < w3.heap.size → q ≠ g → w'.heap[q]? = w3.heap[q]?) (by kernel_rfl) ?_ (fun hHeld => ?_)
    · (try dsimp only); exact fun q _ _ => rfl
    have HBD : Hid (Below w3.heap.size w3 w3.drew) := hid (below_drewN (Below.refl _ _) 1)
    generalize w3.drew = W1 at *
    refine wpAnyE_take' (i := 0) (v := ?_) rfl (by kernel_rfl) (by kernel_rfl) (by kernel_rfl) (by kernel_rfl) (by kernel_rfl) (fun _ _ _ h => h) (Or.inl ⟨by rfl, fun wq hSw => ?_⟩) hHeld ?_
    rotate_left
    · (have s0 := (cell_of_heap (hSw (w.heap.size) hsl3 (by omega)) 0).trans (zs3 0); have s1 := (cell_of_heap (hSw (w.heap.size) hsl3 (by omega)) 1).trans (zs3 1); go_simp; try with_reducible rfl)
    try simp only [p7]
    refine wpAnyE_take' (i := 1) (v := ?_) rfl (by kernel_rfl) (by kernel_rfl) (by kernel_rfl) (by kernel_rfl) (by kernel_rfl) (fun _ _ _ h => h) (Or.inl ⟨by rfl, fun wq hSw => ?_⟩) hHeld ?_
    rotate_left
    · (go_simp; try with_reducible rfl)
    try simp only [p7]
    refine wpAnyE_take' (i := 2) (v := ?_) rfl (by kernel_rfl) (by kernel_rfl) (by kernel_rfl) (by kernel_rfl) (by kernel_rfl) (fun _ _ _ h => h) (Or.inl ⟨by rfl, fun wq hSw => ?_⟩) hHeld ?_
    rotate_left
    · (go_simp; try with_reducible rfl)
    try simp only [p7]
    refine wpAnyE_take' (i := 4) (v := ?_) rfl (by kernel_rfl) (by kernel_rfl) (by kernel_rfl) (by kernel_rfl) (by kernel_rfl) (fun _ _ _ h => h) (Or.inl ⟨by rfl, fun wq hSw => ?_⟩) hHeld ?_
    rotate_left
    · (go_simp; try with_reducible rfl)
    try simp only [p7]
    refine wpAnyE_take' (i := 5) (v := ?_) rfl (by kernel_rfl) (by kernel_rfl) (by kernel_rfl) (by kernel_rfl) (by kernel_rfl) (fun _ _ _ h => h) (Or.inl ⟨by rfl, fun wq hSw => ?_⟩) hHeld ?_
    rotate_left
    · (have s0 := (cell_of_heap (hSw (w.heap.size) hsl3 (by omega)) 0).trans (zs3 0); have s1 := (cell_of_heap (hSw (w.heap.size) hsl3 (by omega)) 1).trans (zs3 1); go_simp; try with_reducible rfl)
    try simp only [p7]
    refine wpAnyE_take' (i := 8) (v := ?_) rfl (by kernel_rfl) (by kernel_rfl) (by kernel_rfl) (by kernel_rfl) (by kernel_rfl) (fun _ _ _ h => h) (Or.inl ⟨by rfl, fun wq hSw => ?_⟩) hHeld ?_
    rotate_left
    · (go_simp; try with_reducible rfl)
    try simp only [p7]
    refine wpAnyE_take' (i := 9) (v := ?_) rfl (by kernel_rfl) (by kernel_rfl) (by kernel_rfl) (by kernel_rfl) (by kernel_rfl) (fun _ _ _ h => h) (Or.inl ⟨by rfl, fun wq hSw => ?_⟩) hHeld ?_
    rotate_left
    · (go_simp; try with_reducible rfl)
    try simp only [p7]
    refine wpAnyE_step (i := 3) (by kernel_rfl) rfl rfl (fun K hK => ?_)
    go_simp
    go_at_call 32
    refine (HFOC.out _ HBD.out).mono ?_
    rintro en w4 ⟨hb4, A4, n4, c4, B4, m4, d4, rfl, hf4⟩
    have HB4 : Hid (Below w3.heap.size w3 w4) := bto HBD hb4
    have HF4 := hid hf4
    have hlo4 : w3.heap.size ≤ W1.heap.size := HBD.out.size
    have hlo5 : W1.heap.size ≤ w4.heap.size := hb4.size
    clear hb4 hf4
    go_wp2_with fail
    refine hK.out _ _ (fun _ => ?_) ?_
    · (try dsimp only); exact fun (q : Nat) (h1 : q < w3.heap.size) (_ : q ≠ g) => HB4.out.block q h1
    clear hK K
    try simp only [p7]
    replace hHeld := fun (q : Nat) (h1 : q < w3.heap.size) (_ : q ≠ g) => HB4.out.block q h1
    refine wpAnyE_step (i := 6) (by kernel_rfl) rfl rfl (fun K hK => ?_)
    go_simp
    go_at_call 50
    refine (HSI.out _ HB4.out).mono ?_
    rintro en w5 ⟨rfl, hb5⟩
    have HB5 : Hid (Below w3.heap.size w3 w5) := bto HB4 hb5
    have HF5 := hid (HF4.out.below hb5)
    have hlo6 : W1.heap.size ≤ w5.heap.size := Nat.le_trans hlo5 hb5.size
    clear hb5
    go_wp2_with fail
    refine hK.out _ _ (fun _ => ?_) ?_
    · (try dsimp only); exact fun (q : Nat) (h1 : q < w3.heap.size) (_ : q ≠ g) => HB5.out.block q h1
    clear hK K
    try simp only [p7]
    replace hHeld := fun (q : Nat) (h1 : q < w3.heap.size) (_ : q ≠ g) => HB5.out.block q h1
    refine wpAnyE_take' (i := 7) (v := ?_) rfl (by kernel_rfl) (by kernel_rfl) (by kernel_rfl) (by kernel_rfl) (by kernel_rfl) (fun _ _ _ h => h) (Or.inl ⟨by rfl, fun wq hSw => ?_⟩) hHeld ?_
    rotate_left
    · (go_simp; try with_reducible rfl)
    try simp only [p7]
    refine wpAnyE_take' (i := 10) (v := ?_) rfl (by kernel_rfl) (by kernel_rfl) (by kernel_rfl) (by kernel_rfl) (by kernel_rfl) (fun _ _ _ h => h) (Or.inl ⟨by rfl, fun wq hSw => ?_⟩) hHeld ?_
    rotate_left
    · (go_simp; try with_reducible rfl)
    try simp only [p7]
    refine wpAnyE_step (i := 11) (by kernel_rfl) rfl rfl (fun K hK => ?_)
    go_simp
    go_at_call 31
    refine (HIH.out _ HB5.out A4 B4 n4 c4 m4 d4 _ hlo4 hlo6 HF5.out).mono ?_
    rintro en w6 ⟨hm6, h6⟩
    have HM6 : Hid (Moved (fun q => q = g) none w3 w6) := hid ((Moved.of_below HB5.out).trans (row' := none) hm6 (fun _ e => by cases e))
    rcases h6 with ⟨z, hr6, rfl⟩ | ⟨y, k2, A6, n6, c6, B6, m6, d6, hr6, rfl, hf6, hk6⟩
    · have HEND : Hid (res = .bad z) := hid (by rw [HST4.out, hr6])
      clear hr6 hm6
      go_wp2_with fail
      exact ⟨rfl, HM3.out.trans (row' := none) HM6.out (fun _ e => by cases e), .inl ⟨z, HEND.out, rfl⟩⟩
    have HYF := hid (wh_fit HR.out HC.out q k' (hdW p) rm2 (foc HPF.out.1) (by rw [HFSZ.out, HNP.out]; exact HRM2.out.1) HRM2.out.2.1 y k2 (HST2.out.symm.trans hr6))
    have HEND : Hid (res = whT b cv q k2 (withF f' (rowF y)) room) := hid (by rw [HST4.out, hr6])
    have HBM6 := hid hk6
    have hyz : fsz y ≤ 4096 := by have := HYF.out.2.1; have := HRM2.out.2.1; omega
    have hm9 := hf6.len.2
    have ha9 := FocG.argsLen HYF.out.1 hyz
    have HIY := hid (hf6.read (g := g) (by omega) (by omega))
    have HYZ := hid hyz
    have HFO6 := hid (HFO3.out.movedG hglo HM6.out)
    have hs6 := HM6.out.size
    clear hr6 hm6 hf6 hk6 hyz hm9 ha9
    go_wp2_with fail
    refine hK.out _ _ (fun _ => ?_) ?_
    · (try dsimp only); exact fun (q : Nat) (h1 : q < w3.heap.size) (h2 : q ≠ g) => HM6.out.block q h1 h2 (by simp)
    clear hK K
    try simp only [p7]
    replace hHeld := fun (q : Nat) (h1 : q < w3.heap.size) (h2 : q ≠ g) => HM6.out.block q h1 h2 (by simp)
    refine wpAnyE_step (i := 12) (by kernel_rfl) rfl rfl (fun K hK => ?_)
    go_simp
    go_at_call 33
    refine (frow_any HIY.out HYF.out.1).mono ?_
    rintro en w7 ⟨hb7, h7⟩
    have HM7 : Hid (Moved (fun q => q = g) none w3 w7) := hid (HM6.out.trans (row' := none) (Moved.of_below hb7) (fun _ e => by cases e))
    rcases h7 with ⟨_, A7, n7, c7, rfl, ht7, _⟩ | ⟨hbig, rfl⟩
    rotate_left
    · exact absurd hbig (by have := HYZ.out; omega)
    have HT7 := hid (ht7.keep (R' := fun q => lo ≤ q ∧ q < w7.heap.size) (w' := w7) fun q hq => ⟨⟨by have := hq.1; omega, hq.2⟩, fun _ => rfl⟩)
    have HFO7 := hid (HFO6.out.below hb7)
    have HBM7 := hid (HBM6.out.below hb7 HBM6.out.lt)
    have hs7 := hb7.size
    clear hb7 ht7
    go_wp2_with fail
    refine hK.out _ _ (fun _ => ?_) ?_
    · (try dsimp only); exact fun (q : Nat) (h1 : q < w3.heap.size) (h2 : q ≠ g) => HM7.out.block q h1 h2 (by simp)
    clear hK K
    try simp only [p7]
    replace hHeld := fun (q : Nat) (h1 : q < w3.heap.size) (h2 : q ≠ g) => HM7.out.block q h1 h2 (by simp)
    refine wpAnyE_step (i := 13) (by kernel_rfl) rfl rfl (fun K hK => ?_)
    go_simp
    go_at_call 49
    refine (cwith_any (by omega) HFO7.out HFG.out HFZ.out HPT.out (by have h9 := HYF.out.2.1; have h8 := HRM2.out.2.2; have h7 := HRM.out; have h6 := HNP.out; have h5 := HFZE.out; have h4 := rowF_len y; omega) HT7.out (HYF.out.1.fit HYZ.out)).mono ?_
    rintro en w8 ⟨hb8, A8, n8, c8, B8, m8, d8, rfl, hf8⟩
    have HM8 : Hid (Moved (fun q => q = g) none w3 w8) := hid (HM7.out.trans (row' := none) (Moved.of_below hb8) (fun _ e => by cases e))
    have HFO8 := hid hf8
    have HBM8 := hid (HBM7.out.below hb8 HBM7.out.lt)
    clear hb8 hf8
    have HZS8 := hid (HZS3.out.moved HM8.out hng (by simp))
    have HZR8 := hid (HZR3.out.moved HM8.out hng1 (by simp))
    have z8 := HZS8.out.cell
    have f8 := HZS8.out.frozen
    have hl8 : w.heap.size < w8.heap.size := HZS8.out.lt
    go_wp2_with fail
    refine hK.out _ _ (fun _ => ?_) ?_
    · (try dsimp only); exact fun (q : Nat) (h1 : q < w3.heap.size) (h2 : q ≠ g) => HM8.out.block q h1 h2 (by simp)
    clear hK K
    try simp only [p7]
    replace hHeld := fun (q : Nat) (h1 : q < w3.heap.size) (h2 : q ≠ g) => HM8.out.block q h1 h2 (by simp)
    refine wpAnyE_step (i := 14) (by kernel_rfl) rfl rfl (fun K hK => ?_)
    go_simp
    refine hK.out _ _ (fun h => absurd rfl h) ?_
    clear hK K
    try simp only [p7]
    refine wpAnyE_end (by kernel_rfl) ?_ _
    have HWF := hid (with_fit HFG.out HPT.out (HYF.out.1.fit HYZ.out) (by have h9 := HYF.out.2.1; have h8 := HRM2.out.2.2; have h7 := HRM.out; have h6 := HNP.out; have h5 := HFZE.out; have h4 := rowF_len y; omega))
    have HWZ : Hid ((fsz (withF f' (rowF y)) : Int) ≤ room) := hid (by have h0 := HWF.out.2; have h9 := HYF.out.2.1; have h8 := HRM2.out.2.2; have h7 := HRM.out; have h6 := HNP.out; have h5 := HFZE.out; have h4 := rowF_len y; omega)
    go_wp2_with fail
    go_meet
    refine ⟨withF f' (rowF y), k2, A8, B8, n8, c8, m8, d8, HEND, hid HYF.out.2.2, hid (((HM3.out.trans (row' := none) HM8.out (fun _ e => by cases e)).setNew (p := ⟨w.heap.size, 0, none⟩) (Nat.le_refl _) _).setNew (p := ⟨w.heap.size, 1, none⟩) (Nat.le_refl _) _), hid ((HBM8.out.far (p := ⟨w.heap.size, 0, none⟩) (fun e => hng e.symm) _).far (p := ⟨w.heap.size, 1, none⟩) (fun e => hng e.symm) _), hid (by have := (HZS8.out.set_ 0 (.slice A8 n8 c8)).set_ 1 (.slice B8 m8 d8); simpa using this), hid ((HZR8.out.far (p := ⟨w.heap.size, 0, none⟩) (by simp) _).far (p := ⟨w.heap.size, 1, none⟩) (by simp) _), hid (HFO8.out.box2 HZS8.out _ _), hid HWF.out.1, HWZ⟩
  case rest =>
  obtain ⟨f2, k2, A2, B2, n2, c2, m2, d2, HRES2, HK2, HM2, HBM2, HZS2, HZR2, HFO2, HFG2, HSZ2⟩ := hcut
  obtain ⟨w5, rfl⟩ : ∃ x : World, x = wc := ⟨_, rfl⟩
  have zs5 := HZS2.out.cell
  have HMA2 := hid (HW.out.moved HM2.out HBM2.out)
  have hml := HFO2.out.len.2
  have hfz2 : fsz f2 ≤ 4096 := by have := HSZ2.out; have := HRM.out; omega
  have ham := FocG.argsLen HFG2.out hfz2
  have HFZ2 := hid hfz2
  have HI2 := hid (HFO2.out.read HGL.out (by omega))
  have hsl5 : w.heap.size < w5.heap.size := HZS2.out.lt
  have hrl5 : w.heap.size + 1 < w5.heap.size := HZR2.out.lt
  have hgb5 : g < w5.heap.size := HBM2.out.lt
  have hmd : m2 ≤ d2 := by obtain ⟨_, xs, h2, _⟩ := HFO2.out; exact own_capT h2
  have HMD := hid hmd
  clear hml hfz2 ham hmd
  by_cases hrd : readyF b cv f2 = true
  rotate_left
  · have HRD := hid hrd
    have HEND : Hid (res = .done f2 k2) := hid (HRES2.out.trans (whT_still hrd))
    have HRY : Hid (Calls Try.prog 51 #[.pointer (some ⟨g, 0, none⟩), .agg #[.slice A2 n2 c2, .slice B2 m2 d2]] w5 (BoolP false w5)) := hid (by rw [← Bool.eq_false_iff.2 hrd]; exact cready_any HR.out HBK.out HC.out HMA2.out HI2.out HFG2.out)
    clear hrd
    go_wp2_with fail
    refine (HRY.out).mono ?_
    rintro en w6 ⟨rfl, hb6⟩
    have HB6 := hid hb6
    have zs6 := fun i => (hb6.cell (p := ⟨w.heap.size, i, none⟩) hsl5).trans (zs5 i)
    have HZR6 := hid (HZR2.out.below hb6 hrl5)
    have HBM6 := hid (HBM2.out.below hb6 hgb5)
    have HFO6 := hid (HFO2.out.below hb6)
    have HM6 : Hid (Moved (fun q => q = g) none w w6) := hid (HM2.out.trans (row' := none) (Moved.of_below hb6) (fun _ e => by cases e))
    have z6 := HZR6.out.cell
    have f6 := HZR6.out.frozen
    have hl6 : w.heap.size + 1 < w6.heap.size := HZR6.out.lt
    have hng1 : g ≠ w.heap.size + 1 := by omega
    clear hb6
    go_wp2_with fail
    refine bodyPost_ret (v := .agg #[.slice A2 n2 c2, .slice B2 m2 d2]) (results_whnf (g := w.heap.size + 1) (by have := (HZR6.out.set_ 0 (.slice A2 n2 c2)).set_ 1 (.slice B2 m2 d2); simpa using this) (by simp)) rfl ⟨?_, .inr ⟨f2, k2, A2, n2, c2, B2, m2, d2, HEND.out, rfl, ?_, ?_⟩⟩
    · exact (HM6.out.setNew (p := ⟨w.heap.size + 1, 0, none⟩) (Nat.le_succ _) _).setNew (p := ⟨w.heap.size + 1, 1, none⟩) (Nat.le_succ _) _
    · exact HFO6.out.box2 HZR6.out _ _
    exact (HBM6.out.far (p := ⟨w.heap.size + 1, 0, none⟩) hng1 _).far (p := ⟨w.heap.size + 1, 1, none⟩) hng1 _
  have HRD := hid hrd
  have HTR : Hid (res = if k2 = 0 then .bad 10 else match ownF b cv f2 with
   | none => .bad 9
   | some y => if room < (fsz y : Int) then .bad 9 else whF b cv q (k2 - 1) y room) := hid (HRES2.out.trans (whT_ready hrd))
  have HRY : Hid (Calls Try.prog 51 #[.pointer (some ⟨g, 0, none⟩), .agg #[.slice A2 n2 c2, .slice B2 m2 d2]] w5 (BoolP true w5)) := hid (by rw [← hrd]; exact cready_any HR.out HBK.out HC.out HMA2.out HI2.out HFG2.out)
  clear hrd
  go_wp2_with fail
  refine (HRY.out).mono ?_
  rintro en w6 ⟨rfl, hb6⟩
  have HB6 := hid hb6
  have zs6 := fun i => (hb6.cell (p := ⟨w.heap.size, i, none⟩) hsl5).trans (zs5 i)
  have HBM6 := hid (HBM2.out.below hb6 hgb5)
  have zm6 := HBM6.out.cell
  have hgb6 : g < w6.heap.size := HBM6.out.lt
  have hsl6 : w.heap.size < w6.heap.size := Nat.lt_of_lt_of_le hsl5 hb6.size
  clear hb6
  by_cases hk0 : k2 = 0
  · have HEND : Hid (res = .bad 10) := hid (by rw [HTR.out, if_pos hk0])
    have HME : Hid (Moved (fun q => q = g) none w w6) := hid (HM2.out.trans (row' := none) (Moved.of_below HB6.out) (fun _ e => by cases e))
    subst hk0
    go_wp2_with fail
    exact ⟨rfl, HME.out, .inl ⟨10, HEND.out, rfl⟩⟩
  have HTR2 : Hid (res = match ownF b cv f2 with
   | none => .bad 9
   | some y => if room < (fsz y : Int) then .bad 9 else whF b cv q (k2 - 1) y room) := hid (by have h := HTR.out; rw [if_neg hk0] at h; exact h)
  have dk0 : ((k2 : Int) == 0) = false := by simpa using hk0
  have dk1 : (k2 == 0) = false := by simpa using hk0
  obtain ⟨kq, hkq⟩ : ∃ kq : Nat, kq + 1 = k2 := ⟨k2 - 1, by omega⟩
  have hwk : IntKind.i64.wrap ((k2 : Int) - 1) = (kq : Int) := by have := HK2.out; have := HKK.out; rw [IntKind.wrap_i64]; omega
  have HKQ := hid hkq
  clear hkq
  go_wp2_with fail
  refine (cown_any HR.out HBK.out HC.out HCL.out (HMA2.out.below HB6.out) (HI2.out.below HB6.out) HFG2.out HMD.out HFZ2.out HRD.out).mono ?_
  rintro en w7 ⟨hb7, h7⟩
  have HB7 : Hid (Below w5.heap.size w5 w7) := bto HB6 hb7
  have HM7 : Hid (Moved (fun q => q = g) none w w7) := hid (HM2.out.trans (row' := none) (Moved.of_below HB7.out) (fun _ e => by cases e))
  rcases h7 with ⟨y, hy, A7, n7, c7, B7, m7, d7, rfl, hf7⟩ | ⟨hy, rfl⟩
  rotate_left
  · have HEND : Hid (res = .bad 9) := hid (by rw [HTR2.out, hy])
    clear hb7 hy
    go_wp2_with fail
    exact ⟨rfl, HM7.out, .inl ⟨9, HEND.out, rfl⟩⟩
  have HF7 := hid (hf7.base (lo' := lo) (by have := HB6.out.size; omega))
  have hyf := own_fit HR.out HC.out HFG2.out HRD.out hy
  have HYF := hid hyf
  have HTR3 : Hid (res = if room < (fsz y : Int) then .bad 9 else whF b cv q (k2 - 1) y room) := hid (by rw [HTR2.out, hy])
  have hm7 := HF7.out.len.2
  have ha7 := FocG.argsLen hyf.1 hyf.2
  have HI7 := hid (HF7.out.read HGL.out (by omega))
  clear hb7 hf7 hy hyf hm7 ha7
  go_wp2_with fail
  refine (cwithin_any HI7.out (by have := HYF.out.2; omega) room).mono ?_
  rintro en w8 ⟨hb8, h8⟩
  have HB8 : Hid (Below w5.heap.size w5 w8) := bto HB7 hb8
  have HM8 : Hid (Moved (fun q => q = g) none w w8) := hid (HM2.out.trans (row' := none) (Moved.of_below HB8.out) (fun _ e => by cases e))
  have HF8 := hid (HF7.out.below hb8)
  clear hb8
  rcases h8 with ⟨hfit, rfl⟩ | ⟨hbig, rfl⟩
  rotate_left
  · have HEND : Hid (res = .bad 9) := hid (by rw [HTR3.out, if_pos hbig])
    clear hbig
    go_wp2_with fail
    exact ⟨rfl, HM8.out, .inl ⟨9, HEND.out, rfl⟩⟩
  have HNX : Hid (res = whF b cv q kq y room) := hid (by have h := HTR3.out; have h9 := HKQ.out; rw [if_neg hfit, show k2 - 1 = kq from by omega] at h; exact h)
  have HFIT := hid hfit
  have HZS8 := hid (HZS2.out.below HB8.out hsl5)
  have HZR8 := hid (HZR2.out.below HB8.out hrl5)
  have HBM8 := hid (HBM2.out.below HB8.out hgb5)
  have z8 := HZS8.out.cell
  have f8 := HZS8.out.frozen
  have hl8 : w.heap.size < w8.heap.size := HZS8.out.lt
  have hgb8 : g < w8.heap.size := HBM8.out.lt
  have hgs : g ≠ w.heap.size := by omega
  have hgr : g ≠ w.heap.size + 1 := by omega
  have HBM9 : Hid (Blk ((w8.setCell ⟨w.heap.size, 0, none⟩ (.slice A7 n7 c7)).setCell ⟨w.heap.size, 1, none⟩ (.slice B7 m7 d7)) g 79 (McA v b cA cn cc k2)) := hid ((HBM8.out.far (p := ⟨w.heap.size, 0, none⟩) hgs _).far (p := ⟨w.heap.size, 1, none⟩) hgs _)
  have zm9 := HBM9.out.cell
  have fm9 := HBM9.out.frozen
  have HZS9 : Hid (Blk ((w8.setCell ⟨w.heap.size, 0, none⟩ (.slice A7 n7 c7)).setCell ⟨w.heap.size, 1, none⟩ (.slice B7 m7 d7)) w.heap.size 70 #[.slice A7 n7 c7, .slice B7 m7 d7]) := hid (by have := (HZS8.out.set_ 0 (.slice A7 n7 c7)).set_ 1 (.slice B7 m7 d7); simpa using this)
  have HZR9 : Hid (Blk ((w8.setCell ⟨w.heap.size, 0, none⟩ (.slice A7 n7 c7)).setCell ⟨w.heap.size, 1, none⟩ (.slice B7 m7 d7)) (w.heap.size + 1) 70 #[.slice none 0 0, .slice none 0 0]) := hid ((HZR8.out.far (p := ⟨w.heap.size, 0, none⟩) (by simp) _).far (p := ⟨w.heap.size, 1, none⟩) (by simp) _)
  have HFO9 := hid (HF8.out.box2 HZS8.out (.slice A7 n7 c7) (.slice B7 m7 d7))
  have HM9 : Hid (Moved (fun q => q = g) none w ((w8.setCell ⟨w.heap.size, 0, none⟩ (.slice A7 n7 c7)).setCell ⟨w.heap.size, 1, none⟩ (.slice B7 m7 d7))) := hid ((HM8.out.setNew (p := ⟨w.heap.size, 0, none⟩) (Nat.le_refl _) _).setNew (p := ⟨w.heap.size, 1, none⟩) (Nat.le_refl _) _)
  clear hfit
  go_upto_region 9 with fail
  generalize ((w8.setCell ⟨w.heap.size, 0, none⟩ (.slice A7 n7 c7)).setCell ⟨w.heap.size, 1, none⟩ (.slice B7 m7 d7)) = W9 at *
  have hgb9 : g < W9.heap.size := HBM9.out.lt
  go_wp2_with fail
  have HBM10 : Hid (Blk (W9.setCell ⟨g, 6, none⟩ (.int .i64 (kq : Int))) g 79 (McA v b cA cn cc kq)) := hid (by have := HBM9.out.set_ 6 (.int .i64 (kq : Int)); simpa [McA] using this)
  go_roundw
  case rel =>
   refine hid ?_
   rw [HRL.out]
   refine ⟨q, kq, y, A7, B7, n7, c7, m7, d7, HNX.out, by have := HQ.out; omega, by have := HKQ.out; have := HK2.out; have := HKK.out; omega, HM9.out.setCell (p := ⟨g, 6, none⟩) rfl _, HBM10.out, HZS9.out.far (p := ⟨g, 6, none⟩) (fun e => hgs e.symm) _, HZR9.out.far (p := ⟨g, 6, none⟩) (fun e => hgr e.symm) _, HFO9.out.set HGL.out _ _, HYF.out.1, by have := HFIT.out; omega⟩
  case measure =>
   have h1 := fuelOf_blk HBM10.out
   have h2 := HFU.out
   have h3 := HKQ.out
   have h4 := HK2.out
   omega
end Go.Proofs.Ytjoddliplahgkaa
