/- core: step. -/
import Derived.Test.YtjoddliplahgkaaDShort2
import Derived.Test.YtjoddliplahgkaaDWhX
namespace Go.Proofs.Ytjoddliplahgkaa
open Go.Lib (hid)
open Go.RowKit
section
variable {lo g : Nat} {w w' : World} {f : Fc} {A B a1 a2 : Option Addr} {n c m d n1 c1 n2 c2 : Nat}
theorem TermR.box {R R' : Nat → Prop} {l : List Nd} (h : TermR R w A n c l) (hl : 0 < l.length) (hg : Blk w g 70 #[.slice a1 n1 c1, .slice a2 n2 c2]) (hk : ∀ q, q ≠ g → w'.heap[q]? = w.heap[q]?) (hR : ∀ q, R q → q ≠ g → R' q) : TermR R' w' A n c l := by
 refine ⟨h.len, h.cap, h.few, h.nul, fun hn => ?_⟩
 obtain ⟨b, off, e, hb, hm⟩ := h.mem hn
 have hne : b ≠ g := by
  rintro rfl
  have h1 := (hm 0 hl).1
  rw [hg.cell] at h1
  generalize off + 0 * 3 = z at h1
  match z, h1 with
  | 0, h1 => simp at h1
  | 1, h1 => simp at h1
  | z + 2, h1 => simp at h1
 refine ⟨b, off, e, hR b hb hne, fun p hp => ?_⟩
 obtain ⟨x, y, z⟩ := hm p hp
 exact ⟨(cell_of_heap (hk b hne) _).trans x, (cell_of_heap (hk b hne) _).trans y, (cell_of_heap (hk b hne) _).trans z⟩
theorem RowsC.box {R R' : Nat → Prop} (hg : Blk w g 70 #[.slice a1 n1 c1, .slice a2 n2 c2]) (hk : ∀ q, q ≠ g → w'.heap[q]? = w.heap[q]?) (hR : ∀ q, R q → q ≠ g → R' q) : ∀ {xs : List Value} {L : List TT}, RowsC R w xs (L.map rowT) → RowsC R' w' xs (L.map rowT)
 | [], [], _ => trivial
 | [], _ :: _, h => h.elim
 | _ :: _, [], h => h.elim
 | x :: xs, y :: ys, h => by
  obtain ⟨⟨A', n', c', e, ht⟩, h2⟩ := h
  exact ⟨⟨A', n', c', e, ht.box (rowT_pos y) hg hk hR⟩, RowsC.box hg hk hR h2⟩
theorem ft_ne : (70 : TypeId) ≠ 29 := by decide
theorem own_box {base z k : Nat} {v : Value} {xs : List Value} (h : w.ownsRow base 29 z v k xs) {cs : Array Value} (hg : Blk w g 70 cs) : ∀ q, v.ownBlock = some q → q ≠ g := by
 rintro q hq rfl
 rcases h.2 with ⟨hv, _⟩ | ⟨b, cap, cur, hv, _, hh, _⟩
 · subst hv; cases hq
 subst hv
 have e : b = q := Option.some.inj (show some b = some q from hq)
 subst e
 have h2 := hh.symm.trans hg
 injection h2 with h2
 injection h2 with _ h3 _
 exact ft_ne h3.symm
theorem FocO.box (h : FocO lo w f A n c B m d) (hg : Blk w g 70 #[.slice a1 n1 c1, .slice a2 n2 c2]) (hk : ∀ q, q ≠ g → w'.heap[q]? = w.heap[q]?) (hs : w'.heap.size = w.heap.size) : FocO lo w' f A n c B m d := by
 obtain ⟨h1, xs, h2, h3⟩ := h
 refine ⟨h1.box (rowT_pos _) hg hk fun q hq _ => ⟨hq.1, by rw [hs]; exact hq.2.1, hq.2.2⟩, xs, own_heap h2 fun q hq => hk q (own_box h2 hg q hq), RowsC.box hg hk (fun q hq _ => ⟨hq.1, by rw [hs]; exact hq.2.1, hq.2.2⟩) h3⟩
theorem FocO.box2 (h : FocO lo w f A n c B m d) (hg : Blk w g 70 #[.slice a1 n1 c1, .slice a2 n2 c2]) (u0 u1 : Value) : FocO lo ((w.setCell ⟨g, 0, none⟩ u0).setCell ⟨g, 1, none⟩ u1) f A n c B m d :=
 h.box hg (fun q hq => (Below.heap_setCell _ ⟨g, 1, none⟩ u1 q hq).trans (Below.heap_setCell w ⟨g, 0, none⟩ u0 q hq)) (by rw [size_setT, size_setT])
end
def StepR (lo : Nat) (r : StR) (A : Option Addr) (n c : Nat) (B : Option Addr) (m d : Nat) (A' : Option Addr) (n' c' : Nat) (B' : Option Addr) (m' d' : Nat) (bl : Bool) (w' : World) : Prop := (r = .no ∧ bl = false ∧ A' = A ∧ n' = n ∧ c' = c ∧ B' = B ∧ m' = m ∧ d' = d) ∨ (∃ y, r = .yes y ∧ bl = true ∧ FocO lo w' y A' n' c' B' m' d')
def StepP (lo : Nat) (r : StR) (A : Option Addr) (n c : Nat) (B : Option Addr) (m d : Nat) (w : World) (e : Ending) (w' : World) : Prop := Below w.heap.size w w' ∧ ((r = .big ∧ e = .panicked (CFail 9)) ∨ ∃ A' n' c' B' m' d' bl, e = .returned (.tuple #[.agg #[.slice A' n' c', .slice B' m' d'], .bool bl]) ∧ StepR lo r A n c B m d A' n' c' B' m' d' bl w')
theorem StepR.below {lo : Nat} {r : StR} {A A' B B' : Option Addr} {n c m d n' c' m' d' : Nat} {bl : Bool} {w w' : World} (h : StepR lo r A n c B m d A' n' c' B' m' d' bl w) (hb : Below w.heap.size w w') : StepR lo r A n c B m d A' n' c' B' m' d' bl w' := by
 rcases h with h | ⟨y, h1, h2, h3⟩
 · exact .inl h
 exact .inr ⟨y, h1, h2, h3.below hb⟩
theorem results_step {w : World} {g : Nat} {c0 c1 : Value} {bl : Bool} {tmps : Array Value} (h : Blk w g 70 #[c0, c1]) (ht : tmps.getD 6 undef = .pointer (some ⟨g, 0, none⟩)) (hb : tmps.getD 7 undef = .bool bl) :
 (results Try.f35 tmps).run Try.prog w = .ok (.tuple #[.agg #[c0, c1], .bool bl]) w := by
 have hc := h.cell
 have ht' : tmps[6]?.getD undef = .pointer (some ⟨g, 0, none⟩) := by rw [← ht]; simp
 have hb' : tmps[7]?.getD undef = .bool bl := by rw [← hb]; simp
 simp [results, Try.results35, go_sem, ht', hb', hc]
theorem st_part {b : Bk} {cv : List (List Nd)} {gas : Nat} {s : Fc} {p : TT} {room : Int} (h : ¬ readyF b cv s = true) (hp : partF s = some p) : stF b cv (gas + 1) s room = match stF b cv gas (hdW p) (room - (fsz s : Int) + (szT p : Int)) with | .no => .no | .big => .big | .yes y => .yes (withF s (rowF y)) := by
 conv => lhs; unfold stF
 rw [if_neg h, hp]
 rfl
theorem st_none {b : Bk} {cv : List (List Nd)} {gas : Nat} {s : Fc} {room : Int} (h : ¬ readyF b cv s = true) (hp : partF s = none) : stF b cv (gas + 1) s room = .no := by
 conv => lhs; unfold stF
 rw [if_neg h, hp]
theorem st_ready {b : Bk} {cv : List (List Nd)} {gas : Nat} {s : Fc} {room : Int} (h : readyF b cv s = true) : stF b cv (gas + 1) s room = match ownF b cv s with | none => .big | some y => if room < (fsz y : Int) then .big else .yes y := by
 conv => lhs; unfold stF
 rw [if_pos h]
 rfl
theorem st_fit {b : Bk} {cv : List (List Nd)} (hr : rightE b = 0) (hc : CtxG b cv) {gas : Nat} {f y : Fc} {room : Int} (hf : FocG b (cv.length : Int) f) (h1 : (fsz f : Int) ≤ room) (h2 : room ≤ 4096) (hg : fsz f < gas) (h : stF b cv gas f room = .yes y) : FocG b (cv.length : Int) y ∧ (fsz y : Int) ≤ room := by
 have h3 := step_wh hr hc gas f room hf h1 h2 hg
 rw [h] at h3
 exact ⟨h3.1, h3.2.1⟩
set_option linter.unusedSimpArgs false in
set_option linter.unusedVariables false in
set_option maxRecDepth 100000 in
set_option maxHeartbeats 4000000 in
theorem cstep_any {w0 : World} {g : Nat} {v : BkVal} {b : Bk} {cA : Option Addr} {cn cc : Nat} {cv : List (List Nd)} {f : Nat} (hr : rightE b = 0) (hb : BookV w0 v b) (hc : CtxG b cv) (hcl : (cv.length : Int) ≤ 990000) : ∀ (gas : Nat) (w : World) (s : Fc) (A B : Option Addr) (n c m d lo : Nat) (room : Int), MaW w0 g v b cA cn cc cv f w → g < lo → lo ≤ w.heap.size → FocO lo w s A n c B m d → FocG b (cv.length : Int) s → (fsz s : Int) ≤ room → room ≤ 4096 → fsz s < gas →
 Calls Try.prog 35 #[.pointer (some ⟨g, 0, none⟩), .agg #[.slice A n c, .slice B m d], .int .i64 room] w (StepP lo (stF b cv gas s room) A n c B m d w) := by
 intro gas
 induction gas with
 | zero => intro w s A B n c m d lo room _ _ _ _ _ _ _ h9; exact absurd h9 (by omega)
 | succ gas ih =>
 intro w s A B n c m d lo room hw hgl hlo hs fs hsz hrm hgas
 have IH := hid ih
 clear ih
 obtain ⟨w1, hw1e⟩ : ∃ w1 : World, w1 = (w.alloc (.cells #[.slice A n c, .slice B m d] 70)).alloc (.cells #[.slice none 0 0, .slice none 0 0] 70) := ⟨_, rfl⟩
 have hb1 : Below w.heap.size w w1 := by rw [hw1e]; exact below_alloc2 _ _ _
 have zs : Blk w1 w.heap.size 70 #[.slice A n c, .slice B m d] := by rw [hw1e]; exact (Blk.new _ _ _).alloc _
 have zr : Blk w1 (w.heap.size + 1) 70 #[.slice none 0 0, .slice none 0 0] := by rw [hw1e]; exact Blk.new' (by simp)
 have hw1s : w1.heap.size = w.heap.size + 2 := by rw [hw1e]; simp
 have hml := hs.len.2
 have ham := FocG.argsLen fs (by omega)
 have hfz4 : fsz s ≤ 4096 := by omega
 have HO := hid hs
 have HO1 := hid (hs.below hb1)
 have HI := hid (HO1.out.read hgl (by omega))
 have hmd : m ≤ d := by obtain ⟨_, xs, h2, _⟩ := hs; exact own_capT h2
 have HMD := hid hmd
 have HW := hid (hw.below hb1)
 have HB1 := hid hb1
 have HBK := hid hb
 have HR := hid hr
 have HC := hid hc
 have HCL := hid hcl
 have HFS := hid fs
 have HZR := hid zr
 have HZS := hid zs
 have HSZ := hid hsz
 have HRM := hid hrm
 have HGAS := hid hgas
 have HGL := hid hgl
 have HLO := hid hlo
 have HFZ := hid hfz4
 obtain ⟨res, hres⟩ : ∃ r, r = stF b cv (gas + 1) s room := ⟨_, rfl⟩
 rw [← hres]
 have HRES := hid hres
 have HW1S := hid hw1s
 have hsl : w.heap.size < w1.heap.size := zs.lt
 have hrl : w.heap.size + 1 < w1.heap.size := zr.lt
 have zs1 := zs.cell
 clear hr hb hc hcl hw hs fs hres hb1 zs zr hw1s hml ham hmd hsz hrm hgas hgl hlo hfz4
 go_in
 go_upto_region 1 with fail
 rw [← hw1e]
 clear hw1e
 by_cases hrd : readyF b cv s = true
 · have HRD := hid hrd
   have HST : Hid (res = match ownF b cv s with | none => .big | some y => if room < (fsz y : Int) then .big else .yes y) := hid (HRES.out.trans (st_ready HRD.out))
   have HRY : Hid (Calls Try.prog 51 #[.pointer (some ⟨g, 0, none⟩), .agg #[.slice A n c, .slice B m d]] w1 (BoolP true w1)) := hid (by rw [← HRD.out]; exact cready_any HR.out HBK.out HC.out HW.out HI.out HFS.out)
   clear hrd
   go_wp2_with fail
   refine (HRY.out).mono ?_
   rintro en w2 ⟨rfl, hb2⟩
   have HB2 := hid hb2
   have zs2 := fun i => (hb2.cell (p := ⟨w.heap.size, i, none⟩) hsl).trans (zs1 i)
   clear hb2
   go_wp2_with fail
   refine (cown_any HR.out HBK.out HC.out HCL.out (HW.out.below HB2.out) (HI.out.below HB2.out) HFS.out HMD.out HFZ.out HRD.out).mono ?_
   rintro en w3 ⟨hb3, h3⟩
   have HB3 := bto HB2 hb3
   rcases h3 with ⟨y, hy, A3, n3, c3, B3, m3, d3, rfl, hf3⟩ | ⟨hy, rfl⟩
   rotate_left
   · have HST3 : Hid (res = .big) := hid (by rw [HST.out, hy])
     clear hb3 hy
     go_wp2_with fail
     exact ⟨rfl, HB1.out.trans (HB3.out.mono HB1.out.size), .inl ⟨HST3.out, rfl⟩⟩
   have HF3 := hid (hf3.base (lo' := w1.heap.size) HB2.out.size)
   have hyf := own_fit HR.out HC.out HFS.out HRD.out hy
   have HYF := hid hyf
   have HST2 : Hid (res = if room < (fsz y : Int) then .big else .yes y) := hid (by rw [HST.out, hy])
   have hm3 := HF3.out.len.2
   have ha3 := FocG.argsLen hyf.1 hyf.2
   have HI3 := hid (HF3.out.read (g := g) (by have := HGL.out; have := HLO.out; omega) (by omega))
   clear hb3 hf3 hy hyf hm3 ha3
   go_wp2_with fail
   refine (cwithin_any HI3.out (by have := HYF.out.2; omega) room).mono ?_
   rintro en w4 ⟨hb4, h4⟩
   have HB4 := bto HB3 hb4
   have HF4 := hid (HF3.out.below hb4)
   clear hb4
   rcases h4 with ⟨hfit, rfl⟩ | ⟨hbig, rfl⟩
   · have HST3 : Hid (res = .yes y) := hid (by rw [HST2.out, if_neg hfit])
     have HZR4 := hid (HZR.out.below HB4.out hrl)
     have z4 := HZR4.out.cell
     have f4 := HZR4.out.frozen
     have hl4 : w.heap.size + 1 < w4.heap.size := HZR4.out.lt
     clear hfit
     go_wp2_with fail
     refine bodyPost_ret (v := .tuple #[.agg #[.slice A3 n3 c3, .slice B3 m3 d3], .bool true]) (results_step (g := w.heap.size + 1) (by have := (HZR4.out.set_ 0 (.slice A3 n3 c3)).set_ 1 (.slice B3 m3 d3); simpa using this) (by simp) (by simp)) rfl ⟨?_, .inr ⟨A3, n3, c3, B3, m3, d3, true, rfl, .inr ⟨y, HST3.out, rfl, ?_⟩⟩⟩
     · exact ((HB1.out.trans (HB4.out.mono HB1.out.size)).setCell (p := ⟨w.heap.size + 1, 0, none⟩) (Nat.le_succ _) _).setCell (p := ⟨w.heap.size + 1, 1, none⟩) (Nat.le_succ _) _
     exact (HF4.out.box2 HZR4.out _ _).base (by have := HLO.out; omega)
   have HST3 : Hid (res = .big) := hid (by rw [HST2.out, if_pos hbig])
   clear hbig
   go_wp2_with fail
   exact ⟨rfl, HB1.out.trans (HB4.out.mono HB1.out.size), .inl ⟨HST3.out, rfl⟩⟩
 have HRD := hid hrd
 have HRY : Hid (Calls Try.prog 51 #[.pointer (some ⟨g, 0, none⟩), .agg #[.slice A n c, .slice B m d]] w1 (BoolP false w1)) := hid (by rw [← Bool.eq_false_iff.2 HRD.out]; exact cready_any HR.out HBK.out HC.out HW.out HI.out HFS.out)
 clear hrd
 go_wp2_with fail
 refine (HRY.out).mono ?_
 rintro en w2 ⟨rfl, hb2⟩
 have HB2 := hid hb2
 have zs2 := fun i => (hb2.cell (p := ⟨w.heap.size, i, none⟩) hsl).trans (zs1 i)
 have hgw2 : g < w2.heap.size := (HW.out.below hb2).lt
 clear hb2
 go_wp2_with fail
 refine (cpart_any hgw2 (HI.out.below HB2.out) HFS.out).mono ?_
 rintro en w3 ⟨hb3, h3⟩
 have HB3 := bto HB2 hb3
 have zs3 := fun i => (HB3.out.cell (p := ⟨w.heap.size, i, none⟩) hsl).trans (zs1 i)
 have HZR3 := hid (HZR.out.below HB3.out hrl)
 clear hb3
 cases hpt : partF s with
 | none =>
  rw [hpt] at h3
  simp only at h3
  subst h3
  have HST3 : Hid (res = .no) := hid (HRES.out.trans (st_none HRD.out hpt))
  have z3 := HZR3.out.cell
  have f3 := HZR3.out.frozen
  have hl3 : w.heap.size + 1 < w3.heap.size := HZR3.out.lt
  clear hpt
  go_wp2_with fail
  refine bodyPost_ret (v := .tuple #[.agg #[.slice A n c, .slice B m d], .bool false]) (results_step (g := w.heap.size + 1) (by have := (HZR3.out.set_ 0 (.slice A n c)).set_ 1 (.slice B m d); simpa using this) (by simp) (by simp)) rfl ⟨?_, .inr ⟨A, n, c, B, m, d, false, rfl, .inl ⟨HST3.out, rfl, rfl, rfl, rfl, rfl, rfl, rfl⟩⟩⟩
  exact ((HB1.out.trans (HB3.out.mono HB1.out.size)).setCell (p := ⟨w.heap.size + 1, 0, none⟩) (Nat.le_succ _) _).setCell (p := ⟨w.heap.size + 1, 1, none⟩) (Nat.le_succ _) _
 | some p =>
 rw [hpt] at h3
 simp only at h3
 obtain ⟨Ap, np, cp, rfl, htp⟩ := h3
 have HP := hid htp
 have hpf := part_fit HFS.out hpt
 have hfsz := foc_sz hpf.1
 have hnp : szT p = np := htp.len
 obtain ⟨fz, hfz⟩ : ∃ z : Nat, z = fsz s := ⟨_, rfl⟩
 have HST4 : Hid (res = match stF b cv gas (hdW p) (room - (fz : Int) + (np : Int)) with | .no => .no | .big => .big | .yes y => .yes (withF s (rowF y))) := hid (by rw [HRES.out, hfz, ← hnp]; exact st_part HRD.out hpt)
 have HPT := hid hpt
 have HPF := hid hpf
 have HFSZ := hid hfsz
 have HNP := hid hnp
 have h1 := HSZ.out
 have h2 := HRM.out
 have h4 := hpf.2
 rw [hnp] at h4
 rw [← hfz] at h1 h4
 have hw1' : IntKind.i64.wrap (room - (fz : Int)) = room - (fz : Int) := by rw [IntKind.wrap_i64]; omega
 obtain ⟨rm2, hrm2⟩ : ∃ z : Int, z = room - (fz : Int) + (np : Int) := ⟨_, rfl⟩
 have hw2' : IntKind.i64.wrap (room - (fz : Int) + (np : Int)) = rm2 := by rw [IntKind.wrap_i64]; omega
 rw [← hrm2] at HST4
 have HRM2 : Hid ((np : Int) ≤ rm2 ∧ rm2 ≤ 4096 ∧ np < gas ∧ rm2 + (fz : Int) = room + (np : Int)) := hid (by have := HGAS.out; omega)
 have HFZE := hid hfz
 have z3 := HZR3.out.cell
 have f3 := HZR3.out.frozen
 have HFO := hid (fun (W : World) (hB : Below w3.heap.size w3 W) => focused_any (A := Ap) (n := np) (c := cp) (w := W) (TermR.keep HP.out (R' := (· < W.heap.size)) fun q hq => ⟨Nat.lt_of_lt_of_le hq.1 hB.size, fun o => hB.cell (p := ⟨q, o, none⟩) hq.1⟩) HPF.out.1)
 have HSI := hid (fun (W : World) (hB : Below w3.heap.size w3 W) => fsize_any ((HI.out.below HB3.out).below hB) (by have := HFZ.out; omega))
 rw [← hfz] at HSI
 have HMW := hid (HW.out.below HB3.out)
 have hg3 : g < w3.heap.size := HMW.out.lt
 have hsl3 : w.heap.size < w3.heap.size := by have := HB3.out.size; omega
 have HIH := hid (fun (W : World) (hB : Below w3.heap.size w3 W) (A4 B4 : Option Addr) (n4 c4 m4 d4 l4 : Nat) (h3l : w3.heap.size ≤ l4) (hl : l4 ≤ W.heap.size) (h9 : FocO l4 W (hdW p) A4 n4 c4 B4 m4 d4) => IH.out W (hdW p) A4 B4 n4 c4 m4 d4 l4 rm2 (HMW.out.below hB) (by omega) hl h9 (foc HPF.out.1) (by rw [HFSZ.out, HNP.out]; exact HRM2.out.1) HRM2.out.2.1 (by rw [HFSZ.out, HNP.out]; exact HRM2.out.2.2.1))
 generalize hst2 : stF b cv gas (hdW p) rm2 = r2 at *
 have HST2 := hid hst2
 clear htp hpt hpf hfsz hnp hfz h1 h2 h4 hrm2 hst2
 go_upto_region 6 with fail
 go_cut [10, 11] (fun pv bv wx => ∃ (g10 : Nat) (A5 B5 : Option Addr) (n5 c5 m5 d5 : Nat) (bl : Bool), pv = .pointer (some ⟨g10, 0, none⟩) ∧ bv = .bool bl ∧ Hid (w3.heap.size ≤ g10) ∧ Hid (Below w3.heap.size w3 wx) ∧ Hid (Blk wx g10 70 #[.slice A5 n5 c5, .slice B5 m5 d5]) ∧ Hid ((r2 = .no ∧ bl = false) ∨ ∃ y, r2 = .yes y ∧ bl = true ∧ FocO w3.heap.size wx y A5 n5 c5 B5 m5 d5))
 case first =>
  refine wp_region_held_drew (S := (fun w' => Below w3.heap.size w3 w')) (by kernel_rfl) ?_ (fun hHeld => ?_)
  · (try dsimp only); exact below_drewN (Below.refl _ _) 1
  have HBD : Hid (Below w3.heap.size w3 w3.drew) := hid (below_drewN (Below.refl _ _) 1)
  generalize w3.drew = W1 at *
  refine wpAnyH_take (i := 0) (v := ?_) rfl (by kernel_rfl) (by kernel_rfl) (by kernel_rfl) (fun _ _ _ h => h) (Or.inl ⟨by rfl, fun wq hSw => ?_⟩) hHeld ?_
  rotate_left
  · ((try dsimp only at hSw); go_simp; try with_reducible rfl)
  try simp only [p7]
  refine wpAnyH_take (i := 1) (v := ?_) rfl (by kernel_rfl) (by kernel_rfl) (by kernel_rfl) (fun _ _ _ h => h) (Or.inl ⟨by rfl, fun wq hSw => ?_⟩) hHeld ?_
  rotate_left
  · ((try dsimp only at hSw); go_simp; try with_reducible rfl)
  try simp only [p7]
  refine wpAnyH_take (i := 3) (v := ?_) rfl (by kernel_rfl) (by kernel_rfl) (by kernel_rfl) (fun _ _ _ h => h) (Or.inl ⟨by rfl, fun wq hSw => ?_⟩) hHeld ?_
  rotate_left
  · ((try dsimp only at hSw); go_simp; try with_reducible rfl)
  try simp only [p7]
  refine wpAnyH_take (i := 4) (v := ?_) rfl (by kernel_rfl) (by kernel_rfl) (by kernel_rfl) (fun _ _ _ h => h) (Or.inl ⟨by rfl, fun wq hSw => ?_⟩) hHeld ?_
  rotate_left
  · (have s0 := (hSw.cell (p := ⟨w.heap.size, 0, none⟩) hsl3).trans (zs3 0); have s1 := (hSw.cell (p := ⟨w.heap.size, 1, none⟩) hsl3).trans (zs3 1); go_simp; try with_reducible rfl)
  try simp only [p7]
  refine wpAnyH_take (i := 7) (v := ?_) rfl (by kernel_rfl) (by kernel_rfl) (by kernel_rfl) (fun _ _ _ h => h) (Or.inl ⟨by rfl, fun wq hSw => ?_⟩) hHeld ?_
  rotate_left
  · ((try dsimp only at hSw); go_simp; try with_reducible rfl)
  try simp only [p7]
  refine wpAnyH_take (i := 8) (v := ?_) rfl (by kernel_rfl) (by kernel_rfl) (by kernel_rfl) (fun _ _ _ h => h) (Or.inl ⟨by rfl, fun wq hSw => ?_⟩) hHeld ?_
  rotate_left
  · ((try dsimp only at hSw); go_simp; try with_reducible rfl)
  try simp only [p7]
  refine wpAnyH_ready (rs := [2, 14]) (by kernel_rfl) (by simp) ?_
  refine AllReadyH.cons rfl (fun K hK => ?_) (AllReadyH.cons rfl (fun K hK => ?_) (AllReadyH.nil))
  · go_simp
    go_at_call 32
    refine (HFO.out W1 HBD.out).mono ?_
    rintro en w4 ⟨hb4, A4, n4, c4, B4, m4, d4, rfl, hf4⟩
    have HB4 : Hid (Below w3.heap.size w3 w4) := bto HBD hb4
    have HF4 := hid hf4
    have hlo4 : w3.heap.size ≤ W1.heap.size := HBD.out.size
    have hlo5 : W1.heap.size ≤ w4.heap.size := hb4.size
    clear hb4 hf4
    go_wp2_with fail
    refine hK.out _ _ (by exact HB4.out) fun hHeld => ?_
    clear hK K
    try simp only [p7]
    refine wpAnyH_ready (rs := [5, 14]) (by kernel_rfl) (by simp) ?_
    refine AllReadyH.cons rfl (fun K hK => ?_) (AllReadyH.cons rfl (fun K hK => ?_) (AllReadyH.nil))
    · go_simp
      go_at_call 50
      refine (HSI.out w4 HB4.out).mono ?_
      rintro en w5 ⟨rfl, hb5⟩
      have HB5 : Hid (Below w3.heap.size w3 w5) := bto HB4 hb5
      have HF5 := hid (HF4.out.below hb5)
      have hlo5 := Nat.le_trans hlo5 hb5.size
      clear hb5
      go_wp2_with fail
      refine hK.out _ _ (by exact HB5.out) fun hHeld => ?_
      clear hK K
      try simp only [p7]
      refine wpAnyH_take (i := 6) (v := ?_) rfl (by kernel_rfl) (by kernel_rfl) (by kernel_rfl) (fun _ _ _ h => h) (Or.inl ⟨by rfl, fun wq hSw => ?_⟩) hHeld ?_
      rotate_left
      · ((try dsimp only at hSw); go_simp; try with_reducible rfl)
      try simp only [p7]
      refine wpAnyH_take (i := 9) (v := ?_) rfl (by kernel_rfl) (by kernel_rfl) (by kernel_rfl) (fun _ _ _ h => h) (Or.inl ⟨by rfl, fun wq hSw => ?_⟩) hHeld ?_
      rotate_left
      · ((try dsimp only at hSw); go_simp; try with_reducible rfl)
      try simp only [p7]
      refine wpAnyH_ready (rs := [10, 14]) (by kernel_rfl) (by simp) ?_
      refine AllReadyH.cons rfl (fun K hK => ?_) (AllReadyH.cons rfl (fun K hK => ?_) (AllReadyH.nil))
      · go_simp
        go_at_call 35
        refine (HIH.out w5 HB5.out A4 B4 n4 c4 m4 d4 _ hlo4 hlo5 HF5.out).mono ?_
        rintro en w6 ⟨hb6, h6⟩
        have HB6 : Hid (Below w3.heap.size w3 w6) := bto HB5 hb6
        rcases h6 with ⟨hr6, rfl⟩ | ⟨A5, n5, c5, B5, m5, d5, bl, rfl, hr6⟩
        · have HST3 : Hid (res = .big) := hid (by rw [HST4.out, hr6])
          clear hr6 hb6
          go_wp2_with fail
          exact ⟨rfl, HB1.out.trans ((HB3.out.trans (HB6.out.mono HB3.out.size)).mono HB1.out.size), .inl ⟨HST3.out, rfl⟩⟩
        have HR6 := hid hr6
        clear hb6 hr6
        go_wp2_with fail
        refine hK.out _ _ (by exact HB6.out) fun hHeld => ?_
        clear hK K
        try simp only [p7]
        refine wpAnyH_take (i := 11) (v := ?_) rfl (by kernel_rfl) (by kernel_rfl) (by kernel_rfl) (fun _ _ _ h => h) (Or.inl ⟨by rfl, fun wq hSw => ?_⟩) hHeld ?_
        rotate_left
        · ((try dsimp only at hSw); go_simp; try with_reducible rfl)
        try simp only [p7]
        refine wpAnyH_take (i := 12) (v := ?_) rfl (by kernel_rfl) (by kernel_rfl) (by kernel_rfl) (fun _ _ _ h => h) (Or.inl ⟨by rfl, fun wq hSw => ?_⟩) hHeld ?_
        rotate_left
        · ((try dsimp only at hSw); go_simp; try with_reducible rfl)
        try simp only [p7]
        refine wpAnyH_take (i := 13) (v := ?_) rfl (by kernel_rfl) (by kernel_rfl) (by kernel_rfl) (fun _ _ _ h => h) (Or.inl ⟨by rfl, fun wq hSw => ?_⟩) hHeld ?_
        rotate_left
        · ((try dsimp only at hSw); go_simp; try with_reducible rfl)
        try simp only [p7]
        refine r1 14 fun K hK => ?_
        go_simp
        refine hK.out _ _ (by exact HB6.out.alloc HB6.out.size _) fun hHeld => ?_
        clear hK K
        try simp only [p7]
        have hba : Below w6.heap.size w6 (w6.alloc (.cells #[.slice none 0 0, .slice none 0 0] 70)) := below_alloc _ _
        have HBA : Hid (Below w3.heap.size w3 (w6.alloc (.cells #[.slice none 0 0, .slice none 0 0] 70))) := hid (HB6.out.alloc HB6.out.size _)
        have HKA : Hid (Blk (w6.alloc (.cells #[.slice none 0 0, .slice none 0 0] 70)) w6.heap.size 70 #[.slice none 0 0, .slice none 0 0]) := hid (Blk.new _ _ _)
        have HRA := hid (StepR.below HR6.out hba)
        generalize (w6.alloc (.cells #[.slice none 0 0, .slice none 0 0] 70)) = Wa at *
        have hga : w3.heap.size ≤ w6.heap.size := HB6.out.size
        clear hba
        have zb := HKA.out.cell
        have fb := HKA.out.frozen
        have hgb : w6.heap.size < Wa.heap.size := HKA.out.lt
        refine r1 15 fun K hK => ?_
        go_simp
        refine hK.out _ _ (by exact (HBA.out.setCell (p := ⟨w6.heap.size, 0, none⟩) hga _).setCell (p := ⟨w6.heap.size, 1, none⟩) hga _) fun hHeld => ?_
        clear hK K
        try simp only [p7]
        refine wpAnyH_take (i := 16) (v := ?_) rfl (by kernel_rfl) (by kernel_rfl) (by kernel_rfl) (fun _ _ _ h => h) (Or.inl ⟨by rfl, fun wq hSw => ?_⟩) hHeld ?_
        rotate_left
        · ((try dsimp only at hSw); go_simp; try with_reducible rfl)
        try simp only [p7]
        refine wpAnyH_done (by kernel_rfl) ?_ _
        go_wp2_with fail
        go_meet
        refine ⟨_, A5, B5, n5, c5, m5, d5, bl, rfl, rfl, hid hga, hid ((HBA.out.setCell (p := ⟨w6.heap.size, 0, none⟩) hga _).setCell (p := ⟨w6.heap.size, 1, none⟩) hga _), hid (by have := (HKA.out.set_ 0 (.slice A5 n5 c5)).set_ 1 (.slice B5 m5 d5); simpa using this), hid ?_⟩
        rcases HRA.out with ⟨h1, h2, _⟩ | ⟨y, h1, h2, h3⟩
        · exact .inl ⟨h1, h2⟩
        exact .inr ⟨y, h1, h2, (h3.box2 HKA.out _ _).base hlo4⟩
      go_simp
      refine hK.out _ _ (by exact HB5.out.alloc HB5.out.size _) fun hHeld => ?_
      clear hK K
      try simp only [p7]
      have hba : Below w5.heap.size w5 (w5.alloc (.cells #[.slice none 0 0, .slice none 0 0] 70)) := below_alloc _ _
      have HBA : Hid (Below w3.heap.size w3 (w5.alloc (.cells #[.slice none 0 0, .slice none 0 0] 70))) := hid (HB5.out.alloc HB5.out.size _)
      have HKA : Hid (Blk (w5.alloc (.cells #[.slice none 0 0, .slice none 0 0] 70)) w5.heap.size 70 #[.slice none 0 0, .slice none 0 0]) := hid (Blk.new _ _ _)
      have HFA := hid (HF5.out.below hba)
      have hlo5 := Nat.le_trans hlo5 hba.size
      generalize (w5.alloc (.cells #[.slice none 0 0, .slice none 0 0] 70)) = Wa at *
      have hga : w3.heap.size ≤ w5.heap.size := HB5.out.size
      clear hba
      refine r1 10 fun K hK => ?_
      go_simp
      go_at_call 35
      refine (HIH.out Wa HBA.out A4 B4 n4 c4 m4 d4 _ hlo4 hlo5 HFA.out).mono ?_
      rintro en w6 ⟨hb6, h6⟩
      have HB6 : Hid (Below w3.heap.size w3 w6) := bto HBA hb6
      have HK6 := hid (HKA.out.below hb6 HKA.out.lt)
      rcases h6 with ⟨hr6, rfl⟩ | ⟨A5, n5, c5, B5, m5, d5, bl, rfl, hr6⟩
      · have HST3 : Hid (res = .big) := hid (by rw [HST4.out, hr6])
        clear hr6 hb6
        go_wp2_with fail
        exact ⟨rfl, HB1.out.trans ((HB3.out.trans (HB6.out.mono HB3.out.size)).mono HB1.out.size), .inl ⟨HST3.out, rfl⟩⟩
      have HR6 := hid hr6
      clear hb6 hr6
      go_wp2_with fail
      refine hK.out _ _ (by exact HB6.out) fun hHeld => ?_
      clear hK K
      try simp only [p7]
      refine wpAnyH_take (i := 11) (v := ?_) rfl (by kernel_rfl) (by kernel_rfl) (by kernel_rfl) (fun _ _ _ h => h) (Or.inl ⟨by rfl, fun wq hSw => ?_⟩) hHeld ?_
      rotate_left
      · ((try dsimp only at hSw); go_simp; try with_reducible rfl)
      try simp only [p7]
      refine wpAnyH_take (i := 12) (v := ?_) rfl (by kernel_rfl) (by kernel_rfl) (by kernel_rfl) (fun _ _ _ h => h) (Or.inl ⟨by rfl, fun wq hSw => ?_⟩) hHeld ?_
      rotate_left
      · ((try dsimp only at hSw); go_simp; try with_reducible rfl)
      try simp only [p7]
      refine wpAnyH_take (i := 13) (v := ?_) rfl (by kernel_rfl) (by kernel_rfl) (by kernel_rfl) (fun _ _ _ h => h) (Or.inl ⟨by rfl, fun wq hSw => ?_⟩) hHeld ?_
      rotate_left
      · ((try dsimp only at hSw); go_simp; try with_reducible rfl)
      try simp only [p7]
      have zb := HK6.out.cell
      have fb := HK6.out.frozen
      have hgb : w5.heap.size < w6.heap.size := HK6.out.lt
      refine r1 15 fun K hK => ?_
      go_simp
      refine hK.out _ _ (by exact (HB6.out.setCell (p := ⟨w5.heap.size, 0, none⟩) hga _).setCell (p := ⟨w5.heap.size, 1, none⟩) hga _) fun hHeld => ?_
      clear hK K
      try simp only [p7]
      refine wpAnyH_take (i := 16) (v := ?_) rfl (by kernel_rfl) (by kernel_rfl) (by kernel_rfl) (fun _ _ _ h => h) (Or.inl ⟨by rfl, fun wq hSw => ?_⟩) hHeld ?_
      rotate_left
      · ((try dsimp only at hSw); go_simp; try with_reducible rfl)
      try simp only [p7]
      refine wpAnyH_done (by kernel_rfl) ?_ _
      go_wp2_with fail
      go_meet
      refine ⟨_, A5, B5, n5, c5, m5, d5, bl, rfl, rfl, hid hga, hid ((HB6.out.setCell (p := ⟨w5.heap.size, 0, none⟩) hga _).setCell (p := ⟨w5.heap.size, 1, none⟩) hga _), hid (by have := (HK6.out.set_ 0 (.slice A5 n5 c5)).set_ 1 (.slice B5 m5 d5); simpa using this), hid ?_⟩
      rcases HR6.out with ⟨h1, h2, _⟩ | ⟨y, h1, h2, h3⟩
      · exact .inl ⟨h1, h2⟩
      exact .inr ⟨y, h1, h2, (h3.box2 HK6.out _ _).base hlo4⟩
    go_simp
    refine hK.out _ _ (by exact HB4.out.alloc HB4.out.size _) fun hHeld => ?_
    clear hK K
    try simp only [p7]
    have hba : Below w4.heap.size w4 (w4.alloc (.cells #[.slice none 0 0, .slice none 0 0] 70)) := below_alloc _ _
    have HBA : Hid (Below w3.heap.size w3 (w4.alloc (.cells #[.slice none 0 0, .slice none 0 0] 70))) := hid (HB4.out.alloc HB4.out.size _)
    have HKA : Hid (Blk (w4.alloc (.cells #[.slice none 0 0, .slice none 0 0] 70)) w4.heap.size 70 #[.slice none 0 0, .slice none 0 0]) := hid (Blk.new _ _ _)
    have HFA := hid (HF4.out.below hba)
    have hlo5 := Nat.le_trans hlo5 hba.size
    generalize (w4.alloc (.cells #[.slice none 0 0, .slice none 0 0] 70)) = Wa at *
    have hga : w3.heap.size ≤ w4.heap.size := HB4.out.size
    clear hba
    refine r1 5 fun K hK => ?_
    go_simp
    go_at_call 50
    refine (HSI.out Wa HBA.out).mono ?_
    rintro en w5 ⟨rfl, hb5⟩
    have HB5 : Hid (Below w3.heap.size w3 w5) := bto HBA hb5
    have HK5 := hid (HKA.out.below hb5 HKA.out.lt)
    have HF5 := hid (HFA.out.below hb5)
    have hlo5 := Nat.le_trans hlo5 hb5.size
    clear hb5
    go_wp2_with fail
    refine hK.out _ _ (by exact HB5.out) fun hHeld => ?_
    clear hK K
    try simp only [p7]
    refine wpAnyH_take (i := 6) (v := ?_) rfl (by kernel_rfl) (by kernel_rfl) (by kernel_rfl) (fun _ _ _ h => h) (Or.inl ⟨by rfl, fun wq hSw => ?_⟩) hHeld ?_
    rotate_left
    · ((try dsimp only at hSw); go_simp; try with_reducible rfl)
    try simp only [p7]
    refine wpAnyH_take (i := 9) (v := ?_) rfl (by kernel_rfl) (by kernel_rfl) (by kernel_rfl) (fun _ _ _ h => h) (Or.inl ⟨by rfl, fun wq hSw => ?_⟩) hHeld ?_
    rotate_left
    · ((try dsimp only at hSw); go_simp; try with_reducible rfl)
    try simp only [p7]
    refine r1 10 fun K hK => ?_
    go_simp
    go_at_call 35
    refine (HIH.out w5 HB5.out A4 B4 n4 c4 m4 d4 _ hlo4 hlo5 HF5.out).mono ?_
    rintro en w6 ⟨hb6, h6⟩
    have HB6 : Hid (Below w3.heap.size w3 w6) := bto HB5 hb6
    have HK6 := hid (HK5.out.below hb6 HK5.out.lt)
    rcases h6 with ⟨hr6, rfl⟩ | ⟨A5, n5, c5, B5, m5, d5, bl, rfl, hr6⟩
    · have HST3 : Hid (res = .big) := hid (by rw [HST4.out, hr6])
      clear hr6 hb6
      go_wp2_with fail
      exact ⟨rfl, HB1.out.trans ((HB3.out.trans (HB6.out.mono HB3.out.size)).mono HB1.out.size), .inl ⟨HST3.out, rfl⟩⟩
    have HR6 := hid hr6
    clear hb6 hr6
    go_wp2_with fail
    refine hK.out _ _ (by exact HB6.out) fun hHeld => ?_
    clear hK K
    try simp only [p7]
    refine wpAnyH_take (i := 11) (v := ?_) rfl (by kernel_rfl) (by kernel_rfl) (by kernel_rfl) (fun _ _ _ h => h) (Or.inl ⟨by rfl, fun wq hSw => ?_⟩) hHeld ?_
    rotate_left
    · ((try dsimp only at hSw); go_simp; try with_reducible rfl)
    try simp only [p7]
    refine wpAnyH_take (i := 12) (v := ?_) rfl (by kernel_rfl) (by kernel_rfl) (by kernel_rfl) (fun _ _ _ h => h) (Or.inl ⟨by rfl, fun wq hSw => ?_⟩) hHeld ?_
    rotate_left
    · ((try dsimp only at hSw); go_simp; try with_reducible rfl)
    try simp only [p7]
    refine wpAnyH_take (i := 13) (v := ?_) rfl (by kernel_rfl) (by kernel_rfl) (by kernel_rfl) (fun _ _ _ h => h) (Or.inl ⟨by rfl, fun wq hSw => ?_⟩) hHeld ?_
    rotate_left
    · ((try dsimp only at hSw); go_simp; try with_reducible rfl)
    try simp only [p7]
    have zb := HK6.out.cell
    have fb := HK6.out.frozen
    have hgb : w4.heap.size < w6.heap.size := HK6.out.lt
    refine r1 15 fun K hK => ?_
    go_simp
    refine hK.out _ _ (by exact (HB6.out.setCell (p := ⟨w4.heap.size, 0, none⟩) hga _).setCell (p := ⟨w4.heap.size, 1, none⟩) hga _) fun hHeld => ?_
    clear hK K
    try simp only [p7]
    refine wpAnyH_take (i := 16) (v := ?_) rfl (by kernel_rfl) (by kernel_rfl) (by kernel_rfl) (fun _ _ _ h => h) (Or.inl ⟨by rfl, fun wq hSw => ?_⟩) hHeld ?_
    rotate_left
    · ((try dsimp only at hSw); go_simp; try with_reducible rfl)
    try simp only [p7]
    refine wpAnyH_done (by kernel_rfl) ?_ _
    go_wp2_with fail
    go_meet
    refine ⟨_, A5, B5, n5, c5, m5, d5, bl, rfl, rfl, hid hga, hid ((HB6.out.setCell (p := ⟨w4.heap.size, 0, none⟩) hga _).setCell (p := ⟨w4.heap.size, 1, none⟩) hga _), hid (by have := (HK6.out.set_ 0 (.slice A5 n5 c5)).set_ 1 (.slice B5 m5 d5); simpa using this), hid ?_⟩
    rcases HR6.out with ⟨h1, h2, _⟩ | ⟨y, h1, h2, h3⟩
    · exact .inl ⟨h1, h2⟩
    exact .inr ⟨y, h1, h2, (h3.box2 HK6.out _ _).base hlo4⟩
  go_simp
  refine hK.out _ _ (by exact HBD.out.alloc HBD.out.size _) fun hHeld => ?_
  clear hK K
  try simp only [p7]
  have hba : Below W1.heap.size W1 (W1.alloc (.cells #[.slice none 0 0, .slice none 0 0] 70)) := below_alloc _ _
  have HBA : Hid (Below w3.heap.size w3 (W1.alloc (.cells #[.slice none 0 0, .slice none 0 0] 70))) := hid (HBD.out.alloc HBD.out.size _)
  have HKA : Hid (Blk (W1.alloc (.cells #[.slice none 0 0, .slice none 0 0] 70)) W1.heap.size 70 #[.slice none 0 0, .slice none 0 0]) := hid (Blk.new _ _ _)
  generalize (W1.alloc (.cells #[.slice none 0 0, .slice none 0 0] 70)) = Wa at *
  have hga : w3.heap.size ≤ W1.heap.size := HBD.out.size
  clear hba
  refine r1 2 fun K hK => ?_
  go_simp
  go_at_call 32
  refine (HFO.out Wa HBA.out).mono ?_
  rintro en w4 ⟨hb4, A4, n4, c4, B4, m4, d4, rfl, hf4⟩
  have HB4 : Hid (Below w3.heap.size w3 w4) := bto HBA hb4
  have HK4 := hid (HKA.out.below hb4 HKA.out.lt)
  have HF4 := hid hf4
  have hlo4 : w3.heap.size ≤ Wa.heap.size := HBA.out.size
  have hlo5 : Wa.heap.size ≤ w4.heap.size := hb4.size
  clear hb4 hf4
  go_wp2_with fail
  refine hK.out _ _ (by exact HB4.out) fun hHeld => ?_
  clear hK K
  try simp only [p7]
  refine r1 5 fun K hK => ?_
  go_simp
  go_at_call 50
  refine (HSI.out w4 HB4.out).mono ?_
  rintro en w5 ⟨rfl, hb5⟩
  have HB5 : Hid (Below w3.heap.size w3 w5) := bto HB4 hb5
  have HK5 := hid (HK4.out.below hb5 HK4.out.lt)
  have HF5 := hid (HF4.out.below hb5)
  have hlo5 := Nat.le_trans hlo5 hb5.size
  clear hb5
  go_wp2_with fail
  refine hK.out _ _ (by exact HB5.out) fun hHeld => ?_
  clear hK K
  try simp only [p7]
  refine wpAnyH_take (i := 6) (v := ?_) rfl (by kernel_rfl) (by kernel_rfl) (by kernel_rfl) (fun _ _ _ h => h) (Or.inl ⟨by rfl, fun wq hSw => ?_⟩) hHeld ?_
  rotate_left
  · ((try dsimp only at hSw); go_simp; try with_reducible rfl)
  try simp only [p7]
  refine wpAnyH_take (i := 9) (v := ?_) rfl (by kernel_rfl) (by kernel_rfl) (by kernel_rfl) (fun _ _ _ h => h) (Or.inl ⟨by rfl, fun wq hSw => ?_⟩) hHeld ?_
  rotate_left
  · ((try dsimp only at hSw); go_simp; try with_reducible rfl)
  try simp only [p7]
  refine r1 10 fun K hK => ?_
  go_simp
  go_at_call 35
  refine (HIH.out w5 HB5.out A4 B4 n4 c4 m4 d4 _ hlo4 hlo5 HF5.out).mono ?_
  rintro en w6 ⟨hb6, h6⟩
  have HB6 : Hid (Below w3.heap.size w3 w6) := bto HB5 hb6
  have HK6 := hid (HK5.out.below hb6 HK5.out.lt)
  rcases h6 with ⟨hr6, rfl⟩ | ⟨A5, n5, c5, B5, m5, d5, bl, rfl, hr6⟩
  · have HST3 : Hid (res = .big) := hid (by rw [HST4.out, hr6])
    clear hr6 hb6
    go_wp2_with fail
    exact ⟨rfl, HB1.out.trans ((HB3.out.trans (HB6.out.mono HB3.out.size)).mono HB1.out.size), .inl ⟨HST3.out, rfl⟩⟩
  have HR6 := hid hr6
  clear hb6 hr6
  go_wp2_with fail
  refine hK.out _ _ (by exact HB6.out) fun hHeld => ?_
  clear hK K
  try simp only [p7]
  refine wpAnyH_take (i := 11) (v := ?_) rfl (by kernel_rfl) (by kernel_rfl) (by kernel_rfl) (fun _ _ _ h => h) (Or.inl ⟨by rfl, fun wq hSw => ?_⟩) hHeld ?_
  rotate_left
  · ((try dsimp only at hSw); go_simp; try with_reducible rfl)
  try simp only [p7]
  refine wpAnyH_take (i := 12) (v := ?_) rfl (by kernel_rfl) (by kernel_rfl) (by kernel_rfl) (fun _ _ _ h => h) (Or.inl ⟨by rfl, fun wq hSw => ?_⟩) hHeld ?_
  rotate_left
  · ((try dsimp only at hSw); go_simp; try with_reducible rfl)
  try simp only [p7]
  refine wpAnyH_take (i := 13) (v := ?_) rfl (by kernel_rfl) (by kernel_rfl) (by kernel_rfl) (fun _ _ _ h => h) (Or.inl ⟨by rfl, fun wq hSw => ?_⟩) hHeld ?_
  rotate_left
  · ((try dsimp only at hSw); go_simp; try with_reducible rfl)
  try simp only [p7]
  have zb := HK6.out.cell
  have fb := HK6.out.frozen
  have hgb : W1.heap.size < w6.heap.size := HK6.out.lt
  refine r1 15 fun K hK => ?_
  go_simp
  refine hK.out _ _ (by exact (HB6.out.setCell (p := ⟨W1.heap.size, 0, none⟩) hga _).setCell (p := ⟨W1.heap.size, 1, none⟩) hga _) fun hHeld => ?_
  clear hK K
  try simp only [p7]
  refine wpAnyH_take (i := 16) (v := ?_) rfl (by kernel_rfl) (by kernel_rfl) (by kernel_rfl) (fun _ _ _ h => h) (Or.inl ⟨by rfl, fun wq hSw => ?_⟩) hHeld ?_
  rotate_left
  · ((try dsimp only at hSw); go_simp; try with_reducible rfl)
  try simp only [p7]
  refine wpAnyH_done (by kernel_rfl) ?_ _
  go_wp2_with fail
  go_meet
  refine ⟨_, A5, B5, n5, c5, m5, d5, bl, rfl, rfl, hid hga, hid ((HB6.out.setCell (p := ⟨W1.heap.size, 0, none⟩) hga _).setCell (p := ⟨W1.heap.size, 1, none⟩) hga _), hid (by have := (HK6.out.set_ 0 (.slice A5 n5 c5)).set_ 1 (.slice B5 m5 d5); simpa using this), hid ?_⟩
  rcases HR6.out with ⟨h1, h2, _⟩ | ⟨y, h1, h2, h3⟩
  · exact .inl ⟨h1, h2⟩
  exact .inr ⟨y, h1, h2, (h3.box2 HK6.out _ _).base hlo4⟩
 case rest =>
 obtain ⟨g10, A5, B5, n5, c5, m5, d5, bl, rfl, rfl, hgw, hbx, hk5, hr5⟩ := hcut
 obtain ⟨w6, rfl⟩ : ∃ x : World, x = wc := ⟨_, rfl⟩
 have HBX := hid (HB3.out.trans (hbx.out.mono HB3.out.size))
 have zs6 := fun i => (HBX.out.cell (p := ⟨w.heap.size, i, none⟩) hsl).trans (zs1 i)
 have HZR6 := hid (HZR.out.below HBX.out hrl)
 have z6 := HZR6.out.cell
 have f6 := HZR6.out.frozen
 have hl6 : w.heap.size + 1 < w6.heap.size := HZR6.out.lt
 rcases hr5.out with ⟨hno, hbl⟩ | ⟨y, hyes, hbl, hfo⟩
 · have HST3 : Hid (res = .no) := hid (by rw [HST4.out, hno])
   subst hbl
   clear hno hr5 hk5 hbx
   go_wp2_with fail
   refine bodyPost_ret (v := .tuple #[.agg #[.slice A n c, .slice B m d], .bool false]) (results_step (g := w.heap.size + 1) (by have := (HZR6.out.set_ 0 (.slice A n c)).set_ 1 (.slice B m d); simpa using this) (by simp) (by simp)) rfl ⟨?_, .inr ⟨A, n, c, B, m, d, false, rfl, .inl ⟨HST3.out, rfl, rfl, rfl, rfl, rfl, rfl, rfl⟩⟩⟩
   exact ((HB1.out.trans (HBX.out.mono HB1.out.size)).setCell (p := ⟨w.heap.size + 1, 0, none⟩) (Nat.le_succ _) _).setCell (p := ⟨w.heap.size + 1, 1, none⟩) (Nat.le_succ _) _
 have HST3 : Hid (res = .yes (withF s (rowF y))) := hid (by rw [HST4.out, hyes])
 subst hbl
 have hyf := st_fit HR.out HC.out (foc HPF.out.1) (by rw [HFSZ.out, HNP.out]; exact HRM2.out.1) HRM2.out.2.1 (by rw [HFSZ.out, HNP.out]; exact HRM2.out.2.2.1) (HST2.out.trans hyes)
 have HYF := hid hyf
 have hyz : fsz y ≤ 4096 := by have := hyf.2; have := HRM2.out.2.1; omega
 have hm5 := hfo.len.2
 have ha5 := FocG.argsLen hyf.1 hyz
 have HIY := hid (hfo.read (g := g) hg3 (by omega))
 have HYZ := hid hyz
 have zk5 := hk5.out.cell
 have HK5 := hid hk5.out
 have hgk5 : g10 < w6.heap.size := hk5.out.lt
 have HO6 := hid (HO1.out.below HBX.out)
 have hgw9 := hgw.out
 have hs39 := HB3.out.size
 have hlo6 : lo ≤ w6.heap.size := by have := HLO.out; omega
 have HHP : Hid (fsz s + szT (rowF y) ≤ 4096 + szT p) := hid (by
  have h9 := hyf.2
  have h8 := HRM2.out.2.2.2
  have h7 := HRM.out
  have h6 := HNP.out
  have h5 := HFZE.out
  have h4 := rowF_len y
  omega)
 clear hyes hr5 hk5 hbx hyf hyz hm5 ha5 hfo
 go_upto_region 9 with fail
 refine wp_region_held_drew (S := (fun w' => ∀ q, q < w6.heap.size → q ≠ w.heap.size + 1 → w'.heap[q]? = w6.heap[q]?)) (by kernel_rfl) ?_ (fun hHeld => ?_)
 · (try dsimp only); exact fun q _ _ => rfl
 have HBD : Hid (Below w6.heap.size w6 w6.drew) := hid (below_drewN (Below.refl _ _) 1)
 generalize w6.drew = W1 at *
 refine wpAnyH_take (i := 0) (v := ?_) rfl (by kernel_rfl) (by kernel_rfl) (by kernel_rfl) (fun _ _ _ h => h) (Or.inl ⟨by rfl, fun wq hSw => ?_⟩) hHeld ?_
 rotate_left
 · (have s0 := (cell_of_heap (hSw (w.heap.size) (show w.heap.size < w6.heap.size by omega) (by omega)) 0).trans (zs6 0); have s1 := (cell_of_heap (hSw (w.heap.size) (show w.heap.size < w6.heap.size by omega) (by omega)) 1).trans (zs6 1); go_simp; try with_reducible rfl)
 try simp only [p7]
 refine wpAnyH_take (i := 1) (v := ?_) rfl (by kernel_rfl) (by kernel_rfl) (by kernel_rfl) (fun _ _ _ h => h) (Or.inl ⟨by rfl, fun wq hSw => ?_⟩) hHeld ?_
 rotate_left
 · (have s0 := (cell_of_heap (hSw (g10) hgk5 (by omega)) 0).trans (zk5 0); have s1 := (cell_of_heap (hSw (g10) hgk5 (by omega)) 1).trans (zk5 1); go_simp; try with_reducible rfl)
 try simp only [p7]
 refine r1 2 fun K hK => ?_
 go_simp
 go_at_call 33
 refine (frow_any (HIY.out.below HBD.out) HYF.out.1).mono ?_
 rintro en w7 ⟨hb7, h7⟩
 have HB7 : Hid (Below w6.heap.size w6 w7) := bto HBD hb7
 rcases h7 with ⟨_, A7, n7, c7, rfl, ht7, _⟩ | ⟨hbig, rfl⟩
 rotate_left
 · exact absurd hbig (by have := HYZ.out; omega)
 have HT7 := hid (ht7.keep (R' := fun q => lo ≤ q ∧ q < w7.heap.size) (w' := w7) fun q hq => ⟨⟨by have := hq.1; have := HBD.out.size; omega, hq.2⟩, fun _ => rfl⟩)
 have HO7 := hid (HO6.out.below HB7.out)
 clear hb7 ht7
 go_wp2_with fail
 refine hK.out _ _ (by exact fun q h1 _ => HB7.out.block q h1) fun hHeld => ?_
 clear hK K
 try simp only [p7]
 refine r1 3 fun K hK => ?_
 go_simp
 go_at_call 49
 refine (cwith_any (by have := HB7.out.size; omega) HO7.out HFS.out HFZ.out HPT.out HHP.out HT7.out (HYF.out.1.fit HYZ.out)).mono ?_
 rintro en w8 ⟨hb8, A8, n8, c8, B8, m8, d8, rfl, hf8⟩
 have HB8 : Hid (Below w6.heap.size w6 w8) := bto HB7 hb8
 have HF8 := hid hf8
 clear hb8 hf8
 go_wp2_with fail
 refine hK.out _ _ (by exact fun q h1 _ => HB8.out.block q h1) fun hHeld => ?_
 clear hK K
 try simp only [p7]
 have HZR8 := hid (HZR6.out.below HB8.out hl6)
 have z8 := HZR8.out.cell
 have f8 := HZR8.out.frozen
 have hl8 : w.heap.size + 1 < w8.heap.size := HZR8.out.lt
 refine r1 4 fun K hK => ?_
 go_simp
 refine hK.out _ _ (by exact fun q h1 h2 => (Below.heap_setCell _ ⟨w.heap.size + 1, 1, none⟩ _ q h2).trans ((Below.heap_setCell _ ⟨w.heap.size + 1, 0, none⟩ _ q h2).trans (HB8.out.block q h1))) fun hHeld => ?_
 clear hK K
 try simp only [p7]
 refine wpAnyH_take (i := 5) (v := ?_) rfl (by kernel_rfl) (by kernel_rfl) (by kernel_rfl) (fun _ _ _ h => h) (Or.inl ⟨by rfl, fun wq hSw => ?_⟩) hHeld ?_
 rotate_left
 · ((try dsimp only at hSw); go_simp; try with_reducible rfl)
 try simp only [p7]
 refine wpAnyH_done (by kernel_rfl) ?_ _
 go_wp2_with fail
 refine bodyPost_ret (v := .tuple #[.agg #[.slice A8 n8 c8, .slice B8 m8 d8], .bool true]) (results_step (g := w.heap.size + 1) (by have := (HZR8.out.set_ 0 (.slice A8 n8 c8)).set_ 1 (.slice B8 m8 d8); simpa using this) (by simp) (by simp)) rfl ⟨?_, .inr ⟨A8, n8, c8, B8, m8, d8, true, rfl, .inr ⟨_, HST3.out, rfl, ?_⟩⟩⟩
 · exact ((HB1.out.trans ((HBX.out.trans (HB8.out.mono HBX.out.size)).mono HB1.out.size)).setCell (p := ⟨w.heap.size + 1, 0, none⟩) (Nat.le_succ _) _).setCell (p := ⟨w.heap.size + 1, 1, none⟩) (Nat.le_succ _) _
 exact HF8.out.box2 HZR8.out _ _
end Go.Proofs.Ytjoddliplahgkaa
