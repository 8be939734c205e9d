/- core: with. -/
import Derived.Test.YtjoddliplahgkaaDShort2
import Derived.Test.YtjoddliplahgkaaDWhB
namespace Go.Proofs.Ytjoddliplahgkaa
open Go.Lib (hid)
set_option linter.unusedVariables false
open Go.RowKit
theorem RowsC.setAt {S : Nat → Prop} {w : World} {A : Option Addr} {n c : Nat} {l : List Nd} (ht : TermR S w A n c l) : ∀ {xs : List Value} {ls : List (List Nd)} (i : Nat), RowsC S w xs ls → RowsC S w (xs.set i (.slice A n c)) (ls.set i l)
 | [], [], _, _ => trivial
 | [], _ :: _, _, h => h.elim
 | _ :: _, [], _, h => h.elim
 | x :: xs, y :: ys, 0, h => ⟨⟨A, n, c, rfl, ht⟩, h.2⟩
 | x :: xs, y :: ys, i + 1, h => ⟨h.1, RowsC.setAt ht i h.2⟩
theorem own_blk {w : World} {base n d : Nat} {A : Option Addr} {e : TypeId} {xs : List Value} (h : w.ownsRow base e 1 (.slice A n d) n xs) (hn : 0 < n) : ∃ gk cur, A = some ⟨gk, 0, none⟩ ∧ base ≤ gk ∧ Blk w gk e cur ∧ ∀ i, i < n → cur[i]? = xs[i]? := by
 have h0 := h
 rcases h.2 with ⟨_, h2⟩ | ⟨gk, cap, cur, hv, hg, hh, _⟩
 · omega
 injection hv with e1 e2 e3
 subst e1
 refine ⟨gk, cur, rfl, hg, hh, fun i hi => ?_⟩
 have := h0.cellAt (g := gk) i (by omega)
 rw [← this]
 exact (Blk.cell (show Blk w gk e cur from hh) i).symm
theorem rows_one {S : Nat → Prop} {w : World} : ∀ {xs : List Value} {ls : List (List Nd)}, RowsC S w xs ls → ∀ u ∈ xs, u.oneCell' = true
 | [], [], _, u, hu => by cases hu
 | [], _ :: _, h, _, _ => h.elim
 | _ :: _, [], h, _, _ => h.elim
 | x :: xs, l :: ls, h, u, hu => by
  obtain ⟨⟨A, n, c, e, _⟩, h2⟩ := h
  rcases List.mem_cons.1 hu with rfl | hu
  · rw [e]; rfl
  · exact rows_one h2 u hu
theorem row_flat : ∀ (F : Fo) (n : Nat), Wf (List.replicate n false) F → row F = ((kidL F).map rowT).flatten
 | .nil, _, _ => rfl
 | .cons p nd a k x, 0, h => h.elim
 | .cons p nd a k x, n + 1, h => by
  obtain ⟨hp, _, _, _, hx⟩ := h
  simp only at hp
  subst hp
  rw [kidL_cons]
  simp only [row, List.nil_append, List.map_cons, List.flatten_cons, row_flat x n hx, rowT]
  simp
theorem match_row {b : Bk} {free : Int} {x : TT} (hx : FitT b free x) (h11 : x.1.op = 11) : rowT x = x.1 :: ((kidL x.2.2).map rowT).flatten := by
 obtain ⟨n, a, k⟩ := x
 have hat := hx.okt.at_
 unfold AtOk at hat
 have h11' : n.op = 11 := h11
 rw [if_neg (by show ¬ n.op = 2; omega)] at hat
 have hw := hx.okt.wf
 have hds : ds n = List.replicate (kidsI n.op n.b).toNat false := by unfold ds; rw [if_neg (by omega)]
 simp only at hat hw ⊢
 rw [hds] at hw
 subst hat
 simp only [rowT, List.nil_append, row_flat k _ hw]
theorem own_heap {w w' : World} {base sz n : Nat} {e : TypeId} {v : Value} {xs : List Value} (h : w.ownsRow base e sz v n xs) (hk : ∀ q, v.ownBlock = some q → w'.heap[q]? = w.heap[q]?) : w'.ownsRow base e sz v n xs := by
 obtain ⟨h1, h2⟩ := h
 refine ⟨h1, ?_⟩
 rcases h2 with h2 | ⟨b, cap, cur, hv, hb, hh, r⟩
 · exact Or.inl h2
 subst hv
 exact Or.inr ⟨b, cap, cur, rfl, hb, (hk b rfl).trans hh, r⟩
theorem results_with {w : World} {g : Nat} {c0 c1 : Value} {tmps : Array Value} (h : Blk w g 70 #[c0, c1]) (ht : tmps.getD 4 undef = .pointer (some ⟨g, 0, none⟩)) :
 (results Try.f49 tmps).run Try.prog w = .ok (.agg #[c0, c1]) w := by
 have hc := h.cell
 have ht' : tmps[4]?.getD undef = .pointer (some ⟨g, 0, none⟩) := by rw [← ht]; simp
 simp [results, Try.results49, go_sem, ht', hc]
def WithQ (lo : Nat) (f : Fc) (w : World) (e : Ending) (w' : World) : Prop := Below w.heap.size w w' ∧ ∃ A n c B m d, e = .returned (.agg #[.slice A n c, .slice B m d]) ∧ FocO lo w' f A n c B m d
theorem kids_few {b : Bk} {free : Int} {x : TT} (hx : FitT b free x) : (kidL x.2.2).length ≤ 4096 := by
 have h1 := wf_kids hx.okt.wf
 rw [ds_len hx.okt.ok] at h1
 have hlen : ∀ F : Fo, (kidL F).length ≤ (row F).length := by
  intro F
  induction F with
  | nil => simp [kidL]
  | cons p n a k x _ ih => rw [kidL_cons, sz_cons, List.length_cons]; have : 1 ≤ szT (n, a, k) := by rw [szT_eq]; omega
                           omega
 have h2 := hlen x.2.2
 have h3 := hx.few
 have h4 : szT x = 1 + x.2.1.length + (row x.2.2).length := szT_eq x.1 x.2.1 x.2.2
 omega
theorem lit_own {w : World} {base : Nat} {sa sb : Int} (hb : base ≤ w.heap.size) : OwnN (w.alloc (.cells #[.int .i64 11, .int .i64 sa, .int .i64 sb] 50)) base (.slice (some ⟨w.heap.size, 0, none⟩) 1 1) [⟨11, sa, sb⟩] :=
 ⟨by simp [flat, cellsN], .inr ⟨w.heap.size, 1, #[.int .i64 11, .int .i64 sa, .int .i64 sb], rfl, hb, heap_alloc_new w _, by simp, by unfold maxLen; decide, rfl, rfl⟩⟩
theorem with_match {s : Fc} {p' : TT} {lo : Nat} {w w1 W w7 : World} {B A7 : Option Addr} {m d n6 c7 : Nat} {sa sb : Int} {cc : List (List Nd)} {xs : List Value} {f' : Fc} (hwf : f' = ((s.1.1, s.1.2.1, setK1 s.1.2.2 p'), s.2)) (hrow : rowT ((s.1.1, s.1.2.1, setK1 s.1.2.2 p') : TT) = s.1.1 :: (((kidL s.1.2.2).set 1 p').map rowT).flatten) (h0 : (11 : Int) = s.1.1.op) (h1 : sa = s.1.1.a) (h2 : sb = s.1.1.b) (hcc : cc = ((kidL s.1.2.2).set 1 p').map rowT) (hlo : lo ≤ w.heap.size) (hsW : w.heap.size + 1 < W.heap.size) (hw1 : w.heap.size + 1 < w1.heap.size) (hkW : ∀ q, q < w1.heap.size → W.heap[q]? = w1.heap[q]?) (hB7 : Below W.heap.size W w7) (hBW : Below w.heap.size w W) (ho7 : OwnN w7 W.heap.size (.slice A7 ([(⟨11, sa, sb⟩ : Nd)].length + n6) c7) ([⟨11, sa, sb⟩] ++ cc.flatten)) (hl6 : cc.flatten.length = n6) (hfew : (rowT ((s.1.1, s.1.2.1, setK1 s.1.2.2 p') : TT)).length ≤ 4096) (hown : w1.ownsRow lo 29 1 (.slice B m d) m xs) (hrows : RowsC (Aside lo w (.slice B m d)) w1 xs (s.2.map rowT)) (hbk : ∀ q, (Value.slice B m d).ownBlock = some q → q < w.heap.size) :
 WithQ lo f' w (.returned (.agg #[.slice A7 ([(⟨11, sa, sb⟩ : Nd)].length + n6) c7, .slice B m d])) ((w7.setCell ⟨w.heap.size + 1, 0, none⟩ (.slice A7 ([(⟨11, sa, sb⟩ : Nd)].length + n6) c7)).setCell ⟨w.heap.size + 1, 1, none⟩ (.slice B m d)) := by
 obtain ⟨W9, hW9⟩ : ∃ W9 : World, W9 = (w7.setCell ⟨w.heap.size + 1, 0, none⟩ (.slice A7 ([(⟨11, sa, sb⟩ : Nd)].length + n6) c7)).setCell ⟨w.heap.size + 1, 1, none⟩ (.slice B m d) := ⟨_, rfl⟩
 have hB9 : Below w.heap.size w W9 := by
  rw [hW9]
  exact ((hBW.trans (hB7.mono hBW.size)).setCell (p := ⟨w.heap.size + 1, 0, none⟩) (Nat.le_succ _) _).setCell (p := ⟨w.heap.size + 1, 1, none⟩) (Nat.le_succ _) _
 have hsz9 : W9.heap.size = w7.heap.size := by rw [hW9, size_setT, size_setT]
 have hs7 := hB7.size
 have hk9 : ∀ q, q ≠ w.heap.size + 1 → W9.heap[q]? = w7.heap[q]? := fun q hq => by
  rw [hW9]
  exact (Below.heap_setCell _ ⟨w.heap.size + 1, 1, none⟩ _ q hq).trans (Below.heap_setCell _ ⟨w.heap.size + 1, 0, none⟩ _ q hq)
 have hk1 : ∀ q, q < w.heap.size → W9.heap[q]? = w1.heap[q]? := fun q hq => (hk9 q (by omega)).trans ((hB7.block q (by omega)).trans (hkW q (by omega)))
 have hr9 : rowT ((s.1.1, s.1.2.1, setK1 s.1.2.2 p') : TT) = [(⟨11, sa, sb⟩ : Nd)] ++ cc.flatten := by
  rw [hrow, hcc, h0, h1, h2]
  rfl
 rw [← hW9]
 refine ⟨hB9, _, _, _, _, _, _, rfl, ?_⟩
 rw [hwf]
 refine ⟨?_, xs, ?_, ?_⟩
 · show TermR _ _ _ _ _ (rowT ((s.1.1, s.1.2.1, setK1 s.1.2.2 p') : TT))
   rw [hr9] at hfew ⊢
   have ho8 : OwnN w7 W.heap.size (.slice A7 ([(⟨11, sa, sb⟩ : Nd)].length + n6) c7) ([⟨11, sa, sb⟩] ++ cc.flatten) := ho7
   obtain ⟨A', n', c', e, ht⟩ := OwnN.termS ho8 (by omega)
   injection e with e1 e2 e3
   subst e1 e2 e3
   refine ht.keep fun q hq => ?_
   have h8 := ownsRow_block ho8 hq
   exact ⟨⟨by omega, by rw [hsz9]; exact h8.2.1, fun e => by have := hbk q e; omega⟩, fun o => cell_of_heap (hk9 q (by omega)) o⟩
 · exact own_heap hown fun q hq => hk1 q (hbk q hq)
 exact RowsC.keep (fun q hq => ⟨⟨hq.1, by rw [hsz9]; have := hq.2.1; omega, hq.2.2⟩, fun o => cell_of_heap (hk1 q hq.2.1) o⟩) hrows
set_option linter.unusedSimpArgs false in
set_option maxRecDepth 100000 in
set_option maxHeartbeats 4000000 in
theorem cwith_any {b : Bk} {free : Int} {lo : Nat} {w : World} {s : Fc} {A B Ap : Option Addr} {n c m d np cp : Nat} {p p' : TT} (hlo : lo ≤ w.heap.size) (hs : FocO lo w s A n c B m d) (fs : FocG b free s) (hsz : fsz s ≤ 4096) (hpart : partF s = some p) (hrm : fsz s + szT p' ≤ 4096 + szT p) (hp : TermR (fun q => lo ≤ q ∧ q < w.heap.size) w Ap np cp (rowT p')) (fp : FitT b free p') :
 Calls Try.prog 49 #[.agg #[.slice A n c, .slice B m d], .slice Ap np cp] w (WithQ lo (withF s p') w) := by
 obtain ⟨gx, hgx⟩ : ∃ gx, gx = w.heap.size := ⟨_, rfl⟩
 have hml := hs.len.2
 have ham := FocG.argsLen fs hsz
 have hsI : FocI (w.heap.size + 5) w s A n c B m d := by
  obtain ⟨h1, xs, h2, h3⟩ := hs
  exact ⟨h1.keep fun q hq => ⟨⟨hq.2.1, by have := hq.2.1; omega⟩, fun _ => rfl⟩, own_rowsQ h2 (by simpa using hml) (by omega) h3 (fun q hq => ⟨hq.2.1, by have := hq.2.1; omega⟩) (fun q hq => ⟨(ownsRow_block h2 hq).2.1, by have := (ownsRow_block h2 hq).2.1; omega⟩), own_nulT h2⟩
 obtain ⟨bs, os, rfl, hn0, hbs, h0, h1, h2⟩ := hsI.node
 obtain ⟨so, hso⟩ : ∃ z, z = s.1.1.op := ⟨_, rfl⟩
 obtain ⟨sa, hsa⟩ : ∃ z, z = s.1.1.a := ⟨_, rfl⟩
 obtain ⟨sb, hsb⟩ : ∃ z, z = s.1.1.b := ⟨_, rfl⟩
 rw [← hso] at h0
 rw [← hsa] at h1
 rw [← hsb] at h2
 obtain ⟨w1, hw1e⟩ : ∃ w1 : World, w1 = (w.alloc (.cells #[.slice (some ⟨bs, os, none⟩) n c, .slice B m d] 70)).alloc (.cells #[.slice none 0 0, .slice none 0 0] 70) := ⟨_, rfl⟩
 have hb1 : Below w.heap.size w w1 := by rw [hw1e]; exact below_alloc2 _ _ _
 have zs : Blk w1 w.heap.size 70 #[.slice (some ⟨bs, os, none⟩) n c, .slice B m d] := by rw [hw1e]; exact (Blk.new _ _ _).alloc _
 have zr : Blk w1 (w.heap.size + 1) 70 #[.slice none 0 0, .slice none 0 0] := by rw [hw1e]; exact Blk.new' (by simp)
 have k0 := (hb1.cell (p := ⟨bs, os, none⟩) hbs).trans h0
 have k1 := (hb1.cell (p := ⟨bs, os + 1, none⟩) hbs).trans h1
 have k2 := (hb1.cell (p := ⟨bs, os + 2, none⟩) hbs).trans h2
 have HML := hid hml
 have hm4 : m ≤ 4096 := by omega
 obtain ⟨hth0, xs, hown0, hrows0⟩ := hs
 have HTH : Hid (TermR (fun q => lo ≤ q ∧ q < w.heap.size) w1 (some ⟨bs, os, none⟩) n c (rowT s.1)) := hid (TermR.keep hth0 (R' := fun q => lo ≤ q ∧ q < w.heap.size) (w' := w1) fun q hq => ⟨⟨hq.1, hq.2.1⟩, fun o => hb1.cell (p := ⟨q, o, none⟩) hq.2.1⟩)
 have HROWS : Hid (RowsC (fun q => lo ≤ q ∧ q < w.heap.size) w1 xs (s.2.map rowT)) := hid (RowsC.keep (fun q hq => ⟨⟨hq.1, hq.2.1⟩, fun o => hb1.cell (p := ⟨q, o, none⟩) hq.2.1⟩) hrows0)
 have HROWA : Hid (RowsC (Aside lo w (.slice B m d)) w1 xs (s.2.map rowT)) := hid (RowsC.keep (fun q hq => ⟨hq, fun o => hb1.cell (p := ⟨q, o, none⟩) hq.2.1⟩) hrows0)
 have HBK : Hid (∀ q, (Value.slice B m d).ownBlock = some q → q < w.heap.size) := hid (fun q hq => (ownsRow_block hown0 hq).2.1)
 have HOWN := hid (own_below hown0 hb1)
 have HI := hid (hsI.below hb1)
 have HB1 := hid hb1
 have HFS := hid fs
 have HSO := hid hso
 have HSA := hid hsa
 have HSB := hid hsb
 have HP := hid (hp.keep (R' := fun q => lo ≤ q ∧ q < w.heap.size) (w' := w1) fun q hq => ⟨hq, fun o => hb1.cell (p := ⟨q, o, none⟩) hq.2⟩)
 have HPT := hid hpart
 have HZS := hid zs
 have HZR := hid zr
 have HFP := hid fp
 have HRM := hid hrm
 have hw1s : w1.heap.size = w.heap.size + 1 + 1 := by rw [hw1e]; simp
 have hsl : w.heap.size < w1.heap.size := by omega
 have zs1 := zs.cell
 have hbs1 : bs < w1.heap.size := by omega
 clear hth0 hown0 hrows0 fs hso hsa hsb hb1 zs zr h0 h1 h2 hsI hp hpart hgx fp hml ham hrm
 go_in
 go_upto_region 1 with fail
 rw [← hw1e]
 clear hw1e
 by_cases o11 : so = 11
 · have h11 := HSO.out.symm.trans o11
   obtain ⟨u0, q0, br, hk, _⟩ := kids_match HFS.out.head.okt h11
   have HWF : Hid (withF s p' = ((s.1.1, s.1.2.1, setK1 s.1.2.2 p'), s.2)) := hid (by unfold withF; rw [if_pos h11])
   have hp1 : p = kidN s.1 1 := by
    have := HPT.out
    unfold partF at this
    rw [if_pos h11] at this
    injection this with this
    exact this.symm
   have hfit := with_fit HFS.out HPT.out HFP.out HRM.out
   rw [HWF.out] at hfit
   have hrow : rowT ((s.1.1, s.1.2.1, setK1 s.1.2.2 p') : TT) = s.1.1 :: (((kidL s.1.2.2).set 1 p').map rowT).flatten := by
    have h9 := match_row hfit.1.head (by exact h11)
    simp only at h9
    rw [h9, setK1_kids hk, hk]
    rfl
   have hfewN : (rowT ((s.1.1, s.1.2.1, setK1 s.1.2.2 p') : TT)).length ≤ 4096 := hfit.1.head.few
   have hkid := fun (W : World) (hB : Below w1.heap.size w1 W) => kids7_any (HI.out.below hB).head HFS.out.head.rt.shape
   rw [top_fit HFS.out.head] at hkid
   have HK := hid hkid
   have HKL : Hid (1 < (kidL s.1.2.2).length) := hid (by rw [hk]; simp)
   have HROW := hid hrow
   have hlenr : (((kidL s.1.2.2).set 1 p').map rowT).flatten.length ≤ 4096 := by
    have h9 := hfewN
    rw [hrow, List.length_cons] at h9
    omega
   have HLR := hid hlenr
   have HFW := hid hfewN
   obtain ⟨cc, hcc⟩ : ∃ l, l = (((kidL s.1.2.2).set 1 p').map rowT) := ⟨_, rfl⟩
   have HCC := hid hcc
   have hpos : 0 < cc.flatten.length := by
    rw [hcc, hk]
    have h9 := rowT_pos u0
    simp only [List.set_cons_succ, List.set_cons_zero, List.map_cons, List.flatten_cons, List.length_append]
    omega
   have HPOS := hid hpos
   obtain ⟨i0, hi', hy0', hy1', hy2'⟩ := info_parts infoN'
   have HI0 := hid hi'
   have HY0 := hid hy0'
   have HY1 := hid hy1'
   have HY2 := hid hy2'
   subst o11
   clear hkid hk hp1 hfit hrow hfewN hlenr hcc hi' hy0' hy1' hy2'
   go_wp2_with fail
   refine (HK.out _ (Below.refl _ _)).mono ?_
   rintro en w3 ⟨hb3, A3, n3, c3, xs3, rfl, ho3, hr3⟩
   have hn3 : n3 = (kidL s.1.2.2).length := by have h8 := hr3.len; rw [List.length_map] at h8; have := ho3.1; omega
   have hn31 : 1 < n3 := by have := HKL.out; omega
   have hn32 : (1 : Int) < (n3 : Int) := by omega
   obtain ⟨gk, cur, rfl, hgk, hblk, hcur⟩ := own_blk ho3 (by omega)
   have hf3 := hblk.frozen
   have hlk3 : gk < w3.heap.size := hblk.lt
   have hc3 : ∃ u, w3.cell? ⟨gk, 1, none⟩ = some u := by
    have h9 := ho3.cellAt (g := gk) 1 (by omega)
    have hx3 : 1 < xs3.length := by have := ho3.1; omega
    exact ⟨_, h9.trans (List.getElem?_eq_getElem hx3)⟩
   obtain ⟨u3, hu3⟩ := hc3
   have hs3 := hb3.size
   obtain ⟨W, hWe⟩ : ∃ W : World, W = w3.setCell ⟨gk, 1, none⟩ (.slice Ap np cp) := ⟨_, rfl⟩
   have hW3 : W.heap.size = w3.heap.size := by rw [hWe, size_setT]
   have hkW : ∀ q, q < w1.heap.size → W.heap[q]? = w1.heap[q]? := fun q hq => by
    rw [hWe]
    exact (Below.heap_setCell w3 ⟨gk, 1, none⟩ _ q (by show q ≠ gk; omega)).trans (hb3.block q hq)
   have HKW := hid hkW
   have HBW : Hid (Below w.heap.size w W) := hid (by rw [hWe]; exact (HB1.out.trans (hb3.mono HB1.out.size)).setCell (p := ⟨gk, 1, none⟩) (by show w.heap.size ≤ gk; omega) _)
   have hRR : RowsR (· < W.heap.size) W (some ⟨gk, 0, none⟩) n3 c3 cc := by
    rw [HCC.out, List.map_set]
    have ho9 := own_setv ho3 1 (.slice Ap np cp)
    rw [← hWe] at ho9
    refine own_rowsQ ho9 (by rw [List.length_set, List.length_map]; exact hn3) (by have := HFS.out.head.few; have h8 := kids_few HFS.out.head; omega) (S := (· < W.heap.size)) (RowsC.setAt (HP.out.keep fun q hq => ⟨by omega, fun o => cell_of_heap (hkW q (by omega)) o⟩) 1 (RowsC.keep (fun q hq => ⟨by rw [hW3]; exact hq.2.1, fun o => ?_⟩) hr3)) (fun q hq => hq) (fun q hq => (ownsRow_block ho9 hq).2.1)
    rw [hWe]
    exact cell_of_heap (Below.heap_setCell w3 ⟨gk, 1, none⟩ _ q (fun e => hq.2.2 (by rw [e]; rfl))) o
   have HRR := hid hRR
   have zsW := (HZS.out.same (hkW _ hsl)).cell
   have n0 : W.cell? ⟨bs, os, none⟩ = some (.int .i64 11) := (cell_of_heap (hkW bs hbs1) os).trans k0
   have n1 : W.cell? ⟨bs, os + 1, none⟩ = some (.int .i64 sa) := (cell_of_heap (hkW bs hbs1) (os + 1)).trans k1
   have n2 : W.cell? ⟨bs, os + 2, none⟩ = some (.int .i64 sb) := (cell_of_heap (hkW bs hbs1) (os + 2)).trans k2
   have hbW : bs < W.heap.size := by omega
   have hsW : w.heap.size < W.heap.size := by omega
   have HB3 := hid hb3
   have zs3 := fun i => (hb3.cell (p := ⟨w.heap.size, i, none⟩) hsl).trans (zs1 i)
   have q0 := zsW 0
   have q1 := zsW 1
   clear hb3 ho3 hr3 hblk hcur hkW hRR hn3
   go_upto_region 4 with fail
   rw [← hWe]
   clear hWe zs3 hu3 hf3
   refine wp_region_held_drew (S := (fun w' => w'.cell? ⟨w.heap.size, 0, none⟩ = some (.slice (some ⟨bs, os, none⟩) n c) ∧ w'.cell? ⟨w.heap.size, 1, none⟩ = some (.slice B m d) ∧ w'.cell? ⟨bs, os, none⟩ = some (.int .i64 11) ∧ w'.cell? ⟨bs, os + 1, none⟩ = some (.int .i64 sa) ∧ w'.cell? ⟨bs, os + 2, none⟩ = some (.int .i64 sb))) (by kernel_rfl) ?_ (fun hHeld => ?_)
   · (try dsimp only); exact ⟨q0, q1, n0, n1, n2⟩
   have HBD : Hid (Below W.heap.size W W.drew) := hid (below_drewN (Below.refl _ _) 1)
   generalize W.drew = W1 at *
   refine wpAnyH_take (i := 0) (v := ?_) rfl (by kernel_rfl) (by kernel_rfl) (by kernel_rfl) (fun _ _ _ h => h) (Or.inl ⟨by rfl, fun wq hSw => ?_⟩) hHeld ?_
   rotate_left
   · ((try dsimp only at hSw); go_simp; try with_reducible rfl)
   try simp only [p7]
   refine wpAnyH_take (i := 1) (v := ?_) rfl (by kernel_rfl) (by kernel_rfl) (by kernel_rfl) (fun _ _ _ h => h) (Or.inl ⟨by rfl, fun wq hSw => ?_⟩) hHeld ?_
   rotate_left
   · ((try dsimp only at hSw); go_simp; try with_reducible rfl)
   try simp only [p7]
   refine wpAnyH_take (i := 2) (v := ?_) rfl (by kernel_rfl) (by kernel_rfl) (by kernel_rfl) (fun _ _ _ h => h) (Or.inl ⟨by rfl, fun wq hSw => ?_⟩) hHeld ?_
   rotate_left
   · ((try dsimp only at hSw); go_simp; try with_reducible rfl)
   try simp only [p7]
   refine wpAnyH_take (i := 3) (v := ?_) rfl (by kernel_rfl) (by kernel_rfl) (by kernel_rfl) (fun _ _ _ h => h) (Or.inl ⟨by rfl, fun wq hSw => ?_⟩) hHeld ?_
   rotate_left
   · ((try dsimp only at hSw); go_simp; try with_reducible rfl)
   try simp only [p7]
   refine wpAnyH_take (i := 5) (v := ?_) rfl (by kernel_rfl) (by kernel_rfl) (by kernel_rfl) (fun _ _ _ h => h) (Or.inl ⟨by rfl, fun wq hSw => ?_⟩) hHeld ?_
   rotate_left
   · ((try dsimp only at hSw); go_simp; try with_reducible rfl)
   try simp only [p7]
   refine wpAnyH_take (i := 8) (v := ?_) rfl (by kernel_rfl) (by kernel_rfl) (by kernel_rfl) (fun _ _ _ h => h) (Or.inl ⟨by rfl, fun wq hSw => ?_⟩) hHeld ?_
   rotate_left
   · ((try dsimp only at hSw); go_simp; try with_reducible rfl)
   try simp only [p7]
   refine wpAnyH_take (i := 9) (v := ?_) rfl (by kernel_rfl) (by kernel_rfl) (by kernel_rfl) (fun _ _ _ h => h) (Or.inl ⟨by rfl, fun wq hSw => ?_⟩) hHeld ?_
   rotate_left
   · ((try dsimp only at hSw); go_simp; try with_reducible rfl)
   try simp only [p7]
   refine wpAnyH_ready (rs := [4, 6]) (by kernel_rfl) (by simp) ?_
   refine AllReadyH.cons rfl (fun K hK => ?_) (AllReadyH.cons rfl (fun K hK => ?_) (AllReadyH.nil))
   · go_simp
     refine hK.out _ _ (by exact ⟨((HBD.out.alloc HBD.out.size _).cell (p := ⟨w.heap.size, 0, none⟩) hsW).trans q0, ((HBD.out.alloc HBD.out.size _).cell (p := ⟨w.heap.size, 1, none⟩) hsW).trans q1, ((HBD.out.alloc HBD.out.size _).cell (p := ⟨bs, os, none⟩) hbW).trans n0, ((HBD.out.alloc HBD.out.size _).cell (p := ⟨bs, os + 1, none⟩) hbW).trans n1, ((HBD.out.alloc HBD.out.size _).cell (p := ⟨bs, os + 2, none⟩) hbW).trans n2⟩) fun hHeld => ?_
     clear hK K
     try simp only [p7]
     have HBA : Hid (Below W.heap.size W (W1.alloc (.cells #[.int .i64 11, .int .i64 sa, .int .i64 sb] 50))) := hid (HBD.out.alloc HBD.out.size _)
     refine r1 6 fun K hK => ?_
     go_simp
     go_at_call 80
     refine (concat_any (HRR.out.keep fun q hq => ⟨Nat.lt_of_lt_of_le hq HBA.out.size, fun o => HBA.out.cell (p := ⟨q, o, none⟩) hq⟩) HPOS.out (by have := HLR.out; rw [← HCC.out] at this; omega)).mono ?_
     rintro en w6 ⟨hb6, A6, n6, c6, rfl, ht6⟩
     have HX := bto HBA hb6
     have HT6 : Hid (TermR (· < w6.heap.size) w6 A6 n6 c6 cc.flatten) := hid (ht6.keep fun q hq => ⟨hq.2, fun _ => rfl⟩)
     have HL1 : Hid (OwnN w6 W.heap.size (.slice (some ⟨W1.heap.size, 0, none⟩) 1 1) [⟨11, sa, sb⟩]) := hid (own_below (lit_own HBD.out.size) hb6)
     clear hb6 ht6
     go_wp2_with fail
     refine hK.out _ _ (by exact ⟨(HX.out.cell (p := ⟨w.heap.size, 0, none⟩) hsW).trans q0, (HX.out.cell (p := ⟨w.heap.size, 1, none⟩) hsW).trans q1, (HX.out.cell (p := ⟨bs, os, none⟩) hbW).trans n0, (HX.out.cell (p := ⟨bs, os + 1, none⟩) hbW).trans n1, (HX.out.cell (p := ⟨bs, os + 2, none⟩) hbW).trans n2⟩) fun hHeld => ?_
     clear hK K
     try simp only [p7]
     have HLIT : Hid (OwnN w6 W.heap.size (.slice (some ⟨W1.heap.size, 0, none⟩) 1 1) [⟨11, sa, sb⟩]) := hid (HL1.out)
     refine r1 7 fun K hK => ?_
     refine oper_append_row (.tmp 23) (.tmp 25) 29 29 rfl W.heap.size i0 Try.underlying29 Try.underlying29 HI0.out HY0.out HY1.out HY2.out (.slice (some ⟨W1.heap.size, 0, none⟩) 1 1) [⟨11, sa, sb⟩] cc.flatten rfl HLIT.out rfl HT6.out (by have := HT6.out.len; have := HLR.out; rw [← HCC.out] at this; simp only [List.length_singleton]; omega) HX.out.size ?_
     intro A7 c7 w7 hown7 happ7
     have HB7 : Hid (Below W.heap.size W w7) := hid (HX.out.grown happ7.grown HX.out.size (fun g hg => (ownsRow_block HLIT.out hg).1))
     have HO7 := hid hown7
     clear hown7 happ7
     refine hK.out _ _ (by exact ⟨(HB7.out.cell (p := ⟨w.heap.size, 0, none⟩) hsW).trans q0, (HB7.out.cell (p := ⟨w.heap.size, 1, none⟩) hsW).trans q1, (HB7.out.cell (p := ⟨bs, os, none⟩) hbW).trans n0, (HB7.out.cell (p := ⟨bs, os + 1, none⟩) hbW).trans n1, (HB7.out.cell (p := ⟨bs, os + 2, none⟩) hbW).trans n2⟩) fun hHeld => ?_
     clear hK K
     try simp only [p7]
     refine wpAnyH_take (i := 10) (v := ?_) rfl (by kernel_rfl) (by kernel_rfl) (by kernel_rfl) (fun _ _ _ h => h) (Or.inl ⟨by rfl, fun wq hSw => ?_⟩) hHeld ?_
     rotate_left
     · ((try dsimp only at hSw); go_simp; try with_reducible rfl)
     try simp only [p7]
     have HZR7 : Hid (Blk w7 (w.heap.size + 1) 70 #[.slice none 0 0, .slice none 0 0]) := hid ((HZR.out.same (HKW.out _ (by omega))).below HB7.out (by omega))
     have zr7 := HZR7.out.cell
     have fr7 := HZR7.out.frozen
     refine r1 11 fun K hK => ?_
     go_simp
     refine hK.out _ _ (by exact ⟨(cell_of_heap (Below.heap_setCell _ ⟨w.heap.size + 1, 1, none⟩ _ w.heap.size (by show w.heap.size ≠ w.heap.size + 1; omega)) 0).trans ((cell_of_heap (Below.heap_setCell _ ⟨w.heap.size + 1, 0, none⟩ _ w.heap.size (by show w.heap.size ≠ w.heap.size + 1; omega)) 0).trans ((HB7.out.cell (p := ⟨w.heap.size, 0, none⟩) hsW).trans q0)), (cell_of_heap (Below.heap_setCell _ ⟨w.heap.size + 1, 1, none⟩ _ w.heap.size (by show w.heap.size ≠ w.heap.size + 1; omega)) 1).trans ((cell_of_heap (Below.heap_setCell _ ⟨w.heap.size + 1, 0, none⟩ _ w.heap.size (by show w.heap.size ≠ w.heap.size + 1; omega)) 1).trans ((HB7.out.cell (p := ⟨w.heap.size, 1, none⟩) hsW).trans q1)), (cell_of_heap (Below.heap_setCell _ ⟨w.heap.size + 1, 1, none⟩ _ bs (by show bs ≠ w.heap.size + 1; omega)) os).trans ((cell_of_heap (Below.heap_setCell _ ⟨w.heap.size + 1, 0, none⟩ _ bs (by show bs ≠ w.heap.size + 1; omega)) os).trans ((HB7.out.cell (p := ⟨bs, os, none⟩) hbW).trans n0)), (cell_of_heap (Below.heap_setCell _ ⟨w.heap.size + 1, 1, none⟩ _ bs (by show bs ≠ w.heap.size + 1; omega)) (os + 1)).trans ((cell_of_heap (Below.heap_setCell _ ⟨w.heap.size + 1, 0, none⟩ _ bs (by show bs ≠ w.heap.size + 1; omega)) (os + 1)).trans ((HB7.out.cell (p := ⟨bs, (os + 1), none⟩) hbW).trans n1)), (cell_of_heap (Below.heap_setCell _ ⟨w.heap.size + 1, 1, none⟩ _ bs (by show bs ≠ w.heap.size + 1; omega)) (os + 2)).trans ((cell_of_heap (Below.heap_setCell _ ⟨w.heap.size + 1, 0, none⟩ _ bs (by show bs ≠ w.heap.size + 1; omega)) (os + 2)).trans ((HB7.out.cell (p := ⟨bs, (os + 2), none⟩) hbW).trans n2))⟩) fun hHeld => ?_
     clear hK K
     try simp only [p7]
     refine wpAnyH_done (by kernel_rfl) ?_ _
     go_wp2_with fail
     refine bodyPost_ret (v := .agg #[.slice A7 ([⟨11, sa, sb⟩].length + n6) c7, .slice B m d]) (results_with (g := w.heap.size + 1) (by have := (HZR7.out.set_ 0 (.slice A7 ([(⟨11, sa, sb⟩ : Nd)].length + n6) c7)).set_ 1 (.slice B m d); simpa using this) (by simp)) rfl (with_match HWF.out HROW.out HSO.out HSA.out HSB.out HCC.out hlo (by omega) (by omega) HKW.out HB7.out HBW.out HO7.out HT6.out.len HFW.out HOWN.out HROWA.out HBK.out)
   go_simp
   go_at_call 80
   refine (concat_any (HRR.out.keep fun q hq => ⟨Nat.lt_of_lt_of_le hq HBD.out.size, fun o => HBD.out.cell (p := ⟨q, o, none⟩) hq⟩) HPOS.out (by have := HLR.out; rw [← HCC.out] at this; omega)).mono ?_
   rintro en w5 ⟨hb5, A6, n6, c6, rfl, ht5⟩
   have HB5 := bto HBD hb5
   have HT5 := hid ht5
   clear hb5 ht5
   go_wp2_with fail
   refine hK.out _ _ (by exact ⟨(HB5.out.cell (p := ⟨w.heap.size, 0, none⟩) hsW).trans q0, (HB5.out.cell (p := ⟨w.heap.size, 1, none⟩) hsW).trans q1, (HB5.out.cell (p := ⟨bs, os, none⟩) hbW).trans n0, (HB5.out.cell (p := ⟨bs, os + 1, none⟩) hbW).trans n1, (HB5.out.cell (p := ⟨bs, os + 2, none⟩) hbW).trans n2⟩) fun hHeld => ?_
   clear hK K
   try simp only [p7]
   refine r1 4 fun K hK => ?_
   go_simp
   refine hK.out _ _ (by exact ⟨((HB5.out.alloc HB5.out.size _).cell (p := ⟨w.heap.size, 0, none⟩) hsW).trans q0, ((HB5.out.alloc HB5.out.size _).cell (p := ⟨w.heap.size, 1, none⟩) hsW).trans q1, ((HB5.out.alloc HB5.out.size _).cell (p := ⟨bs, os, none⟩) hbW).trans n0, ((HB5.out.alloc HB5.out.size _).cell (p := ⟨bs, os + 1, none⟩) hbW).trans n1, ((HB5.out.alloc HB5.out.size _).cell (p := ⟨bs, os + 2, none⟩) hbW).trans n2⟩) fun hHeld => ?_
   clear hK K
   try simp only [p7]
   have HX : Hid (Below W.heap.size W (w5.alloc (.cells #[.int .i64 11, .int .i64 sa, .int .i64 sb] 50))) := hid (HB5.out.alloc HB5.out.size _)
   have HT6 : Hid (TermR (· < (w5.alloc (.cells #[.int .i64 11, .int .i64 sa, .int .i64 sb] 50)).heap.size) (w5.alloc (.cells #[.int .i64 11, .int .i64 sa, .int .i64 sb] 50)) A6 n6 c6 cc.flatten) := hid (HT5.out.keep fun q hq => ⟨by have := hq.2; simp; omega, fun o => (below_alloc w5 _).cell (p := ⟨q, o, none⟩) hq.2⟩)
   have HL1 : Hid (OwnN (w5.alloc (.cells #[.int .i64 11, .int .i64 sa, .int .i64 sb] 50)) W.heap.size (.slice (some ⟨w5.heap.size, 0, none⟩) 1 1) [⟨11, sa, sb⟩]) := hid (lit_own HB5.out.size)
   have HLIT : Hid (OwnN (w5.alloc (.cells #[.int .i64 11, .int .i64 sa, .int .i64 sb] 50)) W.heap.size (.slice (some ⟨w5.heap.size, 0, none⟩) 1 1) [⟨11, sa, sb⟩]) := hid (HL1.out)
   refine r1 7 fun K hK => ?_
   refine oper_append_row (.tmp 23) (.tmp 25) 29 29 rfl W.heap.size i0 Try.underlying29 Try.underlying29 HI0.out HY0.out HY1.out HY2.out (.slice (some ⟨w5.heap.size, 0, none⟩) 1 1) [⟨11, sa, sb⟩] cc.flatten rfl HLIT.out rfl HT6.out (by have := HT6.out.len; have := HLR.out; rw [← HCC.out] at this; simp only [List.length_singleton]; omega) HX.out.size ?_
   intro A7 c7 w7 hown7 happ7
   have HB7 : Hid (Below W.heap.size W w7) := hid (HX.out.grown happ7.grown HX.out.size (fun g hg => (ownsRow_block HLIT.out hg).1))
   have HO7 := hid hown7
   clear hown7 happ7
   refine hK.out _ _ (by exact ⟨(HB7.out.cell (p := ⟨w.heap.size, 0, none⟩) hsW).trans q0, (HB7.out.cell (p := ⟨w.heap.size, 1, none⟩) hsW).trans q1, (HB7.out.cell (p := ⟨bs, os, none⟩) hbW).trans n0, (HB7.out.cell (p := ⟨bs, os + 1, none⟩) hbW).trans n1, (HB7.out.cell (p := ⟨bs, os + 2, none⟩) hbW).trans n2⟩) fun hHeld => ?_
   clear hK K
   try simp only [p7]
   refine wpAnyH_take (i := 10) (v := ?_) rfl (by kernel_rfl) (by kernel_rfl) (by kernel_rfl) (fun _ _ _ h => h) (Or.inl ⟨by rfl, fun wq hSw => ?_⟩) hHeld ?_
   rotate_left
   · ((try dsimp only at hSw); go_simp; try with_reducible rfl)
   try simp only [p7]
   have HZR7 : Hid (Blk w7 (w.heap.size + 1) 70 #[.slice none 0 0, .slice none 0 0]) := hid ((HZR.out.same (HKW.out _ (by omega))).below HB7.out (by omega))
   have zr7 := HZR7.out.cell
   have fr7 := HZR7.out.frozen
   refine r1 11 fun K hK => ?_
   go_simp
   refine hK.out _ _ (by exact ⟨(cell_of_heap (Below.heap_setCell _ ⟨w.heap.size + 1, 1, none⟩ _ w.heap.size (by show w.heap.size ≠ w.heap.size + 1; omega)) 0).trans ((cell_of_heap (Below.heap_setCell _ ⟨w.heap.size + 1, 0, none⟩ _ w.heap.size (by show w.heap.size ≠ w.heap.size + 1; omega)) 0).trans ((HB7.out.cell (p := ⟨w.heap.size, 0, none⟩) hsW).trans q0)), (cell_of_heap (Below.heap_setCell _ ⟨w.heap.size + 1, 1, none⟩ _ w.heap.size (by show w.heap.size ≠ w.heap.size + 1; omega)) 1).trans ((cell_of_heap (Below.heap_setCell _ ⟨w.heap.size + 1, 0, none⟩ _ w.heap.size (by show w.heap.size ≠ w.heap.size + 1; omega)) 1).trans ((HB7.out.cell (p := ⟨w.heap.size, 1, none⟩) hsW).trans q1)), (cell_of_heap (Below.heap_setCell _ ⟨w.heap.size + 1, 1, none⟩ _ bs (by show bs ≠ w.heap.size + 1; omega)) os).trans ((cell_of_heap (Below.heap_setCell _ ⟨w.heap.size + 1, 0, none⟩ _ bs (by show bs ≠ w.heap.size + 1; omega)) os).trans ((HB7.out.cell (p := ⟨bs, os, none⟩) hbW).trans n0)), (cell_of_heap (Below.heap_setCell _ ⟨w.heap.size + 1, 1, none⟩ _ bs (by show bs ≠ w.heap.size + 1; omega)) (os + 1)).trans ((cell_of_heap (Below.heap_setCell _ ⟨w.heap.size + 1, 0, none⟩ _ bs (by show bs ≠ w.heap.size + 1; omega)) (os + 1)).trans ((HB7.out.cell (p := ⟨bs, (os + 1), none⟩) hbW).trans n1)), (cell_of_heap (Below.heap_setCell _ ⟨w.heap.size + 1, 1, none⟩ _ bs (by show bs ≠ w.heap.size + 1; omega)) (os + 2)).trans ((cell_of_heap (Below.heap_setCell _ ⟨w.heap.size + 1, 0, none⟩ _ bs (by show bs ≠ w.heap.size + 1; omega)) (os + 2)).trans ((HB7.out.cell (p := ⟨bs, (os + 2), none⟩) hbW).trans n2))⟩) fun hHeld => ?_
   clear hK K
   try simp only [p7]
   refine wpAnyH_done (by kernel_rfl) ?_ _
   go_wp2_with fail
   refine bodyPost_ret (v := .agg #[.slice A7 ([⟨11, sa, sb⟩].length + n6) c7, .slice B m d]) (results_with (g := w.heap.size + 1) (by have := (HZR7.out.set_ 0 (.slice A7 ([(⟨11, sa, sb⟩ : Nd)].length + n6) c7)).set_ 1 (.slice B m d); simpa using this) (by simp)) rfl (with_match HWF.out HROW.out HSO.out HSA.out HSB.out HCC.out hlo (by omega) (by omega) HKW.out HB7.out HBW.out HO7.out HT6.out.len HFW.out HOWN.out HROWA.out HBK.out)
 have o12 : so = 12 := by
  have := HPT.out
  unfold partF at this
  rw [← HSO.out, if_neg o11] at this
  by_cases h : so = 12
  · exact h
  rw [if_neg h] at this; cases this
 have h12 := HSO.out.symm.trans o12
 obtain ⟨pb0, pb1⟩ := place_bd HFS.out.head.okt h12
 obtain ⟨ip, hip⟩ : ∃ ip : Nat, placeT s.1 = (ip : Int) := ⟨(placeT s.1).toNat, by omega⟩
 have hlt : ip < m := by
  have := HPT.out
  unfold partF at this
  rw [← HSO.out, if_neg o11, if_pos o12, hip] at this
  by_cases h : ip < m
  · exact h
  rw [if_neg (by rw [← HML.out]; exact h)] at this; cases this
 have hpl := fun (W : World) (hB : Below w1.heap.size w1 W) => cplaceOf_any (HI.out.below hB).head HFS.out.head.rt h12
 rw [hip] at hpl
 have HPL := hid hpl
 have HWF : Hid (withF s p' = (s.1, s.2.set ip p')) := hid (by unfold withF; rw [← HSO.out, if_neg o11, hip]; rfl)
 have d11 : (so == 11) = false := by simpa using o11
 have HXS := hid (rows_one HROWS.out)
 have hxl : xs.length = m := by have := HOWN.out.1; omega
 have HCL := hid (cloneR_any HOWN.out HXS.out (by omega))
 have HXL := hid hxl
 have hip2 : (ip : Int) < (m : Int) := by omega
 clear hpl hip pb0 pb1 o11
 clear hxl
 go_wp2_with fail
 refine (HCL.out).mono ?_
 rintro en w3 ⟨hb3, A3, c3, rfl, ho3⟩
 rw [HXL.out] at ho3 ⊢
 obtain ⟨gk, cur, rfl, hgk, hblk, hcur⟩ := own_blk ho3 (by omega)
 have HB3 := hid hb3
 have HO3 := hid ho3
 have HBLK := hid hblk
 have HGK := hid hgk
 have zs3 := fun i => (hb3.cell (p := ⟨w.heap.size, i, none⟩) hsl).trans (zs1 i)
 clear hb3 ho3 hblk hcur
 go_wp2_with fail
 refine (HPL.out _ HB3.out).mono ?_
 rintro en w4 ⟨rfl, hb4⟩
 have HB4 := bto HB3 hb4
 have HO4 := hid (own_below HO3.out hb4)
 have HBL4 := hid (HBLK.out.below hb4 HBLK.out.lt)
 have hf4 := HBL4.out.frozen
 have hlk4 : gk < w4.heap.size := HBL4.out.lt
 have zs4 := fun i => (HB4.out.cell (p := ⟨w.heap.size, i, none⟩) hsl).trans (zs1 i)
 have hc4 : ∃ u, w4.cell? ⟨gk, ip, none⟩ = some u := by
  have h9 := HO4.out.cellAt (g := gk) ip (by omega)
  obtain ⟨u, hu⟩ : ∃ u, xs[ip]? = some u := ⟨_, List.getElem?_eq_getElem (by rw [HXL.out]; exact hlt)⟩
  exact ⟨u, h9.trans hu⟩
 obtain ⟨u4, hu4⟩ := hc4
 have HZR4 := hid (HZR.out.below HB4.out (by omega))
 have HZS4 := hid (HZS.out.below HB4.out hsl)
 have hne : w.heap.size ≠ gk := by omega
 have hne2 : w.heap.size + 1 ≠ gk := by omega
 have HZR5 := hid (HZR4.out.far (p := ⟨gk, ip, none⟩) hne2 (.slice Ap np cp))
 have zr5 := HZR5.out.cell
 have fr5 := HZR5.out.frozen
 have zs5 := (HZS4.out.far (p := ⟨gk, ip, none⟩) hne (.slice Ap np cp)).cell
 clear hb4 zs3
 go_wp2_with fail
 refine bodyPost_ret (v := .agg #[.slice (some ⟨bs, os, none⟩) n c, .slice (some ⟨gk, 0, none⟩) m c3]) (results_with (g := w.heap.size + 1) (by have := (HZR5.out.set_ 0 (.slice (some ⟨bs, os, none⟩) n c)).set_ 1 (.slice (some ⟨gk, 0, none⟩) m c3); simpa using this) (by simp)) rfl ⟨?_, some ⟨bs, os, none⟩, n, c, some ⟨gk, 0, none⟩, m, c3, rfl, ?_⟩
 · have h9 : Below w.heap.size w w4 := HB1.out.trans (HB4.out.mono HB1.out.size)
   exact ((h9.setCell (p := ⟨gk, ip, none⟩) (by show w.heap.size ≤ gk; omega) _).setCell (p := ⟨w.heap.size + 1, 0, none⟩) (Nat.le_succ _) _).setCell (p := ⟨w.heap.size + 1, 1, none⟩) (Nat.le_succ _) _
 have h9 : ∀ q, q < w1.heap.size → q ≠ w.heap.size + 1 → ∀ o, (((w4.setCell ⟨gk, ip, none⟩ (.slice Ap np cp)).setCell ⟨w.heap.size + 1, 0, none⟩ (.slice (some ⟨bs, os, none⟩) n c)).setCell ⟨w.heap.size + 1, 1, none⟩ (.slice (some ⟨gk, 0, none⟩) m c3)).cell? ⟨q, o, none⟩ = w1.cell? ⟨q, o, none⟩ := fun q h1 h2 o =>
  (cell_of_heap (Below.heap_setCell _ ⟨w.heap.size + 1, 1, none⟩ _ q h2) o).trans ((cell_of_heap (Below.heap_setCell _ ⟨w.heap.size + 1, 0, none⟩ _ q h2) o).trans ((cell_of_heap (Below.heap_setCell w4 ⟨gk, ip, none⟩ _ q (by show q ≠ gk; omega)) o).trans (HB4.out.cell (p := ⟨q, o, none⟩) h1)))
 have hsz9 : (((w4.setCell ⟨gk, ip, none⟩ (.slice Ap np cp)).setCell ⟨w.heap.size + 1, 0, none⟩ (.slice (some ⟨bs, os, none⟩) n c)).setCell ⟨w.heap.size + 1, 1, none⟩ (.slice (some ⟨gk, 0, none⟩) m c3)).heap.size = w4.heap.size := by rw [size_setT, size_setT, size_setT]
 have hs4 := HB4.out.size
 have hown9 := own_baseT (base' := lo) (ownsRow_setCell_below (ownsRow_setCell_below (own_setv HO4.out ip (.slice Ap np cp)) (a := ⟨w.heap.size + 1, 0, none⟩) (show w.heap.size + 1 < w1.heap.size by omega) (.slice (some ⟨bs, os, none⟩) n c)) (a := ⟨w.heap.size + 1, 1, none⟩) (show w.heap.size + 1 < w1.heap.size by omega) (.slice (some ⟨gk, 0, none⟩) m c3)) (by omega)
 rw [HWF.out]
 have hne9 : ∀ q, q < w.heap.size → (Value.slice (some ⟨gk, 0, none⟩) m c3).ownBlock ≠ some q := fun q hq e => by have e2 : gk = q := (Option.some.inj (show some gk = some q from e)); omega
 refine ⟨TermR.keep HTH.out (fun q hq => ?_), _, hown9, ?_⟩
 · exact ⟨⟨hq.1, by rw [hsz9]; omega, hne9 q hq.2⟩, h9 q (by omega) (by omega)⟩
 rw [List.map_set]
 exact RowsC.setAt (HP.out.keep fun q hq => ⟨⟨hq.1, by rw [hsz9]; omega, hne9 q hq.2⟩, h9 q (by omega) (by omega)⟩) ip (RowsC.keep (fun q hq => ⟨⟨hq.1, by rw [hsz9]; omega, hne9 q hq.2⟩, h9 q (by omega) (by omega)⟩) HROWS.out)
end Go.Proofs.Ytjoddliplahgkaa
