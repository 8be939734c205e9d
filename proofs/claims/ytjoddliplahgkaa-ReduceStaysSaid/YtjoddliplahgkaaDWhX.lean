/- core: own. -/
import Derived.Test.YtjoddliplahgkaaDShort2
import Derived.Test.YtjoddliplahgkaaDSenseE
namespace Go.Proofs.Ytjoddliplahgkaa
open Go.Lib (hid)
open Go.RowKit
theorem results_own {w : World} {g : Nat} {c0 c1 : Value} {tmps : Array Value} (h : Blk w g 70 #[c0, c1]) (ht : tmps.getD 4 undef = .pointer (some ⟨g, 0, none⟩)) :
 (results Try.f52 tmps).run Try.prog w = .ok (.agg #[c0, c1]) w := by
 have hc := h.cell
 have ht' : tmps[4]?.getD undef = .pointer (some ⟨g, 0, none⟩) := by rw [← ht]; simp
 simp [results, Try.results52, go_sem, ht', hc]
theorem own_end {w w1 w5 : World} {f : Fc} {r : Option Fc} {A B : Option Addr} {n c m d lo : Nat} (hb1 : Below w.heap.size w w1) (hs : w1.heap.size = w.heap.size + 3) (hB : Below w1.heap.size w1 w5) (hf : FocO lo w5 f A n c B m d) (hlo : w1.heap.size ≤ lo) (hr : r = some f) :
 OntoP w.heap.size r w (.returned (.agg #[.slice A n c, .slice B m d])) ((w5.setCell ⟨w.heap.size + 1, 0, none⟩ (.slice A n c)).setCell ⟨w.heap.size + 1, 1, none⟩ (.slice B m d)) := by
 refine ⟨?_, .inl ⟨f, hr, A, n, c, B, m, d, rfl, ?_⟩⟩
 · exact ((hb1.trans (hB.mono hb1.size)).setCell (p := ⟨w.heap.size + 1, 0, none⟩) (Nat.le_succ _) _).setCell (p := ⟨w.heap.size + 1, 1, none⟩) (Nat.le_succ _) _
 exact (((hf.set (b := w.heap.size + 1) (by omega) 0 _).set (b := w.heap.size + 1) (by omega) 1 _)).base (by omega)
theorem cut_rowsN (A : Option Addr) (n c k : Nat) (hk : k ≤ n) (hc : n ≤ c) (hnul : A = none → c = 0) : ∃ A', (∀ w : World, (Instr.slice 59 (.slice A n c) (some (.int .i64 (k : Int))) none none).run Try.prog w = .ok (.slice A' (n - k) (c - k)) w) ∧
 (∀ (R : Nat → Prop) (w : World) (ls : List (List Nd)), RowsR R w A n c ls → RowsR R w A' (n - k) (c - k) (ls.drop k)) ∧ (A' = none → c - k = 0) := by
 refine ⟨if c = k then A else A.map (·.add (k * 1)), fun w => ?_, fun R w ls h => ?_, fun e => ?_⟩
 · rw [run_slice_l w 59 A n c (by kernel_rfl) .i64 (k : Int) (by omega) (by omega)]
   have e : Try.prog.elem 59 = 29 := by kernel_rfl
   rw [e, size_term]
   rfl
 · have h1 := h.len
   have h2 := h.few
   refine ⟨by rw [List.length_drop]; omega, by omega, fun hn => ?_⟩
   obtain ⟨b, off, rfl, hb, hm⟩ := h.mem (by omega)
   rw [if_neg (by omega)]
   refine ⟨b, off + k, ?_, hb, fun j hj => ?_⟩
   · simp only [Option.map_some, Addr.add, Nat.mul_one]
     split
     · rename_i h0; rw [h0, Nat.add_zero]
     rfl
   obtain ⟨A', n', c', hc, ht⟩ := hm (k + j) (by omega)
   refine ⟨A', n', c', by rw [Nat.add_assoc]; exact hc, ?_⟩
   have e : (ls.drop k).getD j [] = ls.getD (k + j) [] := by
    rw [List.getD_eq_getElem?_getD, List.getD_eq_getElem?_getD, List.getElem?_drop]
   rw [e]
   exact ht
 by_cases h9 : c = k
 · omega
 rw [if_neg h9] at e
 cases A with
 | none => have := hnul rfl; omega
 | some a => cases e
theorem ownN_term {w : World} {base n c : Nat} {A : Option Addr} {l : List Nd} (ho : OwnN w base (.slice A n c) l) (hf : l.length ≤ 5864062014805) : TermV w A n c l := by
 have hl : l.length = n := by
  obtain ⟨_, _, e⟩ := ho.slice
  injection e with _ e2
  exact e2.symm
 rw [← hl] at ho ⊢
 obtain ⟨Aq, nq, cq, e, hq⟩ := OwnN.termS ho hf
 injection e with e1 e2 e3
 subst e1 e2 e3
 exact hq.keep fun q hq => ⟨(ownsRow_block ho hq).2.1, fun _ => rfl⟩
def SubP (x u : TT) (w : World) (e : Ending) (w' : World) : Prop := Below w.heap.size w w' ∧ ∃ A n c, e = .returned (.tuple #[.slice A n c, .int .i64 (subTT x u).2]) ∧ ((subTT x u).2 = 0 → TermV w' A n c (rowT (subTT x u).1))
theorem csub_any {b : Bk} {free : Int} {x u : TT} {A B : Option Addr} {n c m d : Nat} {w : World} (h0 : 0 ≤ free) (h1 : free ≤ 1000000) (hx : FitT b (free + 1) x) (hu : FitT b free u) (tx : TermV w A n c (rowT x)) (tu : TermV w B m d (rowT u)) :
 Calls Try.prog 84 #[.slice A n c, .slice B m d, .int .i64 0] w (SubP x u w) := by
 have hS := sub_rowG h0 h1 hx hu
 have h := subst_any tx tu 0 (fun _ _ _ => hS.1)
 rw [hS.2.1] at h
 refine h.mono ?_
 rintro e w' ⟨hb, A', n', c', rfl, ho⟩
 refine ⟨hb, A', n', c', rfl, fun h9 => ?_⟩
 rw [if_pos h9] at ho
 simp only at ho
 have hl : (rowT (subTT x u).1).length = n' := by
  obtain ⟨_, _, e⟩ := ho.slice
  injection e with _ e2
  exact e2.symm
 rw [← hl] at ho ⊢
 obtain ⟨Aq, nq, cq, e, hq⟩ := OwnN.termS ho (by have := (hS.2.2 h9).few; have h9 : (rowT (subTT x u).1).length = szT (subTT x u).1 := rfl; omega)
 injection e with e1 e2 e3
 subst e1 e2 e3
 exact hq.keep fun q hq => ⟨(ownsRow_block ho hq).2.1, fun _ => rfl⟩
set_option linter.unusedSimpArgs false in
set_option linter.unusedVariables false in
set_option maxRecDepth 100000 in
set_option maxHeartbeats 4000000 in
theorem cown_any {w0 : World} {g : Nat} {v : BkVal} {b : Bk} {cA : Option Addr} {cn cc : Nat} {cv : List (List Nd)} {f : Nat} {w : World} (hr : rightE b = 0) (hb : BookV w0 v b) (hc : CtxG b cv) (hcl : (cv.length : Int) ≤ 990000) (hw : MaW w0 g v b cA cn cc cv f w) {s : Fc} {A B : Option Addr} {n c m d : Nat} (hs : FocI g w s A n c B m d) (fs : FocG b (cv.length : Int) s) (hmd : m ≤ d) (hfz : fsz s ≤ 4096) (hrd : readyF b cv s = true) :
 Calls Try.prog 52 #[.pointer (some ⟨g, 0, none⟩), .agg #[.slice A n c, .slice B m d]] w (OntoP w.heap.size (ownF b cv s) w) := by
 obtain ⟨bs, os, rfl, hn0, hbs, h0, h1, h2⟩ := hs.node
 obtain ⟨so, hso⟩ : ∃ z, z = s.1.1.op := ⟨_, rfl⟩
 obtain ⟨sa, hsa⟩ : ∃ z, z = s.1.1.a := ⟨_, rfl⟩
 obtain ⟨sb, hsb⟩ : ∃ z, z = s.1.1.b := ⟨_, rfl⟩
 rw [← hso] at h0
 rw [← hsa] at h1
 rw [← hsb] at h2
 obtain ⟨res, hres⟩ : ∃ r, r = ownF b cv s := ⟨_, rfl⟩
 rw [← hres]
 have hml : s.2.length = m := by have := hs.2.1.len; simpa using this
 have hmf := hs.2.1.few
 obtain ⟨w1, hw1e⟩ : ∃ w1 : World, w1 = ((w.alloc (.cells #[.slice (some ⟨bs, os, none⟩) n c, .slice B m d] 70)).alloc (.cells #[.slice none 0 0, .slice none 0 0] 70)).alloc (.cells #[.int .i64 so, .int .i64 sa, .int .i64 sb] 50) := ⟨_, rfl⟩
 have hb1 : Below w.heap.size w w1 := by rw [hw1e]; exact (below_alloc2 _ _ _).alloc (by simp; omega) _
 have zs : Blk w1 w.heap.size 70 #[.slice (some ⟨bs, os, none⟩) n c, .slice B m d] := by rw [hw1e]; exact ((Blk.new _ _ _).alloc _).alloc _
 have zr : Blk w1 (w.heap.size + 1) 70 #[.slice none 0 0, .slice none 0 0] := by rw [hw1e]; exact (Blk.new' (by simp)).alloc _
 have zn : Blk w1 (w.heap.size + 2) 50 #[.int .i64 so, .int .i64 sa, .int .i64 sb] := by rw [hw1e]; exact Blk.new' (by simp)
 have hw1s : w1.heap.size = w.heap.size + 3 := by rw [hw1e]; simp
 have HON := hid (fun (W : World) (hB : Below w1.heap.size w1 W) (x : TT) (A' : Option Addr) (n' c' : Nat) (ht : TermV W A' n' c' (rowT x)) (hx : FitT b (cv.length : Int) x) => conto_any ht hx ((hs.below hb1).below hB).args fs.args hs.2.2)
 have HW := hid (hw.below hb1)
 have HSW := hid hs
 have hm4 : m ≤ 4096 := by have := FocG.argsLen fs hfz; omega
 have HWW := hid hw
 have HS := hid (hs.below hb1)
 have HB1 := hid hb1
 have HBK := hid hb
 have HR := hid hr
 have HC := hid hc
 have HCL := hid hcl
 have HFS := hid fs
 have HML := hid hml
 have HSO := hid hso
 have HSA := hid hsa
 have HSB := hid hsb
 have HRES := hid hres
 have HRD := hid hrd
 have HZR := hid zr
 have HW1S := hid hw1s
 have hns := hw.lt
 have zg := HW.out.blk.cell
 have hgl : g < w1.heap.size := HW.out.lt
 have hsl : w.heap.size < w1.heap.size := zs.lt
 have hrl : w.heap.size + 1 < w1.heap.size := zr.lt
 have hnl : w.heap.size + 2 < w1.heap.size := zn.lt
 have zs1 := zs.cell
 have zn1 := zn.cell
 clear hr hb hc hcl hw hs fs hso hsa hsb hres hrd hml hb1 zs zr zn hw1s
 go_in
 go_upto_region 2 with fail
 rw [← hw1e]
 clear hw1e
 by_cases o5 : so = 5
 · have h5 := HSO.out.symm.trans o5
   have hm0 : 0 < m := by
    have h9 := HRD.out
    unfold readyF at h9
    rw [if_pos h5, HML.out] at h9
    exact of_decide_eq_true h9
   obtain ⟨p, q, hk⟩ := kids_two HFS.out.head.okt (Or.inr (Or.inl h5))
   obtain ⟨e1, he1, h1e, h1n, hp, hq⟩ := two_pieces HFS.out.head.rt (Or.inr h5) hk
   have hln : (rowT s.1).length = n := HS.out.1.len
   rw [hln] at h1n
   obtain ⟨a, ha⟩ : ∃ a, a = s.2.getD 0 (default, [], .nil) := ⟨_, rfl⟩
   have HRB : Hid (res = if (subTT q a).2 = 0 then ontoF (subTT q a).1 (s.2.drop 1) else none) := hid (by rw [HRES.out]; unfold ownF; rw [if_pos h5, ← ha, kidN_at (i := 1) (y := q) (by rw [hk]; rfl)])
   have HFQ : Hid (FitT b ((cv.length : Int) + 1) q) := hid (by
    have := HFS.out.head.kid (i := 1) (y := q) (by rw [hk]; rfl)
    rwa [show aroundI s.1.1.op s.1.1.b ((1 : Nat) : Int) = 1 from by rw [h5]; simp [aroundI]] at this)
   obtain ⟨hil, bb, oo, A4, n4, c4, eB, hbb, hc4, ht4⟩ := HSW.out.arg hm0
   have HFA : Hid (FitT b (cv.length : Int) a) := hid (by rw [ha]; exact HFS.out.args _ (getD_mem hil (default, [], .nil)))
   rw [← ha] at ht4
   have HT4 := hid (fun (W : World) (hB : Below w1.heap.size w1 W) => (TermR.keep ht4 (R' := (· < W.heap.size)) (w' := W) fun q hq => ⟨by have := HB1.out.size; have := hB.size; omega, fun o => ((HB1.out.trans (hB.mono HB1.out.size))).cell (p := ⟨q, o, none⟩) hq.1⟩))
   have hc41 := (HB1.out.cell (p := ⟨bb, oo + 0, none⟩) hbb).trans hc4
   rw [Nat.add_zero] at hc41
   obtain ⟨B1, hcb, hcbr, hcbn⟩ := cut_rowsN B m d 1 hm0 hmd HS.out.2.2
   have HON1 := hid (fun (W : World) (hB : Below w1.heap.size w1 W) (x : TT) (A' : Option Addr) (n' c' : Nat) (ht : TermV W A' n' c' (rowT x)) (hx : FitT b (cv.length : Int) x) => conto_any (L := s.2.drop 1) ht hx (by rw [List.map_drop]; exact hcbr _ _ _ (HS.out.below hB).args) (fun y hy => HFS.out.args y (List.mem_of_mem_drop hy)) hcbn)
   obtain ⟨Af, hf_, hfr⟩ := cut_from (some ⟨bs, os, none⟩) n c e1 h1n
   have HE1 := hid (fun (W : World) (hB : Below w1.heap.size w1 W) => end_any (HS.out.below hB).head 1)
   rw [he1] at HE1
   have HQ := hid (fun (W : World) (hB : Below w1.heap.size w1 W) => hfr _ _ _ (HS.out.below hB).head)
   rw [hq] at HQ
   have hcb1 : ∀ w : World, (Instr.slice 59 (.slice B m d) (some (.int .i64 1)) none none).run Try.prog w = .ok (.slice B1 (m - 1) (d - 1)) w := hcb
   have hm1 : (0 : Int) < (m : Int) := by omega
   subst eB
   subst o5
   clear hk hp hq ht4 hcbr hcbn hfr he1 hil hc4 ha h5 hcb hln
   go_upto_region 4 with fail
   refine wp_region_held_drew (S := (fun w' => ∀ q, q < w1.heap.size → q ≠ w.heap.size + 1 → w'.heap[q]? = w1.heap[q]?)) (by kernel_rfl) ?_ (fun hHeld => ?_)
   · (try dsimp only); exact fun q _ _ => rfl
   have HBD : Hid (Below w1.heap.size w1 w1.drew) := hid (below_drewN (Below.refl _ _) 1)
   generalize w1.drew = W1 at *
   refine wpAnyH_take (i := 0) (v := ?_) rfl (by kernel_rfl) (by kernel_rfl) (by kernel_rfl) (fun _ _ _ h => h) (Or.inl ⟨by rfl, fun wq hSw => ?_⟩) hHeld ?_
   rotate_left
   · ((try dsimp only at hSw); go_simp; try with_reducible rfl)
   try simp only [p7]
   refine wpAnyH_take (i := 1) (v := ?_) rfl (by kernel_rfl) (by kernel_rfl) (by kernel_rfl) (fun _ _ _ h => h) (Or.inl ⟨by rfl, fun wq hSw => ?_⟩) hHeld ?_
   rotate_left
   · (have f0 := (cell_of_heap (hSw (w.heap.size) hsl (by omega)) 0).trans (zs1 0); go_simp; try with_reducible rfl)
   try simp only [p7]
   refine wpAnyH_take (i := 2) (v := ?_) rfl (by kernel_rfl) (by kernel_rfl) (by kernel_rfl) (fun _ _ _ h => h) (Or.inl ⟨by rfl, fun wq hSw => ?_⟩) hHeld ?_
   rotate_left
   · ((try dsimp only at hSw); go_simp; try with_reducible rfl)
   try simp only [p7]
   refine wpAnyH_take (i := 3) (v := ?_) rfl (by kernel_rfl) (by kernel_rfl) (by kernel_rfl) (fun _ _ _ h => h) (Or.inl ⟨by rfl, fun wq hSw => ?_⟩) hHeld ?_
   rotate_left
   · (have f0 := (cell_of_heap (hSw (w.heap.size) hsl (by omega)) 0).trans (zs1 0); go_simp; try with_reducible rfl)
   try simp only [p7]
   refine r1 4 fun K hK => ?_
   go_simp
   go_at_call 24
   refine (HE1.out _ HBD.out).mono ?_
   rintro en w3 ⟨rfl, hb3⟩
   have HB3 := bto HBD hb3
   clear hb3
   go_wp2_with fail
   refine hK.out _ _ (by exact fun q h1 _ => HB3.out.block q h1) fun hHeld => ?_
   clear hK K
   try simp only [p7]
   refine wpAnyH_take (i := 5) (v := ?_) rfl (by kernel_rfl) (by kernel_rfl) (by kernel_rfl) (fun _ _ _ h => h) (Or.inl ⟨by rfl, fun wq hSw => ?_⟩) hHeld ?_
   rotate_left
   · ((try dsimp only at hSw); go_simp; try with_reducible rfl)
   try simp only [p7]
   refine wpAnyH_take (i := 6) (v := ?_) rfl (by kernel_rfl) (by kernel_rfl) (by kernel_rfl) (fun _ _ _ h => h) (Or.inl ⟨by rfl, fun wq hSw => ?_⟩) hHeld ?_
   rotate_left
   · ((try dsimp only at hSw); go_simp; try with_reducible rfl)
   try simp only [p7]
   refine wpAnyH_done (by kernel_rfl) ?_ _
   go_upto_region 5 with fail
   have HSB5 := hid (fun (W : World) (hB : Below w1.heap.size w1 W) => csub_any (by omega) (by have := HCL.out; omega) HFQ.out HFA.out (HQ.out W hB) (HT4.out W hB))
   have HSF := hid (fun h9 => (sub_rowG (by omega) (by have := HCL.out; omega) HFQ.out HFA.out).2.2 h9)
   have HCODE : Hid ((subTT q a).2 ≠ 0 → (subTT q a).2 = 9) := hid subTT_code
   unfold SubP at HSB5
   generalize subTT q a = sx at *
   by_cases h0 : sx.2 = 0
   rotate_left
   · have HH0 := hid h0
     have HRN : Hid (res = none) := hid (by rw [HRB.out, if_neg h0])
     rw [HCODE.out h0] at HSB5
     clear h0
     refine wp_region_held_drew (S := (fun w' => ∀ q, q < w1.heap.size → q ≠ w.heap.size + 1 → w'.heap[q]? = w1.heap[q]?)) (by kernel_rfl) ?_ (fun hHeld => ?_)
     · (try dsimp only); exact fun q h1 _ => HB3.out.block q h1
     have HB3d : Hid (Below w1.heap.size w1 w3.drew) := hid (below_drewN HB3.out 1)
     generalize w3.drew = W3 at *
     refine wpAnyH_take (i := 0) (v := ?_) rfl (by kernel_rfl) (by kernel_rfl) (by kernel_rfl) (fun _ _ _ h => h) (Or.inl ⟨by rfl, fun wq hSw => ?_⟩) hHeld ?_
     rotate_left
     · ((try dsimp only at hSw); go_simp; try with_reducible rfl)
     try simp only [p7]
     refine wpAnyH_take (i := 1) (v := ?_) rfl (by kernel_rfl) (by kernel_rfl) (by kernel_rfl) (fun _ _ _ h => h) (Or.inl ⟨by rfl, fun wq hSw => ?_⟩) hHeld ?_
     rotate_left
     · ((try dsimp only at hSw); go_simp; try with_reducible rfl)
     try simp only [p7]
     refine wpAnyH_take (i := 2) (v := ?_) rfl (by kernel_rfl) (by kernel_rfl) (by kernel_rfl) (fun _ _ _ h => h) (Or.inl ⟨by rfl, fun wq hSw => ?_⟩) hHeld ?_
     rotate_left
     · (have f1 := (cell_of_heap (hSw (w.heap.size) hsl (by omega)) 1).trans (zs1 1); go_simp; try with_reducible rfl)
     try simp only [p7]
     refine wpAnyH_take (i := 3) (v := ?_) rfl (by kernel_rfl) (by kernel_rfl) (by kernel_rfl) (fun _ _ _ h => h) (Or.inl ⟨by rfl, fun wq hSw => ?_⟩) hHeld ?_
     rotate_left
     · ((try dsimp only at hSw); go_simp; try with_reducible rfl)
     try simp only [p7]
     refine wpAnyH_take (i := 4) (v := ?_) rfl (by kernel_rfl) (by kernel_rfl) (by kernel_rfl) (fun _ _ _ h => h) (Or.inl ⟨by rfl, fun wq hSw => ?_⟩) hHeld ?_
     rotate_left
     · (have f2 := (cell_of_heap (hSw (bb) (by omega) (by omega)) oo).trans hc41; go_simp; try with_reducible rfl)
     try simp only [p7]
     refine wpAnyH_take (i := 9) (v := ?_) rfl (by kernel_rfl) (by kernel_rfl) (by kernel_rfl) (fun _ _ _ h => h) (Or.inl ⟨by rfl, fun wq hSw => ?_⟩) hHeld ?_
     rotate_left
     · ((try dsimp only at hSw); go_simp; try with_reducible rfl)
     try simp only [p7]
     refine wpAnyH_take (i := 10) (v := ?_) rfl (by kernel_rfl) (by kernel_rfl) (by kernel_rfl) (fun _ _ _ h => h) (Or.inl ⟨by rfl, fun wq hSw => ?_⟩) hHeld ?_
     rotate_left
     · (have f1 := (cell_of_heap (hSw (w.heap.size) hsl (by omega)) 1).trans (zs1 1); go_simp; try with_reducible rfl)
     try simp only [p7]
     refine wpAnyH_take (i := 11) (v := ?_) rfl (by kernel_rfl) (by kernel_rfl) (by kernel_rfl) (fun _ _ _ h => h) (Or.inl ⟨by rfl, fun wq hSw => ?_⟩) hHeld ?_
     rotate_left
     · ((try dsimp only at hSw); go_simp; try with_reducible rfl)
     try simp only [p7]
     refine r1 5 fun K hK => ?_
     go_simp
     go_at_call 84
     refine (HSB5.out _ HB3d.out).mono ?_
     rintro en w4 ⟨hb4, A6, n6, c6, rfl, ht6⟩
     have HB4 := bto HB3d hb4
     clear hb4 ht6
     go_wp2_with fail
     refine hK.out _ _ (by exact fun q h1 _ => HB4.out.block q h1) fun hHeld => ?_
     clear hK K
     try simp only [p7]
     refine wpAnyH_take (i := 6) (v := ?_) rfl (by kernel_rfl) (by kernel_rfl) (by kernel_rfl) (fun _ _ _ h => h) (Or.inl ⟨by rfl, fun wq hSw => ?_⟩) hHeld ?_
     rotate_left
     · ((try dsimp only at hSw); go_simp; try with_reducible rfl)
     try simp only [p7]
     refine wpAnyH_take (i := 7) (v := ?_) rfl (by kernel_rfl) (by kernel_rfl) (by kernel_rfl) (fun _ _ _ h => h) (Or.inl ⟨by rfl, fun wq hSw => ?_⟩) hHeld ?_
     rotate_left
     · ((try dsimp only at hSw); go_simp; try with_reducible rfl)
     try simp only [p7]
     refine r1 8 fun K hK => ?_
     go_simp
     go_at_call 55
     refine (cmust_er (by decide)).mono ?_
     rintro en wm ⟨rfl, rfl⟩
     go_wp2_with fail
     exact ⟨rfl, HB1.out.trans (HB4.out.mono HB1.out.size), .inr ⟨HRN.out, rfl⟩⟩
   have HH0 := hid h0
   have HRY : Hid (res = ontoF sx.1 (s.2.drop 1)) := hid (by rw [HRB.out, if_pos h0])
   rw [h0] at HSB5
   clear h0
   refine wp_region_held_drew (S := (fun w' => ∀ q, q < w1.heap.size → q ≠ w.heap.size + 1 → w'.heap[q]? = w1.heap[q]?)) (by kernel_rfl) ?_ (fun hHeld => ?_)
   · (try dsimp only); exact fun q h1 _ => HB3.out.block q h1
   have HB3d : Hid (Below w1.heap.size w1 w3.drew) := hid (below_drewN HB3.out 1)
   generalize w3.drew = W3 at *
   refine wpAnyH_take (i := 0) (v := ?_) rfl (by kernel_rfl) (by kernel_rfl) (by kernel_rfl) (fun _ _ _ h => h) (Or.inl ⟨by rfl, fun wq hSw => ?_⟩) hHeld ?_
   rotate_left
   · ((try dsimp only at hSw); go_simp; try with_reducible rfl)
   try simp only [p7]
   refine wpAnyH_take (i := 1) (v := ?_) rfl (by kernel_rfl) (by kernel_rfl) (by kernel_rfl) (fun _ _ _ h => h) (Or.inl ⟨by rfl, fun wq hSw => ?_⟩) hHeld ?_
   rotate_left
   · ((try dsimp only at hSw); go_simp; try with_reducible rfl)
   try simp only [p7]
   refine wpAnyH_take (i := 2) (v := ?_) rfl (by kernel_rfl) (by kernel_rfl) (by kernel_rfl) (fun _ _ _ h => h) (Or.inl ⟨by rfl, fun wq hSw => ?_⟩) hHeld ?_
   rotate_left
   · (have f1 := (cell_of_heap (hSw (w.heap.size) hsl (by omega)) 1).trans (zs1 1); go_simp; try with_reducible rfl)
   try simp only [p7]
   refine wpAnyH_take (i := 3) (v := ?_) rfl (by kernel_rfl) (by kernel_rfl) (by kernel_rfl) (fun _ _ _ h => h) (Or.inl ⟨by rfl, fun wq hSw => ?_⟩) hHeld ?_
   rotate_left
   · ((try dsimp only at hSw); go_simp; try with_reducible rfl)
   try simp only [p7]
   refine wpAnyH_take (i := 4) (v := ?_) rfl (by kernel_rfl) (by kernel_rfl) (by kernel_rfl) (fun _ _ _ h => h) (Or.inl ⟨by rfl, fun wq hSw => ?_⟩) hHeld ?_
   rotate_left
   · (have f2 := (cell_of_heap (hSw (bb) (by omega) (by omega)) oo).trans hc41; go_simp; try with_reducible rfl)
   try simp only [p7]
   refine wpAnyH_take (i := 9) (v := ?_) rfl (by kernel_rfl) (by kernel_rfl) (by kernel_rfl) (fun _ _ _ h => h) (Or.inl ⟨by rfl, fun wq hSw => ?_⟩) hHeld ?_
   rotate_left
   · ((try dsimp only at hSw); go_simp; try with_reducible rfl)
   try simp only [p7]
   refine wpAnyH_take (i := 10) (v := ?_) rfl (by kernel_rfl) (by kernel_rfl) (by kernel_rfl) (fun _ _ _ h => h) (Or.inl ⟨by rfl, fun wq hSw => ?_⟩) hHeld ?_
   rotate_left
   · (have f1 := (cell_of_heap (hSw (w.heap.size) hsl (by omega)) 1).trans (zs1 1); go_simp; try with_reducible rfl)
   try simp only [p7]
   refine wpAnyH_take (i := 11) (v := ?_) rfl (by kernel_rfl) (by kernel_rfl) (by kernel_rfl) (fun _ _ _ h => h) (Or.inl ⟨by rfl, fun wq hSw => ?_⟩) hHeld ?_
   rotate_left
   · ((try dsimp only at hSw); go_simp; try with_reducible rfl)
   try simp only [p7]
   refine r1 5 fun K hK => ?_
   go_simp
   go_at_call 84
   refine (HSB5.out _ HB3d.out).mono ?_
   rintro en w4 ⟨hb4, A6, n6, c6, rfl, ht6⟩
   have HB4 := bto HB3d hb4
   have HT6 : Hid (TermV w4 A6 n6 c6 (rowT sx.1)) := hid (by first | exact ht6 rfl | exact ht6 trivial | exact ht6 HH0.out)
   clear hb4 ht6
   go_wp2_with fail
   refine hK.out _ _ (by exact fun q h1 _ => HB4.out.block q h1) fun hHeld => ?_
   clear hK K
   try simp only [p7]
   refine wpAnyH_take (i := 6) (v := ?_) rfl (by kernel_rfl) (by kernel_rfl) (by kernel_rfl) (fun _ _ _ h => h) (Or.inl ⟨by rfl, fun wq hSw => ?_⟩) hHeld ?_
   rotate_left
   · ((try dsimp only at hSw); go_simp; try with_reducible rfl)
   try simp only [p7]
   refine wpAnyH_take (i := 7) (v := ?_) rfl (by kernel_rfl) (by kernel_rfl) (by kernel_rfl) (fun _ _ _ h => h) (Or.inl ⟨by rfl, fun wq hSw => ?_⟩) hHeld ?_
   rotate_left
   · ((try dsimp only at hSw); go_simp; try with_reducible rfl)
   try simp only [p7]
   refine r1 8 fun K hK => ?_
   go_simp
   go_at_call 55
   refine cmust_ok.mono ?_
   rintro en wm ⟨rfl, rfl⟩
   go_wp2_with fail
   refine hK.out _ _ (by exact fun q h1 _ => HB4.out.block q h1) fun hHeld => ?_
   clear hK K
   try simp only [p7]
   refine r1 12 fun K hK => ?_
   go_simp
   go_at_call 83
   refine (HON1.out _ HB4.out sx.1 A6 n6 c6 HT6.out (HSF.out HH0.out)).mono ?_
   rintro en w5 ⟨hb5, h5⟩
   have HB5 := bto HB4 hb5
   clear hb5
   rcases h5 with ⟨f9, hf9, A5, n5, c5, B5, m5, d5', rfl, hfo⟩ | ⟨hn, rfl⟩
   rotate_left
   · have HN := hid hn
     clear hn
     go_wp2_with fail
     exact ⟨rfl, HB1.out.trans (HB5.out.mono HB1.out.size), .inr ⟨by rw [HRY.out]; exact HN.out, rfl⟩⟩
   have HFO := hid hfo
   have HF9 := hid hf9
   have HLO : Hid (w1.heap.size ≤ wm.heap.size) := hid HB4.out.size
   have HZ5 := hid (HZR.out.below HB5.out hrl)
   have z5 := HZ5.out.cell
   have fz5 := HZ5.out.frozen
   have hlt5 : w.heap.size + 1 < w5.heap.size := HZ5.out.lt
   clear hfo hf9
   go_wp2_with fail
   refine hK.out _ _ (by exact fun q h1 _ => HB5.out.block q h1) fun hHeld => ?_
   clear hK K
   try simp only [p7]
   refine r1 13 fun K hK => ?_
   go_simp
   refine hK.out _ _ (by exact fun q h1 h2 => (Below.heap_setCell _ ⟨w.heap.size + 1, 1, none⟩ _ q h2).trans ((Below.heap_setCell _ ⟨w.heap.size + 1, 0, none⟩ _ q h2).trans (HB5.out.block q h1))) fun hHeld => ?_
   clear hK K
   try simp only [p7]
   refine wpAnyH_done (by kernel_rfl) ?_ _
   go_wp2_with fail
   refine bodyPost_ret (v := .agg #[.slice A5 n5 c5, .slice B5 m5 d5']) (results_own (g := w.heap.size + 1) (by have := (HZ5.out.set_ 0 (.slice A5 n5 c5)).set_ 1 (.slice B5 m5 d5'); simpa using this) (by simp)) rfl (own_end HB1.out HW1S.out HB5.out HFO.out HLO.out (by rw [HRY.out]; exact HF9.out))
 by_cases o7 : so = 7
 · have h7 := HSO.out.symm.trans o7
   obtain ⟨p, q, r, hk⟩ := kids_three HFS.out.head.okt h7
   obtain ⟨e1, e2, he1, he2, h1e, h12, h2n, hq, hr'⟩ := three_pieces HFS.out.head.rt h7 hk
   have hln : (rowT s.1).length = n := HS.out.1.len
   rw [hln] at h2n
   have hcap := HS.out.1.cap
   have HRB : Hid (res = if (subTT r q).2 = 0 then ontoF (subTT r q).1 s.2 else none) := hid (by rw [HRES.out]; unfold ownF; rw [← HSO.out, if_neg o5, if_pos o7, kidN_at (i := 2) (y := r) (by rw [hk]; rfl), kidN_at (i := 1) (y := q) (by rw [hk]; rfl)])
   have HFR : Hid (FitT b ((cv.length : Int) + 1) r) := hid (by
    have := HFS.out.head.kid (i := 2) (y := r) (by rw [hk]; rfl)
    rwa [show aroundI s.1.1.op s.1.1.b ((2 : Nat) : Int) = 1 from by rw [h7]; simp [aroundI]] at this)
   have HFA : Hid (FitT b (cv.length : Int) q) := hid (HFS.out.head.kid0 (i := 1) (by rw [hk]; rfl) (by rw [h7]; simp [aroundI]))
   have HE1 := hid (fun (W : World) (hB : Below w1.heap.size w1 W) => end_any (HS.out.below hB).head 1)
   have HE2 := hid (fun (W : World) (hB : Below w1.heap.size w1 W) => end_any (HS.out.below hB).head (e1 : Int))
   rw [he1] at HE1
   rw [he2] at HE2
   obtain ⟨Am, hm, hmr⟩ := cut_mid (some ⟨bs, os, none⟩) n c e1 e2 h12 h2n hcap
   obtain ⟨Af, hf_, hfr⟩ := cut_from (some ⟨bs, os, none⟩) n c e2 h2n
   have HQ := hid (fun (W : World) (hB : Below w1.heap.size w1 W) => hmr _ _ _ (HS.out.below hB).head)
   have HRR := hid (fun (W : World) (hB : Below w1.heap.size w1 W) => hfr _ _ _ (HS.out.below hB).head)
   rw [hq] at HQ
   rw [hr'] at HRR
   have h12' : (e1 : Int) ≤ (e2 : Int) := by omega
   have HSB5 := hid (fun (W : World) (hB : Below w1.heap.size w1 W) => csub_any (by omega) (by have := HCL.out; omega) HFR.out HFA.out (HRR.out W hB) (HQ.out W hB))
   have HSF := hid (fun h9 => (sub_rowG (by omega) (by have := HCL.out; omega) HFR.out HFA.out).2.2 h9)
   have HCODE : Hid ((subTT r q).2 ≠ 0 → (subTT r q).2 = 9) := hid subTT_code
   unfold SubP at HSB5
   generalize subTT r q = sx at *
   subst o7
   clear he1 he2 h1e hq hr' hmr hfr hk h7 hcap hln o5
   go_wp2_with fail
   refine (HE1.out _ (Below.refl _ _)).mono ?_
   rintro en w2 ⟨rfl, hb2⟩
   have HB2 := hid hb2
   have zs2 := fun i => (hb2.cell (p := ⟨w.heap.size, i, none⟩) hsl).trans (zs1 i)
   clear hb2
   go_wp2_with fail
   refine (HE2.out _ HB2.out).mono ?_
   rintro en w3 ⟨rfl, hb3⟩
   have HB3 := bto HB2 hb3
   clear hb3 zs2
   go_upto_region 9 with fail
   by_cases h0 : sx.2 = 0
   rotate_left
   · have HH0 := hid h0
     have HRN : Hid (res = none) := hid (by rw [HRB.out, if_neg h0])
     rw [HCODE.out h0] at HSB5
     clear h0
     refine wp_region_held_drew (S := (fun w' => ∀ q, q < w1.heap.size → q ≠ w.heap.size + 1 → w'.heap[q]? = w1.heap[q]?)) (by kernel_rfl) ?_ (fun hHeld => ?_)
     · (try dsimp only); exact fun q h1 _ => HB3.out.block q h1
     have HB3d : Hid (Below w1.heap.size w1 w3.drew) := hid (below_drewN HB3.out 1)
     generalize w3.drew = W3 at *
     refine wpAnyH_take (i := 0) (v := ?_) rfl (by kernel_rfl) (by kernel_rfl) (by kernel_rfl) (fun _ _ _ h => h) (Or.inl ⟨by rfl, fun wq hSw => ?_⟩) hHeld ?_
     rotate_left
     · ((try dsimp only at hSw); go_simp; try with_reducible rfl)
     try simp only [p7]
     refine wpAnyH_take (i := 1) (v := ?_) rfl (by kernel_rfl) (by kernel_rfl) (by kernel_rfl) (fun _ _ _ h => h) (Or.inl ⟨by rfl, fun wq hSw => ?_⟩) hHeld ?_
     rotate_left
     · (have f0 := (cell_of_heap (hSw (w.heap.size) hsl (by omega)) 0).trans (zs1 0); go_simp; try with_reducible rfl)
     try simp only [p7]
     refine wpAnyH_take (i := 2) (v := ?_) rfl (by kernel_rfl) (by kernel_rfl) (by kernel_rfl) (fun _ _ _ h => h) (Or.inl ⟨by rfl, fun wq hSw => ?_⟩) hHeld ?_
     rotate_left
     · ((try dsimp only at hSw); go_simp; try with_reducible rfl)
     try simp only [p7]
     refine wpAnyH_take (i := 3) (v := ?_) rfl (by kernel_rfl) (by kernel_rfl) (by kernel_rfl) (fun _ _ _ h => h) (Or.inl ⟨by rfl, fun wq hSw => ?_⟩) hHeld ?_
     rotate_left
     · ((try dsimp only at hSw); go_simp; try with_reducible rfl)
     try simp only [p7]
     refine wpAnyH_take (i := 4) (v := ?_) rfl (by kernel_rfl) (by kernel_rfl) (by kernel_rfl) (fun _ _ _ h => h) (Or.inl ⟨by rfl, fun wq hSw => ?_⟩) hHeld ?_
     rotate_left
     · ((try dsimp only at hSw); go_simp; try with_reducible rfl)
     try simp only [p7]
     refine wpAnyH_take (i := 5) (v := ?_) rfl (by kernel_rfl) (by kernel_rfl) (by kernel_rfl) (fun _ _ _ h => h) (Or.inl ⟨by rfl, fun wq hSw => ?_⟩) hHeld ?_
     rotate_left
     · (have f0 := (cell_of_heap (hSw (w.heap.size) hsl (by omega)) 0).trans (zs1 0); go_simp; try with_reducible rfl)
     try simp only [p7]
     refine wpAnyH_take (i := 6) (v := ?_) rfl (by kernel_rfl) (by kernel_rfl) (by kernel_rfl) (fun _ _ _ h => h) (Or.inl ⟨by rfl, fun wq hSw => ?_⟩) hHeld ?_
     rotate_left
     · ((try dsimp only at hSw); go_simp; try with_reducible rfl)
     try simp only [p7]
     refine wpAnyH_take (i := 7) (v := ?_) rfl (by kernel_rfl) (by kernel_rfl) (by kernel_rfl) (fun _ _ _ h => h) (Or.inl ⟨by rfl, fun wq hSw => ?_⟩) hHeld ?_
     rotate_left
     · ((try dsimp only at hSw); go_simp; try with_reducible rfl)
     try simp only [p7]
     refine wpAnyH_take (i := 8) (v := ?_) rfl (by kernel_rfl) (by kernel_rfl) (by kernel_rfl) (fun _ _ _ h => h) (Or.inl ⟨by rfl, fun wq hSw => ?_⟩) hHeld ?_
     rotate_left
     · ((try dsimp only at hSw); go_simp; try with_reducible rfl)
     try simp only [p7]
     refine wpAnyH_take (i := 13) (v := ?_) rfl (by kernel_rfl) (by kernel_rfl) (by kernel_rfl) (fun _ _ _ h => h) (Or.inl ⟨by rfl, fun wq hSw => ?_⟩) hHeld ?_
     rotate_left
     · ((try dsimp only at hSw); go_simp; try with_reducible rfl)
     try simp only [p7]
     refine wpAnyH_take (i := 14) (v := ?_) rfl (by kernel_rfl) (by kernel_rfl) (by kernel_rfl) (fun _ _ _ h => h) (Or.inl ⟨by rfl, fun wq hSw => ?_⟩) hHeld ?_
     rotate_left
     · (have f1 := (cell_of_heap (hSw (w.heap.size) hsl (by omega)) 1).trans (zs1 1); go_simp; try with_reducible rfl)
     try simp only [p7]
     refine r1 9 fun K hK => ?_
     go_simp
     go_at_call 84
     refine (HSB5.out _ HB3d.out).mono ?_
     rintro en w4 ⟨hb4, A6, n6, c6, rfl, ht6⟩
     have HB4 := bto HB3d hb4
     clear hb4 ht6
     go_wp2_with fail
     refine hK.out _ _ (by exact fun q h1 _ => HB4.out.block q h1) fun hHeld => ?_
     clear hK K
     try simp only [p7]
     refine wpAnyH_take (i := 10) (v := ?_) rfl (by kernel_rfl) (by kernel_rfl) (by kernel_rfl) (fun _ _ _ h => h) (Or.inl ⟨by rfl, fun wq hSw => ?_⟩) hHeld ?_
     rotate_left
     · ((try dsimp only at hSw); go_simp; try with_reducible rfl)
     try simp only [p7]
     refine wpAnyH_take (i := 11) (v := ?_) rfl (by kernel_rfl) (by kernel_rfl) (by kernel_rfl) (fun _ _ _ h => h) (Or.inl ⟨by rfl, fun wq hSw => ?_⟩) hHeld ?_
     rotate_left
     · ((try dsimp only at hSw); go_simp; try with_reducible rfl)
     try simp only [p7]
     refine r1 12 fun K hK => ?_
     go_simp
     go_at_call 55
     refine (cmust_er (by decide)).mono ?_
     rintro en wm ⟨rfl, rfl⟩
     go_wp2_with fail
     exact ⟨rfl, HB1.out.trans (HB4.out.mono HB1.out.size), .inr ⟨HRN.out, rfl⟩⟩
   have HH0 := hid h0
   have HRY : Hid (res = ontoF sx.1 s.2) := hid (by rw [HRB.out, if_pos h0])
   rw [h0] at HSB5
   clear h0
   refine wp_region_held_drew (S := (fun w' => ∀ q, q < w1.heap.size → q ≠ w.heap.size + 1 → w'.heap[q]? = w1.heap[q]?)) (by kernel_rfl) ?_ (fun hHeld => ?_)
   · (try dsimp only); exact fun q h1 _ => HB3.out.block q h1
   have HB3d : Hid (Below w1.heap.size w1 w3.drew) := hid (below_drewN HB3.out 1)
   generalize w3.drew = W3 at *
   refine wpAnyH_take (i := 0) (v := ?_) rfl (by kernel_rfl) (by kernel_rfl) (by kernel_rfl) (fun _ _ _ h => h) (Or.inl ⟨by rfl, fun wq hSw => ?_⟩) hHeld ?_
   rotate_left
   · ((try dsimp only at hSw); go_simp; try with_reducible rfl)
   try simp only [p7]
   refine wpAnyH_take (i := 1) (v := ?_) rfl (by kernel_rfl) (by kernel_rfl) (by kernel_rfl) (fun _ _ _ h => h) (Or.inl ⟨by rfl, fun wq hSw => ?_⟩) hHeld ?_
   rotate_left
   · (have f0 := (cell_of_heap (hSw (w.heap.size) hsl (by omega)) 0).trans (zs1 0); go_simp; try with_reducible rfl)
   try simp only [p7]
   refine wpAnyH_take (i := 2) (v := ?_) rfl (by kernel_rfl) (by kernel_rfl) (by kernel_rfl) (fun _ _ _ h => h) (Or.inl ⟨by rfl, fun wq hSw => ?_⟩) hHeld ?_
   rotate_left
   · ((try dsimp only at hSw); go_simp; try with_reducible rfl)
   try simp only [p7]
   refine wpAnyH_take (i := 3) (v := ?_) rfl (by kernel_rfl) (by kernel_rfl) (by kernel_rfl) (fun _ _ _ h => h) (Or.inl ⟨by rfl, fun wq hSw => ?_⟩) hHeld ?_
   rotate_left
   · ((try dsimp only at hSw); go_simp; try with_reducible rfl)
   try simp only [p7]
   refine wpAnyH_take (i := 4) (v := ?_) rfl (by kernel_rfl) (by kernel_rfl) (by kernel_rfl) (fun _ _ _ h => h) (Or.inl ⟨by rfl, fun wq hSw => ?_⟩) hHeld ?_
   rotate_left
   · ((try dsimp only at hSw); go_simp; try with_reducible rfl)
   try simp only [p7]
   refine wpAnyH_take (i := 5) (v := ?_) rfl (by kernel_rfl) (by kernel_rfl) (by kernel_rfl) (fun _ _ _ h => h) (Or.inl ⟨by rfl, fun wq hSw => ?_⟩) hHeld ?_
   rotate_left
   · (have f0 := (cell_of_heap (hSw (w.heap.size) hsl (by omega)) 0).trans (zs1 0); go_simp; try with_reducible rfl)
   try simp only [p7]
   refine wpAnyH_take (i := 6) (v := ?_) rfl (by kernel_rfl) (by kernel_rfl) (by kernel_rfl) (fun _ _ _ h => h) (Or.inl ⟨by rfl, fun wq hSw => ?_⟩) hHeld ?_
   rotate_left
   · ((try dsimp only at hSw); go_simp; try with_reducible rfl)
   try simp only [p7]
   refine wpAnyH_take (i := 7) (v := ?_) rfl (by kernel_rfl) (by kernel_rfl) (by kernel_rfl) (fun _ _ _ h => h) (Or.inl ⟨by rfl, fun wq hSw => ?_⟩) hHeld ?_
   rotate_left
   · ((try dsimp only at hSw); go_simp; try with_reducible rfl)
   try simp only [p7]
   refine wpAnyH_take (i := 8) (v := ?_) rfl (by kernel_rfl) (by kernel_rfl) (by kernel_rfl) (fun _ _ _ h => h) (Or.inl ⟨by rfl, fun wq hSw => ?_⟩) hHeld ?_
   rotate_left
   · ((try dsimp only at hSw); go_simp; try with_reducible rfl)
   try simp only [p7]
   refine wpAnyH_take (i := 13) (v := ?_) rfl (by kernel_rfl) (by kernel_rfl) (by kernel_rfl) (fun _ _ _ h => h) (Or.inl ⟨by rfl, fun wq hSw => ?_⟩) hHeld ?_
   rotate_left
   · ((try dsimp only at hSw); go_simp; try with_reducible rfl)
   try simp only [p7]
   refine wpAnyH_take (i := 14) (v := ?_) rfl (by kernel_rfl) (by kernel_rfl) (by kernel_rfl) (fun _ _ _ h => h) (Or.inl ⟨by rfl, fun wq hSw => ?_⟩) hHeld ?_
   rotate_left
   · (have f1 := (cell_of_heap (hSw (w.heap.size) hsl (by omega)) 1).trans (zs1 1); go_simp; try with_reducible rfl)
   try simp only [p7]
   refine r1 9 fun K hK => ?_
   go_simp
   go_at_call 84
   refine (HSB5.out _ HB3d.out).mono ?_
   rintro en w4 ⟨hb4, A6, n6, c6, rfl, ht6⟩
   have HB4 := bto HB3d hb4
   have HT6 : Hid (TermV w4 A6 n6 c6 (rowT sx.1)) := hid (by first | exact ht6 rfl | exact ht6 trivial | exact ht6 HH0.out)
   clear hb4 ht6
   go_wp2_with fail
   refine hK.out _ _ (by exact fun q h1 _ => HB4.out.block q h1) fun hHeld => ?_
   clear hK K
   try simp only [p7]
   refine wpAnyH_take (i := 10) (v := ?_) rfl (by kernel_rfl) (by kernel_rfl) (by kernel_rfl) (fun _ _ _ h => h) (Or.inl ⟨by rfl, fun wq hSw => ?_⟩) hHeld ?_
   rotate_left
   · ((try dsimp only at hSw); go_simp; try with_reducible rfl)
   try simp only [p7]
   refine wpAnyH_take (i := 11) (v := ?_) rfl (by kernel_rfl) (by kernel_rfl) (by kernel_rfl) (fun _ _ _ h => h) (Or.inl ⟨by rfl, fun wq hSw => ?_⟩) hHeld ?_
   rotate_left
   · ((try dsimp only at hSw); go_simp; try with_reducible rfl)
   try simp only [p7]
   refine r1 12 fun K hK => ?_
   go_simp
   go_at_call 55
   refine cmust_ok.mono ?_
   rintro en wm ⟨rfl, rfl⟩
   go_wp2_with fail
   refine hK.out _ _ (by exact fun q h1 _ => HB4.out.block q h1) fun hHeld => ?_
   clear hK K
   try simp only [p7]
   refine r1 15 fun K hK => ?_
   go_simp
   go_at_call 83
   refine (HON.out _ HB4.out sx.1 A6 n6 c6 HT6.out (HSF.out HH0.out)).mono ?_
   rintro en w5 ⟨hb5, h5⟩
   have HB5 := bto HB4 hb5
   clear hb5
   rcases h5 with ⟨f9, hf9, A5, n5, c5, B5, m5, d5', rfl, hfo⟩ | ⟨hn, rfl⟩
   rotate_left
   · have HN := hid hn
     clear hn
     go_wp2_with fail
     exact ⟨rfl, HB1.out.trans (HB5.out.mono HB1.out.size), .inr ⟨by rw [HRY.out]; exact HN.out, rfl⟩⟩
   have HFO := hid hfo
   have HF9 := hid hf9
   have HLO : Hid (w1.heap.size ≤ wm.heap.size) := hid HB4.out.size
   have HZ5 := hid (HZR.out.below HB5.out hrl)
   have z5 := HZ5.out.cell
   have fz5 := HZ5.out.frozen
   have hlt5 : w.heap.size + 1 < w5.heap.size := HZ5.out.lt
   clear hfo hf9
   go_wp2_with fail
   refine hK.out _ _ (by exact fun q h1 _ => HB5.out.block q h1) fun hHeld => ?_
   clear hK K
   try simp only [p7]
   refine r1 16 fun K hK => ?_
   go_simp
   refine hK.out _ _ (by exact fun q h1 h2 => (Below.heap_setCell _ ⟨w.heap.size + 1, 1, none⟩ _ q h2).trans ((Below.heap_setCell _ ⟨w.heap.size + 1, 0, none⟩ _ q h2).trans (HB5.out.block q h1))) fun hHeld => ?_
   clear hK K
   try simp only [p7]
   refine wpAnyH_done (by kernel_rfl) ?_ _
   go_wp2_with fail
   refine bodyPost_ret (v := .agg #[.slice A5 n5 c5, .slice B5 m5 d5']) (results_own (g := w.heap.size + 1) (by have := (HZ5.out.set_ 0 (.slice A5 n5 c5)).set_ 1 (.slice B5 m5 d5'); simpa using this) (by simp)) rfl (own_end HB1.out HW1S.out HB5.out HFO.out HLO.out (by rw [HRY.out]; exact HF9.out))
 by_cases o1 : so = 1
 · have h1 := HSO.out.symm.trans o1
   obtain ⟨va0, va1, va2⟩ := var_val HFS.out.head h1
   rw [← HSA.out] at va0 va1 va2
   have hvp : 0 < (valAt cv sa).length := by
    have h9 := HRD.out
    unfold readyF at h9
    rw [← HSO.out, if_neg o5, if_neg (by omega), if_pos o1, ← HSA.out] at h9
    exact of_decide_eq_true h9
   obtain ⟨y, hy1, hy2, hy3, hy4, hy5⟩ := val_fit HC.out va0 va1 hvp
   have HRY : Hid (res = ontoF (upT y (sa + 1)) s.2) := hid (by rw [HRES.out]; unfold ownF; rw [← HSO.out, if_neg o5, if_neg o7, if_pos o1, ← HSA.out, hy2])
   obtain ⟨ia, hia⟩ : ∃ ia : Nat, sa = (ia : Int) := ⟨sa.toNat, by omega⟩
   have hcl := HWW.out.ctx.len
   have hcf := HWW.out.ctx.few
   obtain ⟨bc, oc, ec, hbc, hmc⟩ := HWW.out.ctx.mem (by omega)
   obtain ⟨ik, hik⟩ : ∃ ik, ik = cn - 1 - ia := ⟨_, rfl⟩
   obtain ⟨A1, n1, c1, A2, n2, c2, k1, k2, kt⟩ := hmc ik (by omega)
   have hvl : cv.getD ik [] = rowT y := by
    rw [← hy1]
    unfold valAt
    rw [hcl, hia, show ((ia : Int)).toNat = ia from by omega, ← hik]
   rw [hvl] at kt
   have hbcl : bc < w.heap.size := hbc.1
   have k11 := (HB1.out.cell (p := ⟨bc, oc + ik * 2, none⟩) hbcl).trans k1
   have k21 := (HB1.out.cell (p := ⟨bc, oc + ik * 2 + 1, none⟩) hbcl).trans k2
   have HKT := hid (fun (W : World) (hB : Below w1.heap.size w1 W) => (TermR.keep kt (R' := (· < W.heap.size)) (w' := W) fun q hq => ⟨by have := HB1.out.size; have := hB.size; omega, fun o => ((HB1.out.trans (hB.mono HB1.out.size))).cell (p := ⟨q, o, none⟩) hq.1⟩))
   have HLF := hid (fun (W : World) (hB : Below w1.heap.size w1 W) => liftC_any (HKT.out W hB) (sa + 1) 0 (by omega))
   rw [hy5] at HLF
   have HFY : Hid (FitT b (cv.length : Int) (upT y (sa + 1))) := hid hy4
   have HZG : Hid (∀ i : Nat, w1.cell? ⟨g, i, none⟩ = (#[.int .i64 b.vars, .slice v.Ao v.no v.co, .slice v.Ae v.ne v.ce, .int .i64 b.nat, .slice v.Ap v.np v.cp, .slice cA cn cc, .int .i64 (f : Int)])[i]?) := hid zg
   have w1' : IntKind.i64.wrap ((cn : Int) - 1) = (cn : Int) - 1 := by rw [IntKind.wrap_i64]; omega
   have w2' : IntKind.i64.wrap ((cn : Int) - 1 - (ia : Int)) = (ik : Int) := by rw [IntKind.wrap_i64]; omega
   have w3' : IntKind.i64.wrap ((ia : Int) + 1) = (ia : Int) + 1 := by rw [IntKind.wrap_i64]; omega
   have hik2 : (ik : Int) < (cn : Int) := by omega
   have hik3 : (0 : Int) ≤ (ik : Int) := by omega
   have hg5 : w1.cell? ⟨g, 5, none⟩ = some (.slice (some ⟨bc, oc, none⟩) cn cc) := by rw [zg, ec]; rfl
   rw [hia] at HLF HFY HRY
   rw [hia] at zn1
   have hsz2 := HB1.out.size
   generalize upT y ((ia : Int) + 1) = yu at *
   subst o1
   clear hvl hmc kt va0 va1 va2 hik hvp hy1 hy2 hy3 hy4 hy5 h1 hbc k1 k2 HZG o5 o7
   go_upto_region 11 with fail
   refine wp_region_held_drew (S := (fun w' => ∀ q, q < w1.heap.size → q ≠ w.heap.size + 1 → w'.heap[q]? = w1.heap[q]?)) (by kernel_rfl) ?_ (fun hHeld => ?_)
   · (try dsimp only); exact fun q _ _ => rfl
   have HBD : Hid (Below w1.heap.size w1 w1.drew) := hid (below_drewN (Below.refl _ _) 1)
   generalize w1.drew = W1 at *
   refine wpAnyH_take (i := 0) (v := ?_) rfl (by kernel_rfl) (by kernel_rfl) (by kernel_rfl) (fun _ _ _ h => h) (Or.inl ⟨by rfl, fun wq hSw => ?_⟩) hHeld ?_
   rotate_left
   · ((try dsimp only at hSw); go_simp; try with_reducible rfl)
   try simp only [p7]
   refine wpAnyH_take (i := 1) (v := ?_) rfl (by kernel_rfl) (by kernel_rfl) (by kernel_rfl) (fun _ _ _ h => h) (Or.inl ⟨by rfl, fun wq hSw => ?_⟩) hHeld ?_
   rotate_left
   · ((try dsimp only at hSw); go_simp; try with_reducible rfl)
   try simp only [p7]
   refine wpAnyH_take (i := 2) (v := ?_) rfl (by kernel_rfl) (by kernel_rfl) (by kernel_rfl) (fun _ _ _ h => h) (Or.inl ⟨by rfl, fun wq hSw => ?_⟩) hHeld ?_
   rotate_left
   · ((try dsimp only at hSw); go_simp; try with_reducible rfl)
   try simp only [p7]
   refine wpAnyH_take (i := 3) (v := ?_) rfl (by kernel_rfl) (by kernel_rfl) (by kernel_rfl) (fun _ _ _ h => h) (Or.inl ⟨by rfl, fun wq hSw => ?_⟩) hHeld ?_
   rotate_left
   · (have f3 := (cell_of_heap (hSw (g) hgl (by omega)) 5).trans hg5; go_simp; try with_reducible rfl)
   try simp only [p7]
   refine wpAnyH_take (i := 4) (v := ?_) rfl (by kernel_rfl) (by kernel_rfl) (by kernel_rfl) (fun _ _ _ h => h) (Or.inl ⟨by rfl, fun wq hSw => ?_⟩) hHeld ?_
   rotate_left
   · ((try dsimp only at hSw); go_simp; try with_reducible rfl)
   try simp only [p7]
   refine wpAnyH_take (i := 5) (v := ?_) rfl (by kernel_rfl) (by kernel_rfl) (by kernel_rfl) (fun _ _ _ h => h) (Or.inl ⟨by rfl, fun wq hSw => ?_⟩) hHeld ?_
   rotate_left
   · ((try dsimp only at hSw); go_simp; try with_reducible rfl)
   try simp only [p7]
   refine wpAnyH_take (i := 6) (v := ?_) rfl (by kernel_rfl) (by kernel_rfl) (by kernel_rfl) (fun _ _ _ h => h) (Or.inl ⟨by rfl, fun wq hSw => ?_⟩) hHeld ?_
   rotate_left
   · ((try dsimp only at hSw); go_simp; try with_reducible rfl)
   try simp only [p7]
   refine wpAnyH_take (i := 7) (v := ?_) rfl (by kernel_rfl) (by kernel_rfl) (by kernel_rfl) (fun _ _ _ h => h) (Or.inl ⟨by rfl, fun wq hSw => ?_⟩) hHeld ?_
   rotate_left
   · (have f3 := (cell_of_heap (hSw (g) hgl (by omega)) 5).trans hg5; go_simp; try with_reducible rfl)
   try simp only [p7]
   refine wpAnyH_take (i := 8) (v := ?_) rfl (by kernel_rfl) (by kernel_rfl) (by kernel_rfl) (fun _ _ _ h => h) (Or.inl ⟨by rfl, fun wq hSw => ?_⟩) hHeld ?_
   rotate_left
   · ((try dsimp only at hSw); go_simp; try with_reducible rfl)
   try simp only [p7]
   refine wpAnyH_take (i := 9) (v := ?_) rfl (by kernel_rfl) (by kernel_rfl) (by kernel_rfl) (fun _ _ _ h => h) (Or.inl ⟨by rfl, fun wq hSw => ?_⟩) hHeld ?_
   rotate_left
   · ((try dsimp only at hSw); go_simp; try with_reducible rfl)
   try simp only [p7]
   refine wpAnyH_take (i := 10) (v := ?_) rfl (by kernel_rfl) (by kernel_rfl) (by kernel_rfl) (fun _ _ _ h => h) (Or.inl ⟨by rfl, fun wq hSw => ?_⟩) hHeld ?_
   rotate_left
   · ((try dsimp only at hSw); go_simp; try with_reducible rfl)
   try simp only [p7]
   refine wpAnyH_take (i := 11) (v := ?_) rfl (by kernel_rfl) (by kernel_rfl) (by kernel_rfl) (fun _ _ _ h => h) (Or.inl ⟨by rfl, fun wq hSw => ?_⟩) hHeld ?_
   rotate_left
   · (have f4 := (cell_of_heap (hSw ((w.heap.size + 2)) hnl (by omega)) 1).trans (zn1 1); go_simp; try with_reducible rfl)
   try simp only [p7]
   refine wpAnyH_take (i := 12) (v := ?_) rfl (by kernel_rfl) (by kernel_rfl) (by kernel_rfl) (fun _ _ _ h => h) (Or.inl ⟨by rfl, fun wq hSw => ?_⟩) hHeld ?_
   rotate_left
   · ((try dsimp only at hSw); go_simp; try with_reducible rfl)
   try simp only [p7]
   refine wpAnyH_take (i := 13) (v := ?_) rfl (by kernel_rfl) (by kernel_rfl) (by kernel_rfl) (fun _ _ _ h => h) (Or.inl ⟨by rfl, fun wq hSw => ?_⟩) hHeld ?_
   rotate_left
   · ((try dsimp only at hSw); go_simp; try with_reducible rfl)
   try simp only [p7]
   refine wpAnyH_take (i := 14) (v := ?_) rfl (by kernel_rfl) (by kernel_rfl) (by kernel_rfl) (fun _ _ _ h => h) (Or.inl ⟨by rfl, fun wq hSw => ?_⟩) hHeld ?_
   rotate_left
   · ((try dsimp only at hSw); go_simp; try with_reducible rfl)
   try simp only [p7]
   refine wpAnyH_take (i := 15) (v := ?_) rfl (by kernel_rfl) (by kernel_rfl) (by kernel_rfl) (fun _ _ _ h => h) (Or.inl ⟨by rfl, fun wq hSw => ?_⟩) hHeld ?_
   rotate_left
   · (have f5 := (cell_of_heap (hSw (bc) (by omega) (by omega)) (oc + ik * 2 + 1)).trans k21; go_simp; try with_reducible rfl)
   try simp only [p7]
   refine wpAnyH_take (i := 16) (v := ?_) rfl (by kernel_rfl) (by kernel_rfl) (by kernel_rfl) (fun _ _ _ h => h) (Or.inl ⟨by rfl, fun wq hSw => ?_⟩) hHeld ?_
   rotate_left
   · ((try dsimp only at hSw); go_simp; try with_reducible rfl)
   try simp only [p7]
   refine wpAnyH_take (i := 17) (v := ?_) rfl (by kernel_rfl) (by kernel_rfl) (by kernel_rfl) (fun _ _ _ h => h) (Or.inl ⟨by rfl, fun wq hSw => ?_⟩) hHeld ?_
   rotate_left
   · (have f4 := (cell_of_heap (hSw ((w.heap.size + 2)) hnl (by omega)) 1).trans (zn1 1); go_simp; try with_reducible rfl)
   try simp only [p7]
   refine wpAnyH_take (i := 18) (v := ?_) rfl (by kernel_rfl) (by kernel_rfl) (by kernel_rfl) (fun _ _ _ h => h) (Or.inl ⟨by rfl, fun wq hSw => ?_⟩) hHeld ?_
   rotate_left
   · ((try dsimp only at hSw); go_simp; try with_reducible rfl)
   try simp only [p7]
   refine wpAnyH_take (i := 23) (v := ?_) rfl (by kernel_rfl) (by kernel_rfl) (by kernel_rfl) (fun _ _ _ h => h) (Or.inl ⟨by rfl, fun wq hSw => ?_⟩) hHeld ?_
   rotate_left
   · ((try dsimp only at hSw); go_simp; try with_reducible rfl)
   try simp only [p7]
   refine wpAnyH_take (i := 24) (v := ?_) rfl (by kernel_rfl) (by kernel_rfl) (by kernel_rfl) (fun _ _ _ h => h) (Or.inl ⟨by rfl, fun wq hSw => ?_⟩) hHeld ?_
   rotate_left
   · (have f1 := (cell_of_heap (hSw (w.heap.size) hsl (by omega)) 1).trans (zs1 1); go_simp; try with_reducible rfl)
   try simp only [p7]
   refine r1 19 fun K hK => ?_
   go_simp
   go_at_call 85
   refine (HLF.out _ HBD.out).mono ?_
   rintro en w4 ⟨hb4, A6, n6, c6, rfl, ho6⟩
   have HB4 := bto HBD hb4
   have HT6 : Hid (TermV w4 A6 n6 c6 (rowT yu)) := hid (ownN_term ho6 (by have := HFY.out.few; have h9 : (rowT yu).length = szT yu := rfl; first | omega | (simp only; omega)))
   clear hb4 ho6
   go_wp2_with fail
   refine hK.out _ _ (by exact fun q h1 _ => HB4.out.block q h1) fun hHeld => ?_
   clear hK K
   try simp only [p7]
   refine wpAnyH_take (i := 20) (v := ?_) rfl (by kernel_rfl) (by kernel_rfl) (by kernel_rfl) (fun _ _ _ h => h) (Or.inl ⟨by rfl, fun wq hSw => ?_⟩) hHeld ?_
   rotate_left
   · ((try dsimp only at hSw); go_simp; try with_reducible rfl)
   try simp only [p7]
   refine wpAnyH_take (i := 21) (v := ?_) rfl (by kernel_rfl) (by kernel_rfl) (by kernel_rfl) (fun _ _ _ h => h) (Or.inl ⟨by rfl, fun wq hSw => ?_⟩) hHeld ?_
   rotate_left
   · ((try dsimp only at hSw); go_simp; try with_reducible rfl)
   try simp only [p7]
   refine r1 22 fun K hK => ?_
   go_simp
   go_at_call 55
   refine cmust_ok.mono ?_
   rintro en wm ⟨rfl, rfl⟩
   go_wp2_with fail
   refine hK.out _ _ (by exact fun q h1 _ => HB4.out.block q h1) fun hHeld => ?_
   clear hK K
   try simp only [p7]
   refine r1 25 fun K hK => ?_
   go_simp
   go_at_call 83
   refine (HON.out _ HB4.out yu A6 n6 c6 HT6.out HFY.out).mono ?_
   rintro en w5 ⟨hb5, h5⟩
   have HB5 := bto HB4 hb5
   clear hb5
   rcases h5 with ⟨f9, hf9, A5, n5, c5, B5, m5, d5', rfl, hfo⟩ | ⟨hn, rfl⟩
   rotate_left
   · have HN := hid hn
     clear hn
     go_wp2_with fail
     exact ⟨rfl, HB1.out.trans (HB5.out.mono HB1.out.size), .inr ⟨by rw [HRY.out]; exact HN.out, rfl⟩⟩
   have HFO := hid hfo
   have HF9 := hid hf9
   have HLO : Hid (w1.heap.size ≤ wm.heap.size) := hid HB4.out.size
   have HZ5 := hid (HZR.out.below HB5.out hrl)
   have z5 := HZ5.out.cell
   have fz5 := HZ5.out.frozen
   have hlt5 : w.heap.size + 1 < w5.heap.size := HZ5.out.lt
   clear hfo hf9
   go_wp2_with fail
   refine hK.out _ _ (by exact fun q h1 _ => HB5.out.block q h1) fun hHeld => ?_
   clear hK K
   try simp only [p7]
   refine r1 26 fun K hK => ?_
   go_simp
   refine hK.out _ _ (by exact fun q h1 h2 => (Below.heap_setCell _ ⟨w.heap.size + 1, 1, none⟩ _ q h2).trans ((Below.heap_setCell _ ⟨w.heap.size + 1, 0, none⟩ _ q h2).trans (HB5.out.block q h1))) fun hHeld => ?_
   clear hK K
   try simp only [p7]
   refine wpAnyH_done (by kernel_rfl) ?_ _
   go_wp2_with fail
   refine bodyPost_ret (v := .agg #[.slice A5 n5 c5, .slice B5 m5 d5']) (results_own (g := w.heap.size + 1) (by have := (HZ5.out.set_ 0 (.slice A5 n5 c5)).set_ 1 (.slice B5 m5 d5'); simpa using this) (by simp)) rfl (own_end HB1.out HW1S.out HB5.out HFO.out HLO.out (by rw [HRY.out]; exact HF9.out))
 by_cases o8 : so = 8
 · have h8 := HSO.out.symm.trans o8
   obtain ⟨ca0, ca1, cbe, cbf⟩ := const_body HR.out (by omega) HFS.out.head h8
   rw [← HSA.out] at ca0 ca1 cbe cbf
   have HRY : Hid (res = ontoF (treeAt (entB b sa).body) s.2) := hid (by rw [HRES.out]; unfold ownF; rw [← HSO.out, if_neg o5, if_neg o7, if_neg o1, if_pos o8, ← HSA.out])
   obtain ⟨ia, hia⟩ : ∃ ia : Nat, sa = (ia : Int) := ⟨sa.toNat, by omega⟩
   have hel := HBK.out.entries.len
   have hef := HBK.out.entries.few
   have hin : ia < v.ne := by omega
   have hin2 : (ia : Int) < (v.ne : Int) := by omega
   have hin3 : (0 : Int) ≤ (ia : Int) := by omega
   obtain ⟨be, oe, ea, hlb, u, e0, e1, e2, e3, e4, e5, e6, hec⟩ := HBK.out.entries.at_ hin
   have hx : b.entries.getD ia default = entB b sa := by rw [hia]; rfl
   rw [hx] at hec
   have hbel := HWW.out.bel
   have hbew : be < w.heap.size := Nat.lt_of_lt_of_le hlb hbel.size
   have hb01 := hbel.trans (HB1.out.mono hbel.size)
   have x6 := (hb01.cell (p := ⟨be, oe + ia * 7 + 6, none⟩) hlb).trans e6
   have hbd := hec.body
   rw [cbe] at hbd
   have HBT := hid (fun (W : World) (hB : Below w1.heap.size w1 W) => hbd.below (hb01.trans (hB.mono hb01.size)))
   have HFY := hid cbf
   have hg2 : w1.cell? ⟨g, 2, none⟩ = some (.slice (some ⟨be, oe, none⟩) v.ne v.ce) := by rw [zg, ea]; rfl
   rw [hia] at zn1
   have hsz2 := HB1.out.size
   generalize treeAt (entB b sa).body = yu at *
   subst o8
   clear e0 e1 e2 e3 e4 e5 e6 hec hx hbel hb01 hbd cbf cbe ca0 ca1 h8 o5 o7 o1 hel hef hin hia
   go_upto_region 13 with fail
   refine wp_region_held_drew (S := (fun w' => ∀ q, q < w1.heap.size → q ≠ w.heap.size + 1 → w'.heap[q]? = w1.heap[q]?)) (by kernel_rfl) ?_ (fun hHeld => ?_)
   · (try dsimp only); exact fun q _ _ => rfl
   have HBD : Hid (Below w1.heap.size w1 w1.drew) := hid (below_drewN (Below.refl _ _) 1)
   generalize w1.drew = W1 at *
   refine wpAnyH_take (i := 0) (v := ?_) rfl (by kernel_rfl) (by kernel_rfl) (by kernel_rfl) (fun _ _ _ h => h) (Or.inl ⟨by rfl, fun wq hSw => ?_⟩) hHeld ?_
   rotate_left
   · ((try dsimp only at hSw); go_simp; try with_reducible rfl)
   try simp only [p7]
   refine wpAnyH_take (i := 1) (v := ?_) rfl (by kernel_rfl) (by kernel_rfl) (by kernel_rfl) (fun _ _ _ h => h) (Or.inl ⟨by rfl, fun wq hSw => ?_⟩) hHeld ?_
   rotate_left
   · ((try dsimp only at hSw); go_simp; try with_reducible rfl)
   try simp only [p7]
   refine wpAnyH_take (i := 2) (v := ?_) rfl (by kernel_rfl) (by kernel_rfl) (by kernel_rfl) (fun _ _ _ h => h) (Or.inl ⟨by rfl, fun wq hSw => ?_⟩) hHeld ?_
   rotate_left
   · ((try dsimp only at hSw); go_simp; try with_reducible rfl)
   try simp only [p7]
   refine wpAnyH_take (i := 3) (v := ?_) rfl (by kernel_rfl) (by kernel_rfl) (by kernel_rfl) (fun _ _ _ h => h) (Or.inl ⟨by rfl, fun wq hSw => ?_⟩) hHeld ?_
   rotate_left
   · ((try dsimp only at hSw); go_simp; try with_reducible rfl)
   try simp only [p7]
   refine wpAnyH_take (i := 4) (v := ?_) rfl (by kernel_rfl) (by kernel_rfl) (by kernel_rfl) (fun _ _ _ h => h) (Or.inl ⟨by rfl, fun wq hSw => ?_⟩) hHeld ?_
   rotate_left
   · (have f3 := (cell_of_heap (hSw (g) hgl (by omega)) 2).trans hg2; go_simp; try with_reducible rfl)
   try simp only [p7]
   refine wpAnyH_take (i := 5) (v := ?_) rfl (by kernel_rfl) (by kernel_rfl) (by kernel_rfl) (fun _ _ _ h => h) (Or.inl ⟨by rfl, fun wq hSw => ?_⟩) hHeld ?_
   rotate_left
   · ((try dsimp only at hSw); go_simp; try with_reducible rfl)
   try simp only [p7]
   refine wpAnyH_take (i := 6) (v := ?_) rfl (by kernel_rfl) (by kernel_rfl) (by kernel_rfl) (fun _ _ _ h => h) (Or.inl ⟨by rfl, fun wq hSw => ?_⟩) hHeld ?_
   rotate_left
   · (have f4 := (cell_of_heap (hSw ((w.heap.size + 2)) hnl (by omega)) 1).trans (zn1 1); go_simp; try with_reducible rfl)
   try simp only [p7]
   refine wpAnyH_take (i := 7) (v := ?_) rfl (by kernel_rfl) (by kernel_rfl) (by kernel_rfl) (fun _ _ _ h => h) (Or.inl ⟨by rfl, fun wq hSw => ?_⟩) hHeld ?_
   rotate_left
   · ((try dsimp only at hSw); go_simp; try with_reducible rfl)
   try simp only [p7]
   refine wpAnyH_take (i := 8) (v := ?_) rfl (by kernel_rfl) (by kernel_rfl) (by kernel_rfl) (fun _ _ _ h => h) (Or.inl ⟨by rfl, fun wq hSw => ?_⟩) hHeld ?_
   rotate_left
   · ((try dsimp only at hSw); go_simp; try with_reducible rfl)
   try simp only [p7]
   refine wpAnyH_take (i := 9) (v := ?_) rfl (by kernel_rfl) (by kernel_rfl) (by kernel_rfl) (fun _ _ _ h => h) (Or.inl ⟨by rfl, fun wq hSw => ?_⟩) hHeld ?_
   rotate_left
   · (have f5 := (cell_of_heap (hSw (be) (by omega) (by omega)) (oe + ia * 7 + 6)).trans x6; go_simp; try with_reducible rfl)
   try simp only [p7]
   refine wpAnyH_take (i := 10) (v := ?_) rfl (by kernel_rfl) (by kernel_rfl) (by kernel_rfl) (fun _ _ _ h => h) (Or.inl ⟨by rfl, fun wq hSw => ?_⟩) hHeld ?_
   rotate_left
   · ((try dsimp only at hSw); go_simp; try with_reducible rfl)
   try simp only [p7]
   refine wpAnyH_take (i := 11) (v := ?_) rfl (by kernel_rfl) (by kernel_rfl) (by kernel_rfl) (fun _ _ _ h => h) (Or.inl ⟨by rfl, fun wq hSw => ?_⟩) hHeld ?_
   rotate_left
   · (have f1 := (cell_of_heap (hSw (w.heap.size) hsl (by omega)) 1).trans (zs1 1); go_simp; try with_reducible rfl)
   try simp only [p7]
   refine r1 12 fun K hK => ?_
   go_simp
   go_at_call 83
   refine (HON.out _ HBD.out yu u.Ab u.nb u.cb (HBT.out _ HBD.out) HFY.out).mono ?_
   rintro en w5 ⟨hb5, h5⟩
   have HB5 := bto HBD hb5
   clear hb5
   rcases h5 with ⟨f9, hf9, A5, n5, c5, B5, m5, d5', rfl, hfo⟩ | ⟨hn, rfl⟩
   rotate_left
   · have HN := hid hn
     clear hn
     go_wp2_with fail
     exact ⟨rfl, HB1.out.trans (HB5.out.mono HB1.out.size), .inr ⟨by rw [HRY.out]; exact HN.out, rfl⟩⟩
   have HFO := hid hfo
   have HF9 := hid hf9
   have HLO : Hid (w1.heap.size ≤ W1.heap.size) := hid HBD.out.size
   have HZ5 := hid (HZR.out.below HB5.out hrl)
   have z5 := HZ5.out.cell
   have fz5 := HZ5.out.frozen
   have hlt5 : w.heap.size + 1 < w5.heap.size := HZ5.out.lt
   clear hfo hf9
   go_wp2_with fail
   refine hK.out _ _ (by exact fun q h1 _ => HB5.out.block q h1) fun hHeld => ?_
   clear hK K
   try simp only [p7]
   refine r1 13 fun K hK => ?_
   go_simp
   refine hK.out _ _ (by exact fun q h1 h2 => (Below.heap_setCell _ ⟨w.heap.size + 1, 1, none⟩ _ q h2).trans ((Below.heap_setCell _ ⟨w.heap.size + 1, 0, none⟩ _ q h2).trans (HB5.out.block q h1))) fun hHeld => ?_
   clear hK K
   try simp only [p7]
   refine wpAnyH_done (by kernel_rfl) ?_ _
   go_wp2_with fail
   refine bodyPost_ret (v := .agg #[.slice A5 n5 c5, .slice B5 m5 d5']) (results_own (g := w.heap.size + 1) (by have := (HZ5.out.set_ 0 (.slice A5 n5 c5)).set_ 1 (.slice B5 m5 d5'); simpa using this) (by simp)) rfl (own_end HB1.out HW1S.out HB5.out HFO.out HLO.out (by rw [HRY.out]; exact HF9.out))
 by_cases o11 : so = 11
 · have h11 := HSO.out.symm.trans o11
   obtain ⟨u0, q0, br, hk, hbr⟩ := kids_match HFS.out.head.okt h11
   obtain ⟨na0, na1, nb0, nb1⟩ := node_matchC HFS.out.head h11
   rw [← HSA.out] at na0 na1
   have hfm : fitsM b s.1.1 (hdW (kidN s.1 1)) = true := by
    have h9 := HRD.out
    unfold readyF at h9
    rwa [← HSO.out, if_neg o5, if_neg (by omega), if_neg o1, if_pos o11] at h9
   have hq1 : FitT b (cv.length : Int) (kidN s.1 1) := by
    rw [kidN_at (i := 1) (by rw [hk]; rfl)]
    exact HFS.out.head.kid0 (i := 1) (by rw [hk]; rfl) (around_nil (.inr (.inr h11)))
   unfold fitsM at hfm
   simp only [Bool.and_eq_true, beq_iff_eq, decide_eq_true_eq] at hfm
   obtain ⟨m1, m2, m3, m4⟩ := hfm
   have hsf := foc hq1
   have hcb := ctor_bd hsf.head.okt m1
   have hkb := HFS.out.head.kid0 (kid_some (x := s.1) (i := 2 + (hdW (kidN s.1 1)).1.1.b.toNat) (by rw [hk]; simp only [List.length_cons]; omega)) (around_nil (.inr (.inr h11)))
   obtain ⟨hd, hhd⟩ : ∃ x, x = hdW (kidN s.1 1) := ⟨_, rfl⟩
   have hHD := hid hhd
   rw [← hhd] at m1 m2 m3 m4 hsf hcb hkb
   obtain ⟨ib, hib⟩ : ∃ ib : Nat, hd.1.1.b = (ib : Int) := ⟨hd.1.1.b.toNat, by omega⟩
   obtain ⟨ia, hia⟩ : ∃ ia : Nat, sa = (ia : Int) := ⟨sa.toNat, by omega⟩
   rw [hib, Int.toNat_natCast] at hkb
   obtain ⟨jb, hjb⟩ : ∃ jb, jb = 2 + ib := ⟨_, rfl⟩
   rw [← hjb] at hkb
   have hibk : jb < (kidL s.1.2.2).length := by rw [hk]; simp only [List.length_cons]; omega
   rw [← HSA.out] at m4
   have hel := HBK.out.entries.len
   have hef := HBK.out.entries.few
   have hin : ia < v.ne := by omega
   have hin2 : (ia : Int) < (v.ne : Int) := by omega
   have hin3 : (0 : Int) ≤ (ia : Int) := by omega
   obtain ⟨be, oe, ea, hlb, u, e0, e1, e2, e3, e4, e5, e6, hec⟩ := HBK.out.entries.at_ hin
   have hx : b.entries.getD ia default = entB b sa := by rw [hia]; rfl
   rw [hx] at hec
   have hbel := HWW.out.bel
   have hbew : be < w.heap.size := Nat.lt_of_lt_of_le hlb hbel.size
   have hb01 := hbel.trans (HB1.out.mono hbel.size)
   have x2 := (hb01.cell (p := ⟨be, oe + ia * 7 + 2, none⟩) hlb).trans e2
   have hpl : (entB b sa).params.length = u.np := hec.params.len
   have hg2 : w1.cell? ⟨g, 2, none⟩ = some (.slice (some ⟨be, oe, none⟩) v.ne v.ce) := by rw [zg, ea]; rfl
   have HRY : Hid (res = ontoF (kidN s.1 jb) (hd.2.drop u.np ++ s.2)) := hid (by
    rw [HRES.out]; unfold ownF
    rw [← HSO.out, if_neg o5, if_neg o7, if_neg o1, if_neg o8, if_pos o11, ← hhd, hib, Int.toNat_natCast, ← hjb, ← HSA.out, hpl])
   have hnp : u.np ≤ hd.2.length := by rw [hpl] at m4; omega
   have hkid := fun (W : World) (hB : Below w1.heap.size w1 W) => kids7_any (HS.out.below hB).head HFS.out.head.rt.shape
   rw [top_fit HFS.out.head] at hkid
   have HK := hid hkid
   have HK1 : Hid (1 < (kidL s.1.2.2).length) := hid (by rw [hk]; simp)
   have HK2 := hid hibk
   have HQ1 := hid hq1
   have HSF := hid hsf
   have HKB := hid hkb
   have HNP := hid hnp
   have HIB := hid hib
   have hib4 : ib ≤ 100000 := by have := kids_few HFS.out.head; omega
   have w4' : IntKind.i64.wrap (2 + (ib : Int)) = (jb : Int) := by rw [IntKind.wrap_i64]; omega
   have hsz2 := HB1.out.size
   rw [hia] at zn1
   subst o11
   clear hkid hk hq1 hsf hkb hhd m1 m2 m3 m4 hcb hbr hec hx e0 e1 e2 e3 e4 e5 e6 hbel hb01 hel hef na0 na1 nb0 nb1 hib hjb hibk hnp h11 o5 o7 o1 o8 hpl hia
   go_wp2_with fail
   refine (HK.out _ (Below.refl _ _)).mono ?_
   rintro en w3 ⟨hb3, A3, n3, c3, xs3, rfl, ho3, hr3⟩
   obtain ⟨hn3, gk, A4, n4, c4, rfl, hgk, hgk2, hc4, ht4⟩ := kids_at ho3 hr3 HK1.out
   obtain ⟨hn3', gk', A7, n7, c7, egk, _, _, hc7, ht7⟩ := kids_at ho3 hr3 HK2.out
   have egk2 : gk' = gk := by injection egk with egk; injection egk with egk; exact egk.symm
   subst egk2
   have hn31 : (1 : Int) < (n3 : Int) := by have := HK1.out; omega
   have hn32 : (jb : Int) < (n3 : Int) := by have := HK2.out; omega
   have HB3 := hid hb3
   have HT4 : Hid (TermV w3 A4 n4 c4 (rowT (kidN s.1 1))) := hid (TermR.keep ht4 (R' := (· < w3.heap.size)) (w' := w3) fun q hq => ⟨hq.2.1, fun _ => rfl⟩)
   have HT7 : Hid (TermV w3 A7 n7 c7 (rowT (kidN s.1 jb))) := hid (TermR.keep ht7 (R' := (· < w3.heap.size)) (w' := w3) fun q hq => ⟨hq.2.1, fun _ => rfl⟩)
   clear hb3 ho3 hr3 hn3 hn3' ht4 ht7 egk
   go_wp2_with fail
   refine (focused_any HT4.out HQ1.out).mono ?_
   rintro en w4 ⟨hb4, A6, n6, c6, B6, m6, d6, rfl, hf6⟩
   rw [← hHD.out] at hf6
   have hm6 : m6 = hd.2.length := hf6.len.2
   have hm64 : m6 ≤ 4096 := by rw [hm6]; exact FocG.argsLen HSF.out (by have := foc_sz HQ1.out; rw [← hHD.out] at this; rw [this]; exact HQ1.out.few)
   have hd6 : m6 ≤ d6 := by obtain ⟨_, xs6, h9, _⟩ := hf6; exact own_capT h9
   have hfi := hf6.read (g := w.heap.size) (by have := HB3.out.size; omega) (by omega)
   obtain ⟨bs6, os6, rfl, hn6, hbs6, p0, p1, p2⟩ := hfi.node
   rw [HIB.out] at p2
   obtain ⟨B9, hcb9, hcbr9, hcbn9⟩ := cut_rowsN B6 m6 d6 u.np (by rw [hm6]; exact HNP.out) hd6 hfi.2.2
   obtain ⟨wb, hwb⟩ : ∃ wb : World, wb = w4.alloc (.cells #[.slice (some ⟨bs6, os6, none⟩) n6 c6, .slice B6 m6 d6] 70) := ⟨_, rfl⟩
   have hb4b : Below w4.heap.size w4 wb := by rw [hwb]; exact below_alloc _ _
   have hb1b : Below w1.heap.size w1 wb := (HB3.out.trans (hb4.mono HB3.out.size)).trans (hb4b.mono (Nat.le_trans HB3.out.size hb4.size))
   have hb3b : Below w3.heap.size w3 wb := hb4.trans (hb4b.mono hb4.size)
   have zq : Blk wb w4.heap.size 70 #[.slice (some ⟨bs6, os6, none⟩) n6 c6, .slice B6 m6 d6] := by rw [hwb]; exact Blk.new _ _ _
   have zqc := zq.cell
   have hql : w4.heap.size < wb.heap.size := zq.lt
   have hgkb : gk' < wb.heap.size := Nat.lt_of_lt_of_le hgk hb3b.size
   have r7 := (hb3b.cell (p := ⟨gk', jb, none⟩) hgk).trans hc7
   have rp2 := (hb4b.cell (p := ⟨bs6, os6 + 2, none⟩) hbs6).trans p2
   have hbs6b : bs6 < wb.heap.size := Nat.lt_of_lt_of_le hbs6 hb4b.size
   have zsb := fun i => (hb1b.cell (p := ⟨w.heap.size, i, none⟩) hsl).trans (zs1 i)
   have znb := fun i => (hb1b.cell (p := ⟨w.heap.size + 2, i, none⟩) hnl).trans (zn1 i)
   have hg2b := (hb1b.cell (p := ⟨g, 2, none⟩) hgl).trans hg2
   have x2b := (hb1b.cell (p := ⟨be, oe + ia * 7 + 2, none⟩) (by show be < w1.heap.size; omega)).trans x2
   have HARGS := hid (fun (W : World) (hB : Below wb.heap.size wb W) => hcbr9 _ _ _ ((hfi.below hb4b).below hB).args)
   have HARG2 := hid (fun (W : World) (hB : Below wb.heap.size wb W) => ((HS.out.below hb1b).below hB).args)
   have HT7b := hid (fun (W : World) (hB : Below wb.heap.size wb W) => (HT7.out.below hb3b).below hB)
   have HNUL9 := hid hcbn9
   have HNUL := hid HS.out.2.2
   have HB1B := hid hb1b
   have hs1b := hb1b.size
   have hs34 := hb4.size
   have hs13 := HB3.out.size
   have hs4b := hb4b.size
   have hun6 : (u.np : Int) ≤ (m6 : Int) := by have := HNP.out; omega
   have hgkw : w.heap.size + 1 < gk' := by omega
   have hbs6w : bs6 ≠ w.heap.size + 1 := by
    obtain ⟨h9, _⟩ := hf6
    obtain ⟨b9, o9, e9, hb9, _⟩ := h9.mem hn6
    injection e9 with e9
    injection e9 with e9
    have := hb9.1
    have := hb9.2.1
    omega
   have HFIT2 : Hid (∀ a ∈ hd.2.drop u.np ++ s.2, FitT b (cv.length : Int) a) := hid (fun a ha => by
    rcases List.mem_append.1 ha with ha | ha
    · exact HSF.out.args a (List.mem_of_mem_drop ha)
    exact HFS.out.args a ha)
   clear hb4 hf6 hfi hcbr9 hcbn9 hc4 hc7 hb4b hb1b hb3b zq p0 p1 p2 hm6
   go_upto_region 17 with fail
   rw [← hwb]
   clear hwb
   refine wp_region_held_drew (S := (fun w' => ∀ q, q < wb.heap.size → q ≠ w.heap.size + 1 → w'.heap[q]? = wb.heap[q]?)) (by kernel_rfl) ?_ (fun hHeld => ?_)
   · (try dsimp only); exact fun q _ _ => rfl
   have HBX : Hid (Below wb.heap.size wb wb.drew) := hid (below_drewN (Below.refl _ _) 1)
   have HBD : Hid (Below w1.heap.size w1 wb.drew) := hid (HB1B.out.trans (HBX.out.mono hs1b))
   generalize wb.drew = W1 at *
   refine wpAnyH_take (i := 0) (v := ?_) rfl (by kernel_rfl) (by kernel_rfl) (by kernel_rfl) (fun _ _ _ h => h) (Or.inl ⟨by rfl, fun wq hSw => ?_⟩) hHeld ?_
   rotate_left
   · ((try dsimp only at hSw); go_simp; try with_reducible rfl)
   try simp only [p7]
   refine wpAnyH_take (i := 1) (v := ?_) rfl (by kernel_rfl) (by kernel_rfl) (by kernel_rfl) (fun _ _ _ h => h) (Or.inl ⟨by rfl, fun wq hSw => ?_⟩) hHeld ?_
   rotate_left
   · ((try dsimp only at hSw); go_simp; try with_reducible rfl)
   try simp only [p7]
   refine wpAnyH_take (i := 2) (v := ?_) rfl (by kernel_rfl) (by kernel_rfl) (by kernel_rfl) (fun _ _ _ h => h) (Or.inl ⟨by rfl, fun wq hSw => ?_⟩) hHeld ?_
   rotate_left
   · (have f1 := (cell_of_heap (hSw (w4.heap.size) hql (by omega)) 0).trans (zqc 0); go_simp; try with_reducible rfl)
   try simp only [p7]
   refine wpAnyH_take (i := 3) (v := ?_) rfl (by kernel_rfl) (by kernel_rfl) (by kernel_rfl) (fun _ _ _ h => h) (Or.inl ⟨by rfl, fun wq hSw => ?_⟩) hHeld ?_
   rotate_left
   · ((try dsimp only at hSw); go_simp; try with_reducible rfl)
   try simp only [p7]
   refine wpAnyH_take (i := 4) (v := ?_) rfl (by kernel_rfl) (by kernel_rfl) (by kernel_rfl) (fun _ _ _ h => h) (Or.inl ⟨by rfl, fun wq hSw => ?_⟩) hHeld ?_
   rotate_left
   · ((try dsimp only at hSw); go_simp; try with_reducible rfl)
   try simp only [p7]
   refine wpAnyH_take (i := 5) (v := ?_) rfl (by kernel_rfl) (by kernel_rfl) (by kernel_rfl) (fun _ _ _ h => h) (Or.inl ⟨by rfl, fun wq hSw => ?_⟩) hHeld ?_
   rotate_left
   · (have f2 := (cell_of_heap (hSw (bs6) hbs6b (by omega)) (os6 + 2)).trans rp2; go_simp; try with_reducible rfl)
   try simp only [p7]
   refine wpAnyH_take (i := 6) (v := ?_) rfl (by kernel_rfl) (by kernel_rfl) (by kernel_rfl) (fun _ _ _ h => h) (Or.inl ⟨by rfl, fun wq hSw => ?_⟩) hHeld ?_
   rotate_left
   · ((try dsimp only at hSw); go_simp; try with_reducible rfl)
   try simp only [p7]
   refine wpAnyH_take (i := 7) (v := ?_) rfl (by kernel_rfl) (by kernel_rfl) (by kernel_rfl) (fun _ _ _ h => h) (Or.inl ⟨by rfl, fun wq hSw => ?_⟩) hHeld ?_
   rotate_left
   · ((try dsimp only at hSw); go_simp; try with_reducible rfl)
   try simp only [p7]
   refine wpAnyH_take (i := 8) (v := ?_) rfl (by kernel_rfl) (by kernel_rfl) (by kernel_rfl) (fun _ _ _ h => h) (Or.inl ⟨by rfl, fun wq hSw => ?_⟩) hHeld ?_
   rotate_left
   · (have f3 := (cell_of_heap (hSw (gk') hgkb (by omega)) jb).trans r7; go_simp; try with_reducible rfl)
   try simp only [p7]
   refine wpAnyH_take (i := 9) (v := ?_) rfl (by kernel_rfl) (by kernel_rfl) (by kernel_rfl) (fun _ _ _ h => h) (Or.inl ⟨by rfl, fun wq hSw => ?_⟩) hHeld ?_
   rotate_left
   · ((try dsimp only at hSw); go_simp; try with_reducible rfl)
   try simp only [p7]
   refine wpAnyH_take (i := 10) (v := ?_) rfl (by kernel_rfl) (by kernel_rfl) (by kernel_rfl) (fun _ _ _ h => h) (Or.inl ⟨by rfl, fun wq hSw => ?_⟩) hHeld ?_
   rotate_left
   · (have f4 := (cell_of_heap (hSw (w4.heap.size) hql (by omega)) 1).trans (zqc 1); go_simp; try with_reducible rfl)
   try simp only [p7]
   refine wpAnyH_take (i := 11) (v := ?_) rfl (by kernel_rfl) (by kernel_rfl) (by kernel_rfl) (fun _ _ _ h => h) (Or.inl ⟨by rfl, fun wq hSw => ?_⟩) hHeld ?_
   rotate_left
   · ((try dsimp only at hSw); go_simp; try with_reducible rfl)
   try simp only [p7]
   refine wpAnyH_take (i := 12) (v := ?_) rfl (by kernel_rfl) (by kernel_rfl) (by kernel_rfl) (fun _ _ _ h => h) (Or.inl ⟨by rfl, fun wq hSw => ?_⟩) hHeld ?_
   rotate_left
   · ((try dsimp only at hSw); go_simp; try with_reducible rfl)
   try simp only [p7]
   refine wpAnyH_take (i := 13) (v := ?_) rfl (by kernel_rfl) (by kernel_rfl) (by kernel_rfl) (fun _ _ _ h => h) (Or.inl ⟨by rfl, fun wq hSw => ?_⟩) hHeld ?_
   rotate_left
   · ((try dsimp only at hSw); go_simp; try with_reducible rfl)
   try simp only [p7]
   refine wpAnyH_take (i := 14) (v := ?_) rfl (by kernel_rfl) (by kernel_rfl) (by kernel_rfl) (fun _ _ _ h => h) (Or.inl ⟨by rfl, fun wq hSw => ?_⟩) hHeld ?_
   rotate_left
   · ((try dsimp only at hSw); go_simp; try with_reducible rfl)
   try simp only [p7]
   refine wpAnyH_take (i := 15) (v := ?_) rfl (by kernel_rfl) (by kernel_rfl) (by kernel_rfl) (fun _ _ _ h => h) (Or.inl ⟨by rfl, fun wq hSw => ?_⟩) hHeld ?_
   rotate_left
   · (have f5 := (cell_of_heap (hSw (g) (by omega) (by omega)) 2).trans hg2b; go_simp; try with_reducible rfl)
   try simp only [p7]
   refine wpAnyH_take (i := 16) (v := ?_) rfl (by kernel_rfl) (by kernel_rfl) (by kernel_rfl) (fun _ _ _ h => h) (Or.inl ⟨by rfl, fun wq hSw => ?_⟩) hHeld ?_
   rotate_left
   · ((try dsimp only at hSw); go_simp; try with_reducible rfl)
   try simp only [p7]
   refine wpAnyH_take (i := 17) (v := ?_) rfl (by kernel_rfl) (by kernel_rfl) (by kernel_rfl) (fun _ _ _ h => h) (Or.inl ⟨by rfl, fun wq hSw => ?_⟩) hHeld ?_
   rotate_left
   · (have f6 := (cell_of_heap (hSw ((w.heap.size + 2)) (by omega) (by omega)) 1).trans (znb 1); go_simp; try with_reducible rfl)
   try simp only [p7]
   refine wpAnyH_take (i := 18) (v := ?_) rfl (by kernel_rfl) (by kernel_rfl) (by kernel_rfl) (fun _ _ _ h => h) (Or.inl ⟨by rfl, fun wq hSw => ?_⟩) hHeld ?_
   rotate_left
   · ((try dsimp only at hSw); go_simp; try with_reducible rfl)
   try simp only [p7]
   refine wpAnyH_take (i := 19) (v := ?_) rfl (by kernel_rfl) (by kernel_rfl) (by kernel_rfl) (fun _ _ _ h => h) (Or.inl ⟨by rfl, fun wq hSw => ?_⟩) hHeld ?_
   rotate_left
   · ((try dsimp only at hSw); go_simp; try with_reducible rfl)
   try simp only [p7]
   refine wpAnyH_take (i := 20) (v := ?_) rfl (by kernel_rfl) (by kernel_rfl) (by kernel_rfl) (fun _ _ _ h => h) (Or.inl ⟨by rfl, fun wq hSw => ?_⟩) hHeld ?_
   rotate_left
   · (have f7 := (cell_of_heap (hSw (be) (by omega) (by omega)) (oe + ia * 7 + 2)).trans x2b; go_simp; try with_reducible rfl)
   try simp only [p7]
   refine wpAnyH_take (i := 21) (v := ?_) rfl (by kernel_rfl) (by kernel_rfl) (by kernel_rfl) (fun _ _ _ h => h) (Or.inl ⟨by rfl, fun wq hSw => ?_⟩) hHeld ?_
   rotate_left
   · ((try dsimp only at hSw); go_simp; try with_reducible rfl)
   try simp only [p7]
   refine wpAnyH_take (i := 22) (v := ?_) rfl (by kernel_rfl) (by kernel_rfl) (by kernel_rfl) (fun _ _ _ h => h) (Or.inl ⟨by rfl, fun wq hSw => ?_⟩) hHeld ?_
   rotate_left
   · ((try dsimp only at hSw); go_simp; try with_reducible rfl)
   try simp only [p7]
   refine wpAnyH_take (i := 23) (v := ?_) rfl (by kernel_rfl) (by kernel_rfl) (by kernel_rfl) (fun _ _ _ h => h) (Or.inl ⟨by rfl, fun wq hSw => ?_⟩) hHeld ?_
   rotate_left
   · ((try dsimp only at hSw); go_simp; try with_reducible rfl)
   try simp only [p7]
   refine wpAnyH_take (i := 24) (v := ?_) rfl (by kernel_rfl) (by kernel_rfl) (by kernel_rfl) (fun _ _ _ h => h) (Or.inl ⟨by rfl, fun wq hSw => ?_⟩) hHeld ?_
   rotate_left
   · (have f8 := (cell_of_heap (hSw (w.heap.size) (by omega) (by omega)) 1).trans (zsb 1); go_simp; try with_reducible rfl)
   try simp only [p7]
   refine r1 25 fun K hK => ?_
   go_simp
   refine hK.out _ _ (by exact fun q h1 _ => (HBX.out.alloc HBX.out.size _).block q h1) fun hHeld => ?_
   clear hK K
   try simp only [p7]
   have HBZ : Hid (Blk (W1.alloc (.cells #[.slice B9 (m6 - u.np) (d6 - u.np), .slice B m d] 59)) W1.heap.size 59 #[.slice B9 (m6 - u.np) (d6 - u.np), .slice B m d]) := hid (Blk.new _ _ _)
   have HBY := hid (HBX.out.alloc HBX.out.size (.cells #[.slice B9 (m6 - u.np) (d6 - u.np), .slice B m d] 59))
   refine r1 26 fun K hK => ?_
   go_simp
   go_at_call 86
   refine (concat2_any HBZ.out (HARGS.out _ HBY.out) (HARG2.out _ HBY.out) HNUL9.out HNUL.out (by omega)).mono ?_
   rintro en wc ⟨hbc, Ac, nc, cc', rfl, hrc, hnc⟩
   have HBC := bto HBY hbc
   have HBCw := hid (HB1B.out.trans (HBC.out.mono hs1b))
   have HRC := hid hrc
   have HNC := hid hnc
   clear hbc hrc hnc
   go_wp2_with fail
   refine hK.out _ _ (by exact fun q h1 _ => HBC.out.block q h1) fun hHeld => ?_
   clear hK K
   try simp only [p7]
   refine r1 27 fun K hK => ?_
   go_simp
   go_at_call 83
   refine (conto_any (L := hd.2.drop u.np ++ s.2) (HT7b.out _ HBC.out) HKB.out (by rw [List.map_append, List.map_drop]; exact HRC.out) HFIT2.out HNC.out).mono ?_
   rintro en w5 ⟨hb5, h5⟩
   have HB5 := bto HBCw hb5
   have HX5 := bto HBC hb5; clear hb5
   rcases h5 with ⟨f9, hf9, A5, n5, c5, B5, m5, d5', rfl, hfo⟩ | ⟨hn, rfl⟩
   rotate_left
   · have HN := hid hn
     clear hn
     go_wp2_with fail
     exact ⟨rfl, HB1.out.trans (HB5.out.mono HB1.out.size), .inr ⟨by rw [HRY.out]; exact HN.out, rfl⟩⟩
   have HFO := hid hfo
   have HF9 := hid hf9
   have HLO : Hid (w1.heap.size ≤ wc.heap.size) := hid HBCw.out.size
   have HZ5 := hid (HZR.out.below HB5.out hrl)
   have z5 := HZ5.out.cell
   have fz5 := HZ5.out.frozen
   have hlt5 : w.heap.size + 1 < w5.heap.size := HZ5.out.lt
   clear hfo hf9
   go_wp2_with fail
   refine hK.out _ _ (by exact fun q h1 _ => HX5.out.block q h1) fun hHeld => ?_
   clear hK K
   try simp only [p7]
   refine r1 28 fun K hK => ?_
   go_simp
   refine hK.out _ _ (by exact fun q h1 h2 => (Below.heap_setCell _ ⟨w.heap.size + 1, 1, none⟩ _ q h2).trans ((Below.heap_setCell _ ⟨w.heap.size + 1, 0, none⟩ _ q h2).trans (HX5.out.block q h1))) fun hHeld => ?_
   clear hK K
   try simp only [p7]
   refine wpAnyH_done (by kernel_rfl) ?_ _
   go_wp2_with fail
   refine bodyPost_ret (v := .agg #[.slice A5 n5 c5, .slice B5 m5 d5']) (results_own (g := w.heap.size + 1) (by have := (HZ5.out.set_ 0 (.slice A5 n5 c5)).set_ 1 (.slice B5 m5 d5'); simpa using this) (by simp)) rfl (own_end HB1.out HW1S.out HB5.out HFO.out HLO.out (by rw [HRY.out]; exact HF9.out))
 have o12 : so = 12 := by
  have h9 := HRD.out
  unfold readyF at h9
  rw [← HSO.out, if_neg o5, if_neg (by omega), if_neg o1, if_neg o11] at h9
  by_cases h : so = 12
  · exact h
  rw [if_neg h] at h9; cases h9
 have h12 := HSO.out.symm.trans o12
 have hr2 : res = match unfR s.1 with
  | none => none
  | some y => ontoF y s.2 := by rw [HRES.out]; unfold ownF; rw [← HSO.out, if_neg o5, if_neg o7, if_neg o1, if_neg o8, if_neg o11]; cases unfR s.1 <;> rfl
 have HR2 := hid hr2
 have HUN := hid (fun (W : World) (hB : Below w1.heap.size w1 W) => cunfolded_any (by omega) HCL.out ((HS.out.below hB).head) HFS.out.head h12)
 have HUF := hid (fun (y : TT) (hy : unfR s.1 = some y) => unfR_fit HFS.out.head h12 (by omega) HCL.out hy)
 have d5 : (so == 5) = false := by simpa using o5
 have d7 : (so == 7) = false := by simpa using o7
 have d1 : (so == 1) = false := by simpa using o1
 have d8 : (so == 8) = false := by simpa using o8
 have d11 : (so == 11) = false := by simpa using o11
 clear o5 o7 o1 o8 o11 o12 hr2 h12
 go_upto_region 18 with fail
 refine wp_region_held_drew (S := (fun w' => ∀ q, q < w1.heap.size → q ≠ w.heap.size + 1 → w'.heap[q]? = w1.heap[q]?)) (by kernel_rfl) ?_ (fun hHeld => ?_)
 · (try dsimp only); exact fun q _ _ => rfl
 have HBD : Hid (Below w1.heap.size w1 w1.drew) := hid (below_drewN (Below.refl _ _) 1)
 generalize w1.drew = W1 at *
 refine wpAnyH_take (i := 0) (v := ?_) rfl (by kernel_rfl) (by kernel_rfl) (by kernel_rfl) (fun _ _ _ h => h) (Or.inl ⟨by rfl, fun wq hSw => ?_⟩) hHeld ?_
 rotate_left
 · ((try dsimp only at hSw); go_simp; try with_reducible rfl)
 try simp only [p7]
 refine wpAnyH_take (i := 1) (v := ?_) rfl (by kernel_rfl) (by kernel_rfl) (by kernel_rfl) (fun _ _ _ h => h) (Or.inl ⟨by rfl, fun wq hSw => ?_⟩) hHeld ?_
 rotate_left
 · (have f0 := (cell_of_heap (hSw (w.heap.size) hsl (by omega)) 0).trans (zs1 0); go_simp; try with_reducible rfl)
 try simp only [p7]
 refine wpAnyH_take (i := 3) (v := ?_) rfl (by kernel_rfl) (by kernel_rfl) (by kernel_rfl) (fun _ _ _ h => h) (Or.inl ⟨by rfl, fun wq hSw => ?_⟩) hHeld ?_
 rotate_left
 · ((try dsimp only at hSw); go_simp; try with_reducible rfl)
 try simp only [p7]
 refine wpAnyH_take (i := 4) (v := ?_) rfl (by kernel_rfl) (by kernel_rfl) (by kernel_rfl) (fun _ _ _ h => h) (Or.inl ⟨by rfl, fun wq hSw => ?_⟩) hHeld ?_
 rotate_left
 · (have f1 := (cell_of_heap (hSw (w.heap.size) hsl (by omega)) 1).trans (zs1 1); go_simp; try with_reducible rfl)
 try simp only [p7]
 refine r1 2 fun K hK => ?_
 go_simp
 go_at_call 87
 refine (HUN.out _ HBD.out).mono ?_
 rintro en w3 ⟨hb3, h3⟩
 have HB3 := bto HBD hb3
 clear hb3
 rcases h3 with ⟨y, hy, A3, n3, c3, rfl, ht3⟩ | ⟨hn, rfl⟩
 rotate_left
 · have HN := hid hn
   clear hn
   go_wp2_with fail
   exact ⟨rfl, HB1.out.trans (HB3.out.mono HB1.out.size), .inr ⟨by rw [HR2.out, HN.out], rfl⟩⟩
 have HT3 : Hid (TermV w3 A3 n3 c3 (rowT y)) := hid (TermR.keep ht3 (R' := (· < w3.heap.size)) (w' := w3) fun q hq => ⟨hq.2, fun _ => rfl⟩)
 have HY := hid hy
 clear ht3 hy
 go_wp2_with fail
 refine hK.out _ _ (by exact fun q h1 _ => HB3.out.block q h1) fun hHeld => ?_
 clear hK K
 try simp only [p7]
 refine r1 5 fun K hK => ?_
 go_simp
 go_at_call 83
 refine (HON.out _ HB3.out y A3 n3 c3 HT3.out (HUF.out y HY.out)).mono ?_
 rintro en w5 ⟨hb5, h5⟩
 have HB5 := bto HB3 hb5
 clear hb5
 rcases h5 with ⟨f9, hf9, A5, n5, c5, B5, m5, d5', rfl, hfo⟩ | ⟨hn, rfl⟩
 rotate_left
 · have HN := hid hn
   clear hn
   go_wp2_with fail
   exact ⟨rfl, HB1.out.trans (HB5.out.mono HB1.out.size), .inr ⟨by rw [HR2.out, HY.out]; exact HN.out, rfl⟩⟩
 have HFO := hid hfo
 have HF9 := hid hf9
 have HLO : Hid (w1.heap.size ≤ w3.heap.size) := hid HB3.out.size
 have HZ5 := hid (HZR.out.below HB5.out hrl)
 have z5 := HZ5.out.cell
 have fz5 := HZ5.out.frozen
 have hlt5 : w.heap.size + 1 < w5.heap.size := HZ5.out.lt
 clear hfo hf9
 go_wp2_with fail
 refine hK.out _ _ (by exact fun q h1 _ => HB5.out.block q h1) fun hHeld => ?_
 clear hK K
 try simp only [p7]
 refine r1 6 fun K hK => ?_
 go_simp
 refine hK.out _ _ (by exact fun q h1 h2 => (Below.heap_setCell _ ⟨w.heap.size + 1, 1, none⟩ _ q h2).trans ((Below.heap_setCell _ ⟨w.heap.size + 1, 0, none⟩ _ q h2).trans (HB5.out.block q h1))) fun hHeld => ?_
 clear hK K
 try simp only [p7]
 refine wpAnyH_done (by kernel_rfl) ?_ _
 go_wp2_with fail
 refine bodyPost_ret (v := .agg #[.slice A5 n5 c5, .slice B5 m5 d5']) (results_own (g := w.heap.size + 1) (by have := (HZ5.out.set_ 0 (.slice A5 n5 c5)).set_ 1 (.slice B5 m5 d5'); simpa using this) (by simp)) rfl (own_end HB1.out HW1S.out HB5.out HFO.out HLO.out (by rw [HR2.out, HY.out]; exact HF9.out))
end Go.Proofs.Ytjoddliplahgkaa
