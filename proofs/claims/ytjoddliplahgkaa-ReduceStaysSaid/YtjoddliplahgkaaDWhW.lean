/- core: words for a focus in memory; must, focused, row, size, onto. -/
import Derived.Test.YtjoddliplahgkaaDWhQ
import Derived.Test.YtjoddliplahgkaaDSenseG
namespace Go.Proofs.Ytjoddliplahgkaa
open Go.Lib (hid)
set_option maxHeartbeats 4000000
set_option maxRecDepth 100000
set_option linter.unusedVariables false
set_option linter.unusedSimpArgs false
open Go.RowKit
def CFail (z : Int) : List PanicEntry := [{ v := .iface 76 (.agg #[.int .i64 z]), recovered := false }]
theorem cmust_ok {A : Option Addr} {n c : Nat} {w : World} : Calls Try.prog 55 #[.slice A n c, .int .i64 0] w (fun e w' => e = .returned (.slice A n c) ∧ w' = w) := by
 go_in
 go_wp2_with fail
 go_ret
 exact ⟨rfl, rfl⟩
theorem cmust_er {A : Option Addr} {n c : Nat} {w : World} {z : Int} (hz : z ≠ 0) : Calls Try.prog 55 #[.slice A n c, .int .i64 z] w (fun e w' => e = .panicked (CFail z) ∧ w' = w) := by
 have d1 : (z != 0) = true := by simpa using hz
 clear hz
 go_in
 go_wp2_with fail
 exact ⟨rfl, rfl, rfl⟩
theorem spT_hd {b : Bk} {free : Int} : ∀ (m : Nat) (x : TT), FitT b free x → szT x ≤ m → spT m (rowT x) x.1 x.2.2 = (rowT (hdW x).1, (hdW x).2.map rowT)
 | 0, (n, a, k), _, h => by rw [szT_eq] at h; omega
 | m + 1, x, hx, h => by
  by_cases h6 : x.1.op = 6
  · obtain ⟨f, a, rfl, h1, h2, h3⟩ := app_eq hx h6
    have hsp := spT_app (m := m) (t := rowT (appTT f a)) (n := ⟨6, 0, 0⟩) (n1 := f.1) (a1 := f.2.1) (k1 := f.2.2) (n2 := a.1) (a2 := a.2.1) (k2 := a.2.2) rfl
    have ih := spT_hd m f h1 (by omega)
    rw [hdW_appTT]
    show spT (m + 1) (rowT (appTT f a)) ⟨6, 0, 0⟩ (.cons [] f.1 f.2.1 f.2.2 (.cons [] a.1 a.2.1 a.2.2 .nil)) = _
    rw [hsp]
    show ((spT m (rowT f) f.1 f.2.2).1, (spT m (rowT f) f.1 f.2.2).2 ++ [rowT a]) = _
    rw [ih]
    simp
  · rw [hdW_stop h6, spT_stop h6]
    rfl
theorem spine_fit {b : Bk} {free : Int} {x : TT} (hx : FitT b free x) : spineR (rowT x) = (rowT (hdW x).1, (hdW x).2.map rowT) := by
 unfold spineR
 rw [if_pos hx.rt.shape, rt_top hx.rt]
 exact spT_hd _ x hx (Nat.le_refl _)
theorem args_flat : ∀ (L : List TT), (L.map rowT).flatten.length + (L.map rowT).length = argsN L
 | [] => rfl
 | a :: r => by
  have := args_flat r
  have h : szT a = (rowT a).length := rfl
  simp only [List.map_cons, List.flatten_cons, List.length_append, List.length_cons, argsN] at this ⊢
  omega
theorem args_bad {b : Bk} {free : Int} : ∀ (L : List TT), (∀ a ∈ L, FitT b free a) → firstBad (L.map rowT) = 0
 | [], _ => rfl
 | a :: r, h => by
  simp only [List.map_cons, firstBad]
  rw [if_pos (h a (by simp)).rt.shape]
  exact args_bad r fun y hy => h y (by simp [hy])
theorem app_rows {b : Bk} {free : Int} {x : TT} {L : List TT} (hx : FitT b free x) (hL : ∀ a ∈ L, FitT b free a) : applyR (rowT x) (L.map rowT) = if 4096 < szT x + argsN L then ([], 9) else (rowT (apps x L), 0) := by
 have h : szT x = (rowT x).length := rfl
 have h2 := args_flat L
 unfold applyR
 rw [if_neg (by rw [hx.rt.shape]; simp), if_neg (by rw [args_bad L hL]; simp), apps_row, List.length_map]
 rw [List.length_map] at h2
 rw [h2, ← h]
def FocO (lo : Nat) (w : World) (f : Fc) (A : Option Addr) (n c : Nat) (B : Option Addr) (m d : Nat) : Prop := TermR (Aside lo w (.slice B m d)) w A n c (rowT f.1) ∧ ∃ xs, w.ownsRow lo 29 1 (.slice B m d) m xs ∧ RowsC (Aside lo w (.slice B m d)) w xs (f.2.map rowT)
def FocI (g : Nat) (w : World) (f : Fc) (A : Option Addr) (n c : Nat) (B : Option Addr) (m d : Nat) : Prop := TermR (fun q => q < w.heap.size ∧ q ≠ g) w A n c (rowT f.1) ∧ RowsR (fun q => q < w.heap.size ∧ q ≠ g) w B m d (f.2.map rowT) ∧ (B = none → d = 0)
theorem size_setT (w : World) (b i : Nat) (u : Value) : (w.setCell ⟨b, i, none⟩ u).heap.size = w.heap.size := by simp [World.setCell]
theorem rows_movedT {g base sz m : Nat} {w w' : World} {e : TypeId} {v : Value} {xs : List Value} (h : w.ownsRow base e sz v m xs) (hm : Moved (fun q => q = g) none w w') (hg : g < base) : w'.ownsRow base e sz v m xs := by
 obtain ⟨h1, h2⟩ := h
 refine ⟨h1, ?_⟩
 rcases h2 with h2 | ⟨b, cap, cur, hv, hb, hh, r⟩
 · exact Or.inl h2
 subst hv
 exact Or.inr ⟨b, cap, cur, rfl, hb, (hm.block b (Array.getElem?_eq_some_iff.1 hh).1 (by omega) (by simp)).trans hh, r⟩
theorem own_nulT {w : World} {base n c : Nat} {A : Option Addr} {e : TypeId} {z : Nat} {xs : List Value} (h : w.ownsRow base e z (.slice A n c) n xs) : A = none → c = 0 := by
 intro hA
 rcases h.2 with ⟨hv, _⟩ | ⟨g, cap, cur, hv, _⟩
 · injection hv
 injection hv with e1
 rw [hA] at e1
 cases e1
theorem own_baseN {w : World} {B B' : Nat} {v : Value} {l : List Nd} (h : OwnN w B v l) (hB : B' ≤ B) : OwnN w B' v l := by
 refine ⟨h.1, ?_⟩
 rcases h.2 with h2 | ⟨g, cap, cur, h2, h3, h4⟩
 · exact .inl h2
 exact .inr ⟨g, cap, cur, h2, Nat.le_trans hB h3, h4⟩
theorem own_baseT {w : World} {base base' sz n : Nat} {e : TypeId} {v : Value} {xs : List Value} (h : w.ownsRow base e sz v n xs) (hb : base' ≤ base) : w.ownsRow base' e sz v n xs := by
 obtain ⟨hl, hc⟩ := h
 refine ⟨hl, ?_⟩
 rcases hc with h | ⟨g, cap, cur, hv, hg, rest⟩
 · exact .inl h
 exact .inr ⟨g, cap, cur, hv, Nat.le_trans hb hg, rest⟩
section
variable {lo lo' g : Nat} {w w' : World} {f : Fc} {A B : Option Addr} {n c m d : Nat}
theorem FocO.base (h : FocO lo w f A n c B m d) (hl : lo' ≤ lo) : FocO lo' w f A n c B m d := by
 obtain ⟨h1, xs, h2, h3⟩ := h
 exact ⟨h1.keep fun q hq => ⟨⟨Nat.le_trans hl hq.1, hq.2⟩, fun _ => rfl⟩, xs, own_baseT h2 hl, RowsC.keep (fun q hq => ⟨⟨Nat.le_trans hl hq.1, hq.2⟩, fun _ => rfl⟩) h3⟩
theorem FocO.len (h : FocO lo w f A n c B m d) : n = szT f.1 ∧ m = f.2.length := by
 obtain ⟨h1, xs, h2, h3⟩ := h
 exact ⟨h1.len.symm, by have := h3.len; have := h2.1; simp at *; omega⟩
theorem FocO.keep (h : FocO lo w f A n c B m d) (hm : ∀ q, lo ≤ q → q < w.heap.size → w'.heap[q]? = w.heap[q]?) (hs : w.heap.size ≤ w'.heap.size) (hown : ∀ xs, w.ownsRow lo 29 1 (.slice B m d) m xs → w'.ownsRow lo 29 1 (.slice B m d) m xs) : FocO lo w' f A n c B m d := by
 obtain ⟨h1, xs, h2, h3⟩ := h
 exact ⟨h1.keep fun q hq => ⟨⟨hq.1, Nat.lt_of_lt_of_le hq.2.1 hs, hq.2.2⟩, fun o => cell_of_heap (hm q hq.1 hq.2.1) o⟩, xs, hown xs h2, RowsC.keep (fun q hq => ⟨⟨hq.1, Nat.lt_of_lt_of_le hq.2.1 hs, hq.2.2⟩, fun o => cell_of_heap (hm q hq.1 hq.2.1) o⟩) h3⟩
theorem FocO.below (h : FocO lo w f A n c B m d) (hb : Below w.heap.size w w') : FocO lo w' f A n c B m d := h.keep (fun q _ h => hb.block q h) hb.size (fun _ h => own_below h hb)
theorem FocO.movedG (h : FocO lo w f A n c B m d) (hg : g < lo) (hm : Moved (fun q => q = g) none w w') : FocO lo w' f A n c B m d := h.keep (fun q h1 h2 => hm.block q h2 (by omega) (by simp)) hm.size (fun _ h => rows_movedT h hm hg)
theorem FocO.set (h : FocO lo w f A n c B m d) {b : Nat} (hb : b < lo) (i : Nat) (u : Value) : FocO lo (w.setCell ⟨b, i, none⟩ u) f A n c B m d := h.keep (fun q h1 _ => Below.heap_setCell w ⟨b, i, none⟩ u q (by show q ≠ b; omega)) (by rw [size_setT]; exact Nat.le_refl _) (fun _ h => ownsRow_setCell_below h (a := ⟨b, i, none⟩) hb u)
theorem FocO.read (h : FocO lo w f A n c B m d) (hg : g < lo) (hf : m ≤ 5864062014805) : FocI g w f A n c B m d := by
 have hl := h.len
 obtain ⟨h1, xs, h2, h3⟩ := h
 exact ⟨h1.keep fun q hq => ⟨⟨hq.2.1, by have := hq.1; omega⟩, fun _ => rfl⟩, own_rowsQ h2 (by simpa using hl.2) hf h3 (fun q hq => ⟨hq.2.1, by have := hq.1; omega⟩) (fun q hq => ⟨(ownsRow_block h2 hq).2.1, by have := (ownsRow_block h2 hq).1; omega⟩), own_nulT h2⟩
theorem FocI.moved (h : FocI g w f A n c B m d) (hm : Moved (fun q => q = g) none w w') : FocI g w' f A n c B m d := by
 have hk : ∀ q, (q < w.heap.size ∧ q ≠ g) → (q < w'.heap.size ∧ q ≠ g) ∧ ∀ o, w'.cell? ⟨q, o, none⟩ = w.cell? ⟨q, o, none⟩ := fun q hq => ⟨⟨Nat.lt_of_lt_of_le hq.1 hm.size, hq.2⟩, fun o => cell_of_heap (hm.block q hq.1 hq.2 (by simp)) o⟩
 exact ⟨h.1.keep hk, h.2.1.keep hk, h.2.2⟩
theorem FocI.below (h : FocI g w f A n c B m d) (hb : Below w.heap.size w w') : FocI g w' f A n c B m d := h.moved (Moved.of_below hb)
theorem FocI.head (h : FocI g w f A n c B m d) : TermV w A n c (rowT f.1) := h.1.keep fun _ hq => ⟨hq.1, fun _ => rfl⟩
theorem FocI.args (h : FocI g w f A n c B m d) : RowsR (· < w.heap.size) w B m d (f.2.map rowT) := h.2.1.keep fun _ hq => ⟨hq.1, fun _ => rfl⟩
end
def FocQ (f : Fc) (w : World) (e : Ending) (w' : World) : Prop := Below w.heap.size w w' ∧ ∃ A n c B m d, e = .returned (.agg #[.slice A n c, .slice B m d]) ∧ FocO w.heap.size w' f A n c B m d
theorem results_foc {w : World} {g : Nat} {c0 c1 : Value} {tmps : Array Value} (h : Blk w g 70 #[c0, c1]) (ht : tmps.getD 2 undef = .pointer (some ⟨g, 0, none⟩)) :
 (results Try.f32 tmps).run Try.prog w = .ok (.agg #[c0, c1]) w := by
 have hc := h.cell
 have ht' : tmps[2]?.getD undef = .pointer (some ⟨g, 0, none⟩) := by rw [← ht]; simp
 simp [results, Try.results32, go_sem, ht', hc]
theorem focused_any {b : Bk} {free : Int} {x : TT} {A : Option Addr} {n c : Nat} {w : World} (h : TermV w A n c (rowT x)) (hx : FitT b free x) :
 Calls Try.prog 32 #[.slice A n c] w (FocQ (hdW x) w) := by
 have hb1 := below_alloc w (.cells #[.slice none 0 0, .slice none 0 0] 70)
 have HB1 := hid hb1
 have HK1 := hid (Blk.new w 70 #[.slice none 0 0, .slice none 0 0])
 have hsp := spine_any (h.below hb1)
 rw [spine_fit hx] at hsp
 have HSP := hid hsp
 clear hsp hb1 h hx
 go_in
 go_wp2_with fail
 refine (HSP.out).mono ?_
 rintro e w2 ⟨hb2, A2, n2, c2, B2, m2, d2, xs, rfl, h1, h2, h3⟩
 simp only at h1 h3 ⊢
 have HB2 := bto HB1 hb2
 have HK2 := hid (HK1.out.below hb2 HK1.out.lt)
 have HF : Hid (FocO (w.alloc (.cells #[.slice none 0 0, .slice none 0 0] 70)).heap.size w2 (hdW x) A2 n2 c2 B2 m2 d2) := hid ⟨h1, xs, h2, h3⟩
 have z2 := HK2.out.cell
 have zf2 := HK2.out.frozen
 have hlt : w.heap.size < w2.heap.size := HK2.out.lt
 clear h1 h2 h3 hb2
 go_wp2_with fail
 refine bodyPost_ret (v := .agg #[.slice A2 n2 c2, .slice B2 m2 d2]) (results_foc (g := w.heap.size) (by have := (HK2.out.set_ 0 (.slice A2 n2 c2)).set_ 1 (.slice B2 m2 d2); simpa using this) (by simp)) rfl ⟨?_, A2, n2, c2, B2, m2, d2, rfl, ?_⟩
 · exact (HB2.out.setCell (p := ⟨w.heap.size, 0, none⟩) (Nat.le_refl _) _).setCell (p := ⟨w.heap.size, 1, none⟩) (Nat.le_refl _) _
 exact (((HF.out.set (b := w.heap.size) (by simp) 0 _).set (b := w.heap.size) (by simp) 1 _)).base (by simp)
def FrowP (f : Fc) (w : World) (e : Ending) (w' : World) : Prop := Below w.heap.size w w' ∧ ((fsz f ≤ 4096 ∧ ∃ A n c, e = .returned (.slice A n c) ∧ TermR (fresh w w') w' A n c (rowT (rowF f)) ∧ OwnN w' w.heap.size (.slice A n c) (rowT (rowF f))) ∨ (4096 < fsz f ∧ e = .panicked (CFail 9)))
theorem frow_any {b : Bk} {free : Int} {g : Nat} {f : Fc} {A B : Option Addr} {n c m d : Nat} {w : World} (h : FocI g w f A n c B m d) (hf : FocG b free f) :
 Calls Try.prog 33 #[.agg #[.slice A n c, .slice B m d]] w (FrowP f w) := by
 have hb1 := below_alloc w (.cells #[.slice A n c, .slice B m d] 70)
 have HB1 := hid hb1
 have HK1 := hid (Blk.new w 70 #[.slice A n c, .slice B m d])
 have hap := apply_own (h.below hb1).head (h.below hb1).args h.2.2
 rw [app_rows hf.head hf.args] at hap
 have z1 := HK1.out.cell
 have hfz : fsz f = szT f.1 + argsN f.2 := rfl
 by_cases hbig : 4096 < szT f.1 + argsN f.2
 · rw [if_pos hbig] at hap
   have HAP := hid hap
   have HBIG : Hid (4096 < fsz f) := hid (by omega)
   clear hap hb1 h hf hbig hfz
   go_in
   go_wp2_with fail
   refine (HAP.out).mono ?_
   rintro e w2 ⟨hb2, A2, n2, c2, rfl, ht2⟩
   have HB2 := bto HB1 hb2
   clear hb2 ht2
   go_wp2_with fail
   refine (cmust_er (by decide)).mono ?_
   rintro e w3 ⟨rfl, rfl⟩
   go_wp2_with fail
   exact ⟨rfl, HB2.out, .inr ⟨HBIG.out, rfl⟩⟩
 rw [if_neg hbig] at hap
 have HAP := hid hap
 have HBIG : Hid (fsz f ≤ 4096) := hid (by omega)
 clear hap hb1 h hf hbig hfz
 go_in
 go_wp2_with fail
 refine (HAP.out).mono ?_
 rintro e w2 ⟨hb2, A2, n2, c2, rfl, ht2⟩
 have HB2 := bto HB1 hb2
 simp only at ht2 ⊢
 have HO2 := hid (own_baseN ht2 HB1.out.size)
 have HT2 := hid (own_fresh HO2.out (by have h8 := rowF_len f; have h9 := HBIG.out; have h7 : szT (rowF f) = (rowT (rowF f)).length := rfl; show (rowT (apps f.1 f.2)).length ≤ _; have h6 : rowF f = apps f.1 f.2 := rfl; rw [h6] at h7 h8; omega))
 clear hb2 ht2
 go_wp2_with fail
 refine cmust_ok.mono ?_
 rintro e w3 ⟨rfl, rfl⟩
 go_wp2_with fail
 go_ret
 exact ⟨HB2.out, .inl ⟨HBIG.out, A2, n2, c2, rfl, HT2.out, HO2.out⟩⟩
theorem fsize_any {g : Nat} {f : Fc} {A B : Option Addr} {n c m d : Nat} {w : World} (h : FocI g w f A n c B m d) (hs : fsz f ≤ 100000) :
 Calls Try.prog 50 #[.agg #[.slice A n c, .slice B m d]] w (fun e w' => e = .returned (.int .i64 (fsz f : Int)) ∧ Below w.heap.size w w') := by
 have hb1 := below_alloc w (.cells #[.slice A n c, .slice B m d] 70)
 have HB1 := hid hb1
 have HK1 := hid (Blk.new w 70 #[.slice A n c, .slice B m d])
 have z1 := HK1.out.cell
 have hn : szT f.1 = n := h.1.len
 have hml : f.2.length = m := by have := h.2.1.len; simpa using this
 have hmf := h.2.1.few
 have HR := hid (h.below hb1).args
 have HML := hid hml
 have hfz : fsz f = n + argsN f.2 := by unfold fsz; omega
 obtain ⟨tot, htot⟩ : ∃ t, t = fsz f := ⟨_, rfl⟩
 rw [← htot] at hs hfz ⊢
 have HFZ := hid hfz
 clear hb1 h hn hml hfz htot
 go_in
 go_wp2_with fail
 go_loopw [3, 12] (fun sv iv wr => ∃ i s : Nat, iv = .int .i64 (i : Int) ∧ sv = .int .i64 (s : Int) ∧ i ≤ m ∧ Hid (s + argsN (f.2.drop i) = tot) ∧ wr = w.alloc (.cells #[.slice A n c, .slice B m d] 70)) (fun _ iv _ => m - (intOf iv).toNat)
 case atStart => exact ⟨0, n, rfl, rfl, Nat.zero_le _, hid HFZ.out.symm, rfl⟩
 case round =>
  obtain ⟨i, s, rfl, rfl, hi, hsm, rfl⟩ := hrel
  by_cases hlt : i < m
  · have d1 : decide ((i : Int) < (m : Int)) = true := decide_eq_true (by omega)
    have d2 : decide (i < m) = true := decide_eq_true hlt
    have d3 : (i : Int) < (m : Int) := by omega
    obtain ⟨bb, oo, rfl, hbb, hmem⟩ := HR.out.mem (by omega)
    obtain ⟨A3, n3, c3, hc3, ht3⟩ := hmem i hlt
    have hil : i < f.2.length := by rw [HML.out]; exact hlt
    have hdr : f.2.drop i = f.2[i] :: f.2.drop (i + 1) := List.drop_eq_getElem_cons hil
    have hg3 : (f.2.map rowT).getD i [] = rowT f.2[i] := by
     rw [List.getD_eq_getElem?_getD, List.getElem?_map, List.getElem?_eq_getElem hil]; rfl
    rw [hg3] at ht3
    have hn3 : szT f.2[i] = n3 := ht3.len
    have hsm2 := hsm.out
    rw [hdr] at hsm2
    simp only [argsN] at hsm2
    rw [hn3] at hsm2
    have HSM : Hid (s + (1 + n3) + argsN (f.2.drop (i + 1)) = tot) := hid (by omega)
    have hw1 : IntKind.i64.wrap (1 + (n3 : Int)) = 1 + (n3 : Int) := by rw [IntKind.wrap_i64]; omega
    have hw2 : IntKind.i64.wrap ((s : Int) + (1 + (n3 : Int))) = ((s + (1 + n3) : Nat) : Int) := by rw [IntKind.wrap_i64]; omega
    clear hmem ht3 hil hdr hg3 hn3 hsm2 hsm
    go_wp2_with fail
    go_roundw
    case rel => exact ⟨i + 1, s + (1 + n3), by go_num, (by first | (congr 1; done) | (congr 1; omega)), by omega, HSM, trivial⟩
    case measure => simp [intOf]; omega
  have d1 : decide ((i : Int) < (m : Int)) = false := decide_eq_false (by omega)
  have d2 : decide (i < m) = false := decide_eq_false hlt
  have hst : s = tot := by
   have := hsm.out
   rw [List.drop_of_length_le (by rw [HML.out]; omega)] at this
   simpa [argsN] using this
  subst hst
  clear hsm hlt
  go_wp2_with fail
  go_ret
  exact ⟨rfl, HB1.out⟩
end Go.Proofs.Ytjoddliplahgkaa
