/- core: onto. -/
import Derived.Test.YtjoddliplahgkaaBWhU
namespace Go.Proofs.Ytjoddliplahgkaa
open Go.Lib (hid)
open Go.RowKit
def OntoP (lo : Nat) (r : Option Fc) (w : World) (e : Ending) (w' : World) : Prop := Below w.heap.size w w' ∧ ((∃ f, r = some f ∧ ∃ A n c B m d, e = .returned (.agg #[.slice A n c, .slice B m d]) ∧ FocO lo w' f A n c B m d) ∨ (r = none ∧ e = .panicked (CFail 9)))
theorem results_onto {w : World} {g : Nat} {c0 c1 : Value} {tmps : Array Value} (h : Blk w g 70 #[c0, c1]) (ht : tmps.getD 4 undef = .pointer (some ⟨g, 0, none⟩)) :
 (results Try.f83 tmps).run Try.prog w = .ok (.agg #[c0, c1]) w := by
 have hc := h.cell
 have ht' : tmps[4]?.getD undef = .pointer (some ⟨g, 0, none⟩) := by rw [← ht]; simp
 simp [results, Try.results83, go_sem, ht', hc]
set_option linter.unusedSimpArgs false in
set_option linter.unusedVariables false in
set_option maxRecDepth 100000 in
set_option maxHeartbeats 4000000 in
theorem conto_any {b : Bk} {free : Int} {x : TT} {L : List TT} {A B : Option Addr} {n c m d : Nat} {w : World} (h : TermV w A n c (rowT x)) (hx : FitT b free x) (ha : RowsR (· < w.heap.size) w B m d (L.map rowT)) (hL : ∀ a ∈ L, FitT b free a) (hnul : B = none → d = 0) :
 Calls Try.prog 83 #[.slice A n c, .slice B m d] w (OntoP w.heap.size (ontoF x L) w) := by
 obtain ⟨w1, hw1e⟩ : ∃ w1 : World, w1 = w.alloc (.cells #[.slice none 0 0, .slice none 0 0] 70) := ⟨_, rfl⟩
 have hb1 : Below w.heap.size w w1 := by rw [hw1e]; exact below_alloc _ _
 have HK1 : Hid (Blk w1 w.heap.size 70 #[.slice none 0 0, .slice none 0 0]) := hid (by rw [hw1e]; exact Blk.new _ _ _)
 have HB1 := hid hb1
 have hap := apply_any (w := w1) (h.below hb1) (ha.keep fun q hq => ⟨Nat.lt_of_lt_of_le hq hb1.size, fun o => hb1.cell (p := ⟨q, o, none⟩) hq⟩) hnul
 rw [app_rows hx hL] at hap
 have hw1s : w1.heap.size = w.heap.size + 1 := by rw [hw1e]; simp
 by_cases hbig : 4096 < szT x + argsN L
 · rw [if_pos hbig] at hap
   have HAP := hid hap
   have HR : Hid (ontoF x L = none) := hid (by unfold ontoF; rw [if_pos hbig])
   clear hap hb1 h ha hL hx hbig
   go_in
   go_upto_region 1 with fail
   rw [← hw1e]
   clear hw1e
   go_wp2_with fail
   refine (HAP.out).mono ?_
   rintro e w2 ⟨hb2, A2, n2, c2, rfl, ht2⟩
   have HB2 := bto HB1 hb2
   clear hb2 ht2
   go_wp2_with fail
   refine (cmust_er (by decide)).mono ?_
   rintro e w3 ⟨rfl, rfl⟩
   go_wp2_with fail
   exact ⟨rfl, HB2.out, .inr ⟨HR.out, rfl⟩⟩
 rw [if_neg hbig] at hap
 have HAP := hid hap
 have HR : Hid (ontoF x L = some ((hdW x).1, (hdW x).2 ++ L)) := hid (by unfold ontoF; rw [if_neg hbig])
 have HFIT := hid (apps_fits L x hx hL (by omega))
 have HHD : Hid (hdW (apps x L) = ((hdW x).1, (hdW x).2 ++ L)) := hid (hdW_apps L x)
 clear hap hb1 h ha hL hx hbig
 go_in
 go_upto_region 1 with fail
 rw [← hw1e]
 clear hw1e
 go_wp2_with fail
 refine (HAP.out).mono ?_
 rintro e w2 ⟨hb2, A2, n2, c2, rfl, ht2⟩
 have HB2 := bto HB1 hb2
 have HT2 : Hid (TermV w2 A2 n2 c2 (rowT (apps x L))) := hid (ht2.keep (R' := (· < w2.heap.size)) fun q hq => ⟨hq.2, fun _ => rfl⟩)
 have HK2 := hid (HK1.out.below hb2 HK1.out.lt)
 have hs2 := hb2.size
 clear hb2 ht2
 simp only at HT2 ⊢
 go_wp2_with fail
 refine cmust_ok.mono ?_
 rintro e w3 ⟨rfl, rfl⟩
 go_wp2_with fail
 refine (focused_any HT2.out HFIT.out).mono ?_
 rintro e w4 ⟨hb4, A4, n4, c4, B4, m4, d4, rfl, hf4⟩
 rw [HHD.out] at hf4
 have HB4 := bto HB2 hb4
 have HK4 := hid (HK2.out.below hb4 HK2.out.lt)
 have HF4 := hid hf4
 have z4 := HK4.out.cell
 have zf4 := HK4.out.frozen
 have hlt4 : w.heap.size < w4.heap.size := HK4.out.lt
 clear hb4 hf4
 go_wp2_with fail
 refine bodyPost_ret (v := .agg #[.slice A4 n4 c4, .slice B4 m4 d4]) (results_onto (g := w.heap.size) (by have := (HK4.out.set_ 0 (.slice A4 n4 c4)).set_ 1 (.slice B4 m4 d4); simpa using this) (by simp)) rfl ⟨?_, .inl ⟨_, HR.out, A4, n4, c4, B4, m4, d4, rfl, ?_⟩⟩
 · exact (HB4.out.setCell (p := ⟨w.heap.size, 0, none⟩) (Nat.le_refl _) _).setCell (p := ⟨w.heap.size, 1, none⟩) (Nat.le_refl _) _
 exact (((HF4.out.set (b := w.heap.size) (by omega) 0 _).set (b := w.heap.size) (by omega) 1 _)).base (by omega)
end Go.Proofs.Ytjoddliplahgkaa
