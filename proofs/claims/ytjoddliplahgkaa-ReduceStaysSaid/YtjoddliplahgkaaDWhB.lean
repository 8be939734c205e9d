/- core: part, within. -/
import Derived.Test.YtjoddliplahgkaaDWhA
namespace Go.Proofs.Ytjoddliplahgkaa
open Go.Lib (hid)
set_option maxHeartbeats 4000000
set_option maxRecDepth 100000
set_option linter.unusedVariables false
set_option linter.unusedSimpArgs false
open Go.RowKit
def PartP (g : Nat) (r : Option TT) (w : World) (e : Ending) (w' : World) : Prop := Below w.heap.size w w' ∧ match r with
 | none => e = .returned (.tuple #[.slice none 0 0, .bool false])
 | some p => ∃ A n c, e = .returned (.tuple #[.slice A n c, .bool true]) ∧ TermR (fun q => q < w'.heap.size ∧ q ≠ g) w' A n c (rowT p)
theorem cpart_any {g : Nat} {b : Bk} {free : Int} {w : World} {s : Fc} {A B : Option Addr} {n c m d : Nat} (hg : g < w.heap.size) (hs : FocI g w s A n c B m d) (fs : FocG b free s) :
 Calls Try.prog 48 #[.agg #[.slice A n c, .slice B m d]] w (PartP g (partF s) w) := by
 obtain ⟨bs, os, rfl, hn0, hbs, h0, h1, h2⟩ := hs.node
 obtain ⟨so, hso⟩ : ∃ z, z = s.1.1.op := ⟨_, rfl⟩
 rw [← hso] at h0
 have hml : s.2.length = m := by have := hs.2.1.len; simpa using this
 have hmf := hs.2.1.few
 obtain ⟨w1, hw1e⟩ : ∃ w1 : World, w1 = w.alloc (.cells #[.slice (some ⟨bs, os, none⟩) n c, .slice B m d] 70) := ⟨_, rfl⟩
 have hb1 : Below w.heap.size w w1 := by rw [hw1e]; exact below_alloc _ _
 have zs : Blk w1 w.heap.size 70 #[.slice (some ⟨bs, os, none⟩) n c, .slice B m d] := by rw [hw1e]; exact Blk.new _ _ _
 have k0 := (hb1.cell (p := ⟨bs, os, none⟩) hbs).trans h0
 have HS := hid (hs.below hb1)
 have HB1 := hid hb1
 have HFS := hid fs
 have HML := hid hml
 have HSO := hid hso
 have hgl : g < w1.heap.size := Nat.lt_of_lt_of_le hg hb1.size
 have hsl : w.heap.size < w1.heap.size := zs.lt
 have zs1 := zs.cell
 have hbs1 : bs < w1.heap.size := Nat.lt_of_lt_of_le hbs hb1.size
 obtain ⟨res, hres⟩ : ∃ r, r = partF s := ⟨_, rfl⟩
 rw [← hres]
 have HRES := hid hres
 clear hs fs hso hml hb1 zs h0 h1 h2 hres hg hbs
 go_in
 go_upto_region 1 with fail
 rw [← hw1e]
 clear hw1e
 by_cases o11 : so = 11
 · have h11 := HSO.out.symm.trans o11
   obtain ⟨p, q, br, hk, _⟩ := kids_match HFS.out.head.okt h11
   have HR2 : Hid (res = some (kidN s.1 1)) := hid (by rw [HRES.out]; unfold partF; rw [← HSO.out, if_pos o11])
   have hkid := fun (W : World) (hB : Below w1.heap.size w1 W) => kids7_any (HS.out.below hB).head HFS.out.head.rt.shape
   rw [top_fit HFS.out.head] at hkid
   have HK := hid hkid
   have HK1 : Hid (1 < (kidL s.1.2.2).length) := hid (by rw [hk]; simp)
   subst o11
   clear hkid hk
   go_wp2_with fail
   refine (HK.out _ (Below.refl _ _)).mono ?_
   rintro en w3 ⟨hb3, A3, n3, c3, xs3, rfl, ho3, hr3⟩
   have HB3 := hid hb3
   obtain ⟨hn3, gk, A4, n4, c4, rfl, hgk, hgk2, hc4, ht4⟩ := kids_at ho3 hr3 HK1.out
   have hn31 : 1 < n3 := by have := HK1.out; omega
   have hn32 : (1 : Int) < (n3 : Int) := by omega
   have HT4 : Hid (TermR (fun q => q < w3.heap.size ∧ q ≠ g) w3 A4 n4 c4 (rowT (kidN s.1 1))) := hid (TermR.keep ht4 (R' := fun q => q < w3.heap.size ∧ q ≠ g) (w' := w3) fun q hq => ⟨⟨hq.2.1, by have := hq.1; omega⟩, fun _ => rfl⟩)
   clear hb3 ho3 hr3 hn3 ht4
   go_wp2_with fail
   go_ret2
   rw [HR2.out]
   exact ⟨HB1.out.trans (HB3.out.mono HB1.out.size), A4, n4, c4, rfl, HT4.out⟩
 by_cases o12 : so = 12
 · have h12 := HSO.out.symm.trans o12
   obtain ⟨pb0, pb1⟩ := place_bd HFS.out.head.okt h12
   have hpl := fun (W : World) (hB : Below w1.heap.size w1 W) => cplaceOf_any (HS.out.below hB).head HFS.out.head.rt h12
   obtain ⟨ip, hip⟩ : ∃ ip : Nat, placeT s.1 = (ip : Int) := ⟨(placeT s.1).toNat, by omega⟩
   rw [hip] at hpl
   have HPL := hid hpl
   have hr2 : res = if ip < m then some (s.2.getD ip (default, [], .nil)) else none := by
    rw [HRES.out]; unfold partF; rw [← HSO.out, if_neg o11, if_pos o12, hip, HML.out]
    rfl
   subst o12
   have hip16 : ip < 16 := by omega
   clear hpl hip pb0 pb1
   by_cases hlt : ip < m
   · have d1 : decide ((ip : Int) < (m : Int)) = true := decide_eq_true (by omega)
     have d2 : decide (ip < m) = true := decide_eq_true hlt
     have d3 : (ip : Int) < (m : Int) := by omega
     rw [if_pos hlt] at hr2
     obtain ⟨hil, bb, oo, A4, n4, c4, rfl, hbb, hc4, ht4⟩ := HS.out.arg hlt
     have HT4 := hid (fun (W : World) (hB : Below w1.heap.size w1 W) => (TermR.keep ht4 (R' := fun q => q < W.heap.size ∧ q ≠ g) (w' := W) fun q hq => ⟨⟨Nat.lt_of_lt_of_le hq.1 hB.size, hq.2⟩, fun o => hB.cell (p := ⟨q, o, none⟩) hq.1⟩))
     have HR2 := hid hr2
     clear hr2 hlt hil ht4
     go_wp2_with fail
     refine (HPL.out _ (Below.refl _ _)).mono ?_
     rintro en w3 ⟨rfl, hb3⟩
     have HB3 := hid hb3
     have zs3 := fun i => (hb3.cell (p := ⟨w.heap.size, i, none⟩) hsl).trans (zs1 i)
     have hc43 := (hb3.cell (p := ⟨bb, oo + ip, none⟩) hbb).trans hc4
     clear hb3
     go_wp2_with fail
     go_ret2
     rw [HR2.out]
     exact ⟨HB1.out.trans (HB3.out.mono HB1.out.size), A4, n4, c4, rfl, HT4.out _ HB3.out⟩
   have d1 : decide ((ip : Int) < (m : Int)) = false := decide_eq_false (by omega)
   have d2 : decide (ip < m) = false := decide_eq_false hlt
   rw [if_neg hlt] at hr2
   have HR2 := hid hr2
   clear hr2 hlt
   go_wp2_with fail
   refine (HPL.out _ (Below.refl _ _)).mono ?_
   rintro en w3 ⟨rfl, hb3⟩
   have HB3 := hid hb3
   have zs3 := fun i => (hb3.cell (p := ⟨w.heap.size, i, none⟩) hsl).trans (zs1 i)
   clear hb3
   go_wp2_with fail
   go_ret2
   rw [HR2.out]
   exact ⟨HB1.out.trans (HB3.out.mono HB1.out.size), rfl⟩
 have HR2 : Hid (res = none) := hid (by rw [HRES.out]; unfold partF; rw [← HSO.out, if_neg o11, if_neg o12])
 have d11 : (so == 11) = false := by simpa using o11
 have d12 : (so == 12) = false := by simpa using o12
 clear o11 o12
 go_wp2_with fail
 go_ret2
 rw [HR2.out]
 exact ⟨HB1.out, rfl⟩
theorem results_within {w : World} {g : Nat} {c0 c1 : Value} {tmps : Array Value} (h : Blk w g 70 #[c0, c1]) (ht : tmps.getD 4 undef = .pointer (some ⟨g, 0, none⟩)) :
 (results Try.f53 tmps).run Try.prog w = .ok (.agg #[c0, c1]) w := by
 have hc := h.cell
 have ht' : tmps[4]?.getD undef = .pointer (some ⟨g, 0, none⟩) := by rw [← ht]; simp
 simp [results, Try.results53, go_sem, ht', hc]
def WithinP (f : Fc) (room : Int) (A : Option Addr) (n c : Nat) (B : Option Addr) (m d : Nat) (w : World) (e : Ending) (w' : World) : Prop := Below w.heap.size w w' ∧ ((¬ room < (fsz f : Int) ∧ e = .returned (.agg #[.slice A n c, .slice B m d])) ∨ (room < (fsz f : Int) ∧ e = .panicked (CFail 9)))
theorem cwithin_any {g : Nat} {w : World} {s : Fc} {A B : Option Addr} {n c m d : Nat} (hs : FocI g w s A n c B m d) (hsz : fsz s ≤ 100000) (room : Int) :
 Calls Try.prog 53 #[.agg #[.slice A n c, .slice B m d], .int .i64 room] w (WithinP s room A n c B m d w) := by
 have hb1 := below_alloc2 w (.cells #[.slice A n c, .slice B m d] 70) (.cells #[.slice none 0 0, .slice none 0 0] 70)
 have HB1 := hid hb1
 have HK1 := hid ((Blk.new w 70 #[.slice A n c, .slice B m d]).alloc (.cells #[.slice none 0 0, .slice none 0 0] 70))
 have HK2 : Hid (Blk ((w.alloc (.cells #[.slice A n c, .slice B m d] 70)).alloc (.cells #[.slice none 0 0, .slice none 0 0] 70)) (w.heap.size + 1) 70 #[.slice none 0 0, .slice none 0 0]) := hid (Blk.new' (by simp))
 have HSZ := hid (fsize_any (hs.below hb1) hsz)
 obtain ⟨z, hz⟩ : ∃ z, z = fsz s := ⟨_, rfl⟩
 rw [← hz] at HSZ
 unfold WithinP
 rw [← hz]
 have z1 := HK1.out.cell
 clear hb1 hs hz hsz
 go_in
 go_wp2_with fail
 refine (HSZ.out).mono ?_
 rintro en w2 ⟨rfl, hb2⟩
 have HB2 := bto HB1 hb2
 have HK3 := hid (HK1.out.below hb2 HK1.out.lt)
 have HK4 := hid (HK2.out.below hb2 HK2.out.lt)
 have z3 := HK3.out.cell
 have z4 := HK4.out.cell
 have f4 := HK4.out.frozen
 have hl4 : w.heap.size + 1 < w2.heap.size := HK4.out.lt
 clear hb2 z1
 by_cases hbig : room < (z : Int)
 · have d1 : decide ((z : Int) > room) = true := decide_eq_true hbig
   have d2 : decide (room < (z : Int)) = true := decide_eq_true hbig
   have HG := hid hbig
   clear hbig
   go_wp2_with fail
   exact ⟨rfl, HB2.out, .inr ⟨HG.out, rfl⟩⟩
 have d1 : decide ((z : Int) > room) = false := decide_eq_false hbig
 have d2 : decide (room < (z : Int)) = false := decide_eq_false hbig
 have HG := hid hbig
 clear hbig
 go_wp2_with fail
 refine bodyPost_ret (v := .agg #[.slice A n c, .slice B m d]) (results_within (g := w.heap.size + 1) (by have := (HK4.out.set_ 0 (.slice A n c)).set_ 1 (.slice B m d); simpa using this) (by simp)) rfl ⟨?_, .inl ⟨HG.out, rfl⟩⟩
 exact (HB2.out.setCell (p := ⟨w.heap.size + 1, 0, none⟩) (Nat.le_succ _) _).setCell (p := ⟨w.heap.size + 1, 1, none⟩) (Nat.le_succ _) _
end Go.Proofs.Ytjoddliplahgkaa
