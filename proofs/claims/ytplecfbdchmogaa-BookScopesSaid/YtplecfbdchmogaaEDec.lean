/- Programs that are read: Decode (book). -/
import Derived.Test.YtplecfbdchmogaaERdO
import Derived.Test.YtplecfbdchmogaaEEnc
namespace Go.Proofs.Ytplecfbdchmogaa
open Go.Lib (hid)
open Go.RowKit
theorem rdTimes_all {α : Type} {chk : Rd → Bool} {f : Rdg α} {Q : α → Prop} (hf : ∀ s, Q (f s).1) : ∀ (k : Nat) (s : Rd), ∀ x ∈ (rdTimes chk f k s).1, Q x
 | 0, s, x, h => by cases h
 | k + 1, s, x, h => by
  simp only [rdTimes] at h
  split at h
  · cases h
  · split at h
    · cases h
    rcases List.mem_cons.1 h with rfl | h
    · exact hf s
    exact rdTimes_all hf k _ x h
theorem rdInt_bd (most : Nat) (s : Rd) : 0 ≤ (rdInt most s).1 ∧ (rdInt most s).1 ≤ most := by
 have := rdNext_le most s
 simp only [rdInt]
 omega
theorem rdBody_kind (k : Int) (s : Rd) : (rdBody k s).1.kind = k := by
 unfold rdBody
 by_cases h1 : k = 1
 · rw [if_pos h1]; exact h1.symm
 rw [if_neg h1]
 by_cases h2 : k = 2
 · rw [if_pos h2]; exact h2.symm
 rw [if_neg h2]
theorem rdEntry_kind (s : Rd) : 0 ≤ (rdEntry s).1.kind ∧ (rdEntry s).1.kind ≤ 2 := by
 simp only [rdEntry, Rdg.seq]
 rw [rdBody_kind]
 exact rdInt_bd 2 s
theorem rdPrim_bd (s : Rd) : (0 ≤ (rdPrim s).1.1 ∧ (rdPrim s).1.1 ≤ 255) ∧ 0 ≤ (rdPrim s).1.2 ∧ (rdPrim s).1.2 ≤ 255 := by
 simp only [rdPrim, Rdg.seq, Rdg.pure]
 exact ⟨rdInt_bd 255 _, rdInt_bd 255 _⟩
theorem rdPrim_odd (s : Rd) : (rdPrim s).2.odd = s.odd := by
 simp only [rdPrim, Rdg.seq, Rdg.pure, rdInt_odd]
theorem rdList_odd {α : Type} {chk : Rd → Bool} {f : Rdg α} {most : Nat} (hf : ∀ s, (f s).2.odd = s.odd) (s : Rd) : (rdList chk most f s).2.odd = s.odd := by
 simp only [rdList, Rdg.seq]
 rw [rdTimes_odd hf, rdNext_odd]
structure ProgQ (R : Nat → Prop) (w : World) (u : PgVal) (p : Pg) : Prop where
 orders : TermR R w u.bk.Ao u.bk.no u.bk.co p.book.orders
 entries : EnsQ R w u.bk.Ae u.bk.ne u.bk.ce p.book.entries
 prims : PrsQ R w u.bk.Ap u.bk.np u.bk.cp p.book.prims
 main : TermR R w u.Am u.nm u.cm p.main
 type : TermR R w u.At u.nt u.ct p.type
 nul : u.bk.Ap = none → u.bk.cp = 0
 vars : (Lit.int .i64 p.book.vars).wf = true
 nat : (Lit.int .i64 p.book.nat).wf = true
 kinds : ∀ x ∈ p.book.entries, (Lit.int .i64 x.kind).wf = true
 primsw : ∀ r ∈ p.book.prims, (Lit.int .i64 r.1).wf = true ∧ (Lit.int .i64 r.2).wf = true
theorem ProgQ.keep {R R' : Nat → Prop} {w w' : World} {u : PgVal} {p : Pg} (h : ProgQ R w u p) (hR : ∀ b, R b → R' b ∧ ∀ o, w'.cell? ⟨b, o, none⟩ = w.cell? ⟨b, o, none⟩) : ProgQ R' w' u p :=
 ⟨h.orders.keep hR, h.entries.keep hR, h.prims.keep hR, h.main.keep hR, h.type.keep hR, h.nul, h.vars, h.nat, h.kinds, h.primsw⟩
theorem ProgQ.progV {R : Nat → Prop} {w : World} {u : PgVal} {p : Pg} (h : ProgQ R w u p) (hR : ∀ b, R b → b < w.heap.size) : ProgV w u p :=
 have hk : ∀ b, R b → b < w.heap.size ∧ ∀ o, w.cell? ⟨b, o, none⟩ = w.cell? ⟨b, o, none⟩ := fun b hb => ⟨hR b hb, fun _ => rfl⟩
 ⟨⟨h.orders.keep hk, h.entries.ensV hR, h.prims.prsV hR, h.vars, h.nat, h.kinds, h.primsw⟩, h.main.keep hk, h.type.keep hk⟩
def nilU : PgVal := ⟨⟨none, 0, 0, none, 0, 0, none, 0, 0⟩, none, 0, 0, none, 0, 0⟩
theorem nilQ (R : Nat → Prop) (w : World) : ProgQ R w nilU nilPg :=
 ⟨TermR.nilR _ _, ⟨rfl, by decide, fun h => absurd h (by decide)⟩, ⟨rfl, by decide, fun h => absurd h (by decide)⟩, TermR.nilR _ _, TermR.nilR _ _, fun _ => rfl, by decide, by decide, (fun x h => by cases h), (fun x h => by cases h)⟩
def DecP (q : Pg × Int) (w : World) (e : Ending) (w' : World) : Prop := Below w.heap.size w w' ∧ ∃ u : PgVal, e = .returned (.tuple #[.agg (pgCells u q.1), .int .i64 q.2]) ∧ ProgQ (fresh w w') w' u q.1
theorem results_dec {w : World} {g : Nat} {c0 c1 c2 c3 c4 c5 c6 z : Value} {tmps : Array Value} (h : Blk w g 30 #[c0, c1, c2, c3, c4, c5, c6]) (ht : tmps.getD 2 undef = .pointer (some ⟨g, 0, none⟩)) (hz : tmps.getD 3 undef = z) :
 (results Try.f9 tmps).run Try.prog w = .ok (.tuple #[.agg #[c0, c1, c2, c3, c4, c5, c6], z]) w := by
 have hc := h.cell
 have ht' : tmps[2]?.getD undef = .pointer (some ⟨g, 0, none⟩) := by rw [← ht]; simp
 have hz' : tmps[3]?.getD undef = z := by rw [← hz]; simp
 simp [results, Try.results9, go_sem, ht', hz', hc]
theorem kleft_any {w0 w : World} {κ : Rk} {s : Rd} (h : RqS w0 κ s w) : Calls Try.prog 40 #[.pointer (some ⟨κ.g, 0, none⟩)] w (fun e w' => e = .returned (.int .i64 (s.rest.length : Int)) ∧ Below w.heap.size w w') := by
 obtain ⟨k, h1, h2⟩ := h.st
 have hc := oleft_any h1
 have e : κ.n - k = s.rest.length := by rw [h2, List.length_drop, h1.byt.len]
 rwa [e] at hc
theorem rdProg_eq {bs : List Nat} {x1 : Int} {os : List Nd} {es : List En} {s1 s2 s3 : Rd} (h1 : (x1, s1) = rdInt 255 ⟨bs, 0, false⟩) (h2 : (os, s2) = rdList chkB 255 rdOrder s1) (h3 : (es, s3) = rdList chkB 255 rdEntry s2) :
 (s3.odd = true → rdProg ⟨bs, 0, false⟩ = (⟨⟨x1, os, es, 0, []⟩, [], []⟩, s3)) ∧
 (s3.odd = false → ∀ (x4 : Int) (ps : List (Int × Int)) (m t : List Nd) (s4 s5 s6 s7 : Rd), (x4, s4) = rdInt 255 s3 → (ps, s5) = rdList chkB 255 rdPrim s4 → (m, s6) = rdRow s5 → (t, s7) = rdRow s6 → rdProg ⟨bs, 0, false⟩ = (⟨⟨x1, os, es, x4 - 1, ps⟩, m, t⟩, s7)) := by
 refine ⟨fun ho => ?_, fun ho x4 ps m t s4 s5 s6 s7 h4 h5 h6 h7 => ?_⟩
 · simp only [rdProg, rdHead, Rdg.seq, Rdg.pure, Rdg.guard, ← h1, ← h2, ← h3, ho, if_true]
   rfl
 simp only [rdProg, rdHead, rdTail, Rdg.seq, Rdg.pure, Rdg.guard, ← h1, ← h2, ← h3, ho, ← h4, ← h5, ← h6, ← h7, Bool.false_eq_true, if_false]
set_option linter.unusedSimpArgs false in
set_option linter.unusedVariables false in
set_option maxRecDepth 100000 in
set_option maxHeartbeats 16000000 in
theorem decode_any {w : World} {A : Option Addr} {n c : Nat} {bs : List Nat} (h : BytV w A n c bs) :
 Calls Try.prog 9 #[.slice A n c] w (DecP (decodeQ bs) w) := by
 have hmf : ∀ (fn : Fn) (first cap : Array Value) (w : World), (Instr.makeFunc fn first cap).run Try.prog w = .ok (.func fn first cap) w := fun _ _ _ _ => rfl
 have hb0 := below_alloc w (.cells #[.int .i64 0, .slice none 0 0, .slice none 0 0, .int .i64 0, .slice none 0 0, .slice none 0 0, .slice none 0 0] 30)
 have HB0 := hid hb0
 have HB2 := hid (Blk.new w 30 #[.int .i64 0, .slice none 0 0, .slice none 0 0, .int .i64 0, .slice none 0 0, .slice none 0 0, .slice none 0 0])
 have HNW := hid (onew_any (h.below hb0))
 obtain rfl := h.len
 have hfew := h.few
 obtain ⟨res, hres⟩ : ∃ r, r = decodeQ bs := ⟨_, rfl⟩
 rw [← hres]
 have HRES := hid hres
 have hs0 : (w.alloc (.cells #[.int .i64 0, .slice none 0 0, .slice none 0 0, .int .i64 0, .slice none 0 0, .slice none 0 0, .slice none 0 0] 30)).heap.size = w.heap.size + 1 := by simp
 have HS0 := hid hs0
 clear h hb0 hres hs0
 by_cases hbig : 65536 < bs.length
 · have d1 : decide ((bs.length : Int) > 65536) = true := decide_eq_true (by omega)
   have d2 : decide (65536 < (bs.length : Int)) = true := decide_eq_true (by omega)
   have d3 : decide (65536 < bs.length) = true := decide_eq_true hbig
   have HR : Hid (res = (nilPg, 6)) := hid (by rw [HRES.out]; unfold decodeQ; rw [if_pos hbig])
   clear hbig
   go_in
   go_wp2_with fail
   have HBL := HB0
   have HBE := HB2
   rw [HR.out]
   refine bodyPost_ret (v := .tuple #[.agg #[.int .i64 0, .slice none 0 0, .slice none 0 0, .int .i64 0, .slice none 0 0, .slice none 0 0, .slice none 0 0], .int .i64 6]) (by simp [results, Try.results9, go_sem]) rfl ⟨?_, nilU, rfl, nilQ _ _⟩
   exact HB0.out
 have d1 : decide ((bs.length : Int) > 65536) = false := decide_eq_false (by omega)
 have d2 : decide (65536 < (bs.length : Int)) = false := decide_eq_false (by omega)
 have d3 : decide (65536 < bs.length) = false := decide_eq_false hbig
 have HRES1 : Hid (res = if (rdProg ⟨bs, 0, false⟩).2.err ≠ 0 then (nilPg, (rdProg ⟨bs, 0, false⟩).2.err) else if (rdProg ⟨bs, 0, false⟩).2.odd = true ∨ (rdProg ⟨bs, 0, false⟩).2.rest ≠ [] then (nilPg, 3) else if progE (rdProg ⟨bs, 0, false⟩).1 ≠ 0 then (nilPg, progE (rdProg ⟨bs, 0, false⟩).1) else ((rdProg ⟨bs, 0, false⟩).1, 0)) := hid (by rw [HRES.out]; unfold decodeQ; rw [if_neg hbig])
 clear hbig
 obtain ⟨q1, hq1⟩ : ∃ q, q = rdInt 255 ⟨bs, 0, false⟩ := ⟨_, rfl⟩
 obtain ⟨x1, s1⟩ := q1
 obtain ⟨q2, hq2⟩ : ∃ q, q = rdList chkB 255 rdOrder s1 := ⟨_, rfl⟩
 obtain ⟨x2, s2⟩ := q2
 obtain ⟨q3, hq3⟩ : ∃ q, q = rdList chkB 255 rdEntry s2 := ⟨_, rfl⟩
 obtain ⟨x3, s3⟩ := q3
 have HEQ := hid (rdProg_eq hq1 hq2 hq3)
 have hv1 := rdInt_bd 255 ⟨bs, 0, false⟩
 rw [← hq1] at hv1
 have HV1 := hid hv1
 have HV3 : Hid (∀ x ∈ x3, 0 ≤ x.kind ∧ x.kind ≤ 2) := hid (by
  have h3 : x3 = (rdList chkB 255 rdEntry s2).1 := by rw [← hq3]
  rw [h3]
  exact rdTimes_all rdEntry_kind _ _)
 have HQ1 := hid hq1
 have HQ2 := hid hq2
 have HQ3 := hid hq3
 clear hq1 hq2 hq3 hv1
 go_in
 go_wp2_with fail
 refine (HNW.out).mono ?_
 rintro e w1 ⟨R, g, A1, c1, rfl, hrs, hR⟩
 have hbq := below_alloc w1 (.cells #[.pointer (some ⟨g, 0, none⟩), .bool false] 83)
 obtain ⟨κ, hkg, hkh, hkR, hst⟩ : ∃ κ : Rk, κ.g = g ∧ κ.h = w1.heap.size ∧ κ.R = R ∧ RqS (w.alloc (.cells #[.int .i64 0, .slice none 0 0, .slice none 0 0, .int .i64 0, .slice none 0 0, .slice none 0 0, .slice none 0 0] 30)) κ ⟨bs, 0, false⟩ (w1.alloc (.cells #[.pointer (some ⟨g, 0, none⟩), .bool false] 83)) :=
  ⟨⟨R, g, w1.heap.size, bs.length, c1, A1, bs⟩, rfl, rfl, rfl, ⟨⟨0, hrs.below hbq, rfl⟩, Blk.new _ _ _, by have := hrs.lt; simp only; omega, by have := hrs.bel.size; simpa using this, fun q hq => by have := (hrs.off q hq).1; simp only; omega⟩⟩
 subst hkg
 subst hkR
 have HKH := hid hkh
 have HB1 : Hid (Below w.heap.size w (w1.alloc (.cells #[.pointer (some ⟨κ.g, 0, none⟩), .bool false] 83))) := hid ((HB0.out.trans (hrs.bel.mono HB0.out.size)).trans (hbq.mono (HB0.out.trans (hrs.bel.mono HB0.out.size)).size))
 have HB2a := hid ((HB2.out.below hrs.bel HB2.out.lt).below hbq (Nat.lt_of_lt_of_le HB2.out.lt hrs.bel.size))
 have hwl : w.heap.size + 1 ≤ w1.heap.size := by have := hrs.bel.size; rw [HS0.out] at this; exact this
 have HWL := hid hwl
 have HBN : Hid (¬ (w.heap.size = κ.g ∨ w.heap.size = κ.h)) := hid (by
  have h1 := hrs.ge
  rw [HS0.out] at h1
  rw [hkh]
  rintro (e | e) <;> omega)
 have HGL := hid hst.g_lt
 have HHL := hid hst.h_lt
 have HRL := hid hst.R_lt
 have HW0 := hid hst.size
 have HGE : Hid (w.heap.size < κ.g) := hid (by have := hrs.ge; rw [HS0.out] at this; omega)
 have HRG : Hid (∀ q, κ.R q → w.heap.size < q) := hid (fun q hq => by have := hR q hq; rw [HS0.out] at this; omega)
 have hb5 := below_alloc (w1.alloc (.cells #[.pointer (some ⟨κ.g, 0, none⟩), .bool false] 83)) (.cells #[.int .i64 0, .slice none 0 0, .slice none 0 0, .int .i64 0, .slice none 0 0, .slice none 0 0, .slice none 0 0] 30)
 have HE0 := hid ((RqE.refl hst).below hb5)
 have HB30 : Hid (Blk ((w1.alloc (.cells #[.pointer (some ⟨κ.g, 0, none⟩), .bool false] 83)).alloc (.cells #[.int .i64 0, .slice none 0 0, .slice none 0 0, .int .i64 0, .slice none 0 0, .slice none 0 0, .slice none 0 0] 30)) (w1.heap.size + 1) 30 #[.int .i64 0, .slice none 0 0, .slice none 0 0, .int .i64 0, .slice none 0 0, .slice none 0 0, .slice none 0 0]) := hid (Blk.new' (by simp))
 have HB20 := hid (HB2a.out.below hb5 HB2a.out.lt)
 have HB23 : Hid (w.heap.size ≠ w1.heap.size + 1) := hid (by omega)
 have HSZ0 : Hid (w1.heap.size + 1 < ((w1.alloc (.cells #[.pointer (some ⟨κ.g, 0, none⟩), .bool false] 83)).alloc (.cells #[.int .i64 0, .slice none 0 0, .slice none 0 0, .int .i64 0, .slice none 0 0, .slice none 0 0, .slice none 0 0] 30)).heap.size) := hid (by simp)
 have HB00 := bto HB1 hb5
 clear hbq hkh hst hrs hR hwl hb5
 have HN1 := hid (rnum_any HE0.out.2)
 rw [← HQ1.out, HKH.out] at HN1
 go_wp2_with fail
 refine (HN1.out).mono ?_
 rintro e w1_ ⟨rfl, h1⟩
 simp only at h1 ⊢
 have HE1 := hid ((HE0.out.call h1).set (b := w1.heap.size + 1) (by simp) HGL.out HHL.out HRL.out HW0.out 0 (.int .i64 x1))
 have HB3r1 := hid (HB30.out.mvk h1.1 (by have := HGL.out; simpa using this) (by have := HHL.out; simpa using this))
 have HB2_1 := hid ((Blk.moved HB20.out h1.1 HBN.out (by simp)).far (p := ⟨w1.heap.size + 1, 0, none⟩) HB23.out (.int .i64 x1))
 have HB3_1 := hid (HB3r1.out.set_ 0 (.int .i64 x1))
 have HSZ1 : Hid (w1.heap.size + 1 < (w1_.setCell ⟨w1.heap.size + 1, 0, none⟩ (.int .i64 x1)).heap.size) := hid (by have := HSZ0.out; have := h1.1.size; rw [size_set]; omega)
 have y1 := HB3r1.out.cell
 have yf1 := HB3r1.out.frozen
 clear h1
 have HN2 := hid (manyO_any HE1.out.2)
 rw [← HQ2.out, HKH.out] at HN2
 go_wp2_with fail
 refine (HN2.out).mono ?_
 rintro e w2_ ⟨A2, n2, c2, rfl, ht2, h2⟩
 simp only at h2 ht2 ⊢
 have HE2 := hid ((HE1.out.call h2).set (b := w1.heap.size + 1) (by simp) HGL.out HHL.out HRL.out HW0.out 1 (.slice A2 n2 c2))
 have HB3r2 := hid (HB3_1.out.mvk h2.1 (by have := HGL.out; simpa using this) (by have := HHL.out; simpa using this))
 have HB2_2 := hid ((Blk.moved HB2_1.out h2.1 HBN.out (by simp)).far (p := ⟨w1.heap.size + 1, 1, none⟩) HB23.out (.slice A2 n2 c2))
 have HB3_2 := hid (HB3r2.out.set_ 1 (.slice A2 n2 c2))
 have HD2_2 := hid (ht2.keep (nb_new (lo := w1.heap.size + 1 + 1) (b := w1.heap.size + 1) HSZ1.out HSZ1.out 1 (.slice A2 n2 c2)))
 have HSZ2 : Hid (w1.heap.size + 1 < (w2_.setCell ⟨w1.heap.size + 1, 1, none⟩ (.slice A2 n2 c2)).heap.size) := hid (by have := HSZ1.out; have := h2.1.size; rw [size_set]; omega)
 have y2 := HB3r2.out.cell
 have yf2 := HB3r2.out.frozen
 clear h2 ht2
 clear y1 yf1
 have HN3 := hid (manyE_any HE2.out.2)
 rw [← HQ3.out, HKH.out] at HN3
 go_wp2_with fail
 refine (HN3.out).mono ?_
 rintro e w3_ ⟨A3, n3, c3, rfl, ht3, h3⟩
 simp only at h3 ht3 ⊢
 have HE3 := hid ((HE2.out.call h3).set (b := w1.heap.size + 1) (by simp) HGL.out HHL.out HRL.out HW0.out 2 (.slice A3 n3 c3))
 have HB3r3 := hid (HB3_2.out.mvk h3.1 (by have := HGL.out; simpa using this) (by have := HHL.out; simpa using this))
 have HB2_3 := hid ((Blk.moved HB2_2.out h3.1 HBN.out (by simp)).far (p := ⟨w1.heap.size + 1, 2, none⟩) HB23.out (.slice A3 n3 c3))
 have HB3_3 := hid (HB3r3.out.set_ 2 (.slice A3 n3 c3))
 have HD2_3 := hid (HD2_2.out.keep (nb_step h3.1 (by have := HGL.out; simp at this; omega) (by have := HHL.out; simp at this; omega) 2 (.slice A3 n3 c3)))
 have HD3_3 := hid (ht3.keep (nb_new (lo := w1.heap.size + 1 + 1) (b := w1.heap.size + 1) HSZ2.out HSZ2.out 2 (.slice A3 n3 c3)))
 have HSZ3 : Hid (w1.heap.size + 1 < (w3_.setCell ⟨w1.heap.size + 1, 2, none⟩ (.slice A3 n3 c3)).heap.size) := hid (by have := HSZ2.out; have := h3.1.size; rw [size_set]; omega)
 have y3 := HB3r3.out.cell
 have yf3 := HB3r3.out.frozen
 clear h3 ht3
 clear y2 yf2
 have HBL : Hid (Below w.heap.size w (w3_.setCell ⟨w1.heap.size + 1, 2, none⟩ (.slice A3 n3 c3))) := hid ((HB1.out.trans (HE3.out.1.to_below HB1.out.size (fun k hk => by have h1 := HWL.out; have h2 := HKH.out; have h3 := HGE.out; rcases hk with e | e <;> omega) (fun _ e => by cases e))))
 have y0 := HE3.out.2.blk.cell
 rw [HKH.out] at y0
 by_cases ho : s3.odd = true
 · have HPR := hid (HEQ.out.1 ho)
   have hr2 := HRES1.out
   rw [HPR.out] at hr2
   simp only at hr2
   have HER := hid (kerr_any HE3.out.2)
   rw [ho] at y0
   have yl := HB2_3.out.cell
   have yf := HB2_3.out.frozen
   have HBE := HB2_3
   obtain ⟨z, hz⟩ : ∃ z, z = s3.err := ⟨_, rfl⟩
   rw [← hz] at HER hr2
   by_cases hz0 : z = 0
   · have HR3 : Hid (res = (nilPg, 3)) := hid (by rw [hr2, if_neg (by simpa using hz0), if_pos (Or.inl ho)])
     have dz : (z != 0) = false := by rw [hz0]; rfl
     clear hr2 hz ho hz0
     go_wp2_with fail
     refine (HER.out).mono ?_
     rintro e w4_ ⟨rfl, rfl⟩
     go_wp2_with fail
     rw [HR3.out]
     refine bodyPost_ret (v := .tuple #[.agg #[.int .i64 0, .slice none 0 0, .slice none 0 0, .int .i64 0, .slice none 0 0, .slice none 0 0, .slice none 0 0], .int .i64 3]) (results_dec (g := w.heap.size) (z := .int .i64 3) (by have := (((((((HBE.out.set_ 0 (.int .i64 0)).set_ 1 (.slice none 0 0)).set_ 2 (.slice none 0 0)).set_ 3 (.int .i64 0)).set_ 4 (.slice none 0 0)).set_ 5 (.slice none 0 0)).set_ 6 (.slice none 0 0)); simpa using this) (by simp) (by simp)) rfl ⟨?_, nilU, rfl, nilQ _ _⟩
     exact HBL.out.grown (set7_grown _ w.heap.size (.int .i64 0) (.slice none 0 0) (.slice none 0 0) (.int .i64 0) (.slice none 0 0) (.slice none 0 0) (.slice none 0 0)) HBL.out.size (fun b e => by injection e with e; omega)
   have HR3 : Hid (res = (nilPg, z)) := hid (by rw [hr2, if_pos hz0])
   have dz : (z != 0) = true := by simpa using hz0
   clear hr2 hz ho hz0
   go_wp2_with fail
   refine (HER.out).mono ?_
   rintro e w4_ ⟨rfl, rfl⟩
   go_wp2_with fail
   refine (HER.out).mono ?_
   rintro e w5_ ⟨rfl, rfl⟩
   go_wp2_with fail
   rw [HR3.out]
   refine bodyPost_ret (v := .tuple #[.agg #[.int .i64 0, .slice none 0 0, .slice none 0 0, .int .i64 0, .slice none 0 0, .slice none 0 0, .slice none 0 0], .int .i64 z]) (results_dec (g := w.heap.size) (z := .int .i64 z) (by have := (((((((HBE.out.set_ 0 (.int .i64 0)).set_ 1 (.slice none 0 0)).set_ 2 (.slice none 0 0)).set_ 3 (.int .i64 0)).set_ 4 (.slice none 0 0)).set_ 5 (.slice none 0 0)).set_ 6 (.slice none 0 0)); simpa using this) (by simp) (by simp)) rfl ⟨?_, nilU, rfl, nilQ _ _⟩
   exact HBL.out.grown (set7_grown _ w.heap.size (.int .i64 0) (.slice none 0 0) (.slice none 0 0) (.int .i64 0) (.slice none 0 0) (.slice none 0 0) (.slice none 0 0)) HBL.out.size (fun b e => by injection e with e; omega)
 have ho : s3.odd = false := by simpa using ho
 have HPR0 := hid (HEQ.out.2 ho)
 obtain ⟨q4, hq4⟩ : ∃ q, q = rdInt 255 s3 := ⟨_, rfl⟩
 obtain ⟨x4, s4⟩ := q4
 obtain ⟨q5, hq5⟩ : ∃ q, q = rdList chkB 255 rdPrim s4 := ⟨_, rfl⟩
 obtain ⟨x5, s5⟩ := q5
 obtain ⟨q6, hq6⟩ : ∃ q, q = rdRow s5 := ⟨_, rfl⟩
 obtain ⟨x6, s6⟩ := q6
 obtain ⟨q7, hq7⟩ : ∃ q, q = rdRow s6 := ⟨_, rfl⟩
 obtain ⟨x7, s7⟩ := q7
 have HPR := hid (HPR0.out x4 x5 x6 x7 s4 s5 s6 s7 hq4 hq5 hq6 hq7)
 have hv4 := rdInt_bd 255 s3
 rw [← hq4] at hv4
 simp only at hv4
 have hv4a : 0 ≤ x4 := hv4.1
 have hv4b : x4 ≤ 255 := by have := hv4.2; omega
 have HV5 : Hid (∀ x ∈ x5, (0 ≤ x.1 ∧ x.1 ≤ 255) ∧ 0 ≤ x.2 ∧ x.2 ≤ 255) := hid (by
  have h3 : x5 = (rdList chkB 255 rdPrim s4).1 := by rw [← hq5]
  rw [h3]
  exact rdTimes_all rdPrim_bd _ _)
 have HO7 : Hid (s7.odd = false) := hid (by
  have e4 := rdInt_odd 255 s3
  have e5 := rdList_odd (chk := chkB) (most := 255) rdPrim_odd s4
  have e6 := rdRow_odd s5
  have e7 := rdRow_odd s6
  rw [← hq4] at e4
  rw [← hq5] at e5
  rw [← hq6] at e6
  rw [← hq7] at e7
  rw [e7, e6, e5, e4, ho])
 have HQ4 := hid hq4
 have HQ5 := hid hq5
 have HQ6 := hid hq6
 have HQ7 := hid hq7
 have hr2 := HRES1.out
 rw [HPR.out] at hr2
 simp only at hr2
 have HR2 := hid hr2
 rw [ho] at y0
 clear hq4 hq5 hq6 hq7 hv4 ho hr2 HBL
 have y00 := y0 1
 clear y0
 have HN4 := hid (rnum_any HE3.out.2)
 rw [← HQ4.out, HKH.out] at HN4
 go_wp2_with fail
 refine (HN4.out).mono ?_
 rintro e w4_ ⟨rfl, h4⟩
 simp only at h4 ⊢
 have HE4 := hid ((HE3.out.call h4).set (b := w1.heap.size + 1) (by simp) HGL.out HHL.out HRL.out HW0.out 3 (.int .i64 (x4 - 1)))
 have HB3r4 := hid (HB3_3.out.mvk h4.1 (by have := HGL.out; simpa using this) (by have := HHL.out; simpa using this))
 have HB2_4 := hid ((Blk.moved HB2_3.out h4.1 HBN.out (by simp)).far (p := ⟨w1.heap.size + 1, 3, none⟩) HB23.out (.int .i64 (x4 - 1)))
 have HB3_4 := hid (HB3r4.out.set_ 3 (.int .i64 (x4 - 1)))
 have HD2_4 := hid (HD2_3.out.keep (nb_step h4.1 (by have := HGL.out; simp at this; omega) (by have := HHL.out; simp at this; omega) 3 (.int .i64 (x4 - 1))))
 have HD3_4 := hid (HD3_3.out.keep (nb_step h4.1 (by have := HGL.out; simp at this; omega) (by have := HHL.out; simp at this; omega) 3 (.int .i64 (x4 - 1))))
 have HSZ4 : Hid (w1.heap.size + 1 < (w4_.setCell ⟨w1.heap.size + 1, 3, none⟩ (.int .i64 (x4 - 1))).heap.size) := hid (by have := HSZ3.out; have := h4.1.size; rw [size_set]; omega)
 have y4 := HB3r4.out.cell
 have yf4 := HB3r4.out.frozen
 clear h4 y00
 clear y3 yf3
 have HN5 := hid (manyP_any HE4.out.2)
 rw [← HQ5.out, HKH.out] at HN5
 go_wp2_with fail
 refine (HN5.out).mono ?_
 rintro e w5_ ⟨A5, n5, c5, rfl, ht5, hnl, h5⟩
 simp only at h5 ht5 ⊢
 have HE5 := hid ((HE4.out.call h5).set (b := w1.heap.size + 1) (by simp) HGL.out HHL.out HRL.out HW0.out 4 (.slice A5 n5 c5))
 have HB3r5 := hid (HB3_4.out.mvk h5.1 (by have := HGL.out; simpa using this) (by have := HHL.out; simpa using this))
 have HB2_5 := hid ((Blk.moved HB2_4.out h5.1 HBN.out (by simp)).far (p := ⟨w1.heap.size + 1, 4, none⟩) HB23.out (.slice A5 n5 c5))
 have HB3_5 := hid (HB3r5.out.set_ 4 (.slice A5 n5 c5))
 have HD2_5 := hid (HD2_4.out.keep (nb_step h5.1 (by have := HGL.out; simp at this; omega) (by have := HHL.out; simp at this; omega) 4 (.slice A5 n5 c5)))
 have HD3_5 := hid (HD3_4.out.keep (nb_step h5.1 (by have := HGL.out; simp at this; omega) (by have := HHL.out; simp at this; omega) 4 (.slice A5 n5 c5)))
 have HD5_5 := hid (ht5.keep (nb_new (lo := w1.heap.size + 1 + 1) (b := w1.heap.size + 1) HSZ4.out HSZ4.out 4 (.slice A5 n5 c5)))
 have HSZ5 : Hid (w1.heap.size + 1 < (w5_.setCell ⟨w1.heap.size + 1, 4, none⟩ (.slice A5 n5 c5)).heap.size) := hid (by have := HSZ4.out; have := h5.1.size; rw [size_set]; omega)
 have y5 := HB3r5.out.cell
 have yf5 := HB3r5.out.frozen
 have HNL := hid hnl
 clear h5 ht5 hnl
 clear y4 yf4
 have HN6 := hid (krow_any HE5.out.2)
 rw [← HQ6.out] at HN6
 have y0 := HE5.out.2.blk.cell 0
 rw [HKH.out] at y0
 go_wp2_with fail
 refine (HN6.out).mono ?_
 rintro e w6_ ⟨A6, n6, c6, rfl, ht6, h6⟩
 simp only at h6 ht6 ⊢
 have HE6 := hid ((HE5.out.call h6).set (b := w1.heap.size + 1) (by simp) HGL.out HHL.out HRL.out HW0.out 5 (.slice A6 n6 c6))
 have HB3r6 := hid (HB3_5.out.mvk h6.1 (by have := HGL.out; simpa using this) (by have := HHL.out; simpa using this))
 have HB2_6 := hid ((Blk.moved HB2_5.out h6.1 HBN.out (by simp)).far (p := ⟨w1.heap.size + 1, 5, none⟩) HB23.out (.slice A6 n6 c6))
 have HB3_6 := hid (HB3r6.out.set_ 5 (.slice A6 n6 c6))
 have HD2_6 := hid (HD2_5.out.keep (nb_step h6.1 (by have := HGL.out; simp at this; omega) (by have := HHL.out; simp at this; omega) 5 (.slice A6 n6 c6)))
 have HD3_6 := hid (HD3_5.out.keep (nb_step h6.1 (by have := HGL.out; simp at this; omega) (by have := HHL.out; simp at this; omega) 5 (.slice A6 n6 c6)))
 have HD5_6 := hid (HD5_5.out.keep (nb_step h6.1 (by have := HGL.out; simp at this; omega) (by have := HHL.out; simp at this; omega) 5 (.slice A6 n6 c6)))
 have HD6_6 := hid (ht6.keep (nb_new (lo := w1.heap.size + 1 + 1) (b := w1.heap.size + 1) HSZ5.out HSZ5.out 5 (.slice A6 n6 c6)))
 have HSZ6 : Hid (w1.heap.size + 1 < (w6_.setCell ⟨w1.heap.size + 1, 5, none⟩ (.slice A6 n6 c6)).heap.size) := hid (by have := HSZ5.out; have := h6.1.size; rw [size_set]; omega)
 have y6 := HB3r6.out.cell
 have yf6 := HB3r6.out.frozen
 clear h6 ht6 y0
 clear y5 yf5
 have HN7 := hid (krow_any HE6.out.2)
 rw [← HQ7.out] at HN7
 have y0 := HE6.out.2.blk.cell 0
 rw [HKH.out] at y0
 go_wp2_with fail
 refine (HN7.out).mono ?_
 rintro e w7_ ⟨A7, n7, c7, rfl, ht7, h7⟩
 simp only at h7 ht7 ⊢
 have HE7 := hid ((HE6.out.call h7).set (b := w1.heap.size + 1) (by simp) HGL.out HHL.out HRL.out HW0.out 6 (.slice A7 n7 c7))
 have HB3r7 := hid (HB3_6.out.mvk h7.1 (by have := HGL.out; simpa using this) (by have := HHL.out; simpa using this))
 have HB2_7 := hid ((Blk.moved HB2_6.out h7.1 HBN.out (by simp)).far (p := ⟨w1.heap.size + 1, 6, none⟩) HB23.out (.slice A7 n7 c7))
 have HB3_7 := hid (HB3r7.out.set_ 6 (.slice A7 n7 c7))
 have HD2_7 := hid (HD2_6.out.keep (nb_step h7.1 (by have := HGL.out; simp at this; omega) (by have := HHL.out; simp at this; omega) 6 (.slice A7 n7 c7)))
 have HD3_7 := hid (HD3_6.out.keep (nb_step h7.1 (by have := HGL.out; simp at this; omega) (by have := HHL.out; simp at this; omega) 6 (.slice A7 n7 c7)))
 have HD5_7 := hid (HD5_6.out.keep (nb_step h7.1 (by have := HGL.out; simp at this; omega) (by have := HHL.out; simp at this; omega) 6 (.slice A7 n7 c7)))
 have HD6_7 := hid (HD6_6.out.keep (nb_step h7.1 (by have := HGL.out; simp at this; omega) (by have := HHL.out; simp at this; omega) 6 (.slice A7 n7 c7)))
 have HD7_7 := hid (ht7.keep (nb_new (lo := w1.heap.size + 1 + 1) (b := w1.heap.size + 1) HSZ6.out HSZ6.out 6 (.slice A7 n7 c7)))
 have HSZ7 : Hid (w1.heap.size + 1 < (w7_.setCell ⟨w1.heap.size + 1, 6, none⟩ (.slice A7 n7 c7)).heap.size) := hid (by have := HSZ6.out; have := h7.1.size; rw [size_set]; omega)
 have y7 := HB3r7.out.cell
 have yf7 := HB3r7.out.frozen
 clear h7 ht7 y0
 clear y6 yf6
 have HBL : Hid (Below w.heap.size w (w7_.setCell ⟨w1.heap.size + 1, 6, none⟩ (.slice A7 n7 c7))) := hid ((HB1.out.trans (HE7.out.1.to_below HB1.out.size (fun k hk => by have h1 := HWL.out; have h2 := HKH.out; have h3 := HGE.out; rcases hk with e | e <;> omega) (fun _ e => by cases e))))
 have HPQ : Hid (ProgQ (Nb (w1.heap.size + 1 + 1) (w1.heap.size + 1) (w7_.setCell ⟨w1.heap.size + 1, 6, none⟩ (.slice A7 n7 c7))) (w7_.setCell ⟨w1.heap.size + 1, 6, none⟩ (.slice A7 n7 c7)) ⟨⟨A2, n2, c2, A3, n3, c3, A5, n5, c5⟩, A6, n6, c6, A7, n7, c7⟩ ⟨⟨x1, x2, x3, x4 - 1, x5⟩, x6, x7⟩) := hid
  ⟨HD2_7.out, HD3_7.out, HD5_7.out, HD6_7.out, HD7_7.out, HNL.out, WalkArith.wf_i64 ⟨by have := HV1.out; simp only at this ⊢; omega, by have := HV1.out; simp only at this ⊢; omega⟩, WalkArith.wf_i64 ⟨by simp only; omega, by simp only; omega⟩, fun x hx => WalkArith.wf_i64 ⟨by have := HV3.out x hx; omega, by have := HV3.out x hx; omega⟩, fun x hx => ⟨WalkArith.wf_i64 ⟨by have := HV5.out x hx; omega, by have := HV5.out x hx; omega⟩, WalkArith.wf_i64 ⟨by have := HV5.out x hx; omega, by have := HV5.out x hx; omega⟩⟩⟩
 have HER := hid (kerr_any HE7.out.2)
 have HLF := hid (kleft_any HE7.out.2)
 have y0 := HE7.out.2.blk.cell
 rw [HKH.out, HO7.out] at y0
 have yl := HB2_7.out.cell
 have yf := HB2_7.out.frozen
 obtain ⟨z, hz⟩ : ∃ z, z = s7.err := ⟨_, rfl⟩
 rw [← hz] at HER HR2
 by_cases hz0 : z = 0
 rotate_left
 · have HR3 : Hid (res = (nilPg, z)) := hid (by rw [HR2.out, if_pos hz0])
   have dz : (z != 0) = true := by simpa using hz0
   have HBE := HB2_7
   clear hz hz0
   go_wp2_with fail
   refine (HER.out).mono ?_
   rintro e w8_ ⟨rfl, rfl⟩
   go_wp2_with fail
   refine (HER.out).mono ?_
   rintro e w9_ ⟨rfl, rfl⟩
   go_wp2_with fail
   rw [HR3.out]
   refine bodyPost_ret (v := .tuple #[.agg #[.int .i64 0, .slice none 0 0, .slice none 0 0, .int .i64 0, .slice none 0 0, .slice none 0 0, .slice none 0 0], .int .i64 z]) (results_dec (g := w.heap.size) (z := .int .i64 z) (by have := (((((((HBE.out.set_ 0 (.int .i64 0)).set_ 1 (.slice none 0 0)).set_ 2 (.slice none 0 0)).set_ 3 (.int .i64 0)).set_ 4 (.slice none 0 0)).set_ 5 (.slice none 0 0)).set_ 6 (.slice none 0 0)); simpa using this) (by simp) (by simp)) rfl ⟨?_, nilU, rfl, nilQ _ _⟩
   exact HBL.out.grown (set7_grown _ w.heap.size (.int .i64 0) (.slice none 0 0) (.slice none 0 0) (.int .i64 0) (.slice none 0 0) (.slice none 0 0) (.slice none 0 0)) HBL.out.size (fun b e => by injection e with e; omega)
 have dz : (z != 0) = false := by rw [hz0]; rfl
 have HR3 : Hid (res = if s7.rest ≠ [] then (nilPg, 3) else if progE ⟨⟨x1, x2, x3, x4 - 1, x5⟩, x6, x7⟩ ≠ 0 then (nilPg, progE ⟨⟨x1, x2, x3, x4 - 1, x5⟩, x6, x7⟩) else (⟨⟨x1, x2, x3, x4 - 1, x5⟩, x6, x7⟩, 0)) := hid (by
  rw [HR2.out, if_neg (by simpa using hz0)]
  by_cases hr : s7.rest ≠ []
  · rw [if_pos (Or.inr hr), if_pos hr]
  rw [if_neg (by rintro (h | h); (rw [HO7.out] at h; cases h); exact hr h), if_neg hr])
 obtain ⟨m, hm⟩ : ∃ m, m = s7.rest.length := ⟨_, rfl⟩
 rw [← hm] at HLF
 clear hz hz0
 by_cases hr : s7.rest = []
 rotate_left
 · have hmp : 0 < m := by rw [hm]; exact List.length_pos_iff.2 hr
   have e1 : decide ((m : Int) > 0) = true := decide_eq_true (by omega)
   have e2 : decide (0 < m) = true := decide_eq_true hmp
   have HR4 : Hid (res = (nilPg, 3)) := hid (by rw [HR3.out, if_pos hr])
   clear hm hr hmp
   go_wp2_with fail
   refine (HER.out).mono ?_
   rintro e w8_ ⟨rfl, rfl⟩
   go_wp2_with fail
   refine (HLF.out).mono ?_
   rintro e w9_ ⟨rfl, hb9⟩
   have HBE := hid (HB2_7.out.below hb9 HB2_7.out.lt)
   have HBL9 := bto HBL hb9
   clear HBL yl yf
   have HBL := HBL9
   have yl := HBE.out.cell
   have yf := HBE.out.frozen
   clear hb9
   go_wp2_with fail
   rw [HR4.out]
   refine bodyPost_ret (v := .tuple #[.agg #[.int .i64 0, .slice none 0 0, .slice none 0 0, .int .i64 0, .slice none 0 0, .slice none 0 0, .slice none 0 0], .int .i64 3]) (results_dec (g := w.heap.size) (z := .int .i64 3) (by have := (((((((HBE.out.set_ 0 (.int .i64 0)).set_ 1 (.slice none 0 0)).set_ 2 (.slice none 0 0)).set_ 3 (.int .i64 0)).set_ 4 (.slice none 0 0)).set_ 5 (.slice none 0 0)).set_ 6 (.slice none 0 0)); simpa using this) (by simp) (by simp)) rfl ⟨?_, nilU, rfl, nilQ _ _⟩
   exact HBL.out.grown (set7_grown _ w.heap.size (.int .i64 0) (.slice none 0 0) (.slice none 0 0) (.int .i64 0) (.slice none 0 0) (.slice none 0 0) (.slice none 0 0)) HBL.out.size (fun b e => by injection e with e; omega)
 obtain rfl : m = 0 := by rw [hm, hr]; rfl
 have HR4 : Hid (res = if progE ⟨⟨x1, x2, x3, x4 - 1, x5⟩, x6, x7⟩ ≠ 0 then (nilPg, progE ⟨⟨x1, x2, x3, x4 - 1, x5⟩, x6, x7⟩) else (⟨⟨x1, x2, x3, x4 - 1, x5⟩, x6, x7⟩, 0)) := hid (by rw [HR3.out, if_neg (by simpa using hr)])
 clear hm hr
 go_wp2_with fail
 refine (HER.out).mono ?_
 rintro e w8_ ⟨rfl, rfl⟩
 go_wp2_with fail
 refine (HLF.out).mono ?_
 rintro e w9_ ⟨rfl, hb9⟩
 have HPQ9 := hid (HPQ.out.keep fun q hq => ⟨(⟨hq.1, Nat.lt_of_lt_of_le hq.2.1 hb9.size, hq.2.2⟩ : Nb (w1.heap.size + 1 + 1) (w1.heap.size + 1) w9_ q), fun o => hb9.cell (p := ⟨q, o, none⟩) hq.2.1⟩)
 have HBE := hid (HB2_7.out.below hb9 HB2_7.out.lt)
 have HB39 := hid (HB3_7.out.below hb9 HB3_7.out.lt)
 have HBL9 := bto HBL hb9
 have HFT := hid (pfits_any (HPQ9.out.progV fun q hq => hq.2.1))
 clear yl yf
 have yl := HB39.out.cell
 clear hb9
 obtain ⟨z, hz⟩ : ∃ z, z = progE ⟨⟨x1, x2, x3, x4 - 1, x5⟩, x6, x7⟩ := ⟨_, rfl⟩
 rw [← hz] at HFT HR4
 clear hz
 go_wp2_with fail
 refine (HFT.out).mono ?_
 rintro e w10_ ⟨rfl, hb10⟩
 have HPQ10 := hid (HPQ9.out.keep fun q hq => ⟨(⟨hq.1, Nat.lt_of_lt_of_le hq.2.1 hb10.size, hq.2.2⟩ : Nb (w1.heap.size + 1 + 1) (w1.heap.size + 1) w10_ q), fun o => hb10.cell (p := ⟨q, o, none⟩) hq.2.1⟩)
 have HBE10 := hid (HBE.out.below hb10 HBE.out.lt)
 have HB310 := hid (HB39.out.below hb10 HB39.out.lt)
 have HBL10 := bto HBL9 hb10
 clear HBE HBL yl hb10
 have HBE := HBE10
 have HBL := HBL10
 have yl := HBE.out.cell
 have yf := HBE.out.frozen
 have ym := HB310.out.cell
 by_cases hz0 : z = 0
 rotate_left
 · have HR5 : Hid (res = (nilPg, z)) := hid (by rw [HR4.out, if_pos hz0])
   have dz2 : (z != 0) = true := by simpa using hz0
   clear hz0
   go_wp2_with fail
   rw [HR5.out]
   refine bodyPost_ret (v := .tuple #[.agg #[.int .i64 0, .slice none 0 0, .slice none 0 0, .int .i64 0, .slice none 0 0, .slice none 0 0, .slice none 0 0], .int .i64 z]) (results_dec (g := w.heap.size) (z := .int .i64 z) (by have := (((((((HBE.out.set_ 0 (.int .i64 0)).set_ 1 (.slice none 0 0)).set_ 2 (.slice none 0 0)).set_ 3 (.int .i64 0)).set_ 4 (.slice none 0 0)).set_ 5 (.slice none 0 0)).set_ 6 (.slice none 0 0)); simpa using this) (by simp) (by simp)) rfl ⟨?_, nilU, rfl, nilQ _ _⟩
   exact HBL.out.grown (set7_grown _ w.heap.size (.int .i64 0) (.slice none 0 0) (.slice none 0 0) (.int .i64 0) (.slice none 0 0) (.slice none 0 0) (.slice none 0 0)) HBL.out.size (fun b e => by injection e with e; omega)
 have HR5 : Hid (res = (⟨⟨x1, x2, x3, x4 - 1, x5⟩, x6, x7⟩, 0)) := hid (by rw [HR4.out, if_neg (by simpa using hz0)])
 have dz2 : (z != 0) = false := by rw [hz0]; rfl
 clear hz0
 go_wp2_with fail
 rw [HR5.out]
 have hF := set7_grown w10_ w.heap.size (.int .i64 x1) (.slice A2 n2 c2) (.slice A3 n3 c3) (.int .i64 (x4 - 1)) (.slice A5 n5 c5) (.slice A6 n6 c6) (.slice A7 n7 c7)
 refine bodyPost_ret (v := .tuple #[.agg #[.int .i64 x1, .slice A2 n2 c2, .slice A3 n3 c3, .int .i64 (x4 - 1), .slice A5 n5 c5, .slice A6 n6 c6, .slice A7 n7 c7], .int .i64 0]) (results_dec (g := w.heap.size) (z := .int .i64 0) (by have := (((((((HBE.out.set_ 0 (.int .i64 x1)).set_ 1 (.slice A2 n2 c2)).set_ 2 (.slice A3 n3 c3)).set_ 3 (.int .i64 (x4 - 1))).set_ 4 (.slice A5 n5 c5)).set_ 5 (.slice A6 n6 c6)).set_ 6 (.slice A7 n7 c7)); simpa using this) (by simp) (by simp)) rfl ⟨?_, ⟨⟨A2, n2, c2, A3, n3, c3, A5, n5, c5⟩, A6, n6, c6, A7, n7, c7⟩, rfl, HPQ10.out.keep (nb_end hF (by have := HWL.out; omega) (by have := HWL.out; omega))⟩
 exact HBL.out.grown hF HBL.out.size (fun b e => by injection e with e; omega)
end Go.Proofs.Ytplecfbdchmogaa
