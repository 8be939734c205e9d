/- Programs that are read: the reader's two blocks; num, bad (book). -/
import Derived.Test.YtplecfbdchmogaaEOctO
import Derived.Test.YtplecfbdchmogaaECopyD
namespace Go.Proofs.Ytplecfbdchmogaa
open Go.Lib (hid)
set_option maxHeartbeats 2000000
set_option maxRecDepth 100000
open Go.RowKit
structure Rk where
 R : Nat → Prop
 g : Nat
 h : Nat
 n : Nat
 c : Nat
 A : Option Addr
 bs : List Nat
structure RqS (w0 : World) (κ : Rk) (s : Rd) (w : World) : Prop where
 st : ∃ k, RdS κ.R w0 κ.g κ.A κ.n κ.c κ.bs k s.err w ∧ s.rest = κ.bs.drop k
 blk : Blk w κ.h 83 #[.pointer (some ⟨κ.g, 0, none⟩), .bool s.odd]
 ne : κ.h ≠ κ.g
 ge : w0.heap.size ≤ κ.h
 off : ∀ q, κ.R q → q ≠ κ.h
abbrev MvK (κ : Rk) (w w' : World) : Prop := Moved (fun q => q = κ.g ∨ q = κ.h) none w w'
def RqE (w0 : World) (κ : Rk) (s : Rd) (w w' : World) : Prop := MvK κ w w' ∧ RqS w0 κ s w'
section
variable {w0 w w1 w' : World} {κ : Rk} {s q : Rd}
theorem RqS.g_lt (h : RqS w0 κ s w) : κ.g < w.heap.size := by
 obtain ⟨k, h1, _⟩ := h.st
 exact h1.lt
theorem RqS.h_lt (h : RqS w0 κ s w) : κ.h < w.heap.size := h.blk.lt
theorem RqS.size (h : RqS w0 κ s w) : w0.heap.size ≤ w.heap.size := by
 obtain ⟨k, h1, _⟩ := h.st
 exact h1.bel.size
theorem RqS.R_lt (h : RqS w0 κ s w) : ∀ q, κ.R q → q < w.heap.size := fun q hq => by
 obtain ⟨k, h1, _⟩ := h.st
 exact (h1.off q hq).1
theorem RqS.rd (h : RqS w0 κ s w) : ∃ k, RdS κ.R w0 κ.g κ.A κ.n κ.c κ.bs k s.err w ∧ s = ⟨κ.bs.drop k, s.err, s.odd⟩ := by
 obtain ⟨k, h1, h2⟩ := h.st
 exact ⟨k, h1, by rw [← h2]⟩
theorem RqS.below (h : RqS w0 κ s w) (hb : Below w.heap.size w w') : RqS w0 κ s w' := by
 obtain ⟨k, h1, h2⟩ := h.st
 exact ⟨⟨k, h1.below hb, h2⟩, h.blk.below hb h.blk.lt, h.ne, h.ge, h.off⟩
theorem MvK.trans_ (h : MvK κ w w1) (h2 : MvK κ w1 w') : MvK κ w w' := Moved.trans (row' := none) h h2 (fun _ e => by cases e)
theorem MvK.below (hb : Below w.heap.size w w') : MvK κ w w' := Moved.of_below hb
theorem mvk_g (h : Moved (fun q => q = κ.g) none w w') : MvK κ w w' := h.mono fun _ e => Or.inl e
theorem RqS.step (h : RqS w0 κ s w) (he : RdE κ.R w0 κ.g κ.A κ.n κ.c κ.bs q w w') (ho : q.odd = s.odd) : RqE w0 κ q w w' := by
 obtain ⟨hm, k, z, h1, h2, h3⟩ := he
 refine ⟨mvk_g hm, ⟨⟨k, by rw [h3]; exact h1, h2⟩, ?_, h.ne, h.ge, h.off⟩⟩
 rw [ho]
 exact h.blk.moved hm h.ne (by simp)
theorem rows_movedK {base sz m : Nat} {e : TypeId} {v : Value} {xs : List Value} (h : w.ownsRow base e sz v m xs) (hm : MvK κ w w') (hg : κ.g < base) (hh : κ.h < base) : w'.ownsRow base e sz v m xs := by
 obtain ⟨h1, h2⟩ := h
 refine ⟨h1, ?_⟩
 rcases h2 with h2 | ⟨b, cap, cur, hv, hb, hh2, r⟩
 · exact Or.inl h2
 subst hv
 refine Or.inr ⟨b, cap, cur, rfl, hb, (hm.block b (Array.getElem?_eq_some_iff.1 hh2).1 ?_ (by simp)).trans hh2, r⟩
 rintro (e | e) <;> omega
theorem RqS.grown {base : Nat} {row : Option Nat} (h : RqS w0 κ s w) (hg : w.grownBy w' row) (hne : ∀ b, row = some b → base ≤ b) (hR : ∀ q, κ.R q → q < base) (h1 : κ.g < base) (h2 : κ.h < base) (h0 : w0.heap.size ≤ base) : RqS w0 κ s w' := by
 obtain ⟨k, hk, hr⟩ := h.st
 exact ⟨⟨k, hk.grown hg hne hR h1 h0, hr⟩, h.blk.grown hg (fun e => by have := hne _ e.symm; omega), h.ne, h.ge, h.off⟩
theorem mvK_grown {row : Option Nat} (hm : MvK κ w w1) (hg : w1.grownBy w' row) (hne : ∀ b, row = some b → w.heap.size ≤ b) : MvK κ w w' := Moved.trans (row' := row) hm (Moved.of_grown hg) (fun b e => Or.inr (hne b e))
end
def RqI (w0 : World) (κ : Rk) (r : Int × Rd) (w : World) (e : Ending) (w' : World) : Prop := e = .returned (.int .i64 r.1) ∧ RqE w0 κ r.2 w w'
def RqT (w0 : World) (κ : Rk) (r : List Nd × Rd) (w : World) (e : Ending) (w' : World) : Prop := ∃ A n c, e = .returned (.slice A n c) ∧ TermR (fresh w w') w' A n c r.1 ∧ RqE w0 κ r.2 w w'
theorem rdSigned_odd (s : Rd) : (rdSigned s).2.odd = s.odd := rdNext_odd _ s
section
variable {w0 w : World} {κ : Rk} {s : Rd}
theorem knum_any (h : RqS w0 κ s w) (most : Nat) (hm : most ≤ 100000000) : Calls Try.prog 66 #[.pointer (some ⟨κ.g, 0, none⟩), .int .i64 (most : Int)] w (RqI w0 κ (rdInt most s) w) := by
 obtain ⟨k, h1, h2⟩ := h.rd
 have hc := onum_any h1 s.odd most hm
 rw [← h2] at hc
 exact hc.mono fun e w' ⟨a, b⟩ => ⟨a, h.step b (rdInt_odd most s)⟩
theorem ksigned_any (h : RqS w0 κ s w) : Calls Try.prog 68 #[.pointer (some ⟨κ.g, 0, none⟩)] w (RqI w0 κ (rdSigned s) w) := by
 obtain ⟨k, h1, h2⟩ := h.rd
 have hc := osigned_any h1 s.odd
 rw [← h2] at hc
 exact hc.mono fun e w' ⟨a, b⟩ => ⟨a, h.step b (rdSigned_odd s)⟩
theorem krow_any (h : RqS w0 κ s w) : Calls Try.prog 38 #[.pointer (some ⟨κ.g, 0, none⟩)] w (RqT w0 κ (rdRow s) w) := by
 obtain ⟨k, h1, h2⟩ := h.rd
 have hc := obrow_any h1 s.odd
 rw [← h2] at hc
 exact hc.mono fun e w' ⟨a, A', n', c', b, d⟩ => ⟨A', n', c', b, d, h.step a (rdRow_odd s)⟩
theorem kerr_any (h : RqS w0 κ s w) : Calls Try.prog 39 #[.pointer (some ⟨κ.g, 0, none⟩)] w (fun e w' => e = .returned (.int .i64 s.err) ∧ w' = w) := by
 obtain ⟨k, h1, h2⟩ := h.rd
 exact oerr_any h1
theorem rnum_any (h : RqS w0 κ s w) : Calls Try.prog 31 #[.pointer (some ⟨κ.h, 0, none⟩)] w (RqI w0 κ (rdInt 255 s) w) := by
 have HN := hid (knum_any h 255 (by decide))
 have z0 := h.blk.cell 0
 obtain ⟨q, hq⟩ : ∃ q, q = rdInt 255 s := ⟨_, rfl⟩
 rw [← hq] at HN ⊢
 obtain ⟨q1, q2⟩ := q
 clear h hq
 go_in
 go_wp2_with fail
 refine (HN.out).mono ?_
 rintro e w1 ⟨rfl, h1⟩
 have H1 := hid h1
 clear h1
 go_wp2_with fail
 go_ret
 exact ⟨rfl, H1.out⟩
theorem rbad_any (h : RqS w0 κ s w) : Calls Try.prog 67 #[.pointer (some ⟨κ.h, 0, none⟩)] w (fun e w' => e = .returned (.bool (chkB s)) ∧ w = w') := by
 have HN := hid (kerr_any h)
 have z0 := h.blk.cell 0
 have z1 := h.blk.cell 1
 have HCB : Hid (chkB s = (s.odd || s.err != 0)) := hid rfl
 obtain ⟨o, ho⟩ : ∃ o, o = s.odd := ⟨_, rfl⟩
 obtain ⟨z, hz⟩ : ∃ z, z = s.err := ⟨_, rfl⟩
 rw [← ho] at z1 HCB
 rw [← hz] at HN HCB
 rw [HCB.out]
 clear h ho hz HCB
 cases o
 all_goals
  go_in
  go_wp2_with fail
  first
   | (refine (HN.out).mono ?_; rintro e w1 ⟨rfl, rfl⟩; go_wp2_with fail)
   | skip
  go_ret
  exact ⟨rfl, rfl⟩
end
end Go.Proofs.Ytplecfbdchmogaa
