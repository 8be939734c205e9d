/- Programs as bytes: plain. -/
import Derived.Test.YtplecfbdchmogaaERdP
namespace Go.Proofs.Ytplecfbdchmogaa
open Go.RowKit
def Rdg.guard {α : Type} (d : α) (g : Rdg α) : Rdg α := fun s => if s.odd then (d, s) else g s
theorem Reads.guard {α : Type} {g : Rdg α} {e : α → List Nat} {P : α → Prop} (hg : Reads g e P) (d : α) : Reads (Rdg.guard d g) e P where
 stays := ⟨fun s h => by
  unfold Rdg.guard
  split
  · rfl
  · exact hg.stays.err s h, fun s h => by
  unfold Rdg.guard
  rw [if_pos h]
  exact h⟩
 form x r hx := hg.form x r hx
 cut x p hx hp := hg.cut x p hx hp
 back s hb he ho := by
  unfold Rdg.guard at he ho ⊢
  by_cases h : s.odd = true
  · rw [if_pos h] at ho; rw [h] at ho; cases ho
  rw [if_neg h] at he ho ⊢
  exact hg.back s hb he ho
 bytes := hg.bytes
structure Pg where
 book : Bk
 main : List Nd
 type : List Nd
def nilBk : Bk := ⟨0, [], [], 0, []⟩
def nilPg : Pg := ⟨nilBk, [], []⟩
def rdTail : Rdg (Int × List (Int × Int) × List Nd × List Nd) :=
 Rdg.seq (rdInt 255) fun n => Rdg.seq (Rdg.seq (rdList chkB 255 rdPrim) fun ps => Rdg.seq (Rdg.seq rdRow fun m => Rdg.seq rdRow fun t => Rdg.pure (m, t)) fun q => Rdg.pure (ps, q)) fun q => Rdg.pure (n, q)
def rdHead : Rdg (Int × List Nd × List En) :=
 Rdg.seq (rdInt 255) fun v => Rdg.seq (rdList chkB 255 rdOrder) fun os => Rdg.seq (rdList chkB 255 rdEntry) fun es => Rdg.pure (v, os, es)
def rdProg : Rdg Pg := fun s =>
 let q := (Rdg.seq rdHead fun h => Rdg.seq (Rdg.guard (1, [], [], []) rdTail) fun t => Rdg.pure (h, t)) s
 (⟨⟨q.1.1.1, q.1.1.2.1, q.1.1.2.2, q.1.2.1 - 1, q.1.2.2.1⟩, q.1.2.2.2.1, q.1.2.2.2.2⟩, q.2)
def ordersW (os : List Nd) : Prop := os.length ≤ 255 ∧ ∀ o ∈ os, orderW o
def entriesW (es : List En) : Prop := es.length ≤ 255 ∧ ∀ x ∈ es, entryW x
def primsW (ps : List (Int × Int)) : Prop := ps.length ≤ 255 ∧ ∀ x ∈ ps, primW x
def progW (p : Pg) : Prop := ((0 ≤ p.book.vars ∧ p.book.vars ≤ 255) ∧ ordersW p.book.orders ∧ entriesW p.book.entries) ∧ (0 ≤ p.book.nat + 1 ∧ p.book.nat + 1 ≤ 255) ∧ primsW p.book.prims ∧ rowW p.main ∧ rowW p.type
def pgBs (p : Pg) : List Nat := progBs p.book p.main p.type
theorem reads_prog : Reads rdProg pgBs progW := by
 have h1 : Reads rdHead _ _ := reads_three (reads_int (most := 255) (by decide)) (reads_list (most := 255) (by decide) reads_order looks_B) (reads_list (most := 255) (by decide) reads_entry looks_B) (fun v os es => (v, os, es)) Prod.fst (fun q => q.2.1) (fun q => q.2.2) (fun _ _ _ => rfl) (fun _ _ _ => rfl) (fun _ _ _ => rfl) fun _ => rfl
 have h2 : Reads (Rdg.seq rdRow fun m => Rdg.seq rdRow fun t => Rdg.pure (m, t)) _ _ := reads_row.two reads_row Prod.mk Prod.fst Prod.snd (fun _ _ => rfl) (fun _ _ => rfl) (fun _ => rfl)
 have h3 : Reads (Rdg.seq (rdList chkB 255 rdPrim) fun ps => Rdg.seq (Rdg.seq rdRow fun m => Rdg.seq rdRow fun t => Rdg.pure (m, t)) fun q => Rdg.pure (ps, q)) _ _ := (reads_list (most := 255) (by decide) reads_prim looks_B).two h2 Prod.mk Prod.fst Prod.snd (fun _ _ => rfl) (fun _ _ => rfl) (fun _ => rfl)
 have h4 : Reads rdTail _ _ := (reads_int (most := 255) (by decide)).two h3 Prod.mk Prod.fst Prod.snd (fun _ _ => rfl) (fun _ _ => rfl) (fun _ => rfl)
 have h5 : Reads (Rdg.seq rdHead fun h => Rdg.seq (Rdg.guard (1, [], [], []) rdTail) fun t => Rdg.pure (h, t)) _ _ := h1.two (h4.guard (1, [], [], [])) Prod.mk Prod.fst Prod.snd (fun _ _ => rfl) (fun _ _ => rfl) (fun _ => rfl)
 have h6 := h5.map (fun q => (⟨⟨q.1.1, q.1.2.1, q.1.2.2, q.2.1 - 1, q.2.2.1⟩, q.2.2.2.1, q.2.2.2.2⟩ : Pg)) (fun p => ((p.book.vars, p.book.orders, p.book.entries), (p.book.nat + 1, p.book.prims, p.main, p.type)))
  (fun q => by simp [Int.sub_add_cancel]) progW (fun p hp => ⟨by
   obtain ⟨⟨v, os, es, n, ps⟩, m, t⟩ := p
   simp [Int.add_sub_cancel], hp⟩) (fun q hq => by
   unfold progW
   simp only [Int.sub_add_cancel]
   exact hq)
 exact h6.write fun p => by simp [pgBs, progBs, bookBs]
def progE (p : Pg) : Int := if rightE p.book ≠ 0 then rightE p.book else if fitsE p.book 0 p.main ≠ 0 then fitsE p.book 0 p.main else fitsE p.book 0 p.type
def encodeQ (p : Pg) : List Nat × Int := if progE p ≠ 0 then ([], progE p) else if 65536 < (pgBs p).length then ([], 6) else (pgBs p, 0)
def decodeQ (bs : List Nat) : Pg × Int :=
 if 65536 < bs.length then (nilPg, 6)
 else if (rdProg ⟨bs, 0, false⟩).2.err ≠ 0 then (nilPg, (rdProg ⟨bs, 0, false⟩).2.err)
 else if (rdProg ⟨bs, 0, false⟩).2.odd = true ∨ (rdProg ⟨bs, 0, false⟩).2.rest ≠ [] then (nilPg, 3)
 else if progE (rdProg ⟨bs, 0, false⟩).1 ≠ 0 then (nilPg, progE (rdProg ⟨bs, 0, false⟩).1)
 else ((rdProg ⟨bs, 0, false⟩).1, 0)
theorem decode_back {p : Pg} (hw : progW p) (he : (encodeQ p).2 = 0) : (encodeQ p).1 = pgBs p ∧ decodeQ (pgBs p) = (p, 0) := by
 unfold encodeQ at he ⊢
 by_cases h1 : progE p ≠ 0
 · rw [if_pos h1] at he; exact absurd he h1
 rw [if_neg h1] at he ⊢
 by_cases h2 : 65536 < (pgBs p).length
 · rw [if_pos h2] at he; cases he
 rw [if_neg h2]
 refine ⟨rfl, ?_⟩
 have h := reads_prog.form p [] hw
 rw [List.append_nil] at h
 unfold decodeQ
 rw [if_neg h2, h, if_neg (by simp), if_neg (by simp), if_neg (by simpa using h1)]
end Go.Proofs.Ytplecfbdchmogaa
