/- What a reader makes of bytes: plain. -/
import Derived.Test.YtplecfbdchmogaaEOctP
import Derived.Test.YtplecfbdchmogaaEBooks
namespace Go.Proofs.Ytplecfbdchmogaa
open Go.RowKit
def ctorBs (c : Ct) : List Nat := rowsBs c.args ++ rowsBs c.outs
def entryBs (x : En) : List Nat := formL x.kind.toNat ++ if x.kind = 2 then rowBs x.type ++ rowBs x.body else rowBs x.sort ++ rowsBs x.params ++ rowsBs x.indices ++ (formL x.ctors.length ++ x.ctors.flatMap ctorBs)
def primBs (p : Int × Int) : List Nat := formL p.1.toNat ++ formL p.2.toNat
def bookBs (b : Bk) : List Nat :=
 formL b.vars.toNat ++ (formL b.orders.length ++ b.orders.flatMap orderBs) ++ (formL b.entries.length ++ b.entries.flatMap entryBs) ++ formL (b.nat + 1).toNat ++ (formL b.prims.length ++ b.prims.flatMap primBs)
def progBs (b : Bk) (m t : List Nd) : List Nat := bookBs b ++ rowBs m ++ rowBs t
abbrev Rdg (α : Type) := Rd → α × Rd
def Rdg.seq {α β : Type} (f : Rdg α) (g : α → Rdg β) : Rdg β := fun s => g (f s).1 (f s).2
def Rdg.pure {α : Type} (x : α) : Rdg α := fun s => (x, s)
structure Rdg.Stays {α : Type} (f : Rdg α) : Prop where
 err : ∀ s, s.err ≠ 0 → (f s).2 = s
 odd : ∀ s, s.odd = true → (f s).2.odd = true
structure Reads {α : Type} (f : Rdg α) (e : α → List Nat) (P : α → Prop) : Prop where
 stays : f.Stays
 form : ∀ x r, P x → f ⟨e x ++ r, 0, false⟩ = (x, ⟨r, 0, false⟩)
 cut : ∀ x p, P x → p < (e x).length → (f ⟨(e x).take p, 0, false⟩).2.err = 4 ∧ (f ⟨(e x).take p, 0, false⟩).2.odd = false
 back : ∀ s, (∀ c ∈ s.rest, c < 256) → (f s).2.err = 0 → (f s).2.odd = false → s.err = 0 ∧ s.odd = false ∧ s.rest = e (f s).1 ++ (f s).2.rest ∧ P (f s).1
 bytes : ∀ x, ∀ c ∈ e x, c < 256
theorem take_two {A B : List Nat} {p : Nat} : (A ++ B).take p = if p < A.length then A.take p else A ++ B.take (p - A.length) := by
 split
 · rw [List.take_append_of_le_length (by omega)]
 rw [List.take_append, List.take_of_length_le (by omega)]
theorem Rdg.Stays.seq {α β : Type} {f : Rdg α} {g : α → Rdg β} (hf : f.Stays) (hg : ∀ x, (g x).Stays) : (f.seq g).Stays :=
 ⟨fun s h => ((hg _).err _ (by rw [hf.err s h]; exact h)).trans (hf.err s h), fun s h => (hg _).odd _ (hf.odd s h)⟩
theorem Reads.two {α β γ : Type} {f : Rdg α} {g : Rdg β} {e : α → List Nat} {e' : β → List Nat} {P : α → Prop} {P' : β → Prop} (hf : Reads f e P) (hg : Reads g e' P') (mk : α → β → γ) (p1 : γ → α) (p2 : γ → β) (h1 : ∀ x y, p1 (mk x y) = x) (h2 : ∀ x y, p2 (mk x y) = y) (h3 : ∀ z, mk (p1 z) (p2 z) = z) :
 Reads (f.seq fun x => g.seq fun y => Rdg.pure (mk x y)) (fun z => e (p1 z) ++ e' (p2 z)) (fun z => P (p1 z) ∧ P' (p2 z)) where
 stays := hf.stays.seq fun _ => hg.stays.seq fun _ => ⟨fun _ _ => rfl, fun _ h => h⟩
 form z r hz := by
  simp only [Rdg.seq, Rdg.pure, List.append_assoc]
  rw [hf.form _ _ hz.1]
  dsimp only
  rw [hg.form _ _ hz.2, h3]
 cut z p hz hp := by
  simp only [Rdg.seq, Rdg.pure]
  rw [take_two]
  split
  · rename_i hlt
    have h := hf.cut _ p hz.1 hlt
    rw [hg.stays.err _ (by rw [h.1]; decide)]
    exact h
  rename_i hlt
  rw [hf.form _ _ hz.1]
  dsimp only
  simp only [List.length_append] at hp
  exact hg.cut _ _ hz.2 (by omega)
 back s hb he ho := by
  simp only [Rdg.seq, Rdg.pure] at he ho ⊢
  have e1 : (f s).2.err = 0 := Classical.byContradiction fun h => by rw [hg.stays.err _ h] at he; exact h he
  have o1 : (f s).2.odd = false := by
   cases h : (f s).2.odd
   · rfl
   rw [hg.stays.odd _ h] at ho; cases ho
  obtain ⟨a1, a2, a3, a4⟩ := hf.back s hb e1 o1
  obtain ⟨_, _, b3, b4⟩ := hg.back _ (fun c hc => hb c (by rw [a3]; exact List.mem_append_right _ hc)) he ho
  refine ⟨a1, a2, ?_, ?_⟩
  · rw [h1, h2, List.append_assoc, ← b3]; exact a3
  rw [h1, h2]; exact ⟨a4, b4⟩
 bytes z c hc := by
  rcases List.mem_append.1 hc with h | h
  · exact hf.bytes _ c h
  exact hg.bytes _ c h
theorem Reads.dep {α β : Type} {f : Rdg α} {g : α → Rdg β} {e : α → List Nat} {e' : α → β → List Nat} {P : α → Prop} {P' : α → β → Prop} (hf : Reads f e P) (hg : ∀ x, Reads (g x) (e' x) (P' x)) (key : β → α) (hk : ∀ x y, P' x y → key y = x) :
 Reads (f.seq g) (fun y => e (key y) ++ e' (key y) y) (fun y => P (key y) ∧ P' (key y) y) where
 stays := hf.stays.seq fun x => (hg x).stays
 form y r hy := by
  simp only [Rdg.seq, List.append_assoc]
  rw [hf.form _ _ hy.1]
  exact (hg _).form _ _ hy.2
 cut y p hy hp := by
  simp only [Rdg.seq]
  rw [take_two]
  split
  · rename_i hlt
    have h := hf.cut _ p hy.1 hlt
    rw [(hg _).stays.err _ (by rw [h.1]; decide)]
    exact h
  rename_i hlt
  rw [hf.form _ _ hy.1]
  simp only [List.length_append] at hp
  dsimp only
  exact (hg _).cut _ _ hy.2 (by omega)
 back s hb he ho := by
  simp only [Rdg.seq] at he ho ⊢
  have e1 : (f s).2.err = 0 := Classical.byContradiction fun h => by rw [(hg _).stays.err _ h] at he; exact h he
  have o1 : (f s).2.odd = false := by
   cases h : (f s).2.odd
   · rfl
   rw [(hg _).stays.odd _ h] at ho; cases ho
  obtain ⟨a1, a2, a3, a4⟩ := hf.back s hb e1 o1
  obtain ⟨_, _, b3, b4⟩ := (hg _).back _ (fun c hc => hb c (by rw [a3]; exact List.mem_append_right _ hc)) he ho
  have hx := hk _ _ b4
  refine ⟨a1, a2, ?_, ?_⟩
  · rw [hx, List.append_assoc, ← b3]; exact a3
  rw [hx]; exact ⟨a4, b4⟩
 bytes y c hc := by
  rcases List.mem_append.1 hc with h | h
  · exact hf.bytes _ c h
  exact (hg _).bytes _ c h
theorem Reads.map {α β : Type} {f : Rdg α} {e : α → List Nat} {P : α → Prop} (hf : Reads f e P) (mk : α → β) (p1 : β → α) (h1 : ∀ x, p1 (mk x) = x) (P' : β → Prop) (h2 : ∀ y, P' y → mk (p1 y) = y ∧ P (p1 y)) (h3 : ∀ x, P x → P' (mk x)) : Reads (fun s => (mk (f s).1, (f s).2)) (fun y => e (p1 y)) P' where
 stays := ⟨hf.stays.err, hf.stays.odd⟩
 form y r hy := by
  obtain ⟨a, b⟩ := h2 y hy
  rw [hf.form _ _ b]
  dsimp only
  rw [a]
 cut y p hy hp := hf.cut _ _ (h2 y hy).2 hp
 back s hb he ho := by
  obtain ⟨a1, a2, a3, a4⟩ := hf.back s hb he ho
  exact ⟨a1, a2, by rw [h1]; exact a3, h3 _ a4⟩
 bytes y c hc := hf.bytes _ c hc
theorem Reads.weak {α : Type} {f : Rdg α} {e : α → List Nat} {P P' : α → Prop} (hf : Reads f e P) (h : ∀ x, P x ↔ P' x) : Reads f e P' :=
 ⟨hf.stays, fun x r hx => hf.form x r ((h x).2 hx), fun x p hx hp => hf.cut x p ((h x).2 hx) hp, fun s hb he ho => by
  obtain ⟨a1, a2, a3, a4⟩ := hf.back s hb he ho
  exact ⟨a1, a2, a3, (h _).1 a4⟩, hf.bytes⟩
theorem Reads.write {α : Type} {f : Rdg α} {e e' : α → List Nat} {P : α → Prop} (hf : Reads f e P) (h : ∀ x, e' x = e x) : Reads f e' P := by
 have : e' = e := funext h
 rw [this]; exact hf
theorem reads_next {most : Nat} (hm : most < 2 ^ 64) : Reads (rdNext most) formL (· ≤ most) where
 stays := ⟨fun s h => by rw [rdNext_err h], fun s h => by rw [rdNext_odd]; exact h⟩
 form x r hx := rdNext_form hx hm r false
 cut x p hx hp := by
  obtain ⟨a, b, _⟩ := rdNext_cut hx hm hp false
  exact ⟨a, b⟩
 back s hb he ho := by
  obtain ⟨a, b, c⟩ := rdNext_ok hb he
  rw [rdNext_odd] at ho
  exact ⟨a, ho, c, b⟩
 bytes x c hc := formL_byte x c hc
def rdInt (most : Nat) : Rdg Int := fun s => (((rdNext most s).1 : Int), (rdNext most s).2)
theorem reads_int {most : Nat} (hm : most < 2 ^ 64) : Reads (rdInt most) (fun z => formL z.toNat) (fun z => 0 ≤ z ∧ z ≤ most) :=
 (reads_next hm).map (fun n => (n : Int)) Int.toNat (fun x => by simp) _ (fun y hy => ⟨by omega, by omega⟩) (fun x hx => ⟨by omega, by omega⟩)
def zag (n : Nat) : Int := if n % 2 = 0 then ((n / 2 : Nat) : Int) else -((n / 2 : Nat) : Int) - 1
theorem zag_zig (z : Int) : zag (zig z) = z := by
 unfold zag zig
 split
 · split
   · omega
   omega
 split
 · omega
 omega
theorem zig_zag (n : Nat) : zig (zag n) = n := by
 unfold zag zig
 split
 · rw [if_pos (by omega)]; omega
 rw [if_neg (by omega)]; omega
def rdSigned : Rdg Int := fun s => (zag (rdNext 18446744073709551615 s).1, (rdNext 18446744073709551615 s).2)
theorem reads_signed : Reads rdSigned (fun z => formL (zig z)) (fun z => -9223372036854775808 ≤ z ∧ z ≤ 9223372036854775807) :=
 (reads_next (most := 18446744073709551615) (by decide)).map zag zig zig_zag _ (fun y hy => ⟨zag_zig y, by unfold zig; split <;> omega⟩) (fun x hx => by unfold zag; split <;> omega)
def rdTimes {α : Type} (chk : Rd → Bool) (f : Rdg α) : Nat → Rdg (List α)
 | 0, s => ([], s)
 | k + 1, s => if chk (f s).2 then ([], (f s).2) else if chk (rdTimes chk f k (f s).2).2 then ([], (rdTimes chk f k (f s).2).2) else ((f s).1 :: (rdTimes chk f k (f s).2).1, (rdTimes chk f k (f s).2).2)
def chkE (s : Rd) : Bool := s.err != 0
def chkB (s : Rd) : Bool := s.odd || s.err != 0
structure Looks (chk : Rd → Bool) : Prop where
 err : ∀ s, s.err ≠ 0 → chk s = true
 well : ∀ s, s.err = 0 → s.odd = false → chk s = false
theorem looks_E : Looks chkE := ⟨fun s h => by simpa [chkE] using h, fun s h _ => by simpa [chkE] using h⟩
theorem looks_B : Looks chkB := ⟨fun s h => by simp [chkB, h], fun s h h2 => by simp [chkB, h, h2]⟩
theorem stays_times {α : Type} {chk : Rd → Bool} {f : Rdg α} (hf : f.Stays) (hc : Looks chk) : ∀ k, (∀ s, s.err ≠ 0 → rdTimes chk f k s = ([], s)) ∧ (rdTimes chk f k).Stays
 | 0 => ⟨fun _ _ => rfl, ⟨fun _ _ => rfl, fun _ h => h⟩⟩
 | k + 1 => by
  have h1 : ∀ s, s.err ≠ 0 → rdTimes chk f (k + 1) s = ([], s) := fun s h => by
   simp only [rdTimes]
   rw [hf.err s h, if_pos (hc.err s h)]
  refine ⟨h1, ⟨fun s h => by rw [h1 s h], fun s h => ?_⟩⟩
  simp only [rdTimes]
  split
  · exact hf.odd s h
  · split
    · exact (stays_times hf hc k).2.odd _ (hf.odd s h)
    exact (stays_times hf hc k).2.odd _ (hf.odd s h)
theorem reads_times {α : Type} {chk : Rd → Bool} {f : Rdg α} {e : α → List Nat} {P : α → Prop} (hf : Reads f e P) (hc : Looks chk) : ∀ k, Reads (rdTimes chk f k) (fun xs => xs.flatMap e) (fun xs => xs.length = k ∧ ∀ x ∈ xs, P x)
 | 0 => ⟨(stays_times hf.stays hc 0).2, fun x r hx => by
  obtain rfl := List.eq_nil_of_length_eq_zero hx.1
  rfl, fun x p hx hp => by
  obtain rfl := List.eq_nil_of_length_eq_zero hx.1
  simp at hp, fun s hb he ho => ⟨he, ho, rfl, rfl, fun x hx => by cases hx⟩, fun x c hc => by
  obtain ⟨y, _, h⟩ := List.mem_flatMap.1 hc
  exact hf.bytes y c h⟩
 | k + 1 => by
  have ih := reads_times hf hc k
  refine ⟨(stays_times hf.stays hc (k + 1)).2, fun xs r hx => ?_, fun xs p hx hp => ?_, fun s hb he ho => ?_, fun x c hc => by
   obtain ⟨y, _, h⟩ := List.mem_flatMap.1 hc
   exact hf.bytes y c h⟩
  · obtain ⟨x, xs, rfl⟩ : ∃ x t, xs = x :: t := by
     cases xs with
     | nil => simp at hx
     | cons x t => exact ⟨x, t, rfl⟩
    simp only [List.length_cons, Nat.add_right_cancel_iff, List.mem_cons, forall_eq_or_imp] at hx
    simp only [rdTimes, List.flatMap_cons, List.append_assoc]
    rw [hf.form _ _ hx.2.1]
    dsimp only
    rw [hc.well _ rfl rfl, ih.form _ _ ⟨hx.1, hx.2.2⟩]
    dsimp only
    rw [hc.well _ rfl rfl]
    rfl
  · obtain ⟨x, xs, rfl⟩ : ∃ x t, xs = x :: t := by
     cases xs with
     | nil => simp at hx
     | cons x t => exact ⟨x, t, rfl⟩
    simp only [List.length_cons, Nat.add_right_cancel_iff, List.mem_cons, forall_eq_or_imp] at hx
    simp only [List.flatMap_cons] at hp ⊢
    simp only [rdTimes]
    rw [take_two]
    split
    · rename_i hlt
      have h := hf.cut _ p hx.2.1 hlt
      rw [hc.err _ (by rw [h.1]; decide)]
      exact h
    rename_i hlt
    rw [hf.form _ _ hx.2.1]
    dsimp only
    simp only [List.length_append] at hp
    have h := ih.cut xs (p - (e x).length) ⟨hx.1, hx.2.2⟩ (by omega)
    rw [hc.well _ rfl rfl, hc.err _ (by rw [h.1]; decide)]
    exact h
  · simp only [rdTimes] at he ho ⊢
    by_cases c1 : chk (f s).2 = true
    · rw [if_pos c1] at he ho
      exfalso
      have := hc.well _ he ho
      rw [this] at c1; cases c1
    rw [if_neg c1] at he ho ⊢
    by_cases c2 : chk (rdTimes chk f k (f s).2).2 = true
    · rw [if_pos c2] at he ho
      exfalso
      have := hc.well _ he ho
      rw [this] at c2; cases c2
    rw [if_neg c2] at he ho ⊢
    dsimp only at he ho ⊢
    have e1 : (f s).2.err = 0 := Classical.byContradiction fun h => c1 (hc.err _ h)
    have o1 : (f s).2.odd = false := by
     cases h : (f s).2.odd
     · rfl
     rw [(stays_times hf.stays hc k).2.odd _ h] at ho; cases ho
    obtain ⟨a1, a2, a3, a4⟩ := hf.back s hb e1 o1
    obtain ⟨_, _, b3, b4, b5⟩ := ih.back _ (fun c hc => hb c (by rw [a3]; exact List.mem_append_right _ hc)) he ho
    refine ⟨a1, a2, ?_, by simp [b4], fun x hx => ?_⟩
    · rw [List.flatMap_cons, List.append_assoc, ← b3]; exact a3
    rcases List.mem_cons.1 hx with rfl | hx
    · exact a4
    exact b5 x hx
def rdList {α : Type} (chk : Rd → Bool) (most : Nat) (f : Rdg α) : Rdg (List α) := Rdg.seq (rdNext most) fun n => rdTimes chk f n
theorem reads_list {α : Type} {chk : Rd → Bool} {f : Rdg α} {e : α → List Nat} {P : α → Prop} {most : Nat} (hm : most < 2 ^ 64) (hf : Reads f e P) (hc : Looks chk) : Reads (rdList chk most f) (fun xs => formL xs.length ++ xs.flatMap e) (fun xs => xs.length ≤ most ∧ ∀ x ∈ xs, P x) :=
 ((reads_next hm).dep (fun n => reads_times hf hc n) List.length (fun _ _ h => h.1)).weak fun _ => ⟨fun h => ⟨h.1, h.2.2⟩, fun h => ⟨h.1, rfl, h.2⟩⟩
def rdNode : Rdg Nd := Rdg.seq (rdInt 255) fun o => Rdg.seq (rdInt 1048576) fun a => Rdg.seq (rdInt 1048576) fun b => Rdg.pure ⟨o, a, b⟩
def nodeW (n : Nd) : Prop := (0 ≤ n.op ∧ n.op ≤ 255) ∧ (0 ≤ n.a ∧ n.a ≤ 1048576) ∧ 0 ≤ n.b ∧ n.b ≤ 1048576
theorem reads_three {α β γ δ : Type} {f : Rdg α} {g : Rdg β} {h : Rdg γ} {e1 : α → List Nat} {e2 : β → List Nat} {e3 : γ → List Nat} {P1 : α → Prop} {P2 : β → Prop} {P3 : γ → Prop} (hf : Reads f e1 P1) (hg : Reads g e2 P2) (hh : Reads h e3 P3) (mk : α → β → γ → δ) (p1 : δ → α) (p2 : δ → β) (p3 : δ → γ) (h1 : ∀ x y z, p1 (mk x y z) = x) (h2 : ∀ x y z, p2 (mk x y z) = y) (h3 : ∀ x y z, p3 (mk x y z) = z) (h4 : ∀ d, mk (p1 d) (p2 d) (p3 d) = d) :
 Reads (Rdg.seq f fun x => Rdg.seq g fun y => Rdg.seq h fun z => Rdg.pure (mk x y z)) (fun d => e1 (p1 d) ++ (e2 (p2 d) ++ e3 (p3 d))) (fun d => P1 (p1 d) ∧ P2 (p2 d) ∧ P3 (p3 d)) :=
 hf.two (hg.two hh Prod.mk Prod.fst Prod.snd (fun _ _ => rfl) (fun _ _ => rfl) fun _ => rfl) (fun x q => mk x q.1 q.2) p1 (fun d => (p2 d, p3 d)) (fun _ _ => h1 _ _ _) (fun _ q => by rw [h2, h3]) fun d => h4 d
theorem reads_node : Reads rdNode nodeBs nodeW :=
 (reads_three (reads_int (most := 255) (by decide)) (reads_int (most := 1048576) (by decide)) (reads_int (most := 1048576) (by decide)) Nd.mk Nd.op Nd.a Nd.b (fun _ _ _ => rfl) (fun _ _ _ => rfl) (fun _ _ _ => rfl) fun _ => rfl).write fun n => by simp [nodeBs]
def rdRow : Rdg (List Nd) := rdList chkE 4096 rdNode
def rowW (t : List Nd) : Prop := t.length ≤ 4096 ∧ ∀ n ∈ t, nodeW n
theorem reads_row : Reads rdRow rowBs rowW := reads_list (by decide) reads_node looks_E
def rdRows : Rdg (List (List Nd)) := rdList chkB 255 rdRow
def rowsW (ls : List (List Nd)) : Prop := ls.length ≤ 255 ∧ ∀ t ∈ ls, rowW t
theorem reads_rows : Reads rdRows rowsBs rowsW := reads_list (by decide) reads_row looks_B
def rdOrder : Rdg Nd := Rdg.seq (rdInt 255) fun o => Rdg.seq rdSigned fun a => Rdg.seq (rdInt 255) fun b => Rdg.pure ⟨o, a, b⟩
def orderW (n : Nd) : Prop := (0 ≤ n.op ∧ n.op ≤ 255) ∧ (-9223372036854775808 ≤ n.a ∧ n.a ≤ 9223372036854775807) ∧ 0 ≤ n.b ∧ n.b ≤ 255
theorem reads_order : Reads rdOrder orderBs orderW :=
 (reads_three (reads_int (most := 255) (by decide)) reads_signed (reads_int (most := 255) (by decide)) Nd.mk Nd.op Nd.a Nd.b (fun _ _ _ => rfl) (fun _ _ _ => rfl) (fun _ _ _ => rfl) fun _ => rfl).write fun n => by simp [orderBs]
def rdCtor : Rdg Ct := Rdg.seq rdRows fun a => Rdg.seq rdRows fun o => Rdg.pure ⟨a, o⟩
def ctorW (c : Ct) : Prop := rowsW c.args ∧ rowsW c.outs
theorem reads_ctor : Reads rdCtor ctorBs ctorW :=
 reads_rows.two reads_rows Ct.mk Ct.args Ct.outs (fun _ _ => rfl) (fun _ _ => rfl) fun _ => rfl
def rdPrim : Rdg (Int × Int) := Rdg.seq (rdInt 255) fun a => Rdg.seq (rdInt 255) fun o => Rdg.pure (a, o)
def primW (p : Int × Int) : Prop := (0 ≤ p.1 ∧ p.1 ≤ 255) ∧ 0 ≤ p.2 ∧ p.2 ≤ 255
theorem reads_prim : Reads rdPrim primBs primW :=
 (reads_int (most := 255) (by decide)).two (reads_int (most := 255) (by decide)) Prod.mk Prod.fst Prod.snd (fun _ _ => rfl) (fun _ _ => rfl) fun _ => rfl
def rdBody (k : Int) : Rdg En := fun s =>
 if k = 1 then (Rdg.seq rdRow fun so => Rdg.seq rdRows fun ps => Rdg.seq rdRows fun is => Rdg.seq (rdList chkB 255 rdCtor) fun cs => Rdg.pure ⟨1, so, ps, is, cs, [], []⟩) s
 else if k = 2 then (Rdg.seq rdRow fun t => Rdg.seq rdRow fun d => Rdg.pure ⟨2, [], [], [], [], t, d⟩) s
 else (⟨k, [], [], [], [], [], []⟩, ⟨s.rest, s.err, s.odd || s.err == 0⟩)
def rdEntry : Rdg En := Rdg.seq (rdInt 2) rdBody
def ctorsBs (cs : List Ct) : List Nat := formL cs.length ++ cs.flatMap ctorBs
def ctorsW (cs : List Ct) : Prop := cs.length ≤ 255 ∧ ∀ c ∈ cs, ctorW c
def famW (x : En) : Prop := x.kind = 1 ∧ (rowW x.sort ∧ rowsW x.params ∧ rowsW x.indices ∧ ctorsW x.ctors) ∧ x.type = [] ∧ x.body = []
def defW (x : En) : Prop := x.kind = 2 ∧ (rowW x.type ∧ rowW x.body) ∧ x.sort = [] ∧ x.params = [] ∧ x.indices = [] ∧ x.ctors = []
def entryW (x : En) : Prop := famW x ∨ defW x
theorem reads_fam : Reads (Rdg.seq rdRow fun so => Rdg.seq rdRows fun ps => Rdg.seq rdRows fun is => Rdg.seq (rdList chkB 255 rdCtor) fun cs => Rdg.pure (⟨1, so, ps, is, cs, [], []⟩ : En)) (fun x => rowBs x.sort ++ (rowsBs x.params ++ (rowsBs x.indices ++ ctorsBs x.ctors))) famW := by
 have h4 : Reads (rdList chkB 255 rdCtor) ctorsBs ctorsW := reads_list (by decide) reads_ctor looks_B
 have h := reads_row.two (reads_rows.two (reads_rows.two h4 Prod.mk Prod.fst Prod.snd (fun _ _ => rfl) (fun _ _ => rfl) fun _ => rfl) Prod.mk Prod.fst Prod.snd (fun _ _ => rfl) (fun _ _ => rfl) fun _ => rfl) Prod.mk Prod.fst Prod.snd (fun _ _ => rfl) (fun _ _ => rfl) (fun _ => rfl)
 exact h.map (fun q => (⟨1, q.1, q.2.1, q.2.2.1, q.2.2.2, [], []⟩ : En)) (fun x => (x.sort, x.params, x.indices, x.ctors)) (fun _ => rfl) famW (fun y hy => by
  obtain ⟨k, so, ps, is, cs, t, d⟩ := y
  obtain ⟨h1, h2, h3, h4⟩ := hy
  simp only at h1 h2 h3 h4
  subst h1 h3 h4
  exact ⟨rfl, h2⟩) fun x hx => ⟨rfl, hx, rfl, rfl⟩
theorem reads_def : Reads (Rdg.seq rdRow fun t => Rdg.seq rdRow fun d => Rdg.pure (⟨2, [], [], [], [], t, d⟩ : En)) (fun x => rowBs x.type ++ rowBs x.body) defW := by
 have h := reads_row.two reads_row Prod.mk Prod.fst Prod.snd (fun _ _ => rfl) (fun _ _ => rfl) (fun _ => rfl)
 exact h.map (fun q => (⟨2, [], [], [], [], q.1, q.2⟩ : En)) (fun x => (x.type, x.body)) (fun _ => rfl) defW (fun y hy => by
  obtain ⟨k, so, ps, is, cs, t, d⟩ := y
  obtain ⟨h1, h2, h3, h4, h5, h6⟩ := hy
  simp only at h1 h2 h3 h4 h5 h6
  subst h1 h3 h4 h5 h6
  exact ⟨rfl, h2⟩) fun x hx => ⟨rfl, hx, rfl, rfl, rfl, rfl⟩
theorem reads_body (k : Int) : Reads (rdBody k) (fun x => if k = 2 then rowBs x.type ++ rowBs x.body else rowBs x.sort ++ (rowsBs x.params ++ (rowsBs x.indices ++ ctorsBs x.ctors))) (fun x => x.kind = k ∧ entryW x) := by
 by_cases h1 : k = 1
 · subst h1
   have e : rdBody 1 = _ := funext fun s => if_pos rfl
   rw [e]
   refine (reads_fam.weak fun x => ⟨fun h => ⟨h.1, .inl h⟩, fun h => ?_⟩).write fun x => if_neg (by decide)
   rcases h.2 with h2 | h2
   · exact h2
   have := h2.1; rw [h.1] at this; cases this
 by_cases h2 : k = 2
 · subst h2
   have e : rdBody 2 = _ := funext fun s => (if_neg (by decide)).trans (if_pos rfl)
   rw [e]
   refine (reads_def.weak fun x => ⟨fun h => ⟨h.1, .inr h⟩, fun h => ?_⟩).write fun x => if_pos rfl
   rcases h.2 with h2 | h2
   · have := h2.1; rw [h.1] at this; cases this
   exact h2
 have no : ∀ x : En, ¬ (x.kind = k ∧ entryW x) := fun x h => by
  rcases h.2 with h3 | h3
  · exact h1 (h.1.symm.trans h3.1)
  exact h2 (h.1.symm.trans h3.1)
 have e : ∀ s, rdBody k s = (⟨k, [], [], [], [], [], []⟩, ⟨s.rest, s.err, s.odd || s.err == 0⟩) := fun s => (if_neg h1).trans (if_neg h2)
 refine ⟨⟨fun s hs => ?_, fun s hs => ?_⟩, fun x r hx => absurd hx (no x), fun x p hx => absurd hx (no x), fun s hb he ho => ?_, fun x c hc => ?_⟩
 · rw [e]
   have : (s.err == 0) = false := by simpa using hs
   simp only [this, Bool.or_false]
 · rw [e, hs]; rfl
 · rw [e] at he ho
   simp only at he ho
   rw [he] at ho
   simp at ho
 rw [if_neg h2] at hc
 have h4 : Reads (rdList chkB 255 rdCtor) ctorsBs ctorsW := reads_list (by decide) reads_ctor looks_B
 rcases List.mem_append.1 hc with h | h
 · exact reads_row.bytes _ c h
 rcases List.mem_append.1 h with h | h
 · exact reads_rows.bytes _ c h
 rcases List.mem_append.1 h with h | h
 · exact reads_rows.bytes _ c h
 exact h4.bytes _ c h
theorem reads_entry : Reads rdEntry entryBs entryW := by
 have h := (reads_int (most := 2) (by decide)).dep reads_body En.kind fun x y hy => hy.1
 refine (h.weak fun x => ⟨fun hx => hx.2.2, fun hx => ⟨?_, rfl, hx⟩⟩).write fun x => ?_
 · rcases hx with hx | hx
   · rw [hx.1]; decide
   rw [hx.1]; decide
 unfold entryBs
 split
 · rfl
 simp [ctorsBs]
end Go.Proofs.Ytplecfbdchmogaa
