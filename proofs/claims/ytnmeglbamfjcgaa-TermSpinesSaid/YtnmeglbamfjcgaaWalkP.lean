/- Going over a row node by node, in plain Lean: what is laid, the state behind it; words for the memory of such a walk. -/
import Derived.Test.YtnmeglbamfjcgaaProg
import Derived.Test.YtnmeglbamfjcgaaOwn3
import Derived.Test.YtnmeglbamfjcgaaFold
namespace Go.Proofs.Ytnmeglbamfjcgaa
open Go.RowKit

/-- What is done at each node that is met: what is laid, the state behind it, whether it goes on, and what is asked. -/
structure Vis (σ : Type) where
  em : σ → Nd → Int → List Nd
  nx : σ → Nd → Int → σ
  ok : σ → Nd → Int → Bool
  dm : σ → Nd → Int → Prop

section
variable {σ : Type} (V : Vis σ)
def Vis.S (pop pb : Int) : Nat → Int → σ → Fo → σ
  | _, _, s, .nil => s
  | j, a, s, .cons _ n _ k x => Vis.S pop pb (j + 1) a (Vis.S n.op n.b 0 (a + aroundI pop pb j) (V.nx s n (a + aroundI pop pb j)) k) x
def Vis.E (pop pb : Int) : Nat → Int → σ → Fo → List Nd
  | _, _, _, .nil => []
  | j, a, s, .cons p n at' k x => p ++ (V.em s n (a + aroundI pop pb j) ++ (at' ++ (Vis.E n.op n.b 0 (a + aroundI pop pb j) (V.nx s n (a + aroundI pop pb j)) k ++ Vis.E pop pb (j + 1) a (V.S n.op n.b 0 (a + aroundI pop pb j) (V.nx s n (a + aroundI pop pb j)) k) x)))
def Vis.G (pop pb : Int) : Nat → Int → σ → Fo → Bool
  | _, _, _, .nil => true
  | j, a, s, .cons _ n _ k x => V.ok s n (a + aroundI pop pb j) && (Vis.G n.op n.b 0 (a + aroundI pop pb j) (V.nx s n (a + aroundI pop pb j)) k && Vis.G pop pb (j + 1) a (V.S n.op n.b 0 (a + aroundI pop pb j) (V.nx s n (a + aroundI pop pb j)) k) x)
def Vis.D (pop pb : Int) : Nat → Int → σ → Fo → Prop
  | _, _, _, .nil => True
  | j, a, s, .cons _ n _ k x => V.dm s n (a + aroundI pop pb j) ∧ Vis.D n.op n.b 0 (a + aroundI pop pb j) (V.nx s n (a + aroundI pop pb j)) k ∧ Vis.D pop pb (j + 1) a (V.S n.op n.b 0 (a + aroundI pop pb j) (V.nx s n (a + aroundI pop pb j)) k) x

theorem Vis.S_app (pop pb : Int) : ∀ (j : Nat) (a : Int) (s : σ) (F G : Fo), V.S pop pb j a s (F.app G) = V.S pop pb (j + flen F) a (V.S pop pb j a s F) G
  | _, _, _, .nil, G => by simp [Fo.app, Vis.S, flen]
  | j, a, s, .cons p n at' k x, G => by
    simp only [Fo.app, Vis.S, flen]
    rw [Vis.S_app pop pb (j + 1) a _ x G, show j + 1 + flen x = j + (flen x + 1) from by omega]
theorem Vis.E_app (pop pb : Int) : ∀ (j : Nat) (a : Int) (s : σ) (F G : Fo), V.E pop pb j a s (F.app G) = V.E pop pb j a s F ++ V.E pop pb (j + flen F) a (V.S pop pb j a s F) G
  | _, _, _, .nil, G => by simp [Fo.app, Vis.E, Vis.S, flen]
  | j, a, s, .cons p n at' k x, G => by
    simp only [Fo.app, Vis.E, Vis.S, flen]
    rw [Vis.E_app pop pb (j + 1) a _ x G, show j + 1 + flen x = j + (flen x + 1) from by omega]
    simp only [List.append_assoc]
theorem Vis.G_app (pop pb : Int) : ∀ (j : Nat) (a : Int) (s : σ) (F G : Fo), V.G pop pb j a s (F.app G) = (V.G pop pb j a s F && V.G pop pb (j + flen F) a (V.S pop pb j a s F) G)
  | _, _, _, .nil, G => by simp [Fo.app, Vis.G, Vis.S, flen]
  | j, a, s, .cons p n at' k x, G => by
    simp only [Fo.app, Vis.G, Vis.S, flen]
    rw [Vis.G_app pop pb (j + 1) a _ x G, show j + 1 + flen x = j + (flen x + 1) from by omega]
    simp only [Bool.and_assoc]
theorem Vis.D_app (pop pb : Int) : ∀ (j : Nat) (a : Int) (s : σ) (F G : Fo), V.D pop pb j a s (F.app G) ↔ V.D pop pb j a s F ∧ V.D pop pb (j + flen F) a (V.S pop pb j a s F) G
  | _, _, _, .nil, G => by simp [Fo.app, Vis.D, Vis.S, flen]
  | j, a, s, .cons p n at' k x, G => by
    simp only [Fo.app, Vis.D, Vis.S, flen]
    rw [Vis.D_app pop pb (j + 1) a _ x G, show j + 1 + flen x = j + (flen x + 1) from by omega]
    simp only [and_assoc]

/-- Of one tree, under so many binders. -/
def Vis.S1 (a : Int) (s : σ) (n : Nd) (k : Fo) : σ := V.S n.op n.b 0 a (V.nx s n a) k
def Vis.E1 (a : Int) (s : σ) (n : Nd) (at' : List Nd) (k : Fo) : List Nd := V.em s n a ++ (at' ++ V.E n.op n.b 0 a (V.nx s n a) k)
def Vis.G1 (a : Int) (s : σ) (n : Nd) (k : Fo) : Bool := V.ok s n a && V.G n.op n.b 0 a (V.nx s n a) k
def Vis.D1 (a : Int) (s : σ) (n : Nd) (k : Fo) : Prop := V.dm s n a ∧ V.D n.op n.b 0 a (V.nx s n a) k
theorem Vis.S_cons (pop pb : Int) (j : Nat) (a : Int) (s : σ) (p : List Nd) (n : Nd) (at' : List Nd) (k x : Fo) : V.S pop pb j a s (.cons p n at' k x) = V.S pop pb (j + 1) a (V.S1 (a + aroundI pop pb j) s n k) x := rfl
theorem Vis.E_cons (pop pb : Int) (j : Nat) (a : Int) (s : σ) (p : List Nd) (n : Nd) (at' : List Nd) (k x : Fo) : V.E pop pb j a s (.cons p n at' k x) = p ++ (V.E1 (a + aroundI pop pb j) s n at' k ++ V.E pop pb (j + 1) a (V.S1 (a + aroundI pop pb j) s n k) x) := by
  simp only [Vis.E, Vis.E1, Vis.S1, List.append_assoc]
theorem Vis.G_cons (pop pb : Int) (j : Nat) (a : Int) (s : σ) (p : List Nd) (n : Nd) (at' : List Nd) (k x : Fo) : V.G pop pb j a s (.cons p n at' k x) = (V.G1 (a + aroundI pop pb j) s n k && V.G pop pb (j + 1) a (V.S1 (a + aroundI pop pb j) s n k) x) := by
  simp only [Vis.G, Vis.G1, Vis.S1, Bool.and_assoc]
theorem Vis.D_cons (pop pb : Int) (j : Nat) (a : Int) (s : σ) (p : List Nd) (n : Nd) (at' : List Nd) (k x : Fo) : V.D pop pb j a s (.cons p n at' k x) ↔ V.D1 (a + aroundI pop pb j) s n k ∧ V.D pop pb (j + 1) a (V.S1 (a + aroundI pop pb j) s n k) x := by
  simp only [Vis.D, Vis.D1, Vis.S1, and_assoc]
end

/-- The world behind a call that may write to the blocks of S, to one row, and to new ones. -/
structure Moved (S : Nat → Prop) (row : Option Nat) (w w' : World) : Prop where
  os : w'.os = w.os
  tape : w'.tape = w.tape
  output : w'.output = w.output
  size : w.heap.size ≤ w'.heap.size
  block : ∀ k, k < w.heap.size → ¬ S k → some k ≠ row → w'.heap[k]? = w.heap[k]?

section
variable {S S' : Nat → Prop} {row row' : Option Nat} {w w' w'' : World}
theorem Moved.refl (S : Nat → Prop) (row : Option Nat) (w : World) : Moved S row w w := ⟨rfl, rfl, rfl, Nat.le_refl _, fun _ _ _ _ => rfl⟩
theorem Moved.mono (h : Moved S row w w') (hS : ∀ k, S k → S' k) : Moved S' row w w' := ⟨h.os, h.tape, h.output, h.size, fun k hk hs hr => h.block k hk (fun x => hs (hS k x)) hr⟩
theorem Moved.trans (h : Moved S row w w') (h' : Moved S row' w' w'') (hr : ∀ g, row' = some g → row = some g ∨ w.heap.size ≤ g) : Moved S row w w'' :=
  ⟨h'.os.trans h.os, h'.tape.trans h.tape, h'.output.trans h.output, Nat.le_trans h.size h'.size, fun k hk hs hn =>
    (h'.block k (Nat.lt_of_lt_of_le hk h.size) hs (fun e => by
      rcases hr k e.symm with h1 | h1
      · exact hn h1.symm
      · omega)).trans (h.block k hk hs hn)⟩
theorem Moved.of_below (h : Below w.heap.size w w') : Moved S row w w' := ⟨h.os, h.tape, h.output, h.size, fun k hk _ _ => h.block k hk⟩
theorem Moved.of_grown (h : w.grownBy w' row) : Moved S row w w' := ⟨h.os, h.tape, h.output, h.size, fun k hk _ hn => h.block k hk hn⟩
theorem Moved.to_below {B : Nat} (h : Moved S row w w') (hB : B ≤ w.heap.size) (hS : ∀ k, S k → B ≤ k) (hr : ∀ g, row = some g → B ≤ g) : Below B w w' :=
  ⟨h.os, h.tape, h.output, h.size, fun k hk => h.block k (by omega) (fun x => by have := hS k x; omega) (fun e => by have := hr k e.symm; omega)⟩
theorem Moved.alloc (h : Moved S row w w') (o : Obj) : Moved S row w (w'.alloc o) := h.trans (row' := none) (Moved.of_below (below_alloc _ _)) (fun _ e => by cases e)
theorem Moved.setCell (h : Moved S row w w') {p : Addr} (hp : S p.block) (u : Value) : Moved S row w (w'.setCell p u) :=
  h.trans (row' := none) ⟨rfl, rfl, rfl, by simp [World.setCell], fun k _ hs _ => Below.heap_setCell _ _ _ _ (fun e => hs (e ▸ hp))⟩ (fun _ e => by cases e)
theorem Moved.setNew (h : Moved S row w w') {p : Addr} (hp : w.heap.size ≤ p.block) (u : Value) : Moved S row w (w'.setCell p u) :=
  ⟨h.os, h.tape, h.output, by simpa [World.setCell] using h.size, fun k hk hs hn => (Below.heap_setCell _ _ _ _ (by omega)).trans (h.block k hk hs hn)⟩
theorem Moved.over (hb : Below w.heap.size w w') (h : Moved S' row w' w'') (hS : ∀ k, k < w.heap.size → S' k → S k) : Moved S row w w'' :=
  ⟨h.os.trans hb.os, h.tape.trans hb.tape, h.output.trans hb.output, Nat.le_trans hb.size h.size, fun k hk hs hn => (h.block k (Nat.lt_of_lt_of_le hk hb.size) (fun x => hs (hS k hk x)) hn).trans (hb.block k hk)⟩
theorem Moved.drew (h : Moved S row w w') : Moved S row w w'.drew := ⟨h.os, h.tape, h.output, h.size, h.block⟩
theorem Moved.drewN (h : Moved S row w w') (n : Nat) : Moved S row w (w'.drewN n) := ⟨h.os, h.tape, h.output, h.size, h.block⟩
theorem Moved.from_drew (h : Moved S row w.drew w') : Moved S row w w' := ⟨h.os, h.tape, h.output, h.size, h.block⟩
theorem Moved.from_drewN {n : Nat} (h : Moved S row (w.drewN n) w') : Moved S row w w' := ⟨h.os, h.tape, h.output, h.size, h.block⟩
theorem Blk.moved {g : Nat} {t : TypeId} {cs : Array Value} (h : Blk w g t cs) (hm : Moved S row w w') (hs : ¬ S g) (hr : row ≠ some g) : Blk w' g t cs := (hm.block g h.lt hs (fun e => hr e.symm)).trans h
theorem Blk.same {g : Nat} {t : TypeId} {cs : Array Value} (h : Blk w g t cs) (e : w'.heap[g]? = w.heap[g]?) : Blk w' g t cs := e.trans h
theorem Blk.new' {g : Nat} {t : TypeId} {cs : Array Value} (hg : g = w.heap.size) : Blk (w.alloc (.cells cs t)) g t cs := by subst hg; exact Blk.new _ _ _
theorem cell_of_heap {b : Nat} (h : w'.heap[b]? = w.heap[b]?) (o : Nat) : w'.cell? ⟨b, o, none⟩ = w.cell? ⟨b, o, none⟩ := World.cell?_of_block (a := ⟨b, o, none⟩) h
end

/-- A piece of a row. -/
theorem TermR.mid {R : Nat → Prop} {w : World} {b off n c p m : Nat} {l x rest : List Nd} (h : TermR R w (some ⟨b, off, none⟩) n c l) (e : l.drop p = x ++ rest) (hm : x.length = m) (hp : p ≤ n) (hm0 : 0 < m) : TermR R w (some ⟨b, off + p * 3, none⟩) m (c - p) x := by
  have hl : l.length = p + m + rest.length := by
    have h1 := congrArg List.length e
    rw [List.length_drop, List.length_append] at h1
    have := h.len
    omega
  have hc := h.cap
  have hf := h.few
  have hn := h.len
  refine ⟨hm, by omega, by omega, (fun e => by cases e), fun _ => ?_⟩
  obtain ⟨b', off', e', hR, hmem⟩ := h.mem (by omega)
  injection e' with e'
  injection e' with e1 e2
  subst e1 e2
  refine ⟨b, off + p * 3, rfl, hR, fun k hk => ?_⟩
  have hx : nth x k = nth l (p + k) := by
    rw [← nth_drop, e]
    simp [nth, hk, List.getElem?_append_left]
  have := hmem (p + k) (by omega)
  rw [hx]
  rwa [Nat.add_mul, ← Nat.add_assoc] at this

/-- A sort, and its atoms. -/
theorem pp_atoms {l : List Nd} {q : Nat} {n : Nd} {ats : List Nd} {k x : Fo} {rest : List Nd} (h : pp [false] (l.drop q) = some (.cons [] n ats k x, rest)) (h2 : n.op = 2) : k = .nil ∧ x = .nil ∧ ats.length = n.b.toNat ∧ l.drop (q + 1) = ats ++ rest ∧ 1 ≤ n.b ∧ n.b ≤ 4 := by
  have hr := pp_row h
  cases hd : l.drop q with
  | nil => rw [hd] at hr; simp [row] at hr
  | cons y t =>
    rw [hd] at h hr
    simp only [row, List.nil_append, List.cons_append, List.cons.injEq] at hr
    obtain ⟨rfl, hr⟩ := hr
    have hok : okN y = true := by
      rw [pp_cons] at h
      simp only [preOf, Option.bind_some] at h
      split at h
      · assumption
      · cases h
    rw [pp_sort (l := y :: t) (Nat.succ_pos _) hok h2] at h
    simp only [nth, List.getD_cons_zero, List.drop_one, List.tail_cons, Option.map_eq_some_iff, Prod.mk.injEq, Fo.cons.injEq] at h
    obtain ⟨z, hz, ⟨_, _, rfl, rfl, rfl⟩, rfl⟩ := h
    obtain ⟨h5, h6⟩ := takeAtoms_len _ _ _ _ hz
    have hdd : l.drop (q + 1) = t := by rw [← List.drop_drop, hd]; rfl
    have hpl : plainB y.op y.a y.b = true := by simp only [okN, Bool.and_eq_true] at hok; exact hok.1.1
    rw [plainB_iff] at hpl
    exact ⟨rfl, rfl, h6, by rw [hdd]; exact h5, by omega, by omega⟩

/-- A node that is no sort, and its kids. -/
theorem pp_kids {l : List Nd} {q : Nat} {n : Nd} {ats : List Nd} {k x : Fo} {rest : List Nd} (h : pp [false] (l.drop q) = some (.cons [] n ats k x, rest)) (h2 : n.op ≠ 2) : x = .nil ∧ ats = [] ∧ pp (ds n) (l.drop (q + 1)) = some (k, rest) := by
  have hr := pp_row h
  cases hd : l.drop q with
  | nil => rw [hd] at hr; simp [row] at hr
  | cons y t =>
    rw [hd] at h hr
    simp only [row, List.nil_append, List.cons_append, List.cons.injEq] at hr
    obtain ⟨rfl, hr⟩ := hr
    have hok : okN y = true := by
      rw [pp_cons] at h
      simp only [preOf, Option.bind_some] at h
      split at h
      · assumption
      · cases h
    rw [pp_node (l := y :: t) (Nat.succ_pos _) hok h2] at h
    simp only [nth, List.getD_cons_zero, List.drop_one, List.tail_cons, Option.map_eq_some_iff, Prod.mk.injEq, Fo.cons.injEq] at h
    obtain ⟨z, hz, ⟨_, _, rfl, rfl, rfl⟩, rfl⟩ := h
    have hdd : l.drop (q + 1) = t := by rw [← List.drop_drop, hd]; rfl
    exact ⟨rfl, rfl, by rw [hdd]; exact hz⟩

/-- The first of some trees. -/
theorem pp_first {l : List Nd} {q : Nat} {dr : List Bool} {F : Fo} {rest : List Nd} (h : pp (false :: dr) (l.drop q) = some (F, rest)) (hq : q ≤ l.length) :
    ∃ n ats k F' q2, F = .cons [] n ats k F' ∧ q < q2 ∧ q2 ≤ l.length ∧ pp [false] (l.drop q) = some (.cons [] n ats k .nil, l.drop q2) ∧ pp dr (l.drop q2) = some (F', rest) := by
  rw [pp_false] at h
  simp only [Option.bind_eq_some_iff, Option.map_eq_some_iff, Prod.mk.injEq] at h
  obtain ⟨x, hx, y, hy, e1, e2⟩ := h
  obtain ⟨n, ats, k, hn⟩ := pp_one hx
  obtain ⟨h1, h2, h3⟩ := pp_drop hx hq
  have h4 := pp_lt hx (by simp)
  rw [List.length_drop] at h4
  obtain ⟨x1, x2⟩ := x
  obtain ⟨y1, y2⟩ := y
  simp only at hn h1 h2 h3 h4 hy e1 e2
  subst hn e1 e2
  refine ⟨n, ats, k, y1, l.length - x2.length, rfl, by omega, by omega, ?_, ?_⟩
  · rw [← h1]; exact hx
  · rw [← h1]; exact hy
theorem pp_ofix {l : List Nd} {q : Nat} {dr : List Bool} {F : Fo} {rest : List Nd} (h : pp (true :: dr) (l.drop q) = some (F, rest)) :
    q < l.length ∧ okF (nth l q) = true ∧ ∃ F', pp (false :: dr) (l.drop (q + 1)) = some (F', rest) ∧ F = F'.setPre [nth l q] := by
  by_cases hq : q < l.length
  · rw [drop_nth hq, pp_true] at h
    split at h
    · rename_i hf
      refine ⟨hq, hf, ?_⟩
      simp only [Option.bind_eq_some_iff, Option.map_eq_some_iff, Prod.mk.injEq] at h
      obtain ⟨x, hx, y, hy, e1, e2⟩ := h
      obtain ⟨n, ats, k, hn⟩ := pp_one hx
      refine ⟨x.1.app y.1, ?_, ?_⟩
      · rw [pp_false]
        simp only [Option.bind_eq_some_iff, Option.map_eq_some_iff, Prod.mk.injEq]
        exact ⟨x, hx, y, hy, rfl, e2⟩
      · rw [← e1, hn]; rfl
    · cases h
  · rw [List.drop_eq_nil_of_le (by omega), pp_cons] at h
    simp [preOf] at h

/-- Of an owned row, what is neither moved nor written is owned. -/
theorem OwnN.moved {S : Nat → Prop} {row : Option Nat} {w w' : World} {base : Nat} {v : Value} {l : List Nd} (h : OwnN w base v l) (hm : Moved S row w w') (hs : ∀ g, v.ownBlock = some g → ¬ S g ∧ row ≠ some g) : OwnN w' base v l := by
  unfold OwnN at h ⊢
  obtain ⟨h1, h2⟩ := h
  refine ⟨h1, ?_⟩
  rcases h2 with h2 | ⟨g, cap, cur, hv, hg, hh, r⟩
  · exact Or.inl h2
  · subst hv
    have hb := hs g rfl
    exact Or.inr ⟨g, cap, cur, rfl, hg, (hm.block g (Array.getElem?_eq_some_iff.1 hh).1 hb.1 (fun e => hb.2 e.symm)).trans hh, r⟩

theorem OwnN.slice {w : World} {base : Nat} {v : Value} {l : List Nd} (h : OwnN w base v l) : ∃ A c, v = .slice A l.length c := by
  rcases h.2 with ⟨rfl, h0⟩ | ⟨g, cap, cur, rfl, _⟩
  · rw [h0]; exact ⟨none, 0, rfl⟩
  · exact ⟨_, _, rfl⟩

def newRow (v v' : Value) (w : World) : Prop := ∀ g, v'.ownBlock = some g → v.ownBlock = some g ∨ w.heap.size ≤ g
theorem newRow.refl (v : Value) (w : World) : newRow v v w := fun _ h => .inl h
theorem newRow.trans {v v' v'' : Value} {w w' : World} (h : newRow v v' w) (h' : newRow v' v'' w') (hs : w.heap.size ≤ w'.heap.size) : newRow v v'' w := fun g hg => by
  rcases h' g hg with h1 | h1
  · exact h g h1
  · exact .inr (Nat.le_trans hs h1)

/-- What is asked of the function that is called at each node. -/
def OnePost {σ : Type} (V : Vis σ) (J : World → σ → Prop) (S : Nat → Prop) (base : Nat) (pan : List PanicEntry) (w : World) (s : σ) (v : Value) (o : List Nd) (n : Nd) (a : Int) (e : Ending) (w' : World) : Prop :=
  (V.ok s n a = true ∧ Moved S v.ownBlock w w' ∧ J w' (V.nx s n a) ∧ ∃ v', e = .returned v' ∧ OwnN w' base v' (o ++ V.em s n a) ∧ newRow v v' w) ∨
  (V.ok s n a = false ∧ e = .panicked pan ∧ Moved S v.ownBlock w w')
def OneOk (P : Program) (K : FuncId) (caps : Array Value) {σ : Type} (V : Vis σ) (J : World → σ → Prop) (KK S : Nat → Prop) (base H : Nat) (pan : List PanicEntry) (M : Nat) : Prop :=
  ∀ (w : World) (s : σ) (v : Value) (o : List Nd) (n : Nd) (a : Int), H ≤ w.heap.size → J w s → OwnN w base v o → (∀ k, v.ownBlock = some k → ¬ KK k) → okN n = true → V.dm s n a → 0 ≤ a → a ≤ 1000000000000 → o.length + (V.em s n a).length ≤ M →
    Calls P K (#[v, .agg #[.int .i64 n.op, .int .i64 n.a, .int .i64 n.b], .int .i64 a] ++ caps) w (OnePost V J S base pan w s v o n a)

/-- The places of a walk. -/
structure WkC (σ : Type) where
  H : Nat
  base : Nat
  A : Option Addr
  nn : Nat
  c : Nat
  l : List Nd
  R : Nat → Prop
  KK : Nat → Prop
  S : Nat → Prop
  fn : FuncId
  caps : Array Value
  J : World → σ → Prop
  V : Vis σ
  pan : List PanicEntry
  M : Nat

section
variable {σ : Type} (C : WkC σ)
structure WkC.Good : Prop where
  hbase : C.base ≤ C.H
  hR : ∀ b, C.R b → b < C.H ∧ ¬ C.S b
  hK : ∀ b, C.KK b → b < C.H
  hS : ∀ b, C.S b → C.KK b
  hJ : ∀ w w' s, C.J w s → (∀ k, C.KK k → w'.heap[k]? = w.heap[k]?) → C.J w' s
  hM : C.M ≤ 1000000000000
  en : ∀ args w, (callFunc C.fn args).run Try.prog w = .ok (.enter C.fn args) w
  one : OneOk Try.prog C.fn C.caps C.V C.J C.KK C.S C.base C.H C.pan C.M
def WkC.tv : Value := .func (.func 68) #[] #[.pointer (some ⟨C.H, 0, none⟩), .pointer (some ⟨C.H + 5, 0, none⟩), .pointer (some ⟨C.H + 2, 0, none⟩), .pointer (some ⟨C.H + 1, 0, none⟩), .pointer (some ⟨C.H + 6, 0, none⟩)]
structure WkC.St (w : World) (v : Value) (q : Nat) (s : σ) (o : List Nd) : Prop where
  bt : Blk w C.H 23 #[.slice C.A C.nn C.c]
  bo : Blk w (C.H + 1) 23 #[v]
  bf : Blk w (C.H + 2) 61 #[.func (.func C.fn) #[] C.caps]
  ba : Blk w (C.H + 5) 3 #[.int .i64 q]
  br : Blk w (C.H + 6) 87 #[C.tv]
  tm : TermR C.R w C.A C.nn C.c C.l
  own : OwnN w C.base v o
  j : C.J w s
  hv : ∀ g, v.ownBlock = some g → ¬ C.KK g ∧ ¬ C.R g ∧ (g < C.H ∨ C.H + 7 ≤ g)
def WkC.S' (k : Nat) : Prop := C.S k ∨ k = C.H + 1 ∨ k = C.H + 5

variable {C} {w w' : World} {v v' : Value} {q : Nat} {s s' : σ} {o o' : List Nd}
theorem WkC.St.size (h : C.St w v q s o) : C.H + 7 ≤ w.heap.size := h.br.lt
theorem WkC.St.row (h : C.St w v q s o) (g : Nat) (hg : v.ownBlock = some g) : g < w.heap.size := (ownsRow_block h.own hg).2.1

/-- New blocks, and stores into these: all stands. -/
theorem WkC.St.below (hG : C.Good) (h : C.St w v q s o) (hb : Below w.heap.size w w') : C.St w' v q s o := by
  have hsz := h.size
  exact ⟨h.bt.below hb h.bt.lt, h.bo.below hb h.bo.lt, h.bf.below hb h.bf.lt, h.ba.below hb h.ba.lt, h.br.below hb h.br.lt,
    h.tm.keep fun b hR => ⟨hR, fun o => cell_of_heap (hb.block _ (by have := (hG.hR b hR).1; omega)) o⟩, h.own.below hb, hG.hJ _ _ _ h.j (fun k hk => hb.block k (by have := hG.hK k hk; omega)), h.hv⟩

theorem WkC.St.drew (hG : C.Good) (h : C.St w v q s o) : C.St w.drew v q s o :=
  ⟨h.bt, h.bo, h.bf, h.ba, h.br, h.tm.keep fun _ hR => ⟨hR, fun _ => rfl⟩, h.own, hG.hJ _ _ _ h.j (fun _ _ => rfl), h.hv⟩

/-- The place goes on. -/
theorem WkC.St.goOn (hG : C.Good) (h : C.St w v q s o) (x : Int) (p : Nat) (hx : x = p) : C.St (w.setCell ⟨C.H + 5, 0, none⟩ (.int .i64 x)) v p s o := by
  subst hx
  have hsz := h.size
  have hne : ∀ g, v.ownBlock = some g → g ≠ C.H + 5 := fun g hg => by have := (h.hv g hg).2.2; omega
  refine ⟨h.bt.far (by simp) _, h.bo.far (by simp) _, h.bf.far (by simp) _, ?_, h.br.far (by simp) _, ?_, ?_, ?_, h.hv⟩
  · have := h.ba.set_ 0 (.int .i64 p); simpa using this
  · exact h.tm.keep fun b hR => ⟨hR, fun o => cell_of_heap (Below.heap_setCell _ _ _ _ (by have := (hG.hR b hR).1; simp; omega)) o⟩
  · exact ownsRow_setCell_other h.own (fun e => hne _ e rfl) _
  · exact hG.hJ _ _ _ h.j fun k hk => Below.heap_setCell _ _ _ _ (by have := hG.hK k hk; simp; omega)

/-- A row is grown, and laid where out stands. -/
theorem WkC.St.laid (hG : C.Good) (h : C.St w v q s o) (hg : w.grownBy w' v.ownBlock) (hown : OwnN w' C.base v' o') (hn : newRow v v' w) : C.St (w'.setCell ⟨C.H + 1, 0, none⟩ v') v' q s o' := by
  have hsz := h.size
  have hrow : ∀ k, (C.KK k ∨ C.R k ∨ (C.H ≤ k ∧ k < C.H + 7)) → some k ≠ v.ownBlock := fun k hk e => by
    have := h.hv k e.symm
    rcases hk with hk | hk | hk
    · exact this.1 hk
    · exact this.2.1 hk
    · omega
  have hnew : ∀ g, v'.ownBlock = some g → ¬ C.KK g ∧ ¬ C.R g ∧ (g < C.H ∨ C.H + 7 ≤ g) := fun g hg => by
    rcases hn g hg with h1 | h1
    · exact h.hv g h1
    · exact ⟨fun x => by have := hG.hK g x; omega, fun x => by have := (hG.hR g x).1; omega, .inr (by omega)⟩
  have hne : ∀ g, v'.ownBlock = some g → g ≠ C.H + 1 := fun g hg => by have := (hnew g hg).2.2; omega
  refine ⟨(h.bt.grown hg (hrow _ (by omega))).far (by simp) _, ?_, (h.bf.grown hg (hrow _ (by omega))).far (by simp) _, (h.ba.grown hg (hrow _ (by omega))).far (by simp) _, (h.br.grown hg (hrow _ (by omega))).far (by simp) _, ?_, ?_, ?_, hnew⟩
  · have := (h.bo.grown hg (hrow _ (by omega))).set_ 0 v'; simpa using this
  · refine h.tm.keep fun b hR => ⟨hR, fun o => ?_⟩
    have := (hG.hR b hR).1
    exact cell_of_heap ((Below.heap_setCell _ _ _ _ (by simp; omega)).trans (hg.block b (by omega) (hrow b (by simp [hR])))) o
  · exact ownsRow_setCell_other hown (fun e => hne _ e rfl) _
  · refine hG.hJ _ _ _ h.j fun k hk => ?_
    have := hG.hK k hk
    exact (Below.heap_setCell _ _ _ _ (by simp; omega)).trans (hg.block k (by omega) (hrow k (by simp [hk])))

/-- One was called, and what it answers is laid where out stands. -/
theorem WkC.St.called (hG : C.Good) (h : C.St w v q s o) (hm : Moved C.S v.ownBlock w w') (hown : OwnN w' C.base v' o') (hn : newRow v v' w) (hj : C.J w' s') : C.St (w'.setCell ⟨C.H + 1, 0, none⟩ v') v' q s' o' := by
  have hsz := h.size
  have hrow : ∀ k, (C.KK k ∨ C.R k ∨ (C.H ≤ k ∧ k < C.H + 7)) → some k ≠ v.ownBlock := fun k hk e => by
    have := h.hv k e.symm
    rcases hk with hk | hk | hk
    · exact this.1 hk
    · exact this.2.1 hk
    · omega
  have hS : ∀ k, C.H ≤ k → ¬ C.S k := fun k hk hs => by have := hG.hK k (hG.hS k hs); omega
  have hnew : ∀ g, v'.ownBlock = some g → ¬ C.KK g ∧ ¬ C.R g ∧ (g < C.H ∨ C.H + 7 ≤ g) := fun g hg => by
    rcases hn g hg with h1 | h1
    · exact h.hv g h1
    · exact ⟨fun x => by have := hG.hK g x; omega, fun x => by have := (hG.hR g x).1; omega, .inr (by omega)⟩
  have hne : ∀ g, v'.ownBlock = some g → g ≠ C.H + 1 := fun g hg => by have := (hnew g hg).2.2; omega
  have hk : ∀ k, (C.H ≤ k ∧ k < C.H + 7) → w'.heap[k]? = w.heap[k]? := fun k hk => hm.block k (by omega) (hS k hk.1) (hrow k (by simp [hk]))
  refine ⟨(h.bt.same (hk _ (by omega))).far (by simp) _, ?_, (h.bf.same (hk _ (by omega))).far (by simp) _, (h.ba.same (hk _ (by omega))).far (by simp) _, (h.br.same (hk _ (by omega))).far (by simp) _, ?_, ?_, ?_, hnew⟩
  · have := (h.bo.same (hk _ (by omega))).set_ 0 v'; simpa using this
  · refine h.tm.keep fun b hR => ⟨hR, fun o => ?_⟩
    have h1 := hG.hR b hR
    exact cell_of_heap ((Below.heap_setCell _ _ _ _ (by simp; omega)).trans (hm.block b (by omega) h1.2 (hrow b (by simp [hR])))) o
  · exact ownsRow_setCell_other hown (fun e => hne _ e rfl) _
  · refine hG.hJ _ _ _ hj fun k hk => ?_
    have := hG.hK k hk
    exact Below.heap_setCell _ _ _ _ (by simp; omega)

theorem WkC.S_lt (hG : C.Good) {k : Nat} (hk : C.H ≤ k) : ¬ C.S k := fun hs => by have := hG.hK k (hG.hS k hs); omega
theorem WkC.St.keep (hG : C.Good) (h : C.St w v q s o) (hm : Moved C.S v.ownBlock w w') {k : Nat} (hk : C.H ≤ k) (hk' : k < C.H + 7) : w'.heap[k]? = w.heap[k]? := by
  have hsz := h.size
  exact hm.block k (by omega) (WkC.S_lt hG hk) (fun e => by have := (h.hv k e.symm).2.2; omega)
theorem WkC.St.rowKeep (_hG : C.Good) (h : C.St w v q s o) (hg : w.grownBy w' v.ownBlock) {k : Nat} (hk : (C.H ≤ k ∧ k < C.H + 7) ∨ (v.ownBlock ≠ some k ∧ k < w.heap.size)) : w'.heap[k]? = w.heap[k]? := by
  have hsz := h.size
  rcases hk with hk | hk
  · exact hg.block k (by omega) (fun e => by have := (h.hv k e.symm).2.2; omega)
  · exact hg.block k hk.2 (fun e => hk.1 e.symm)
theorem WkC.S'_new (hG : C.Good) {k : Nat} (hk : C.H + 7 ≤ k) : ¬ C.S' k := fun hs => by
  rcases hs with h | h | h
  · have := hG.hK k (hG.hS k h); omega
  · omega
  · omega
theorem WkC.S_S' (k : Nat) (h : C.S k) : C.S' k := .inl h

/-- What is left behind a walk over one tree. -/
def WkC.Post (C : WkC σ) (w : World) (v : Value) (o : List Nd) (q' : Nat) (E : List Nd) (s' : σ) (g : Bool) (e : Ending) (w' : World) : Prop :=
  (g = true ∧ e = .returned (.tuple #[]) ∧ Moved C.S' v.ownBlock w w' ∧ ∃ v', C.St w' v' q' s' (o ++ E) ∧ newRow v v' w) ∨ (g = false ∧ e = .panicked C.pan ∧ Moved C.S' v.ownBlock w w')
end

end Go.Proofs.Ytnmeglbamfjcgaa
