/- Terms in terms; what Right and Fits give the guard checker. -/
import Derived.Test.YtjllmblbbgojbaaKGuarded
import Derived.Test.YtjllmblbbgojbaaKBooks
namespace Go.Proofs.Ytjllmblbbgojbaa
open Go.RowKit
theorem atoms_op : ∀ (k : Nat) (last : Int) (l : List Nd) (p : List Nd × List Nd), takeAtoms k last l = some p → ∀ m ∈ p.1, m.op = 3
 | 0, _, _, p, h, m, hm => by
  simp only [takeAtoms, Option.some.injEq] at h
  subst h
  cases hm
 | k + 1, last, [], p, h, m, hm => by simp [takeAtoms] at h
 | k + 1, last, x :: l, p, h, m, hm => by
  simp only [takeAtoms] at h
  split at h
  · rename_i hc
    simp only [Option.map_eq_some_iff] at h
    obtain ⟨q, hq, rfl⟩ := h
    rcases List.mem_cons.1 hm with rfl | hm
    · exact hc.1
    exact atoms_op k x.a l q hq m hm
  · cases h
theorem nth_left {l m : List Nd} {i : Nat} (h : i < l.length) : nth (l ++ m) i = nth l i := by
 unfold nth
 rw [List.getD_eq_getElem?_getD, List.getD_eq_getElem?_getD, List.getElem?_append_left h]
theorem nth_right {l m : List Nd} (j : Nat) : nth (l ++ m) (l.length + j) = nth m j := by
 unfold nth
 rw [List.getD_eq_getElem?_getD, List.getD_eq_getElem?_getD, List.getElem?_append_right (by omega), Nat.add_sub_cancel_left]
theorem nth_mem {l : List Nd} {i : Nat} (h : i < l.length) : nth l i ∈ l := by
 rw [nth_eq h]; exact List.getElem_mem h
theorem sub_at : ∀ (F : Fo) (dl : List Bool), Wf dl F → ∀ i, i < (row F).length → (nth (row F) i).op = 12 → ∃ n a k rest, (row F).drop i = rowT (n, a, k) ++ rest ∧ okN n = true ∧ AtOk n a ∧ Wf (ds n) k
 | .nil, _, _, i, hi, _ => absurd hi (by simp [row])
 | .cons p n a k x, [], h, _, _, _ => h.elim
 | .cons p n a k x, d :: dr, h, i, hi, h12 => by
  obtain ⟨hp, hok, hat, hk, hx⟩ := h
  have hrow : row (.cons p n a k x) = p ++ (n :: (a ++ (row k ++ row x))) := by simp [row]
  rw [hrow] at hi h12 ⊢
  by_cases h1 : i < p.length
  · rw [nth_left h1] at h12
    cases d with
    | false => simp only at hp; subst hp; simp at h1
    | true =>
     obtain ⟨f, rfl, hf⟩ := hp
     have := nth_mem h1
     rw [List.mem_singleton] at this
     rw [this] at h12
     simp only [okF, Bool.and_eq_true, decide_eq_true_eq] at hf
     omega
  obtain ⟨j, rfl⟩ : ∃ j, i = p.length + j := ⟨i - p.length, by omega⟩
  rw [nth_right] at h12
  rw [List.drop_append, List.drop_of_length_le (by omega), List.nil_append, Nat.add_sub_cancel_left]
  rw [List.length_append] at hi
  cases j with
  | zero =>
   refine ⟨n, a, k, row x, ?_, hok, hat, hk⟩
   simp [rowT]
  | succ j =>
   have h12' : (nth (a ++ (row k ++ row x)) j).op = 12 := h12
   rw [List.drop_succ_cons]
   simp only [List.length_cons] at hi
   by_cases h2 : j < a.length
   · rw [nth_left h2] at h12'
     unfold AtOk at hat
     split at hat
     · have h9 : (nth a j).op = 3 := atoms_op _ _ _ _ hat _ (nth_mem h2)
       rw [h9] at h12'
       exact absurd h12' (by decide)
     subst hat; simp at h2
   obtain ⟨m, rfl⟩ : ∃ m, j = a.length + m := ⟨j - a.length, by omega⟩
   rw [nth_right] at h12'
   rw [List.drop_append, List.drop_of_length_le (by omega), List.nil_append, Nat.add_sub_cancel_left]
   rw [List.length_append, List.length_append] at hi
   by_cases h3 : m < (row k).length
   · rw [nth_left h3] at h12'
     obtain ⟨n', a', k', rest, e, h4⟩ := sub_at k _ hk m h3 h12'
     refine ⟨n', a', k', rest ++ row x, ?_, h4⟩
     rw [List.drop_append_of_le_length (by omega), e, List.append_assoc]
   · obtain ⟨q, rfl⟩ : ∃ q, m = (row k).length + q := ⟨m - (row k).length, by omega⟩
     rw [nth_right] at h12'
     rw [List.drop_append, List.drop_of_length_le (by omega), List.nil_append, Nat.add_sub_cancel_left]
     exact sub_at x _ hx q (by omega) h12'
def treeAt (l : List Nd) : TT := match pp [false] l with
 | some (.cons _ n a k _, _) => (n, a, k)
 | none => (default, [], .nil)
 | some (.nil, _) => (default, [], .nil)
theorem treeAt_row {n : Nd} {a : List Nd} {k : Fo} {rest : List Nd} (h1 : okN n = true) (h2 : AtOk n a) (h3 : Wf (ds n) k) : treeAt (rowT (n, a, k) ++ rest) = (n, a, k) := by
 have hpp := pp_of_wf (.cons [] n a k .nil) [false] rest ⟨rfl, h1, h2, h3, trivial⟩
 unfold treeAt
 rw [show rowT (n, a, k) = row (.cons [] n a k .nil) from by simp [row, rowT], hpp]
theorem treeAt_rt {l : List Nd} {n : Nd} {a : List Nd} {k : Fo} (h : Rt l n a k) : treeAt l = (n, a, k) := by
 unfold treeAt
 rw [h.pp]
def argsB (b : Bk) (e : Int) (k : Nat) : Nat := ((entB b e).ctors.getD k default).args.length
def fixE (b : Bk) (free : Int) (l : List Nd) : Int :=
 if fitsE b free l ≠ 0 then fitsE b free l else if (nth l 0).op ≠ 12 then 1 else if guardT (argsB b) l.length (treeAt l) then 0 else 18
def allG (b : Bk) (l : List Nd) : Nat → Nat → Bool
 | 0, _ => true
 | r + 1, i => (if (nth l i).op = 12 then guardT (argsB b) (rowT (treeAt (l.drop i))).length (treeAt (l.drop i)) else true) && allG b l r (i + 1)
def chkGE (b : Bk) (free : Int) (l : List Nd) : Int :=
 if fitsE b free l ≠ 0 then fitsE b free l else if allG b l l.length 0 then 0 else 18
theorem firstE_all : ∀ {L : List Int}, firstE L = 0 → ∀ e ∈ L, e = 0
 | [], _, e, he => by cases he
 | x :: r, h, e, he => by
  simp only [firstE] at h
  split at h
  · rename_i h1; exact absurd h h1
  · rename_i h1
    rcases List.mem_cons.1 he with rfl | he
    · exact Decidable.not_not.1 h1
    exact firstE_all h e he
theorem entry_small {b : Bk} {known : Int} {x : En} (h : entryE b known x = 0) : x.ctors.length ≤ 16 ∧ ∀ c ∈ x.ctors, c.args.length ≤ 16 := by
 unfold entryE at h
 split at h
 rotate_left
 · split at h
   · split at h
     · cases h
     rename_i h3
     have : x.ctors = [] := List.eq_nil_of_length_eq_zero (by omega)
     rw [this]
     exact ⟨by simp, fun c hc => by cases hc⟩
   cases h
 split at h
 · cases h
 split at h
 · cases h
 rename_i h1 h2 h3
 refine ⟨by omega, ?_⟩
 have hc : ctorsE b known x x.ctors = 0 := by
  exact firstE_all h _ (by simp)
 generalize x.ctors = L at hc
 clear h h1 h2 h3
 induction L with
 | nil => intro c hc; cases hc
 | cons c r ih =>
  simp only [ctorsE] at hc
  split at hc
  · cases hc
  · rename_i h1
    split at hc
    · cases hc
    split at hc
    · rename_i h2; exact absurd hc h2
    split at hc
    · rename_i h3; exact absurd hc h3
    intro c' hc'
    rcases List.mem_cons.1 hc' with rfl | hc'
    · omega
    exact ih hc c' hc'
theorem entries_small {b : Bk} : ∀ {L : List En} {i : Nat}, entriesE b i L = 0 → ∀ x ∈ L, x.ctors.length ≤ 16 ∧ ∀ c ∈ x.ctors, c.args.length ≤ 16
 | [], _, _, x, hx => by cases hx
 | y :: r, i, h, x, hx => by
  rw [show entriesE b i (y :: r) = if entryE b i y ≠ 0 then entryE b i y else entriesE b (i + 1) r from rfl] at h
  split at h
  · rename_i h1; exact absurd h h1
  · rename_i h1
    rcases List.mem_cons.1 hx with rfl | hx
    · exact entry_small (Decidable.not_not.1 h1)
    exact entries_small h x hx
theorem right_small {b : Bk} (h : rightE b = 0) : ∀ x ∈ b.entries, x.ctors.length ≤ 16 ∧ ∀ c ∈ x.ctors, c.args.length ≤ 16 := by
 unfold rightE at h
 split at h
 · rename_i h1; exact absurd h h1
 split at h
 · cases h
 split at h
 · rename_i h1; exact absurd h h1
 rename_i h1
 exact entries_small (Decidable.not_not.1 h1)
theorem fits_row {b : Bk} {free : Int} {l : List Nd} (h : fitsE b free l = 0) : rightE b = 0 ∧ 0 ≤ free ∧ rowE b b.entries.length (-1) l free = 0 := by
 unfold fitsE at h
 split at h
 · rename_i h1; exact absurd h h1
 rename_i h1
 split at h
 · cases h
 rename_i h2
 exact ⟨Decidable.not_not.1 h1, by omega, h⟩
theorem row_nodes {b : Bk} {known self below : Int} {l : List Nd} (h : rowE b known self l below = 0) : shapeI l = 0 ∧ belowB l below = true ∧ ∀ m ∈ l, nodeB b known self m = true := by
 unfold rowE at h
 split at h
 · rename_i h1; exact absurd h h1
 rename_i h1
 split at h
 · cases h
 rename_i h2
 split at h
 · rename_i h3
   exact ⟨Decidable.not_not.1 h1, by simpa using h2, List.all_eq_true.1 h3⟩
 cases h
theorem fits_JE {b : Bk} {free : Int} {l : List Nd} (h : fitsE b free l = 0) : ∀ m ∈ l, m.op = 11 → m.a < (b.entries.length : Int) := by
 intro m hm h11
 have := (row_nodes (fits_row h).2.2).2.2 m hm
 unfold nodeB at this
 rw [if_neg (by omega), if_neg (by omega), if_neg (by omega), if_pos h11] at this
 unfold famB at this
 rw [Bool.and_eq_true, decide_eq_true_eq] at this
 exact this.1
theorem BookV.entR {w : World} {v : BkVal} {b : Bk} (h : BookV w v b) (hr : rightE b = 0) : EntR ⟨b.vars, b.nat, v.Ao, v.no, v.co, v.Ae, v.ne, v.ce, v.Ap, v.np, v.cp, none, 0, 0⟩ (argsB b) w := ⟨fun e he => by
 have he' : e < v.ne := he
 obtain ⟨be, oe, hA, hbe, ev, _, _, _, _, hc4, _, _, hec⟩ := h.entries.at_ he'
 have hent : b.entries.getD e default = entB b e := by unfold entB; rw [Int.toNat_natCast]
 have hlen := h.entries.len
 have hmem : entB b e ∈ b.entries := by
  rw [← hent, List.getD_eq_getElem?_getD, List.getElem?_eq_getElem (by omega)]
  exact List.getElem_mem _
 obtain ⟨h16, hargs⟩ := right_small hr _ hmem
 rw [hent] at hec
 have hcl := hec.ctors.len
 refine ⟨be, oe, ev.Ac, ev.nc, ev.cc, hA, hbe, hc4, by omega, fun k hk => ?_, fun k hk => ?_⟩
 · obtain ⟨b2, o2, e2, hb2, hm⟩ := hec.ctors.mem (by omega)
   obtain ⟨A1, n1, c1, A2, n2, c2, hc1, _, hr1, _⟩ := hm k hk
   have hl := hr1.len
   have hcm : (entB b e).ctors.getD k default ∈ (entB b e).ctors := by
    rw [List.getD_eq_getElem?_getD, List.getElem?_eq_getElem (by omega)]
    exact List.getElem_mem _
   have h2 := hargs _ hcm
   refine ⟨b2, o2, A1, c1, e2, hb2, ?_, ?_⟩
   · unfold argsB
     rw [hl]
     exact hc1
   unfold argsB
   omega
 unfold argsB
 rw [List.getD_eq_getElem?_getD, List.getElem?_eq_none (by omega)]
 rfl⟩
end Go.Proofs.Ytjllmblbbgojbaa
