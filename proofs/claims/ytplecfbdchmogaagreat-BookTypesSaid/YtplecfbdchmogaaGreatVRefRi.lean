/- Merged: RefRightP, RefRight, RefFits. -/
import Derived.Test.YtplecfbdchmogaaGreatVRefRow
import Derived.Test.YtplecfbdchmogaaGreatVShort2
import Derived.Test.YtplecfbdchmogaaGreatVRefEntry
import Derived.Test.YtplecfbdchmogaaGreatVRefCheck
import Derived.Test.YtplecfbdchmogaaGreatVSame
namespace Go.Proofs.YtplecfbdchmogaaGreat
open Go.Lib (hid)
section
def seenB (seen : List (Int × Int)) (p : Int × Int) : Bool := seen.any (fun q => decide (q.1 = p.1) || decide (q.2 = p.2))
def primOk (b : Bk) (p : Int × Int) : Bool := decide (0 ≤ p.1 ∧ p.1 < (b.entries.length : Int) ∧ 1 ≤ p.2 ∧ p.2 ≤ 3 ∧ (entB b p.1).kind = 2)
def primsR (b : Bk) : List (Int × Int) → List (Int × Int) → Bool
 | _, [] => true
 | seen, p :: r => primOk b p && (!(seenB seen p) && primsR b (seen ++ [p]) r)
theorem primsB_cons {b : Bk} {p : Int × Int} {r : List (Int × Int)} {g : GF} : primsB b (p :: r) g = (if p.1 < 0 then false
 else if (b.entries.length : Int) ≤ p.1 then false
 else if (entB b p.1).kind ≠ 2 then false
 else if p.2 < 1 then false
 else if 3 < p.2 then false
 else if 0 < (g p.1 (-1)).getD 0 + (g (-1) p.2).getD 0 then false
 else primsB b r (updG (updG g p.1 (-1) 1) (-1) p.2 1)) := rfl
theorem seen_iff {seen : List (Int × Int)} {p : Int × Int} : seenB seen p = true ↔ (∃ q ∈ seen, q.1 = p.1) ∨ ∃ q ∈ seen, q.2 = p.2 := by
 unfold seenB
 simp only [List.any_eq_true, Bool.or_eq_true, decide_eq_true_eq]
 constructor
 · rintro ⟨q, hq, h | h⟩
   · exact .inl ⟨q, hq, h⟩
   exact .inr ⟨q, hq, h⟩
 rintro (⟨q, hq, h⟩ | ⟨q, hq, h⟩)
 · exact ⟨q, hq, .inl h⟩
 exact ⟨q, hq, .inr h⟩
theorem prims_ref {b : Bk} : ∀ (ps seen : List (Int × Int)) (g : GF),
 (∀ a : Int, 0 ≤ a → 0 ≤ (g a (-1)).getD 0 ∧ (0 < (g a (-1)).getD 0 ↔ ∃ q ∈ seen, q.1 = a)) →
 (∀ c : Int, 1 ≤ c → 0 ≤ (g (-1) c).getD 0 ∧ (0 < (g (-1) c).getD 0 ↔ ∃ q ∈ seen, q.2 = c)) → primsB b ps g = primsR b seen ps
 | [], _, _, _, _ => rfl
 | p :: r, seen, g, h1, h2 => by
  rw [primsB_cons, primsR]
  by_cases hk : 0 ≤ p.1 ∧ p.1 < (b.entries.length : Int) ∧ 1 ≤ p.2 ∧ p.2 ≤ 3 ∧ (entB b p.1).kind = 2
  case neg =>
   rw [show primOk b p = false from decide_eq_false hk, Bool.false_and]
   repeat' split
   all_goals first | rfl | (exfalso; apply hk; omega)
  obtain ⟨a1, a2, a3, a4, a5⟩ := hk
  rw [show primOk b p = true from decide_eq_true ⟨a1, a2, a3, a4, a5⟩, Bool.true_and, if_neg (by omega), if_neg (by omega), if_neg (by simpa using a5), if_neg (by omega), if_neg (by omega)]
  obtain ⟨p1, q1⟩ := h1 p.1 a1
  obtain ⟨p2, q2⟩ := h2 p.2 a3
  by_cases hs : seenB seen p = true
  · rw [hs, Bool.not_true, Bool.false_and]
    have h := seen_iff.1 hs
    rw [← q1, ← q2] at h
    rw [if_pos (by omega)]
  · have hs2 : ¬ ((∃ q ∈ seen, q.1 = p.1) ∨ ∃ q ∈ seen, q.2 = p.2) := fun h => hs (seen_iff.2 h)
    rw [← q1, ← q2] at hs2
    rw [show seenB seen p = false from by simpa using hs, Bool.not_false, Bool.true_and, if_neg (by omega)]
    refine prims_ref r (seen ++ [p]) _ (fun a ha => ?_) (fun c hc => ?_)
    · obtain ⟨g1, g2⟩ := h1 a ha
      unfold updG
      rw [if_neg (by omega)]
      by_cases e : a = p.1
      · rw [if_pos ⟨e, rfl⟩]
        refine ⟨by decide, fun _ => ⟨p, by simp, e.symm⟩, fun _ => by decide⟩
      rw [if_neg (by omega)]
      refine ⟨g1, fun h => ?_, fun h => ?_⟩
      · obtain ⟨q, hq, e2⟩ := g2.1 h
        exact ⟨q, by simp [hq], e2⟩
      obtain ⟨q, hq, e2⟩ := h
      rw [List.mem_append, List.mem_singleton] at hq
      rcases hq with hq | rfl
      · exact g2.2 ⟨q, hq, e2⟩
      exact absurd e2.symm e
    obtain ⟨g1, g2⟩ := h2 c hc
    unfold updG
    by_cases e : c = p.2
    · rw [if_pos ⟨rfl, e⟩]
      refine ⟨by decide, fun _ => ⟨p, by simp, e.symm⟩, fun _ => by decide⟩
    rw [if_neg (by omega), if_neg (by omega)]
    refine ⟨g1, fun h => ?_, fun h => ?_⟩
    · obtain ⟨q, hq, e2⟩ := g2.1 h
      exact ⟨q, by simp [hq], e2⟩
    obtain ⟨q, hq, e2⟩ := h
    rw [List.mem_append, List.mem_singleton] at hq
    rcases hq with hq | rfl
    · exact g2.2 ⟨q, hq, e2⟩
    exact absurd e2.symm e
theorem prims_none {b : Bk} {ps : List (Int × Int)} : primsB b ps (fun _ _ => none) = primsR b [] ps :=
 prims_ref ps [] _ (fun _ _ => ⟨by decide, by simp⟩) (fun _ _ => ⟨by decide, by simp⟩)
theorem rentries_at {b : Bk} : ∀ (L : List En) (i k : Nat), entriesE b i L = 0 → k < L.length → entryE b ((i + k : Nat) : Int) (L.getD k default) = 0
 | [], _, _, _, h => absurd h (Nat.not_lt_zero _)
 | x :: L, i, k, h, hk => by
  have e : entriesE b i (x :: L) = if entryE b i x ≠ 0 then entryE b i x else entriesE b (i + 1) L := rfl
  rw [e] at h
  by_cases h0 : entryE b i x = 0
  · rw [if_neg (by simpa using h0)] at h
    cases k with
    | zero => exact h0
    | succ k =>
     have := rentries_at L (i + 1) k h (by simpa using hk)
     rw [show i + 1 + k = i + (k + 1) from by omega] at this
     exact this
  · rw [if_pos h0] at h
    exact absurd h h0
def SORT1 : List Nd := [⟨2, 1, 1⟩, ⟨3, 0, 0⟩]
def numR (b : Bk) (e : Int) : Bool :=
 if (decide (0 ≤ e) && famB b b.entries.length e) = false then false
 else if (entB b e).sort ≠ SORT1 then false
 else if 0 < (entB b e).params.length + (entB b e).indices.length then false
 else if (entB b e).ctors.length ≠ 2 then false
 else if ((entB b e).ctors.getD 0 default).args.length ≠ 0 then false
 else if ((entB b e).ctors.getD 1 default).args.length ≠ 1 then false
 else decide (((entB b e).ctors.getD 1 default).args.getD 0 [] = [⟨9, e, 0⟩])
theorem two_of {l : List Nd} (h : l.length = 2) : l = [nth l 0, nth l 1] := by
 match l, h with
 | [a, c], _ => rfl
theorem one_of {l : List Nd} (h : l.length = 1) : l = [nth l 0] := by
 match l, h with
 | [a], _ => rfl
theorem sort_is {l : List Nd} (hs : shapeI l = 0) (h2 : (nth l 0).op = 2) (hl : l.length = 2) (ha : (nth l 0).a = 1) (h1 : nth l 1 = ⟨3, 0, 0⟩) : l = SORT1 := by
 obtain ⟨_, n, ats, k, hpp, he, _⟩ := shape_ok hs
 have hw := wf_of_pp hpp
 obtain ⟨_, hok, hat, hk, _⟩ := hw
 have hn : nth l 0 = n := by rw [he]; rfl
 rw [hn] at h2 ha
 unfold AtOk at hat
 rw [if_pos h2] at hat
 have hds : ds n = [] := by
  unfold ds
  simp [h2, kidsI]
 rw [hds] at hk
 have hk0 : k = .nil := by
  cases k with
  | nil => rfl
  | cons _ _ _ _ _ => exact hk.elim
 subst hk0
 rw [he] at hl
 simp only [row, List.append_nil, List.length_cons] at hl
 have hb : n.b = 1 := by
  simp only [okN, Bool.and_eq_true] at hok
  rcases plainB_iff.1 hok.1.1 with h | h | h | h | h | h | h | h | h
  all_goals first | omega | skip
  obtain ⟨_, _, g1, g2⟩ := h
  obtain ⟨m, hm⟩ : ∃ m : Nat, n.b = m := ⟨n.b.toNat, by omega⟩
  rw [hm, Int.toNat_natCast] at hat
  match ats, hl with
  | [x], _ =>
   match m, hm with
   | 0, hm => omega
   | 1, hm => omega
   | m + 2, hm =>
    simp only [takeAtoms] at hat
    split at hat <;> simp at hat
 rw [two_of (l := l) (by rw [he]; simpa [row] using hl), h1, hn]
 obtain ⟨o, a, c⟩ := n
 simp only at h2 ha hb
 subst h2 ha hb
 rfl
theorem num_ref {b : Bk} {e : Int} (h : entriesE b 0 b.entries = 0) : numB b e = numR b e := by
 unfold numB numR
 by_cases h0 : e < 0
 · rw [if_pos h0, decide_eq_false (p := 0 ≤ e) (by omega), Bool.false_and, if_pos rfl]
 rw [if_neg h0, decide_eq_true (p := 0 ≤ e) (by omega), Bool.true_and]
 by_cases h1 : (b.entries.length : Int) ≤ e
 · rw [if_pos h1, show famB b b.entries.length e = false from by unfold famB; rw [decide_eq_false (by omega), Bool.false_and], if_pos rfl]
 rw [if_neg h1]
 by_cases h2 : (entB b e).kind = 1
 case neg =>
  rw [if_pos h2, show famB b b.entries.length e = false from by unfold famB; rw [show ((entB b e).kind == 1) = false from by simpa using h2, Bool.and_false], if_pos rfl]
 rw [if_neg (by simpa using h2), show famB b b.entries.length e = true from by unfold famB; rw [decide_eq_true (by omega), h2]; rfl, if_neg (c := true = false) (by decide)]
 have he := rentries_at b.entries 0 e.toNat h (by omega)
 rw [Nat.zero_add, show ((e.toNat : Nat) : Int) = e from by omega, show b.entries.getD e.toNat default = entB b e from rfl] at he
 have hs : shapeI (entB b e).sort = 0 ∧ (nth (entB b e).sort 0).op = 2 := by
  unfold entryE at he
  rw [if_pos h2] at he
  split at he
  · cases he
  split at he
  · cases he
  simp only [firstE] at he
  by_cases g : rowE b e (-1) (entB b e).sort 0 = 0
  · rw [if_neg (by simpa using g)] at he
    by_cases g2 : sortE (entB b e).sort = 0
    · unfold rowE at g
      unfold sortE at g2
      refine ⟨?_, ?_⟩
      · by_cases q : shapeI (entB b e).sort = 0
        · exact q
        rw [if_pos q] at g; exact g
      by_cases q : (nth (entB b e).sort 0).op = 2
      · exact q
      rw [if_pos q] at g2; cases g2
    rw [if_pos g2] at he; exact absurd he g2
  rw [if_pos g] at he; exact absurd he g
 by_cases hso : (entB b e).sort = SORT1
 · rw [if_neg (c := (entB b e).sort ≠ SORT1) (by simpa using hso), hso, if_neg (c := SORT1.length ≠ 2) (by decide), if_neg (c := (nth SORT1 0).a ≠ 1) (by decide), if_neg (c := nth SORT1 1 ≠ ⟨3, 0, 0⟩) (by decide)]
   repeat' split
   all_goals try rfl
   · rename_i g6
     exact (decide_eq_false (fun q => g6 (by rw [q]; rfl))).symm
   rename_i g6
   have h3 := one_of (l := ((entB b e).ctors.getD 1 default).args.getD 0 []) (by simpa using g6)
   refine decide_eq_decide.2 ⟨fun q => by rw [h3, q], fun q => by rw [q]; rfl⟩
 rw [if_pos hso]
 by_cases q1 : (entB b e).sort.length = 2
 · rw [if_neg (by simpa using q1)]
   by_cases q2 : (nth (entB b e).sort 0).a = 1
   · rw [if_neg (by simpa using q2)]
     by_cases q3 : nth (entB b e).sort 1 = ⟨3, 0, 0⟩
     · exact absurd (sort_is hs.1 hs.2 q1 q2 q3) hso
     rw [if_pos q3]
   rw [if_pos q2]
 rw [if_pos q1]
end
section
open Go.RowKit
theorem lit2 {w : World} {g : Nat} (h : Blk w g 53 #[.int .i64 2, .int .i64 1, .int .i64 1, .int .i64 3, .int .i64 0, .int .i64 0]) : TermV w (some ⟨g, 0, none⟩) 2 2 SORT1 :=
 ⟨rfl, by decide, by decide, (fun e => by cases e), fun _ => ⟨g, 0, rfl, h.lt, fun k hk => by
  match k, hk with
  | 0, _ => exact ⟨h.cell 0, h.cell 1, h.cell 2⟩
  | 1, _ => exact ⟨h.cell 3, h.cell 4, h.cell 5⟩⟩⟩
theorem lit1 {w : World} {g : Nat} {e : Int} (h : Blk w g 53 #[.int .i64 9, .int .i64 e, .int .i64 0]) : TermV w (some ⟨g, 0, none⟩) 1 1 [⟨9, e, 0⟩] :=
 ⟨rfl, by decide, by decide, (fun e => by cases e), fun _ => ⟨g, 0, rfl, h.lt, fun k hk => by
  match k, hk with
  | 0, _ => exact ⟨h.cell 0, h.cell 1, h.cell 2⟩⟩⟩
theorem CtsV.at3 {w : World} {A : Option Addr} {n c : Nat} {cs : List Ct} (h : CtsV w A n c cs) {k : Nat} (hk : k < n) : ∃ b off, A = some ⟨b, off, none⟩ ∧ b < w.heap.size ∧ ∃ A1 n1 c1 A2 n2 c2, w.cell? ⟨b, off + k * 2, none⟩ = some (.slice A1 n1 c1) ∧ w.cell? ⟨b, off + k * 2 + 1, none⟩ = some (.slice A2 n2 c2) ∧ RowsV w A1 n1 c1 (cs.getD k default).args ∧ RowsV w A2 n2 c2 (cs.getD k default).outs := by
 obtain ⟨b, off, e, hb, hm⟩ := h.mem (by omega)
 exact ⟨b, off, e, hb, hm k hk⟩
theorem PrsV.cells {w : World} {b off n c : Nat} {ps : List (Int × Int)} (h : PrsV w (some ⟨b, off, none⟩) n c ps) {k : Nat} (hk : k < n) : b < w.heap.size ∧ w.cell? ⟨b, off + k * 2, none⟩ = some (.int .i64 (ps.getD k (0, 0)).1) ∧ w.cell? ⟨b, off + k * 2 + 1, none⟩ = some (.int .i64 (ps.getD k (0, 0)).2) := by
 obtain ⟨b', off', e, hb, hm⟩ := h.mem (by omega)
 injection e with e; injection e with e1 e2
 subst e1 e2
 exact ⟨hb, hm k hk⟩
theorem EnsV.kind_at {w : World} {b off n c : Nat} {es : List En} (h : EnsV w (some ⟨b, off, none⟩) n c es) {k : Nat} (hk : k < n) : w.cell? ⟨b, off + k * 7, none⟩ = some (.int .i64 (es.getD k default).kind) := by
 obtain ⟨b', off', e, hb, ev, h0, _⟩ := h.at_ hk
 injection e with e; injection e with e1 e2
 subst e1 e2
 exact h0
theorem seen_at {ps : List (Int × Int)} {i j : Nat} {p : Int × Int} (hj : j < i) (hi : i ≤ ps.length) (h : (ps.getD j (0, 0)).1 = p.1 ∨ (ps.getD j (0, 0)).2 = p.2) : seenB (ps.take i) p = true := by
 have hm : ps.getD j (0, 0) ∈ ps.take i := by
  rw [List.getD_eq_getElem?_getD, List.getElem?_eq_getElem (by omega)]
  simp only [Option.getD_some]
  have h2 : j < (ps.take i).length := by rw [List.length_take]; omega
  have h3 : (ps.take i)[j] = ps[j] := List.getElem_take
  rw [← h3]
  exact List.getElem_mem h2
 refine seen_iff.2 ?_
 rcases h with h | h
 · exact .inl ⟨_, hm, h⟩
 exact .inr ⟨_, hm, h⟩
theorem seen_next {ps : List (Int × Int)} {j : Nat} {p : Int × Int} (hj : j < ps.length) (h1 : (ps.getD j (0, 0)).1 ≠ p.1) (h2 : (ps.getD j (0, 0)).2 ≠ p.2) (h : seenB (ps.take j) p = false) : seenB (ps.take (j + 1)) p = false := by
 rw [List.getD_eq_getElem?_getD, List.getElem?_eq_getElem hj, Option.getD_some] at h1 h2
 unfold seenB at h ⊢
 rw [List.take_succ_eq_append_getElem hj, List.any_append, h]
 simp [h1, h2]
theorem entries_step {b : Bk} {i : Nat} {x : En} {r : List En} : entriesE b i (x :: r) = if entryE b i x ≠ 0 then entryE b i x else entriesE b (i + 1) r := rfl
set_option linter.unusedSimpArgs false in
set_option linter.unusedVariables false in
set_option maxRecDepth 100000 in
set_option maxHeartbeats 8000000 in
theorem refRight_any {w : World} {v : BkVal} {b : Bk} (hb : BookV w v b) :
 Calls Tryz.prog 10 #[.agg #[.int .i64 b.vars, .slice v.Ao v.no v.co, .slice v.Ae v.ne v.ce, .int .i64 b.nat, .slice v.Ap v.np v.cp]] w (ErrP (rightE b) w) := by
 have hlen := hb.entries.len
 have hefew := hb.entries.few
 have hpfew := hb.prims.few
 have hplen := hb.prims.len
 have HCHK := hid (fun (w' : World) (h : Below w.heap.size w w') => refCheck_any (hb.orders.below h) b.vars hb.vars)
 have HEN := hid (fun (w' : World) (h : Below w.heap.size w w') => hb.entries.below h)
 have HPR := hid (fun (w' : World) (h : Below w.heap.size w w') => hb.prims.below h)
 have HENT := hid (fun (w' : World) (i : Nat) (h : Below w.heap.size w w') (h1 : i < b.entries.length) => refEntry_any (hb.below h) i h1)
 have HFAM := hid (fun (w' : World) (h : Below w.heap.size w w') => refFamily_any (hb.below h) b.nat (b.entries.length : Int) (by omega))
 have HB0 := hid (below_alloc w (.cells #[.int .i64 b.vars, .slice v.Ao v.no v.co, .slice v.Ae v.ne v.ce, .int .i64 b.nat, .slice v.Ap v.np v.cp] 26))
 have HK0 := hid (Blk.new w 26 #[.int .i64 b.vars, .slice v.Ao v.no v.co, .slice v.Ae v.ne v.ce, .int .i64 b.nat, .slice v.Ap v.np v.cp])
 have HR0 : Hid (rightE b = if (clR b.vars b.orders).1 ≠ 0 then (clR b.vars b.orders).1
 else if 64 < b.entries.length then 5
 else if entriesE b 0 b.entries ≠ 0 then entriesE b 0 b.entries
 else if (if b.nat ≠ -1 then (if numB b b.nat then primsB b b.prims (fun _ _ => none) else false)
  else if 0 < b.prims.length then false else true) then 0 else 22) := hid rfl
 generalize rightE b = res at *
 generalize (clR b.vars b.orders).1 = ck at *
 rw [hlen, hplen] at HR0
 rw [hlen] at HENT HFAM
 have HLN := hid hlen
 have HPN := hid hplen
 obtain ⟨Ao, no, co, Ae, ne, ce, Ap, np, cp⟩ := v
 simp only at HCHK HEN HPR HENT HFAM HB0 HK0 HR0 HLN HPN hefew hpfew ⊢
 clear hb hlen hplen
 generalize b.vars = bv at *
 generalize b.nat = bn at *
 by_cases h1 : ck = 0
 case neg =>
  rw [if_pos h1] at HR0
  have d1 : (ck != 0) = true := by simpa using h1
  clear h1
  go_in
  go_wp2_with fail
  refine (HCHK.out _ HB0.out).mono ?_
  rintro e w2 ⟨rfl, hb2⟩
  have HB2 := bto HB0 hb2
  clear hb2
  go_wp2_with fail
  go_ret
  rw [HR0.out]
  exact ⟨rfl, HB2.out⟩
 subst h1
 rw [if_neg (c := (0 : Int) ≠ 0) (by simp)] at HR0
 by_cases h2 : 64 < ne
 · rw [if_pos h2] at HR0
   have d2 : decide ((ne : Int) > 64) = true := decide_eq_true (by omega)
   clear h2
   go_in
   go_wp2_with fail
   refine (HCHK.out _ HB0.out).mono ?_
   rintro e w2 ⟨rfl, hb2⟩
   have HB2 := bto HB0 hb2
   have zk2 := Blk.cell (Blk.below HK0.out hb2 (by simp))
   clear hb2
   go_wp2_with fail
   go_ret
   rw [HR0.out]
   exact ⟨rfl, HB2.out⟩
 rw [if_neg h2] at HR0
 have d2 : decide ((ne : Int) > 64) = false := decide_eq_false (by omega)
 clear h2
 go_in
 go_wp2_with fail
 refine (HCHK.out _ HB0.out).mono ?_
 rintro e w2 ⟨rfl, hb2⟩
 have HB2 := bto HB0 hb2
 have HK2 := hid (Blk.below HK0.out hb2 (by simp))
 have zk2 := Blk.cell HK2.out
 clear hb2
 go_wp2_with fail
 clear zk2
 go_loopw [4] (fun iv wr => ∃ i : Nat, iv = .int .i64 (i : Int) ∧ i ≤ ne ∧ Hid (entriesE b i (b.entries.drop i) = entriesE b 0 b.entries) ∧ Hid (Blk wr w.heap.size 26 #[.int .i64 bv, .slice Ao no co, .slice Ae ne ce, .int .i64 bn, .slice Ap np cp]) ∧ Hid (Below w.heap.size w wr)) (fun i _ => ne - (intOf i).toNat)
 case atStart => exact ⟨0, rfl, by omega, hid rfl, HK2, HB2⟩
 case round =>
  clear HK2 HB2 HK0 HB0
  obtain ⟨i, rfl, hi, hes, hbk, hbw⟩ := hrel
  have zk := Blk.cell hbk.out
  by_cases hlt : i < ne
  · have hib : decide ((i : Int) < (ne : Int)) = true := decide_eq_true (by omega)
    have hib2 : decide (i < ne) = true := decide_eq_true hlt
    have hil : i < b.entries.length := by rw [HLN.out]; exact hlt
    have hq := hes.out
    rw [List.drop_eq_getElem_cons hil, show b.entries[i] = b.entries.getD i default from by rw [List.getD_eq_getElem?_getD, List.getElem?_eq_getElem hil]; rfl, entries_step] at hq
    have HC := hid (HENT.out wr i hbw.out hlt)
    generalize b.entries.getD i default = x at *
    generalize entryE b i x = ee at *
    by_cases h3 : ee = 0
    · subst h3
      rw [if_neg (by simp)] at hq
      have HQ := hid hq
      clear hq
      go_wp2_with fail
      refine (HC.out).mono ?_
      rintro e w4 ⟨rfl, hb4⟩
      have HB4 := bto hbw hb4
      have HK4 := bko hbk hb4
      clear hb4 zk
      go_wp2_with fail
      go_roundw
      case rel => exact ⟨i + 1, by go_num, by omega, HQ, HK4, HB4⟩
      case measure => simp [intOf]; omega
    rw [if_pos h3] at hq
    have HRF : Hid (res = ee) := hid (by rw [HR0.out, ← hq, if_pos h3])
    have d3 : (ee != 0) = true := by simpa using h3
    clear hq h3
    go_wp2_with fail
    refine (HC.out).mono ?_
    rintro e w4 ⟨rfl, hb4⟩
    have HB4 := bto hbw hb4
    clear hb4 zk
    go_wp2_with fail
    go_ret
    rw [HRF.out]
    exact ⟨rfl, HB4.out⟩
  have hib : decide ((i : Int) < (ne : Int)) = false := decide_eq_false (by omega)
  have hib2 : decide (i < ne) = false := decide_eq_false hlt
  have hq := hes.out
  rw [List.drop_of_length_le (by rw [HLN.out]; omega)] at hq
  have he0 : entriesE b 0 b.entries = 0 := hq.symm
  have hr0 := HR0.out
  rw [he0, if_neg (c := (0 : Int) ≠ 0) (by simp), num_ref he0, prims_none] at hr0
  clear HR0 HENT HCHK hes hq he0 hlt hi
  obtain ⟨wn, rfl⟩ : ∃ wn : World, wn = wr := ⟨_, rfl⟩
  by_cases hn : bn = -1
  · subst hn
    rw [if_neg (c := (-1 : Int) ≠ -1) (by simp)] at hr0
    have HR1 := hid hr0
    have y0 : ((-1 : Int) != -1) = false := by decide
    have y5 : ((-1 : Int) == -1) = true := by decide
    clear hr0
    go_wp2_with fail
    clear zk
    go_loopw [6] (fun iv wr => ∃ j : Nat, iv = .int .i64 (j : Int) ∧ j ≤ 0 ∧ Hid (Blk wr w.heap.size 26 #[.int .i64 bv, .slice Ao no co, .slice Ae ne ce, .int .i64 (-1), .slice Ap np cp]) ∧ Hid (Below w.heap.size w wr)) (fun _ _ => 0)
    case atStart => exact ⟨0, rfl, by omega, hbk, hbw⟩
    case round =>
     obtain ⟨j, rfl, hj, hbk2, hbw2⟩ := hrel
     have zk := Blk.cell hbk2.out
     by_cases hjn : j < np
     · have y1 : decide ((j : Int) < (np : Int)) = true := decide_eq_true (by omega)
       have y2 : decide (j < np) = true := decide_eq_true hjn
       have HRF : Hid (res = 22) := hid (by rw [HR1.out, if_pos (c := 0 < np) (by omega)]; rfl)
       obtain ⟨bp, op, rfl, hbp, hpm⟩ := (HPR.out wr hbw2.out).mem (by omega)
       obtain ⟨g0, g1⟩ := hpm j hjn
       have hbl := hbk2.out.lt
       clear hpm
       have HBA := hid (hbw2.out.trans ((below_alloc wr (.cells #[.int .i64 (b.prims.getD j (0, 0)).1, .int .i64 (b.prims.getD j (0, 0)).2] 68)).mono hbw2.out.size))
       generalize b.prims.getD j (0, 0) = p at *
       go_wp2_with fail
       go_ret
       rw [HRF.out]
       exact ⟨rfl, HBA.out⟩
     have y1 : decide ((j : Int) < (np : Int)) = false := decide_eq_false (by omega)
     have y2 : decide (j < np) = false := decide_eq_false hjn
     have HRF : Hid (res = 0) := hid (by rw [HR1.out, if_neg (c := 0 < np) (by omega)]; rfl)
     go_wp2_with fail
     go_ret
     rw [HRF.out]
     exact ⟨rfl, hbw2.out⟩
  rw [if_pos hn] at hr0
  have y0 : (bn != -1) = true := by simpa using hn
  have y00 : (bn == -1) = false := by simpa using hn
  obtain ⟨q1, hq1⟩ : ∃ q, q = (decide (0 ≤ bn) && famB b ne bn) := ⟨_, rfl⟩
  have HC := hid (HFAM.out wn hbw.out)
  rw [← hq1] at HC
  unfold numR at hr0
  rw [HLN.out, ← hq1] at hr0
  cases q1 with
  | false =>
   rw [if_pos rfl] at hr0
   have HRF := hid hr0
   clear hr0 hq1 hn
   go_wp2_with fail
   refine (HC.out).mono ?_
   rintro e w4 ⟨rfl, hb4⟩
   have HB4 := bto hbw hb4
   clear hb4 zk
   go_wp2_with fail
   go_ret
   rw [HRF.out]
   exact ⟨rfl, HB4.out⟩
  | true =>
   rw [if_neg (c := true = false) (by decide)] at hr0
   rw [eq_comm, Bool.and_eq_true, decide_eq_true_eq] at hq1
   obtain ⟨hb1, hb2⟩ := hq1
   simp only [famB, Bool.and_eq_true, decide_eq_true_eq, beq_iff_eq] at hb2
   obtain ⟨hb2, hkd⟩ := hb2
   obtain ⟨e, rfl⟩ : ∃ e : Nat, bn = (e : Int) := ⟨bn.toNat, by omega⟩
   have hene : e < ne := by omega
   obtain ⟨be, oe, hA, hbe, ev, hc0, hc1, hc2, hc3, hc4, hc5, hc6, hec⟩ := (HEN.out w (Below.refl _ _)).at_ hene
   subst hA
   rw [show b.entries.getD e default = entB b (e : Int) from by unfold entB; rw [Int.toNat_natCast]] at hc0 hec
   obtain ⟨x, hx⟩ : ∃ x, x = entB b (e : Int) := ⟨_, rfl⟩
   rw [← hx] at hc0 hec hr0 hkd
   rw [hkd] at hc0
   rw [hec.params.len, hec.indices.len, hec.ctors.len] at hr0
   have f1 := hec.params.few
   have f2 := hec.indices.few
   have f3 := hec.ctors.few
   have HX := hid (fun (w' : World) (h : Below w.heap.size w w') => hec.below h)
   obtain ⟨As, ns, cs, Ap2, np2, cp2, Ai, ni, ci, Ac, nc, cc, At, nt, ct, Ab, nb, cb⟩ := ev
   simp only at hc1 hc2 hc3 hc4 hc5 hc6 hr0 HX f1 f2 f3
   have HR1 := hid hr0
   clear hec hx hkd hn hr0 hb1 hb2
   go_wp2_with fail
   refine (HC.out).mono ?_
   rintro e' w4 ⟨rfl, hb4⟩
   have HB4 := bto hbw hb4
   have HK4 := bko hbk hb4
   have zk4 := Blk.cell HK4.out
   have hbl4 := HK4.out.lt
   have e0 := (HB4.out.cell (p := ⟨be, oe + e * 7, none⟩) hbe).trans hc0
   have e1 := (HB4.out.cell (p := ⟨be, oe + e * 7 + 1, none⟩) hbe).trans hc1
   have e2 := (HB4.out.cell (p := ⟨be, oe + e * 7 + 2, none⟩) hbe).trans hc2
   have e3 := (HB4.out.cell (p := ⟨be, oe + e * 7 + 3, none⟩) hbe).trans hc3
   have e4 := (HB4.out.cell (p := ⟨be, oe + e * 7 + 4, none⟩) hbe).trans hc4
   have e5 := (HB4.out.cell (p := ⟨be, oe + e * 7 + 5, none⟩) hbe).trans hc5
   have e6 := (HB4.out.cell (p := ⟨be, oe + e * 7 + 6, none⟩) hbe).trans hc6
   clear hb4 zk hc0 hc1 hc2 hc3 hc4 hc5 hc6 HC
   have HB5 := hid ((HB4.out.alloc HB4.out.size (.cells #[.int .i64 1, .slice As ns cs, .slice Ap2 np2 cp2, .slice Ai ni ci, .slice Ac nc cc, .slice At nt ct, .slice Ab nb cb] 57)).alloc (Nat.le_trans HB4.out.size (by simp)) (.cells #[.int .i64 2, .int .i64 1, .int .i64 1, .int .i64 3, .int .i64 0, .int .i64 0] 53))
   have HK15 : Hid (Blk ((w4.alloc (.cells #[.int .i64 1, .slice As ns cs, .slice Ap2 np2 cp2, .slice Ai ni ci, .slice Ac nc cc, .slice At nt ct, .slice Ab nb cb] 57)).alloc (.cells #[.int .i64 2, .int .i64 1, .int .i64 1, .int .i64 3, .int .i64 0, .int .i64 0] 53)) w.heap.size 26 #[.int .i64 bv, .slice Ao no co, .slice (some ⟨be, oe, none⟩) ne ce, .int .i64 (e : Int), .slice Ap np cp]) := hid ((HK4.out.alloc _).alloc _)
   have HK25 : Hid (Blk ((w4.alloc (.cells #[.int .i64 1, .slice As ns cs, .slice Ap2 np2 cp2, .slice Ai ni ci, .slice Ac nc cc, .slice At nt ct, .slice Ab nb cb] 57)).alloc (.cells #[.int .i64 2, .int .i64 1, .int .i64 1, .int .i64 3, .int .i64 0, .int .i64 0] 53)) w4.heap.size 57 #[.int .i64 1, .slice As ns cs, .slice Ap2 np2 cp2, .slice Ai ni ci, .slice Ac nc cc, .slice At nt ct, .slice Ab nb cb]) := hid ((Blk.new w4 57 #[.int .i64 1, .slice As ns cs, .slice Ap2 np2 cp2, .slice Ai ni ci, .slice Ac nc cc, .slice At nt ct, .slice Ab nb cb]).alloc _)
   have HL2 := hid (lit2 (Blk.new' (w := (w4.alloc (.cells #[.int .i64 1, .slice As ns cs, .slice Ap2 np2 cp2, .slice Ai ni ci, .slice Ac nc cc, .slice At nt ct, .slice Ab nb cb] 57))) (g := w4.heap.size + 1) (t := 53) (cs := #[.int .i64 2, .int .i64 1, .int .i64 1, .int .i64 3, .int .i64 0, .int .i64 0]) (by simp)))
   have HSA := hid (same_any ((w4.alloc (.cells #[.int .i64 1, .slice As ns cs, .slice Ap2 np2 cp2, .slice Ai ni ci, .slice Ac nc cc, .slice At nt ct, .slice Ab nb cb] 57)).alloc (.cells #[.int .i64 2, .int .i64 1, .int .i64 1, .int .i64 3, .int .i64 0, .int .i64 0] 53)) (HX.out ((w4.alloc (.cells #[.int .i64 1, .slice As ns cs, .slice Ap2 np2 cp2, .slice Ai ni ci, .slice Ac nc cc, .slice At nt ct, .slice Ab nb cb] 57)).alloc (.cells #[.int .i64 2, .int .i64 1, .int .i64 1, .int .i64 3, .int .i64 0, .int .i64 0] 53)) HB5.out).sort HL2.out)
   go_wp2_with fail
   refine (HSA.out).mono ?_
   rintro e' w6 ⟨rfl, m6, hw6⟩
   have HB6 : Hid (Below w.heap.size w w6) := hid (by rw [hw6]; exact below_drewN HB5.out m6)
   have HK16 : Hid (Blk w6 w.heap.size 26 #[.int .i64 bv, .slice Ao no co, .slice (some ⟨be, oe, none⟩) ne ce, .int .i64 (e : Int), .slice Ap np cp]) := hid (by rw [hw6]; exact HK15.out.drewN m6)
   have HK26 : Hid (Blk w6 w4.heap.size 57 #[.int .i64 1, .slice As ns cs, .slice Ap2 np2 cp2, .slice Ai ni ci, .slice Ac nc cc, .slice At nt ct, .slice Ab nb cb]) := hid (by rw [hw6]; exact HK25.out.drewN m6)
   clear hw6
   have ze6 := Blk.cell HK26.out
   clear e0 e1 e2 e3 e4 e5 e6 zk4 HSA HL2 HB5 HK15 HK25
   by_cases hso : x.sort = SORT1
   case neg =>
    have y1 : decide (x.sort = SORT1) = false := decide_eq_false hso
    have HRF : Hid (res = 22) := hid (by rw [HR1.out, if_pos (c := x.sort ≠ SORT1) hso]; rfl)
    go_wp2_with fail
    go_ret
    rw [HRF.out]
    exact ⟨rfl, HB6.out⟩
   have y1 : decide (x.sort = SORT1) = true := decide_eq_true hso
   have hr1 := HR1.out
   rw [if_neg (c := x.sort ≠ SORT1) (by simpa using hso)] at hr1
   have HR2 := hid hr1
   have hwr : IntKind.i64.wrap ((np2 : Int) + (ni : Int)) = (np2 : Int) + (ni : Int) := by rw [IntKind.wrap_i64]; omega
   clear hr1 HR1 hso
   by_cases hz : 0 < np2 + ni
   · have y2 : ((np2 : Int) + (ni : Int) != 0) = true := by rw [bne_iff_ne]; omega
     have HRF : Hid (res = 22) := hid (by rw [HR2.out, if_pos (c := 0 < np2 + ni) hz]; rfl)
     clear hz
     go_wp2_with fail
     go_ret
     rw [HRF.out]
     exact ⟨rfl, HB6.out⟩
   have y2 : ((np2 : Int) + (ni : Int) != 0) = false := by rw [bne_eq_false_iff_eq]; omega
   have hr2 := HR2.out
   rw [if_neg (c := 0 < np2 + ni) hz] at hr2
   have HR3 := hid hr2
   clear hr2 HR2 hz
   by_cases hnc : nc = 2
   case neg =>
    have y3 : ((nc : Int) != 2) = true := by rw [bne_iff_ne]; omega
    have HRF : Hid (res = 22) := hid (by rw [HR3.out, if_pos (c := nc ≠ 2) hnc]; rfl)
    clear hnc
    go_wp2_with fail
    go_ret
    rw [HRF.out]
    exact ⟨rfl, HB6.out⟩
   have y3 : ((nc : Int) != 2) = false := by rw [bne_eq_false_iff_eq]; omega
   have hr3 := HR3.out
   rw [if_neg (c := nc ≠ 2) (by simpa using hnc)] at hr3
   have HR4 := hid hr3
   have hnc0 : 0 < nc := by omega
   have hnc1 : 1 < nc := by omega
   clear hr3 HR3 hnc
   obtain ⟨bc, oc, hAc, hbc, A10, n10, c10, A20, n20, c20, hz0, _, hr10, _⟩ := (HX.out _ HB6.out).ctors.at3 hnc0
   subst hAc
   obtain ⟨bc', oc', hAc', hbc', A11, n11, c11, A21, n21, c21, hz1, _, hr11, _⟩ := (HX.out _ HB6.out).ctors.at3 hnc1
   obtain ⟨rfl, rfl⟩ : bc = bc' ∧ oc = oc' := by
    injection hAc' with e; injection e with e1 e2; exact ⟨e1, e2⟩
   clear hAc' hbc'
   rw [Nat.zero_mul, Nat.add_zero] at hz0
   rw [Nat.one_mul] at hz1
   have hd0 : decide (0 < nc) = true := decide_eq_true hnc0
   have hd1 : decide (1 < nc) = true := decide_eq_true hnc1
   have hd0i : (0 : Int) < (nc : Int) := by omega
   have hd1i : (1 : Int) < (nc : Int) := by omega
   have hl10 := hr10.len
   have hl11 := hr11.len
   have zb6 := Blk.cell HK16.out
   have hbl6 := HK16.out.lt
   have hbe6 := HK26.out.lt
   by_cases hn10 : n10 = 0
   case neg =>
    have y4 : ((n10 : Int) != 0) = true := by rw [bne_iff_ne]; omega
    have HRF : Hid (res = 22) := hid (by rw [HR4.out, hl10, if_pos (c := n10 ≠ 0) hn10]; rfl)
    clear hn10 hl10 hl11 hr10 hr11
    go_wp2_with fail
    go_quiet (fail)
    go_wp2_with fail
    go_ret
    rw [HRF.out]
    exact ⟨rfl, below_drewN HB6.out _⟩
   have y4 : ((n10 : Int) != 0) = false := by rw [bne_eq_false_iff_eq]; omega
   have hr4 := HR4.out
   rw [hl10, if_neg (c := n10 ≠ 0) (by omega)] at hr4
   by_cases hn11 : n11 = 1
   case neg =>
    have y5 : ((n11 : Int) != 1) = true := by rw [bne_iff_ne]; omega
    have HRF : Hid (res = 22) := hid (by rw [hr4, hl11, if_pos (c := n11 ≠ 1) hn11]; rfl)
    clear hn10 hn11 hl10 hl11 hr10 hr11 hr4
    go_wp2_with fail
    go_quiet (fail)
    go_wp2_with fail
    go_ret
    rw [HRF.out]
    exact ⟨rfl, below_drewN HB6.out _⟩
   have y5 : ((n11 : Int) != 1) = false := by rw [bne_eq_false_iff_eq]; omega
   rw [hl11, if_neg (c := n11 ≠ 1) (by omega)] at hr4
   obtain ⟨ba, oa, A3, n3, c3, hA11, hba, hz3, ht3⟩ := hr11.at_ (k := 0) (by omega)
   subst hA11
   rw [Nat.add_zero] at hz3
   have hd3 : decide (0 < n11) = true := decide_eq_true (by omega)
   have hd3i : (0 : Int) < (n11 : Int) := by omega
   have HR5 := hid hr4
   clear hr4 HR4 hr10 hr11 hl10 hl11
   have HBd := hid (below_drewN HB6.out 1)
   have HKd := hid (HK16.out.drewN 1)
   have HEd := hid (HK26.out.drewN 1)
   have HD7 : Hid (Below w6.heap.size w6 (w6.drew.alloc (.cells #[.int .i64 9, .int .i64 (e : Int), .int .i64 0] 53))) := hid ((below_drewN (Below.refl w6.heap.size w6) 1).trans (below_alloc w6.drew (.cells #[.int .i64 9, .int .i64 (e : Int), .int .i64 0] 53)))
   have HS2 := hid (same_any (w6.drew.alloc (.cells #[.int .i64 9, .int .i64 (e : Int), .int .i64 0] 53)) (ht3.below HD7.out) (lit1 (Blk.new' (w := w6.drew) (g := w6.heap.size) (t := 53) (cs := #[.int .i64 9, .int .i64 (e : Int), .int .i64 0]) rfl)))
   have zb7 := Blk.cell (Blk.below HK16.out HD7.out HK16.out.lt)
   have ze7 := Blk.cell (Blk.below HK26.out HD7.out HK26.out.lt)
   have zc07 := (HD7.out.cell (p := ⟨bc, oc, none⟩) hbc).trans hz0
   have zc17 := (HD7.out.cell (p := ⟨bc, oc + 2, none⟩) hbc).trans hz1
   have zc37 := (HD7.out.cell (p := ⟨ba, oa, none⟩) hba).trans hz3
   have hlt7 := HD7.out.size
   obtain ⟨q6, hq6⟩ : ∃ q, q = decide ((x.ctors.getD 1 default).args.getD 0 [] = [⟨9, (e : Int), 0⟩]) := ⟨_, rfl⟩
   rw [← hq6] at HR5 HS2
   clear hq6 ht3
   go_wp2_with fail
   refine wp_region_held_drew (S := (fun W => W.cell? ⟨w4.heap.size, 4, none⟩ = some (.slice (some ⟨bc, oc, none⟩) nc cc) ∧ W.cell? ⟨w.heap.size, 3, none⟩ = some (.int .i64 (e : Int)) ∧ W.cell? ⟨bc, oc, none⟩ = some (.slice A10 n10 c10) ∧ W.cell? ⟨bc, oc + 2, none⟩ = some (.slice (some ⟨ba, oa, none⟩) n11 c11) ∧ W.cell? ⟨ba, oa, none⟩ = some (.slice A3 n3 c3))) (by kernel_rfl) ?_ (fun hHeld => ?_)
   · (try dsimp only); exact ⟨HEd.out.cell 4, HKd.out.cell 3, hz0, hz1, hz3⟩
   refine tq 0 hHeld ?_
   try simp only [p7]
   refine tq 1 hHeld ?_
   try simp only [p7]
   refine tq 2 hHeld ?_
   try simp only [p7]
   refine tq 3 hHeld ?_
   try simp only [p7]
   refine tq 4 hHeld ?_
   try simp only [p7]
   refine tq 5 hHeld ?_
   try simp only [p7]
   refine tq 6 hHeld ?_
   try simp only [p7]
   refine tq 7 hHeld ?_
   try simp only [p7]
   refine tq 8 hHeld ?_
   try simp only [p7]
   refine tq 9 hHeld ?_
   try simp only [p7]
   refine tq 10 hHeld ?_
   try simp only [p7]
   refine tq 11 hHeld ?_
   try simp only [p7]
   refine tq 12 hHeld ?_
   try simp only [p7]
   refine tq 13 hHeld ?_
   try simp only [p7]
   refine tq 14 hHeld ?_
   try simp only [p7]
   refine tq 15 hHeld ?_
   try simp only [p7]
   refine tq 16 hHeld ?_
   try simp only [p7]
   refine tq 17 hHeld ?_
   try simp only [p7]
   refine tq 18 hHeld ?_
   try simp only [p7]
   refine tq 19 hHeld ?_
   try simp only [p7]
   refine tq 20 hHeld ?_
   try simp only [p7]
   refine tq 21 hHeld ?_
   try simp only [p7]
   refine tq 22 hHeld ?_
   try simp only [p7]
   refine tq 23 hHeld ?_
   try simp only [p7]
   refine tq 24 hHeld ?_
   try simp only [p7]
   refine tq 25 hHeld ?_
   try simp only [p7]
   refine tq 26 hHeld ?_
   try simp only [p7]
   refine r1 27 fun K hK => ?_
   go_simp
   refine hK.out _ _ (by exact ⟨ze7 4, zb7 3, zc07, zc17, zc37⟩) fun hHeld => ?_
   clear hK K
   try simp only [p7]
   refine r1 28 fun K hK => ?_
   go_simp
   go_at_call 23
   refine HS2.out.mono ?_
   rintro e' w8 ⟨rfl, m8, hw8⟩
   have HD8 : Hid (Below w6.heap.size w6 w8) := hid (by rw [hw8]; exact below_drewN HD7.out m8)
   have HB8 := hid (HB6.out.trans (HD8.out.mono HB6.out.size))
   have HK8 := hid (Blk.below HK16.out HD8.out HK16.out.lt)
   have zb8 := Blk.cell HK8.out
   have ze8 := Blk.cell (Blk.below HK26.out HD8.out HK26.out.lt)
   have zc08 := (HD8.out.cell (p := ⟨bc, oc, none⟩) hbc).trans hz0
   have zc18 := (HD8.out.cell (p := ⟨bc, oc + 2, none⟩) hbc).trans hz1
   have zc38 := (HD8.out.cell (p := ⟨ba, oa, none⟩) hba).trans hz3
   clear hw8
   go_wp2_with fail
   refine hK.out _ _ (by exact ⟨ze8 4, zb8 3, zc08, zc18, zc38⟩) fun hHeld => ?_
   clear hK K
   try simp only [p7]
   refine tq 29 hHeld ?_
   try simp only [p7]
   refine tq 30 hHeld ?_
   try simp only [p7]
   refine wpAnyH_done (by kernel_rfl) ?_ _
   cases q6 with
   | false =>
    have HRF : Hid (res = 22) := hid (by rw [HR5.out]; rfl)
    go_wp2_with fail
    go_ret
    rw [HRF.out]
    exact ⟨rfl, HB8.out⟩
   | true =>
    have HR6 : Hid (res = if primsR b [] b.prims = true then 0 else 22) := hid (by rw [HR5.out]; rfl)
    clear HR5 HX
    go_wp2_with fail
    clear zb8 ze8 zc08 zc18 zc38 zb7 ze7 zc07 zc17 zc37 hz0 hz1 hz3
    go_loopw [6] (fun iv wr => ∃ i : Nat, iv = .int .i64 (i : Int) ∧ i ≤ np ∧ Hid (primsR b (b.prims.take i) (b.prims.drop i) = primsR b [] b.prims) ∧ Hid (Blk wr w.heap.size 26 #[.int .i64 bv, .slice Ao no co, .slice (some ⟨be, oe, none⟩) ne ce, .int .i64 (e : Int), .slice Ap np cp]) ∧ Hid (Below w.heap.size w wr)) (fun i _ => np - (intOf i).toNat)
    case atStart => exact ⟨0, rfl, by omega, hid rfl, HK8, HB8⟩
    case round =>
     clear HK8 HB8 HD8
     obtain ⟨i, rfl, hi, hps, hbk2, hbw2⟩ := hrel
     have zk := Blk.cell hbk2.out
     have hbl := hbk2.out.lt
     obtain ⟨wo, rfl⟩ : ∃ wo : World, wo = wr := ⟨_, rfl⟩
     by_cases hlt : i < np
     case neg =>
      have y6 : decide ((i : Int) < (np : Int)) = false := decide_eq_false (by omega)
      have y7 : decide (i < np) = false := decide_eq_false hlt
      have HRF : Hid (res = 0) := hid (by
       have hq := hps.out
       rw [List.drop_of_length_le (by rw [HPN.out]; omega)] at hq
       rw [HR6.out, ← hq]; rfl)
      go_wp2_with fail
      go_ret
      rw [HRF.out]
      exact ⟨rfl, hbw2.out⟩
     have y6 : decide ((i : Int) < (np : Int)) = true := decide_eq_true (by omega)
     have y7 : decide (i < np) = true := decide_eq_true hlt
     obtain ⟨bp, op, hAp, hbp, hpm⟩ := (HPR.out wo hbw2.out).mem (by omega)
     subst hAp
     obtain ⟨g0, g1⟩ := hpm i hlt
     have hil : i < b.prims.length := by rw [HPN.out]; exact hlt
     have hq := hps.out
     rw [List.drop_eq_getElem_cons hil, show b.prims[i] = b.prims.getD i (0, 0) from by rw [List.getD_eq_getElem?_getD, List.getElem?_eq_getElem hil]; rfl, primsR] at hq
     have htk : b.prims.take (i + 1) = b.prims.take i ++ [b.prims.getD i (0, 0)] := by
      rw [List.take_succ_eq_append_getElem hil, List.getD_eq_getElem?_getD, List.getElem?_eq_getElem hil]; rfl
     obtain ⟨p, hp⟩ : ∃ p, p = b.prims.getD i (0, 0) := ⟨_, rfl⟩
     rw [← hp] at g0 g1 hq htk
     have HTK := hid htk
     obtain ⟨p1, hp1⟩ : ∃ y, y = p.1 := ⟨_, rfl⟩
     obtain ⟨p2, hp2⟩ : ∃ y, y = p.2 := ⟨_, rfl⟩
     rw [← hp1] at g0
     rw [← hp2] at g1
     have HP1 := hid hp1
     have HP2 := hid hp2
     clear hp htk hpm hps
     have HB9 := hid (hbw2.out.trans ((below_alloc wo (.cells #[.int .i64 p1, .int .i64 p2] 68)).mono hbw2.out.size))
     have HK9 : Hid (Blk (wo.alloc (.cells #[.int .i64 p1, .int .i64 p2] 68)) w.heap.size 26 #[.int .i64 bv, .slice Ao no co, .slice (some ⟨be, oe, none⟩) ne ce, .int .i64 (e : Int), .slice (some ⟨bp, op, none⟩) np cp]) := hid (hbk2.out.alloc _)
     have HP9 := hid (Blk.new wo 68 #[.int .i64 p1, .int .i64 p2])
     have zk9 := Blk.cell HK9.out
     have zp9 := Blk.cell HP9.out
     have hlt9 := HK9.out.lt
     by_cases hok : primOk b p = true
     case neg =>
      have HRF : Hid (res = 22) := hid (by rw [HR6.out, ← hq, show primOk b p = false from by simpa using hok]; rfl)
      have hsp : p1 < 0 ∨ (0 ≤ p1 ∧ (ne : Int) ≤ p1) ∨ (0 ≤ p1 ∧ p1 < ne ∧ p2 < 1) ∨ (0 ≤ p1 ∧ p1 < ne ∧ 1 ≤ p2 ∧ 3 < p2) ∨ (0 ≤ p1 ∧ p1 < ne ∧ 1 ≤ p2 ∧ p2 ≤ 3 ∧ (entB b p1).kind ≠ 2) := by
       unfold primOk at hok
       rw [decide_eq_true_eq, HLN.out, ← hp1, ← hp2] at hok
       omega
      clear hq hok hp1 hp2 HR6 HTK
      rcases hsp with h | ⟨h, h2⟩ | ⟨h, h2, h3⟩ | ⟨h, h2, h3, h4⟩ | ⟨h, h2, h3, h4, h5⟩
      · have y10 : decide (p1 < 0) = true := decide_eq_true h
        go_wp2_with fail
        go_ret
        rw [HRF.out]
        exact ⟨rfl, HB9.out⟩
      · have y10 : decide (p1 < 0) = false := decide_eq_false (by omega)
        have y11 : decide (p1 ≥ (ne : Int)) = true := decide_eq_true h2
        go_wp2_with fail
        go_ret
        rw [HRF.out]
        exact ⟨rfl, HB9.out⟩
      · have y10 : decide (p1 < 0) = false := decide_eq_false (by omega)
        have y11 : decide (p1 ≥ (ne : Int)) = false := decide_eq_false (by omega)
        have y12 : decide (p2 < 1) = true := decide_eq_true h3
        go_wp2_with fail
        go_ret
        rw [HRF.out]
        exact ⟨rfl, HB9.out⟩
      · have y10 : decide (p1 < 0) = false := decide_eq_false (by omega)
        have y11 : decide (p1 ≥ (ne : Int)) = false := decide_eq_false (by omega)
        have y12 : decide (p2 < 1) = false := decide_eq_false (by omega)
        have y13 : decide (p2 > 3) = true := decide_eq_true h4
        go_wp2_with fail
        go_ret
        rw [HRF.out]
        exact ⟨rfl, HB9.out⟩
      have y10 : decide (p1 < 0) = false := decide_eq_false (by omega)
      have y11 : decide (p1 ≥ (ne : Int)) = false := decide_eq_false (by omega)
      have y12 : decide (p2 < 1) = false := decide_eq_false (by omega)
      have y13 : decide (p2 > 3) = false := decide_eq_false (by omega)
      obtain ⟨q, rfl⟩ : ∃ q : Nat, p1 = (q : Int) := ⟨p1.toNat, by omega⟩
      have hqn : q < ne := by omega
      have y16 : decide (q < ne) = true := decide_eq_true hqn
      have hk0 := (HEN.out _ HB9.out).kind_at hqn
      rw [show b.entries.getD q default = entB b (q : Int) from by unfold entB; rw [Int.toNat_natCast]] at hk0
      have y15 : ((entB b (q : Int)).kind != 2) = true := by simpa using h5
      generalize (entB b (q : Int)).kind = kk at *
      go_wp2_with fail
      go_ret
      rw [HRF.out]
      exact ⟨rfl, HB9.out⟩
     have hsp : 0 ≤ p1 ∧ p1 < ne ∧ 1 ≤ p2 ∧ p2 ≤ 3 ∧ (entB b p1).kind = 2 := by
      have hok2 := hok
      unfold primOk at hok2
      rw [decide_eq_true_eq, HLN.out, ← hp1, ← hp2] at hok2
      exact hok2
     obtain ⟨h, h2, h3, h4, h5⟩ := hsp
     rw [hok, Bool.true_and] at hq
     have HQ0 := hid hq
     clear hq hok hp1 hp2
     have y10 : decide (p1 < 0) = false := decide_eq_false (by omega)
     have y11 : decide (p1 ≥ (ne : Int)) = false := decide_eq_false (by omega)
     have y12 : decide (p2 < 1) = false := decide_eq_false (by omega)
     have y13 : decide (p2 > 3) = false := decide_eq_false (by omega)
     obtain ⟨q, rfl⟩ : ∃ q : Nat, p1 = (q : Int) := ⟨p1.toNat, by omega⟩
     have hqn : q < ne := by omega
     have y16 : decide (q < ne) = true := decide_eq_true hqn
     have hk0 := (HEN.out _ HB9.out).kind_at hqn
     rw [show b.entries.getD q default = entB b (q : Int) from by unfold entB; rw [Int.toNat_natCast], h5] at hk0
     clear h5
     go_wp2_with fail
     clear zk zk9 zp9 hk0
     go_loopw [8] (fun jv wr => ∃ j : Nat, jv = .int .i64 (j : Int) ∧ j ≤ i ∧ Hid (seenB (b.prims.take j) p = false) ∧ Hid (Blk wr w.heap.size 26 #[.int .i64 bv, .slice Ao no co, .slice (some ⟨be, oe, none⟩) ne ce, .int .i64 (e : Int), .slice (some ⟨bp, op, none⟩) np cp]) ∧ Hid (Blk wr wo.heap.size 68 #[.int .i64 (q : Int), .int .i64 p2]) ∧ Hid (Below w.heap.size w wr)) (fun j _ => i - (intOf j).toNat)
     case atStart => exact ⟨0, rfl, by omega, hid rfl, HK9, HP9, HB9⟩
     case round =>
      clear HK9 HP9 HB9 hlt9
      obtain ⟨j, rfl, hj, hsn, hbk3, hbp3, hbw3⟩ := hrel
      have zk3 := Blk.cell hbk3.out
      have zp3 := Blk.cell hbp3.out
      have hl3 := hbk3.out.lt
      by_cases hji : j < i
      case neg =>
       have y20 : decide ((j : Int) < (i : Int)) = false := decide_eq_false (by omega)
       have y21 : decide (j < i) = false := decide_eq_false hji
       have HQ : Hid (primsR b (b.prims.take (i + 1)) (b.prims.drop (i + 1)) = primsR b [] b.prims) := hid (by
        have hji2 : j = i := by omega
        have e := hsn.out
        rw [hji2] at e
        have e2 := HQ0.out
        rw [e] at e2
        rw [HTK.out, ← e2]; rfl)
       go_wp2_with fail
       go_roundw
       case rel => first | exact ⟨i + 1, by go_num, by omega, HQ, hbk3, hbw3⟩ | ((repeat apply Exists.intro); exact ⟨⟨i + 1, by go_num, by omega, HQ, hbk3, hbw3⟩, rfl⟩)
       case measure => simp [intOf]; omega
      have y20 : decide ((j : Int) < (i : Int)) = true := decide_eq_true (by omega)
      have y21 : decide (j < i) = true := decide_eq_true hji
      have hjn : j < np := by omega
      have y24 : decide (j < np) = true := decide_eq_true hjn
      have y25 : decide ((j : Int) < (np : Int)) = true := decide_eq_true (by omega)
      obtain ⟨hbj, g0j, g1j⟩ := (HPR.out _ hbw3.out).cells hjn
      obtain ⟨pj, hpj⟩ : ∃ y, y = b.prims.getD j (0, 0) := ⟨_, rfl⟩
      rw [← hpj] at g0j g1j
      by_cases e1 : pj.1 = (q : Int)
      · have y22 : (pj.1 == (q : Int)) = true := by simpa using e1
        have HRF : Hid (res = 22) := hid (by
         have e2 := HQ0.out
         rw [seen_at (ps := b.prims) (i := i) (j := j) (p := p) hji (by omega) (.inl (by rw [← hpj, e1]; exact HP1.out))] at e2
         rw [HR6.out, ← e2]; rfl)
        clear hpj e1
        obtain ⟨pa, pb⟩ := pj
        simp only at g0j g1j y22
        go_wp2_with fail
        go_quiet (fail)
        go_wp2_with fail
        go_ret
        rw [HRF.out]
        exact ⟨rfl, below_drewN hbw3.out _⟩
      by_cases e2 : pj.2 = p2
      · have y22 : (pj.1 == (q : Int)) = false := by simpa using e1
        have y23 : (pj.2 == p2) = true := by simpa using e2
        have HRF : Hid (res = 22) := hid (by
         have e3 := HQ0.out
         rw [seen_at (ps := b.prims) (i := i) (j := j) (p := p) hji (by omega) (.inr (by rw [← hpj, e2]; exact HP2.out))] at e3
         rw [HR6.out, ← e3]; rfl)
        clear hpj e1 e2
        obtain ⟨pa, pb⟩ := pj
        simp only at g0j g1j y22 y23
        go_wp2_with fail
        go_quiet (fail)
        go_wp2_with fail
        go_ret
        rw [HRF.out]
        exact ⟨rfl, below_drewN hbw3.out _⟩
      have y22 : (pj.1 == (q : Int)) = false := by simpa using e1
      have y23 : (pj.2 == p2) = false := by simpa using e2
      have HSN : Hid (seenB (b.prims.take (j + 1)) p = false) := hid (seen_next (by omega) (by rw [← hpj, ← HP1.out]; exact e1) (by rw [← hpj, ← HP2.out]; exact e2) hsn.out)
      clear hpj e1 e2
      obtain ⟨pa, pb⟩ := pj
      simp only at g0j g1j y22 y23
      go_wp2_with fail
      go_quiet (fail)
      go_wp2_with fail
      go_roundw
      case rel => exact ⟨j + 1, by go_num, by omega, HSN, hid (hbk3.out.drewN _), hid (hbp3.out.drewN _), hid (below_drewN hbw3.out _)⟩
      case measure => simp [intOf]; omega
end
section
open Go.RowKit
end
end Go.Proofs.YtplecfbdchmogaaGreat
