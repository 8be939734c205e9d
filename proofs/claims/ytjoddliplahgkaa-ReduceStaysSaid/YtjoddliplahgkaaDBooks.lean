/- Merged: BookV, BookN, BookNode, BookRow. -/
import Derived.Test.YtjoddliplahgkaaDLevels
import Derived.Test.YtjoddliplahgkaaDEnds
import Derived.Test.YtjoddliplahgkaaDShort2
namespace Go.Proofs.Ytjoddliplahgkaa
open Go.Lib (hid)
set_option maxHeartbeats 8000000
set_option maxRecDepth 100000
set_option linter.unusedVariables false
set_option linter.unusedSimpArgs false
section
open Go.RowKit
structure RowsV (w : World) (A : Option Addr) (n c : Nat) (ls : List (List Nd)) : Prop where
 len : ls.length = n
 few : n ≤ 5864062014805
 mem : 0 < n → ∃ b off, A = some ⟨b, off, none⟩ ∧ b < w.heap.size ∧ ∀ k, k < n → ∃ A' n' c', w.cell? ⟨b, off + k, none⟩ = some (.slice A' n' c') ∧ TermV w A' n' c' (ls.getD k [])
theorem RowsV.below {w w' : World} {A : Option Addr} {n c : Nat} {ls : List (List Nd)} (h : RowsV w A n c ls) (hb : Below w.heap.size w w') : RowsV w' A n c ls :=
 ⟨h.len, h.few, fun hn => by
  obtain ⟨b, off, e, hlt, hm⟩ := h.mem hn
  refine ⟨b, off, e, Nat.lt_of_lt_of_le hlt hb.size, fun k hk => ?_⟩
  obtain ⟨A', n', c', h1, h2⟩ := hm k hk
  exact ⟨A', n', c', (hb.cell (p := ⟨b, off + k, none⟩) hlt).trans h1, h2.below hb⟩⟩
theorem RowsV.at_ {w : World} {A : Option Addr} {n c : Nat} {ls : List (List Nd)} (h : RowsV w A n c ls) {k : Nat} (hk : k < n) : ∃ b off A' n' c', A = some ⟨b, off, none⟩ ∧ b < w.heap.size ∧ w.cell? ⟨b, off + k, none⟩ = some (.slice A' n' c') ∧ TermV w A' n' c' (ls.getD k []) := by
 obtain ⟨b, off, e, hb, hm⟩ := h.mem (by omega)
 obtain ⟨A', n', c', h1, h2⟩ := hm k hk
 exact ⟨b, off, A', n', c', e, hb, h1, h2⟩
structure Ct where
 args : List (List Nd)
 outs : List (List Nd)
instance : Inhabited Ct := ⟨⟨[], []⟩⟩
structure En where
 kind : Int
 sort : List Nd
 params : List (List Nd)
 indices : List (List Nd)
 ctors : List Ct
 type : List Nd
 body : List Nd
instance : Inhabited En := ⟨⟨0, [], [], [], [], [], []⟩⟩
structure Bk where
 vars : Int
 orders : List Nd
 entries : List En
 nat : Int
 prims : List (Int × Int)
instance : Inhabited Bk := ⟨⟨0, [], [], 0, []⟩⟩
structure CtsV (w : World) (A : Option Addr) (n c : Nat) (cs : List Ct) : Prop where
 len : cs.length = n
 few : n ≤ 5864062014805
 mem : 0 < n → ∃ b off, A = some ⟨b, off, none⟩ ∧ b < w.heap.size ∧ ∀ k, k < n → ∃ A1 n1 c1 A2 n2 c2, w.cell? ⟨b, off + k * 2, none⟩ = some (.slice A1 n1 c1) ∧ w.cell? ⟨b, off + k * 2 + 1, none⟩ = some (.slice A2 n2 c2) ∧ RowsV w A1 n1 c1 (cs.getD k default).args ∧ RowsV w A2 n2 c2 (cs.getD k default).outs
theorem CtsV.below {w w' : World} {A : Option Addr} {n c : Nat} {cs : List Ct} (h : CtsV w A n c cs) (hb : Below w.heap.size w w') : CtsV w' A n c cs :=
 ⟨h.len, h.few, fun hn => by
  obtain ⟨b, off, e, hlt, hm⟩ := h.mem hn
  refine ⟨b, off, e, Nat.lt_of_lt_of_le hlt hb.size, fun k hk => ?_⟩
  obtain ⟨A1, n1, c1, A2, n2, c2, h1, h2, h3, h4⟩ := hm k hk
  exact ⟨A1, n1, c1, A2, n2, c2, (hb.cell (p := ⟨b, off + k * 2, none⟩) hlt).trans h1, (hb.cell (p := ⟨b, off + k * 2 + 1, none⟩) hlt).trans h2, h3.below hb, h4.below hb⟩⟩
structure EnVal where
 As : Option Addr
 ns : Nat
 cs : Nat
 Ap : Option Addr
 np : Nat
 cp : Nat
 Ai : Option Addr
 ni : Nat
 ci : Nat
 Ac : Option Addr
 nc : Nat
 cc : Nat
 At : Option Addr
 nt : Nat
 ct : Nat
 Ab : Option Addr
 nb : Nat
 cb : Nat
structure EnC (w : World) (v : EnVal) (x : En) : Prop where
 sort : TermV w v.As v.ns v.cs x.sort
 params : RowsV w v.Ap v.np v.cp x.params
 indices : RowsV w v.Ai v.ni v.ci x.indices
 ctors : CtsV w v.Ac v.nc v.cc x.ctors
 type : TermV w v.At v.nt v.ct x.type
 body : TermV w v.Ab v.nb v.cb x.body
theorem EnC.below {w w' : World} {v : EnVal} {x : En} (h : EnC w v x) (hb : Below w.heap.size w w') : EnC w' v x :=
 ⟨h.sort.below hb, h.params.below hb, h.indices.below hb, h.ctors.below hb, h.type.below hb, h.body.below hb⟩
structure EnsV (w : World) (A : Option Addr) (n c : Nat) (es : List En) : Prop where
 len : es.length = n
 few : n ≤ 5864062014805
 mem : 0 < n → ∃ b off, A = some ⟨b, off, none⟩ ∧ b < w.heap.size ∧ ∀ k, k < n → ∃ v : EnVal, w.cell? ⟨b, off + k * 7, none⟩ = some (.int .i64 (es.getD k default).kind) ∧ w.cell? ⟨b, off + k * 7 + 1, none⟩ = some (.slice v.As v.ns v.cs) ∧ w.cell? ⟨b, off + k * 7 + 2, none⟩ = some (.slice v.Ap v.np v.cp) ∧ w.cell? ⟨b, off + k * 7 + 3, none⟩ = some (.slice v.Ai v.ni v.ci) ∧ w.cell? ⟨b, off + k * 7 + 4, none⟩ = some (.slice v.Ac v.nc v.cc) ∧ w.cell? ⟨b, off + k * 7 + 5, none⟩ = some (.slice v.At v.nt v.ct) ∧ w.cell? ⟨b, off + k * 7 + 6, none⟩ = some (.slice v.Ab v.nb v.cb) ∧ EnC w v (es.getD k default)
theorem EnsV.below {w w' : World} {A : Option Addr} {n c : Nat} {es : List En} (h : EnsV w A n c es) (hb : Below w.heap.size w w') : EnsV w' A n c es :=
 ⟨h.len, h.few, fun hn => by
  obtain ⟨b, off, e, hlt, hm⟩ := h.mem hn
  refine ⟨b, off, e, Nat.lt_of_lt_of_le hlt hb.size, fun k hk => ?_⟩
  obtain ⟨v, h0, h1, h2, h3, h4, h5, h6, h7⟩ := hm k hk
  exact ⟨v, (hb.cell (p := ⟨b, off + k * 7, none⟩) hlt).trans h0, (hb.cell (p := ⟨b, off + k * 7 + 1, none⟩) hlt).trans h1, (hb.cell (p := ⟨b, off + k * 7 + 2, none⟩) hlt).trans h2, (hb.cell (p := ⟨b, off + k * 7 + 3, none⟩) hlt).trans h3, (hb.cell (p := ⟨b, off + k * 7 + 4, none⟩) hlt).trans h4, (hb.cell (p := ⟨b, off + k * 7 + 5, none⟩) hlt).trans h5, (hb.cell (p := ⟨b, off + k * 7 + 6, none⟩) hlt).trans h6, h7.below hb⟩⟩
theorem EnsV.at_ {w : World} {A : Option Addr} {n c : Nat} {es : List En} (h : EnsV w A n c es) {k : Nat} (hk : k < n) : ∃ b off, A = some ⟨b, off, none⟩ ∧ b < w.heap.size ∧ ∃ v : EnVal, w.cell? ⟨b, off + k * 7, none⟩ = some (.int .i64 (es.getD k default).kind) ∧ w.cell? ⟨b, off + k * 7 + 1, none⟩ = some (.slice v.As v.ns v.cs) ∧ w.cell? ⟨b, off + k * 7 + 2, none⟩ = some (.slice v.Ap v.np v.cp) ∧ w.cell? ⟨b, off + k * 7 + 3, none⟩ = some (.slice v.Ai v.ni v.ci) ∧ w.cell? ⟨b, off + k * 7 + 4, none⟩ = some (.slice v.Ac v.nc v.cc) ∧ w.cell? ⟨b, off + k * 7 + 5, none⟩ = some (.slice v.At v.nt v.ct) ∧ w.cell? ⟨b, off + k * 7 + 6, none⟩ = some (.slice v.Ab v.nb v.cb) ∧ EnC w v (es.getD k default) := by
 obtain ⟨b, off, e, hb, hm⟩ := h.mem (by omega)
 obtain ⟨v, h0⟩ := hm k hk
 exact ⟨b, off, e, hb, v, h0⟩
structure PrsV (w : World) (A : Option Addr) (n c : Nat) (ps : List (Int × Int)) : Prop where
 len : ps.length = n
 few : n ≤ 8796093021952
 mem : 0 < n → ∃ b off, A = some ⟨b, off, none⟩ ∧ b < w.heap.size ∧ ∀ k, k < n → w.cell? ⟨b, off + k * 2, none⟩ = some (.int .i64 (ps.getD k (0, 0)).1) ∧ w.cell? ⟨b, off + k * 2 + 1, none⟩ = some (.int .i64 (ps.getD k (0, 0)).2)
theorem PrsV.below {w w' : World} {A : Option Addr} {n c : Nat} {ps : List (Int × Int)} (h : PrsV w A n c ps) (hb : Below w.heap.size w w') : PrsV w' A n c ps :=
 ⟨h.len, h.few, fun hn => by
  obtain ⟨b, off, e, hlt, hm⟩ := h.mem hn
  refine ⟨b, off, e, Nat.lt_of_lt_of_le hlt hb.size, fun k hk => ?_⟩
  obtain ⟨h1, h2⟩ := hm k hk
  exact ⟨(hb.cell (p := ⟨b, off + k * 2, none⟩) hlt).trans h1, (hb.cell (p := ⟨b, off + k * 2 + 1, none⟩) hlt).trans h2⟩⟩
structure BkVal where
 Ao : Option Addr
 no : Nat
 co : Nat
 Ae : Option Addr
 ne : Nat
 ce : Nat
 Ap : Option Addr
 np : Nat
 cp : Nat
structure BookV (w : World) (v : BkVal) (b : Bk) : Prop where
 orders : TermV w v.Ao v.no v.co b.orders
 entries : EnsV w v.Ae v.ne v.ce b.entries
 prims : PrsV w v.Ap v.np v.cp b.prims
 vars : (Lit.int .i64 b.vars).wf = true
 nat : (Lit.int .i64 b.nat).wf = true
 kinds : ∀ x ∈ b.entries, (Lit.int .i64 x.kind).wf = true
 primsw : ∀ p ∈ b.prims, (Lit.int .i64 p.1).wf = true ∧ (Lit.int .i64 p.2).wf = true
theorem BookV.below {w w' : World} {v : BkVal} {b : Bk} (h : BookV w v b) (hb : Below w.heap.size w w') : BookV w' v b :=
 ⟨h.orders.below hb, h.entries.below hb, h.prims.below hb, h.vars, h.nat, h.kinds, h.primsw⟩
theorem atoms_plain : ∀ (k : Nat) (last : Int) (l : List Nd) (p : List Nd × List Nd), takeAtoms k last l = some p → ∀ m ∈ p.1, plainB m.op m.a m.b = true
 | 0, _, _, p, h, m, hm => by
  simp only [takeAtoms, Option.some.injEq] at h
  subst h
  cases hm
 | k + 1, last, [], p, h, m, hm => by simp [takeAtoms] at h
 | k + 1, last, x :: l, p, h, m, hm => by
  simp only [takeAtoms] at h
  split at h
  · rename_i hc
    simp only [Option.map_eq_some_iff] at h
    obtain ⟨q, hq, rfl⟩ := h
    rcases List.mem_cons.1 hm with rfl | hm
    · exact hc.2.1
    exact atoms_plain k x.a l q hq m hm
  · cases h
theorem wf_plain : ∀ (F : Fo) (dl : List Bool), Wf dl F → ∀ m ∈ row F, plainB m.op m.a m.b = true
 | .nil, _, _, m, hm => by cases hm
 | .cons p n a k x, [], h, m, hm => h.elim
 | .cons p n a k x, d :: dr, h, m, hm => by
  obtain ⟨hp, hok, hat, hk, hx⟩ := h
  simp only [row, List.mem_append, List.mem_cons] at hm
  simp only [okN, Bool.and_eq_true] at hok
  rcases hm with hm | rfl | hm | hm | hm
  · cases d with
    | false => simp only at hp; subst hp; cases hm
    | true =>
     obtain ⟨f, rfl, hf⟩ := hp
     rw [List.mem_singleton] at hm
     subst hm
     simp only [okF, Bool.and_eq_true] at hf
     exact hf.1
  · exact hok.1.1
  · unfold AtOk at hat
    split at hat
    · exact atoms_plain _ _ _ _ hat m hm
    subst hat; cases hm
  · exact wf_plain k _ hk m hm
  · exact wf_plain x _ hx m hm
theorem shape_plain {l : List Nd} (h : shapeI l = 0) : ∀ m ∈ l, plainB m.op m.a m.b = true := by
 obtain ⟨n, a, k, hr⟩ := rt_of h
 have h2 := wf_of_pp hr.pp
 intro m hm
 refine wf_plain _ _ h2 m ?_
 rw [hr.eq] at hm
 simpa [row] using hm
def entB (b : Bk) (e : Int) : En := b.entries.getD e.toNat default
def famB (b : Bk) (known e : Int) : Bool := decide (e < known) && (entB b e).kind == 1
def nodeB (b : Bk) (known self : Int) (m : Nd) : Bool :=
 if m.op = 3 then decide (m.a ≤ b.vars)
 else if m.op = 8 then decide (m.a < known) && (entB b m.a).kind == 2
 else if m.op = 9 then m.a == self || famB b known m.a
 else if m.op = 11 then famB b known m.a
 else if m.op = 10 then famB b known m.a && decide (m.b < ((entB b m.a).ctors.length : Int))
 else true
def rowE (b : Bk) (known self : Int) (l : List Nd) (below : Int) : Int :=
 if shapeI l ≠ 0 then shapeI l else if belowB l below = false then 8 else if l.all (nodeB b known self) then 0 else 8
def rowsE (b : Bk) (known self : Int) (step : Int) : List (List Nd) → Int → Int
 | [], _ => 0
 | l :: r, below => if rowE b known self l below ≠ 0 then rowE b known self l below else rowsE b known self step r (below + step)
def ctorsE (b : Bk) (known : Int) (x : En) : List Ct → Int
 | [] => 0
 | c :: r =>
  if 16 < c.args.length then 5
  else if c.outs.length ≠ x.indices.length then 8
  else if rowsE b known known 1 c.args x.params.length ≠ 0 then rowsE b known known 1 c.args x.params.length
  else if rowsE b known known 0 c.outs ((x.params.length : Int) + c.args.length) ≠ 0 then rowsE b known known 0 c.outs ((x.params.length : Int) + c.args.length)
  else ctorsE b known x r
def sortE (l : List Nd) : Int := if (nth l 0).op ≠ 2 then 8 else 0
def firstE : List Int → Int
 | [] => 0
 | e :: r => if e ≠ 0 then e else firstE r
def entryE (b : Bk) (known : Int) (x : En) : Int :=
 if x.kind = 1 then
  if 0 < x.type.length + x.body.length then 8
  else if 16 < x.params.length ∨ 16 < x.indices.length ∨ 16 < x.ctors.length then 5
  else firstE [rowE b known (-1) x.sort 0, sortE x.sort, rowsE b known (-1) 1 x.params 0, rowsE b known (-1) 1 x.indices x.params.length, ctorsE b known x x.ctors]
 else if x.kind = 2 then
  if 0 < x.sort.length + x.params.length + x.indices.length + x.ctors.length then 8
  else rowsE b known (-1) 0 [x.type, x.body] 0
 else 8
def entriesE (b : Bk) : Nat → List En → Int
 | _, [] => 0
 | i, x :: r => if entryE b i x ≠ 0 then entryE b i x else entriesE b (i + 1) r
def numB (b : Bk) (e : Int) : Bool :=
 if e < 0 then false
 else if (b.entries.length : Int) ≤ e then false
 else if (entB b e).kind ≠ 1 then false
 else if (entB b e).sort.length ≠ 2 then false
 else if (nth (entB b e).sort 0).a ≠ 1 then false
 else if nth (entB b e).sort 1 ≠ ⟨3, 0, 0⟩ then false
 else if 0 < (entB b e).params.length + (entB b e).indices.length then false
 else if (entB b e).ctors.length ≠ 2 then false
 else if ((entB b e).ctors.getD 0 default).args.length ≠ 0 then false
 else if ((entB b e).ctors.getD 1 default).args.length ≠ 1 then false
 else if (((entB b e).ctors.getD 1 default).args.getD 0 []).length ≠ 1 then false
 else decide (nth (((entB b e).ctors.getD 1 default).args.getD 0 []) 0 = ⟨9, e, 0⟩)
def primsB (b : Bk) : List (Int × Int) → GF → Bool
 | [], _ => true
 | p :: r, g =>
  if p.1 < 0 then false
  else if (b.entries.length : Int) ≤ p.1 then false
  else if (entB b p.1).kind ≠ 2 then false
  else if p.2 < 1 then false
  else if 3 < p.2 then false
  else if 0 < (g p.1 (-1)).getD 0 + (g (-1) p.2).getD 0 then false
  else primsB b r (updG (updG g p.1 (-1) 1) (-1) p.2 1)
def regB (b : Bk) : Bool :=
 if b.nat ≠ -1 then (if numB b b.nat then primsB b b.prims (fun _ _ => none) else false)
 else if 0 < b.prims.length then false else true
def rightE (b : Bk) : Int :=
 if (clR b.vars b.orders).1 ≠ 0 then (clR b.vars b.orders).1
 else if 64 < b.entries.length then 5
 else if entriesE b 0 b.entries ≠ 0 then entriesE b 0 b.entries
 else if regB b then 0 else 22
def fitsE (b : Bk) (free : Int) (l : List Nd) : Int :=
 if rightE b ≠ 0 then rightE b else if free < 0 then 1 else rowE b b.entries.length (-1) l free
end
section
open Go.RowKit
theorem family_any {w : World} {v : BkVal} {b : Bk} (hb : BookV w v b) (known self : Int) (hk : known ≤ b.entries.length) (e : Nat) :
 Calls Try.prog 92 #[.agg #[.int .i64 b.vars, .slice v.Ao v.no v.co, .slice v.Ae v.ne v.ce, .int .i64 b.nat, .slice v.Ap v.np v.cp, .int .i64 known, .int .i64 self], .int .i64 (e : Int)] w (BoolP (famB b known e) w) := by
 have HB := hid (below_alloc w (.cells #[.int .i64 b.vars, .slice v.Ao v.no v.co, .slice v.Ae v.ne v.ce, .int .i64 b.nat, .slice v.Ap v.np v.cp, .int .i64 known, .int .i64 self] 84))
 have hlen := hb.entries.len
 by_cases hlt : (e : Int) < known
 · have hlb : decide ((e : Int) < known) = true := decide_eq_true hlt
   obtain ⟨be, oe, hA, hbe, ev, hc0, _⟩ := hb.entries.at_ (k := e) (by omega)
   have HR : Hid (famB b known e = ((entB b e).kind == 1)) := hid (by unfold famB; rw [hlb, Bool.true_and])
   rw [show b.entries.getD e default = entB b e from by unfold entB; rw [Int.toNat_natCast]] at hc0
   obtain ⟨Ao, no, co, Ae, ne, ce, Ap, np, cp⟩ := v
   simp only at hA hlen HB ⊢
   subst hA
   have hne : e < ne := by omega
   generalize (entB b e).kind = kd at *
   generalize b.vars = bv at *
   generalize b.nat = bn at *
   generalize famB b known e = res at *
   clear hb hlen hk hlt
   go_in
   go_wp2_with fail
   go_ret
   rw [HR.out]
   exact ⟨rfl, HB.out⟩
 have hlb : decide ((e : Int) < known) = false := decide_eq_false hlt
 have HR : Hid (famB b known e = false) := hid (by unfold famB; rw [hlb, Bool.false_and])
 generalize b.vars = bv at *
 generalize b.nat = bn at *
 generalize famB b known e = res at *
 clear hb hlen hk hlt
 go_in
 go_wp2_with fail
 go_ret
 rw [HR.out]
 exact ⟨rfl, HB.out⟩
end
section
open Go.RowKit
theorem drew_cell (w : World) (p : Addr) : w.drew.cell? p = w.cell? p := rfl
theorem node_atom {w : World} {v : BkVal} {b : Bk} (hb : BookV w v b) (known self : Int) (hk : known ≤ b.entries.length) (m : Nd) (hp : plainB m.op m.a m.b = true) (hop : m.op = 3) :
 Calls Try.prog 69 #[.agg #[.int .i64 b.vars, .slice v.Ao v.no v.co, .slice v.Ae v.ne v.ce, .int .i64 b.nat, .slice v.Ap v.np v.cp, .int .i64 known, .int .i64 self], .agg #[.int .i64 m.op, .int .i64 m.a, .int .i64 m.b]] w (BoolP (nodeB b known self m) w) := by
 have hpl := plainB_iff.1 hp
 have hlen := hb.entries.len
 obtain ⟨ea, hea⟩ : ∃ ea : Nat, m.a = (ea : Int) := ⟨m.a.toNat, by omega⟩
 have HEN := hid (fun (h : (ea : Int) < known) => hb.entries.at_ (k := ea) (by omega))
 have HFAM := hid (fun (w' : World) (h : Below w.heap.size w w') => family_any (hb.below h) known self hk ea)
 have hent : b.entries.getD ea default = entB b m.a := by rw [hea]; unfold entB; rw [Int.toNat_natCast]
 rw [hent] at HEN
 obtain ⟨Ao, no, co, Ae, ne, ce, Ap, np, cp⟩ := v
 simp only at hlen HEN HFAM ⊢
 have hkn : known ≤ (ne : Int) := by omega
 have HBE := hid ((below_alloc w (.cells #[.int .i64 b.vars, .slice Ao no co, .slice Ae ne ce, .int .i64 b.nat, .slice Ap np cp, .int .i64 known, .int .i64 self] 84)).alloc (by simp) (.cells #[.int .i64 m.op, .int .i64 m.a, .int .i64 m.b] 50))
 have HR : Hid (nodeB b known self m = decide (m.a ≤ b.vars)) := hid (by unfold nodeB; rw [if_pos hop])
 rw [hop] at HBE ⊢
 generalize nodeB b known self m = res at *
 generalize b.vars = bv at *
 generalize b.nat = bn at *
 generalize m.b = mb at *
 generalize m.a = ma at *
 generalize hdb : decide (ma ≤ bv) = db at *
 clear hb hk hp hpl hent hea HEN HFAM hlen hop
 go_in
 go_wp2_with fail
 go_ret
 rw [HR.out]
 exact ⟨rfl, HBE.out⟩
theorem node_oth {w : World} {v : BkVal} {b : Bk} (hb : BookV w v b) (known self : Int) (hk : known ≤ b.entries.length) (m : Nd) (hp : plainB m.op m.a m.b = true) (hop : m.op ≠ 3 ∧ m.op ≠ 8 ∧ m.op ≠ 9 ∧ m.op ≠ 11 ∧ m.op ≠ 10) :
 Calls Try.prog 69 #[.agg #[.int .i64 b.vars, .slice v.Ao v.no v.co, .slice v.Ae v.ne v.ce, .int .i64 b.nat, .slice v.Ap v.np v.cp, .int .i64 known, .int .i64 self], .agg #[.int .i64 m.op, .int .i64 m.a, .int .i64 m.b]] w (BoolP (nodeB b known self m) w) := by
 have hpl := plainB_iff.1 hp
 have hlen := hb.entries.len
 obtain ⟨ea, hea⟩ : ∃ ea : Nat, m.a = (ea : Int) := ⟨m.a.toNat, by omega⟩
 have HEN := hid (fun (h : (ea : Int) < known) => hb.entries.at_ (k := ea) (by omega))
 have HFAM := hid (fun (w' : World) (h : Below w.heap.size w w') => family_any (hb.below h) known self hk ea)
 have hent : b.entries.getD ea default = entB b m.a := by rw [hea]; unfold entB; rw [Int.toNat_natCast]
 rw [hent] at HEN
 obtain ⟨Ao, no, co, Ae, ne, ce, Ap, np, cp⟩ := v
 simp only at hlen HEN HFAM ⊢
 have hkn : known ≤ (ne : Int) := by omega
 have HBE := hid ((below_alloc w (.cells #[.int .i64 b.vars, .slice Ao no co, .slice Ae ne ce, .int .i64 b.nat, .slice Ap np cp, .int .i64 known, .int .i64 self] 84)).alloc (by simp) (.cells #[.int .i64 m.op, .int .i64 m.a, .int .i64 m.b] 50))
 have HR : Hid (nodeB b known self m = true) := hid (by unfold nodeB; rw [if_neg hop.1, if_neg hop.2.1, if_neg hop.2.2.1, if_neg hop.2.2.2.1, if_neg hop.2.2.2.2])
 have q1 : (m.op == 3) = false := by simpa using hop.1
 have q2 : (m.op == 8) = false := by simpa using hop.2.1
 have q3 : (m.op == 9) = false := by simpa using hop.2.2.1
 have q4 : (m.op == 11) = false := by simpa using hop.2.2.2.1
 have q5 : (m.op == 10) = false := by simpa using hop.2.2.2.2
 clear hop hb hk hp hpl hent hea HEN HFAM hlen
 generalize nodeB b known self m = res at *
 generalize b.vars = bv at *
 generalize b.nat = bn at *
 generalize m.b = mb at *
 generalize m.a = ma at *
 generalize m.op = op at *
 go_in
 go_wp2_with fail
 go_ret
 rw [HR.out]
 exact ⟨rfl, HBE.out⟩
theorem node_const {w : World} {v : BkVal} {b : Bk} (hb : BookV w v b) (known self : Int) (hk : known ≤ b.entries.length) (m : Nd) (hp : plainB m.op m.a m.b = true) (hop : m.op = 8) :
 Calls Try.prog 69 #[.agg #[.int .i64 b.vars, .slice v.Ao v.no v.co, .slice v.Ae v.ne v.ce, .int .i64 b.nat, .slice v.Ap v.np v.cp, .int .i64 known, .int .i64 self], .agg #[.int .i64 m.op, .int .i64 m.a, .int .i64 m.b]] w (BoolP (nodeB b known self m) w) := by
 have hpl := plainB_iff.1 hp
 have hlen := hb.entries.len
 obtain ⟨ea, hea⟩ : ∃ ea : Nat, m.a = (ea : Int) := ⟨m.a.toNat, by omega⟩
 have HEN := hid (fun (h : (ea : Int) < known) => hb.entries.at_ (k := ea) (by omega))
 have HFAM := hid (fun (w' : World) (h : Below w.heap.size w w') => family_any (hb.below h) known self hk ea)
 have hent : b.entries.getD ea default = entB b m.a := by rw [hea]; unfold entB; rw [Int.toNat_natCast]
 rw [hent] at HEN
 obtain ⟨Ao, no, co, Ae, ne, ce, Ap, np, cp⟩ := v
 simp only at hlen HEN HFAM ⊢
 have hkn : known ≤ (ne : Int) := by omega
 have HBE := hid ((below_alloc w (.cells #[.int .i64 b.vars, .slice Ao no co, .slice Ae ne ce, .int .i64 b.nat, .slice Ap np cp, .int .i64 known, .int .i64 self] 84)).alloc (by simp) (.cells #[.int .i64 m.op, .int .i64 m.a, .int .i64 m.b] 50))
 have HR : Hid (nodeB b known self m = (decide ((ea : Int) < known) && (entB b m.a).kind == 2)) := hid (by unfold nodeB; rw [if_neg (by omega), if_pos hop, hea])
 rw [hop] at HBE ⊢
 generalize nodeB b known self m = res at *
 generalize hkd : (entB b m.a).kind = kd at *
 generalize hcl : (entB b m.a).ctors.length = cl at *
 generalize famB b known m.a = fam at *
 generalize b.vars = bv at *
 generalize b.nat = bn at *
 generalize m.b = mb at *
 rw [hea] at *
 clear hb hk hp hpl hent hea
 by_cases hlt : (ea : Int) < known
 · have hlb : decide ((ea : Int) < known) = true := decide_eq_true hlt
   obtain ⟨be, oe, rfl, hbe, ev, hc0, _⟩ := HEN.out hlt
   have hne : ea < ne := by omega
   rw [hlb, Bool.true_and] at HR
   clear hlt HEN hlen hkd hcl hop
   go_in
   go_wp2_with fail
   go_ret
   rw [HR.out]
   exact ⟨rfl, HBE.out⟩
 have hlb : decide ((ea : Int) < known) = false := decide_eq_false hlt
 rw [hlb, Bool.false_and] at HR
 clear hlt HEN hlen hkd hcl hop
 go_in
 go_wp2_with fail
 go_ret
 rw [HR.out]
 exact ⟨rfl, HBE.out⟩
theorem node_ind {w : World} {v : BkVal} {b : Bk} (hb : BookV w v b) (known self : Int) (hk : known ≤ b.entries.length) (m : Nd) (hp : plainB m.op m.a m.b = true) (hop : m.op = 9) :
 Calls Try.prog 69 #[.agg #[.int .i64 b.vars, .slice v.Ao v.no v.co, .slice v.Ae v.ne v.ce, .int .i64 b.nat, .slice v.Ap v.np v.cp, .int .i64 known, .int .i64 self], .agg #[.int .i64 m.op, .int .i64 m.a, .int .i64 m.b]] w (BoolP (nodeB b known self m) w) := by
 have hpl := plainB_iff.1 hp
 have hlen := hb.entries.len
 obtain ⟨ea, hea⟩ : ∃ ea : Nat, m.a = (ea : Int) := ⟨m.a.toNat, by omega⟩
 have HEN := hid (fun (h : (ea : Int) < known) => hb.entries.at_ (k := ea) (by omega))
 have HFAM := hid (fun (w' : World) (h : Below w.heap.size w w') => family_any (hb.below h) known self hk ea)
 have hent : b.entries.getD ea default = entB b m.a := by rw [hea]; unfold entB; rw [Int.toNat_natCast]
 rw [hent] at HEN
 obtain ⟨Ao, no, co, Ae, ne, ce, Ap, np, cp⟩ := v
 simp only at hlen HEN HFAM ⊢
 have hkn : known ≤ (ne : Int) := by omega
 have HBE := hid ((below_alloc w (.cells #[.int .i64 b.vars, .slice Ao no co, .slice Ae ne ce, .int .i64 b.nat, .slice Ap np cp, .int .i64 known, .int .i64 self] 84)).alloc (by simp) (.cells #[.int .i64 m.op, .int .i64 m.a, .int .i64 m.b] 50))
 have HR : Hid (nodeB b known self m = (((ea : Int) == self) || famB b known m.a)) := hid (by unfold nodeB; rw [if_neg (by omega), if_neg (by omega), if_pos hop, hea])
 rw [← hea] at HFAM
 rw [hop] at HBE ⊢
 generalize nodeB b known self m = res at *
 generalize hkd : (entB b m.a).kind = kd at *
 generalize hcl : (entB b m.a).ctors.length = cl at *
 generalize famB b known m.a = fam at *
 generalize b.vars = bv at *
 generalize b.nat = bn at *
 generalize m.b = mb at *
 rw [hea] at *
 clear hb hk hp hpl hent hea
 by_cases hlt : (ea : Int) = self
 · have hlb : ((ea : Int) == self) = true := by simp [hlt]
   rw [hlb, Bool.true_or] at HR
   clear hlt HEN hlen hkd hcl hop
   go_in
   go_wp2_with fail
   go_ret
   rw [HR.out]
   exact ⟨rfl, HBE.out⟩
 have hlb : ((ea : Int) == self) = false := by simpa using hlt
 rw [hlb, Bool.false_or] at HR
 clear hlt HEN hlen hkd hcl hop
 go_in
 go_wp2_with fail
 refine (HFAM.out _ HBE.out).mono ?_
 rintro e w2 ⟨rfl, hb2⟩
 have HB2 := bto HBE hb2
 clear hb2
 go_wp2_with fail
 go_ret
 rw [HR.out]
 exact ⟨rfl, HB2.out⟩
theorem node_match {w : World} {v : BkVal} {b : Bk} (hb : BookV w v b) (known self : Int) (hk : known ≤ b.entries.length) (m : Nd) (hp : plainB m.op m.a m.b = true) (hop : m.op = 11) :
 Calls Try.prog 69 #[.agg #[.int .i64 b.vars, .slice v.Ao v.no v.co, .slice v.Ae v.ne v.ce, .int .i64 b.nat, .slice v.Ap v.np v.cp, .int .i64 known, .int .i64 self], .agg #[.int .i64 m.op, .int .i64 m.a, .int .i64 m.b]] w (BoolP (nodeB b known self m) w) := by
 have hpl := plainB_iff.1 hp
 have hlen := hb.entries.len
 obtain ⟨ea, hea⟩ : ∃ ea : Nat, m.a = (ea : Int) := ⟨m.a.toNat, by omega⟩
 have HEN := hid (fun (h : (ea : Int) < known) => hb.entries.at_ (k := ea) (by omega))
 have HFAM := hid (fun (w' : World) (h : Below w.heap.size w w') => family_any (hb.below h) known self hk ea)
 have hent : b.entries.getD ea default = entB b m.a := by rw [hea]; unfold entB; rw [Int.toNat_natCast]
 rw [hent] at HEN
 obtain ⟨Ao, no, co, Ae, ne, ce, Ap, np, cp⟩ := v
 simp only at hlen HEN HFAM ⊢
 have hkn : known ≤ (ne : Int) := by omega
 have HBE := hid ((below_alloc w (.cells #[.int .i64 b.vars, .slice Ao no co, .slice Ae ne ce, .int .i64 b.nat, .slice Ap np cp, .int .i64 known, .int .i64 self] 84)).alloc (by simp) (.cells #[.int .i64 m.op, .int .i64 m.a, .int .i64 m.b] 50))
 have HR : Hid (nodeB b known self m = famB b known m.a) := hid (by unfold nodeB; rw [if_neg (by omega), if_neg (by omega), if_neg (by omega), if_pos hop])
 rw [← hea] at HFAM
 rw [hop] at HBE ⊢
 generalize nodeB b known self m = res at *
 generalize hkd : (entB b m.a).kind = kd at *
 generalize hcl : (entB b m.a).ctors.length = cl at *
 generalize famB b known m.a = fam at *
 generalize b.vars = bv at *
 generalize b.nat = bn at *
 generalize m.b = mb at *
 rw [hea] at *
 clear hb hk hp hpl hent hea
 clear HEN hlen hkd hcl hop
 go_in
 go_wp2_with fail
 refine (HFAM.out _ HBE.out).mono ?_
 rintro e w2 ⟨rfl, hb2⟩
 have HB2 := bto HBE hb2
 clear hb2
 go_wp2_with fail
 go_ret
 rw [HR.out]
 exact ⟨rfl, HB2.out⟩
theorem node_ctor {w : World} {v : BkVal} {b : Bk} (hb : BookV w v b) (known self : Int) (hk : known ≤ b.entries.length) (m : Nd) (hp : plainB m.op m.a m.b = true) (hop : m.op = 10) :
 Calls Try.prog 69 #[.agg #[.int .i64 b.vars, .slice v.Ao v.no v.co, .slice v.Ae v.ne v.ce, .int .i64 b.nat, .slice v.Ap v.np v.cp, .int .i64 known, .int .i64 self], .agg #[.int .i64 m.op, .int .i64 m.a, .int .i64 m.b]] w (BoolP (nodeB b known self m) w) := by
 have hpl := plainB_iff.1 hp
 have hlen := hb.entries.len
 obtain ⟨ea, hea⟩ : ∃ ea : Nat, m.a = (ea : Int) := ⟨m.a.toNat, by omega⟩
 have HEN := hid (fun (h : (ea : Int) < known) => hb.entries.at_ (k := ea) (by omega))
 have HFAM := hid (fun (w' : World) (h : Below w.heap.size w w') => family_any (hb.below h) known self hk ea)
 have hent : b.entries.getD ea default = entB b m.a := by rw [hea]; unfold entB; rw [Int.toNat_natCast]
 rw [hent] at HEN
 obtain ⟨Ao, no, co, Ae, ne, ce, Ap, np, cp⟩ := v
 simp only at hlen HEN HFAM ⊢
 have hkn : known ≤ (ne : Int) := by omega
 have HBE := hid ((below_alloc w (.cells #[.int .i64 b.vars, .slice Ao no co, .slice Ae ne ce, .int .i64 b.nat, .slice Ap np cp, .int .i64 known, .int .i64 self] 84)).alloc (by simp) (.cells #[.int .i64 m.op, .int .i64 m.a, .int .i64 m.b] 50))
 have HR : Hid (nodeB b known self m = (famB b known m.a && decide (m.b < ((entB b m.a).ctors.length : Int)))) := hid (by unfold nodeB; rw [if_neg (by omega), if_neg (by omega), if_neg (by omega), if_neg (by omega), if_pos hop])
 have hfl : famB b known m.a = true → (ea : Int) < known := fun h => by
  unfold famB at h
  rw [Bool.and_eq_true, decide_eq_true_eq, hea] at h
  exact h.1
 rw [← hea] at HFAM
 rw [hop] at HBE ⊢
 generalize nodeB b known self m = res at *
 generalize hkd : (entB b m.a).kind = kd at *
 generalize hcl : (entB b m.a).ctors.length = cl at *
 generalize famB b known m.a = fam at *
 generalize b.vars = bv at *
 generalize b.nat = bn at *
 generalize m.b = mb at *
 rw [hea] at *
 have HW := hid (Blk.new w 84 #[.int .i64 bv, .slice Ao no co, .slice Ae ne ce, .int .i64 bn, .slice Ap np cp, .int .i64 known, .int .i64 self])
 have HV := hid (Blk.new (w.alloc (.cells #[.int .i64 bv, .slice Ao no co, .slice Ae ne ce, .int .i64 bn, .slice Ap np cp, .int .i64 known, .int .i64 self] 84)) 50 #[.int .i64 10, .int .i64 (ea : Int), .int .i64 mb])
 clear hb hk hp hpl hent hea
 have HBD := hid (below_drewN HBE.out 1)
 have zc1 : ∀ i, (((w.alloc (.cells #[.int .i64 bv, .slice Ao no co, .slice Ae ne ce, .int .i64 bn, .slice Ap np cp, .int .i64 known, .int .i64 self] 84)).alloc (.cells #[.int .i64 10, .int .i64 (ea : Int), .int .i64 mb] 50)).drew).cell? ⟨w.heap.size, i, none⟩ = (#[.int .i64 bv, .slice Ao no co, .slice Ae ne ce, .int .i64 bn, .slice Ap np cp, .int .i64 known, .int .i64 self] : Array Value)[i]? := fun i => (drew_cell _ _).trans (Blk.cell (HW.out.alloc (.cells #[.int .i64 10, .int .i64 (ea : Int), .int .i64 mb] 50)) i)
 have zc2 : ∀ i, (((w.alloc (.cells #[.int .i64 bv, .slice Ao no co, .slice Ae ne ce, .int .i64 bn, .slice Ap np cp, .int .i64 known, .int .i64 self] 84)).alloc (.cells #[.int .i64 10, .int .i64 (ea : Int), .int .i64 mb] 50)).drew).cell? ⟨w.heap.size + 1, i, none⟩ = (#[.int .i64 10, .int .i64 (ea : Int), .int .i64 mb] : Array Value)[i]? := by
  have h := Blk.cell HV.out
  rw [show (w.alloc (.cells #[.int .i64 bv, .slice Ao no co, .slice Ae ne ce, .int .i64 bn, .slice Ap np cp, .int .i64 known, .int .i64 self] 84)).heap.size = w.heap.size + 1 from by simp] at h
  exact fun i => (drew_cell _ _).trans (h i)
 cases fam with
 | false =>
  rw [Bool.false_and] at HR
  clear HEN hlen hkd hcl hop hfl
  go_in
  go_wp2_with fail
  refine wp_region_held_drew (S := (fun w' => w'.cell? ⟨w.heap.size, 0, none⟩ = some (.int .i64 bv) ∧ w'.cell? ⟨w.heap.size, 1, none⟩ = some (.slice Ao no co) ∧ w'.cell? ⟨w.heap.size, 2, none⟩ = some (.slice Ae ne ce) ∧ w'.cell? ⟨w.heap.size, 3, none⟩ = some (.int .i64 bn) ∧ w'.cell? ⟨w.heap.size, 4, none⟩ = some (.slice Ap np cp) ∧ w'.cell? ⟨w.heap.size, 5, none⟩ = some (.int .i64 known) ∧ w'.cell? ⟨w.heap.size, 6, none⟩ = some (.int .i64 self) ∧ w'.cell? ⟨w.heap.size + 1, 0, none⟩ = some (.int .i64 10) ∧ w'.cell? ⟨w.heap.size + 1, 1, none⟩ = some (.int .i64 (ea : Int)) ∧ w'.cell? ⟨w.heap.size + 1, 2, none⟩ = some (.int .i64 mb))) (by kernel_rfl) ?_ (fun hHeld => ?_)
  · (try dsimp only); exact ⟨zc1 0, zc1 1, zc1 2, zc1 3, zc1 4, zc1 5, zc1 6, zc2 0, zc2 1, zc2 2⟩
  refine tq 0 hHeld ?_
  try simp only [p7]
  refine tq 1 hHeld ?_
  try simp only [p7]
  refine tq 2 hHeld ?_
  try simp only [p7]
  refine r1 3 fun K hK => ?_
  go_simp
  go_at_call 92
  refine (HFAM.out _ HBD.out).mono ?_
  rintro e w2 ⟨rfl, hb2⟩
  have zd1 := fun i => (hb2.cell (p := ⟨w.heap.size, i, none⟩) (by simp; omega)).trans (zc1 i)
  have zd2 := fun i => (hb2.cell (p := ⟨w.heap.size + 1, i, none⟩) (by simp)).trans (zc2 i)
  go_wp2_with fail
  refine hK.out _ _ (by exact ⟨zd1 0, zd1 1, zd1 2, zd1 3, zd1 4, zd1 5, zd1 6, zd2 0, zd2 1, zd2 2⟩) fun hHeld => ?_
  clear hK K
  try simp only [p7]
  refine tq 4 hHeld ?_
  try simp only [p7]
  refine dk 5 hHeld ?_
  try simp only [p7]
  refine dk 6 hHeld ?_
  try simp only [p7]
  refine dk 7 hHeld ?_
  try simp only [p7]
  refine dk 8 hHeld ?_
  try simp only [p7]
  refine dk 9 hHeld ?_
  try simp only [p7]
  refine dk 10 hHeld ?_
  try simp only [p7]
  refine dk 11 hHeld ?_
  try simp only [p7]
  refine dk 12 hHeld ?_
  try simp only [p7]
  refine dk 13 hHeld ?_
  try simp only [p7]
  refine dk 14 hHeld ?_
  try simp only [p7]
  refine dk 15 hHeld ?_
  try simp only [p7]
  refine dk 16 hHeld ?_
  try simp only [p7]
  refine tq 17 hHeld ?_
  try simp only [p7]
  refine tq 18 hHeld ?_
  try simp only [p7]
  refine wpAnyH_done (by kernel_rfl) ?_ _
  have HB2 := bto HBD hb2
  clear hb2
  go_wp2_with fail
  go_ret
  rw [HR.out]
  exact ⟨rfl, HB2.out⟩
 | true =>
  rw [Bool.true_and] at HR
  obtain ⟨be, oe, rfl, hbe, ev, _, _, _, _, hc4, _, _, hec⟩ := HEN.out (hfl rfl)
  have hne : ea < ne := by have := hfl rfl; omega
  have hcc := hec.ctors.len
  rw [hcl] at hcc
  obtain ⟨cA, cn, cC, hce⟩ : ∃ cA cn cC, (Value.slice ev.Ac ev.nc ev.cc) = .slice cA cn cC ∧ ev.nc = cn := ⟨_, _, _, rfl, rfl⟩
  rw [hce.1] at hc4
  have hcn : cl = cn := by rw [← hce.2]; exact hcc
  have zc3 : (((w.alloc (.cells #[.int .i64 bv, .slice Ao no co, .slice (some ⟨be, oe, none⟩) ne ce, .int .i64 bn, .slice Ap np cp, .int .i64 known, .int .i64 self] 84)).alloc (.cells #[.int .i64 10, .int .i64 (ea : Int), .int .i64 mb] 50)).drew).cell? ⟨be, oe + ea * 7 + 4, none⟩ = some (.slice cA cn cC) := (HBD.out.cell (p := ⟨be, oe + ea * 7 + 4, none⟩) hbe).trans hc4
  rw [hcn] at HR
  have hi0 : (0 : Int) ≤ (ea : Int) := by omega
  have hi1 : (ea : Int) < (ne : Int) := by omega
  clear HEN hlen hkd hcl hop hfl hce hcn hcc hc4 hec
  go_in
  go_wp2_with fail
  refine wp_region_held_drew (S := (fun w' => w'.cell? ⟨w.heap.size, 0, none⟩ = some (.int .i64 bv) ∧ w'.cell? ⟨w.heap.size, 1, none⟩ = some (.slice Ao no co) ∧ w'.cell? ⟨w.heap.size, 2, none⟩ = some (.slice (some ⟨be, oe, none⟩) ne ce) ∧ w'.cell? ⟨w.heap.size, 3, none⟩ = some (.int .i64 bn) ∧ w'.cell? ⟨w.heap.size, 4, none⟩ = some (.slice Ap np cp) ∧ w'.cell? ⟨w.heap.size, 5, none⟩ = some (.int .i64 known) ∧ w'.cell? ⟨w.heap.size, 6, none⟩ = some (.int .i64 self) ∧ w'.cell? ⟨w.heap.size + 1, 0, none⟩ = some (.int .i64 10) ∧ w'.cell? ⟨w.heap.size + 1, 1, none⟩ = some (.int .i64 (ea : Int)) ∧ w'.cell? ⟨w.heap.size + 1, 2, none⟩ = some (.int .i64 mb) ∧ w'.cell? ⟨be, oe + ea * 7 + 4, none⟩ = some (.slice cA cn cC))) (by kernel_rfl) ?_ (fun hHeld => ?_)
  · (try dsimp only); exact ⟨zc1 0, zc1 1, zc1 2, zc1 3, zc1 4, zc1 5, zc1 6, zc2 0, zc2 1, zc2 2, zc3⟩
  refine tq 0 hHeld ?_
  try simp only [p7]
  refine tq 1 hHeld ?_
  try simp only [p7]
  refine tq 2 hHeld ?_
  try simp only [p7]
  refine r1 3 fun K hK => ?_
  go_simp
  go_at_call 92
  refine (HFAM.out _ HBD.out).mono ?_
  rintro e w2 ⟨rfl, hb2⟩
  have zd1 := fun i => (hb2.cell (p := ⟨w.heap.size, i, none⟩) (by simp; omega)).trans (zc1 i)
  have zd2 := fun i => (hb2.cell (p := ⟨w.heap.size + 1, i, none⟩) (by simp)).trans (zc2 i)
  have zd3 : w2.cell? ⟨be, oe + ea * 7 + 4, none⟩ = some (.slice cA cn cC) := (hb2.cell (p := ⟨be, oe + ea * 7 + 4, none⟩) (by simp; omega)).trans zc3
  go_wp2_with fail
  refine hK.out _ _ (by exact ⟨zd1 0, zd1 1, zd1 2, zd1 3, zd1 4, zd1 5, zd1 6, zd2 0, zd2 1, zd2 2, zd3⟩) fun hHeld => ?_
  clear hK K
  try simp only [p7]
  refine tq 4 hHeld ?_
  try simp only [p7]
  refine tq 5 hHeld ?_
  try simp only [p7]
  refine tq 6 hHeld ?_
  try simp only [p7]
  refine tq 7 hHeld ?_
  try simp only [p7]
  refine tq 8 hHeld ?_
  try simp only [p7]
  refine tq 9 hHeld ?_
  try simp only [p7]
  refine tq 10 hHeld ?_
  try simp only [p7]
  refine tq 11 hHeld ?_
  try simp only [p7]
  refine tq 12 hHeld ?_
  try simp only [p7]
  refine tq 13 hHeld ?_
  try simp only [p7]
  refine tq 14 hHeld ?_
  try simp only [p7]
  refine tq 15 hHeld ?_
  try simp only [p7]
  refine tq 16 hHeld ?_
  try simp only [p7]
  refine tq 17 hHeld ?_
  try simp only [p7]
  refine tq 18 hHeld ?_
  try simp only [p7]
  refine wpAnyH_done (by kernel_rfl) ?_ _
  have HB2 := bto HBD hb2
  clear hb2
  go_wp2_with fail
  go_ret
  rw [HR.out]
  exact ⟨rfl, HB2.out⟩
theorem node_any {w : World} {v : BkVal} {b : Bk} (hb : BookV w v b) (known self : Int) (hk : known ≤ b.entries.length) (m : Nd) (hp : plainB m.op m.a m.b = true) :
 Calls Try.prog 69 #[.agg #[.int .i64 b.vars, .slice v.Ao v.no v.co, .slice v.Ae v.ne v.ce, .int .i64 b.nat, .slice v.Ap v.np v.cp, .int .i64 known, .int .i64 self], .agg #[.int .i64 m.op, .int .i64 m.a, .int .i64 m.b]] w (BoolP (nodeB b known self m) w) := by
 by_cases h1 : m.op = 3
 · exact node_atom hb known self hk m hp h1
 by_cases h2 : m.op = 8
 · exact node_const hb known self hk m hp h2
 by_cases h3 : m.op = 9
 · exact node_ind hb known self hk m hp h3
 by_cases h4 : m.op = 11
 · exact node_match hb known self hk m hp h4
 by_cases h5 : m.op = 10
 · exact node_ctor hb known self hk m hp h5
 exact node_oth hb known self hk m hp ⟨h1, h2, h3, h4, h5⟩
end
section
open Go.RowKit
theorem row_any {w : World} {v : BkVal} {b : Bk} (hb : BookV w v b) (known self : Int) (hk : known ≤ b.entries.length) {A : Option Addr} {n c : Nat} {l : List Nd} (ht : TermV w A n c l) (below : Int) :
 Calls Try.prog 39 #[.agg #[.int .i64 b.vars, .slice v.Ao v.no v.co, .slice v.Ae v.ne v.ce, .int .i64 b.nat, .slice v.Ap v.np v.cp, .int .i64 known, .int .i64 self], .slice A n c, .int .i64 below] w (ErrP (rowE b known self l below) w) := by
 have hlen := ht.len
 have hfew := ht.few
 have HS := hid (fun (w' : World) (h : Below w.heap.size w w') => shape_any (ht.below h))
 have HBW := hid (fun (w' : World) (h : Below w.heap.size w w') => below_any (ht.below h) below)
 have HT := hid (fun (w' : World) (h : Below w.heap.size w w') => ht.below h)
 have HND := hid (fun (w' : World) (h : Below w.heap.size w w') (m : Nd) (hp : plainB m.op m.a m.b = true) => node_any (hb.below h) known self hk m hp)
 have HPL := hid (fun (h : shapeI l = 0) => shape_plain h)
 have HR : Hid (rowE b known self l below = if shapeI l ≠ 0 then shapeI l else if belowB l below = false then 8 else if l.all (nodeB b known self) then 0 else 8) := hid rfl
 generalize rowE b known self l below = res at *
 obtain ⟨Ao, no, co, Ae, ne, ce, Ap, np, cp⟩ := v
 simp only at HND ⊢
 clear ht hb hk
 generalize b.vars = bv at *
 generalize b.nat = bn at *
 have HB0 := hid (below_alloc w (.cells #[.int .i64 bv, .slice Ao no co, .slice Ae ne ce, .int .i64 bn, .slice Ap np cp, .int .i64 known, .int .i64 self] 84))
 have HK0 := hid (Blk.new w 84 #[.int .i64 bv, .slice Ao no co, .slice Ae ne ce, .int .i64 bn, .slice Ap np cp, .int .i64 known, .int .i64 self])
 obtain ⟨sh, hsh⟩ : ∃ sh, sh = shapeI l := ⟨_, rfl⟩
 rw [← hsh] at HS HPL HR
 clear hsh
 by_cases h0 : sh = 0
 case neg =>
  have hb1 : (sh != 0) = true := by simpa using h0
  rw [if_pos h0] at HR
  clear h0 HPL
  go_in
  go_wp2_with fail
  refine (HS.out _ HB0.out).mono ?_
  rintro e w2 ⟨rfl, hb2⟩
  have HB2 := bto HB0 hb2
  clear hb2
  go_wp2_with fail
  go_ret
  rw [HR.out]
  exact ⟨rfl, HB2.out⟩
 subst h0
 rw [if_neg (by simp)] at HR
 have HPN := hid (HPL.out rfl)
 clear HPL
 obtain ⟨bb, hbb⟩ : ∃ bb, bb = belowB l below := ⟨_, rfl⟩
 rw [← hbb] at HBW HR
 clear hbb
 cases bb with
 | false =>
  rw [if_pos rfl] at HR
  go_in
  go_wp2_with fail
  refine (HS.out _ HB0.out).mono ?_
  rintro e w2 ⟨rfl, hb2⟩
  have HB2 := bto HB0 hb2
  clear hb2
  go_wp2_with fail
  refine (HBW.out _ HB2.out).mono ?_
  rintro e w3 ⟨rfl, hb3⟩
  have HB3 := bto HB2 hb3
  clear hb3
  go_wp2_with fail
  go_ret
  rw [HR.out]
  exact ⟨rfl, HB3.out⟩
 | true =>
  rw [if_neg (by simp)] at HR
  go_in
  go_wp2_with fail
  refine (HS.out _ HB0.out).mono ?_
  rintro e w2 ⟨rfl, hb2⟩
  have HB2 := bto HB0 hb2
  have HK2 := hid (Blk.below HK0.out hb2 (by simp))
  clear hb2
  go_wp2_with fail
  refine (HBW.out _ HB2.out).mono ?_
  rintro e w3 ⟨rfl, hb3⟩
  have HB3 := bto HB2 hb3
  have HK3 := bko HK2 hb3
  clear hb3
  go_wp2_with fail
  go_loopw [21] (fun iv wr => ∃ i : Nat, iv = .int .i64 (i : Int) ∧ i ≤ n ∧ Hid ((l.take i).all (nodeB b known self) = true) ∧ Hid (Blk wr w.heap.size 84 #[.int .i64 bv, .slice Ao no co, .slice Ae ne ce, .int .i64 bn, .slice Ap np cp, .int .i64 known, .int .i64 self]) ∧ Hid (Below w.heap.size w wr)) (fun i _ => n - (intOf i).toNat)
  case atStart => exact ⟨0, rfl, by omega, hid (by simp), HK3, HB3⟩
  case round =>
   obtain ⟨i, rfl, hi, hall, hblk, hbw⟩ := hrel
   by_cases hlt : i < n
   rotate_left
   · have hib : decide ((i : Int) < (n : Int)) = false := decide_eq_false (by omega)
     have HRF : Hid (res = 0) := hid (by
      have := hall.out
      rw [List.take_of_length_le (by omega)] at this
      rw [HR.out, if_pos this])
     go_wp2_with fail
     go_ret
     rw [HRF.out]
     exact ⟨rfl, hbw.out⟩
   have hib : decide ((i : Int) < (n : Int)) = true := decide_eq_true (by omega)
   obtain ⟨b', off, rfl, hb', hc0, hc1, hc2⟩ := (HT.out wr hbw.out).at_ hlt
   have hil : i < l.length := by omega
   obtain ⟨m, hm⟩ : ∃ m, m = nth l i := ⟨_, rfl⟩
   have hme : m = l[i] := by rw [hm, nth_eq hil]
   rw [← hm] at hc0 hc1 hc2
   have htk : l.take (i + 1) = l.take i ++ [m] := by rw [List.take_succ_eq_append_getElem hil, hme]
   have hmp := HPN.out m (by rw [hme]; exact List.getElem_mem _)
   have HBa := hid (hbw.out.trans ((below_alloc wr (.cells #[.int .i64 m.op, .int .i64 m.a, .int .i64 m.b] 50)).mono hbw.out.size))
   have HKa := hid (hblk.out.alloc (.cells #[.int .i64 m.op, .int .i64 m.a, .int .i64 m.b] 50))
   have zc := Blk.cell hblk.out
   have hbl := hblk.out.lt
   have HC := hid (HND.out _ HBa.out m hmp)
   obtain ⟨r, hr⟩ : ∃ r, r = nodeB b known self m := ⟨_, rfl⟩
   rw [← hr] at HC
   cases r with
   | false =>
    have HRF : Hid (res = 8) := hid (by
     rw [HR.out, if_neg]
     rw [List.all_eq_true]
     intro h
     have := h m (by rw [hme]; exact List.getElem_mem _)
     rw [← hr] at this
     cases this)
    clear hr hm hme htk hmp
    generalize m.op = mo at *
    generalize m.a = ma at *
    generalize m.b = mb at *
    go_wp2_with fail
    refine (HC.out).mono ?_
    rintro e w5 ⟨rfl, hb5⟩
    have HB5 := bto HBa hb5
    clear hb5
    go_wp2_with fail
    go_ret
    rw [HRF.out]
    exact ⟨rfl, HB5.out⟩
   | true =>
    have HAN : Hid ((l.take (i + 1)).all (nodeB b known self) = true) := hid (by rw [htk, List.all_append, hall.out]; simp [← hr])
    clear hr hm hme htk hmp
    generalize m.op = mo at *
    generalize m.a = ma at *
    generalize m.b = mb at *
    go_wp2_with fail
    refine (HC.out).mono ?_
    rintro e w5 ⟨rfl, hb5⟩
    have HB5 := bto HBa hb5
    have HK5 := bko HKa hb5
    clear hb5 zc
    go_wp2_with fail
    go_roundw
    case rel => exact ⟨i + 1, by go_num, by omega, HAN, HK5, HB5⟩
    case measure => simp [intOf]; omega
theorem rows_any {w : World} {v : BkVal} {b : Bk} (hb : BookV w v b) (known self : Int) (hk : known ≤ b.entries.length) {A : Option Addr} {n c : Nat} {ls : List (List Nd)} (ht : RowsV w A n c ls) (below step : Int) (hst : step = 0 ∨ step = 1) (hlo : 0 ≤ below) (hhi : below ≤ 1000000) (hn : n ≤ 100000) :
 Calls Try.prog 63 #[.agg #[.int .i64 b.vars, .slice v.Ao v.no v.co, .slice v.Ae v.ne v.ce, .int .i64 b.nat, .slice v.Ap v.np v.cp, .int .i64 known, .int .i64 self], .slice A n c, .int .i64 below, .int .i64 step] w (ErrP (rowsE b known self step ls below) w) := by
 have hlen := ht.len
 have hfew := ht.few
 have HRW := hid (fun (w' : World) (A' : Option Addr) (n' c' : Nat) (l : List Nd) (be : Int) (h : Below w.heap.size w w') (h1 : TermV w' A' n' c' l) => row_any (hb.below h) known self hk h1 be)
 have HT := hid (fun (w' : World) (h : Below w.heap.size w w') => ht.below h)
 obtain ⟨res, hres⟩ : ∃ res, res = rowsE b known self step ls below := ⟨_, rfl⟩
 rw [← hres]
 have HRES := hid hres
 obtain ⟨Ao, no, co, Ae, ne, ce, Ap, np, cp⟩ := v
 simp only at HRW ⊢
 clear ht hb hk hres
 generalize b.vars = bv at *
 generalize b.nat = bn at *
 have HB0 := hid (below_alloc w (.cells #[.int .i64 bv, .slice Ao no co, .slice Ae ne ce, .int .i64 bn, .slice Ap np cp, .int .i64 known, .int .i64 self] 84))
 have HK0 := hid (Blk.new w 84 #[.int .i64 bv, .slice Ao no co, .slice Ae ne ce, .int .i64 bn, .slice Ap np cp, .int .i64 known, .int .i64 self])
 have hs0 : 0 ≤ step ∧ step ≤ 1 := by omega
 obtain ⟨hs1, hs2⟩ := hs0
 clear hst
 go_in
 go_wp2_with fail
 go_loopw [2, 14] (fun bv' iv wr => ∃ (i : Nat) (be : Int), bv' = .int .i64 be ∧ iv = .int .i64 (i : Int) ∧ i ≤ n ∧ 0 ≤ be ∧ be ≤ below + i ∧ Hid (rowsE b known self step (ls.drop i) be = res) ∧ Hid (Blk wr w.heap.size 84 #[.int .i64 bv, .slice Ao no co, .slice Ae ne ce, .int .i64 bn, .slice Ap np cp, .int .i64 known, .int .i64 self]) ∧ Hid (Below w.heap.size w wr)) (fun _ i _ => n - (intOf i).toNat)
 case atStart => exact ⟨0, below, rfl, rfl, by omega, by omega, by omega, hid HRES.out.symm, HK0, HB0⟩
 case round =>
  obtain ⟨i, be, rfl, rfl, hi, hbe0, hbe1, hrs, hblk, hbw⟩ := hrel
  by_cases hlt : i < n
  rotate_left
  · have hib : decide ((i : Int) < (n : Int)) = false := decide_eq_false (by omega)
    have HRF : Hid (res = 0) := hid (by
     have := hrs.out
     rw [List.drop_of_length_le (by omega)] at this
     exact this.symm)
    go_wp2_with fail
    go_ret
    rw [HRF.out]
    exact ⟨rfl, hbw.out⟩
  have hib : decide ((i : Int) < (n : Int)) = true := decide_eq_true (by omega)
  obtain ⟨b', off, A', n', c', rfl, hb', hc0, ht'⟩ := (HT.out wr hbw.out).at_ hlt
  have hil : i < ls.length := by omega
  have hrs2 := hrs.out
  rw [List.drop_eq_getElem_cons hil, show ls[i] = ls.getD i [] from by rw [List.getD_eq_getElem?_getD, List.getElem?_eq_getElem hil]; rfl] at hrs2
  simp only [rowsE] at hrs2
  have HC := hid (HRW.out wr A' n' c' _ be hbw.out ht')
  generalize hre : rowE b known self (ls.getD i []) be = re at *
  have zc := Blk.cell hblk.out
  have hbl := hblk.out.lt
  clear hre ht'
  by_cases h0 : re = 0
  · rw [if_neg (by simp [h0])] at hrs2
    have HRS2 := hid hrs2
    subst h0
    clear hrs2
    go_wp2_with fail
    refine (HC.out).mono ?_
    rintro e w5 ⟨rfl, hb5⟩
    have HB5 := bto hbw hb5
    have HK5 := bko hblk hb5
    clear hb5 zc
    go_wp2_with fail
    go_roundw
    case rel => exact ⟨i + 1, be + step, rfl, by go_num, by omega, by omega, by omega, HRS2, HK5, HB5⟩
    case measure => simp [intOf]; omega
  rw [if_pos h0] at hrs2
  have HRS2 := hid hrs2
  have hb1 : (re != 0) = true := by simpa using h0
  clear hrs2 h0
  go_wp2_with fail
  refine (HC.out).mono ?_
  rintro e w5 ⟨rfl, hb5⟩
  have HB5 := bto hbw hb5
  clear hb5 zc
  go_wp2_with fail
  go_ret
  rw [← HRS2.out]
  exact ⟨rfl, HB5.out⟩
end
end Go.Proofs.Ytjoddliplahgkaa
