/- The types of families and constructors (core, book). -/
import Derived.Test.YtplecfbdchmogaaEShort2
import Derived.Test.YtplecfbdchmogaaEVars
import Derived.Test.YtplecfbdchmogaaERdO
import Derived.Test.YtplecfbdchmogaaEOctR
import Derived.Test.YtplecfbdchmogaaESameB
import Derived.Deep.RegionHeld
namespace Go.Proofs.Ytplecfbdchmogaa
open Go.Lib (hid)
set_option maxHeartbeats 8000000
set_option maxRecDepth 100000
set_option linter.unusedVariables false
set_option linter.unusedSimpArgs false
open Go.RowKit
def famE (b : Bk) (e : Int) : Int := if rightE b ≠ 0 then rightE b else if e < 0 ∨ (b.entries.length : Int) ≤ e ∨ (entB b e).kind ≠ 1 then 1 else 0
def FamP (b : Bk) (e : Int) (w : World) (en : Ending) (w' : World) : Prop := Below w.heap.size w w' ∧ ∃ (u : EnVal) (kd : Int), en = .returned (.tuple #[.agg #[.int .i64 kd, .slice u.As u.ns u.cs, .slice u.Ap u.np u.cp, .slice u.Ai u.ni u.ci, .slice u.Ac u.nc u.cc, .slice u.At u.nt u.ct, .slice u.Ab u.nb u.cb], .int .i64 (famE b e)]) ∧ (famE b e = 0 → kd = 1 ∧ EnC w' u (entB b e))
theorem results_fam {w : World} {g : Nat} {c0 c1 c2 c3 c4 c5 c6 z : Value} {tmps : Array Value} (h : Blk w g 49 #[c0, c1, c2, c3, c4, c5, c6]) (ht : tmps.getD 4 undef = .pointer (some ⟨g, 0, none⟩)) (hz : tmps.getD 5 undef = z) :
 (results Try.f46 tmps).run Try.prog w = .ok (.tuple #[.agg #[c0, c1, c2, c3, c4, c5, c6], z]) w := by
 have hc := h.cell
 have ht' : tmps[4]?.getD undef = .pointer (some ⟨g, 0, none⟩) := by rw [← ht]; simp
 have hz' : tmps[5]?.getD undef = z := by rw [← hz]; simp
 simp [results, Try.results46, go_sem, ht', hz', hc]
theorem bfamily_any {w : World} {v : BkVal} {b : Bk} (hb : BookV w v b) (e : Int) (he1 : -9223372036854775808 ≤ e) (he2 : e ≤ 9223372036854775807) :
 Calls Try.prog 46 #[.agg #[.int .i64 b.vars, .slice v.Ao v.no v.co, .slice v.Ae v.ne v.ce, .int .i64 b.nat, .slice v.Ap v.np v.cp], .int .i64 e] w (FamP b e w) := by
 have hb2 := below_alloc2 w (.cells #[.int .i64 b.vars, .slice v.Ao v.no v.co, .slice v.Ae v.ne v.ce, .int .i64 b.nat, .slice v.Ap v.np v.cp] 26) (.cells #[.int .i64 0, .slice none 0 0, .slice none 0 0, .slice none 0 0, .slice none 0 0, .slice none 0 0, .slice none 0 0] 49)
 have HRT := hid (right_any (hb.below hb2))
 have HB2 := hid hb2
 have HKE : Hid (Blk ((w.alloc (.cells #[.int .i64 b.vars, .slice v.Ao v.no v.co, .slice v.Ae v.ne v.ce, .int .i64 b.nat, .slice v.Ap v.np v.cp] 26)).alloc (.cells #[.int .i64 0, .slice none 0 0, .slice none 0 0, .slice none 0 0, .slice none 0 0, .slice none 0 0, .slice none 0 0] 49)) (w.heap.size + 1) 49 #[.int .i64 0, .slice none 0 0, .slice none 0 0, .slice none 0 0, .slice none 0 0, .slice none 0 0, .slice none 0 0]) := hid (Blk.new' (by simp))
 have HKB := hid ((Blk.new w 26 #[.int .i64 b.vars, .slice v.Ao v.no v.co, .slice v.Ae v.ne v.ce, .int .i64 b.nat, .slice v.Ap v.np v.cp]).alloc (.cells #[.int .i64 0, .slice none 0 0, .slice none 0 0, .slice none 0 0, .slice none 0 0, .slice none 0 0, .slice none 0 0] 49))
 have HBK := hid hb
 obtain ⟨fz, hfz⟩ : ∃ z, z = famE b e := ⟨_, rfl⟩
 have HFZ := hid hfz
 have hel := hb.entries.len
 have hef := hb.entries.few
 unfold FamP
 rw [← hfz]
 obtain ⟨rz, hrz⟩ : ∃ z, z = rightE b := ⟨_, rfl⟩
 rw [← hrz] at HRT
 have HRZ := hid hrz
 have z0 := HKB.out.cell
 clear hb hb2 hfz hrz
 go_in
 go_wp2_with fail
 refine (HRT.out).mono ?_
 rintro en w2 ⟨rfl, hb3⟩
 have HBL := bto HB2 hb3
 have HBE := hid (HKE.out.below hb3 HKE.out.lt)
 clear z0
 have z0 := (HKB.out.below hb3 HKB.out.lt).cell
 have yb := HBE.out.cell
 have yf := HBE.out.frozen
 clear hb3
 by_cases hr : rz = 0
 rotate_left
 · have hd : (rz != 0) = true := by simpa using hr
   have HF2 : Hid (fz = rz) := hid (by rw [HFZ.out, HRZ.out]; unfold famE; rw [if_pos (by rw [← HRZ.out]; exact hr)])
   have HZN := hid hr
   clear hr
   go_wp2_with fail
   rw [HF2.out]
   refine bodyPost_ret (v := .tuple #[.agg #[.int .i64 0, .slice none 0 0, .slice none 0 0, .slice none 0 0, .slice none 0 0, .slice none 0 0, .slice none 0 0], .int .i64 rz]) (results_fam (g := w.heap.size + 1) (z := .int .i64 rz) (by have := (((((((HBE.out.set_ 0 (.int .i64 0)).set_ 1 (.slice none 0 0)).set_ 2 (.slice none 0 0)).set_ 3 (.slice none 0 0)).set_ 4 (.slice none 0 0)).set_ 5 (.slice none 0 0)).set_ 6 (.slice none 0 0)); simpa using this) (by simp) (by simp)) rfl ⟨?_, ⟨none, 0, 0, none, 0, 0, none, 0, 0, none, 0, 0, none, 0, 0, none, 0, 0⟩, 0, rfl, fun h => absurd h HZN.out⟩
   exact HBL.out.grown (set7_grown _ (w.heap.size + 1) (.int .i64 0) (.slice none 0 0) (.slice none 0 0) (.slice none 0 0) (.slice none 0 0) (.slice none 0 0) (.slice none 0 0)) HBL.out.size (fun b e => by injection e with e; omega)
 have hd : (rz != 0) = false := by rw [hr]; rfl
 have HF2 : Hid (fz = if e < 0 ∨ (b.entries.length : Int) ≤ e ∨ (entB b e).kind ≠ 1 then 1 else 0) := hid (by rw [HFZ.out]; unfold famE; rw [if_neg (by rw [← HRZ.out, hr]; decide)])
 clear hr
 have HZN : Hid (¬ (1 : Int) = 0) := hid (by decide)
 by_cases h1 : e < 0
 · have d1 : decide (e < 0) = true := decide_eq_true h1
   have HF3 : Hid (fz = 1) := hid (by rw [HF2.out, if_pos (Or.inl h1)])
   clear h1
   go_wp2_with fail
   rw [HF3.out]
   refine bodyPost_ret (v := .tuple #[.agg #[.int .i64 0, .slice none 0 0, .slice none 0 0, .slice none 0 0, .slice none 0 0, .slice none 0 0, .slice none 0 0], .int .i64 1]) (results_fam (g := w.heap.size + 1) (z := .int .i64 1) (by have := (((((((HBE.out.set_ 0 (.int .i64 0)).set_ 1 (.slice none 0 0)).set_ 2 (.slice none 0 0)).set_ 3 (.slice none 0 0)).set_ 4 (.slice none 0 0)).set_ 5 (.slice none 0 0)).set_ 6 (.slice none 0 0)); simpa using this) (by simp) (by simp)) rfl ⟨?_, ⟨none, 0, 0, none, 0, 0, none, 0, 0, none, 0, 0, none, 0, 0, none, 0, 0⟩, 0, rfl, fun h => absurd h HZN.out⟩
   exact HBL.out.grown (set7_grown _ (w.heap.size + 1) (.int .i64 0) (.slice none 0 0) (.slice none 0 0) (.slice none 0 0) (.slice none 0 0) (.slice none 0 0) (.slice none 0 0)) HBL.out.size (fun b e => by injection e with e; omega)
 have d1 : decide (e < 0) = false := decide_eq_false h1
 obtain ⟨i, rfl⟩ : ∃ i : Nat, e = (i : Int) := ⟨e.toNat, by omega⟩
 clear h1
 by_cases h2 : v.ne ≤ i
 · have d2 : decide ((i : Int) ≥ (v.ne : Int)) = true := decide_eq_true (by omega)
   have d3 : decide ((v.ne : Int) ≤ (i : Int)) = true := decide_eq_true (by omega)
   have d4 : decide (v.ne ≤ i) = true := decide_eq_true h2
   have HF3 : Hid (fz = 1) := hid (by rw [HF2.out, if_pos (Or.inr (Or.inl (by omega)))])
   clear h2
   go_wp2_with fail
   rw [HF3.out]
   refine bodyPost_ret (v := .tuple #[.agg #[.int .i64 0, .slice none 0 0, .slice none 0 0, .slice none 0 0, .slice none 0 0, .slice none 0 0, .slice none 0 0], .int .i64 1]) (results_fam (g := w.heap.size + 1) (z := .int .i64 1) (by have := (((((((HBE.out.set_ 0 (.int .i64 0)).set_ 1 (.slice none 0 0)).set_ 2 (.slice none 0 0)).set_ 3 (.slice none 0 0)).set_ 4 (.slice none 0 0)).set_ 5 (.slice none 0 0)).set_ 6 (.slice none 0 0)); simpa using this) (by simp) (by simp)) rfl ⟨?_, ⟨none, 0, 0, none, 0, 0, none, 0, 0, none, 0, 0, none, 0, 0, none, 0, 0⟩, 0, rfl, fun h => absurd h HZN.out⟩
   exact HBL.out.grown (set7_grown _ (w.heap.size + 1) (.int .i64 0) (.slice none 0 0) (.slice none 0 0) (.slice none 0 0) (.slice none 0 0) (.slice none 0 0) (.slice none 0 0)) HBL.out.size (fun b e => by injection e with e; omega)
 have d2 : decide ((i : Int) ≥ (v.ne : Int)) = false := decide_eq_false (by omega)
 have d3 : decide ((v.ne : Int) ≤ (i : Int)) = false := decide_eq_false (by omega)
 have d4 : decide (v.ne ≤ i) = false := decide_eq_false h2
 have hin : i < v.ne := by omega
 have hin2 : (i : Int) < (v.ne : Int) := by omega
 obtain ⟨bb, off, ea, hlb, u, c0, c1, c2, c3, c4, c5, c6, hec⟩ := HBK.out.entries.at_ hin
 rw [ea] at z0 ⊢
 have HEC : Hid (EnC w u (entB b (i : Int))) := hid hec
 have HKD : Hid ((entB b (i : Int)).kind = (b.entries.getD i default).kind) := hid rfl
 obtain ⟨kd, hkd⟩ : ∃ k, k = (b.entries.getD i default).kind := ⟨_, rfl⟩
 rw [← hkd] at c0 HKD
 have k0 := (HBL.out.cell (p := ⟨bb, off + i * 7, none⟩) hlb).trans c0
 have k1 := (HBL.out.cell (p := ⟨bb, off + i * 7 + 1, none⟩) hlb).trans c1
 have k2 := (HBL.out.cell (p := ⟨bb, off + i * 7 + 2, none⟩) hlb).trans c2
 have k3 := (HBL.out.cell (p := ⟨bb, off + i * 7 + 3, none⟩) hlb).trans c3
 have k4 := (HBL.out.cell (p := ⟨bb, off + i * 7 + 4, none⟩) hlb).trans c4
 have k5 := (HBL.out.cell (p := ⟨bb, off + i * 7 + 5, none⟩) hlb).trans c5
 have k6 := (HBL.out.cell (p := ⟨bb, off + i * 7 + 6, none⟩) hlb).trans c6
 clear hec hkd h2 ea c0 c1 c2 c3 c4 c5 c6
 by_cases hk : kd = 1
 rotate_left
 · have d5 : (kd != 1) = true := by simpa using hk
   have HF3 : Hid (fz = 1) := hid (by rw [HF2.out, if_pos (Or.inr (Or.inr (by rw [HKD.out]; exact hk)))])
   clear hk
   go_wp2_with fail
   rw [HF3.out]
   refine bodyPost_ret (v := .tuple #[.agg #[.int .i64 0, .slice none 0 0, .slice none 0 0, .slice none 0 0, .slice none 0 0, .slice none 0 0, .slice none 0 0], .int .i64 1]) (results_fam (g := w.heap.size + 1) (z := .int .i64 1) (by have := (((((((HBE.out.set_ 0 (.int .i64 0)).set_ 1 (.slice none 0 0)).set_ 2 (.slice none 0 0)).set_ 3 (.slice none 0 0)).set_ 4 (.slice none 0 0)).set_ 5 (.slice none 0 0)).set_ 6 (.slice none 0 0)); simpa using this) (by simp) (by simp)) rfl ⟨?_, ⟨none, 0, 0, none, 0, 0, none, 0, 0, none, 0, 0, none, 0, 0, none, 0, 0⟩, 0, rfl, fun h => absurd h HZN.out⟩
   exact HBL.out.grown (set7_grown _ (w.heap.size + 1) (.int .i64 0) (.slice none 0 0) (.slice none 0 0) (.slice none 0 0) (.slice none 0 0) (.slice none 0 0) (.slice none 0 0)) HBL.out.size (fun b e => by injection e with e; omega)
 have HF3 : Hid (fz = 0) := hid (by rw [HF2.out, if_neg (by rw [HKD.out]; rintro (h | h | h); omega; omega; exact h hk)])
 subst hk
 go_wp2_with fail
 have hF := set7_grown w2 (w.heap.size + 1) (.int .i64 1) (.slice u.As u.ns u.cs) (.slice u.Ap u.np u.cp) (.slice u.Ai u.ni u.ci) (.slice u.Ac u.nc u.cc) (.slice u.At u.nt u.ct) (.slice u.Ab u.nb u.cb)
 rw [HF3.out]
 refine bodyPost_ret (v := .tuple #[.agg #[.int .i64 1, .slice u.As u.ns u.cs, .slice u.Ap u.np u.cp, .slice u.Ai u.ni u.ci, .slice u.Ac u.nc u.cc, .slice u.At u.nt u.ct, .slice u.Ab u.nb u.cb], .int .i64 0]) (results_fam (g := w.heap.size + 1) (z := .int .i64 0) (by have := (((((((HBE.out.set_ 0 (.int .i64 1)).set_ 1 (.slice u.As u.ns u.cs)).set_ 2 (.slice u.Ap u.np u.cp)).set_ 3 (.slice u.Ai u.ni u.ci)).set_ 4 (.slice u.Ac u.nc u.cc)).set_ 5 (.slice u.At u.nt u.ct)).set_ 6 (.slice u.Ab u.nb u.cb)); simpa using this) (by simp) (by simp)) rfl ⟨?_, u, 1, rfl, fun _ => ⟨rfl, ?_⟩⟩
 · exact HBL.out.grown hF HBL.out.size (fun b e => by injection e with e; omega)
 exact HEC.out.below (HBL.out.grown hF HBL.out.size (fun b e => by injection e with e; omega))
theorem run_append_none {P : Program} {w : World} (base : Nat) (t ty e : TypeId) (i : TypeInfo) (size c : Nat) (ht : P.underlying t = some (.slice e)) (hi : P.info? e = some i)
 (v : Value) (n : Nat) (xs : List Value) (hown : w.ownsRow base e size v n xs) :
 (Builtin.append_ #[t, t] ty #[v, .slice none 0 c]).run P w = .ok v w := by
 rcases hown.2 with ⟨rfl, rfl⟩ | ⟨g, cap, cur, rfl, _, _, hnc, _⟩
 · simp [Builtin.append_, run_underlying ht, sizeOf, typeInfo, hi, Builtin.lenOf, Builtin.firstCells]
 simp [Builtin.append_, run_underlying ht, sizeOf, typeInfo, hi, Builtin.lenOf, Builtin.firstCells, hnc, storeCells]
theorem oper_append_all {P : Program} {o : Oper} {a : Act} {w : World} {K : Act → World → Prop} {Q : Exit → Act → World → Prop}
 (s x : Operand) (t : TypeId) (hop : o.op = Op.call { callee := Callee.builtin Builtin.append, args := #[s, x], argTypes := #[t, t] })
 (base : Nat) (e : TypeId) (i : TypeInfo) (z : Value) (size bytes : Nat) (h1 : P.underlying t = some (.slice e)) (h2 : P.info? e = some i) (h3 : i.zero = some z) (h4 : i.size = size) (h5 : i.bytes = bytes) (h6 : z.cells.size = size) (h7 : 0 < size)
 (B : Option Addr) (n d : Nat) (xs : List Value) (hs : a.eval s = .slice B n d) (hown : w.ownsRow base e size (.slice B n d) n xs)
 (A : Option Addr) (m c : Nat) (news : List Value) (hx : a.eval x = .slice A m c) (hn : news.length = m * size) (hnone : A = none → m = 0) (hc : ∀ ad, A = some ad → ∀ j u, news[j]? = some u → w.cell? (ad.add j) = some u) (h1c : ∀ u ∈ news, u.oneCell' = true)
 (b1 : n + m ≤ maxLen) (b2 : (n + m) * bytes ≤ 140737488355328) (b3 : base ≤ w.heap.size)
 (hK : ∀ A' c' w', Appended w w' base e size (.slice B n d) A' (n + m) c' (xs ++ news) → K (a.put o.dst (.slice A' (n + m) c')) w') : Oper.wp P o a w K Q := by
 cases A with
 | none =>
  obtain rfl := hnone rfl
  obtain rfl : news = [] := List.eq_nil_of_length_eq_zero (by simpa using hn)
  have hrun := run_append_none (P := P) base t o.type e i size c h1 h2 (.slice B n d) n xs hown
  unfold Oper.wp
  simp [execOp, hop, resolve, invoke, builtin, hs, hx, hrun, Result.andThen]
  exact hK B d w ⟨by simpa using hown, World.grownBy.refl _ _, fun g hg => .inl hg⟩
 | some ad => exact oper_append_mine s x t hop base e i z size bytes h1 h2 h3 h4 h5 h6 h7 (.slice B n d) n xs hs hown (some ad) m c news hx hn (fun e => by cases e) hc h1c b1 b2 b3 hK
theorem RowsC.append {S : Nat → Prop} {w : World} : ∀ {xs ys : List Value} {ls ms : List (List Nd)}, RowsC S w xs ls → RowsC S w ys ms → RowsC S w (xs ++ ys) (ls ++ ms)
 | [], _, [], _, _, h2 => h2
 | [], _, _ :: _, _, h, _ => h.elim
 | _ :: _, _, [], _, h, _ => h.elim
 | _ :: _, _, _ :: _, _, h, h2 => ⟨h.1, h.2.append h2⟩
theorem RowsV.rowsR {w : World} {A : Option Addr} {n c : Nat} {ls : List (List Nd)} (h : RowsV w A n c ls) : RowsR (· < w.heap.size) w A n c ls := ⟨h.len, h.few, h.mem⟩
theorem args_row {base low n m d : Nat} {W w6 : World} {B A8 : Option Addr} {c8 : Nat} {vs xs : List Value} {ls outs : List (List Nd)} (hw : low ≤ base) (hbs : base ≤ W.heap.size) (hR : RowsC (Aside base W (.slice B n d)) W vs ls) (hx : RowsC (· < low) W xs outs) (ho : W.ownsRow base 28 1 (.slice B n d) n vs) (hl : ls.length = n) (hm : outs.length = m) (hb : n + m ≤ 1000000) (ha : Appended W w6 base 28 1 (.slice B n d) A8 (n + m) c8 (vs ++ xs)) : RowsR (· < w6.heap.size) w6 A8 (n + m) c8 (ls ++ outs) := by
 have hg := ha.grown
 have hs := hg.size
 have h1 : RowsC (· < w6.heap.size) w6 vs ls := RowsC.keep (fun q hq => ⟨by have := hq.2.1; omega, fun o => cell_of_heap (hg.block q hq.2.1 (fun e => hq.2.2 e.symm)) o⟩) hR
 have h2 : RowsC (· < w6.heap.size) w6 xs outs := RowsC.keep (fun q hq => ⟨by omega, fun o => cell_of_heap (hg.block q (by omega) (fun e => by have := (ownsRow_block ho e.symm).1; omega)) o⟩) hx
 exact own_rowsQ ha.own (by rw [List.length_append, hl, hm]) (by omega) (h1.append h2) (fun q hq => hq) (fun g hg => (ownsRow_block ha.own hg).2.1)
def thenQ (q : List Nd × Int) (f : List Nd → List Nd × Int) : List Nd × Int := if q.2 ≠ 0 then ([], q.2) else f q.1
def ctT (b : Bk) (e k : Nat) : List Nd × Int := thenQ (applyR [⟨9, e, 0⟩] (varsL (entB b e).params.length ((entB b e).ctors.getD k default).args.length ++ ((entB b e).ctors.getD k default).outs)) fun t => thenQ (bindR 4 ((entB b e).ctors.getD k default).args t) fun t => bindR 4 (entB b e).params t
def inT (b : Bk) (e : Nat) : List Nd × Int := thenQ (bindR 4 (entB b e).indices (entB b e).sort) fun t => bindR 4 (entB b e).params t
theorem rows_lift {w w' : World} {A : Option Addr} {n c : Nat} {ls : List (List Nd)} (h : RowsR (· < w.heap.size) w A n c ls) (hb : Below w.heap.size w w') : RowsR (· < w'.heap.size) w' A n c ls := h.keep fun q hq => ⟨Nat.lt_of_lt_of_le hq hb.size, fun o => hb.cell (p := ⟨q, o, none⟩) hq⟩
theorem cctor_any {w : World} {v : BkVal} {b : Bk} (hb : BookV w v b) (e k : Nat) (he : e < b.entries.length) (hk : k < (entB b e).ctors.length) (hp : (entB b e).params.length ≤ 16) (hc1 : ((entB b e).ctors.getD k default).args.length ≤ 16) (hc2 : ((entB b e).ctors.getD k default).outs.length ≤ 16) :
 Calls Try.prog 48 #[.agg #[.int .i64 b.vars, .slice v.Ao v.no v.co, .slice v.Ae v.ne v.ce, .int .i64 b.nat, .slice v.Ap v.np v.cp], .int .i64 (e : Int), .int .i64 (k : Int)] w (RowEPost (ctT b e k) w) := by
 obtain ⟨i0, hi, hy0, hy1, hy2⟩ := info_parts infoR
 have HI0 := hid hi
 have HY0 := hid hy0
 have HY1 := hid hy1
 have HY2 := hid hy2
 have hel := hb.entries.len
 have hef := hb.entries.few
 have hen : e < v.ne := by omega
 have hen2 : (e : Int) < (v.ne : Int) := by omega
 have hen3 : decide ((e : Int) < (v.ne : Int)) = true := decide_eq_true hen2
 have hen4 : decide (e < v.ne) = true := decide_eq_true hen
 obtain ⟨bb, off, ea, hlb, u, g0, g1, g2, g3, g4, g5, g6, hec⟩ := hb.entries.at_ hen
 have hx : b.entries.getD e default = entB b (e : Int) := rfl
 rw [hx] at g0 hec
 obtain ⟨res, hres⟩ : ∃ r, r = ctT b e k := ⟨_, rfl⟩
 rw [← hres]
 have HRES := hid hres
 unfold ctT at HRES
 obtain ⟨x, hxx⟩ : ∃ x, x = entB b (e : Int) := ⟨_, rfl⟩
 rw [← hxx] at g0 hec hk hp hc1 hc2 HRES
 have hcl := hec.ctors.len
 have hcf := hec.ctors.few
 have hkn : k < u.nc := by omega
 have hkn2 : (k : Int) < (u.nc : Int) := by omega
 have hkn3 : decide ((k : Int) < (u.nc : Int)) = true := decide_eq_true hkn2
 have hkn4 : decide (k < u.nc) = true := decide_eq_true hkn
 obtain ⟨bc, oc, ec, hlc, A1, n1, c1, A2, n2, c2, f0, f1, hr1, hr2⟩ := hec.ctors.both hkn
 obtain ⟨c, hcc⟩ : ∃ c, c = x.ctors.getD k default := ⟨_, rfl⟩
 rw [← hcc] at hr1 hr2 hc1 hc2 HRES
 obtain ⟨kd, hkd⟩ : ∃ kd, kd = x.kind := ⟨_, rfl⟩
 rw [← hkd] at g0
 have hpl := hec.params.len
 have ha1 := hr1.len
 have ha2 := hr2.len
 have hnp : u.np ≤ 16 := by omega
 have hn1 : n1 ≤ 16 := by omega
 have hn2 : n2 ≤ 16 := by omega
 have HPR := hid hec.params
 have HR1 := hid hr1
 have HR2 := hid hr2
 obtain ⟨va, hva⟩ : ∃ q, q = varsL x.params.length c.args.length := ⟨_, rfl⟩
 rw [← hva] at HRES
 have hv := fun W : World => vars_any (w := W) u.np n1 (by omega) (by omega)
 rw [show varsL u.np n1 = va from by rw [hva, hpl, ha1]] at hv
 have hvl : va.length = u.np := by rw [hva, varsL_len, hpl]
 have HV := hid hv
 have HVL := hid hvl
 have HA2 := hid ha2
 obtain ⟨ap, hap⟩ : ∃ q, q = applyR [⟨9, e, 0⟩] (va ++ c.outs) := ⟨_, rfl⟩
 rw [← hap] at HRES
 obtain ⟨al, az⟩ := ap
 have HAP := hid hap
 have hb3 : Below w.heap.size w (((w.alloc (.cells #[.int .i64 b.vars, .slice v.Ao v.no v.co, .slice v.Ae v.ne v.ce, .int .i64 b.nat, .slice v.Ap v.np v.cp] 26)).alloc (.cells #[.int .i64 kd, .slice u.As u.ns u.cs, .slice u.Ap u.np u.cp, .slice u.Ai u.ni u.ci, .slice u.Ac u.nc u.cc, .slice u.At u.nt u.ct, .slice u.Ab u.nb u.cb] 49)).alloc (.cells #[.slice A1 n1 c1, .slice A2 n2 c2] 54)) := ((below_alloc2 w _ _)).alloc (by simp; omega) _
 have HB3 := hid hb3
 have HB3d := hid (below_drew hb3)
 have HK1 : Hid (Blk (((w.alloc (.cells #[.int .i64 b.vars, .slice v.Ao v.no v.co, .slice v.Ae v.ne v.ce, .int .i64 b.nat, .slice v.Ap v.np v.cp] 26)).alloc (.cells #[.int .i64 kd, .slice u.As u.ns u.cs, .slice u.Ap u.np u.cp, .slice u.Ai u.ni u.ci, .slice u.Ac u.nc u.cc, .slice u.At u.nt u.ct, .slice u.Ab u.nb u.cb] 49)).alloc (.cells #[.slice A1 n1 c1, .slice A2 n2 c2] 54)).drew (w.heap.size + 1) 49 #[.int .i64 kd, .slice u.As u.ns u.cs, .slice u.Ap u.np u.cp, .slice u.Ai u.ni u.ci, .slice u.Ac u.nc u.cc, .slice u.At u.nt u.ct, .slice u.Ab u.nb u.cb]) := hid (blk_drew ((Blk.new' (by simp)).alloc _))
 have HK2 : Hid (Blk (((w.alloc (.cells #[.int .i64 b.vars, .slice v.Ao v.no v.co, .slice v.Ae v.ne v.ce, .int .i64 b.nat, .slice v.Ap v.np v.cp] 26)).alloc (.cells #[.int .i64 kd, .slice u.As u.ns u.cs, .slice u.Ap u.np u.cp, .slice u.Ai u.ni u.ci, .slice u.Ac u.nc u.cc, .slice u.At u.nt u.ct, .slice u.Ab u.nb u.cb] 49)).alloc (.cells #[.slice A1 n1 c1, .slice A2 n2 c2] 54)).drew (w.heap.size + 1 + 1) 54 #[.slice A1 n1 c1, .slice A2 n2 c2]) := hid (blk_drew (Blk.new' (by simp)))
 have HS3 : Hid ((((w.alloc (.cells #[.int .i64 b.vars, .slice v.Ao v.no v.co, .slice v.Ae v.ne v.ce, .int .i64 b.nat, .slice v.Ap v.np v.cp] 26)).alloc (.cells #[.int .i64 kd, .slice u.As u.ns u.cs, .slice u.Ap u.np u.cp, .slice u.Ai u.ni u.ci, .slice u.Ac u.nc u.cc, .slice u.At u.nt u.ct, .slice u.Ab u.nb u.cb] 49)).alloc (.cells #[.slice A1 n1 c1, .slice A2 n2 c2] 54)).drew.heap.size = w.heap.size + 1 + 1 + 1) := hid (by simp)
 rw [ea] at HB3 HB3d HK1 HK2 HS3 ⊢
 rw [ec] at g4 HB3 HB3d HK1 HK2 HS3
 clear hi hy0 hy1 hy2 hel hb hec hx hres hxx hcl hk hp hc1 hc2 hr1 hr2 hcc hkd hpl ha1 ha2 hva hv hvl hap hb3 ea ec
 go_in
 go_wp2_with fail
 have hv' : ∀ W : World, Calls Try.prog 88 #[.int .i64 (u.np : Int), .int .i64 (n1 : Int)] W (fun e w' => Below W.heap.size W w' ∧ ∃ B d vs, e = .returned (.slice B u.np d) ∧ w'.ownsRow W.heap.size 28 1 (.slice B u.np d) u.np vs ∧ RowsC (Aside W.heap.size w' (.slice B u.np d)) w' vs va) := fun W => by
  have h := HV.out W
  unfold OwnRs at h
  rwa [HVL.out] at h
 have HVV := hid hv'
 have HBA : Hid (Below w.heap.size w ((((w.alloc (.cells #[.int .i64 b.vars, .slice v.Ao v.no v.co, .slice (some ⟨bb, off, none⟩) v.ne v.ce, .int .i64 b.nat, .slice v.Ap v.np v.cp] 26)).alloc (.cells #[.int .i64 kd, .slice u.As u.ns u.cs, .slice u.Ap u.np u.cp, .slice u.Ai u.ni u.ci, .slice (some ⟨bc, oc, none⟩) u.nc u.cc, .slice u.At u.nt u.ct, .slice u.Ab u.nb u.cb] 49)).alloc (.cells #[.slice A1 n1 c1, .slice A2 n2 c2] 54)).alloc (.cells #[.int .i64 9, .int .i64 (e : Int), .int .i64 0] 59)).drew) := hid (below_drew (HB3.out.alloc HB3.out.size _))
 have HKA1 : Hid (Blk ((((w.alloc (.cells #[.int .i64 b.vars, .slice v.Ao v.no v.co, .slice (some ⟨bb, off, none⟩) v.ne v.ce, .int .i64 b.nat, .slice v.Ap v.np v.cp] 26)).alloc (.cells #[.int .i64 kd, .slice u.As u.ns u.cs, .slice u.Ap u.np u.cp, .slice u.Ai u.ni u.ci, .slice (some ⟨bc, oc, none⟩) u.nc u.cc, .slice u.At u.nt u.ct, .slice u.Ab u.nb u.cb] 49)).alloc (.cells #[.slice A1 n1 c1, .slice A2 n2 c2] 54)).alloc (.cells #[.int .i64 9, .int .i64 (e : Int), .int .i64 0] 59)).drew (w.heap.size + 1) 49 _) := hid (blk_drew (Blk.alloc HK1.out _))
 have HKA2 : Hid (Blk ((((w.alloc (.cells #[.int .i64 b.vars, .slice v.Ao v.no v.co, .slice (some ⟨bb, off, none⟩) v.ne v.ce, .int .i64 b.nat, .slice v.Ap v.np v.cp] 26)).alloc (.cells #[.int .i64 kd, .slice u.As u.ns u.cs, .slice u.Ap u.np u.cp, .slice u.Ai u.ni u.ci, .slice (some ⟨bc, oc, none⟩) u.nc u.cc, .slice u.At u.nt u.ct, .slice u.Ab u.nb u.cb] 49)).alloc (.cells #[.slice A1 n1 c1, .slice A2 n2 c2] 54)).alloc (.cells #[.int .i64 9, .int .i64 (e : Int), .int .i64 0] 59)).drew (w.heap.size + 1 + 1) 54 _) := hid (blk_drew (Blk.alloc HK2.out _))
 have HKA3 : Hid (Blk ((((w.alloc (.cells #[.int .i64 b.vars, .slice v.Ao v.no v.co, .slice (some ⟨bb, off, none⟩) v.ne v.ce, .int .i64 b.nat, .slice v.Ap v.np v.cp] 26)).alloc (.cells #[.int .i64 kd, .slice u.As u.ns u.cs, .slice u.Ap u.np u.cp, .slice u.Ai u.ni u.ci, .slice (some ⟨bc, oc, none⟩) u.nc u.cc, .slice u.At u.nt u.ct, .slice u.Ab u.nb u.cb] 49)).alloc (.cells #[.slice A1 n1 c1, .slice A2 n2 c2] 54)).alloc (.cells #[.int .i64 9, .int .i64 (e : Int), .int .i64 0] 59)).drew (w.heap.size + 1 + 1 + 1) 59 #[.int .i64 9, .int .i64 (e : Int), .int .i64 0]) := hid (blk_drew (Blk.new' (by simp)))
 clear hv'
 refine wp_region_held_drew (S := (fun w' => w'.cell? ⟨w.heap.size + 1, 2, none⟩ = some (.slice u.Ap u.np u.cp) ∧ w'.cell? ⟨w.heap.size + 1 + 1, 0, none⟩ = some (.slice A1 n1 c1) ∧ w'.cell? ⟨w.heap.size + 1 + 1, 1, none⟩ = some (.slice A2 n2 c2))) (by kernel_rfl) ?_ (fun hHeld => ?_)
 · (try dsimp only); exact ⟨HK1.out.cell 2, HK2.out.cell 0, HK2.out.cell 1⟩
 refine tq 0 hHeld ?_
 try simp only [p7]
 refine tq 1 hHeld ?_
 try simp only [p7]
 refine tq 3 hHeld ?_
 try simp only [p7]
 refine tq 4 hHeld ?_
 try simp only [p7]
 refine tq 5 hHeld ?_
 try simp only [p7]
 refine tq 6 hHeld ?_
 try simp only [p7]
 refine tq 7 hHeld ?_
 try simp only [p7]
 refine tq 8 hHeld ?_
 try simp only [p7]
 refine tq 10 hHeld ?_
 try simp only [p7]
 refine tq 11 hHeld ?_
 try simp only [p7]
 refine wpAnyH_ready (rs := [2, 9]) (by kernel_rfl) (by simp) ?_
 refine AllReadyH.cons rfl (fun K hK => ?_) (AllReadyH.cons rfl (fun K hK => ?_) (AllReadyH.nil))
 · go_simp
   refine hK.out _ _ (by exact ⟨HKA1.out.cell 2, HKA2.out.cell 0, HKA2.out.cell 1⟩) fun hHeld => ?_
   clear hK K
   try simp only [p7]
   refine r1 9 fun K hK => ?_
   go_simp
   go_at_call 88
   refine (HVV.out _).mono ?_
   rintro e5 w5 ⟨hb5, B5, d5, vs5, rfl, ho5, hr5⟩
   have HB5 := bto HBA hb5
   have HK5a := hid (HKA1.out.below hb5 HKA1.out.lt)
   have HK5b := hid (HKA2.out.below hb5 HKA2.out.lt)
   have HK5n := hid (HKA3.out.below hb5 HKA3.out.lt)
   have HO5 := hid ho5
   have HR5 := hid hr5
   have HSB5 := hid hb5.size
   have HLO := hid (HBA.out.size)
   clear hb5 ho5 hr5
   go_wp2_with fail
   refine hK.out _ _ (by exact ⟨HK5a.out.cell 2, HK5b.out.cell 0, HK5b.out.cell 1⟩) fun hHeld => ?_
   clear hK K
   try simp only [p7]
   refine r1 12 fun K hK => ?_
   obtain ⟨xs5, hxl, hxc, hxr, hx1⟩ := ((HR2.out.rowsR).keep (R' := (· < w.heap.size)) (w' := w5) (fun q hq => ⟨hq, fun o => HB5.out.cell (p := ⟨q, o, none⟩) hq⟩)).values
   have HXL := hid hxl
   have HXC := hid hxc
   have HXR := hid hxr
   have HX1 := hid hx1
   clear hxl hxc hxr hx1
   refine oper_append_all (.tmp 32) (.tmp 34) 46 rfl _ 28 i0 _ 1 24 Try.underlying46 HI0.out HY0.out HY1.out HY2.out rfl (by decide) B5 u.np d5 vs5 rfl HO5.out A2 n2 c2 xs5 rfl (by rw [HXL.out, Nat.mul_one]) (fun e => by have := HR2.out.mem; rw [e] at this; by_cases h : 0 < n2; (obtain ⟨b, o, e2, _⟩ := this h; cases e2); omega) HXC.out HX1.out (by unfold maxLen; omega) (by omega) HSB5.out ?_
   intro A8 c8 w6 happ
   have HARG := hid (args_row HLO.out HSB5.out HR5.out HXR.out HO5.out HVL.out HA2.out (by omega) happ)
   have HNUL := hid (own_nulQ happ.own)
   have HB6 := hid (HB5.out.grown happ.grown HB5.out.size (fun g hg => Nat.le_trans HLO.out ((ownsRow_block HO5.out hg).1)))
   have HK6a := hid (HK5a.out.grown happ.grown (own_ne HO5.out (Nat.lt_of_lt_of_le (by simp) (Nat.le_refl _))))
   have HK6b := hid (HK5b.out.grown happ.grown (own_ne HO5.out (by simp)))
   have HK6n := hid (HK5n.out.grown happ.grown (own_ne HO5.out (by simp)))
   clear happ
   refine hK.out _ _ (by exact ⟨HK6a.out.cell 2, HK6b.out.cell 0, HK6b.out.cell 1⟩) fun hHeld => ?_
   clear hK K
   try simp only [p7]
   refine r1 13 fun K hK => ?_
   go_simp
   have hac := apply_any (lit_term (l := [(⟨9, (e : Int), 0⟩ : Nd)]) (g := w.heap.size + 1 + 1 + 1) HK6n.out rfl (Nat.le_refl 1) (by simp)) HARG.out HNUL.out
   rw [← HAP.out] at hac
   go_at_call 87
   refine hac.mono ?_
   rintro e7 w7 ⟨hb7, A7, n7, c7, rfl, ht7⟩
   clear hac
   go_wp2_with fail
   refine hK.out _ _ (by exact ⟨(HK6a.out.below hb7 HK6a.out.lt).cell 2, (HK6b.out.below hb7 HK6b.out.lt).cell 0, (HK6b.out.below hb7 HK6b.out.lt).cell 1⟩) fun hHeld => ?_
   clear hK K
   try simp only [p7]
   refine tq 14 hHeld ?_
   try simp only [p7]
   refine tq 15 hHeld ?_
   try simp only [p7]
   refine tq 16 hHeld ?_
   try simp only [p7]
   refine tq 17 hHeld ?_
   try simp only [p7]
   refine tq 18 hHeld ?_
   try simp only [p7]
   refine wpAnyH_done (by kernel_rfl) ?_ _
   have HB7 := bto HB6 hb7
   have HK7a := hid (HK6a.out.below hb7 HK6a.out.lt)
   have HK7b := hid (HK6b.out.below hb7 HK6b.out.lt)
   have HT7 := hid (ht7.keep (R' := fresh w w7) fun q hq => ⟨⟨Nat.le_trans HB6.out.size hq.1, hq.2⟩, fun _ => rfl⟩)
   have y1 := HK7b.out.cell
   clear hb7 ht7
   by_cases hz1 : az = 0
   rotate_left
   · have dz : (az != 0) = true := by simpa using hz1
     have HR9 : Hid (res = ([], az)) := hid (HRES.out.trans (if_pos hz1))
     clear hz1
     go_wp2_with fail
     go_ret2
     exact rowE_nil HR9.out HB7.out
   have dz : (az != 0) = false := by rw [hz1]; rfl
   have HR9 := hid (HRES.out.trans (if_neg (show ¬ (al, az).2 ≠ 0 from fun h => h hz1)))
   clear hz1
   have hbd := bind_any (op := 4) (HT7.out.keep (R' := (· < w7.heap.size)) fun q hq => ⟨hq.2, fun _ => rfl⟩) (HR1.out.below HB7.out).rowsR
   obtain ⟨bd, hbq⟩ : ∃ q, q = bindR 4 c.args al := ⟨_, rfl⟩
   rw [← hbq] at hbd
   have HR10 : Hid (res = thenQ bd fun t => bindR 4 x.params t) := hid (by rw [HR9.out, hbq])
   obtain ⟨bl, bz⟩ := bd
   have HBD := hid hbd
   clear hbd hbq
   go_wp2_with fail
   refine (HBD.out).mono ?_
   rintro e8 w8 ⟨hb8, A8b, n8, c8b, rfl, ht8⟩
   have HB8 := bto HB7 hb8
   have HK8a := hid (HK7a.out.below hb8 HK7a.out.lt)
   have HT8 := hid (ht8.keep (R' := fresh w w8) fun q hq => ⟨⟨Nat.le_trans HB7.out.size hq.1, hq.2⟩, fun _ => rfl⟩)
   clear hb8 ht8 y1
   have y2 := HK8a.out.cell
   by_cases hz2 : bz = 0
   rotate_left
   · have dz2 : (bz != 0) = true := by simpa using hz2
     have HR11 : Hid (res = ([], bz)) := hid (HR10.out.trans (if_pos hz2))
     clear hz2
     go_wp2_with fail
     go_ret2
     exact rowE_nil HR11.out HB8.out
   have dz2 : (bz != 0) = false := by rw [hz2]; rfl
   have HR11 : Hid (res = bindR 4 x.params bl) := hid (HR10.out.trans (if_neg (show ¬ (bl, bz).2 ≠ 0 from fun h => h hz2)))
   clear hz2
   have hbd2 := bind_any (op := 4) (HT8.out.keep (R' := (· < w8.heap.size)) fun q hq => ⟨hq.2, fun _ => rfl⟩) (HPR.out.below HB8.out).rowsR
   rw [← HR11.out] at hbd2
   have HBD2 := hid hbd2
   clear hbd2
   obtain ⟨rl, rz⟩ := res
   go_wp2_with fail
   refine (HBD2.out).mono ?_
   rintro e9 w9 ⟨hb9, A9, n9, c9, rfl, ht9⟩
   have HB9 := bto HB8 hb9
   have HT9 := hid (ht9.keep (R' := fresh w w9) fun q hq => ⟨⟨Nat.le_trans HB8.out.size hq.1, hq.2⟩, fun _ => rfl⟩)
   clear hb9 ht9
   go_wp2_with fail
   go_ret2
   exact ⟨HB9.out, A9, n9, c9, rfl, HT9.out⟩
 go_simp
 go_at_call 88
 refine (HVV.out _).mono ?_
 rintro e5 w5 ⟨hb5, B5, d5, vs5, rfl, ho5, hr5⟩
 have HB5 := bto HB3d hb5
 have HK5a := hid (HK1.out.below hb5 HK1.out.lt)
 have HK5b := hid (HK2.out.below hb5 HK2.out.lt)
 have HO5 := hid ho5
 have HR5 := hid hr5
 have HSB5 := hid hb5.size
 have HLO := hid (HB3d.out.size)
 clear hb5 ho5 hr5
 go_wp2_with fail
 refine hK.out _ _ (by exact ⟨HK5a.out.cell 2, HK5b.out.cell 0, HK5b.out.cell 1⟩) fun hHeld => ?_
 clear hK K
 try simp only [p7]
 have HBn := hid (HB5.out.alloc HB5.out.size (.cells #[.int .i64 9, .int .i64 (e : Int), .int .i64 0] 59))
 have HK5a2 := hid (HK5a.out.alloc (.cells #[.int .i64 9, .int .i64 (e : Int), .int .i64 0] 59))
 have HK5b2 := hid (HK5b.out.alloc (.cells #[.int .i64 9, .int .i64 (e : Int), .int .i64 0] 59))
 have HKn := hid (Blk.new w5 59 #[.int .i64 9, .int .i64 (e : Int), .int .i64 0])
 have HO5n := hid (World.ownsRow.alloc HO5.out (.cells #[.int .i64 9, .int .i64 (e : Int), .int .i64 0] 59))
 have HR5n : Hid (RowsC (Aside _ (w5.alloc (.cells #[.int .i64 9, .int .i64 (e : Int), .int .i64 0] 59)) (.slice B5 u.np d5)) (w5.alloc (.cells #[.int .i64 9, .int .i64 (e : Int), .int .i64 0] 59)) vs5 va) := hid (RowsC.keep (fun q hq => ⟨⟨hq.1, by have := hq.2.1; simp; omega, hq.2.2⟩, fun o => (below_alloc w5 (.cells #[.int .i64 9, .int .i64 (e : Int), .int .i64 0] 59)).cell (p := ⟨q, o, none⟩) hq.2.1⟩) HR5.out)
 have HSB5n := hid (Nat.le_trans HSB5.out (below_alloc w5 (.cells #[.int .i64 9, .int .i64 (e : Int), .int .i64 0] 59)).size)
 refine wpAnyH_ready (rs := [2, 12]) (by kernel_rfl) (by simp) ?_
 refine AllReadyH.cons rfl (fun K hK => ?_) (AllReadyH.cons rfl (fun K hK => ?_) (AllReadyH.nil))
 · go_simp
   refine hK.out _ _ (by exact ⟨HK5a2.out.cell 2, HK5b2.out.cell 0, HK5b2.out.cell 1⟩) fun hHeld => ?_
   clear hK K
   try simp only [p7]
   refine r1 12 fun K hK => ?_
   obtain ⟨xs5, hxl, hxc, hxr, hx1⟩ := ((HR2.out.rowsR).keep (R' := (· < w.heap.size)) (w' := (w5.alloc (.cells #[.int .i64 9, .int .i64 (e : Int), .int .i64 0] 59))) (fun q hq => ⟨hq, fun o => HBn.out.cell (p := ⟨q, o, none⟩) hq⟩)).values
   have HXL := hid hxl
   have HXC := hid hxc
   have HXR := hid hxr
   have HX1 := hid hx1
   clear hxl hxc hxr hx1
   refine oper_append_all (.tmp 32) (.tmp 34) 46 rfl _ 28 i0 _ 1 24 Try.underlying46 HI0.out HY0.out HY1.out HY2.out rfl (by decide) B5 u.np d5 vs5 rfl HO5n.out A2 n2 c2 xs5 rfl (by rw [HXL.out, Nat.mul_one]) (fun e => by have := HR2.out.mem; rw [e] at this; by_cases h : 0 < n2; (obtain ⟨b, o, e2, _⟩ := this h; cases e2); omega) HXC.out HX1.out (by unfold maxLen; omega) (by omega) HSB5n.out ?_
   intro A8 c8 w6 happ
   have HARG := hid (args_row HLO.out HSB5n.out HR5n.out HXR.out HO5n.out HVL.out HA2.out (by omega) happ)
   have HNUL := hid (own_nulQ happ.own)
   have HB6 := hid (HBn.out.grown happ.grown HBn.out.size (fun g hg => Nat.le_trans HLO.out ((ownsRow_block HO5n.out hg).1)))
   have HK6a := hid (HK5a2.out.grown happ.grown (own_ne HO5n.out (by simp)))
   have HK6b := hid (HK5b2.out.grown happ.grown (own_ne HO5n.out (by simp)))
   have HK6n := hid (HKn.out.grown happ.grown (fun e9 => by have := (ownsRow_block HO5.out e9.symm).2.1; omega))
   clear happ
   refine hK.out _ _ (by exact ⟨HK6a.out.cell 2, HK6b.out.cell 0, HK6b.out.cell 1⟩) fun hHeld => ?_
   clear hK K
   try simp only [p7]
   refine r1 13 fun K hK => ?_
   go_simp
   have hac := apply_any (lit_term (l := [(⟨9, (e : Int), 0⟩ : Nd)]) (g := w5.heap.size) HK6n.out rfl (Nat.le_refl 1) (by simp)) HARG.out HNUL.out
   rw [← HAP.out] at hac
   go_at_call 87
   refine hac.mono ?_
   rintro e7 w7 ⟨hb7, A7, n7, c7, rfl, ht7⟩
   clear hac
   go_wp2_with fail
   refine hK.out _ _ (by exact ⟨(HK6a.out.below hb7 HK6a.out.lt).cell 2, (HK6b.out.below hb7 HK6b.out.lt).cell 0, (HK6b.out.below hb7 HK6b.out.lt).cell 1⟩) fun hHeld => ?_
   clear hK K
   try simp only [p7]
   refine tq 14 hHeld ?_
   try simp only [p7]
   refine tq 15 hHeld ?_
   try simp only [p7]
   refine tq 16 hHeld ?_
   try simp only [p7]
   refine tq 17 hHeld ?_
   try simp only [p7]
   refine tq 18 hHeld ?_
   try simp only [p7]
   refine wpAnyH_done (by kernel_rfl) ?_ _
   have HB7 := bto HB6 hb7
   have HK7a := hid (HK6a.out.below hb7 HK6a.out.lt)
   have HK7b := hid (HK6b.out.below hb7 HK6b.out.lt)
   have HT7 := hid (ht7.keep (R' := fresh w w7) fun q hq => ⟨⟨Nat.le_trans HB6.out.size hq.1, hq.2⟩, fun _ => rfl⟩)
   have y1 := HK7b.out.cell
   clear hb7 ht7
   by_cases hz1 : az = 0
   rotate_left
   · have dz : (az != 0) = true := by simpa using hz1
     have HR9 : Hid (res = ([], az)) := hid (HRES.out.trans (if_pos hz1))
     clear hz1
     go_wp2_with fail
     go_ret2
     exact rowE_nil HR9.out HB7.out
   have dz : (az != 0) = false := by rw [hz1]; rfl
   have HR9 := hid (HRES.out.trans (if_neg (show ¬ (al, az).2 ≠ 0 from fun h => h hz1)))
   clear hz1
   have hbd := bind_any (op := 4) (HT7.out.keep (R' := (· < w7.heap.size)) fun q hq => ⟨hq.2, fun _ => rfl⟩) (HR1.out.below HB7.out).rowsR
   obtain ⟨bd, hbq⟩ : ∃ q, q = bindR 4 c.args al := ⟨_, rfl⟩
   rw [← hbq] at hbd
   have HR10 : Hid (res = thenQ bd fun t => bindR 4 x.params t) := hid (by rw [HR9.out, hbq])
   obtain ⟨bl, bz⟩ := bd
   have HBD := hid hbd
   clear hbd hbq
   go_wp2_with fail
   refine (HBD.out).mono ?_
   rintro e8 w8 ⟨hb8, A8b, n8, c8b, rfl, ht8⟩
   have HB8 := bto HB7 hb8
   have HK8a := hid (HK7a.out.below hb8 HK7a.out.lt)
   have HT8 := hid (ht8.keep (R' := fresh w w8) fun q hq => ⟨⟨Nat.le_trans HB7.out.size hq.1, hq.2⟩, fun _ => rfl⟩)
   clear hb8 ht8 y1
   have y2 := HK8a.out.cell
   by_cases hz2 : bz = 0
   rotate_left
   · have dz2 : (bz != 0) = true := by simpa using hz2
     have HR11 : Hid (res = ([], bz)) := hid (HR10.out.trans (if_pos hz2))
     clear hz2
     go_wp2_with fail
     go_ret2
     exact rowE_nil HR11.out HB8.out
   have dz2 : (bz != 0) = false := by rw [hz2]; rfl
   have HR11 : Hid (res = bindR 4 x.params bl) := hid (HR10.out.trans (if_neg (show ¬ (bl, bz).2 ≠ 0 from fun h => h hz2)))
   clear hz2
   have hbd2 := bind_any (op := 4) (HT8.out.keep (R' := (· < w8.heap.size)) fun q hq => ⟨hq.2, fun _ => rfl⟩) (HPR.out.below HB8.out).rowsR
   rw [← HR11.out] at hbd2
   have HBD2 := hid hbd2
   clear hbd2
   obtain ⟨rl, rz⟩ := res
   go_wp2_with fail
   refine (HBD2.out).mono ?_
   rintro e9 w9 ⟨hb9, A9, n9, c9, rfl, ht9⟩
   have HB9 := bto HB8 hb9
   have HT9 := hid (ht9.keep (R' := fresh w w9) fun q hq => ⟨⟨Nat.le_trans HB8.out.size hq.1, hq.2⟩, fun _ => rfl⟩)
   clear hb9 ht9
   go_wp2_with fail
   go_ret2
   exact ⟨HB9.out, A9, n9, c9, rfl, HT9.out⟩
 obtain ⟨xs5, hxl, hxc, hxr, hx1⟩ := ((HR2.out.rowsR).keep (R' := (· < w.heap.size)) (w' := w5) (fun q hq => ⟨hq, fun o => HB5.out.cell (p := ⟨q, o, none⟩) hq⟩)).values
 have HXL := hid hxl
 have HXC := hid hxc
 have HXR := hid hxr
 have HX1 := hid hx1
 clear hxl hxc hxr hx1
 refine oper_append_all (.tmp 32) (.tmp 34) 46 rfl _ 28 i0 _ 1 24 Try.underlying46 HI0.out HY0.out HY1.out HY2.out rfl (by decide) B5 u.np d5 vs5 rfl HO5.out A2 n2 c2 xs5 rfl (by rw [HXL.out, Nat.mul_one]) (fun e => by have := HR2.out.mem; rw [e] at this; by_cases h : 0 < n2; (obtain ⟨b, o, e2, _⟩ := this h; cases e2); omega) HXC.out HX1.out (by unfold maxLen; omega) (by omega) HSB5.out ?_
 intro A8 c8 w6 happ
 have HARG := hid (args_row HLO.out HSB5.out HR5.out HXR.out HO5.out HVL.out HA2.out (by omega) happ)
 have HNUL := hid (own_nulQ happ.own)
 have HB6 := hid (HB5.out.grown happ.grown HB5.out.size (fun g hg => Nat.le_trans HLO.out ((ownsRow_block HO5.out hg).1)))
 have HK6a := hid (HK5a.out.grown happ.grown (own_ne HO5.out (by simp)))
 have HK6b := hid (HK5b.out.grown happ.grown (own_ne HO5.out (by simp)))
 clear happ
 refine hK.out _ _ (by exact ⟨HK6a.out.cell 2, HK6b.out.cell 0, HK6b.out.cell 1⟩) fun hHeld => ?_
 clear hK K
 try simp only [p7]
 have HB6n := hid (HB6.out.alloc HB6.out.size (.cells #[.int .i64 9, .int .i64 (e : Int), .int .i64 0] 59))
 have HK6a2 := hid (HK6a.out.alloc (.cells #[.int .i64 9, .int .i64 (e : Int), .int .i64 0] 59))
 have HK6b2 := hid (HK6b.out.alloc (.cells #[.int .i64 9, .int .i64 (e : Int), .int .i64 0] 59))
 have HKn := hid (Blk.new w6 59 #[.int .i64 9, .int .i64 (e : Int), .int .i64 0])
 have HARG2 := hid (rows_lift HARG.out (below_alloc w6 (.cells #[.int .i64 9, .int .i64 (e : Int), .int .i64 0] 59)))
 replace HARG := HARG2
 refine r1 2 fun K hK => ?_
 go_simp
 refine hK.out _ _ (by exact ⟨HK6a2.out.cell 2, HK6b2.out.cell 0, HK6b2.out.cell 1⟩) fun hHeld => ?_
 clear hK K
 try simp only [p7]
 refine r1 13 fun K hK => ?_
 go_simp
 have hac := apply_any (lit_term (l := [(⟨9, (e : Int), 0⟩ : Nd)]) (g := w6.heap.size) HKn.out rfl (Nat.le_refl 1) (by simp)) HARG.out HNUL.out
 rw [← HAP.out] at hac
 go_at_call 87
 refine hac.mono ?_
 rintro e7 w7 ⟨hb7, A7, n7, c7, rfl, ht7⟩
 clear hac
 go_wp2_with fail
 refine hK.out _ _ (by exact ⟨(HK6a2.out.below hb7 HK6a2.out.lt).cell 2, (HK6b2.out.below hb7 HK6b2.out.lt).cell 0, (HK6b2.out.below hb7 HK6b2.out.lt).cell 1⟩) fun hHeld => ?_
 clear hK K
 try simp only [p7]
 refine tq 14 hHeld ?_
 try simp only [p7]
 refine tq 15 hHeld ?_
 try simp only [p7]
 refine tq 16 hHeld ?_
 try simp only [p7]
 refine tq 17 hHeld ?_
 try simp only [p7]
 refine tq 18 hHeld ?_
 try simp only [p7]
 refine wpAnyH_done (by kernel_rfl) ?_ _
 have HB7 := bto HB6n hb7
 have HK7a := hid (HK6a2.out.below hb7 HK6a2.out.lt)
 have HK7b := hid (HK6b2.out.below hb7 HK6b2.out.lt)
 have HT7 := hid (ht7.keep (R' := fresh w w7) fun q hq => ⟨⟨Nat.le_trans HB6n.out.size hq.1, hq.2⟩, fun _ => rfl⟩)
 have y1 := HK7b.out.cell
 clear hb7 ht7
 by_cases hz1 : az = 0
 rotate_left
 · have dz : (az != 0) = true := by simpa using hz1
   have HR9 : Hid (res = ([], az)) := hid (HRES.out.trans (if_pos hz1))
   clear hz1
   go_wp2_with fail
   go_ret2
   exact rowE_nil HR9.out HB7.out
 have dz : (az != 0) = false := by rw [hz1]; rfl
 have HR9 := hid (HRES.out.trans (if_neg (show ¬ (al, az).2 ≠ 0 from fun h => h hz1)))
 clear hz1
 have hbd := bind_any (op := 4) (HT7.out.keep (R' := (· < w7.heap.size)) fun q hq => ⟨hq.2, fun _ => rfl⟩) (HR1.out.below HB7.out).rowsR
 obtain ⟨bd, hbq⟩ : ∃ q, q = bindR 4 c.args al := ⟨_, rfl⟩
 rw [← hbq] at hbd
 have HR10 : Hid (res = thenQ bd fun t => bindR 4 x.params t) := hid (by rw [HR9.out, hbq])
 obtain ⟨bl, bz⟩ := bd
 have HBD := hid hbd
 clear hbd hbq
 go_wp2_with fail
 refine (HBD.out).mono ?_
 rintro e8 w8 ⟨hb8, A8b, n8, c8b, rfl, ht8⟩
 have HB8 := bto HB7 hb8
 have HK8a := hid (HK7a.out.below hb8 HK7a.out.lt)
 have HT8 := hid (ht8.keep (R' := fresh w w8) fun q hq => ⟨⟨Nat.le_trans HB7.out.size hq.1, hq.2⟩, fun _ => rfl⟩)
 clear hb8 ht8 y1
 have y2 := HK8a.out.cell
 by_cases hz2 : bz = 0
 rotate_left
 · have dz2 : (bz != 0) = true := by simpa using hz2
   have HR11 : Hid (res = ([], bz)) := hid (HR10.out.trans (if_pos hz2))
   clear hz2
   go_wp2_with fail
   go_ret2
   exact rowE_nil HR11.out HB8.out
 have dz2 : (bz != 0) = false := by rw [hz2]; rfl
 have HR11 : Hid (res = bindR 4 x.params bl) := hid (HR10.out.trans (if_neg (show ¬ (bl, bz).2 ≠ 0 from fun h => h hz2)))
 clear hz2
 have hbd2 := bind_any (op := 4) (HT8.out.keep (R' := (· < w8.heap.size)) fun q hq => ⟨hq.2, fun _ => rfl⟩) (HPR.out.below HB8.out).rowsR
 rw [← HR11.out] at hbd2
 have HBD2 := hid hbd2
 clear hbd2
 obtain ⟨rl, rz⟩ := res
 go_wp2_with fail
 refine (HBD2.out).mono ?_
 rintro e9 w9 ⟨hb9, A9, n9, c9, rfl, ht9⟩
 have HB9 := bto HB8 hb9
 have HT9 := hid (ht9.keep (R' := fresh w w9) fun q hq => ⟨⟨Nat.le_trans HB8.out.size hq.1, hq.2⟩, fun _ => rfl⟩)
 clear hb9 ht9
 go_wp2_with fail
 go_ret2
 exact ⟨HB9.out, A9, n9, c9, rfl, HT9.out⟩
end Go.Proofs.Ytplecfbdchmogaa
