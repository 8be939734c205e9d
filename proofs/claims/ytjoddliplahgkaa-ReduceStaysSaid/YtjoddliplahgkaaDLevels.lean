/- Merged: MapG, LevelP, Level. -/
import Derived.Maps.OwnOps
import Derived.Maps.OwnSet
import Derived.DeepKeys4
import Derived.WalkKit
import Derived.Test.YtjoddliplahgkaaProg
import Derived.Test.YtjoddliplahgkaaChecked
import Derived.Test.YtjoddliplahgkaaDGuarded
namespace Go.Proofs.Ytjoddliplahgkaa
open Go.Lib (hid)
set_option maxHeartbeats 8000000
set_option maxRecDepth 100000
section
open Go.RowKit Go.Maps
abbrev GF := Int → Int → Option Int
def updG (g : GF) (l h z : Int) : GF := fun a b => if a = l ∧ b = h then some z else g a b
structure PairKey (P : Program) (k t e : TypeId) : Prop where
 keyed : Keyed P k
 key : ∀ l h : Int, (Lit.int .i64 l).wf = true → (Lit.int .i64 h).wf = true → ∃ kl, keyOf P k (.agg #[.int .i64 l, .int .i64 h]) = some kl
 ht : P.underlying t = some (.map k e)
 he : P.underlying e = some (.int .i64)
 hz : ∀ w, (zeroValue e).run P w = .ok (.int .i64 0) w
def MapG (P : Program) (k e : TypeId) (w : World) (b n : Nat) (g : GF) : Prop :=
 ∃ D : DataW Unit, w.ownsMap P k (plainElem P e) b n D ∧ ∀ l h kl, keyOf P k (.agg #[.int .i64 l, .int .i64 h]) = some kl → Maps.has D kl = (g l h).isSome ∧ D.atKey kl (.lit (.int .i64 0)) = .lit (.int .i64 ((g l h).getD 0))
section
variable {P : Program} {k t e : TypeId} {w w' : World} {b n : Nat} {g : GF}
theorem MapG.made (w : World) (P : Program) (k e : TypeId) : MapG P k e (w.alloc (.map #[] 0)) w.heap.size 0 (fun _ _ => none) :=
 ⟨.map [], World.ownsMap_made w P k _, fun _ _ _ _ => ⟨rfl, rfl⟩⟩
theorem MapG.mono (h : MapG P k e w b n g) {m : Nat} (hm : n ≤ m) : MapG P k e w b m g := by
 obtain ⟨D, h1, h2⟩ := h
 exact ⟨D, h1.mono hm, h2⟩
theorem MapG.lt (h : MapG P k e w b n g) : b < w.heap.size := by
 obtain ⟨D, h1, h2⟩ := h
 exact h1.lt
theorem MapG.kept {row : Option Nat} (h : MapG P k e w b n g) (hg : w.grownBy w' row) (hne : some b ≠ row) : MapG P k e w' b n g := by
 obtain ⟨D, h1, h2⟩ := h
 exact ⟨D, h1.kept hg hne, h2⟩
theorem MapG.alloc (h : MapG P k e w b n g) (o : Obj) : MapG P k e (w.alloc o) b n g := by
 obtain ⟨D, h1, h2⟩ := h
 exact ⟨D, h1.alloc o, h2⟩
theorem MapG.set_ (K : PairKey P k t e) {l r z : Int} {D : DataW Unit} {kl : Lit} (hD : w.ownsMap P k (plainElem P e) b n D) (h2 : ∀ l h kl, keyOf P k (.agg #[.int .i64 l, .int .i64 h]) = some kl → Maps.has D kl = (g l h).isSome ∧ D.atKey kl (.lit (.int .i64 0)) = .lit (.int .i64 ((g l h).getD 0)))
 (hk : keyOf P k (.agg #[.int .i64 l, .int .i64 r]) = some kl) (h3 : w'.ownsMap P k (plainElem P e) b (n + 1) (D.put kl (.lit (.int .i64 z)))) : MapG P k e w' b (n + 1) (updG g l r z) := by
 refine ⟨_, h3, fun l' r' kl' hk' => ?_⟩
 by_cases hlr : l' = l ∧ r' = r
 · obtain ⟨rfl, rfl⟩ := hlr
   rw [hk] at hk'
   obtain rfl := Option.some.inj hk'
   simp only [updG, and_self, if_true, Option.isSome_some, Option.getD_some]
   exact ⟨has_put_same hD.isMap (K.keyed.key hk) _, atKey_put_same hD.isMap (K.keyed.key hk) _ _⟩
 have hne : kl' ≠ kl := fun e => by
  subst e
  have := K.keyed.inj hk hk'
  injection this with this
  have h0 := congrArg (fun x : Array Value => x[0]?) this
  have h1 := congrArg (fun x : Array Value => x[1]?) this
  simp at h0 h1
  exact hlr ⟨h0.symm, h1.symm⟩
 simp only [updG, if_neg hlr]
 rw [has_put_other hne, atKey_put_other hne]
 exact h2 l' r' kl' hk'
theorem wpList_lookG_ok {ops : Array Oper} {rest : List Oper} {o : Oper} {a : Act} {Q : Exit → Act → World → Prop}
 (hg : o.guard = none) (m x : Operand) (hop : o.op = Op.lookup t m x true) (K : PairKey P k t e) (hm : a.eval m = .map (some b)) (hown : MapG P k e w b n g) (l r : Int) (hx : a.eval x = .agg #[.int .i64 l, .int .i64 r]) (hl : (Lit.int .i64 l).wf = true) (hr : (Lit.int .i64 r).wf = true)
 (hK : wpList P ops Q rest (a.put o.dst (.tuple #[.int .i64 ((g l r).getD 0), .bool (g l r).isSome])) w) : wpList P ops Q (o :: rest) a w := by
 obtain ⟨D, h1, h2⟩ := hown
 obtain ⟨kl, hk⟩ := K.key l r hl hr
 obtain ⟨e1, e2⟩ := h2 l r kl hk
 refine wpList_lookup_own_ok_int w hg m x t hop k e .i64 K.keyed K.ht K.he (K.hz w) b n D hm h1 _ kl hx hk fun c hc _ => ?_
 rw [hc] at e2
 injection e2 with e2
 injection e2 with _ e2
 rw [e1, e2]
 exact hK
theorem wpList_lookG {ops : Array Oper} {rest : List Oper} {o : Oper} {a : Act} {Q : Exit → Act → World → Prop}
 (hg : o.guard = none) (m x : Operand) (hop : o.op = Op.lookup t m x false) (K : PairKey P k t e) (hm : a.eval m = .map (some b)) (hown : MapG P k e w b n g) (l r : Int) (hx : a.eval x = .agg #[.int .i64 l, .int .i64 r]) (hl : (Lit.int .i64 l).wf = true) (hr : (Lit.int .i64 r).wf = true)
 (hK : wpList P ops Q rest (a.put o.dst (.int .i64 ((g l r).getD 0))) w) : wpList P ops Q (o :: rest) a w := by
 obtain ⟨D, h1, h2⟩ := hown
 obtain ⟨kl, hk⟩ := K.key l r hl hr
 obtain ⟨e1, e2⟩ := h2 l r kl hk
 refine wpList_lookup_own_int w hg m x t hop k e .i64 K.keyed K.ht K.he (K.hz w) b n D hm h1 _ kl hx hk fun c hc _ => ?_
 rw [hc] at e2
 injection e2 with e2
 injection e2 with _ e2
 rw [e2]
 exact hK
theorem wpList_setG {ops : Array Oper} {rest : List Oper} {o : Oper} {a : Act} {Q : Exit → Act → World → Prop}
 (hg : o.guard = none) (m x v : Operand) (hop : o.op = Op.mapUpdate t m x v) (K : PairKey P k t e) (hm : a.eval m = .map (some b)) (hown : MapG P k e w b n g) (hn : n < 100000000000000) (l r z : Int) (hx : a.eval x = .agg #[.int .i64 l, .int .i64 r]) (hl : (Lit.int .i64 l).wf = true) (hr : (Lit.int .i64 r).wf = true) (hv : a.eval v = .int .i64 z) (hzw : (Lit.int .i64 z).wf = true)
 (hK : ∀ w', MapG P k e w' b (n + 1) (updG g l r z) → w.grownBy w' (some b) → wpList P ops Q rest (a.put o.dst undef) w') : wpList P ops Q (o :: rest) a w := by
 obtain ⟨D, h1, h2⟩ := hown
 obtain ⟨kl, hk⟩ := K.key l r hl hr
 exact wpList_mapUpdate_own w hg m x v t hop k e K.keyed K.ht (plainElem P e) b n D hm h1 (by unfold maxLen; omega) _ _ kl hx hv hk (.lit (.int .i64 z)) [] (plainElem_int K.he hzw) fun w' h3 h4 => hK w' (MapG.set_ K h1 h2 hk h3) h4
end
theorem key_pair {P : Program} {k e : TypeId} {f1 f2 : Field} (hu : P.underlying k = some (.struct #[f1, f2])) (h1 : (f1.name != "_") = true) (h2 : (f2.name != "_") = true) (t1 : f1.type = e) (t2 : f2.type = e) (he : P.underlying e = some (.int .i64)) (o1 : f1.offset = 0) (o2 : f2.offset = 1) (hc : P.cellsOf k = 2) (hce : P.cellsOf e = 1) (hk : P.keyType k = true) (hs : 2 ≤ P.types.size + 1) (l r : Int) (hl : (Lit.int .i64 l).wf = true) (hr : (Lit.int .i64 r).wf = true) :
 ∃ kl, keyOf P k (.agg #[.int .i64 l, .int .i64 r]) = some kl := by
 obtain ⟨d, hd⟩ : ∃ d, P.types.size + 1 = d + 2 := ⟨P.types.size - 1, by omega⟩
 have hf : (Value.agg #[.int .i64 l, .int .i64 r]).formed P k = true := by simp [Value.formed, hu, hc]
 have hk2 : ∀ z : Int, (Lit.int .i64 z).wf = true → P.keyLits (d + 1) e [.int .i64 z] = some [.int .i64 z] := fun z hz => by
  unfold Program.keyLits
  rw [he]
  simp [hz]
 have hkl : P.keyLits (d + 2) k [.int .i64 l, .int .i64 r] = some [.int .i64 l, .int .i64 r] := by
  unfold Program.keyLits
  rw [hu]
  simp only
  rw [if_pos (by simp [hc, h1, h2])]
  simp [t1, t2, o1, o2, hce, hk2 l hl, hk2 r hr]
 refine ⟨.string (keyBytes [.int .i64 l, .int .i64 r]), ?_⟩
 unfold keyOf
 rw [hu]
 simp only
 rw [hk, hf, hd]
 simp only [Bool.and_self, if_true]
 show (P.keyLits (d + 2) k [.int .i64 l, .int .i64 r]).map _ = _
 rw [hkl]
 rfl
theorem laidOut : laidOutB Try.prog = true := by kernel_rfl
theorem int_cells : Try.prog.cellsOf 3 = 1 := by kernel_rfl
theorem types_two : 2 ≤ Try.prog.types.size + 1 := of_decide_eq_true (by kernel_rfl)
theorem edge_cells : Try.prog.cellsOf 137 = 2 := by kernel_rfl
theorem edge_kt : Try.prog.keyType 137 = true := by kernel_rfl
theorem edge_n1 : (("low" : String) != "_") = true := by decide
theorem edge_n2 : (("high" : String) != "_") = true := by decide
theorem edgeKey : PairKey Try.prog 137 106 3 where
 keyed := Keyed.of_law (deep_law_laid laidOut (m := 2) (by omega) (of_decide_eq_true (by kernel_rfl)) (by kernel_rfl) (by rw [Try.underlying137]))
 key := fun l r hl hr => key_pair Try.underlying137 edge_n1 edge_n2 rfl rfl Try.underlying3 rfl rfl edge_cells int_cells edge_kt types_two l r hl hr
 ht := Try.underlying106
 he := Try.underlying3
 hz := fun w => by kernel_rfl
theorem prim_cells : Try.prog.cellsOf 115 = 2 := by kernel_rfl
theorem prim_kt : Try.prog.keyType 115 = true := by kernel_rfl
theorem prim_n1 : (("Entry" : String) != "_") = true := by decide
theorem prim_n2 : (("Id" : String) != "_") = true := by decide
theorem primKey : PairKey Try.prog 115 113 3 where
 keyed := Keyed.of_law (deep_law_laid laidOut (m := 2) (by omega) (of_decide_eq_true (by kernel_rfl)) (by kernel_rfl) (by rw [Try.underlying115]))
 key := fun l r hl hr => key_pair Try.underlying115 prim_n1 prim_n2 rfl rfl Try.underlying3 rfl rfl prim_cells int_cells prim_kt types_two l r hl hr
 ht := Try.underlying113
 he := Try.underlying3
 hz := fun w => by kernel_rfl
end
section
open Go.RowKit
def rzG (g : GF) (l h z : Int) : GF := match g l h with
 | none => updG g l h z
 | some o => if z > o then updG g l h z else g
def iniG : Nat → GF
 | 0 => fun _ _ => none
 | v + 1 => updG (updG (iniG v) v v 0) 0 v 0
def badO (vars : Int) (o : Nd) : Bool := decide (o.op < 0) || decide (o.op > vars) || decide (o.b < 0) || decide (o.b > vars) || decide (o.a < -1000) || decide (o.a > 1000)
def ordG (vars : Int) : List Nd → GF → Option GF
 | [], g => some g
 | o :: r, g => if badO vars o then none else ordG vars r (rzG g o.op o.b o.a)
def stG (g : GF) (mid low high : Int) : GF := match g low mid, g mid high with
 | some a, some b => rzG g low high (wrap64 (a + b))
 | _, _ => g
def rowG (mid low : Int) : Nat → GF → GF
 | 0, g => g
 | k + 1, g => stG (rowG mid low k g) mid low k
def midG (N : Nat) (mid : Int) : Nat → GF → GF
 | 0, g => g
 | l + 1, g => rowG mid l N (midG N mid l g)
def cycG (g : GF) : Nat → Bool
 | 0 => false
 | v + 1 => cycG g v || decide ((g v v).getD 0 > 0)
def runG (N : Nat) : Nat → Nat → GF → Option GF
 | 0, _, g => some g
 | r + 1, mid, g => if cycG (midG N mid N g) N then none else runG N r (mid + 1) (midG N mid N g)
def clR (vars : Int) (os : List Nd) : Int × GF :=
 if vars < 0 ∨ 16 < vars then (1, fun _ _ => none)
 else if 64 < os.length then (5, fun _ _ => none)
 else match ordG vars os (iniG (vars.toNat + 1)) with
  | none => (1, fun _ _ => none)
  | some g => match runG (vars.toNat + 1) (vars.toNat + 1) 0 g with
   | none => (7, fun _ _ => none)
   | some g => (0, g)
theorem wf_small {z : Int} (h1 : -9223372036854775808 ≤ z) (h2 : z ≤ 9223372036854775807) : (Lit.int .i64 z).wf = true := WalkArith.wf_i64 ⟨h1, h2⟩
theorem grown_trans {w w1 w2 : World} {row : Option Nat} (h1 : w.grownBy w1 row) (h2 : w1.grownBy w2 row) : w.grownBy w2 row := by
 refine ⟨h2.os.trans h1.os, h2.tape.trans h1.tape, h2.output.trans h1.output, Nat.le_trans h1.size h2.size, fun k hk hr => ?_⟩
 exact (h2.block k (Nat.lt_of_lt_of_le hk h1.size) hr).trans (h1.block k hk hr)
abbrev MapE (w : World) (b n : Nat) (g : GF) : Prop := MapG Try.prog 137 3 w b n g
def RaiseP (w : World) (b n : Nat) (g : GF) (e : Ending) (w' : World) : Prop := e = .returned (.tuple #[]) ∧ MapE w' b n g ∧ w.grownBy w' (some b)
theorem raise_any {w : World} {b n : Nat} {g : GF} (hm : MapE w b n g) (hn : n < 100000) (l h z : Int) (hl : (Lit.int .i64 l).wf = true) (hh : (Lit.int .i64 h).wf = true) (hz : (Lit.int .i64 z).wf = true) :
 Calls Try.prog 90 #[.map (some b), .agg #[.int .i64 l, .int .i64 h], .int .i64 z] w (RaiseP w b (n + 1) (rzG g l h z)) := by
 have HM := hid (hm.alloc (.cells #[.int .i64 l, .int .i64 h] 137))
 have HL := hid hl
 have HH := hid hh
 have HZ := hid hz
 have HG0 := hid (World.grownBy_alloc w (.cells #[.int .i64 l, .int .i64 h] 137) (some b))
 have hlt := hm.lt
 cases hg : g l h with
 | none =>
  have HR : Hid (rzG g l h z = updG g l h z) := hid (by unfold rzG; rw [hg])
  clear hm hl hh hz
  go_in
  go_wp2_with (first
   | (at_lookup; go_loud (refine wpList_lookG_ok (t := 106) rfl (.tmp 9) (.tmp 10) rfl edgeKey rfl HM.out l h rfl HL.out HH.out ?_))
   | (at_mapUpdate; go_loud (refine wpList_setG (t := 106) rfl (.tmp 21) (.tmp 22) (.tmp 23) rfl edgeKey rfl HM.out (by omega) l h z rfl HL.out HH.out rfl HZ.out ?_); intro w3 hm3 hg3))
  refine bodyPost_end (results_none rfl _ _ _) rfl ⟨rfl, ?_, grown_trans HG0.out hg3⟩
  rw [HR.out]
  exact hm3
 | some o =>
  by_cases hgt : z > o
  · have HR : Hid (rzG g l h z = updG g l h z) := hid (by unfold rzG; rw [hg]; simp only; rw [if_pos hgt])
    have hb : decide (z > o) = true := decide_eq_true hgt
    clear hm hl hh hz hgt
    go_in
    go_wp2_with (first
     | (at_lookup; go_loud (refine wpList_lookG_ok (t := 106) rfl (.tmp 9) (.tmp 10) rfl edgeKey rfl HM.out l h rfl HL.out HH.out ?_))
     | (at_mapUpdate; go_loud (refine wpList_setG (t := 106) rfl (.tmp 21) (.tmp 22) (.tmp 23) rfl edgeKey rfl HM.out (by omega) l h z rfl HL.out HH.out rfl HZ.out ?_); intro w3 hm3 hg3))
    refine bodyPost_end (results_none rfl _ _ _) rfl ⟨rfl, ?_, grown_trans HG0.out hg3⟩
    rw [HR.out]
    exact hm3
  · have HR : Hid (rzG g l h z = g) := hid (by unfold rzG; rw [hg]; simp only; rw [if_neg hgt])
    have hb : decide (z > o) = false := decide_eq_false hgt
    clear hm hl hh hz hgt
    go_in
    go_wp2_with (first
     | (at_lookup; go_loud (refine wpList_lookG_ok (t := 106) rfl (.tmp 9) (.tmp 10) rfl edgeKey rfl HM.out l h rfl HL.out HH.out ?_)))
    refine bodyPost_end (results_none rfl _ _ _) rfl ⟨rfl, ?_, HG0.out⟩
    rw [HR.out]
    exact HM.out.mono (by omega)
end
section
open Go.RowKit
def ClosedP (r : Int × GF) (w : World) (e : Ending) (w' : World) : Prop := ∃ v, e = .returned (.tuple #[v, .int .i64 r.1]) ∧ (r.1 = 0 → ∃ b n, v = .map (some b) ∧ w.heap.size ≤ b ∧ n ≤ 50000 ∧ MapE w' b n r.2) ∧ Below w.heap.size w w'
theorem grown_ge {w wr w2 : World} {b : Nat} (h : Below w.heap.size w wr) (hb : w.heap.size ≤ b) (hg : wr.grownBy w2 (some b)) : Below w.heap.size w w2 := h.grown hg h.size (fun g e => by injection e with e; omega)
theorem wf_wrap (z : Int) : (Lit.int .i64 (wrap64 z)).wf = true := by
 refine WalkArith.wf_i64 ?_
 unfold wrap64
 omega
theorem stG_some {g : GF} {mid low high a b : Int} (h1 : g low mid = some a) (h2 : g mid high = some b) : stG g mid low high = rzG g low high (wrap64 (a + b)) := by unfold stG; rw [h1, h2]
theorem stG_none1 {g : GF} {mid low high : Int} (h1 : g low mid = none) : stG g mid low high = g := by unfold stG; rw [h1]
theorem stG_none2 {g : GF} {mid low high : Int} (h2 : g mid high = none) : stG g mid low high = g := by unfold stG; rw [h2]; cases g low mid <;> rfl
theorem bad_split {vars : Int} {o : Nd} (h : badO vars o = true) : (o.op < 0) ∨ (¬ o.op < 0 ∧ o.op > vars) ∨ (¬ o.op < 0 ∧ ¬ o.op > vars ∧ o.b < 0) ∨ (¬ o.op < 0 ∧ ¬ o.op > vars ∧ ¬ o.b < 0 ∧ o.b > vars) ∨ (¬ o.op < 0 ∧ ¬ o.op > vars ∧ ¬ o.b < 0 ∧ ¬ o.b > vars ∧ o.a < -1000) ∨ (¬ o.op < 0 ∧ ¬ o.op > vars ∧ ¬ o.b < 0 ∧ ¬ o.b > vars ∧ ¬ o.a < -1000 ∧ o.a > 1000) := by
 simp only [badO, Bool.or_eq_true, decide_eq_true_eq] at h
 omega
theorem bad_not {vars : Int} {o : Nd} (h : badO vars o = false) : ¬ o.op < 0 ∧ ¬ o.op > vars ∧ ¬ o.b < 0 ∧ ¬ o.b > vars ∧ ¬ o.a < -1000 ∧ ¬ o.a > 1000 := by
 simp only [badO, Bool.or_eq_false_iff, decide_eq_false_iff_not] at h
 omega
theorem runG_succ {N r mid : Nat} {g : GF} : runG N (r + 1) mid g = if cycG (midG N mid N g) N then none else runG N r (mid + 1) (midG N mid N g) := rfl
theorem cyc_mono {g : GF} {k : Nat} : ∀ {m : Nat}, k ≤ m → cycG g k = true → cycG g m = true
 | 0, h, hc => by obtain rfl : k = 0 := by omega
                  exact hc
 | m + 1, h, hc => by
  rcases Nat.lt_or_ge k (m + 1) with h1 | h1
  · simp only [cycG]
    rw [cyc_mono (m := m) (by omega) hc, Bool.true_or]
  · obtain rfl : k = m + 1 := by omega
    exact hc
set_option linter.unusedSimpArgs false in
set_option linter.unusedVariables false in
theorem closed_any {vars : Int} {A : Option Addr} {n c : Nat} {os : List Nd} {w : World} (hv : (Lit.int .i64 vars).wf = true) (ht : TermV w A n c os) :
 Calls Try.prog 57 #[.int .i64 vars, .slice A n c] w (ClosedP (clR vars os) w) := by
 have hlen := ht.len
 have hnf := ht.few
 by_cases h1 : vars < 0 ∨ 16 < vars
 · have HR : Hid (clR vars os = (1, fun _ _ => none)) := hid (by unfold clR; rw [if_pos h1])
   clear ht hlen hv
   by_cases h0 : vars < 0
   · have hb : decide (vars < 0) = true := decide_eq_true h0
     clear h1 h0
     go_in
     go_wp2_with fail
     go_ret2
     rw [HR.out]
     exact ⟨_, rfl, fun e => (by cases e), Below.refl _ _⟩
   have hb : decide (vars < 0) = false := decide_eq_false h0
   have hb2 : decide (vars > 16) = true := decide_eq_true (by omega)
   clear h1 h0
   go_in
   go_wp2_with fail
   go_ret2
   rw [HR.out]
   exact ⟨_, rfl, fun e => (by cases e), Below.refl _ _⟩
 have hb : decide (vars < 0) = false := decide_eq_false (by omega)
 have hb2 : decide (vars > 16) = false := decide_eq_false (by omega)
 by_cases h64 : 64 < os.length
 · have HR : Hid (clR vars os = (5, fun _ _ => none)) := hid (by unfold clR; rw [if_neg h1, if_pos h64])
   have hb3 : decide ((n : Int) > 64) = true := decide_eq_true (by omega)
   clear ht hlen hv h1
   go_in
   go_wp2_with fail
   go_ret2
   rw [HR.out]
   exact ⟨_, rfl, fun e => (by cases e), Below.refl _ _⟩
 have hb3 : decide ((n : Int) > 64) = false := decide_eq_false (by omega)
 have HR : Hid (clR vars os = match ordG vars os (iniG (vars.toNat + 1)) with
  | none => (1, fun _ _ => none)
  | some g => match runG (vars.toNat + 1) (vars.toNat + 1) 0 g with
   | none => (7, fun _ _ => none)
   | some g => (0, g)) := hid (by unfold clR; rw [if_neg h1, if_neg h64]; try rfl)
 obtain ⟨vn, rfl⟩ : ∃ vn : Nat, vars = (vn : Int) := ⟨vars.toNat, by omega⟩
 rw [Int.toNat_natCast] at HR
 have hvn : vn ≤ 16 := by omega
 have hn64 : n ≤ 64 := by omega
 have HT := hid (fun (w' : World) (h : Below w.heap.size w w') => ht.below h)
 have HL := hid hlen
 obtain ⟨res, hres⟩ : ∃ res, res = clR (vn : Int) os := ⟨_, rfl⟩
 rw [← hres] at HR ⊢
 have HM0 := hid (MapG.made w Try.prog 137 3)
 have HB0 := hid (below_alloc w (.map #[] 0))
 have hmm := @run_makeMap Try.prog
 clear hres ht hlen hv h1 h64
 go_in
 go_wp2_with fail
 go_loopw [30] (fun iv wr => ∃ v : Nat, iv = .int .i64 (v : Int) ∧ v ≤ vn + 1 ∧ Hid (MapE wr w.heap.size (2 * v) (iniG v)) ∧ Hid (Below w.heap.size w wr)) (fun i _ => vn + 1 - (intOf i).toNat)
 case atStart => exact ⟨0, rfl, by omega, HM0, HB0⟩
 case round =>
  obtain ⟨v, rfl, hvl, hm, hbw⟩ := hrel
  by_cases hlt : v < vn + 1
  · have hvb : decide ((v : Int) < (vn : Int) + 1) = true := decide_eq_true (by omega)
    have tok1 : True := trivial
    go_wp2_with (first
     | (at_mapUpdate; have _t := tok1; go_loud (refine wpList_setG (t := 106) rfl (.tmp 33) (.tmp 36) _ rfl edgeKey rfl hm.out (by omega) (v : Int) (v : Int) 0 rfl (wf_small (by omega) (by omega)) (wf_small (by omega) (by omega)) rfl (wf_small (by omega) (by omega)) ?_); intro w2 hm2 hg2; have HM2 := hid hm2; have HB2 := hid (grown_ge hbw.out (Nat.le_refl _) hg2); clear tok1 _t hm2 hg2)
     | (at_mapUpdate; go_loud (refine wpList_setG (t := 106) rfl (.tmp 37) (.tmp 39) _ rfl edgeKey rfl HM2.out (by omega) 0 (v : Int) 0 rfl (wf_small (by omega) (by omega)) (wf_small (by omega) (by omega)) rfl (wf_small (by omega) (by omega)) ?_); intro w3 hm3 hg3; have HM3 := hid hm3; have HB3 := hid (grown_ge HB2.out (Nat.le_refl _) hg3); clear hm3 hg3))
    go_roundw
    case rel => exact ⟨v + 1, by go_num, by omega, hid (HM3.out.mono (by omega)), HB3⟩
    case measure => simp [intOf]; omega
  have hve : v = vn + 1 := by omega
  have hvb : decide ((v : Int) < (vn : Int) + 1) = false := decide_eq_false (by omega)
  rw [hve] at hm
  have hm : Hid (MapE wr w.heap.size (34 + 0) (iniG (vn + 1))) := hid (hm.out.mono (by omega))
  clear hve
  obtain ⟨w1, rfl⟩ : ∃ w1 : World, w1 = wr := ⟨_, rfl⟩
  go_wp2_with fail
  go_loopw [43] (fun iv wr => ∃ (i : Nat) (g : GF), iv = .int .i64 (i : Int) ∧ i ≤ n ∧ Hid (ordG (vn : Int) (os.drop i) g = ordG (vn : Int) os (iniG (vn + 1))) ∧ Hid (MapE wr w.heap.size (34 + i) g) ∧ Hid (Below w.heap.size w wr)) (fun i _ => n - (intOf i).toNat)
  case atStart => exact ⟨0, _, rfl, by omega, hid rfl, hm, hbw⟩
  case round =>
   clear hm hbw
   obtain ⟨i, g, rfl, hin, hord, hm, hbw⟩ := hrel
   by_cases hlti : i < n
   · have hib : decide ((i : Int) < (n : Int)) = true := decide_eq_true (by omega)
     obtain ⟨b, off, rfl, hbb, hc0, hc1, hc2⟩ := (HT.out wr hbw.out).at_ hlti
     have hil : i < os.length := by rw [HL.out]; exact hlti
     obtain ⟨o, ho⟩ : ∃ o, o = nth os i := ⟨_, rfl⟩
     rw [← ho] at hc0 hc1 hc2
     have hog := hord.out
     rw [List.drop_eq_getElem_cons hil, show os[i] = o from by rw [ho]; unfold nth; rw [List.getD_eq_getElem?_getD, List.getElem?_eq_getElem hil]; rfl] at hog
     have HBa := hid (hbw.out.trans ((below_alloc wr (.cells #[.int .i64 o.op, .int .i64 o.a, .int .i64 o.b] 139)).mono hbw.out.size))
     have HMa := hid (hm.out.alloc (.cells #[.int .i64 o.op, .int .i64 o.a, .int .i64 o.b] 139))
     by_cases hbad : badO (vn : Int) o = true
     · have HRES : Hid (res = (1, fun _ _ => none)) := hid (by
        rw [HR.out, ← hog]; simp only [ordG]; rw [if_pos hbad])
       have hsp := bad_split hbad
       generalize o.op = lo at *
       generalize o.a = ad at *
       generalize o.b = hi at *
       clear hog hbad ho
       rcases hsp with h | ⟨g1, h⟩ | ⟨g1, g2, h⟩ | ⟨g1, g2, g3, h⟩ | ⟨g1, g2, g3, g4, h⟩ | ⟨g1, g2, g3, g4, g5, h⟩
       all_goals
        (try have d1 := decide_eq_false g1)
        (try have d2 := decide_eq_false g2)
        (try have d3 := decide_eq_false g3)
        (try have d4 := decide_eq_false g4)
        (try have d5 := decide_eq_false g5)
        have d6 := decide_eq_true h
        (try clear g1)
        (try clear g2)
        (try clear g3)
        (try clear g4)
        (try clear g5)
        clear h
        go_wp2_with fail
        go_ret2
        rw [HRES.out]
        exact ⟨_, rfl, fun e => (by cases e), HBa.out⟩
     have hbf : badO (vn : Int) o = false := by simpa using hbad
     have HON : Hid (ordG (vn : Int) (os.drop (i + 1)) (rzG g o.op o.b o.a) = ordG (vn : Int) os (iniG (vn + 1))) := hid (by
      rw [← hog]; simp only [ordG]; rw [if_neg hbad])
     obtain ⟨g1, g2, g3, g4, g5, g6⟩ := bad_not hbf
     generalize o.op = lo at *
     generalize o.a = ad at *
     generalize o.b = hi at *
     have HC := hid (raise_any HMa.out (by omega) lo hi ad (wf_small (by omega) (by omega)) (wf_small (by omega) (by omega)) (wf_small (by omega) (by omega)))
     have d1 := decide_eq_false g1
     have d2 := decide_eq_false g2
     have d3 := decide_eq_false g3
     have d4 := decide_eq_false g4
     have d5 := decide_eq_false g5
     have d6 := decide_eq_false g6
     clear hog hbad hbf ho g1 g2 g3 g4 g5 g6
     go_wp2_with fail
     refine (HC.out).mono ?_
     rintro e w3 ⟨rfl, hm3, hg3⟩
     have HM3 := hid hm3
     have HB3 := hid (grown_ge HBa.out (Nat.le_refl _) hg3)
     clear hm3 hg3
     go_wp2_with fail
     go_roundw
     case rel => exact ⟨i + 1, _, by go_num, by omega, HON, hid (HM3.out.mono (by omega)), HB3⟩
     case measure => simp [intOf]; omega
   obtain rfl : i = n := by omega
   have hib : decide ((i : Int) < (i : Int)) = false := decide_eq_false (by omega)
   have hog := hord.out
   rw [← HL.out, List.drop_length] at hog
   have HR2 : Hid (res = match runG (vn + 1) (vn + 1) 0 g with
    | none => (7, fun _ _ => none)
    | some g => (0, g)) := hid (by rw [HR.out, ← hog]; rfl)
   obtain ⟨w2, rfl⟩ : ∃ w2 : World, w2 = wr := ⟨_, rfl⟩
   obtain ⟨g0, hg0⟩ : ∃ g0 : GF, g0 = g := ⟨_, rfl⟩
   rw [← hg0] at HR2 hm
   clear hog hord hg0
   go_wp2_with fail
   go_loopw [89] (fun iv wr => ∃ (m : Nat) (g : GF), iv = .int .i64 (m : Int) ∧ m ≤ vn + 1 ∧ Hid (runG (vn + 1) (vn + 1 - m) m g = runG (vn + 1) (vn + 1) 0 g0) ∧ Hid (MapE wr w.heap.size (100 + 400 * m) g) ∧ Hid (Below w.heap.size w wr)) (fun i _ => vn + 1 - (intOf i).toNat)
   case atStart => exact ⟨0, g0, rfl, by omega, hid rfl, hid (hm.out.mono (by omega)), hbw⟩
   case round =>
    clear hm hbw
    obtain ⟨m, g, rfl, hml, hrun, hm, hbw⟩ := hrel
    by_cases hltm : m < vn + 1
    rotate_left
    · have hme : m = vn + 1 := by omega
      have hmb : decide ((m : Int) < (vn : Int) + 1) = false := decide_eq_false (by omega)
      have HRES : Hid (res = (0, g)) := hid (by
       have := hrun.out
       rw [show vn + 1 - m = 0 from by omega] at this
       rw [HR2.out, ← this]; rfl)
      have hmb2 : 100 + 400 * m ≤ 50000 := by omega
      clear hme
      go_wp2_with fail
      go_ret2
      rw [HRES.out]
      exact ⟨_, rfl, fun _ => ⟨_, _, rfl, Nat.le_refl _, by omega, hm.out⟩, hbw.out⟩
    have hmb : decide ((m : Int) < (vn : Int) + 1) = true := decide_eq_true (by omega)
    obtain ⟨w3, rfl⟩ : ∃ w3 : World, w3 = wr := ⟨_, rfl⟩
    obtain ⟨gm, hgm⟩ : ∃ gm : GF, gm = g := ⟨_, rfl⟩
    rw [← hgm] at hrun hm
    clear hgm
    have hru := hrun.out
    rw [show vn + 1 - m = (vn + 1 - (m + 1)) + 1 from by omega] at hru
    rw [runG_succ (r := vn + 1 - (m + 1))] at hru
    have HRU := hid hru
    clear hru hrun
    go_wp2_with fail
    go_loopw [94] (fun iv wr => ∃ (l : Nat), iv = .int .i64 (l : Int) ∧ l ≤ vn + 1 ∧ Hid (MapE wr w.heap.size (100 + 400 * m + 17 * l) (midG (vn + 1) m l gm)) ∧ Hid (Below w.heap.size w wr)) (fun i _ => vn + 1 - (intOf i).toNat)
    case atStart => exact ⟨0, rfl, by omega, hid (hm.out.mono (by omega)), hbw⟩
    case round =>
     clear hm hbw
     obtain ⟨l, rfl, hll, hm, hbw⟩ := hrel
     by_cases hltl : l < vn + 1
     rotate_left
     · have hle : l = vn + 1 := by omega
       have hlb : decide ((l : Int) < (vn : Int) + 1) = false := decide_eq_false (by omega)
       rw [hle] at hm
       have hm : Hid (MapE wr w.heap.size (100 + 400 * m + 17 * 17) (midG (vn + 1) m (vn + 1) gm)) := hid (hm.out.mono (by omega))
       clear hle
       obtain ⟨w4, rfl⟩ : ∃ w4 : World, w4 = wr := ⟨_, rfl⟩
       obtain ⟨gl, hgl⟩ : ∃ gl : GF, gl = midG (vn + 1) m (vn + 1) gm := ⟨_, rfl⟩
       rw [← hgl] at hm HRU
       clear hgl
       go_wp2_with fail
       go_loopw [134] (fun iv wr => ∃ (k : Nat), iv = .int .i64 (k : Int) ∧ k ≤ vn + 1 ∧ Hid (cycG gl k = false) ∧ wr = w4) (fun i _ => vn + 1 - (intOf i).toNat)
       case atStart => exact ⟨0, rfl, by omega, hid rfl, rfl⟩
       case round =>
        obtain ⟨k, rfl, hkl, hcy, rfl⟩ := hrel
        by_cases hltk : k < vn + 1
        · have hkb : decide ((k : Int) < (vn : Int) + 1) = true := decide_eq_true (by omega)
          by_cases hpos : (gl k k).getD 0 > 0
          · have hpb : decide ((gl k k).getD 0 > 0) = true := decide_eq_true hpos
            have HCY : Hid (cycG gl (vn + 1) = true) := hid (cyc_mono (k := k + 1) (by omega) (by simp only [cycG]; rw [hpb, Bool.or_true]))
            have HRES : Hid (res = (7, fun _ _ => none)) := hid (by rw [HR2.out, ← HRU.out, if_pos HCY.out])
            clear hpos
            go_wp2_with (first
             | (at_lookup; go_loud (refine wpList_lookG (t := 106) rfl (.tmp 137) (.tmp 140) rfl edgeKey rfl hm.out (k : Int) (k : Int) rfl (wf_small (by omega) (by omega)) (wf_small (by omega) (by omega)) ?_)))
            go_ret2
            rw [HRES.out]
            exact ⟨_, rfl, fun e => (by cases e), hbw.out⟩
          have hpb : decide ((gl k k).getD 0 > 0) = false := decide_eq_false hpos
          have HCY : Hid (cycG gl (k + 1) = false) := hid (by simp only [cycG]; rw [hpb, hcy.out]; rfl)
          clear hpos
          go_wp2_with (first
           | (at_lookup; go_loud (refine wpList_lookG (t := 106) rfl (.tmp 137) (.tmp 140) rfl edgeKey rfl hm.out (k : Int) (k : Int) rfl (wf_small (by omega) (by omega)) (wf_small (by omega) (by omega)) ?_)))
          go_roundw
          case rel => exact ⟨k + 1, by go_num, by omega, HCY, trivial⟩
          case measure => simp [intOf]; omega
        have hke : k = vn + 1 := by omega
        have hkb : decide ((k : Int) < (vn : Int) + 1) = false := decide_eq_false (by omega)
        rw [hke] at hcy
        clear hke
        have HRN : Hid (runG (vn + 1) (vn + 1 - (m + 1)) ((m + 1 : Nat)) gl = runG (vn + 1) (vn + 1) 0 g0) := hid (by
         rw [← HRU.out, if_neg (by rw [hcy.out]; decide)])
        have HMN := hid (hm.out.mono (m := 100 + 400 * (m + 1)) (by omega))
        clear hm
        go_wp2_with fail
        go_roundw
        case rel => exact ⟨m + 1, gl, by go_num, by omega, HRN, HMN, hbw⟩
        case measure => simp [intOf]; omega
     have hlb : decide ((l : Int) < (vn : Int) + 1) = true := decide_eq_true (by omega)
     obtain ⟨w4, rfl⟩ : ∃ w4 : World, w4 = wr := ⟨_, rfl⟩
     obtain ⟨gl, hgl⟩ : ∃ gl : GF, gl = midG (vn + 1) m l gm := ⟨_, rfl⟩
     rw [← hgl] at hm
     have HGL := hid hgl
     clear hgl
     go_wp2_with fail
     go_loopw [99] (fun iv wr => ∃ (k : Nat), iv = .int .i64 (k : Int) ∧ k ≤ vn + 1 ∧ Hid (MapE wr w.heap.size (100 + 400 * m + 17 * l + k) (rowG m l k gl)) ∧ Hid (Below w.heap.size w wr)) (fun i _ => vn + 1 - (intOf i).toNat)
     case atStart => exact ⟨0, rfl, by omega, hid (hm.out.mono (by omega)), hbw⟩
     case round =>
      clear hm hbw
      obtain ⟨k, rfl, hkl, hm, hbw⟩ := hrel
      by_cases hltk : k < vn + 1
      rotate_left
      · have hke : k = vn + 1 := by omega
        have hkb : decide ((k : Int) < (vn : Int) + 1) = false := decide_eq_false (by omega)
        rw [hke] at hm
        clear hke
        have HML : Hid (MapE wr w.heap.size (100 + 400 * m + 17 * (l + 1)) (midG (vn + 1) m (l + 1) gm)) := hid (by
         show MapE _ _ _ (rowG m l (vn + 1) (midG (vn + 1) m l gm))
         rw [← HGL.out]
         exact hm.out.mono (by omega))
        clear hm
        go_wp2_with fail
        go_roundw
        case rel => exact ⟨l + 1, by go_num, by omega, HML, hbw⟩
        case measure => simp [intOf]; omega
      have hkb : decide ((k : Int) < (vn : Int) + 1) = true := decide_eq_true (by omega)
      obtain ⟨gk, hgk⟩ : ∃ gk : GF, gk = rowG m l k gl := ⟨_, rfl⟩
      rw [← hgk] at hm
      have HGK : Hid (rowG m l (k + 1) gl = stG gk m l k) := hid (by rw [hgk]; rfl)
      clear hgk
      cases hx : gk (l : Int) (m : Int) with
      | none =>
       have HSN : Hid (rowG m l (k + 1) gl = gk) := hid (by rw [HGK.out, stG_none1 hx])
       have tok1 : True := trivial
       go_wp2_with (first
        | (at_lookup; have _t := tok1; go_loud (refine wpList_lookG_ok (t := 106) rfl (.tmp 103) (.tmp 106) rfl edgeKey rfl hm.out (l : Int) (m : Int) rfl (wf_small (by omega) (by omega)) (wf_small (by omega) (by omega)) ?_); clear tok1 _t)
        | (at_lookup; go_loud (refine wpList_lookG_ok (t := 106) rfl (.tmp 111) (.tmp 114) rfl edgeKey rfl hm.out (m : Int) (k : Int) rfl (wf_small (by omega) (by omega)) (wf_small (by omega) (by omega)) ?_)))
       go_roundw
       case rel => exact ⟨k + 1, by go_num, by omega, hid (by rw [HSN.out]; exact hm.out.mono (by omega)), hbw⟩
       case measure => simp [intOf]; omega
      | some xa =>
       cases hy : gk (m : Int) (k : Int) with
       | none =>
        have HSN : Hid (rowG m l (k + 1) gl = gk) := hid (by rw [HGK.out, stG_none2 hy])
        have tok1 : True := trivial
        go_wp2_with (first
         | (at_lookup; have _t := tok1; go_loud (refine wpList_lookG_ok (t := 106) rfl (.tmp 103) (.tmp 106) rfl edgeKey rfl hm.out (l : Int) (m : Int) rfl (wf_small (by omega) (by omega)) (wf_small (by omega) (by omega)) ?_); clear tok1 _t)
         | (at_lookup; go_loud (refine wpList_lookG_ok (t := 106) rfl (.tmp 111) (.tmp 114) rfl edgeKey rfl hm.out (m : Int) (k : Int) rfl (wf_small (by omega) (by omega)) (wf_small (by omega) (by omega)) ?_)))
        go_roundw
        case rel => exact ⟨k + 1, by go_num, by omega, hid (by rw [HSN.out]; exact hm.out.mono (by omega)), hbw⟩
        case measure => simp [intOf]; omega
       | some ya =>
        have HSN : Hid (rowG m l (k + 1) gl = rzG gk l k (wrap64 (xa + ya))) := hid (by rw [HGK.out, stG_some hx hy])
        have HC := hid (raise_any hm.out (by omega) (l : Int) (k : Int) (wrap64 (xa + ya)) (wf_small (by omega) (by omega)) (wf_small (by omega) (by omega)) (wf_wrap _))
        have tok1 : True := trivial
        go_wp2_with (first
         | (at_lookup; have _t := tok1; go_loud (refine wpList_lookG_ok (t := 106) rfl (.tmp 103) (.tmp 106) rfl edgeKey rfl hm.out (l : Int) (m : Int) rfl (wf_small (by omega) (by omega)) (wf_small (by omega) (by omega)) ?_); clear tok1 _t)
         | (at_lookup; go_loud (refine wpList_lookG_ok (t := 106) rfl (.tmp 111) (.tmp 114) rfl edgeKey rfl hm.out (m : Int) (k : Int) rfl (wf_small (by omega) (by omega)) (wf_small (by omega) (by omega)) ?_)))
        refine (HC.out).mono ?_
        rintro e w5 ⟨rfl, hm5, hg5⟩
        have HM5 := hid hm5
        have HB5 := hid (grown_ge hbw.out (Nat.le_refl _) hg5)
        clear hm5 hg5
        go_wp2_with fail
        go_roundw
        case rel => exact ⟨k + 1, by go_num, by omega, hid (by rw [HSN.out]; exact HM5.out.mono (by omega)), HB5⟩
        case measure => simp [intOf]; omega
theorem check_any {vars : Int} {A : Option Addr} {n c : Nat} {os : List Nd} {w : World} (hv : (Lit.int .i64 vars).wf = true) (ht : TermV w A n c os) :
 Calls Try.prog 36 #[.int .i64 vars, .slice A n c] w (ErrP (clR vars os).1 w) := by
 have HC := hid (closed_any hv ht)
 generalize (clR vars os) = res at *
 clear ht hv
 go_in
 go_wp2_with fail
 refine (HC.out).mono ?_
 rintro e w2 ⟨v, rfl, _, hb2⟩
 have HB2 := hid hb2
 clear hb2
 go_wp2_with fail
 go_ret
 exact ⟨rfl, HB2.out⟩
end
end Go.Proofs.Ytjoddliplahgkaa
