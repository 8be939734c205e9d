/- Binders of the reference. -/
import Derived.Test.YtnmeglbamfjcgaaRefOf
import Derived.Test.YtnmeglbamfjcgaaTermP4
import Derived.Test.YtnmeglbamfjcgaaLists
import Derived.Test.YtnmeglbamfjcgaaRow
import Derived.Test.YtnmeglbamfjcgaaRaise
namespace Go.Proofs.Ytnmeglbamfjcgaa
open Go.RowKit

/-- What stands first in a row, and its kids; of a wrong row none. -/
def topOf (l : List Nd) : Nd × Fo := if shapeI l = 0 then (match pp [false] l with | some (.cons _ n _ k _, _) => (n, k) | _ => (⟨0, 0, 0⟩, .nil)) else (⟨0, 0, 0⟩, .nil)
def arL (pop pb : Int) : Nat → Fo → List Int
  | _, .nil => []
  | j, .cons _ _ _ _ x => aroundI pop pb j :: arL pop pb (j + 1) x
theorem arL_app (pop pb : Int) : ∀ (j : Nat) (F G : Fo), arL pop pb j (F.app G) = arL pop pb j F ++ arL pop pb (j + flen F) G
  | _, .nil, G => by simp [Fo.app, arL, flen]
  | j, .cons p n a k x, G => by
    simp only [Fo.app, arL, flen, List.cons_append]
    rw [arL_app pop pb (j + 1) x G, show j + 1 + flen x = j + (flen x + 1) from by omega]
theorem arL_len (pop pb : Int) : ∀ (j : Nat) (F : Fo), (arL pop pb j F).length = flen F
  | _, .nil => rfl
  | j, .cons p n a k x => by simp only [arL, flen, List.length_cons, arL_len pop pb (j + 1) x]

theorem tree_none (R : Nat → Prop) (w : World) : TreeC R w [.int .i64 0, .int .i64 0, .int .i64 0, .slice none 0 0, .slice none 0 0, .slice none 0 0] ⟨0, 0, 0⟩ [] .nil :=
  ⟨_, _, _, rfl, ⟨none, 0, 0, rfl, rfl, Nat.le_refl _, fun h => absurd h (by omega)⟩, TermS.nil R w, TermS.nil R w⟩
theorem refTop_any {A : Option Addr} {nn c : Nat} {l : List Nd} {w : World} (h : TermV w A nn c l) :
    Calls Try.prog 48 #[.slice A nn c] w fun e w' => Below w.heap.size w w' ∧ ∃ xs ats b, e = .returned (.tuple #[.agg xs.toArray, .bool b]) ∧ TreeC (fresh w w') w' xs (topOf l).1 ats (topOf l).2 ∧ flen (topOf l).2 ≤ 4096 ∧ PreOk (decide ((topOf l).1.op = 12)) 0 (topOf l).2 := by
  refine (refOf_any h).mono ?_
  rintro e w' ⟨hb, ⟨hs, rfl⟩ | ⟨xs, n, ats, k, rfl, ht, hpp, hs⟩⟩
  · have e : topOf l = (⟨0, 0, 0⟩, .nil) := if_neg hs
    rw [e]
    exact ⟨hb, _, [], false, rfl, tree_none _ _, by simp [flen], trivial⟩
  · have e : topOf l = (n, k) := by
      unfold topOf
      rw [if_pos hs, hpp]
    rw [e]
    obtain ⟨_, _, _, _, hpre, _, _, hfs⟩ := right_row hs hpp
    have := flen_le_fsize k
    exact ⟨hb, xs, ats, true, rfl, ht, by simp only; omega, hpre⟩

theorem oper_append_one {P : Program} {o : Oper} {a : Act} {w : World} {K : Act → World → Prop} {Q : Exit → Act → World → Prop}
    (s x : Operand) (t e : TypeId) (hop : o.op = Op.call { callee := Callee.builtin Builtin.append, args := #[s, x], argTypes := #[t, t] })
    (base : Nat) (i : TypeInfo) (z : Value) (bytes : Nat) (h1 : P.underlying t = some (.slice e)) (h2 : P.info? e = some i) (h3 : i.zero = some z) (h4 : i.size = 1) (h5 : i.bytes = bytes) (h6 : z.cells.size = 1) (hby : bytes ≤ 24)
    (v : Value) (n : Nat) (xs : List Value) (u : Value) (hone : u.oneCell' = true) (W : World) (hW : w = W.alloc (.cells #[u] e)) (hs : a.eval s = v) (hown : W.ownsRow base e 1 v n xs)
    (g : Nat) (hx : a.eval x = .slice (some ⟨g, 0, none⟩) 1 1) (hgW : g = W.heap.size) (b1 : n + 1 ≤ 1000000000) (b3 : base ≤ W.heap.size)
    (hK : ∀ A' c' w', Appended W w' base e 1 v A' (n + 1) c' (xs ++ [u]) → K (a.put o.dst (.slice A' (n + 1) c')) w') : Oper.wp P o a w K Q := by
  subst hW
  subst hgW
  refine oper_append_mine s x t hop base _ i _ 1 bytes h1 h2 h3 h4 h5 h6 (by decide) v n xs hs (World.ownsRow.alloc hown _) _ 1 1 [u] hx (by simp) (fun e => by cases e) (fun ad e j u' hu => ?_) (fun q hq => by simp at hq; subst hq; exact hone) (by unfold maxLen; omega) ?_ (by simp; omega) ?_
  · injection e with e
    subst e
    have ea : (⟨W.heap.size, 0, none⟩ : Addr).add j = ⟨W.heap.size, j, none⟩ := by unfold Addr.add; split <;> simp_all
    rw [ea, World.cell?_alloc_new, ← hu]
    simp
  · exact Nat.le_trans (Nat.mul_le_mul b1 hby) (by decide)
  · intro A' c' w' h
    refine hK A' c' w' ⟨h.own, ?_, fun g hg => (h.new g hg).imp id (fun hh => by simp at hh; omega)⟩
    refine ⟨h.grown.os, h.grown.tape, h.grown.output, Nat.le_trans (by simp) h.grown.size, fun k hk hne => ?_⟩
    rw [h.grown.block k (by simp; omega) hne]
    exact Below.heap_alloc _ _ _ hk
theorem infoI : (Try.prog.info? 3).map (fun i => (i.zero, i.size, i.bytes)) = some (some (.int .i64 0), 1, 8) := by kernel_rfl

theorem own_ints {w : World} {base n c : Nat} {A : Option Addr} {zs : List Int} (h : w.ownsRow base 3 1 (.slice A n c) n (zs.map (Value.int .i64))) (hn : n = zs.length) (hf : n ≤ 5864062014805) : IntsR (· < w.heap.size) w A n c zs := by
  refine ⟨hn.symm, hf, fun hpos => ?_⟩
  have h0 := h
  obtain ⟨_, hcase⟩ := h
  rcases hcase with ⟨_, h2⟩ | ⟨g, cap', cur, hv, hg, hh, _⟩
  · omega
  · injection hv with e1 e2 e3
    subst e1
    refine ⟨g, 0, rfl, (ownsRow_block h0 rfl).2.1, fun k hk => ?_⟩
    rw [Nat.zero_add, h0.cellAt k (by omega)]
    have : k < zs.length := by omega
    simp [List.getElem?_eq_getElem this]

def IntsPost (zs : List Int) (w : World) (e : Ending) (w' : World) : Prop := Below w.heap.size w w' ∧ ∃ A n c, e = .returned (.slice A n c) ∧ IntsR (· < w'.heap.size) w' A n c zs

set_option maxRecDepth 100000 in
set_option maxHeartbeats 2000000 in
theorem refBinders_any {A : Option Addr} {nn c : Nat} {l : List Nd} {w : World} (h : TermV w A nn c l) :
    Calls Try.prog 33 #[.slice A nn c] w (IntsPost (arL (topOf l).1.op (topOf l).1.b 0 (topOf l).2) w) := by
  obtain ⟨i0, hi, hy0, hy1, hy2⟩ := info_parts infoI
  have HI0 := Lib.hid hi
  have HY0 := Lib.hid hy0
  have HY1 := Lib.hid hy1
  have HY2 := Lib.hid hy2
  clear hi hy0 hy1 hy2
  go_enter Try.func33, Try.ntmps33
  go_wp2_with fail
  refine (refTop_any h).mono ?_
  rintro e w2 ⟨hb2, xs, ats, b, rfl, ht, hfl, hpre⟩
  rcases htop : topOf l with ⟨n, kids⟩
  rw [htop] at ht hfl hpre
  simp only at ht hfl hpre
  have HTOP := Lib.hid htop
  clear htop
  have HT := Lib.hid ht
  obtain ⟨sk, sa, sf, rfl, ⟨Ak, nk, ck, rfl, hkk⟩, ⟨Aa, na, ca, rfl, haa⟩, ⟨Af, nf, cf, rfl, hff⟩⟩ := ht
  have HKL := Lib.hid hkk.len
  have hnk : nk ≤ 4096 := by have := hkk.len; omega
  have HB2 := Lib.hid hb2
  have HB3 := Lib.hid (hb2.alloc hb2.size (.cells #[.int .i64 n.op, .int .i64 n.a, .int .i64 n.b, .slice Ak nk ck, .slice Aa na ca, .slice Af nf cf] 64))
  clear hb2 haa hff hkk hpre hfl
  go_wp2_with fail
  go_loopw [5, 6] (fun v i wr => ∃ (F1 F2 : Fo) (j : Nat) (A1 : Option Addr) (k1 : Nat), kids = F1.app F2 ∧ flen F1 = j ∧ v = .slice A1 j k1 ∧ i = .int .i64 (j : Int) ∧ Below w.heap.size w wr ∧
      Blk wr w2.heap.size 64 #[.int .i64 n.op, .int .i64 n.a, .int .i64 n.b, .slice Ak nk ck, .slice Aa na ca, .slice Af nf cf] ∧
      wr.ownsRow (w2.heap.size + 1) 3 1 (.slice A1 j k1) j ((arL n.op n.b 0 F1).map (Value.int .i64))) (fun _ i _ => nk - (intOf i).toNat)
  case atStart => exact ⟨.nil, kids, 0, none, 0, rfl, rfl, rfl, rfl, HB3.out, Blk.new _ _ _, World.ownsRow_nil _ _ _ _⟩
  case round =>
    obtain ⟨F1, F2, j, A1, k1, hk, hj, rfl, rfl, hbw, hblk, hown⟩ := hrel
    have HK := Lib.hid hk
    have HJ := Lib.hid hj
    have zc := Blk.cell hblk
    have hszb : w2.heap.size < wr.heap.size := Blk.lt hblk
    cases F2 with
    | nil =>
      have hjn : j = nk := by rw [← HKL.out, hk, flen_app, hj]; rfl
      have hjn2 : ¬ j < nk := by omega
      clear hk hj hjn
      go_wp2_with fail
      go_ret
      have hsrc : kids = F1 := by rw [HK.out, app_nil]
      rw [HTOP.out]
      simp only
      rw [hsrc]
      exact ⟨hbw, _, _, _, rfl, own_ints hown (by rw [arL_len, HJ.out]) (by have := HKL.out; have := HJ.out; rw [hsrc] at *; omega)⟩
    | cons pre nd ats2 ks F2 =>
      have hjn : j < nk := by rw [← HKL.out, hk, flen_app, hj]; simp [flen]
      clear hk hj
      have HOWN := Lib.hid hown
      clear hown
      go_wp2_with (first | (go_at_call 63; refine (around_any _ _ _ _ _ (by omega)).mono ?_; rintro e w3 ⟨rfl, rfl⟩) | (at_builtin; go_loud (refine wpList_oper rfl (oper_append_one (.tmp 19) (.tmp 24) 44 3 rfl (w2.heap.size + 1) i0 _ 8 Try.underlying44 HI0.out HY0.out HY1.out HY2.out rfl (by decide) (.slice A1 j k1) j _ (.int .i64 (aroundI n.op n.b (j : Int))) rfl _ rfl rfl (HOWN.out.alloc _) _ rfl (by simp) (by omega) (by simp <;> omega) ?_)); intro A4 c4 w4 happ4))
      have hs2 := HB2.out.size
      have hownW := HOWN.out.alloc (.cells #[.int .i64 n.op, .int .i64 n.a, .int .i64 n.b] 53)
      have hbW := hbw.alloc hbw.size (.cells #[.int .i64 n.op, .int .i64 n.a, .int .i64 n.b] 53)
      go_roundw
      case rel =>
        refine ⟨F1.app (.cons pre nd ats2 ks .nil), F2, j + 1, A4, c4, by rw [HK.out, app_assoc]; rfl, by rw [flen_app]; simp [flen, HJ.out], rfl, by go_num, ?_, ?_, ?_⟩
        · exact hbW.grown happ4.grown (by simp; omega) (fun g hg => by have := (ownsRow_block hownW hg).1; omega)
        · exact Blk.grown (hblk.alloc _) happ4.grown (own_ne hownW (Nat.lt_succ_self _))
        · have e : (arL n.op n.b 0 (F1.app (.cons pre nd ats2 ks .nil))).map (Value.int .i64) = (arL n.op n.b 0 F1).map (Value.int .i64) ++ [.int .i64 (aroundI n.op n.b (j : Int))] := by
            rw [arL_app, Nat.zero_add, HJ.out]
            simp [arL]
          rw [e]
          exact happ4.own
      case measure => simp [intOf]; omega

end Go.Proofs.Ytnmeglbamfjcgaa
