/- Kids of the reference. -/
import Derived.Test.YtnmeglbamfjcgaaRefBind
import Derived.Test.YtnmeglbamfjcgaaRefLift
namespace Go.Proofs.Ytnmeglbamfjcgaa
open Go.RowKit

/-- The rows of a forest's trees. -/
def rowsL : Fo → List (List Nd)
  | .nil => []
  | .cons _ n a k x => row (.cons [] n a k .nil) :: rowsL x
theorem rowsL_app : ∀ (F G : Fo), rowsL (F.app G) = rowsL F ++ rowsL G
  | .nil, G => rfl
  | .cons p n a k x, G => by simp only [Fo.app, rowsL, List.cons_append, rowsL_app x G]
theorem rowsL_len : ∀ (F : Fo), (rowsL F).length = flen F
  | .nil => rfl
  | .cons p n a k x => by simp only [rowsL, flen, List.length_cons, rowsL_len x]
theorem topOf_row (l : List Nd) : (row (topOf l).2).length ≤ 4096 := by
  unfold topOf
  split
  · rename_i hs
    obtain ⟨hl, n, ats, k, hpp, hrow, _⟩ := shape_ok hs
    rw [hpp]
    simp only
    have := congrArg List.length hrow
    simp only [List.length_cons, List.length_append] at this
    omega
  · simp [row]
/-- Values that are rows. -/
def RowsC (S : Nat → Prop) (w : World) : List Value → List (List Nd) → Prop
  | [], [] => True
  | x :: xs, l :: ls => (∃ A n c, x = .slice A n c ∧ TermR S w A n c l) ∧ RowsC S w xs ls
  | _, _ => False
theorem RowsC.keep {S S' : Nat → Prop} {w w' : World} (hS : ∀ b, S b → S' b ∧ ∀ o, w'.cell? ⟨b, o, none⟩ = w.cell? ⟨b, o, none⟩) : ∀ {xs : List Value} {ls : List (List Nd)}, RowsC S w xs ls → RowsC S' w' xs ls
  | [], [], _ => trivial
  | [], _ :: _, h => h.elim
  | _ :: _, [], h => h.elim
  | x :: xs, l :: ls, h => by
    obtain ⟨⟨A, n, c, e, ht⟩, h2⟩ := h
    exact ⟨⟨A, n, c, e, ht.keep hS⟩, h2.keep hS⟩
theorem RowsC.add {S : Nat → Prop} {w : World} {A : Option Addr} {n c : Nat} {m : List Nd} (ht : TermR S w A n c m) : ∀ {xs : List Value} {ls : List (List Nd)}, RowsC S w xs ls → RowsC S w (xs ++ [.slice A n c]) (ls ++ [m])
  | [], [], _ => ⟨⟨A, n, c, rfl, ht⟩, trivial⟩
  | [], _ :: _, h => h.elim
  | _ :: _, [], h => h.elim
  | _ :: _, _ :: _, h => ⟨h.1, h.2.add ht⟩
theorem RowsC.len {S : Nat → Prop} {w : World} : ∀ {xs : List Value} {ls : List (List Nd)}, RowsC S w xs ls → xs.length = ls.length
  | [], [], _ => rfl
  | [], _ :: _, h => h.elim
  | _ :: _, [], h => h.elim
  | x :: xs, l :: ls, h => by simp [RowsC.len h.2]
theorem RowsC.at_ {S : Nat → Prop} {w : World} : ∀ {xs : List Value} {ls : List (List Nd)} (k : Nat), RowsC S w xs ls → k < ls.length → ∃ A n c, xs[k]? = some (.slice A n c) ∧ TermR S w A n c (ls.getD k [])
  | [], [], _, _, hk => absurd hk (by simp)
  | [], _ :: _, _, h, _ => h.elim
  | _ :: _, [], _, h, _ => h.elim
  | x :: xs, l :: ls, 0, h, _ => by
    obtain ⟨⟨A, n, c, e, ht⟩, _⟩ := h
    exact ⟨A, n, c, by simp [e], ht⟩
  | x :: xs, l :: ls, k + 1, h, hk => by
    obtain ⟨A, n, c, e, ht⟩ := RowsC.at_ k h.2 (by simpa using hk)
    exact ⟨A, n, c, by simpa using e, by simpa using ht⟩
theorem own_rows {w : World} {base n c : Nat} {A : Option Addr} {xs : List Value} {ls : List (List Nd)} {S : Nat → Prop} (h : w.ownsRow base 23 1 (.slice A n c) n xs) (hn : n = ls.length) (hf : n ≤ 5864062014805) (hr : RowsC S w xs ls) (hS : ∀ b, S b → b < w.heap.size) : RowsR (· < w.heap.size) w A n c ls := by
  refine ⟨hn.symm, hf, fun hpos => ?_⟩
  have h0 := h
  obtain ⟨_, hcase⟩ := h
  rcases hcase with ⟨_, h2⟩ | ⟨g, cap', cur, hv, hg, hh, _⟩
  · omega
  · injection hv with e1 e2 e3
    subst e1
    refine ⟨g, 0, rfl, (ownsRow_block h0 rfl).2.1, fun k hk => ?_⟩
    obtain ⟨A', n', c', hx, ht⟩ := hr.at_ k (by omega)
    refine ⟨A', n', c', ?_, ht.keep fun b hb => ⟨hS b hb, fun _ => rfl⟩⟩
    rw [Nat.zero_add, h0.cellAt k (by omega)]
    exact hx
def RowsPost (ls : List (List Nd)) (w : World) (e : Ending) (w' : World) : Prop := Below w.heap.size w w' ∧ ∃ A n c, e = .returned (.slice A n c) ∧ RowsR (· < w'.heap.size) w' A n c ls
theorem infoR : (Try.prog.info? 23).map (fun i => (i.zero, i.size, i.bytes)) = some (some (.slice none 0 0), 1, 24) := by kernel_rfl
/-- New memory, not the block of the row of rows. -/
def Aside (B : Nat) (w : World) (v : Value) (b : Nat) : Prop := B ≤ b ∧ b < w.heap.size ∧ v.ownBlock ≠ some b

set_option maxRecDepth 100000 in
set_option maxHeartbeats 2000000 in
theorem refKids_any {A : Option Addr} {nn c : Nat} {l : List Nd} {w : World} (h : TermV w A nn c l) :
    Calls Try.prog 30 #[.slice A nn c] w (RowsPost (rowsL (topOf l).2) w) := by
  obtain ⟨i0, hi, hy0, hy1, hy2⟩ := info_parts infoR
  have HI0 := Lib.hid hi
  have HY0 := Lib.hid hy0
  have HY1 := Lib.hid hy1
  have HY2 := Lib.hid hy2
  clear hi hy0 hy1 hy2
  go_enter Try.func30, Try.ntmps30
  go_wp2_with fail
  refine (refTop_any h).mono ?_
  rintro e w2 ⟨hb2, xs, ats, b, rfl, ht, hfl, hpre⟩
  have hrl := topOf_row l
  rcases htop : topOf l with ⟨n, kids⟩
  rw [htop] at ht hfl hpre hrl
  simp only at ht hfl hpre hrl
  have HTOP := Lib.hid htop
  clear htop
  obtain ⟨sk, sa, sf, rfl, ⟨Ak, nk, ck, rfl, hkk⟩, ⟨Aa, na, ca, rfl, haa⟩, ⟨Af, nf, cf, rfl, hff⟩⟩ := ht
  have HKL := Lib.hid hkk.len
  have hnk : nk ≤ 4096 := by have := hkk.len; omega
  have HB2 := Lib.hid hb2
  have HB3 := Lib.hid (hb2.alloc hb2.size (.cells #[.int .i64 n.op, .int .i64 n.a, .int .i64 n.b, .slice Ak nk ck, .slice Aa na ca, .slice Af nf cf] 64))
  have HPRE := Lib.hid hpre
  have HRL := Lib.hid hrl
  have HKK := Lib.hid hkk
  have hb23 := below_alloc w2 (.cells #[.int .i64 n.op, .int .i64 n.a, .int .i64 n.b, .slice Ak nk ck, .slice Aa na ca, .slice Af nf cf] 64)
  have HB23 := Lib.hid hb23
  clear hb2 haa hff hkk hpre hfl hrl hb23
  go_wp2_with fail
  go_loopw [5, 6] (fun v i wr => ∃ (F1 F2 : Fo) (j : Nat) (A1 : Option Addr) (k1 : Nat) (xs1 : List Value), kids = F1.app F2 ∧ flen F1 = j ∧ v = .slice A1 j k1 ∧ i = .int .i64 (j : Int) ∧ Below w.heap.size w wr ∧ Below w2.heap.size w2 wr ∧
      Blk wr w2.heap.size 64 #[.int .i64 n.op, .int .i64 n.a, .int .i64 n.b, .slice Ak nk ck, .slice Aa na ca, .slice Af nf cf] ∧
      wr.ownsRow (w2.heap.size + 1) 23 1 (.slice A1 j k1) j xs1 ∧ RowsC (Aside (w2.heap.size + 1) wr (.slice A1 j k1)) wr xs1 (rowsL F1)) (fun _ i _ => nk - (intOf i).toNat)
  case atStart => exact ⟨.nil, kids, 0, none, 0, [], rfl, rfl, rfl, rfl, HB3.out, HB23.out, Blk.new _ _ _, World.ownsRow_nil _ _ _ _, trivial⟩
  case round =>
    obtain ⟨F1, F2, j, A1, k1, xs1, hk, hj, rfl, rfl, hbw, hbw2, hblk, hown, hrows⟩ := hrel
    have HK := Lib.hid hk
    have HJ := Lib.hid hj
    have zc := Blk.cell hblk
    have hszb : w2.heap.size < wr.heap.size := Blk.lt hblk
    cases F2 with
    | nil =>
      have hjn : j = nk := by rw [← HKL.out, hk, flen_app, hj]; rfl
      have hjn2 : ¬ j < nk := by omega
      clear hk hj hjn
      go_wp2_with fail
      go_ret
      have hsrc : kids = F1 := by rw [HK.out, app_nil]
      rw [HTOP.out]
      simp only
      rw [hsrc]
      exact ⟨hbw, _, _, _, rfl, own_rows hown (by rw [rowsL_len, HJ.out]) (by have := HKL.out; have := HJ.out; rw [hsrc] at *; omega) hrows (fun b hb => hb.2.1)⟩
    | cons pre nd ats2 ks F2 =>
      have hjn : j < nk := by rw [← HKL.out, hk, flen_app, hj]; simp [flen]
      have hkk := HKK.out.keep (R' := fresh w w2) (w' := wr) (fun b hb => ⟨hb, fun o => cell_of_heap (hbw2.block b hb.2) o⟩)
      rw [hk] at hkk
      obtain ⟨b1, off, sk', sa', sf', rfl, hrb, htree, g0, g1, g2, g3, g4, g5⟩ := hkk.at_
      rw [hj] at g0 g1 g2 g3 g4 g5
      have hp := HPRE.out
      rw [hk, PreOk.app] at hp
      have hp2 := hp.2.2.1
      have hlen : (row (.cons [] nd ats2 ks .nil)).length ≤ 5864062014805 := by
        have := HRL.out
        rw [hk, row_app] at this
        simp only [row, List.length_append, List.length_cons, List.nil_append, List.append_nil] at this ⊢
        omega
      have hRr : ∀ b, fresh w w2 b → b < wr.heap.size := fun b hb => by have := hb.2; omega
      have HROW := Lib.hid (row_any hRr htree hp2 hlen)
      have HROWS := Lib.hid hrows
      have HOWN := Lib.hid hown
      clear hk hj hown hkk htree hp hp2 hlen hrows hRr hrb
      go_wp2_with fail
      refine (HROW.out).mono ?_
      rintro e w3 ⟨hb4, A3, n3, c3, rfl, ht3⟩
      have hownW := own_below HOWN.out hb4
      have HOW := Lib.hid hownW
      have hs3 := hb4.size
      go_wp2_with (at_builtin; go_loud (refine wpList_oper rfl (oper_append_one (.tmp 19) (.tmp 26) 41 23 rfl (w2.heap.size + 1) i0 _ 24 Try.underlying41 HI0.out HY0.out HY1.out HY2.out rfl (by decide) (.slice A1 j k1) j _ (.slice A3 n3 c3) rfl w3 rfl rfl HOW.out _ rfl rfl (by omega) (by omega) ?_)); intro A4 c4 w4 happ4)
      have hs2 := HB2.out.size
      have hsg := happ4.grown.size
      have hnewW : ∀ b, b < w3.heap.size → (Value.slice A1 j k1).ownBlock ≠ some b → (Value.slice A4 (j + 1) c4).ownBlock ≠ some b := fun b hb hne e => by
        rcases happ4.new b e with h1 | h1
        · exact hne h1
        · omega
      have hcellW : ∀ b, b < w3.heap.size → (Value.slice A1 j k1).ownBlock ≠ some b → ∀ o, w4.cell? ⟨b, o, none⟩ = w3.cell? ⟨b, o, none⟩ := fun b hb hne o => cell_of_heap (happ4.grown.block b hb (fun e => hne e.symm)) o
      go_roundw
      case rel =>
        refine ⟨F1.app (.cons pre nd ats2 ks .nil), F2, j + 1, A4, c4, xs1 ++ [.slice A3 n3 c3], by rw [HK.out, app_assoc]; rfl, by rw [flen_app]; simp [flen, HJ.out], rfl, by go_num, ?_, ?_, ?_, happ4.own, ?_⟩
        · exact (hbw.trans (hb4.mono hbw.size)).grown happ4.grown (by omega) (fun g hg => by have := (ownsRow_block HOW.out hg).1; omega)
        · exact (hbw2.trans (hb4.mono hbw2.size)).grown happ4.grown (by omega) (fun g hg => by have := (ownsRow_block HOW.out hg).1; omega)
        · exact Blk.grown (hblk.below hb4 (Blk.lt hblk)) happ4.grown (own_ne HOW.out (Nat.lt_succ_self _))
        · rw [rowsL_app]
          refine RowsC.add (ht3.keep fun b hb => ?_) (HROWS.out.keep fun b hb => ?_)
          · obtain ⟨q1, q2⟩ := hb
            have hne : (Value.slice A1 j k1).ownBlock ≠ some b := fun e => by
              have := (ownsRow_block HOWN.out e).2.1
              omega
            exact ⟨⟨by omega, by omega, hnewW b q2 hne⟩, hcellW b q2 hne⟩
          · obtain ⟨q1, q2, q3⟩ := hb
            refine ⟨⟨q1, by omega, hnewW b (by omega) q3⟩, fun o => ?_⟩
            rw [hcellW b (by omega) q3 o]
            exact cell_of_heap (hb4.block b q2) o
      case measure => simp [intOf]; omega

end Go.Proofs.Ytnmeglbamfjcgaa
