/- term.Spine: what is applied, and the arguments, in new memory. -/
import Derived.Test.YtjoddliplahgkaaDGuarded
import Derived.Test.YtjoddliplahgkaaDRowsD
import Derived.Test.YtjoddliplahgkaaDKidss
namespace Go.Proofs.Ytjoddliplahgkaa
open Go.Lib (hid)
open Go.RowKit
def spT : Nat → List Nd → Nd → Fo → List Nd × List (List Nd)
 | 0, t, _, _ => (t, [])
 | m + 1, t, n, .cons _ n1 a1 k1 (.cons _ n2 a2 k2 _) => if n.op = 6 then ((spT m (n1 :: (a1 ++ row k1)) n1 k1).1, (spT m (n1 :: (a1 ++ row k1)) n1 k1).2 ++ [n2 :: (a2 ++ row k2)]) else (t, [])
 | _ + 1, t, _, _ => (t, [])
theorem spT_stop {m : Nat} {t : List Nd} {n : Nd} {k : Fo} (h : n.op ≠ 6) : spT m t n k = (t, []) := by
 cases m with
 | zero => rfl
 | succ m =>
  match k with
  | .nil => rfl
  | .cons _ _ _ _ .nil => rfl
  | .cons _ n1 a1 k1 (.cons _ n2 a2 k2 x) => simp only [spT]; rw [if_neg h]
theorem spT_app {m : Nat} {t : List Nd} {n n1 n2 : Nd} {a1 a2 : List Nd} {k1 k2 : Fo} (h : n.op = 6) : spT (m + 1) t n (.cons [] n1 a1 k1 (.cons [] n2 a2 k2 .nil)) = ((spT m (n1 :: (a1 ++ row k1)) n1 k1).1, (spT m (n1 :: (a1 ++ row k1)) n1 k1).2 ++ [n2 :: (a2 ++ row k2)]) := by
 simp only [spT]
 rw [if_pos h]
def spineR (t : List Nd) : List Nd × List (List Nd) := if shapeI t = 0 then spT t.length t (topOf t).1 (topOf t).2 else ([], [])
theorem rt_top {t : List Nd} {n : Nd} {a : List Nd} {k : Fo} (h : Rt t n a k) : topOf t = (n, k) := by
 unfold topOf
 rw [if_pos h.shape, h.pp]
def SpineQ (q : List Nd × List (List Nd)) (w : World) (e : Ending) (w' : World) : Prop := Below w.heap.size w w' ∧ ∃ A n c B m d xs, e = .returned (.tuple #[.slice A n c, .slice B m d]) ∧ TermR (Aside w.heap.size w' (.slice B m d)) w' A n c q.1 ∧ w'.ownsRow w.heap.size 29 1 (.slice B m d) m xs ∧ RowsC (Aside w.heap.size w' (.slice B m d)) w' xs q.2
theorem RowsC.rev {S : Nat → Prop} {w : World} : ∀ {xs : List Value} {ls : List (List Nd)}, RowsC S w xs ls → RowsC S w xs.reverse ls.reverse
 | [], [], _ => trivial
 | [], _ :: _, h => h.elim
 | _ :: _, [], h => h.elim
 | x :: xs, l :: ls, h => by
  obtain ⟨⟨A, n, c, rfl, ht⟩, h2⟩ := h
  rw [List.reverse_cons, List.reverse_cons]
  exact RowsC.add ht h2.rev
theorem rows_slices {S : Nat → Prop} {w : World} : ∀ {xs : List Value} {ls : List (List Nd)}, RowsC S w xs ls → ∀ x ∈ xs, ∃ A' n' c', x = .slice A' n' c'
 | [], [], _ => fun x hx => by cases hx
 | [], _ :: _, h => h.elim
 | _ :: _, [], h => h.elim
 | x :: xs, l :: ls, h => fun y hy => by
  obtain ⟨⟨A, n, c, e, _⟩, h2⟩ := h
  rcases List.mem_cons.1 hy with rfl | hy
  · exact ⟨A, n, c, e⟩
  · exact rows_slices h2 y hy
set_option linter.unusedSimpArgs false in
set_option maxRecDepth 100000 in
set_option maxHeartbeats 4000000 in
theorem spine_any {A : Option Addr} {n c : Nat} {t : List Nd} {w : World} (h : TermV w A n c t) :
 Calls Try.prog 54 #[.slice A n c] w (SpineQ (spineR t) w) := by
 have HSH := hid (shape_any h)
 by_cases hs : shapeI t = 0
 rotate_left
 · have HQ : Hid (spineR t = ([], [])) := hid (by unfold spineR; rw [if_neg hs])
   have hz : (shapeI t != 0) = true := by simpa using hs
   generalize shapeI t = z at *
   clear hs h
   go_in
   go_wp2_with fail
   refine (HSH.out).mono ?_
   rintro e w2 ⟨rfl, hb2⟩
   have HB2 := hid hb2
   clear hb2
   go_wp2_with fail
   go_ret2
   rw [HQ.out]
   exact ⟨HB2.out, none, 0, 0, none, 0, 0, [], rfl, ⟨rfl, Nat.le_refl _, Nat.zero_le _, fun _ => rfl, fun h => absurd h (by decide)⟩, World.ownsRow_nil _ _ _ _, trivial⟩
 obtain ⟨i1, hi', hy0', hy1', hy2'⟩ := info_parts infoR
 have HI1 := hid hi'
 have HZ0 := hid hy0'
 have HZ1 := hid hy1'
 have HZ2 := hid hy2'
 clear hi' hy0' hy1' hy2'
 obtain ⟨n0, a0, k0, hrt⟩ := rt_of hs
 have hsp : spineR t = spT t.length t n0 k0 := by unfold spineR; rw [if_pos hs, rt_top hrt]
 obtain ⟨m, hm⟩ : ∃ m, m = t.length := ⟨_, rfl⟩
 have hmf : m ≤ 4096 := by rw [hm]; exact hrt.few
 rw [← hm] at hsp
 obtain ⟨F, L, hFL⟩ : ∃ F L, spT m t n0 k0 = (F, L) := ⟨_, _, rfl⟩
 rw [hFL] at hsp
 have HSP := hid hsp
 have HRT := hid hrt
 have HFL := hid hFL
 have HM := hid hm
 have HT := hid h
 rw [hs] at HSH
 clear hs hrt hsp hFL hm h
 go_in
 go_wp2_with fail
 refine (HSH.out).mono ?_
 rintro e w2 ⟨rfl, hb2⟩
 have HB2 := hid hb2
 clear hb2
 have hn4 : n ≤ 4096 := by have := HT.out.len; have := HM.out; omega
 go_wp2_with fail
 go_loopw [0, 4] (fun tv av wr => ∃ (m' n' c' j d : Nat) (A' B : Option Addr) (tc : List Nd) (n1 : Nd) (a1 : List Nd) (k1 : Fo) (xs : List Value) (ls : List (List Nd)), tv = .slice A' n' c' ∧ av = .slice B j d ∧ j + n' ≤ 4096 ∧ Hid (Rt tc n1 a1 k1) ∧ Hid (tc.length ≤ m') ∧ Hid ((spT m' tc n1 k1).1 = F ∧ (spT m' tc n1 k1).2 ++ ls.reverse = L) ∧ Hid (∀ w', Below w.heap.size w w' → TermV w' A' n' c' tc) ∧ Hid (wr.ownsRow w.heap.size 29 1 (.slice B j d) j xs) ∧ Hid (RowsC (Aside w.heap.size wr (.slice B j d)) wr xs ls) ∧ Hid (Below w.heap.size w wr)) (fun tv _ _ => lenOf tv)
 case atStart => exact ⟨m, n, c, 0, 0, A, none, t, n0, a0, k0, [], [], rfl, rfl, by omega, HRT, hid (by rw [HM.out]; exact Nat.le_refl _), hid (by rw [HFL.out]; exact ⟨rfl, by simp⟩), hid (fun w' hb => HT.out.below hb), hid (World.ownsRow_nil _ _ _ _), hid trivial, HB2⟩
 case round =>
  obtain ⟨m', n', c', j, d, A', B, tc, n1, a1, k1, xs, ls, rfl, rfl, hjn, hrt, hm', hsp, htc, hown, hrows, hbw⟩ := hrel
  have HT1 := hid (htc.out _ hbw.out)
  have hlen := HT1.out.len
  have heq := hrt.out.eq
  have hn0 : 0 < n' := by rw [← hlen, heq]; simp
  have hcap := HT1.out.cap
  obtain ⟨b, off, rfl, hb, hc0, _, _⟩ := HT1.out.at_ hn0
  rw [Nat.zero_mul, Nat.add_zero, show nth tc 0 = n1 from by rw [heq]; rfl] at hc0
  have hbs := hbw.out.size
  clear heq
  by_cases h6 : n1.op = 6
  rotate_left
  · have h6b : (n1.op == 6) = false := by simpa using h6
    have HE : Hid (spineR t = (tc, ls.reverse)) := hid (by
     have h1 := hsp.out
     rw [spT_stop h6] at h1
     rw [HSP.out, ← h1.1, ← h1.2]
     simp)
    have hxl : ∀ x ∈ xs, ∃ A' n' c', x = .slice A' n' c' := rows_slices hrows.out
    have HREV := hid (reverse_any hown.out (by omega) hxl)
    generalize n1.op = op at *
    clear h6 hxl hlen
    go_wp2_with fail
    refine (HREV.out).mono ?_
    rintro e w3 ⟨rfl, ho3, hg3⟩
    have HB3 := hid (hbw.out.grown hg3 hbs (fun g hg => (ownsRow_block hown.out hg).1))
    have HR3 : Hid (RowsC (Aside w.heap.size w3 (.slice B j d)) w3 xs.reverse ls.reverse) := hid (RowsC.keep (fun q hq => ⟨⟨hq.1, Nat.lt_of_lt_of_le hq.2.1 hg3.size, hq.2.2⟩, fun o => cell_of_heap (hg3.block q hq.2.1 (fun e => hq.2.2 e.symm)) o⟩) hrows.out.rev)
    have HO3 := hid ho3
    have HCL := hid (clone_any (htc.out _ HB3.out))
    clear ho3 hg3
    go_wp2_with fail
    refine (HCL.out).mono ?_
    rintro e w4 ⟨hb4, A4, n4, c4, rfl, ht4⟩
    have HB4 := bto HB3 hb4
    have HO4 := hid (own_below HO3.out hb4)
    have HR4 := hid (RowsC.keep (S' := Aside w.heap.size w4 (.slice B j d)) (w' := w4) (fun q hq => ⟨⟨hq.1, Nat.lt_of_lt_of_le hq.2.1 hb4.size, hq.2.2⟩, fun o => hb4.cell (p := ⟨q, o, none⟩) hq.2.1⟩) HR3.out)
    have HT4 : Hid (TermR (Aside w.heap.size w4 (.slice B j d)) w4 A4 n4 c4 tc) := hid (ht4.keep fun q hq => ⟨⟨Nat.le_trans HB3.out.size hq.1, hq.2, fun e => by have := (ownsRow_block HO3.out e).2.1; have := hq.1; omega⟩, fun _ => rfl⟩)
    clear hb4 ht4
    go_wp2_with fail
    go_ret2
    rw [HE.out]
    exact ⟨HB4.out, A4, n4, c4, B, j, d, xs.reverse, rfl, HT4.out, HO4.out, HR4.out⟩
  obtain ⟨nx, ax, kx, ny, ay, ky, rfl, hsplit⟩ := app_split hrt.out h6
  obtain ⟨r1, hr1⟩ : ∃ r1, r1 = nx :: (ax ++ row kx) := ⟨_, rfl⟩
  obtain ⟨r2, hr2⟩ : ∃ r2, r2 = ny :: (ay ++ row ky) := ⟨_, rfl⟩
  obtain ⟨hf1, hf2, hq, hend⟩ := hsplit
  cases m' with
  | zero => have := hm'.out; rw [hq] at this; simp at this
  | succ m' =>
  have hsp2 := hsp.out
  rw [spT_app h6] at hsp2
  rw [← hr1] at hf1 hq hend hsp2
  rw [← hr2] at hf2 hq hsp2
  obtain ⟨p, hp⟩ : ∃ p, p = 1 + r1.length := ⟨_, rfl⟩
  rw [← hp] at hend
  have hql : n' = p + r2.length := by rw [← hlen, hq, hp]; simp; omega
  have hr2l : 0 < r2.length := by rw [hr2]; simp
  have hd2 : tc.drop p = r2 := by rw [hq, hp, Nat.add_comm, List.drop_succ_cons, List.drop_left]
  have hd1 : (tc.take p).drop 1 = r1 := by rw [hq, hp, Nat.add_comm, List.take_succ_cons, List.drop_succ_cons, List.drop_zero, List.take_left]
  obtain ⟨A2, hcut2, hcutr2⟩ := cut_from (some ⟨b, off, none⟩) n' c' p (by omega)
  obtain ⟨A3, hcut3, hcutr3⟩ := cut_mid (some ⟨b, off, none⟩) n' c' 1 p (by omega) (by omega) hcap
  rw [show ((1 : Nat) : Int) = 1 from rfl] at hcut3
  have HT2 : Hid (∀ w', Below w.heap.size w w' → TermV w' A2 (n' - p) (c' - p) r2) := hid fun w' h => by
   have := hcutr2 _ _ _ (htc.out w' h)
   rwa [hd2] at this
  have HT3 : Hid (∀ w', Below w.heap.size w w' → TermV w' A3 (p - 1) (c' - 1) r1) := hid fun w' h => by
   have := hcutr3 _ _ _ (htc.out w' h)
   rwa [hd1] at this
  have HEND := hid (end_any HT1.out 1)
  rw [hend] at HEND
  have HF1 := hid hf1
  have HSP2 := hid hsp2
  have HML : Hid (r1.length ≤ m') := hid (by have := hm'.out; rw [hq] at this; simp at this; omega)
  have hp1 : 1 ≤ p := by omega
  have hpn : p < n' := by omega
  clear hf1 hf2 hq hend hsp2 hr1 hr2 hp hql hr2l hd1 hd2 hcutr2 hcutr3 hlen
  rw [h6] at hc0
  clear h6
  go_wp2_with fail
  refine (HEND.out).mono ?_
  rintro e w3 ⟨rfl, hb3⟩
  have HB3 := hid (hbw.out.trans (hb3.mono hbs))
  have HO3 := hid (own_below hown.out hb3)
  have HR3 := hid (RowsC.keep (S' := Aside w.heap.size w3 (.slice B j d)) (w' := w3) (fun q hq => ⟨⟨hq.1, Nat.lt_of_lt_of_le hq.2.1 hb3.size, hq.2.2⟩, fun o => hb3.cell (p := ⟨q, o, none⟩) hq.2.1⟩) hrows.out)
  clear hb3
  go_wp2_with fail
  refine (clone_any (HT2.out _ HB3.out)).mono ?_
  rintro e w4 ⟨hb4, A4, n4, c4, rfl, ht4⟩
  have HB4 := bto HB3 hb4
  have HO4 := hid (own_below HO3.out hb4)
  have HR4 := hid (RowsC.keep (S' := Aside w.heap.size w4 (.slice B j d)) (w' := w4) (fun q hq => ⟨⟨hq.1, Nat.lt_of_lt_of_le hq.2.1 hb4.size, hq.2.2⟩, fun o => hb4.cell (p := ⟨q, o, none⟩) hq.2.1⟩) HR3.out)
  have HT4 : Hid (TermR (Aside w.heap.size w4 (.slice B j d)) w4 A4 n4 c4 r2) := hid (ht4.keep fun q hq => ⟨⟨Nat.le_trans HB3.out.size hq.1, hq.2, fun e => by have := (ownsRow_block HO3.out e).2.1; have := hq.1; omega⟩, fun _ => rfl⟩)
  have hbs4 := HB4.out.size
  clear hb4 ht4
  go_wp2_with (at_builtin; go_loud (refine wpList_oper rfl (oper_append_one (.tmp 16) (.tmp 21) 59 29 rfl w.heap.size i1 _ 24 Try.underlying59 HI1.out HZ0.out HZ1.out HZ2.out rfl (by decide) (.slice B j d) j xs (.slice A4 n4 c4) rfl w4 rfl rfl HO4.out _ rfl rfl (by omega) (by omega) ?_)); intro A5 c5 w5 happ5)
  have hsg := happ5.grown.size
  have HO5 := hid happ5.own
  have HB5 := hid (HB4.out.grown happ5.grown hbs4 (fun g hg => (ownsRow_block HO4.out hg).1))
  have HR5 : Hid (RowsC (Aside w.heap.size w5 (.slice A5 (j + 1) c5)) w5 (xs ++ [.slice A4 n4 c4]) (ls ++ [r2])) := hid (RowsC.keep (fun q hq => ⟨⟨hq.1, Nat.lt_of_lt_of_le hq.2.1 hsg, fun e => by
   rcases happ5.new q e with h1 | h1
   · exact hq.2.2 h1
   have := hq.2.1; omega⟩, fun o => cell_of_heap (happ5.grown.block q hq.2.1 (fun e => hq.2.2 e.symm)) o⟩) (RowsC.add HT4.out HR4.out))
  clear happ5 hsg
  go_wp2_with fail
  go_roundw
  case rel => exact ⟨m', p - 1, c' - 1, j + 1, c5, A3, A5, r1, nx, ax, kx, xs ++ [.slice A4 n4 c4], ls ++ [r2], rfl, rfl, by omega, HF1, HML, hid ⟨HSP2.out.1, by rw [← HSP2.out.2]; simp⟩, HT3, HO5, HR5, HB5⟩
  case measure => simp only [lenOf]; omega
end Go.Proofs.Ytjoddliplahgkaa
