/- sense: term.Apply, and slices.Clone at rows of terms. -/
import Derived.Test.YtjoddliplahgkaaDSenseA
import Derived.Test.YtjoddliplahgkaaDKidss
import Derived.Test.YtjoddliplahgkaaDEnds
namespace Go.Proofs.Ytjoddliplahgkaa
open Go.Lib (hid)
set_option maxHeartbeats 4000000
set_option maxRecDepth 100000
open Go.RowKit
theorem bytesN : Try.t50.bytes = 24 := by kernel_rfl
theorem grow_any {n : Nat} {w : World} (hn : n ≤ 1000000) (h0 : 0 < n) :
 Calls Try.prog 94 #[.slice none 0 0, .int .i64 (n : Int)] w fun e w' => Below w.heap.size w w' ∧ ∃ g c, e = .returned (.slice (some ⟨g, 0, none⟩) 0 c) ∧ OwnN w' w.heap.size (.slice (some ⟨g, 0, none⟩) 0 c) [] := by
 have hb := bytesN
 have h1 : (n : Int) * (Try.t50.bytes : Int) ≤ 281474976710656 := by rw [hb]; omega
 have h2 : Builtin.nextslicecap n 0 * Try.t50.bytes ≤ 281474976710656 := by rw [hb]; exact growslice_fits (by omega) (by omega)
 have h3 : (n : Int) ≤ 9223372036854775807 := by omega
 have hc1 := grownCap_ge w n 0 50
 have hc2 := grownCap_le_maxLen w n 0 50 (by unfold maxLen; omega)
 have HC := hid (And.intro hc1 hc2)
 clear hb hc1 hc2
 go_in
 go_wp2_with fail
 go_ret
 obtain ⟨hc1, hc2⟩ := HC.out
 refine ⟨below_drewN (below_alloc w _) 1, w.heap.size, grownCap w n 0 50, rfl, ?_⟩
 refine World.ownsRow_made w _ _ (Nat.le_refl _) hc2 ?_
 rw [Array.size_append, size_zeroCells, size_zeroCells]
 show n * 3 + (grownCap w n 0 50 - n) * 3 = grownCap w n 0 50 * 3
 omega
theorem flat_take {α : Type} (ls : List (List α)) {k : Nat} (h : k < ls.length) (d : List α) : (ls.take (k + 1)).flatten = (ls.take k).flatten ++ ls.getD k d := by
 rw [List.take_succ_eq_append_getElem h, List.flatten_append]
 simp [List.getD_eq_getElem?_getD, List.getElem?_eq_getElem h]
theorem flat_take_le {α : Type} (ls : List (List α)) (k : Nat) : (ls.take k).flatten.length ≤ ls.flatten.length := by
 conv => rhs; rw [← List.take_append_drop k ls, List.flatten_append, List.length_append]
 omega
theorem concat_any {A : Option Addr} {n c : Nat} {ls : List (List Nd)} {w : World} (h : RowsR (· < w.heap.size) w A n c ls) (h0 : 0 < ls.flatten.length) (hf : ls.flatten.length ≤ 1000000) :
 Calls Try.prog 80 #[.slice A n c] w (RowPost ls.flatten w) := by
 obtain ⟨i0, hi, hy0, hy1, hy2⟩ := info_parts infoN'
 have HI0 := hid hi
 have HY0 := hid hy0
 have HY1 := hid hy1
 have HY2 := hid hy2
 have hfew := h.few
 have H := hid h
 clear hi hy0 hy1 hy2 h
 go_in
 go_wp2_with fail
 go_loop [3, 11] (fun sv iv => ∃ i : Nat, i ≤ n ∧ iv = .int .i64 (i : Int) ∧ sv = .int .i64 (((ls.take i).flatten.length : Nat) : Int)) (fun _ i => n - (intOf i).toNat)
 case atStart => exact ⟨0, by omega, rfl, by simp⟩
 case round =>
  obtain ⟨i, hi, rfl, rfl⟩ := hrel
  by_cases hlt : i < n
  · obtain ⟨b, off, rfl, _, hm⟩ := H.out.mem (by omega)
    obtain ⟨A', n', c', hc, ht⟩ := hm i hlt
    have hsum : (ls.take (i + 1)).flatten.length = (ls.take i).flatten.length + n' := by
     rw [flat_take ls (by rw [H.out.len]; exact hlt) [], List.length_append, ht.len]
    have hle := flat_take_le ls (i + 1)
    have hcap := ht.cap
    have hfw := ht.few
    clear hm ht
    have HSUM := hid hsum
    obtain ⟨sz, hsz⟩ : ∃ sz, sz = (ls.take i).flatten.length := ⟨_, rfl⟩
    rw [← hsz] at hsum
    rw [← hsz]
    have HSZ := hid hsz
    have hszl : sz + n' ≤ 1000000 := by omega
    clear hsum hle hsz
    go_wp2_with fail
    go_round
    case rel => exact ⟨i + 1, by omega, by go_num, by rw [HSUM.out, ← HSZ.out]; go_num⟩
    case measure => simp [intOf]; omega
  have hie : i = n := by omega
  have HF : Hid ((ls.take i).flatten = ls.flatten) := hid (by rw [List.take_of_length_le (by rw [H.out.len]; omega)])
  rw [HF.out]
  obtain ⟨N, hN⟩ : ∃ N, N = ls.flatten.length := ⟨_, rfl⟩
  rw [← hN] at h0 hf
  rw [← hN]
  have HN := hid hN
  have HGROW := hid (fun w => grow_any (w := w) hf h0)
  clear hN
  go_wp2_with fail
  refine (HGROW.out _).mono ?_
  rintro e w2 ⟨hb2, g, c2, rfl, hown2⟩
  have HB2 := hid hb2
  have HO2 := hid hown2
  clear hb2 hown2
  go_wp2_with fail
  go_loopw [6, 27] (fun sv iv wr => ∃ (i : Nat) (A1 : Option Addr) (k1 : Nat), i ≤ n ∧ iv = .int .i64 (i : Int) ∧ sv = .slice A1 (ls.take i).flatten.length k1 ∧ Hid (OwnN wr w.heap.size (.slice A1 (ls.take i).flatten.length k1) (ls.take i).flatten) ∧ Hid (Below w.heap.size w wr)) (fun _ i _ => n - (intOf i).toNat)
  case atStart => exact ⟨0, some ⟨g, 0, none⟩, c2, by omega, rfl, rfl, by simpa using HO2, HB2⟩
  case round =>
   obtain ⟨i, A1, k1, hi, rfl, rfl, hown, hbw⟩ := hrel
   by_cases hlt : i < n
   · obtain ⟨b, off, rfl, hb, hm⟩ := H.out.mem (by omega)
     obtain ⟨A', n', c', hc, ht⟩ := hm i hlt
     have hc2 : wr.cell? ⟨b, off + i, none⟩ = some (.slice A' n' c') := (hbw.out.cell (p := ⟨b, off + i, none⟩) hb).trans hc
     have HT := hid (TermV.below ht hbw.out)
     have hft := flat_take ls (by rw [H.out.len]; exact hlt) []
     have hle := flat_take_le ls (i + 1)
     rw [hft, List.length_append, ht.len, ← HN.out] at hle
     have HFT := hid hft
     have HTL := hid ht.len
     generalize (ls.take i).flatten = l at *
     clear hm hc ht hft
     have hbs := hbw.out.size
     go_wp2_with (at_builtin; refine wpList_oper rfl (oper_append_row (.tmp 31) (.tmp 32) 29 29 rfl w.heap.size i0 Try.underlying29 Try.underlying29 HI0.out HY0.out HY1.out HY2.out (.slice A1 l.length k1) l (ls.getD i []) rfl hown.out rfl HT.out (by omega) hbs ?_); intro A4 c4 w4 hown4 happ4)
     have HO4 := hid hown4
     have HB4 := hid (hbw.out.grown happ4.grown hbs (fun g hg => (ownsRow_block hown.out hg).1))
     clear hown4 happ4
     go_roundw
     case rel => exact ⟨i + 1, A4, c4, by omega, by go_num, by rw [HFT.out, List.length_append, HTL.out], hid (by rw [HFT.out, List.length_append, HTL.out]; exact HO4.out), HB4⟩
     case measure => simp [intOf]; omega
   have hie : i = n := by omega
   have HF2 : Hid ((ls.take i).flatten = ls.flatten) := hid (by rw [List.take_of_length_le (by rw [H.out.len]; omega)])
   rw [HF2.out] at hown
   rw [HF2.out]
   go_wp2_with fail
   go_ret
   exact ⟨hbw.out, A1, _, k1, rfl, own_fresh hown.out (by have := HN.out; omega)⟩
def firstBad : List (List Nd) → Int
 | [] => 0
 | a :: r => if shapeI a = 0 then firstBad r else shapeI a
def applyR (f : List Nd) (args : List (List Nd)) : List Nd × Int :=
 if shapeI f ≠ 0 then ([], shapeI f) else if firstBad args ≠ 0 then ([], firstBad args)
 else if 4096 < f.length + (args.flatten.length + args.length) then ([], 9) else (List.replicate args.length ⟨6, 0, 0⟩ ++ (f ++ args.flatten), 0)
theorem firstBad_app (l r : List (List Nd)) : firstBad (l ++ r) = if firstBad l = 0 then firstBad r else firstBad l := by
 induction l with
 | nil => simp [firstBad]
 | cons a l ih =>
  by_cases h : shapeI a = 0
  · simp [firstBad, h, ih]
  · simp [firstBad, h]
theorem take_app {α : Type} (ls : List (List α)) {k : Nat} (h : k < ls.length) : ls.take (k + 1) = ls.take k ++ [ls.getD k []] := by
 rw [List.take_succ_eq_append_getElem h]
 simp [List.getD_eq_getElem?_getD, List.getElem?_eq_getElem h]
theorem firstBad_next {args : List (List Nd)} {k : Nat} (h : k < args.length) (h0 : firstBad (args.take k) = 0) : (shapeI (args.getD k []) = 0 → firstBad (args.take (k + 1)) = 0) ∧ (shapeI (args.getD k []) ≠ 0 → firstBad args = shapeI (args.getD k [])) := by
 have h1 : firstBad (args.take (k + 1)) = shapeI (args.getD k []) := by
  rw [take_app args h, firstBad_app, if_pos h0]
  simp only [firstBad]
  split <;> omega
 refine ⟨fun h2 => by rw [h1, h2], fun h2 => ?_⟩
 conv => lhs; rw [← List.take_append_drop (k + 1) args]
 rw [firstBad_app, if_neg (by rw [h1]; exact h2), h1]
theorem RowsC.of_at {S : Nat → Prop} {w : World} : ∀ {xs : List Value} {ls : List (List Nd)}, xs.length = ls.length → (∀ k, k < ls.length → ∃ A n c, xs[k]? = some (.slice A n c) ∧ TermR S w A n c (ls.getD k [])) → RowsC S w xs ls
 | [], [], _, _ => trivial
 | [], _ :: _, h, _ => by simp at h
 | _ :: _, [], h, _ => by simp at h
 | x :: xs, l :: ls, h, hk => by
  refine ⟨?_, RowsC.of_at (by simpa using h) fun k hkl => ?_⟩
  · obtain ⟨A, n, c, e, ht⟩ := hk 0 (by simp)
    exact ⟨A, n, c, by simpa using e, by simpa using ht⟩
  · obtain ⟨A, n, c, e, ht⟩ := hk (k + 1) (by simpa using hkl)
    exact ⟨A, n, c, by simpa using e, by simpa using ht⟩
theorem RowsR.values {R : Nat → Prop} {w : World} {A : Option Addr} {n c : Nat} {ls : List (List Nd)} (h : RowsR R w A n c ls) : ∃ xs : List Value, xs.length = n ∧ (∀ ad, A = some ad → ∀ j u, xs[j]? = some u → w.cell? (ad.add j) = some u) ∧ RowsC R w xs ls ∧ ∀ u ∈ xs, u.oneCell' = true := by
 by_cases hn : 0 < n
 rotate_left
 · obtain rfl : n = 0 := by omega
   have hl : ls = [] := List.eq_nil_of_length_eq_zero h.len
   subst hl
   exact ⟨[], rfl, fun _ _ j u hu => by simp at hu, trivial, fun u hu => by simp at hu⟩
 obtain ⟨b, off, e, _, hm⟩ := h.mem hn
 have hm2 : ∀ k : Nat, ∃ v : Value, k < n → ∃ A' n' c', v = .slice A' n' c' ∧ w.cell? ⟨b, off + k, none⟩ = some v ∧ TermR R w A' n' c' (ls.getD k []) := fun k => by
  by_cases hk : k < n
  · obtain ⟨A', n', c', h1, h2⟩ := hm k hk
    exact ⟨_, fun _ => ⟨A', n', c', rfl, h1, h2⟩⟩
  exact ⟨undef, fun h => absurd h hk⟩
 obtain ⟨V, hV⟩ : ∃ V : Nat → Value, ∀ k, k < n → ∃ A' n' c', V k = .slice A' n' c' ∧ w.cell? ⟨b, off + k, none⟩ = some (V k) ∧ TermR R w A' n' c' (ls.getD k []) := ⟨fun k => (hm2 k).choose, fun k => (hm2 k).choose_spec⟩
 refine ⟨(List.range n).map V, by simp, fun ad ha j u hu => ?_, RowsC.of_at (by simp [h.len]) fun k hk => ?_, fun u hu => ?_⟩
 · rw [e] at ha
   injection ha with ha
   subst ha
   have ea : (⟨b, off, none⟩ : Addr).add j = ⟨b, off + j, none⟩ := by unfold Addr.add; split <;> simp_all
   have hj : j < n := by have := (List.getElem?_eq_some_iff.1 hu).1; simpa using this
   obtain ⟨_, _, _, _, h2, _⟩ := hV j hj
   rw [ea, h2]
   simp [hj] at hu
   rw [hu]
 · have hk2 : k < n := by rw [← h.len]; exact hk
   obtain ⟨A', n', c', h1, _, h3⟩ := hV k hk2
   exact ⟨A', n', c', by simp [hk2, h1], h3⟩
 rw [List.mem_map] at hu
 obtain ⟨k, hk, rfl⟩ := hu
 obtain ⟨_, _, _, h1, _, _⟩ := hV k (by simpa using hk)
 rw [h1]; rfl
theorem make_cap (n : Nat) (hn : n ≤ 1000000) (w : World) : ∃ cur : Array Value, cur.size = n * 3 ∧ (Instr.makeSlice 29 (.int .i64 0) (.int .i64 (n : Int))).run Try.prog w = .ok (.slice (some ⟨w.heap.size, 0, none⟩) 0 n) (w.alloc (.cells cur 50)) := by
 obtain ⟨i, hi, h1, h2, h3⟩ := info_parts infoN'
 refine ⟨madeCells (Value.agg #[Value.int .i64 0, Value.int .i64 0, Value.int .i64 0]).cells (n * 3), by simp [madeCells], ?_⟩
 rw [run_make (P := Try.prog) w 29 50 i _ Try.underlying29 hi h1 .i64 .i64 0 n (by omega) (by omega) (by rw [h3]; omega) (by omega), h2]
 rfl
theorem rows_below {w w' : World} {A : Option Addr} {n c : Nat} {ls : List (List Nd)} (h : RowsR (· < w.heap.size) w A n c ls) (hb : Below w.heap.size w w') : RowsR (· < w.heap.size) w' A n c ls :=
 h.keep fun b hb' => ⟨hb', fun o => hb.cell (p := ⟨b, o, none⟩) hb'⟩
theorem own_lit {w w5 : World} {base : Nat} {v : Value} {l : List Nd} {o : Obj} (h : OwnN w base v l) (hg : (w.alloc o).grownBy w5 (some w.heap.size)) : OwnN w5 base v l :=
 World.ownsRow.kept (OwnN.alloc h o) hg (.inr fun e => by have := (ownsRow_block h e).2.1; omega)
def RowEPost (q : List Nd × Int) (w : World) (e : Ending) (w' : World) : Prop := Below w.heap.size w w' ∧ ∃ A n c, e = .returned (.tuple #[.slice A n c, .int .i64 q.2]) ∧ TermR (fresh w w') w' A n c q.1
def RowEO (q : List Nd × Int) (w : World) (e : Ending) (w' : World) : Prop := Below w.heap.size w w' ∧ ∃ A n c, e = .returned (.tuple #[.slice A n c, .int .i64 q.2]) ∧ OwnN w' w.heap.size (.slice A n c) q.1
theorem rowEO_nil {q : List Nd × Int} {w w' : World} {z : Int} (hq : q = ([], z)) (hb : Below w.heap.size w w') : RowEO q w (.returned (.tuple #[.slice none 0 0, .int .i64 z])) w' := by
 subst hq
 exact ⟨hb, none, 0, 0, rfl, OwnN.nil _ _⟩
theorem applyR_few (f : List Nd) (args : List (List Nd)) : (applyR f args).1.length ≤ 4096 := by
 unfold applyR
 split
 · simp
 split
 · simp
 split
 · simp
 rw [List.length_append, List.length_append, List.length_replicate]
 omega
set_option linter.unusedSimpArgs false in
theorem apply_own {A B : Option Addr} {n c m d : Nat} {f : List Nd} {args : List (List Nd)} {w : World} (hf : TermV w A n c f) (ha : RowsR (· < w.heap.size) w B m d args) (hnul : B = none → d = 0) :
 Calls Try.prog 56 #[.slice A n c, .slice B m d] w (RowEO (applyR f args) w) := by
 obtain ⟨i0, hi, hy0, hy1, hy2⟩ := info_parts infoN'
 have HI0 := hid hi
 have HY0 := hid hy0
 have HY1 := hid hy1
 have HY2 := hid hy2
 obtain ⟨i1, hi', hy0', hy1', hy2'⟩ := info_parts infoR
 have HI1 := hid hi'
 have HZ0 := hid hy0'
 have HZ1 := hid hy1'
 have HZ2 := hid hy2'
 clear hi hy0 hy1 hy2 hi' hy0' hy1' hy2'
 have HF := hid hf
 have HA := hid ha
 have HN := hid hnul
 have hfm := ha.few
 have hfn := hf.few
 have HSH := hid (shape_any hf)
 clear hf ha hnul
 by_cases hsf : shapeI f = 0
 rotate_left
 · have HQ : Hid (applyR f args = ([], shapeI f)) := hid (by unfold applyR; rw [if_pos hsf])
   have hz : (shapeI f != 0) = true := by simpa using hsf
   generalize shapeI f = z at *
   clear hsf
   go_in
   go_wp2_with fail
   refine (HSH.out).mono ?_
   rintro e w2 ⟨rfl, hb2⟩
   have HB2 := hid hb2
   clear hb2
   go_wp2_with fail
   go_ret2
   exact rowEO_nil HQ.out HB2.out
 have hn4 : n ≤ 4096 ∧ 0 < n := by
  obtain ⟨h1, _, _, _, _, h2, _⟩ := shape_ok hsf
  rw [HF.out.len] at h1
  have := HF.out.len
  rw [h2] at this
  simp at this
  omega
 obtain ⟨hn4, hn0⟩ := hn4
 rw [hsf] at HSH
 have HSF := hid hsf
 clear hsf
 go_in
 go_wp2_with fail
 refine (HSH.out).mono ?_
 rintro e w2 ⟨rfl, hb2⟩
 have HB2 := hid hb2
 clear hb2
 go_wp2_with fail
 go_loopw [7, 21] (fun av iv wr => ∃ (i T : Nat), i ≤ m ∧ iv = .int .i64 (i : Int) ∧ av = .int .i64 (T : Int) ∧ T ≤ 4097 ∧ Hid (T = min (n + ((args.take i).flatten.length + i)) 4097) ∧ Hid (firstBad (args.take i) = 0) ∧ Hid (Below w.heap.size w wr)) (fun _ i _ => m - (intOf i).toNat)
 case atStart => exact ⟨0, n, by omega, rfl, rfl, by omega, hid (by simp; omega), hid rfl, HB2⟩
 case round =>
  obtain ⟨i, T, hi, rfl, rfl, hT, hTT, hbad, hbw⟩ := hrel
  by_cases hlt : i < m
  · obtain ⟨b, off, rfl, hb, hm⟩ := HA.out.mem (by omega)
    obtain ⟨A', n', c', hc, ht⟩ := hm i hlt
    have hc2 : wr.cell? ⟨b, off + i, none⟩ = some (.slice A' n' c') := (hbw.out.cell (p := ⟨b, off + i, none⟩) hb).trans hc
    have HS := hid (shape_any (TermV.below ht hbw.out))
    have HNX := hid (firstBad_next (args := args) (by rw [HA.out.len]; exact hlt) hbad.out)
    have HFL := hid (flat_take args (by rw [HA.out.len]; exact hlt) [])
    have HTL := hid ht.len
    have hfw := ht.few
    generalize args.getD i [] = a at *
    clear hm hc ht
    by_cases hsa : shapeI a = 0
    · rw [hsa] at HS
      have HB1 := hid (HNX.out.1 hsa)
      obtain ⟨T', hT'⟩ : ∃ T', T' = min (T + 1 + n') 4097 := ⟨_, rfl⟩
      have hTi : min ((T : Int) + 1 + (n' : Int)) 4097 = (T' : Int) := by omega
      have HT' : Hid (T' = min (n + ((args.take (i + 1)).flatten.length + (i + 1))) 4097) := hid (by
       rw [HFL.out, List.length_append, HTL.out, hT', hTT.out]
       omega)
      have hT'l : T' ≤ 4097 := by omega
      clear hsa hT'
      go_wp2_with fail
      refine (HS.out).mono ?_
      rintro e w3 ⟨rfl, hb3⟩
      have HB3 := bto hbw hb3
      clear hb3
      go_wp2_with fail
      go_roundw
      case rel => exact ⟨i + 1, T', by omega, by go_num, by first | rw [← hTi]; rfl | go_num, hT'l, HT', HB1, HB3⟩
      case measure => simp [intOf]; omega
    have HQ : Hid (applyR f args = ([], shapeI a)) := hid (by
     have h1 := HNX.out.2 hsa
     unfold applyR
     rw [if_neg (by rw [HSF.out]; decide), if_pos (by rw [h1]; exact hsa), h1])
    generalize shapeI a = z at *
    have hz : (z != 0) = true := by simpa using hsa
    clear hsa
    go_wp2_with fail
    refine (HS.out).mono ?_
    rintro e w3 ⟨rfl, hb3⟩
    have HB3 := bto hbw hb3
    clear hb3
    go_wp2_with fail
    go_ret2
    exact rowEO_nil HQ.out HB3.out
  have hie : i = m := by omega
  have HFA : Hid (args.take i = args) := hid (List.take_of_length_le (by rw [HA.out.len]; omega))
  have hbad2 := hbad.out
  have hTT2 := hTT.out
  rw [HFA.out] at hbad2 hTT2
  rw [hie] at hTT2
  clear hie
  by_cases hbig : 4096 < T
  · have HQ : Hid (applyR f args = ([], 9)) := hid (by
     unfold applyR
     rw [if_neg (by rw [HSF.out]; decide), if_neg (by rw [hbad2]; decide), if_pos (by rw [HF.out.len, HA.out.len]; omega)])
    clear hbad2 hTT2
    go_wp2_with fail
    go_ret2
    exact rowEO_nil HQ.out hbw.out
  have HQ : Hid (applyR f args = (List.replicate m ⟨6, 0, 0⟩ ++ (f ++ args.flatten), 0)) := hid (by
   unfold applyR
   rw [if_neg (by rw [HSF.out]; decide), if_neg (by rw [hbad2]; decide), if_neg (by rw [HF.out.len, HA.out.len]; omega), HA.out.len])
  have hml : m ≤ 4096 := by omega
  have hfl : args.flatten.length + n ≤ 4096 := by omega
  obtain ⟨cur, hcur, hmk⟩ := make_cap T (by omega) wr
  have HO1 : Hid (OwnN (wr.alloc (.cells cur 50)) w.heap.size (.slice (some ⟨wr.heap.size, 0, none⟩) 0 T) []) := hid (World.ownsRow_made wr cur T hbw.out.size (by unfold maxLen; omega) hcur)
  have HB1 := hid (hbw.out.alloc hbw.out.size (.cells cur 50))
  clear hbad2 hTT2 hcur
  go_wp2_with fail
  go_loopw [11, 43] (fun ov iv wr => ∃ (k k1 : Nat) (A1 : Option Addr), k ≤ m ∧ iv = .int .i64 (k : Int) ∧ ov = .slice A1 k k1 ∧ Hid (OwnN wr w.heap.size (.slice A1 k k1) (List.replicate k ⟨6, 0, 0⟩)) ∧ Hid (Below w.heap.size w wr)) (fun _ i _ => m - (intOf i).toNat)
  case atStart => exact ⟨0, T, _, by omega, rfl, rfl, HO1, HB1⟩
  case round =>
   clear hmk
   obtain ⟨k, k1, A1, hk, rfl, rfl, hown, hbw⟩ := hrel
   have hbs := hbw.out.size
   by_cases hlt2 : k < m
   · have HOW : Hid (OwnN wr w.heap.size (.slice A1 (List.replicate k (⟨6, 0, 0⟩ : Nd)).length k1) (List.replicate k ⟨6, 0, 0⟩)) := hid (by rw [List.length_replicate]; exact hown.out)
     go_wp2_with (at_builtin; refine wpList_oper rfl (oper_append_node (.tmp 45) (.tmp 47) 29 rfl w.heap.size i0 Try.underlying29 HI0.out HY0.out HY1.out HY2.out (.slice A1 (List.replicate k (⟨6, 0, 0⟩ : Nd)).length k1) (List.replicate k ⟨6, 0, 0⟩) ⟨6, 0, 0⟩ wr (by rfl) (by rw [List.length_replicate]; rfl) HOW.out _ (by rfl) (by simp) (by simp; omega) (by omega) ?_); intro A4 c4 w4 hown4 happ4)
     have HO4 : Hid (OwnN w4 w.heap.size (.slice A4 (k + 1) c4) (List.replicate (k + 1) ⟨6, 0, 0⟩)) := hid (by
      have := hown4
      rw [List.length_replicate, ← List.replicate_succ'] at this
      exact this)
     have HB4 := hid (hbw.out.grown happ4.grown hbs (fun g hg => (ownsRow_block HOW.out hg).1))
     clear hown4 happ4
     go_roundw
     case rel => exact ⟨k + 1, c4, A4, by omega, by go_num, rfl, HO4, HB4⟩
     case measure => simp [intOf]; omega
   have hkm : k = m := by omega
   rw [hkm] at hown
   rw [hkm]
   clear hkm hlt2
   obtain ⟨xs, hxl, hxc, hxr, hx1⟩ := RowsR.values (rows_below HA.out (hbw.out.alloc hbs (.cells #[.slice A n c] 29)))
   have HLIT : Hid ((wr.alloc (.cells #[.slice A n c] 29)).ownsRow w.heap.size 29 1 (.slice (some ⟨wr.heap.size, 0, none⟩) 1 1) 1 [.slice A n c]) := hid ⟨by simp, .inr ⟨wr.heap.size, 1, #[.slice A n c], rfl, hbs, heap_alloc_new wr _, by omega, by unfold maxLen; omega, rfl, rfl⟩⟩
   have HXC := hid hxc
   have HXR := hid hxr
   have HX1 := hid hx1
   have hnone : B = none → m = 0 ∧ d = 0 := fun e => ⟨by
    by_cases h0 : 0 < m
    · obtain ⟨b, off, e2, _⟩ := HA.out.mem h0
      rw [e] at e2; cases e2
    omega, HN.out e⟩
   have HNO := hid hnone
   have HCL : Hid (0 < (f :: args).flatten.length ∧ (f :: args).flatten.length ≤ 1000000) := hid (by
    have := HF.out.len
    rw [List.flatten_cons, List.length_append]
    omega)
   clear hxc hxr hx1 hnone
   go_wp2_with (first
    | (at_builtin; refine wpList_oper rfl (oper_append_mine (.tmp 52) (.tmp 53) 59 rfl w.heap.size 29 i1 _ 1 24 Try.underlying59 HI1.out HZ0.out HZ1.out HZ2.out rfl (by decide) (.slice (some ⟨wr.heap.size, 0, none⟩) 1 1) 1 [.slice A n c] rfl HLIT.out B m d xs rfl (by omega) HNO.out HXC.out HX1.out (by unfold maxLen; omega) (by omega) (Nat.le_trans hbs (by simp)) ?_); intro A5 c5 w5 happ5; go_loud (have HB5 : Hid (Below w.heap.size w w5) := hid ((hbw.out.alloc hbs (.cells #[.slice A n c] 29)).grown happ5.grown (Nat.le_trans hbs (by simp)) (fun g hg => (ownsRow_block HLIT.out hg).1))); go_loud (have HO5 : Hid (OwnN w5 w.heap.size (.slice A1 m k1) (List.replicate m ⟨6, 0, 0⟩)) := hid (own_lit hown.out happ5.grown)); go_loud (have HR5 := hid (own_rows (ls := f :: args) happ5.own (by simp; have := HA.out.len; omega) (by omega) (show RowsC (· < w.heap.size) w5 ([.slice A n c] ++ xs) (f :: args) from ⟨⟨A, n, c, rfl, HF.out.keep fun b hb => ⟨hb, fun o => HB5.out.cell (p := ⟨b, o, none⟩) hb⟩⟩, HXR.out.keep fun b hb => ⟨hb, fun o => (HB5.out.cell (p := ⟨b, o, none⟩) hb).trans ((hbw.out.alloc hbs (.cells #[.slice A n c] 29)).cell (p := ⟨b, o, none⟩) hb).symm⟩⟩) (fun b hb => Nat.lt_of_lt_of_le hb HB5.out.size))))
    | (go_at_call 80; refine (concat_any HR5.out HCL.out.1 HCL.out.2).mono ?_; rintro e w6 ⟨hb6, A6, n6, c6, rfl, ht6⟩; have HB6 := bto HB5 hb6; have HO6 := hid (OwnN.below HO5.out hb6); have HT6 := hid ht6; have HL6 := hid ht6.len)
    | (at_builtin; refine wpList_oper rfl (oper_append_row (.tmp 50) (.tmp 55) 29 29 rfl w.heap.size i0 Try.underlying29 Try.underlying29 HI0.out HY0.out HY1.out HY2.out (.slice A1 m k1) (List.replicate m ⟨6, 0, 0⟩) (f :: args).flatten rfl HO6.out rfl HT6.out (by have := HL6.out; have := HCL.out.2; rw [List.length_replicate]; omega) HB6.out.size ?_); intro A7 c7 w7 hown7 happ7))
   go_ret2
   rw [HQ.out]
   refine ⟨HB6.out.grown happ7.grown HB6.out.size (fun g hg => (ownsRow_block HO6.out hg).1), A7, _, c7, rfl, ?_⟩
   have h7 := hown7
   rw [List.flatten_cons, List.length_replicate] at h7
   exact h7
theorem apply_any {A B : Option Addr} {n c m d : Nat} {f : List Nd} {args : List (List Nd)} {w : World} (hf : TermV w A n c f) (ha : RowsR (· < w.heap.size) w B m d args) (hnul : B = none → d = 0) :
 Calls Try.prog 56 #[.slice A n c, .slice B m d] w (RowEPost (applyR f args) w) := by
 refine (apply_own hf ha hnul).mono ?_
 rintro e w' ⟨hb, A', n', c', rfl, ho⟩
 have := applyR_few f args
 exact ⟨hb, A', n', c', rfl, own_fresh ho (by omega)⟩
def CloneRP (vs : List Value) (w : World) (e : Ending) (w' : World) : Prop := Below w.heap.size w w' ∧ ∃ A c, e = .returned (.slice A vs.length c) ∧ w'.ownsRow w.heap.size 29 1 (.slice A vs.length c) vs.length vs
theorem cloneR_any {A : Option Addr} {base n c : Nat} {vs : List Value} {w : World} (h : w.ownsRow base 29 1 (.slice A n c) n vs) (h1 : ∀ u ∈ vs, u.oneCell' = true) (hn : n ≤ 1000000) :
 Calls Try.prog 81 #[.slice A n c] w (CloneRP vs w) := by
 have q22 : ∀ (w : World) (a : Option Addr) (n c n' c' : Nat), (binOp .eql 59 (.slice a n c) (.slice none n' c')).run Try.prog w = .ok (.bool a.isNone) w := fun w a n c n' c' => Lib.run_eql_slice_nil w _ _ a n c n' c' Try.underlying59
 have hl : vs.length = n := by have := h.1; omega
 cases A with
 | none =>
  have hn0 : n = 0 := by
   rcases h.2 with ⟨_, h2⟩ | ⟨g, cap', cur, hv, _⟩
   · exact h2
   cases hv
  subst hn0
  have hvs : vs = [] := List.eq_nil_of_length_eq_zero hl
  subst hvs
  clear h h1 hl hn
  go_in
  go_wp2_with fail
  go_ret
  exact ⟨Below.refl _ _, none, 0, rfl, World.ownsRow_nil _ _ _ _⟩
 | some a =>
  obtain ⟨i0, hi, hy0, hy1, hy2⟩ := info_parts infoR
  have HI0 := hid hi
  have HY0 := hid hy0
  have HY1 := hid hy1
  have HY2 := hid hy2
  clear hi hy0 hy1 hy2
  have HB := hid (below_alloc w (.cells #[] 29))
  have HM := hid (own_below h HB.out)
  have HOWN : Hid ((w.alloc (.cells #[] 29)).ownsRow w.heap.size 29 1 (.slice (some ⟨w.heap.size, 0, none⟩) 0 0) 0 []) := hid (World.ownsRow_made w #[] 0 (Nat.le_refl _) (Nat.zero_le _) rfl)
  have HL := hid hl
  have HX : Hid (∀ ad, some a = some ad → ∀ j u, vs[j]? = some u → (w.alloc (.cells #[] 29)).cell? (ad.add j) = some u) := hid fun ad e j u hu => by
   injection e with e
   subst e
   rcases HM.out.2 with ⟨hv, _⟩ | ⟨g, cap', cur, hv, _⟩
   · cases hv
   injection hv with e1 e2 e3
   injection e1 with e1
   subst e1
   exact World.ownsRow.cells HM.out (g := g) rfl j u hu
  have H1 := hid h1
  clear h hl h1
  go_in
  go_wp2_with (at_builtin; go_loud (refine wpList_oper rfl (oper_append_mine (.tmp 5) (.tmp 6) 59 rfl w.heap.size 29 i0 _ 1 24 Try.underlying59 HI0.out HY0.out HY1.out HY2.out rfl (by decide) (.slice (some ⟨w.heap.size, 0, none⟩) 0 0) 0 [] rfl HOWN.out (some a) n c vs rfl (by rw [HL.out, Nat.mul_one]) (fun e => by cases e) HX.out H1.out (by unfold maxLen; omega) (by omega) (by simp) ?_)); intro A4 c4 w4 happ4)
  go_ret
  refine ⟨HB.out.grown happ4.grown HB.out.size (fun g hg => (ownsRow_block HOWN.out hg).1), A4, c4, ?_, ?_⟩
  · rw [HL.out]; first | rfl | (rw [Nat.zero_add]; rfl)
  have := happ4.own
  rw [List.nil_append, Nat.zero_add] at this
  rw [HL.out]
  exact this
end Go.Proofs.Ytjoddliplahgkaa
