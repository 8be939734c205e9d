/- Shape: is a row a term? Lift: its variables from one on higher. -/
import Derived.Test.YtnmeglbamfjcgaaRaised
import Derived.Test.YtnmeglbamfjcgaaEnd
namespace Go.Proofs.Ytnmeglbamfjcgaa
open Go.RowKit

def shapeI (l : List Nd) : Int := if 4096 < l.length then 9 else if endI l 0 = l.length then 0 else 8

set_option maxRecDepth 100000 in
set_option maxHeartbeats 400000 in
theorem shape_any {A : Option Addr} {nn c : Nat} {l : List Nd} {w : World} (h : TermV w A nn c l) :
    Calls Try.prog 19 #[.slice A nn c] w (IntPost (shapeI l) w) := by
  have hfew := h.few
  have hlen := h.len
  by_cases h1 : 4096 < nn
  · have hs : shapeI l = 9 := by unfold shapeI; rw [if_pos (by omega)]
    have HS := Lib.hid hs
    have h1b : (4096 : Int) < (nn : Int) := by omega
    clear hs hlen
    go_enter Try.func19, Try.ntmps19
    go_wp2_with fail
    go_ret
    exact ⟨ret_int HS.out.symm, Below.refl _ _⟩
  · have h1b : decide ((4096 : Int) < (nn : Int)) = false := by simp; omega
    by_cases h2 : endI l 0 = nn
    · have hs : shapeI l = 0 := by unfold shapeI; rw [if_neg (by omega), if_pos (by omega)]
      have HS := Lib.hid hs
      have h2b : (endI l 0 != (nn : Int)) = false := by simp [h2]
      clear hs hlen h2
      go_enter Try.func19, Try.ntmps19
      go_wp2_with (go_at_call 26; refine (end_any h 0).mono ?_; rintro e w2 ⟨rfl, hb2⟩)
      go_ret
      exact ⟨ret_int HS.out.symm, hb2⟩
    · have hs : shapeI l = 8 := by unfold shapeI; rw [if_neg (by omega), if_neg (by omega)]
      have HS := Lib.hid hs
      have h2b : (endI l 0 != (nn : Int)) = true := by simp [h2]
      clear hs hlen h2
      go_enter Try.func19, Try.ntmps19
      go_wp2_with (go_at_call 26; refine (end_any h 0).mono ?_; rintro e w2 ⟨rfl, hb2⟩)
      go_ret
      exact ⟨ret_int HS.out.symm, hb2⟩

theorem fsize_le_row : ∀ (F : Fo), fsize F ≤ (row F).length
  | .nil => Nat.le_refl _
  | .cons p n a k x => by
    have h1 := fsize_le_row k
    have h2 := fsize_le_row x
    simp only [fsize, row, List.length_append, List.length_cons]
    omega

/-- A row that is right is one tree. -/
theorem shape_ok {l : List Nd} (h : shapeI l = 0) : l.length ≤ 4096 ∧ ∃ n ats k, pp [false] l = some (.cons [] n ats k .nil, []) ∧ l = n :: (ats ++ row k) ∧ fsize k ≤ 4096 := by
  unfold shapeI at h
  split at h
  · cases h
  · split at h
    · rename_i h1 h2
      refine ⟨by omega, ?_⟩
      unfold endI at h2
      split at h2
      · rename_i h3
        split at h2
        · rename_i q hq
          simp only [ends, Option.map_eq_some_iff, Int.toNat_zero, List.drop_zero] at hq
          obtain ⟨x, hx, hxl⟩ := hq
          obtain ⟨n, ats, k, hn⟩ := pp_one hx
          have hr := pp_row hx
          have hrl := congrArg List.length hr
          rw [List.length_append] at hrl
          have h0 : x.2 = [] := List.eq_nil_of_length_eq_zero (by omega)
          obtain ⟨x1, x2⟩ := x
          simp only at hn h0 hr hx
          subst hn h0
          have hl : l = n :: (ats ++ row k) := by simpa [row] using hr
          refine ⟨n, ats, k, hx, hl, ?_⟩
          have h5 := fsize_le_row k
          have h6 := congrArg List.length hl
          simp only [List.length_cons, List.length_append] at h6
          omega
        · omega
      · omega
    · cases h

def liftT (l : List Nd) (up fr : Int) : List Nd × Int :=
  match pp [false] l with
  | some (.cons _ n ats k _, _) => if (raV up (min fr 1048577)).G1 0 () n k = true then ((raV up (min fr 1048577)).E1 0 () n ats k, 0) else ([], 6)
  | _ => ([], 0)
def liftR (l : List Nd) (up fr : Int) : List Nd × Int := if shapeI l = 0 then (if up < 0 ∨ fr < 0 then ([], 1) else liftT l up fr) else ([], shapeI l)
theorem raV_len (up fr : Int) (pop pb : Int) : ∀ (j : Nat) (a : Int) (F : Fo), ((raV up fr).E pop pb j a () F).length = (row F).length
  | _, _, .nil => rfl
  | j, a, .cons p n at' k x => by
    rw [Vis.E_cons, Vis.E1]
    have h1 := raV_len up fr n.op n.b 0 (a + aroundI pop pb j) k
    have h2 := raV_len up fr pop pb (j + 1) a x
    have h3 : ((raV up fr).em () n (a + aroundI pop pb j)).length = 1 := by
      simp only [raV]; split <;> rfl
    simp only [List.length_append, row, List.length_cons]
    have e : ∀ s : Unit, s = () := fun _ => rfl
    rw [e ((raV up fr).nx () n (a + aroundI pop pb j)), e ((raV up fr).S1 (a + aroundI pop pb j) () n k), h1, h2, h3]
    omega
theorem raV_len1 (up fr : Int) (a : Int) (n : Nd) (ats : List Nd) (k : Fo) : ((raV up fr).E1 a () n ats k).length = (n :: (ats ++ row k)).length := by
  have h3 : ((raV up fr).em () n a).length = 1 := by simp only [raV]; split <;> rfl
  have e : ∀ s : Unit, s = () := fun _ => rfl
  rw [Vis.E1, List.length_append, List.length_append, h3, e ((raV up fr).nx () n a), raV_len]
  simp only [List.length_cons, List.length_append]; omega

/-- A row of new memory, and an error. -/
def RowErr (r : List Nd × Int) (w : World) (e : Ending) (w' : World) : Prop := Below w.heap.size w w' ∧ ∃ A n c, e = .returned (.tuple #[.slice A n c, .int .i64 r.2]) ∧ OwnN w' w.heap.size (.slice A n c) r.1

theorem row_err_nil {r : List Nd × Int} {x : Int} {w w' : World} (hb : Below w.heap.size w w') (hr : r = ([], x)) : RowErr r w (.returned (.tuple #[.slice none 0 0, .int .i64 x])) w' := by
  subst hr
  exact ⟨hb, _, _, _, rfl, OwnN.nil _ _⟩

theorem lift_end' {r : List Nd × Int} {w w2 w' : World} {A : Option Addr} {m c : Nat} {l : List Nd} (hb : Below w.heap.size w w2) (hm : Moved (fun _ => False) (Value.slice none ([] : List Nd).length 0).ownBlock w2 w') (hr : r = (l, 0)) (hown : OwnN w' w.heap.size (.slice A m c) ([] ++ l)) : RowErr r w (.returned (.tuple #[.slice A m c, .int .i64 0])) w' := by
  subst hr
  exact ⟨hb.trans (hm.to_below hb.size (fun _ h => h.elim) (fun g hg => by simp [Value.ownBlock] at hg)), _, _, _, rfl, hown⟩

set_option maxRecDepth 100000 in
set_option maxHeartbeats 1000000 in
theorem lift_any {A : Option Addr} {nn c : Nat} {l : List Nd} {w : World} (h : TermV w A nn c l) (up fr : Int) (hup : up ≤ 9223372036854775807) :
    Calls Try.prog 20 #[.slice A nn c, .int .i64 up, .int .i64 fr] w (RowErr (liftR l up fr) w) := by
  by_cases hs : shapeI l = 0
  · obtain ⟨hl, n, ats, k, hpp, hrow, hfs⟩ := shape_ok hs
    have hsb : (shapeI l != 0) = false := by simp [hs]
    by_cases h1 : up < 0
    · have hr : liftR l up fr = ([], 1) := by unfold liftR; rw [if_pos hs, if_pos (.inl h1)]
      have HR := Lib.hid hr
      have HS := Lib.hid hs
      clear hr hs hpp hrow
      go_enter Try.func20, Try.ntmps20
      go_wp2_with (go_at_call 19; refine (shape_any h).mono ?_; rintro e w2 ⟨rfl, hb2⟩)
      go_ret2
      exact row_err_nil hb2 HR.out
    · by_cases h2 : fr < 0
      · have hr : liftR l up fr = ([], 1) := by unfold liftR; rw [if_pos hs, if_pos (.inr h2)]
        have h1b : decide (up < 0) = false := by simp; omega
        have HR := Lib.hid hr
        have HS := Lib.hid hs
        clear hr hs hpp hrow h1
        go_enter Try.func20, Try.ntmps20
        go_wp2_with (go_at_call 19; refine (shape_any h).mono ?_; rintro e w2 ⟨rfl, hb2⟩)
        go_ret2
        exact row_err_nil hb2 HR.out
      · have h1b : decide (up < 0) = false := by simp; omega
        have h2b : decide (fr < 0) = false := by simp; omega
        have hup0 : 0 ≤ up := by omega
        have hfr0 : 0 ≤ fr := by omega
        have hr : liftR l up fr = liftT l up fr := by unfold liftR; rw [if_pos hs, if_neg (by omega)]
        have hlt : liftT l up fr = if (raV up (min fr 1048577)).G1 0 () n k = true then ((raV up (min fr 1048577)).E1 0 () n ats k, 0) else ([], 6) := by unfold liftT; rw [hpp]
        have hlen : ∀ f, ((raV up f).E1 0 () n ats k).length ≤ 1000000000000 := fun f => by rw [raV_len1, ← hrow]; omega
        have HR := Lib.hid (hr.trans hlt)
        have HS := Lib.hid hs
        have HPP := Lib.hid hpp
        have HLEN := Lib.hid hlen
        have H := Lib.hid h
        clear hr hs hpp hrow hlt h1 h2 hlen
        by_cases hm : fr ≤ 1048577
        · have hmf : min fr 1048577 = fr := by omega
          have HR2 := HR.out
          rw [hmf] at HR2
          have HR3 := Lib.hid HR2
          clear HR2 hmf
          go_enter Try.func20, Try.ntmps20
          go_wp2_with (go_at_call 19; refine (shape_any H.out).mono ?_; rintro e w2 ⟨rfl, hb2⟩)
          refine (raised_any (base := w.heap.size) (R := (· < w.heap.size)) hb2.size (fun b hb => Nat.lt_of_lt_of_le hb hb2.size) (H.out.keep fun b hb => ⟨hb, fun o => cell_of_heap (hb2.block b hb) o⟩) (OwnN.nil _ _) (fun g hg => by simp [Value.ownBlock] at hg) HPP.out (by omega) (by simpa using HLEN.out fr) hup0 hup hfr0 (by omega)).mono ?_
          rintro e w3 ⟨hm3, (⟨hg, v', rfl, hown, hnr⟩ | ⟨hg, rfl⟩)⟩
          · obtain ⟨A', c', rfl⟩ := hown.slice
            have HOWN := Lib.hid hown
            have HG := Lib.hid hg
            clear hown hg
            go_wp2_with fail
            go_ret2
            exact lift_end' hb2 hm3 (by rw [HR3.out, if_pos HG.out]) HOWN.out
          · have HG := Lib.hid hg
            clear hg
            go_wp2_with fail
            go_ret2
            exact row_err_nil (hb2.trans (hm3.to_below hb2.size (fun _ h => h.elim) (fun g hg => by simp [Value.ownBlock] at hg))) (by rw [HR3.out, if_neg (by rw [HG.out]; simp)])
        · have hmf : min fr 1048577 = 1048577 := by omega
          have hm' : 1048577 < fr := by omega
          have HR2 := HR.out
          rw [hmf] at HR2
          have HR3 := Lib.hid HR2
          clear HR2 hmf hm
          go_enter Try.func20, Try.ntmps20
          go_wp2_with (go_at_call 19; refine (shape_any H.out).mono ?_; rintro e w2 ⟨rfl, hb2⟩)
          refine (raised_any (base := w.heap.size) (R := (· < w.heap.size)) hb2.size (fun b hb => Nat.lt_of_lt_of_le hb hb2.size) (H.out.keep fun b hb => ⟨hb, fun o => cell_of_heap (hb2.block b hb) o⟩) (OwnN.nil _ _) (fun g hg => by simp [Value.ownBlock] at hg) HPP.out (by omega) (by simpa using HLEN.out 1048577) hup0 hup (by omega) (by omega)).mono ?_
          rintro e w3 ⟨hm3, (⟨hg, v', rfl, hown, hnr⟩ | ⟨hg, rfl⟩)⟩
          · obtain ⟨A', c', rfl⟩ := hown.slice
            have HOWN := Lib.hid hown
            have HG := Lib.hid hg
            clear hown hg
            go_wp2_with fail
            go_ret2
            exact lift_end' hb2 hm3 (by rw [HR3.out, if_pos HG.out]) HOWN.out
          · have HG := Lib.hid hg
            clear hg
            go_wp2_with fail
            go_ret2
            exact row_err_nil (hb2.trans (hm3.to_below hb2.size (fun _ h => h.elim) (fun g hg => by simp [Value.ownBlock] at hg))) (by rw [HR3.out, if_neg (by rw [HG.out]; simp)])
  · have hr : liftR l up fr = ([], shapeI l) := by unfold liftR; rw [if_neg hs]
    have hsb : (shapeI l != 0) = true := by simp [hs]
    have HR := Lib.hid hr
    have HS := Lib.hid hs
    clear hr hs
    go_enter Try.func20, Try.ntmps20
    go_wp2_with (go_at_call 19; refine (shape_any h).mono ?_; rintro e w2 ⟨rfl, hb2⟩)
    go_ret2
    exact row_err_nil hb2 HR.out

end Go.Proofs.Ytnmeglbamfjcgaa
