/- Subst: a term in a variable's place. -/
import Derived.Test.YtjoddliplahgkaaDSubst1
namespace Go.Proofs.Ytjoddliplahgkaa
open Go.Lib (hid)
set_option maxHeartbeats 2000000
set_option maxRecDepth 100000
open Go.RowKit
theorem pars_allok : ∀ (f : Nat) (dl : List Bool) (l : List Nd) (x : Fo × List Nd), pars f dl l = some x → AllOk x.1
 | 0, _, _, _, h => by simp [pars] at h
 | _ + 1, [], l, x, h => by simp only [pars, Option.some.injEq] at h; subst h; trivial
 | f + 1, d :: dr, l, x, h => by
  simp only [pars, Option.bind_eq_some_iff] at h
  obtain ⟨p, hp, h⟩ := h
  split at h
  · cases h
  · split at h
    · rename_i hok
      simp only [Option.bind_eq_some_iff] at h
      obtain ⟨q, hq, k, hk, y, hy, h⟩ := h
      simp only [Option.some.injEq] at h
      subst h
      exact ⟨hok, pars_allok f _ _ _ hk, pars_allok f _ _ _ hy⟩
    cases h
theorem pp_allok {dl : List Bool} {l : List Nd} {x : Fo × List Nd} (h : pp dl l = some x) : AllOk x.1 := pars_allok _ _ _ _ h
def cnF (x : Int) (pop pb : Int) : Nat → Int → Fo → Int
 | _, _, .nil => 0
 | j, a, .cons _ n _ k y => (if n.op = 1 ∧ n.a - (a + aroundI pop pb j) = x then 1 else 0) + cnF x n.op n.b 0 (a + aroundI pop pb j) k + cnF x pop pb (j + 1) a y
def dpF (x : Int) (pop pb : Int) : Nat → Int → Int → Fo → Int
 | _, _, d, .nil => d
 | j, a, d, .cons _ n _ k y => dpF x pop pb (j + 1) a (dpF x n.op n.b 0 (a + aroundI pop pb j) (if n.op = 1 ∧ n.a - (a + aroundI pop pb j) = x then max d (a + aroundI pop pb j) else d) k) y
def cnT (x : Int) (n : Nd) (k : Fo) : Int := (if n.op = 1 ∧ n.a = x then 1 else 0) + cnF x n.op n.b 0 0 k
def dpT (x : Int) (n : Nd) (k : Fo) : Int := dpF x n.op n.b 0 0 0 k
theorem cnF_bd (x : Int) (pop pb : Int) : ∀ (j : Nat) (a : Int) (F : Fo), 0 ≤ cnF x pop pb j a F ∧ cnF x pop pb j a F ≤ fsize F
 | _, _, .nil => by simp [cnF, fsize]
 | j, a, .cons p n at' k y => by
  have h1 := cnF_bd x n.op n.b 0 (a + aroundI pop pb j) k
  have h2 := cnF_bd x pop pb (j + 1) a y
  simp only [cnF, fsize]
  split <;> omega
theorem tiM_nx (x : Int) (m d : Int) (n : Nd) (a : Int) (h0 : 0 ≤ m) (h1 : m ≤ 1000000000000) : (eaV (tiM x)).nx (false, (m, d)) n a = (false, (m + (if n.op = 1 ∧ n.a - a = x then 1 else 0), if n.op = 1 ∧ n.a - a = x then max d a else d)) := by
 have hw : wrap64 (m + 1) = m + 1 := by unfold wrap64; omega
 simp only [eaV, tiM]
 by_cases h : n.op = 1
 · by_cases h2 : n.a - a = x
   · simp [h, h2, hw]
   simp [h, h2]
 simp [h]
theorem tiM_S (x : Int) (pop pb : Int) : ∀ (j : Nat) (a m d : Int) (F : Fo), 0 ≤ m → m + fsize F ≤ 1000000000000 → (eaV (tiM x)).S pop pb j a (false, (m, d)) F = (false, (m + cnF x pop pb j a F, dpF x pop pb j a d F))
 | _, _, m, d, .nil, _, _ => by simp [Vis.S, cnF, dpF]
 | j, a, m, d, .cons p n at' k y, h0, h1 => by
  simp only [fsize] at h1
  have hc := cnF_bd x n.op n.b 0 (a + aroundI pop pb j) k
  rw [Vis.S_cons, Vis.S1, tiM_nx x m d n _ h0 (by omega)]
  rw [tiM_S x n.op n.b 0 _ _ _ k (by split <;> omega) (by split <;> omega)]
  rw [tiM_S x pop pb (j + 1) a _ _ y (by split <;> omega) (by split <;> omega)]
  simp only [cnF, dpF, Prod.mk.injEq, true_and, and_true]
  omega
theorem eachR_ti (x : Int) (n : Nd) (k : Fo) (h : fsize k ≤ 10000) : (eachR (tiM x) (0, 0) n k).2 = (cnT x n k, dpT x n k) := by
 have hz : (0 : Int) ≤ (if n.op = 1 ∧ n.a = x then (1 : Int) else 0) ∧ (if n.op = 1 ∧ n.a = x then (1 : Int) else 0) ≤ 1 := by split <;> omega
 have e : n.a - 0 = n.a := by omega
 rw [eachR, Vis.S1, tiM_nx x 0 0 n 0 (by omega) (by omega), e, tiM_S x _ _ _ _ _ _ _ (by omega) (by omega)]
 have e2 : (if n.op = 1 ∧ n.a = x then max (0 : Int) 0 else 0) = 0 := by split <;> rfl
 rw [e2]
 simp only [cnT, dpT, Int.zero_add]
theorem dpF_bd (x : Int) (pop pb : Int) (hp : ∀ j : Int, 0 ≤ aroundI pop pb j ∧ aroundI pop pb j ≤ 4) : ∀ (j : Nat) (a d : Int) (F : Fo), AllOk F → 0 ≤ a → 0 ≤ d → 0 ≤ dpF x pop pb j a d F ∧ dpF x pop pb j a d F ≤ max d (a + 4 * fsize F)
 | _, _, d, .nil, _, ha, hd => by simp only [dpF, fsize]; omega
 | j, a, d, .cons p n at' k y, hok, ha, hd => by
  have h0 := hp j
  have h1 := dpF_bd x n.op n.b (fun j => aroundI_bd hok.1 j) 0 (a + aroundI pop pb j) (if n.op = 1 ∧ n.a - (a + aroundI pop pb j) = x then max d (a + aroundI pop pb j) else d) k hok.2.1 (by omega) (by split <;> omega)
  have h2 := dpF_bd x pop pb hp (j + 1) a (dpF x n.op n.b 0 (a + aroundI pop pb j) (if n.op = 1 ∧ n.a - (a + aroundI pop pb j) = x then max d (a + aroundI pop pb j) else d) k) y hok.2.2 ha h1.1
  have h3 : (if n.op = 1 ∧ n.a - (a + aroundI pop pb j) = x then max d (a + aroundI pop pb j) else d) ≤ max d (a + aroundI pop pb j) := by split <;> omega
  simp only [dpF, fsize]
  omega
theorem dpT_bd {x : Int} {n : Nd} {k : Fo} (hok : okN n = true) (hk : AllOk k) : 0 ≤ dpT x n k ∧ dpT x n k ≤ 4 * fsize k := by
 have := dpF_bd x n.op n.b (fun j => aroundI_bd hok j) 0 0 0 k hk (Int.le_refl _) (Int.le_refl _)
 unfold dpT
 omega
theorem puV_len (u : Put) (x : Int) (pop pb : Int) : ∀ (j : Nat) (a : Int) (F : Fo), ((puV u x).E pop pb j a () F).length ≤ (row F).length * ((u.n :: (u.a ++ row u.k)).length + 1)
 | _, _, .nil => by simp [Vis.E, row]
 | j, a, .cons p n at' k y => by
  rw [Vis.E_cons, Vis.E1]
  have h1 := puV_len u x n.op n.b 0 (a + aroundI pop pb j) k
  have h2 := puV_len u x pop pb (j + 1) a y
  have h3 : ((puV u x).em () n (a + aroundI pop pb j)).length ≤ (u.n :: (u.a ++ row u.k)).length + 1 := by
   simp only [puV]
   split
   · rw [raV_len1]; omega
   split <;> simp
  have e : ∀ s : Unit, s = () := fun _ => rfl
  rw [e ((puV u x).nx () n (a + aroundI pop pb j)), e ((puV u x).S1 (a + aroundI pop pb j) () n k)]
  simp only [List.length_append, row, List.length_cons] at h1 h2 h3 ⊢
  have hq1 : 1 ≤ u.a.length + (row u.k).length + 1 + 1 := by omega
  generalize u.a.length + (row u.k).length + 1 + 1 = q at *
  generalize (row k).length = b at *
  generalize (row y).length = c at *
  have e1 : (p.length + (at'.length + (b + c) + 1)) * q = p.length * q + (at'.length * q + (b * q + c * q) + q) := by
   rw [Nat.add_mul, Nat.add_mul, Nat.add_mul, Nat.add_mul, Nat.one_mul]
  have e2 : p.length ≤ p.length * q ∧ at'.length ≤ at'.length * q := ⟨Nat.le_mul_of_pos_right _ (by omega), Nat.le_mul_of_pos_right _ (by omega)⟩
  rw [e1]
  omega
def substT (t u : List Nd) (x : Int) : List Nd × Int :=
 match pp [false] t, pp [false] u with
 | some (.cons _ n a k _, _), some (.cons _ un ua uk _, _) =>
  if 0 < cnT x n k ∧ exT (fun v b => decide (b ≤ v) && decide (1048576 < v - b + x + dpT x n k)) 0 un uk = true then ([], 6)
  else if 4096 < (t.length : Int) + cnT x n k * ((u.length : Int) - 1) then ([], 9)
  else ((puV ⟨un, ua, uk⟩ x).E1 0 () n a k, 0)
 | _, _ => ([], 0)
def substR (t u : List Nd) (at_ : Int) : List Nd × Int :=
 if shapeI t = 0 then (if shapeI u = 0 then (if at_ < 0 then ([], 1) else substT t u (min at_ 1048577)) else ([], shapeI u)) else ([], shapeI t)
def substD (t u : List Nd) (x : Int) : Prop :=
 match pp [false] t, pp [false] u with
 | some (.cons _ n _ k _, _), some (.cons _ un ua uk _, _) => (puV ⟨un, ua, uk⟩ x).D1 0 () n k
 | _, _ => True
theorem subst_odd {A B : Option Addr} {nn c mm d : Nat} {t u : List Nd} {w : World} (ht : TermV w A nn c t) (hu : TermV w B mm d u) (at_ : Int) (h : shapeI t ≠ 0 ∨ shapeI u ≠ 0 ∨ at_ < 0) :
 Calls Try.prog 84 #[.slice A nn c, .slice B mm d, .int .i64 at_] w (RowErr (substR t u at_) w) := by
 have hb0 := below_alloc2 w (.cells #[.slice B mm d] 29) (.cells #[.int .i64 at_] 3)
 have hta := ht.below hb0
 by_cases hs : shapeI t = 0
 rotate_left
 · have hsb : (shapeI t != 0) = true := by simp [hs]
   have hr : substR t u at_ = ([], shapeI t) := by unfold substR; rw [if_neg hs]
   have HR := hid hr
   have HB0 := hid hb0
   have HTA := hid hta
   clear hr hs h hb0 hta hu ht
   go_in
   go_wp2_with fail
   refine (shape_any HTA.out).mono ?_
   rintro e w2 ⟨rfl, hb2⟩
   go_wp2_with fail
   go_ret2
   exact row_err_nil (HB0.out.trans (hb2.mono HB0.out.size)) HR.out
 have hsb : (shapeI t != 0) = false := by simp [hs]
 have hbx : Blk ((w.alloc (.cells #[.slice B mm d] 29)).alloc (.cells #[.int .i64 at_] 3)) w.heap.size 29 #[.slice B mm d] := (Blk.new _ _ _).alloc _
 have hbx2 : Blk ((w.alloc (.cells #[.slice B mm d] 29)).alloc (.cells #[.int .i64 at_] 3)) (w.heap.size + 1) 3 #[.int .i64 at_] := Blk.new' (by simp)
 by_cases hs2 : shapeI u = 0
 · have hsb2 : (shapeI u != 0) = false := by simp [hs2]
   have h3 : at_ < 0 := by rcases h with h | h | h <;> first | exact absurd hs h | exact absurd hs2 h | exact h
   have hr : substR t u at_ = ([], 1) := by unfold substR; rw [if_pos hs, if_pos hs2, if_pos h3]
   have HR := hid hr
   have HB0 := hid hb0
   have HTA := hid hta
   have HU := hid hu
   have HBX := hid hbx
   have HBX2 := hid hbx2
   clear hr hs hs2 h hb0 hta hu ht hbx hbx2
   go_in
   go_wp2_with fail
   refine (shape_any HTA.out).mono ?_
   rintro e w2 ⟨rfl, hb2⟩
   have hb3 := HB0.out.trans (hb2.mono HB0.out.size)
   have c0 := (HBX.out.below hb2 (by simp; omega)).cell
   have b1 := HBX2.out.below hb2 (by simp)
   have HB1 := hid b1
   clear b1
   go_wp2_with fail
   refine (shape_any (HU.out.below hb3)).mono ?_
   rintro e w3 ⟨rfl, hb4⟩
   have c1 := (HB1.out.below hb4 HB1.out.lt).cell
   go_wp2_with fail
   go_ret2
   exact row_err_nil (hb3.trans (hb4.mono hb3.size)) HR.out
 have hsb2 : (shapeI u != 0) = true := by simp [hs2]
 have hr : substR t u at_ = ([], shapeI u) := by unfold substR; rw [if_pos hs, if_neg hs2]
 have HR := hid hr
 have HB0 := hid hb0
 have HTA := hid hta
 have HU := hid hu
 have HBX := hid hbx
 clear hr hs hs2 h hb0 hta hu ht hbx hbx2
 go_in
 go_wp2_with fail
 refine (shape_any HTA.out).mono ?_
 rintro e w2 ⟨rfl, hb2⟩
 have hb3 := HB0.out.trans (hb2.mono HB0.out.size)
 have c0 := (HBX.out.below hb2 (by simp; omega)).cell
 go_wp2_with fail
 refine (shape_any (HU.out.below hb3)).mono ?_
 rintro e w3 ⟨rfl, hb4⟩
 go_wp2_with fail
 go_ret2
 exact row_err_nil (hb3.trans (hb4.mono hb3.size)) HR.out
section
variable {A B : Option Addr} {nn c mm d : Nat} {t u : List Nd} {w w3 : World} {n un : Nd} {ats ua : List Nd} {k uk : Fo} {x : Int}
theorem sub_each (ht : TermV w A nn c t) (hpp : pp [false] t = some (.cons [] n ats k .nil, [])) (hrow : t = n :: (ats ++ row k)) (hfs : fsize k ≤ 4096) (hl : t.length ≤ 4096) (hb : Below w.heap.size w w3) (hu : Blk w3 w.heap.size 29 #[.slice B mm d]) {z : Value} (hx : Blk w3 (w.heap.size + 1) 3 #[z]) (y : Int) (hy : y = x) :
 Calls Try.prog 25 #[.slice A nn c, .func (.func 95) #[] #[.pointer (some ⟨w.heap.size + 1, 0, none⟩), .pointer (some ⟨w3.heap.size, 0, none⟩), .pointer (some ⟨w3.heap.size + 1, 0, none⟩)]]
  (((w3.setCell ⟨w.heap.size + 1, 0, none⟩ (.int .i64 y)).alloc (.cells #[.int .i64 0] 3)).alloc (.cells #[.int .i64 0] 3)) fun e w5 => (∃ b, e = .returned (.bool b)) ∧ Below w.heap.size w w5 ∧ Blk w5 w.heap.size 29 #[.slice B mm d] ∧ Blk w5 (w.heap.size + 1) 3 #[.int .i64 x] ∧ Blk w5 w3.heap.size 3 #[.int .i64 (cnT x n k)] ∧ Blk w5 (w3.heap.size + 1) 3 #[.int .i64 (dpT x n k)] := by
 subst hy
 have hxl := hx.lt
 have hsz : w.heap.size + 1 < w3.heap.size := hxl
 have hb4 : Below w.heap.size w (((w3.setCell ⟨w.heap.size + 1, 0, none⟩ (.int .i64 y)).alloc (.cells #[.int .i64 0] 3)).alloc (.cells #[.int .i64 0] 3)) :=
  ((hb.setCell (p := ⟨w.heap.size + 1, 0, none⟩) (by simp) _).alloc (by simp [World.setCell]; omega) _).alloc (by simp [World.setCell]; omega) _
 have hx4 : Blk (((w3.setCell ⟨w.heap.size + 1, 0, none⟩ (.int .i64 y)).alloc (.cells #[.int .i64 0] 3)).alloc (.cells #[.int .i64 0] 3)) (w.heap.size + 1) 3 #[.int .i64 y] := by
  have := ((hx.set_ 0 (.int .i64 y)).alloc (.cells #[.int .i64 0] 3)).alloc (.cells #[.int .i64 0] 3)
  simpa using this
 have hu4 := ((hu.far (p := ⟨w.heap.size + 1, 0, none⟩) (by simp) (.int .i64 y)).alloc (.cells #[.int .i64 0] 3)).alloc (.cells #[.int .i64 0] 3)
 have ht4 : Blk (((w3.setCell ⟨w.heap.size + 1, 0, none⟩ (.int .i64 y)).alloc (.cells #[.int .i64 0] 3)).alloc (.cells #[.int .i64 0] 3)) w3.heap.size 3 #[.int .i64 0] := (Blk.new' (by simp [World.setCell])).alloc _
 have hd4 : Blk (((w3.setCell ⟨w.heap.size + 1, 0, none⟩ (.int .i64 y)).alloc (.cells #[.int .i64 0] 3)).alloc (.cells #[.int .i64 0] 3)) (w3.heap.size + 1) 3 #[.int .i64 0] := Blk.new' (by simp [World.setCell])
 have hlen := eaV_len1 (tiM y) 0 (false, (0, 0)) n ats k
 rw [← hrow] at hlen
 refine (each_any (T := tiM y) (J := tiJ (w.heap.size + 1) w3.heap.size (w3.heap.size + 1) y) (K := fun b => b = w.heap.size + 1 ∨ b = w3.heap.size ∨ b = w3.heap.size + 1) (S := fun b => b = w3.heap.size ∨ b = w3.heap.size + 1) (R := (· < w.heap.size)) (t := (0, 0)) (fun b hb' => ⟨?_, ?_⟩) (ht.keep fun b hb' => ⟨hb', fun o => cell_of_heap (hb4.block b hb') o⟩) (fun b hb' => ?_) (fun b hb' => .inr hb')
  (fun w w' t hj hk => ⟨hj.1.same (hk _ (.inl rfl)), hj.2.1.same (hk _ (.inr (.inl rfl))), hj.2.2.same (hk _ (.inr (.inr rfl)))⟩) (fun _ _ => by kernel_rfl) (subst1_ok (by simp [World.setCell]; omega) (by simp [World.setCell] <;> omega) (by simp [World.setCell] <;> omega) (by omega) (by omega) (by omega)) ⟨hx4, ht4, hd4⟩ hpp (by omega) (by omega)).mono ?_
 · have := hb4.size; omega
 · omega
 · simp [World.setCell]; omega
 rintro e w5 ⟨he, hm, hj⟩
 rw [eachR_ti y n k (by omega)] at hj
 refine ⟨⟨_, he⟩, hb4.trans (hm.to_below hb4.size (fun b hb' => by omega) (fun g hg => by cases hg)), hu4.moved hm (by omega) (by simp), hj.1, hj.2.1, hj.2.2⟩
theorem sub_ex (hu : TermV w B mm d u) (hpp : pp [false] u = some (.cons [] un ua uk .nil, [])) (hrow : u = un :: (ua ++ row uk)) (hfs : fsize uk ≤ 4096) (hl : u.length ≤ 4096) (hx0 : 0 ≤ x) (hx1 : x ≤ 1048577) {dp : Int} (hd0 : 0 ≤ dp) (hd1 : dp ≤ 1000000000000) {pd : Nat} (hb : Below w.heap.size w w3) (hx : Blk w3 (w.heap.size + 1) 3 #[.int .i64 x]) (hd : Blk w3 pd 3 #[.int .i64 dp]) (hpd : w.heap.size + 1 < pd) :
 Calls Try.prog 25 #[.slice B mm d, .func (.func 96) #[] #[.pointer (some ⟨w.heap.size + 1, 0, none⟩), .pointer (some ⟨pd, 0, none⟩)]] w3 (BoolPost (exT (fun v b => decide (b ≤ v) && decide (1048576 < v - b + x + dp)) 0 un uk) w3) := by
 have hlen := eaV_len1 (exM fun v b => decide (b ≤ v) && decide (1048576 < v - b + x + dp)) 0 (false, ()) un ua uk
 rw [← hrow] at hlen
 refine (each_any (T := exM fun v b => decide (b ≤ v) && decide (1048576 < v - b + x + dp)) (J := exJ (w.heap.size + 1) pd x dp) (K := fun b => b = w.heap.size + 1 ∨ b = pd) (S := fun _ => False) (R := (· < w.heap.size)) (t := ()) (fun b hb' => ⟨by have := hb.size; omega, fun h => h⟩) (hu.keep fun b hb' => ⟨hb', fun o => cell_of_heap (hb.block b hb') o⟩) (fun b hb' => ?_) (fun b hb' => hb'.elim)
  (fun w w' t hj hk => ⟨hj.1.same (hk _ (.inl rfl)), hj.2.same (hk _ (.inr rfl))⟩) (fun _ _ => by kernel_rfl) (subst2_ok hx.lt hd.lt hx0 hx1 hd0 hd1) ⟨hx, hd⟩ hpp (by omega) (by omega)).mono ?_
 · rcases hb' with h | h
   · subst h; exact hx.lt
   subst h; exact hd.lt
 rintro e w5 ⟨rfl, hm, _⟩
 exact ⟨ret_bool (eachR_ex _ _ _), hm.to_below (Nat.le_refl _) (fun _ h => h.elim) (fun g hg => by cases hg)⟩
theorem sub_walk (ht : TermV w A nn c t) (hpp : pp [false] t = some (.cons [] n ats k .nil, [])) (hrow : t = n :: (ats ++ row k)) (hfs : fsize k ≤ 4096) (hl : t.length ≤ 4096) (hu : TermV w B mm d u) (hpu : pp [false] u = some (.cons [] un ua uk .nil, [])) (hurow : u = un :: (ua ++ row uk)) (hufs : fsize uk ≤ 4096) (hul : u.length ≤ 4096) (hx0 : 0 ≤ x) (hx1 : x ≤ 1048577) (hD : (puV ⟨un, ua, uk⟩ x).D1 0 () n k)
 (hb : Below w.heap.size w w3) (hub : Blk w3 w.heap.size 29 #[.slice B mm d]) (hx : Blk w3 (w.heap.size + 1) 3 #[.int .i64 x]) :
 Calls Try.prog 43 #[.slice A nn c, .slice none 0 0, .func (.func 97) #[] #[.pointer (some ⟨w.heap.size + 1, 0, none⟩), .pointer (some ⟨w.heap.size, 0, none⟩)]] w3 fun e w' => Below w.heap.size w w' ∧ ∃ A' m' c', e = .returned (.tuple #[.slice A' m' c', .int .i64 0]) ∧ OwnN w' w.heap.size (.slice A' m' c') ((puV ⟨un, ua, uk⟩ x).E1 0 () n ats k) := by
 have hlen : ((puV ⟨un, ua, uk⟩ x).E1 0 () n ats k).length ≤ 1000000000000 := by
  have h1 := puV_len ⟨un, ua, uk⟩ x 0 0 0 0 (.cons [] n ats k .nil)
  rw [Vis.E_cons] at h1
  have e0 : aroundI 0 0 ((0 : Nat) : Int) = 0 := by decide
  rw [e0] at h1
  simp only [Int.add_zero, List.nil_append, Vis.E, List.append_nil] at h1
  have h2 : (row (.cons [] n ats k .nil)).length = t.length := by rw [hrow]; simp [row]
  have h3 : (un :: (ua ++ row uk)).length = u.length := by rw [← hurow]
  rw [h2, h3] at h1
  have h4 : t.length * (u.length + 1) ≤ 4096 * 4097 := Nat.mul_le_mul hl (by omega)
  omega
 have hG : ∀ (pop pb : Int) (j : Nat) (a : Int) (F : Fo), (puV ⟨un, ua, uk⟩ x).G pop pb j a () F = true := by
  intro pop pb j a F
  induction F generalizing pop pb j a with
  | nil => rfl
  | cons p n at' k y ih1 ih2 => rw [Vis.G_cons, Vis.G1, ih1, ih2]; rfl
 have hin : WalkIn (puV ⟨un, ua, uk⟩ x) 97 #[.pointer (some ⟨w.heap.size + 1, 0, none⟩), .pointer (some ⟨w.heap.size, 0, none⟩)] (puJ (w.heap.size + 1) w.heap.size x (· < w.heap.size) B mm d u) (puK (w.heap.size + 1) w.heap.size (· < w.heap.size)) (fun _ => False) w.heap.size 6 1000000000000 (· < w.heap.size) w3 A nn c t (.slice none 0 0) () [] := by
  refine ⟨hb.size, fun b h => ⟨Nat.lt_of_lt_of_le h hb.size, fun h => h⟩, fun b h => ?_, fun b h => h.elim, fun w w' s hj hk => puJ_same hj hk, Nat.le_refl _, fun _ _ => by kernel_rfl, subst3_ok hx.lt hub.lt (fun b h => Nat.lt_of_lt_of_le h hb.size) hb.size (Nat.le_refl _) hx0 hx1 hpu (by show 4 * fsize uk ≤ _; omega), ht.keep fun b hb' => ⟨hb', fun o => cell_of_heap (hb.block b hb') o⟩, OwnN.nil _ _, ⟨hx, hub, hu.keep fun b hb' => ⟨hb', fun o => cell_of_heap (hb.block b hb') o⟩⟩, fun g hg => by simp [Value.ownBlock] at hg⟩
  rcases h with h | h | h
  · subst h; exact hx.lt
  · subst h; exact hub.lt
  exact Nat.lt_of_lt_of_le h hb.size
 refine (walk_any hin hpp (by omega) hD (by simpa using hlen)).mono ?_
 rintro e w5 ⟨hm, (⟨_, _, v', rfl, hown, _⟩ | ⟨hg, _⟩)⟩
 · obtain ⟨A', c', rfl⟩ := hown.slice
   exact ⟨hb.trans (hm.to_below hb.size (fun _ h => h.elim) (fun g hg => by simp [Value.ownBlock] at hg)), _, _, _, rfl, hown⟩
 rw [Vis.G1, hG] at hg; cases hg
end
theorem row_err_ok {r : List Nd × Int} {l : List Nd} {w w' : World} {A : Option Addr} {m c : Nat} (hb : Below w.heap.size w w') (hr : r = (l, 0)) (hown : OwnN w' w.heap.size (.slice A m c) l) : RowErr r w (.returned (.tuple #[.slice A m c, .int .i64 0])) w' := by
 subst hr
 exact ⟨hb, _, _, _, rfl, hown⟩
theorem subst_main {A B : Option Addr} {nn c mm d : Nat} {t u : List Nd} {w : World} (ht : TermV w A nn c t) (hu : TermV w B mm d u) (at_ : Int) (hs : shapeI t = 0) (hs2 : shapeI u = 0) (h0 : 0 ≤ at_) (x : Int) (hx : (at_ ≤ 1048577 ∧ at_ = x) ∨ (1048577 < at_ ∧ 1048577 = x)) (hD : substD t u x) :
 Calls Try.prog 84 #[.slice A nn c, .slice B mm d, .int .i64 at_] w (RowErr (substT t u x) w) := by
 have hmf : ∀ (fn : Fn) (first cap : Array Value) (w : World), (Instr.makeFunc fn first cap).run Try.prog w = .ok (.func fn first cap) w := fun _ _ _ _ => rfl
 obtain ⟨hl, n, ats, k, hpp, hrow, hfs⟩ := shape_ok hs
 obtain ⟨hul, un, ua, uk, hpu, hurow, hufs⟩ := shape_ok hs2
 have hx0 : 0 ≤ x := by omega
 have hx1 : x ≤ 1048577 := by omega
 have hr : substT t u x = if 0 < cnT x n k ∧ exT (fun v b => decide (b ≤ v) && decide (1048576 < v - b + x + dpT x n k)) 0 un uk = true then ([], 6)
  else if 4096 < (nn : Int) + cnT x n k * ((mm : Int) - 1) then ([], 9)
  else ((puV ⟨un, ua, uk⟩ x).E1 0 () n ats k, 0) := by
  unfold substT
  rw [hpp, hpu, ← ht.len, ← hu.len]
 have hD' : (puV ⟨un, ua, uk⟩ x).D1 0 () n k := by
  unfold substD at hD
  rw [hpp, hpu] at hD
  exact hD
 have hok := pp_allok hpp
 obtain ⟨hok1, hok2, _⟩ := hok
 have hdp := dpT_bd (x := x) hok1 hok2
 have hcn := cnF_bd x n.op n.b 0 0 k
 have hcn0 : 0 ≤ cnT x n k ∧ cnT x n k ≤ 4097 := by unfold cnT; split <;> omega
 have hmm : 1 ≤ mm ∧ mm ≤ 4096 := by
  have h1 := congrArg List.length hurow
  rw [hu.len] at h1
  simp only [List.length_cons] at h1
  have := hu.len
  omega
 have hnn : nn ≤ 4096 := by have := ht.len; omega
 obtain ⟨hcn1, hcn2⟩ := hcn0
 obtain ⟨hmm1, hmm2⟩ := hmm
 obtain ⟨hdp1, hdp2⟩ := hdp
 have hpr : 0 ≤ cnT x n k * ((mm : Int) - 1) ∧ cnT x n k * ((mm : Int) - 1) ≤ 4097 * 4096 := ⟨Int.mul_nonneg hcn1 (by omega), Int.mul_le_mul hcn2 (by omega) (by omega) (by omega)⟩
 obtain ⟨hpr1, hpr2⟩ := hpr
 have hb0 := below_alloc2 w (.cells #[.slice B mm d] 29) (.cells #[.int .i64 at_] 3)
 have hta := ht.below hb0
 have hsb : (shapeI t != 0) = false := by simp [hs]
 have hsb2 : (shapeI u != 0) = false := by simp [hs2]
 have hat : decide (at_ < 0) = false := by simp; omega
 have hbx : Blk ((w.alloc (.cells #[.slice B mm d] 29)).alloc (.cells #[.int .i64 at_] 3)) w.heap.size 29 #[.slice B mm d] := (Blk.new _ _ _).alloc _
 have hbx2 : Blk ((w.alloc (.cells #[.slice B mm d] 29)).alloc (.cells #[.int .i64 at_] 3)) (w.heap.size + 1) 3 #[.int .i64 at_] := Blk.new' (by simp)
 have HR := hid hr
 have HB0 := hid hb0
 have HTA := hid hta
 have HT := hid ht
 have HU := hid hu
 have HBX := hid hbx
 have HBX2 := hid hbx2
 have HPP := hid hpp
 have HPU := hid hpu
 have HROW := hid hrow
 have HUROW := hid hurow
 have HFS := hid hfs
 have HUFS := hid hufs
 have HLT := hid hl
 have HLU := hid hul
 have HD := hid hD'
 have hdp3 : dpT x n k ≤ 1000000000000 := by omega
 have hwa : IntKind.i64.wrap (cnT x n k * ((mm : Int) - 1)) = cnT x n k * ((mm : Int) - 1) := IntWalk.i64_in _ (by omega)
 have hwb : IntKind.i64.wrap ((nn : Int) + cnT x n k * ((mm : Int) - 1)) = (nn : Int) + cnT x n k * ((mm : Int) - 1) := IntWalk.i64_in _ (by omega)
 have HWA := hid hwa
 have HWB := hid hwb
 clear hr hs hs2 hb0 hta hu ht hbx hbx2 hpp hpu hrow hurow hfs hufs hl hul hD hD' hok1 hok2 hcn hwa hwb hdp2
 rcases hx with ⟨hat1, hxe⟩ | ⟨hat1, hxe⟩
 all_goals
  have HXE := hid hxe
  clear hxe
  go_in
  go_wp2_with fail
  refine (shape_any HTA.out).mono ?_
  rintro e w2 ⟨rfl, hb2⟩
  have hb3 := HB0.out.trans (hb2.mono HB0.out.size)
  have b0 := HBX.out.below hb2 (by simp; omega)
  have b1 := HBX2.out.below hb2 (by simp)
  have c0 := b0.cell
  have B0 := hid b0
  have B1 := hid b1
  clear b0 b1
  go_wp2_with fail
  refine (shape_any (HU.out.below hb3)).mono ?_
  rintro e w3 ⟨rfl, hb4⟩
  have b0 := B0.out.below hb4 B0.out.lt
  have b1 := B1.out.below hb4 B1.out.lt
  have c1 := b1.cell
  have f1 := b1.frozen
  have hb5 := hb3.trans (hb4.mono hb3.size)
  have hl1 : w.heap.size + 1 < w3.heap.size := b1.lt
  have B0' := hid b0
  have B1' := hid b1
  have HB5 := hid hb5
  clear b0 b1 hb5 hb4 hb3 hb2 c0
  go_wp2_with fail
  first
   | refine (sub_each HT.out HPP.out HROW.out HFS.out HLT.out HB5.out B0'.out B1'.out at_ HXE.out).mono ?_
   | refine (sub_each HT.out HPP.out HROW.out HFS.out HLT.out HB5.out B0'.out B1'.out 1048577 HXE.out).mono ?_
  rintro e w5 ⟨⟨b, rfl⟩, hb6, u5, x5, t5, d5⟩
  have ct := t5.cell
  have cu := u5.cell
  have HB6 := hid hb6
  have U5 := hid u5
  have X5 := hid x5
  have D5 := hid d5
  have T5 := hid t5
  clear hb6 u5 x5 t5 d5 c1 f1
  by_cases hm : 0 < cnT x n k
  rotate_left
  · have hmb : decide (0 < cnT x n k) = false := by simpa using hm
    have HM := hid hm
    clear hm
    have hwa := HWA.out
    have hwb := HWB.out
    by_cases hbig : 4096 < (nn : Int) + cnT x n k * ((mm : Int) - 1)
    · have HBIG := hid hbig
      go_wp2_with fail
      go_ret2
      exact row_err_nil HB6.out (by rw [HR.out, if_neg (fun h => by have h1 := HM.out; have h2 := h.1; omega), if_pos HBIG.out])
    have hbigb : decide (4096 < (nn : Int) + cnT x n k * ((mm : Int) - 1)) = false := by simpa using hbig
    have HBIG := hid hbig
    clear hbig
    go_wp2_with fail
    refine (sub_walk HT.out HPP.out HROW.out HFS.out HLT.out HU.out HPU.out HUROW.out HUFS.out HLU.out hx0 hx1 HD.out HB6.out U5.out X5.out).mono ?_
    rintro e w7 ⟨hb9, A', m', c', rfl, hown⟩
    have HOWN := hid hown
    have HB9 := hid hb9
    clear hown hb9
    go_wp2_with fail
    go_ret2
    exact row_err_ok HB9.out (by rw [HR.out, if_neg (fun h => by have h1 := HM.out; have h2 := h.1; omega), if_neg (by have := HBIG.out; omega)]) HOWN.out
  go_wp2_with fail
  refine (sub_ex HU.out HPU.out HUROW.out HUFS.out HLU.out hx0 hx1 hdp1 hdp3 HB6.out X5.out D5.out (by omega)).mono ?_
  rintro e w6 ⟨rfl, hb7⟩
  have ct6 := (T5.out.below hb7 T5.out.lt).cell
  have cu6 := (U5.out.below hb7 U5.out.lt).cell
  have hb8 := HB6.out.trans (hb7.mono HB6.out.size)
  have U6 := hid (U5.out.below hb7 U5.out.lt)
  have X6 := hid (X5.out.below hb7 X5.out.lt)
  have HB8 := hid hb8
  clear ct cu hb7 hb8
  by_cases hex : exT (fun v b => decide (b ≤ v) && decide (1048576 < v - b + x + dpT x n k)) 0 un uk = true
  · have HEX := hid hex
    have HM := hid hm
    go_wp2_with fail
    go_ret2
    exact row_err_nil HB8.out (by rw [HR.out, if_pos ⟨HM.out, HEX.out⟩])
  have hexb : exT (fun v b => decide (b ≤ v) && decide (1048576 < v - b + x + dpT x n k)) 0 un uk = false := by simpa using hex
  have HEX := hid hexb
  rw [hexb]
  clear hex hexb
  have hwa := HWA.out
  have hwb := HWB.out
  by_cases hbig : 4096 < (nn : Int) + cnT x n k * ((mm : Int) - 1)
  · have HBIG := hid hbig
    go_wp2_with fail
    go_ret2
    exact row_err_nil HB8.out (by rw [HR.out, if_neg (fun h => by rw [HEX.out] at h; cases h.2), if_pos HBIG.out])
  have hbigb : decide (4096 < (nn : Int) + cnT x n k * ((mm : Int) - 1)) = false := by simpa using hbig
  have HBIG := hid hbig
  clear hbig
  go_wp2_with fail
  refine (sub_walk HT.out HPP.out HROW.out HFS.out HLT.out HU.out HPU.out HUROW.out HUFS.out HLU.out hx0 hx1 HD.out HB8.out U6.out X6.out).mono ?_
  rintro e w7 ⟨hb9, A', m', c', rfl, hown⟩
  have HOWN := hid hown
  have HB9 := hid hb9
  clear hown hb9
  go_wp2_with fail
  go_ret2
  exact row_err_ok HB9.out (by rw [HR.out, if_neg (fun h => by rw [HEX.out] at h; cases h.2), if_neg (by have := HBIG.out; omega)]) HOWN.out
theorem subst_any {A B : Option Addr} {nn c mm d : Nat} {t u : List Nd} {w : World} (ht : TermV w A nn c t) (hu : TermV w B mm d u) (at_ : Int) (hD : shapeI t = 0 → shapeI u = 0 → 0 ≤ at_ → substD t u (min at_ 1048577)) :
 Calls Try.prog 84 #[.slice A nn c, .slice B mm d, .int .i64 at_] w (RowErr (substR t u at_) w) := by
 by_cases h : shapeI t ≠ 0 ∨ shapeI u ≠ 0 ∨ at_ < 0
 · exact subst_odd ht hu at_ h
 have h1 : shapeI t = 0 := Classical.not_not.1 fun x => h (.inl x)
 have h2 : shapeI u = 0 := Classical.not_not.1 fun x => h (.inr (.inl x))
 have h3 : 0 ≤ at_ := Int.not_lt.1 fun x => h (.inr (.inr x))
 have hr : substR t u at_ = substT t u (min at_ 1048577) := by unfold substR; rw [if_pos h1, if_pos h2, if_neg (by omega)]
 rw [hr]
 exact subst_main ht hu at_ h1 h2 h3 _ (by omega) (hD h1 h2 h3)
end Go.Proofs.Ytjoddliplahgkaa
