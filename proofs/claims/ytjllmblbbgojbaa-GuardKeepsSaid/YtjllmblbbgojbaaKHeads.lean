/- Merged: Head, Less, FineP, Fine, Branch, Taken, Body, Kid. -/
import Derived.Test.YtjllmblbbgojbaaKEnds
import Derived.Test.YtjllmblbbgojbaaKLeafs
import Derived.Test.YtjllmblbbgojbaaKBase
namespace Go.Proofs.Ytjllmblbbgojbaa
open Go.Lib (hid)
set_option maxHeartbeats 4000000
set_option maxRecDepth 100000
set_option linter.unusedSimpArgs false
section
open Go.RowKit
abbrev TT := Nd × List Nd × Fo
def rowT (x : TT) : List Nd := x.1 :: (x.2.1 ++ row x.2.2)
def RtX (x : TT) : Prop := Rt (rowT x) x.1 x.2.1 x.2.2
def hd : Nat → TT → TT × List TT
 | m + 1, (n, a, .cons p n1 a1 k1 (.cons q n2 a2 k2 r)) => if n.op = 6 then ((hd m (n1, a1, k1)).1, (hd m (n1, a1, k1)).2 ++ [(n2, a2, k2)]) else ((n, a, .cons p n1 a1 k1 (.cons q n2 a2 k2 r)), [])
 | _, x => (x, [])
theorem hd_stop {m : Nat} {x : TT} (h : x.1.op ≠ 6) : hd m x = (x, []) := by
 obtain ⟨n, a, k⟩ := x
 cases m with
 | zero => rfl
 | succ m =>
  match k with
  | .nil => rfl
  | .cons _ _ _ _ .nil => rfl
  | .cons _ n1 a1 k1 (.cons _ n2 a2 k2 x) => simp only [hd]; rw [if_neg h]
theorem hd_app {m : Nat} {n n1 n2 : Nd} {a a1 a2 : List Nd} {k1 k2 : Fo} (h : n.op = 6) : hd (m + 1) (n, a, .cons [] n1 a1 k1 (.cons [] n2 a2 k2 .nil)) = ((hd m (n1, a1, k1)).1, (hd m (n1, a1, k1)).2 ++ [(n2, a2, k2)]) := by
 simp only [hd]
 rw [if_pos h]
theorem hd_right : ∀ (m : Nat) (x : TT), RtX x → (rowT x).length ≤ m → RtX (hd m x).1 ∧ (hd m x).1.1.op ≠ 6 ∧ (rowT (hd m x).1).length ≤ (rowT x).length ∧ (∀ y ∈ (hd m x).2, RtX y ∧ (rowT y).length < (rowT x).length) ∧ ((hd m x).2 ≠ [] → (rowT (hd m x).1).length < (rowT x).length)
 | 0, x, _, hl => by simp [rowT] at hl
 | m + 1, (n, a, k), h, hl => by
  by_cases h6 : n.op = 6
  · obtain ⟨n1, a1, k1, n2, a2, k2, rfl, hs⟩ := app_split h h6
    rw [hd_app h6]
    have hr := congrArg List.length hs.eq
    simp only [rowT, List.length_cons, List.length_append] at hr hl
    obtain ⟨e1, e2, e3, e4, e5⟩ := hd_right m (n1, a1, k1) hs.fst (by simp only [rowT, List.length_cons, List.length_append]; omega)
    simp only [rowT, List.length_cons, List.length_append] at e3 e4 e5 ⊢
    refine ⟨e1, e2, by omega, fun y hy => ?_, fun _ => by omega⟩
    rcases List.mem_append.1 hy with hy | hy
    · have := e4 y hy
      exact ⟨this.1, by omega⟩
    rw [List.mem_singleton] at hy
    subst hy
    exact ⟨hs.snd, by simp only; omega⟩
  · rw [hd_stop (x := (n, a, k)) h6]
    exact ⟨h, h6, Nat.le_refl _, fun y hy => (by cases hy), fun e => absurd rfl e⟩
def PcsC (w : World) : List Value → List TT → Prop
 | [], [] => True
 | v :: vs, x :: xs => (∃ A n c, v = .slice A n c ∧ ∀ w', Below w.heap.size w w' → TermV w' A n c (rowT x)) ∧ PcsC w vs xs
 | _, _ => False
theorem PcsC.len {w : World} : ∀ {vs : List Value} {xs : List TT}, PcsC w vs xs → vs.length = xs.length
 | [], [], _ => rfl
 | [], _ :: _, h => h.elim
 | _ :: _, [], h => h.elim
 | v :: vs, x :: xs, h => by simp [PcsC.len h.2]
theorem PcsC.add {w : World} {A : Option Addr} {n c : Nat} {y : TT} (ht : ∀ w', Below w.heap.size w w' → TermV w' A n c (rowT y)) : ∀ {vs : List Value} {xs : List TT}, PcsC w vs xs → PcsC w (vs ++ [.slice A n c]) (xs ++ [y])
 | [], [], _ => ⟨⟨A, n, c, rfl, ht⟩, trivial⟩
 | [], _ :: _, h => h.elim
 | _ :: _, [], h => h.elim
 | _ :: _, _ :: _, h => ⟨h.1, h.2.add ht⟩
theorem PcsC.rev {w : World} : ∀ {vs : List Value} {xs : List TT}, PcsC w vs xs → PcsC w vs.reverse xs.reverse
 | [], [], _ => trivial
 | [], _ :: _, h => h.elim
 | _ :: _, [], h => h.elim
 | v :: vs, x :: xs, h => by
  obtain ⟨⟨A, n, c, rfl, ht⟩, h2⟩ := h
  rw [List.reverse_cons, List.reverse_cons]
  exact PcsC.add ht h2.rev
theorem PcsC.slices {w : World} : ∀ {vs : List Value} {xs : List TT}, PcsC w vs xs → ∀ v ∈ vs, ∃ A n c, v = .slice A n c
 | [], [], _ => fun v hv => by cases hv
 | [], _ :: _, h => h.elim
 | _ :: _, [], h => h.elim
 | v :: vs, x :: xs, h => fun y hy => by
  obtain ⟨⟨A, n, c, e, _⟩, h2⟩ := h
  rcases List.mem_cons.1 hy with rfl | hy
  · exact ⟨A, n, c, e⟩
  · exact PcsC.slices h2 y hy
theorem PcsC.at_ {w : World} : ∀ {vs : List Value} {xs : List TT} (k : Nat), PcsC w vs xs → (hk : k < xs.length) → ∃ A n c, vs[k]? = some (.slice A n c) ∧ ∀ w', Below w.heap.size w w' → TermV w' A n c (rowT xs[k])
 | [], [], _, _, hk => absurd hk (by simp)
 | [], _ :: _, _, h, _ => h.elim
 | _ :: _, [], _, h, _ => h.elim
 | v :: vs, x :: xs, 0, h, _ => by
  obtain ⟨⟨A, n, c, e, ht⟩, _⟩ := h
  exact ⟨A, n, c, by simp [e], ht⟩
 | v :: vs, x :: xs, k + 1, h, hk => by
  obtain ⟨A, n, c, e, ht⟩ := PcsC.at_ k h.2 (by simpa using hk)
  exact ⟨A, n, c, by simpa using e, by simpa using ht⟩
def HeadPost (q : TT × List TT) (w : World) (e : Ending) (w' : World) : Prop := Below w.heap.size w w' ∧ ∃ A n c B d vs, e = .returned (.tuple #[.slice A n c, .slice B q.2.length d]) ∧ (∀ w2, Below w.heap.size w w2 → TermV w2 A n c (rowT q.1)) ∧ w'.ownsRow w.heap.size 28 1 (.slice B q.2.length d) q.2.length vs ∧ PcsC w vs q.2
theorem infoR : (Try.prog.info? 28).map (fun i => (i.zero, i.size, i.bytes)) = some (some (.slice none 0 0), 1, 24) := by kernel_rfl
def lenOf : Value → Nat
 | .slice _ n _ => n
 | _ => 0
theorem head_any {A : Option Addr} {n c : Nat} {x : TT} {w : World} (h : TermV w A n c (rowT x)) (hrt : RtX x) :
 Calls Try.prog 81 #[.slice A n c] w (HeadPost (hd (rowT x).length x) w) := by
 obtain ⟨i1, hi', hy0', hy1', hy2'⟩ := info_parts infoR
 have HI1 := hid hi'
 have HZ0 := hid hy0'
 have HZ1 := hid hy1'
 have HZ2 := hid hy2'
 obtain ⟨m, hm⟩ : ∃ m, m = (rowT x).length := ⟨_, rfl⟩
 rw [← hm]
 have hmf : m ≤ 4096 := by rw [hm]; exact hrt.few
 have HM := hid hm
 have HT := hid h
 have HRT := hid hrt
 have hn4 : n ≤ 4096 := by have := h.len; omega
 obtain ⟨F, L, hFL⟩ : ∃ F L, hd m x = (F, L) := ⟨_, _, rfl⟩
 have HFL := hid hFL
 clear hi' hy0' hy1' hy2' hm h hrt hFL
 go_in
 go_wp2_with fail
 go_loopw [0, 4] (fun tv av wr => ∃ (m' n' c' j d : Nat) (A' B : Option Addr) (y : TT) (vs : List Value) (ys : List TT), tv = .slice A' n' c' ∧ av = .slice B j d ∧ j + n' ≤ 4096 ∧ Hid (RtX y) ∧ Hid ((rowT y).length ≤ m') ∧ Hid ((hd m' y).1 = F ∧ (hd m' y).2 ++ ys.reverse = L) ∧ Hid (∀ w', Below w.heap.size w w' → TermV w' A' n' c' (rowT y)) ∧ Hid (wr.ownsRow w.heap.size 28 1 (.slice B j d) j vs) ∧ Hid (PcsC w vs ys) ∧ Hid (Below w.heap.size w wr)) (fun tv _ _ => lenOf tv)
 case atStart => exact ⟨m, n, c, 0, 0, A, none, x, [], [], rfl, rfl, by omega, HRT, hid (by rw [HM.out]; exact Nat.le_refl _), hid (by rw [HFL.out]; exact ⟨rfl, by simp⟩), hid (fun w' hb => HT.out.below hb), hid (World.ownsRow_nil _ _ _ _), hid trivial, hid (Below.refl _ _)⟩
 case round =>
  obtain ⟨m', n', c', j, d, A', B, y, vs, ys, rfl, rfl, hjn, hrt, hm', hsp, htc, hown, hpcs, hbw⟩ := hrel
  obtain ⟨n1, a1, k1⟩ := y
  have HT1 := hid (htc.out _ hbw.out)
  have hlen := HT1.out.len
  have hn0 : 0 < n' := by rw [← hlen]; simp [rowT]
  have hcap := HT1.out.cap
  obtain ⟨b, off, rfl, hb, hc0, _, _⟩ := HT1.out.at_ hn0
  rw [Nat.zero_mul, Nat.add_zero, show nth (rowT (n1, a1, k1)) 0 = n1 from rfl] at hc0
  have hbs := hbw.out.size
  by_cases h6 : n1.op = 6
  rotate_left
  · have h6b : (n1.op == 6) = false := by simpa using h6
    have HE : Hid (hd m x = ((n1, a1, k1), ys.reverse)) := hid (by
     have h1 := hsp.out
     rw [hd_stop (x := (n1, a1, k1)) h6] at h1
     rw [HFL.out, ← h1.1, ← h1.2]
     simp)
    have hjl : j = ys.length := by have := hpcs.out.len; have := hown.out.1; omega
    have HJL := hid hjl
    have HREV := hid (reverse_any hown.out (by omega) (PcsC.slices hpcs.out))
    generalize n1.op = op at *
    clear h6 hlen hjl
    go_wp2_with fail
    refine (HREV.out).mono ?_
    rintro e w3 ⟨rfl, ho3, hg3⟩
    have HB3 := hid (hbw.out.grown hg3 hbs (fun g hg => (ownsRow_block hown.out hg).1))
    have HO3 := hid ho3
    clear ho3 hg3
    go_wp2_with fail
    go_ret2
    rw [HE.out]
    refine ⟨HB3.out, _, _, _, B, d, vs.reverse, ?_, htc.out, ?_, PcsC.rev hpcs.out⟩
    · rw [HJL.out]; simp
    have := HO3.out
    rw [HJL.out] at this
    simpa using this
  obtain ⟨nx, ax, kx, ny, ay, ky, rfl, hsplit⟩ := app_split hrt.out h6
  obtain ⟨r1, hr1⟩ : ∃ r1, r1 = rowT (nx, ax, kx) := ⟨_, rfl⟩
  obtain ⟨r2, hr2⟩ : ∃ r2, r2 = rowT (ny, ay, ky) := ⟨_, rfl⟩
  obtain ⟨hf1, hf2, hq, hend⟩ := hsplit
  cases m' with
  | zero => have := hm'.out; rw [hq] at this; simp at this
  | succ m' =>
  have hsp2 := hsp.out
  rw [hd_app h6] at hsp2
  change rowT _ = _ at hq
  have hq2 : rowT (n1, a1, Fo.cons [] nx ax kx (.cons [] ny ay ky .nil)) = ⟨6, 0, 0⟩ :: (r1 ++ r2) := by rw [hq, hr1, hr2]; rfl
  obtain ⟨p, hp⟩ : ∃ p, p = 1 + r1.length := ⟨_, rfl⟩
  have hend2 : endI (rowT (n1, a1, Fo.cons [] nx ax kx (.cons [] ny ay ky .nil))) 1 = (p : Int) := by rw [hp, hr1]; exact hend
  generalize rowT (n1, a1, Fo.cons [] nx ax kx (.cons [] ny ay ky .nil)) = tc at *
  have hql : n' = p + r2.length := by rw [← hlen, hq2, hp]; simp; omega
  have hr2l : 0 < r2.length := by rw [hr2]; simp [rowT]
  have hd2 : tc.drop p = r2 := by rw [hq2, hp, Nat.add_comm, List.drop_succ_cons, List.drop_left]
  have hd1 : (tc.take p).drop 1 = r1 := by rw [hq2, hp, Nat.add_comm, List.take_succ_cons, List.drop_succ_cons, List.drop_zero, List.take_left]
  obtain ⟨A2, hcut2, hcutr2⟩ := cut_from (some ⟨b, off, none⟩) n' c' p (by omega)
  obtain ⟨A3, hcut3, hcutr3⟩ := cut_mid (some ⟨b, off, none⟩) n' c' 1 p (by omega) (by omega) hcap
  rw [show ((1 : Nat) : Int) = 1 from rfl] at hcut3
  have HT2 : Hid (∀ w', Below w.heap.size w w' → TermV w' A2 (n' - p) (c' - p) (rowT (ny, ay, ky))) := hid fun w' h => by
   have := hcutr2 _ _ _ (htc.out w' h)
   rwa [hd2, hr2] at this
  have HT3 : Hid (∀ w', Below w.heap.size w w' → TermV w' A3 (p - 1) (c' - 1) (rowT (nx, ax, kx))) := hid fun w' h => by
   have := hcutr3 _ _ _ (htc.out w' h)
   rwa [hd1, hr1] at this
  have HEND := hid (end_any HT1.out 1)
  rw [hend2] at HEND
  have HF1 : Hid (RtX (nx, ax, kx)) := hid hf1
  have HSP2 := hid hsp2
  have HML : Hid ((rowT (nx, ax, kx)).length ≤ m') := hid (by have := hm'.out; rw [hq2] at this; rw [← hr1]; simp at this; omega)
  have hp1 : 1 ≤ p := by omega
  have hpn : p < n' := by omega
  clear hf1 hf2 hq hq2 hend hend2 hsp2 hr1 hr2 hp hql hr2l hd1 hd2 hcutr2 hcutr3 hlen
  rw [h6] at hc0
  clear h6
  go_wp2_with fail
  refine (HEND.out).mono ?_
  rintro e w3 ⟨rfl, hb3⟩
  have HB3 := hid (hbw.out.trans (hb3.mono hbs))
  have HO3 := hid (own_below hown.out hb3)
  have hbs3 := HB3.out.size
  clear hb3
  go_wp2_with (at_builtin; go_loud (refine wpList_oper rfl (oper_append_one (.tmp 13) (.tmp 17) 49 28 rfl w.heap.size i1 _ 24 Try.underlying49 HI1.out HZ0.out HZ1.out HZ2.out rfl (by decide) (.slice B j d) j vs (.slice A2 (n' - p) (c' - p)) rfl w3 rfl rfl HO3.out _ rfl rfl (by omega) (by omega) ?_)); intro A5 c5 w5 happ5)
  have HO5 := hid happ5.own
  have HB5 := hid (HB3.out.grown happ5.grown hbs3 (fun g hg => (ownsRow_block HO3.out hg).1))
  clear happ5
  go_wp2_with fail
  go_roundw
  case rel => exact ⟨m', p - 1, c' - 1, j + 1, c5, A3, A5, (nx, ax, kx), vs ++ [.slice A2 (n' - p) (c' - p)], ys ++ [(ny, ay, ky)], rfl, rfl, by omega, HF1, HML, hid ⟨HSP2.out.1, by rw [← HSP2.out.2]; simp⟩, HT3, HO5, hid (PcsC.add HT2.out hpcs.out), HB5⟩
  case measure => simp only [lenOf]; omega
end
section
open Go.RowKit
def ofI (zs : List Int) (v : Int) : Int := if (zs.length : Int) ≤ v then 0 else zs.getD (zs.length - 1 - v.toNat) 0
def lessT (zs : List Int) (x : TT) : Bool := (hd (rowT x).length x).1.1.op == 1 && ofI zs (hd (rowT x).length x).1.1.a == 2
theorem of_any {A : Option Addr} {n c : Nat} {zs : List Int} {w : World} (h : IntsR (· < w.heap.size) w A n c zs) (v : Int) (hv : 0 ≤ v) :
 Calls Try.prog 121 #[.slice A n c, .int .i64 v] w fun e w' => e = .returned (.int .i64 (ofI zs v)) ∧ Below w.heap.size w w' := by
 have hl := h.len
 have hf := h.few
 by_cases hge : (n : Int) ≤ v
 · have hb : decide (v ≥ (n : Int)) = true := decide_eq_true hge
   have HE : Hid (ofI zs v = 0) := hid (by unfold ofI; rw [if_pos (by omega)])
   clear h hl
   go_in
   go_wp2_with fail
   go_ret
   exact ⟨ret_int HE.out.symm, Below.refl _ _⟩
 have hb : decide (v ≥ (n : Int)) = false := decide_eq_false (by omega)
 obtain ⟨u, rfl⟩ : ∃ u : Nat, v = (u : Int) := ⟨v.toNat, by omega⟩
 obtain ⟨k, hk⟩ : ∃ k, k + 1 + u = n := ⟨n - 1 - u, by omega⟩
 obtain ⟨b, off, rfl, hbb, hc⟩ := h.at_ (k := k) (by omega)
 have HE : Hid (ofI zs (u : Int) = zs.getD k 0) := hid (by unfold ofI; rw [if_neg (by omega), Int.toNat_natCast, show zs.length - 1 - u = k from by omega])
 have hki : (n : Int) - 1 - (u : Int) = (k : Int) := by omega
 have hkn : k < n := by omega
 have HB := hid (Below.refl w.heap.size w)
 generalize zs.getD k 0 = z at *
 clear h hl hge
 go_in
 go_wp2_with fail
 go_ret
 exact ⟨ret_int HE.out.symm, HB.out⟩
def BoolP (b : Bool) (w : World) (e : Ending) (w' : World) : Prop := e = .returned (.bool b) ∧ Below w.heap.size w w'
theorem var_a {x : TT} (h : RtX x) : 0 ≤ x.1.a := by
 have h1 := h.wf.1
 simp only [okN, Bool.and_eq_true] at h1
 exact (plainB_a h1.1.1).1
theorem less_any {A B : Option Addr} {n c m d : Nat} {zs : List Int} {x : TT} {w : World} (h : TermV w A n c (rowT x)) (hrt : RtX x) (hz : IntsR (· < w.heap.size) w B m d zs) :
 Calls Try.prog 122 #[.slice A n c, .slice B m d] w (BoolP (lessT zs x) w) := by
 have HH := hid (head_any h hrt)
 obtain ⟨hr1, hr2, _, _, _⟩ := hd_right _ x hrt (Nat.le_refl _)
 have hva := var_a hr1
 obtain ⟨F, L, hFL⟩ : ∃ F L, hd (rowT x).length x = (F, L) := ⟨_, _, rfl⟩
 have HLE : Hid (lessT zs x = (F.1.op == 1 && ofI zs F.1.a == 2)) := hid (by unfold lessT; rw [hFL])
 rw [hFL] at HH hva
 simp only at hva
 have HZ := hid hz
 clear h hrt hz hr1 hr2 hFL
 go_in
 go_wp2_with fail
 refine (HH.out).mono ?_
 rintro e w2 ⟨hb2, A2, n2, c2, B2, d2, vs, rfl, htf, _, _⟩
 have hf2 := htf w2 hb2
 have hn2 : 0 < n2 := by have := hf2.len; rw [← this]; simp [rowT]
 obtain ⟨b, off, rfl, hb, hc0, hc1, _⟩ := hf2.at_ hn2
 simp only [Nat.zero_mul, Nat.add_zero] at hc0 hc1
 rw [show nth (rowT F) 0 = F.1 from rfl] at hc0 hc1
 have HB2 := hid hb2
 have HOF := hid (of_any (HZ.out.below hb2) F.1.a hva)
 generalize F.1.op = op at *
 generalize F.1.a = fa at *
 clear htf hf2 hb2 hb
 by_cases h1 : op = 1
 · have h1b : (op == 1) = true := by simp [h1]
   have HL1 : Hid (lessT zs x = (ofI zs fa == 2)) := hid (by rw [HLE.out, h1b, Bool.true_and])
   generalize ofI zs fa = mk at *
   clear h1
   go_wp2_with fail
   refine (HOF.out).mono ?_
   rintro e w3 ⟨rfl, hb3⟩
   have HB3 := bto HB2 hb3
   clear hb3
   go_wp2_with fail
   go_ret
   rw [HL1.out]
   exact ⟨rfl, HB3.out⟩
 have h1b : (op == 1) = false := by simpa using h1
 have HL1 : Hid (lessT zs x = false) := hid (by rw [HLE.out, h1b]; rfl)
 clear h1
 go_wp2_with fail
 go_ret
 rw [HL1.out]
 exact ⟨rfl, HB2.out⟩
end
section
open Go.RowKit
def kidL : Fo → List TT
 | .nil => []
 | .cons _ n a k x => (n, a, k) :: kidL x
def branchT (rec_ : List Int → TT → Bool) : Nat → List Int → TT → Bool
 | 0, zs, y => rec_ zs y
 | n + 1, zs, (nd, a, .cons p n1 a1 k1 (.cons q n2 a2 k2 r)) => if nd.op = 5 then rec_ zs (n1, a1, k1) && branchT rec_ n (zs ++ [2]) (n2, a2, k2) else rec_ zs (nd, a, .cons p n1 a1 k1 (.cons q n2 a2 k2 r))
 | _ + 1, zs, y => rec_ zs y
def downT (zs : List Int) (x : TT) : Bool :=
 let q := hd (rowT x).length x
 let m := if q.1.1.op = 1 then ofI zs q.1.1.a else 0
 m == 2 || (m == 1 && q.2.isEmpty)
def branchesT (rec_ : List Int → TT → Bool) (ca : Nat → Nat) (zs : List Int) : Nat → List TT → Bool
 | _, [] => true
 | k, y :: ys => branchT rec_ (ca k) zs y && branchesT rec_ ca zs (k + 1) ys
def pairsT (rec_ : List Int → TT → Bool) (zs zu : List Int) : List TT → Bool
 | ty :: bd :: r => rec_ zs ty && (rec_ zu bd && pairsT rec_ zs zu r)
 | _ => true
def fineT (places : List Int) (ca : Int → Nat → Nat) : Nat → List Int → TT → Bool
 | 0, _, _ => true
 | f + 1, zs, x =>
  let q := hd (rowT x).length x
  let n := q.1.1
  q.2.all (fineT places ca f zs) &&
  (if n.op = 1 then (if ofI zs n.a < 100 then true else (match q.2[(places.getD (ofI zs n.a - 100).toNat 0).toNat]? with | some y => lessT zs y | none => false))
   else if n.op = 11 then (match kidL q.1.2.2 with
    | mo :: sc :: br => (fineT places ca f zs mo && fineT places ca f zs sc) && branchesT (fineT places ca f) (fun k => if downT zs sc then ca n.a k else 0) zs 0 br
    | _ => true)
   else if n.op = 4 ∨ n.op = 5 then (match kidL q.1.2.2 with
    | a :: b :: _ => fineT places ca f zs a && fineT places ca f (zs ++ [0]) b
    | _ => true)
   else if n.op = 7 then (match kidL q.1.2.2 with
    | a :: b :: c :: _ => (fineT places ca f zs a && fineT places ca f zs b) && fineT places ca f (zs ++ [0]) c
    | _ => true)
   else if n.op = 12 then pairsT (fineT places ca f) zs (zs ++ List.replicate n.b.toNat 0) (kidL q.1.2.2)
   else true)
end
section
open Go.RowKit
structure PcsR (w : World) (A : Option Addr) (n : Nat) (ys : List TT) : Prop where
 len : ys.length = n
 few : n ≤ 1000000
 mem : 0 < n → ∃ b off, A = some ⟨b, off, none⟩ ∧ b < w.heap.size ∧ ∀ k (hk : k < ys.length), ∃ A' n' c', w.cell? ⟨b, off + k, none⟩ = some (.slice A' n' c') ∧ ∀ w', Below w.heap.size w w' → TermV w' A' n' c' (rowT ys[k])
structure LK where
 vars : Int
 nat : Int
 Ao : Option Addr
 no : Nat
 co : Nat
 Ae : Option Addr
 ne : Nat
 ce : Nat
 Ap : Option Addr
 np : Nat
 cp : Nat
 Aq : Option Addr
 nq : Nat
 cq : Nat
def FineH (K : LK) (I : World → Prop) (G : List Int → Prop) (J : TT → Prop) (rec_ : List Int → TT → Bool) (m : Nat) : Prop :=
 ∀ (w : World) (x : TT) (zs : List Int) (A : Option Addr) (n c : Nat) (B : Option Addr) (k d : Nat), I w → TermV w A n c (rowT x) → RtX x → (rowT x).length ≤ m → J x → IntsR (· < w.heap.size) w B k d zs → (B = none → d = 0) → k + (rowT x).length ≤ 9000 → G zs →
  Calls Try.prog 83 #[.agg #[.int .i64 K.vars, .slice K.Ao K.no K.co, .slice K.Ae K.ne K.ce, .int .i64 K.nat, .slice K.Ap K.np K.cp, .slice K.Aq K.nq K.cq], .slice A n c, .slice B k d] w (BoolP (rec_ zs x) w)
theorem all_any {K : LK} {I : World → Prop} {G : List Int → Prop} {J : TT → Prop} {rec_ : List Int → TT → Bool} {m : Nat} (H : FineH K I G J rec_ m) (hI : ∀ w w', I w → Below w.heap.size w w' → I w') {w : World} {A B : Option Addr} {n c k d : Nat} {ys : List TT} {zs : List Int} (hw : I w) (hp : PcsR w A n ys) (hy : ∀ y ∈ ys, RtX y ∧ (rowT y).length ≤ m ∧ J y ∧ k + (rowT y).length ≤ 9000) (hz : IntsR (· < w.heap.size) w B k d zs) (hnul : B = none → d = 0) (hg : G zs) :
 Calls Try.prog 120 #[.agg #[.int .i64 K.vars, .slice K.Ao K.no K.co, .slice K.Ae K.ne K.ce, .int .i64 K.nat, .slice K.Ap K.np K.cp, .slice K.Aq K.nq K.cq], .slice B k d, .slice A n c] w (BoolP (ys.all (rec_ zs)) w) := by
 obtain ⟨vars, nat, Ao, no, co, Ae, ne, ce, Ap, np, cp, Aq, nq, cq⟩ := K
 unfold FineH at H
 simp only at H ⊢
 have HH := hid H
 have HI := hid hI
 have HP := hid hp
 have HY := hid hy
 have HZ := hid hz
 have HG := hid hg
 have HW := hid hw
 have HNU := hid hnul
 have hfew := hp.few
 have hlen := hp.len
 clear H hI hp hy hz hg hw hnul
 go_in
 go_wp2_with fail
 go_loopw [11] (fun iv wr => ∃ i : Nat, i ≤ n ∧ iv = .int .i64 (i : Int) ∧ Hid ((ys.take i).all (rec_ zs) = true) ∧ Hid (Below w.heap.size w wr) ∧ Blk wr w.heap.size 98 #[.int .i64 vars, .slice Ao no co, .slice Ae ne ce, .int .i64 nat, .slice Ap np cp, .slice Aq nq cq]) (fun i _ => n - (intOf i).toNat)
 case atStart => exact ⟨0, by omega, rfl, hid (by simp), hid (below_alloc _ _), Blk.new _ _ _⟩
 case round =>
  obtain ⟨i, hi, rfl, hall, hbw, hblk⟩ := hrel
  have zc := Blk.cell hblk
  have hbl := hblk.lt
  have HBLK := hid hblk
  clear hblk
  by_cases hlt : i < n
  rotate_left
  · have HN : Hid (ys.all (rec_ zs) = true) := hid (by
     have := hall.out
     rwa [List.take_of_length_le (by omega)] at this)
    go_wp2_with fail
    go_ret
    rw [HN.out]
    exact ⟨rfl, hbw.out⟩
  obtain ⟨b, off, rfl, hb, hm⟩ := HP.out.mem (by omega)
  obtain ⟨A', n', c', hc, ht⟩ := hm i (by omega)
  have hc2 : wr.cell? ⟨b, off + i, none⟩ = some (.slice A' n' c') := (hbw.out.cell (p := ⟨b, off + i, none⟩) hb).trans hc
  obtain ⟨y, hye⟩ : ∃ y, y = ys[i] := ⟨_, rfl⟩
  have hym : y ∈ ys := by rw [hye]; exact List.getElem_mem _
  obtain ⟨hy1, hy2, hy3, hy4⟩ := HY.out y hym
  have HC := hid (HH.out wr y zs A' n' c' B k d (HI.out _ _ HW.out hbw.out) (by rw [hye]; exact ht _ hbw.out) hy1 hy2 hy3 (HZ.out.below hbw.out) HNU.out hy4 HG.out)
  have htk : ys.take (i + 1) = ys.take i ++ [y] := by rw [List.take_succ_eq_append_getElem (by omega), hye]
  by_cases hr : rec_ zs y = true
  · have HN : Hid ((ys.take (i + 1)).all (rec_ zs) = true) := hid (by rw [htk, List.all_append, hall.out]; simp [hr])
    rw [hr] at HC
    clear hm hc ht hye hym hy1 hy2 hy3 hy4 htk hr
    go_wp2_with fail
    refine (HC.out).mono ?_
    rintro e w2 ⟨rfl, hb2⟩
    have HB2 := bto hbw hb2
    have hblk2 := Blk.below HBLK.out hb2 hbl
    clear hb2
    go_wp2_with fail
    go_roundw
    case rel => exact ⟨i + 1, by omega, by go_num, HN, HB2, hblk2⟩
    case measure => simp [intOf]; omega
  have hrf : rec_ zs y = false := by simpa using hr
  have HN : Hid (ys.all (rec_ zs) = false) := hid (by
   rw [← List.take_append_drop (i + 1) ys, htk]
   simp [hrf])
  rw [hrf] at HC
  clear hm hc ht hye hym hy1 hy2 hy3 hy4 htk hr hrf
  go_wp2_with fail
  refine (HC.out).mono ?_
  rintro e w2 ⟨rfl, hb2⟩
  have HB2 := bto hbw hb2
  clear hb2
  go_wp2_with fail
  go_ret
  rw [HN.out]
  exact ⟨rfl, HB2.out⟩
end
section
open Go.RowKit
structure TwoS (t : List Nd) (n : Nd) (x y : TT) : Prop where
 fst : RtX x
 snd : RtX y
 eq : t = n :: (rowT x ++ rowT y)
 end_ : endI t 1 = ((1 + (rowT x).length : Nat) : Int)
theorem two_split {n : Nd} {a : List Nd} {k : Fo} (h : RtX (n, a, k)) (h6 : n.op = 4 ∨ n.op = 5 ∨ n.op = 6) : ∃ n1 a1 k1 n2 a2 k2, k = .cons [] n1 a1 k1 (.cons [] n2 a2 k2 .nil) ∧ a = [] ∧ TwoS (rowT (n, a, k)) n (n1, a1, k1) (n2, a2, k2) := by
 obtain ⟨hok, hat, hw⟩ := Rt.wf h
 simp only at hok hat hw
 have ha : a = [] := by
  unfold AtOk at hat
  rwa [if_neg (by omega)] at hat
 have hds : ds n = [false, false] := by
  unfold ds
  rw [if_neg (by omega)]
  rcases h6 with h6 | h6 | h6 <;> rw [h6] <;> rfl
 rw [hds] at hw
 match k, hw with
 | .cons p1 n1 a1 k1 (.cons p2 n2 a2 k2 .nil), hw =>
  obtain ⟨hp1, o1, t1, w1, hp2, o2, t2, w2, _⟩ := hw
  simp only at hp1 hp2
  subst hp1 hp2 ha
  have hr : rowT (n, [], Fo.cons [] n1 a1 k1 (.cons [] n2 a2 k2 .nil)) = n :: (rowT (n1, a1, k1) ++ rowT (n2, a2, k2)) := by simp [row, rowT]
  have hl := Rt.few h
  rw [hr] at hl
  simp only [List.length_cons, List.length_append] at hl
  have f1 : RtX (n1, a1, k1) := rt_make o1 t1 w1 (by show (n1 :: (a1 ++ row k1)).length ≤ 4096; simp only [rowT] at hl; omega)
  have f2 : RtX (n2, a2, k2) := rt_make o2 t2 w2 (by show (n2 :: (a2 ++ row k2)).length ≤ 4096; simp only [rowT] at hl; omega)
  refine ⟨n1, a1, k1, n2, a2, k2, rfl, rfl, f1, f2, hr, ?_⟩
  have he := endI_nat (rowT (n, [], Fo.cons [] n1 a1 k1 (.cons [] n2 a2 k2 .nil))) 1
  rw [show ((1 : Nat) : Int) = 1 from rfl] at he
  rw [he]
  have hpp := pp_of_wf (.cons [] n1 a1 k1 .nil) [false] (rowT (n2, a2, k2)) ⟨rfl, o1, t1, w1, trivial⟩
  have hd : (rowT (n, [], Fo.cons [] n1 a1 k1 (.cons [] n2 a2 k2 .nil))).drop 1 = row (.cons [] n1 a1 k1 .nil) ++ rowT (n2, a2, k2) := by rw [hr]; simp [row, rowT]
  unfold ends
  rw [hd, hpp]
  simp only [Option.map_some, optI]
  rw [hr]
  simp only [List.length_cons, List.length_append]
  omega
theorem own_nul {w : World} {base n c : Nat} {A : Option Addr} {e : TypeId} {z : Nat} {xs : List Value} (h : w.ownsRow base e z (.slice A n c) n xs) : A = none → c = 0 := by
 intro hA
 rcases h.2 with ⟨hv, _⟩ | ⟨g, cap, cur, hv, _⟩
 · injection hv
 injection hv with e1
 rw [hA] at e1
 cases e1
theorem branchT_stop {rec_ : List Int → TT → Bool} {r : Nat} {zs : List Int} {y : TT} (h : r = 0 ∨ y.1.op ≠ 5) : branchT rec_ r zs y = rec_ zs y := by
 obtain ⟨n, a, k⟩ := y
 cases r with
 | zero => cases k <;> rfl
 | succ r =>
  match k with
  | .nil => rfl
  | .cons _ _ _ _ .nil => rfl
  | .cons _ n1 a1 k1 (.cons _ n2 a2 k2 x) =>
   simp only [branchT]
   rw [if_neg (by rcases h with h | h <;> first | omega | exact h)]
theorem branchT_lam {rec_ : List Int → TT → Bool} {r : Nat} {zs : List Int} {n n1 n2 : Nd} {a a1 a2 : List Nd} {k1 k2 : Fo} (h : n.op = 5) : branchT rec_ (r + 1) zs (n, a, .cons [] n1 a1 k1 (.cons [] n2 a2 k2 .nil)) = (rec_ zs (n1, a1, k1) && branchT rec_ r (zs ++ [2]) (n2, a2, k2)) := by
 simp only [branchT]
 rw [if_pos h]
theorem branch_any {K : LK} {I : World → Prop} {G : List Int → Prop} {J : TT → Prop} {rec_ : List Int → TT → Bool} {m : Nat} (H : FineH K I G J rec_ m) (hI : ∀ w w', I w → Below w.heap.size w w' → I w') (hG : ∀ zs, G zs → G (zs ++ [2])) (hJK : ∀ n a n1 a1 k1 n2 a2 k2, J (n, a, .cons [] n1 a1 k1 (.cons [] n2 a2 k2 .nil)) → J (n1, a1, k1) ∧ J (n2, a2, k2)) {w : World} {A B : Option Addr} {n c k d r : Nat} {y : TT} {zs : List Int} (hw : I w) (ht : TermV w A n c (rowT y)) (hy : RtX y) (hm : (rowT y).length ≤ m) (hJ : J y) (hk : k + (rowT y).length ≤ 9000) (hz : IntsR (· < w.heap.size) w B k d zs) (hnul : B = none → d = 0) (hg : G zs) (hr : r ≤ 100) :
 Calls Try.prog 135 #[.agg #[.int .i64 K.vars, .slice K.Ao K.no K.co, .slice K.Ae K.ne K.ce, .int .i64 K.nat, .slice K.Ap K.np K.cp, .slice K.Aq K.nq K.cq], .slice A n c, .int .i64 (r : Int), .slice B k d] w (BoolP (branchT rec_ r zs y) w) := by
 obtain ⟨vars, nat, Ao, no, co, Ae, ne, ce, Ap, np, cp, Aq, nq, cq⟩ := K
 unfold FineH at H
 simp only at H ⊢
 obtain ⟨i0, hi, hy0, hy1, hy2⟩ := info_parts infoM
 have HI0 := hid hi
 have HY0 := hid hy0
 have HY1 := hid hy1
 have HY2 := hid hy2
 have HH := hid H
 have HI := hid hI
 have HGG := hid hG
 have HJK := hid hJK
 have HW := hid hw
 have HT := hid ht
 have HY := hid hy
 have HM := hid hm
 have HJ := hid hJ
 have HG := hid hg
 have hk2 : k + n ≤ 9000 := by rw [← ht.len]; exact hk
 have hkl : k ≤ 9000 := by omega
 have HCL := hid (cloneM_any (hz.below (below_alloc w (.cells #[.int .i64 vars, .slice Ao no co, .slice Ae ne ce, .int .i64 nat, .slice Ap np cp, .slice Aq nq cq] 98))) (by omega) hnul)
 have HZL := hid hz.len
 clear H hI hG hJK hw ht hy hm hJ hg hk hi hy0 hy1 hy2 hz hnul
 go_in
 go_wp2_with fail
 refine (HCL.out).mono ?_
 rintro e w2 ⟨hb2, A2, n2, c2, rfl, ho2⟩
 have hn2 : n2 = k := by have := ho2.1; rw [← HZL.out]; simpa using this.symm
 have HB2 := hid ((below_alloc w (.cells #[.int .i64 vars, .slice Ao no co, .slice Ae ne ce, .int .i64 nat, .slice Ap np cp, .slice Aq nq cq] 98)).trans (hb2.mono (by simp)))
 have HBK := hid (Blk.below (Blk.new w 98 #[.int .i64 vars, .slice Ao no co, .slice Ae ne ce, .int .i64 nat, .slice Ap np cp, .slice Aq nq cq]) hb2 (by simp))
 have HO2 : Hid (OwnM w2 (w.heap.size + 1) A2 n2 c2 zs) := hid (by simpa using ho2)
 have hk3 : n2 + n ≤ 9000 := by omega
 clear hb2 ho2 hn2
 go_wp2_with fail
 go_loopw [1, 2, 3] (fun tv nv mv wr => ∃ (r' n' c' k' d' : Nat) (A' B' : Option Addr) (y' : TT) (zs' : List Int), tv = .slice A' n' c' ∧ nv = .int .i64 (r' : Int) ∧ mv = .slice B' k' d' ∧ r' ≤ 100 ∧ k' + n' ≤ 9000 ∧ Hid (RtX y') ∧ Hid ((rowT y').length ≤ m) ∧ Hid (J y') ∧ Hid (G zs') ∧ Hid (∀ w', Below w.heap.size w w' → TermV w' A' n' c' (rowT y')) ∧ Hid (OwnM wr (w.heap.size + 1) B' k' d' zs') ∧ Hid (branchT rec_ r' zs' y' = branchT rec_ r zs y) ∧ Hid (Blk wr w.heap.size 98 #[.int .i64 vars, .slice Ao no co, .slice Ae ne ce, .int .i64 nat, .slice Ap np cp, .slice Aq nq cq]) ∧ Hid (Below w.heap.size w wr)) (fun _ n _ _ => (intOf n).toNat)
 case atStart => exact ⟨r, n, c, n2, c2, A, A2, y, zs, rfl, rfl, rfl, hr, hk3, HY, HM, HJ, HG, hid (fun w' h => HT.out.below h), HO2, hid rfl, HBK, HB2⟩
 case round =>
  obtain ⟨r', n', c', k', d', A', B', y', zs', rfl, rfl, rfl, hr', hkn, hrt, hlm, hJ', hG', htc, hom, hbr, hblk, hbw⟩ := hrel
  obtain ⟨nd, a, kk⟩ := y'
  have HT1 := hid (htc.out _ hbw.out)
  have hlen := HT1.out.len
  have hn0 : 0 < n' := by rw [← hlen]; simp [rowT]
  have hcap := HT1.out.cap
  obtain ⟨b, off, rfl, hb, hc0, _, _⟩ := HT1.out.at_ hn0
  rw [Nat.zero_mul, Nat.add_zero, show nth (rowT (nd, a, kk)) 0 = nd from rfl] at hc0
  have hbs := hbw.out.size
  have zc := Blk.cell hblk.out
  have hbl := hblk.out.lt
  have HOM := hid (OwnM.ints hom.out (by omega))
  by_cases h5 : 0 < r' ∧ nd.op = 5
  rotate_left
  · have HE : Hid (rec_ zs' (nd, a, kk) = branchT rec_ r zs y) := hid (by rw [← hbr.out, branchT_stop]; show r' = 0 ∨ nd.op ≠ 5; omega)
    have hcnd : r' = 0 ∨ (0 < r' ∧ nd.op ≠ 5) := by omega
    have HC := hid (HH.out wr (nd, a, kk) zs' (some ⟨b, off, none⟩) n' c' B' k' d' (HI.out _ _ HW.out hbw.out) HT1.out hrt.out hlm.out hJ'.out HOM.out (own_nul hom.out) (by rw [hlen]; exact hkn) hG'.out)
    rw [HE.out] at HC
    generalize branchT rec_ r zs y = res at *
    generalize nd.op = op at *
    rcases hcnd with rfl | ⟨hp, hq⟩
    case' inr =>
     have h5b : (op == 5) = false := by simpa using hq
     have hpb : decide ((r' : Int) > 0) = true := decide_eq_true (by omega)
     clear hq
    all_goals
     clear h5
     go_wp2_with fail
     refine (HC.out).mono ?_
     rintro e w3 ⟨rfl, hb3⟩
     have HB3 := hid (hbw.out.trans (hb3.mono hbs))
     clear hb3
     go_wp2_with fail
     go_ret
     exact ⟨rfl, HB3.out⟩
  obtain ⟨hr0, h5⟩ := h5
  obtain ⟨r1, rfl⟩ : ∃ r1, r' = r1 + 1 := ⟨r' - 1, by omega⟩
  obtain ⟨nx, ax, kx, ny, ay, ky, rfl, rfl, hsplit⟩ := two_split hrt.out (.inr (.inl h5))
  obtain ⟨hf1, hf2, hq, hend⟩ := hsplit
  obtain ⟨hJ1, hJ2⟩ := HJK.out _ _ _ _ _ _ _ _ hJ'.out
  have hbr2 := hbr.out
  rw [branchT_lam h5] at hbr2
  obtain ⟨p, hp⟩ : ∃ p, p = 1 + (rowT (nx, ax, kx)).length := ⟨_, rfl⟩
  rw [← hp] at hend
  have hql : n' = p + (rowT (ny, ay, ky)).length := by rw [← hlen, hq, hp]; simp; omega
  have hr2l : 0 < (rowT (ny, ay, ky)).length := by simp [rowT]
  have hlm2 := hlm.out
  rw [hlen] at hlm2
  obtain ⟨A2', hcut2, hcutr2⟩ := cut_from (some ⟨b, off, none⟩) n' c' p (by omega)
  obtain ⟨A3', hcut3, hcutr3⟩ := cut_mid (some ⟨b, off, none⟩) n' c' 1 p (by omega) (by omega) hcap
  rw [show ((1 : Nat) : Int) = 1 from rfl] at hcut3
  have HT2 : Hid (∀ w', Below w.heap.size w w' → TermV w' A2' (n' - p) (c' - p) (rowT (ny, ay, ky))) := hid fun w' h => by
   have := hcutr2 _ _ _ (htc.out w' h)
   rw [hq, hp, Nat.add_comm, List.drop_succ_cons, List.drop_left] at this
   rw [hp, Nat.add_comm]
   exact this
  have HT3 : Hid (∀ w', Below w.heap.size w w' → TermV w' A3' (p - 1) (c' - 1) (rowT (nx, ax, kx))) := hid fun w' h => by
   have := hcutr3 _ _ _ (htc.out w' h)
   rw [hq, hp, Nat.add_comm, List.take_succ_cons, List.drop_succ_cons, List.drop_zero, List.take_left] at this
   rw [hp, Nat.add_comm]
   exact this
  have HEND := hid (end_any HT1.out 1)
  rw [hend] at HEND
  have HC := hid (fun (wr2 : World) (h2 : Below w.heap.size w wr2) (h3 : OwnM wr2 (w.heap.size + 1) B' k' d' zs') => HH.out wr2 (nx, ax, kx) zs' A3' (p - 1) (c' - 1) B' k' d' (HI.out _ _ HW.out h2) (HT3.out _ h2) hf1 (by omega) hJ1 (OwnM.ints h3 (by omega)) (own_nul h3) (by omega) hG'.out)
  have HF2 := hid hf2
  have HJ2 := hid hJ2
  have HML2 : Hid ((rowT (ny, ay, ky)).length ≤ m) := hid (by omega)
  have HBR2 := hid hbr2
  have hp1 : 1 ≤ p := by omega
  have hpn : p < n' := by omega
  clear hf1 hf2 hq hend hp hql hr2l hJ1 hJ2 hbr2 hlm2 hcutr2 hcutr3
  rw [h5] at hc0
  have hpb : decide (((r1 + 1 : Nat) : Int) > 0) = true := decide_eq_true (by omega)
  clear h5 hlen
  go_wp2_with fail
  refine (HEND.out).mono ?_
  rintro e w3 ⟨rfl, hb3⟩
  have HB3 := hid (hbw.out.trans (hb3.mono hbs))
  have HO3 := hid (own_below hom.out hb3)
  have HBK3 := hid (Blk.below hblk.out hb3 hbl)
  have zc3 := Blk.cell HBK3.out
  have hbs3 := HB3.out.size
  have hbl3 := HBK3.out.lt
  have HC3 := hid (HC.out w3.drew (below_drewN HB3.out 1) HO3.out)
  obtain ⟨rb, hrb⟩ : ∃ rb, rb = rec_ zs' (nx, ax, kx) := ⟨_, rfl⟩
  rw [← hrb] at HC3 HBR2
  clear hb3 zc hc0 hrb
  cases rb with
  | false =>
   have HRES : Hid (branchT rec_ r zs y = false) := hid HBR2.out.symm
   go_wp2_with fail
   go_region_held3 (fun w' => w'.cell? ⟨w.heap.size, 0, none⟩ = some (.int .i64 vars) ∧ w'.cell? ⟨w.heap.size, 1, none⟩ = some (.slice Ao no co) ∧ w'.cell? ⟨w.heap.size, 2, none⟩ = some (.slice Ae ne ce) ∧ w'.cell? ⟨w.heap.size, 3, none⟩ = some (.int .i64 nat) ∧ w'.cell? ⟨w.heap.size, 4, none⟩ = some (.slice Ap np cp) ∧ w'.cell? ⟨w.heap.size, 5, none⟩ = some (.slice Aq nq cq)) (first | exact ⟨zc3 0, zc3 1, zc3 2, zc3 3, zc3 4, zc3 5⟩ | exact ⟨zc4 0, zc4 1, zc4 2, zc4 3, zc4 4, zc4 5⟩)
    (first
     | (go_at_call 83; refine (HC3.out).mono ?_; rintro e w4 ⟨rfl, hb4⟩; have hblk4 := Blk.below (show Blk w3.drew w.heap.size 98 _ from HBK3.out) hb4 hbl3; have zc4 := Blk.cell hblk4))
   have HB4 := hid ((below_drewN HB3.out 1).trans (hb4.mono hbs3))
   clear hb4
   go_wp2_with fail
   go_ret
   rw [HRES.out]
   exact ⟨rfl, HB4.out⟩
  | true =>
   rw [Bool.true_and] at HBR2
   go_wp2_with fail
   go_region_held3 (fun w' => w'.cell? ⟨w.heap.size, 0, none⟩ = some (.int .i64 vars) ∧ w'.cell? ⟨w.heap.size, 1, none⟩ = some (.slice Ao no co) ∧ w'.cell? ⟨w.heap.size, 2, none⟩ = some (.slice Ae ne ce) ∧ w'.cell? ⟨w.heap.size, 3, none⟩ = some (.int .i64 nat) ∧ w'.cell? ⟨w.heap.size, 4, none⟩ = some (.slice Ap np cp) ∧ w'.cell? ⟨w.heap.size, 5, none⟩ = some (.slice Aq nq cq)) (first | exact ⟨zc3 0, zc3 1, zc3 2, zc3 3, zc3 4, zc3 5⟩ | exact ⟨zc4 0, zc4 1, zc4 2, zc4 3, zc4 4, zc4 5⟩)
    (first
     | (go_at_call 83; refine (HC3.out).mono ?_; rintro e w4 ⟨rfl, hb4⟩; have hblk4 := Blk.below (show Blk w3.drew w.heap.size 98 _ from HBK3.out) hb4 hbl3; have zc4 := Blk.cell hblk4))
   have HB4 := hid ((below_drewN HB3.out 1).trans (hb4.mono hbs3))
   have HO4 := hid (own_below (show OwnM w3.drew (w.heap.size + 1) B' k' d' zs' from HO3.out) hb4)
   have HBK4 := hid hblk4
   have hbs4 := HB4.out.size
   have hbl4 := hblk4.lt
   have hmk : Hid ((zs' ++ [2]).map (Value.int .i64) = zs'.map (Value.int .i64) ++ [.int .i64 2]) := hid (by simp)
   clear hb4 hblk4 zc4 zc3
   go_wp2_with (at_builtin; go_loud (refine wpList_oper rfl (oper_append_one (.tmp 32) (.tmp 33) 99 100 rfl (w.heap.size + 1) i0 _ 8 Try.underlying99 HI0.out HY0.out HY1.out HY2.out rfl (by decide) (.slice B' k' d') k' (zs'.map (Value.int .i64)) (.int .i64 2) rfl w4 rfl rfl HO4.out _ rfl rfl (by omega) (by omega) ?_)); intro A5 c5 w5 happ5)
   have HO5 : Hid (OwnM w5 (w.heap.size + 1) A5 (k' + 1) c5 (zs' ++ [2])) := hid (by
    have := happ5.own
    rw [← hmk.out] at this
    exact this)
   have HB5 := hid (HB4.out.grown happ5.grown hbs4 (fun g hg => by have := (ownsRow_block HO4.out hg).1; omega))
   have HBK5 := hid (Blk.grown HBK4.out happ5.grown (own_ne HO4.out (Nat.lt_succ_self _)))
   clear happ5
   go_wp2_with fail
   go_roundw
   case rel => exact ⟨r1, n' - p, c' - p, k' + 1, c5, A2', A5, (ny, ay, ky), zs' ++ [2], rfl, by go_num, rfl, by omega, by omega, HF2, HML2, HJ2, hid (HGG.out _ hG'.out), HT2, HO5, HBR2, HBK5, HB5⟩
   case measure => simp [intOf]
end
section
open Go.RowKit
def takenT : Nat → TT → Bool
 | 0, (n, _, .cons _ n1 a1 k1 (.cons _ _ _ _ _)) => if n.op = 4 then (hd (rowT (n1, a1, k1)).length (n1, a1, k1)).1.1.op == 9 else false
 | p + 1, (n, _, .cons _ _ _ _ (.cons _ n2 a2 k2 _)) => if n.op = 4 then takenT p (n2, a2, k2) else false
 | _, _ => false
theorem takenT_stop {p : Nat} {y : TT} (h : y.1.op ≠ 4) : takenT p y = false := by
 obtain ⟨n, a, k⟩ := y
 have h2 : n.op ≠ 4 := h
 cases p with
 | zero =>
  match k with
  | .nil => rfl
  | .cons _ _ _ _ .nil => rfl
  | .cons _ n1 a1 k1 (.cons _ n2 a2 k2 x) => simp only [takenT]; rw [if_neg h2]
 | succ p =>
  match k with
  | .nil => rfl
  | .cons _ _ _ _ .nil => rfl
  | .cons _ n1 a1 k1 (.cons _ n2 a2 k2 x) => simp only [takenT]; rw [if_neg h2]
theorem taken_any {w : World} {A : Option Addr} {n c p : Nat} {y : TT} (ht : TermV w A n c (rowT y)) (hy : RtX y) (hp : p ≤ 100) :
 Calls Try.prog 55 #[.slice A n c, .int .i64 (p : Int)] w (BoolP (takenT p y) w) := by
 have HT := hid ht
 have HY := hid hy
 have hn4 : n ≤ 4096 := by rw [← ht.len]; exact Rt.few hy
 clear ht hy
 go_in
 go_wp2_with fail
 go_loopw [0, 5] (fun tv iv wr => ∃ (i q n' c' : Nat) (A' : Option Addr) (y' : TT), tv = .slice A' n' c' ∧ iv = .int .i64 (i : Int) ∧ i + q = p ∧ n' ≤ 4096 ∧ Hid (RtX y') ∧ Hid (∀ w', Below w.heap.size w w' → TermV w' A' n' c' (rowT y')) ∧ Hid (takenT q y' = takenT p y) ∧ Hid (Below w.heap.size w wr)) (fun _ i _ => p - (intOf i).toNat)
 case atStart => exact ⟨0, p, n, c, A, y, rfl, rfl, by omega, hn4, HY, hid (fun w' h => HT.out.below h), hid rfl, hid (Below.refl _ _)⟩
 case round =>
  obtain ⟨i, q, n', c', A', y', rfl, rfl, hiq, hn', hrt, htc, htk, hbw⟩ := hrel
  obtain ⟨nd, a, kk⟩ := y'
  have HT1 := hid (htc.out _ hbw.out)
  have hlen := HT1.out.len
  have hn0 : 0 < n' := by rw [← hlen]; simp [rowT]
  have hcap := HT1.out.cap
  obtain ⟨b, off, rfl, hb, hc0, _, _⟩ := HT1.out.at_ hn0
  rw [Nat.zero_mul, Nat.add_zero, show nth (rowT (nd, a, kk)) 0 = nd from rfl] at hc0
  have hbs := hbw.out.size
  by_cases h4 : nd.op = 4
  rotate_left
  · have h4b : (nd.op == 4) = false := by simpa using h4
    have HRES : Hid (takenT p y = false) := hid (by rw [← htk.out, takenT_stop]; exact h4)
    generalize nd.op = op at *
    clear h4
    go_wp2_with fail
    go_ret
    rw [HRES.out]
    exact ⟨rfl, hbw.out⟩
  obtain ⟨nx, ax, kx, ny, ay, ky, rfl, rfl, hsplit⟩ := two_split hrt.out (.inl h4)
  obtain ⟨hf1, hf2, hq, hend⟩ := hsplit
  obtain ⟨e, he⟩ : ∃ e, e = 1 + (rowT (nx, ax, kx)).length := ⟨_, rfl⟩
  rw [← he] at hend
  have hql : n' = e + (rowT (ny, ay, ky)).length := by rw [← hlen, hq, he]; simp; omega
  have hr2l : 0 < (rowT (ny, ay, ky)).length := by simp [rowT]
  obtain ⟨A2', hcut2, hcutr2⟩ := cut_from (some ⟨b, off, none⟩) n' c' e (by omega)
  obtain ⟨A3', hcut3, hcutr3⟩ := cut_mid (some ⟨b, off, none⟩) n' c' 1 e (by omega) (by omega) hcap
  rw [show ((1 : Nat) : Int) = 1 from rfl] at hcut3
  have HT2 : Hid (∀ w', Below w.heap.size w w' → TermV w' A2' (n' - e) (c' - e) (rowT (ny, ay, ky))) := hid fun w' h => by
   have := hcutr2 _ _ _ (htc.out w' h)
   rw [hq, he, Nat.add_comm, List.drop_succ_cons, List.drop_left] at this
   rw [he, Nat.add_comm]
   exact this
  have HT3 : Hid (∀ w', Below w.heap.size w w' → TermV w' A3' (e - 1) (c' - 1) (rowT (nx, ax, kx))) := hid fun w' h => by
   have := hcutr3 _ _ _ (htc.out w' h)
   rw [hq, he, Nat.add_comm, List.take_succ_cons, List.drop_succ_cons, List.drop_zero, List.take_left] at this
   rw [he, Nat.add_comm]
   exact this
  have HEND := hid (end_any HT1.out 1)
  rw [hend] at HEND
  have HF1 : Hid (RtX (nx, ax, kx)) := hid hf1
  have HF2 := hid hf2
  have hp1 : 1 ≤ e := by omega
  have hpn : e < n' := by omega
  clear hf1 hf2 hq hend he hql hr2l hcutr2 hcutr3 hlen
  cases q with
  | zero =>
   have hip : ((i : Int) == (p : Int)) = true := by simp; omega
   have HRES : Hid (((hd (rowT (nx, ax, kx)).length (nx, ax, kx)).1.1.op == 9) = takenT p y) := hid (by rw [← htk.out]; simp only [takenT]; rw [if_pos h4])
   rw [h4] at hc0
   clear h4
   go_wp2_with fail
   refine (HEND.out).mono ?_
   rintro e1 w3 ⟨rfl, hb3⟩
   have HB3 := hid (hbw.out.trans (hb3.mono hbs))
   have HH := hid (head_any (HT3.out _ HB3.out) HF1.out)
   clear hb3
   go_wp2_with fail
   refine (HH.out).mono ?_
   rintro e2 w4 ⟨hb4, A5, n5, c5, B5, d5, vs5, rfl, htf, _, _⟩
   have HB4 := bto HB3 hb4
   have hf5 := htf w4 hb4
   have hn5 : 0 < n5 := by have := hf5.len; rw [← this]; simp [rowT]
   obtain ⟨b5, o5, rfl, _, hc5, _, _⟩ := hf5.at_ hn5
   rw [Nat.zero_mul, Nat.add_zero] at hc5
   have hc6 : w4.cell? ⟨b5, o5, none⟩ = some (.int .i64 (hd (rowT (nx, ax, kx)).length (nx, ax, kx)).1.1.op) := hc5
   have hrs := HRES.out
   generalize (hd (rowT (nx, ax, kx)).length (nx, ax, kx)).1.1.op = fo at hc6 hrs
   have HRS := hid hrs
   clear hb4 htf hf5 hc5 hrs
   go_wp2_with fail
   go_ret
   rw [← HRS.out]
   exact ⟨rfl, HB4.out⟩
  | succ q =>
   have hip : ((i : Int) == (p : Int)) = false := by simp; omega
   have HRES : Hid (takenT q (ny, ay, ky) = takenT p y) := hid (by rw [← htk.out]; simp only [takenT]; rw [if_pos h4])
   rw [h4] at hc0
   clear h4
   go_wp2_with fail
   refine (HEND.out).mono ?_
   rintro e1 w3 ⟨rfl, hb3⟩
   have HB3 := hid (hbw.out.trans (hb3.mono hbs))
   clear hb3
   go_wp2_with fail
   go_roundw
   case rel => exact ⟨i + 1, q, n' - e, c' - e, A2', (ny, ay, ky), rfl, by go_num, by omega, by omega, HF2, HT2, HRES, HB3⟩
   case measure => simp [intOf]; omega
end
section
open Go.RowKit
def bodyT (rec_ : List Int → TT → Bool) : Nat → List Int → TT → Bool
 | 0, zs, y => rec_ zs y
 | r + 1, zs, (n, _, .cons _ n1 a1 k1 (.cons _ n2 a2 k2 _)) => if n.op = 5 then rec_ zs (n1, a1, k1) && bodyT rec_ r (zs ++ [if r = 0 then 1 else 0]) (n2, a2, k2) else false
 | _ + 1, _, _ => false
theorem bodyT_stop {rec_ : List Int → TT → Bool} {r : Nat} {zs : List Int} {y : TT} (h : y.1.op ≠ 5) : bodyT rec_ (r + 1) zs y = false := by
 obtain ⟨n, a, k⟩ := y
 have h2 : n.op ≠ 5 := h
 match k with
 | .nil => rfl
 | .cons _ _ _ _ .nil => rfl
 | .cons _ n1 a1 k1 (.cons _ n2 a2 k2 x) => simp only [bodyT]; rw [if_neg h2]
theorem bodyT_lam {rec_ : List Int → TT → Bool} {r : Nat} {zs : List Int} {n n1 n2 : Nd} {a a1 a2 : List Nd} {k1 k2 : Fo} (h : n.op = 5) : bodyT rec_ (r + 1) zs (n, a, .cons [] n1 a1 k1 (.cons [] n2 a2 k2 .nil)) = (rec_ zs (n1, a1, k1) && bodyT rec_ r (zs ++ [if r = 0 then 1 else 0]) (n2, a2, k2)) := by
 simp only [bodyT]
 rw [if_pos h]
theorem body_any {K : LK} {I : World → Prop} {G : List Int → Prop} {J : TT → Prop} {rec_ : List Int → TT → Bool} {m : Nat} (H : FineH K I G J rec_ m) (hI : ∀ w w', I w → Below w.heap.size w w' → I w') (hG : ∀ zs z, 0 ≤ z → z ≤ 2 → G zs → G (zs ++ [z])) (hJK : ∀ n a n1 a1 k1 n2 a2 k2, J (n, a, .cons [] n1 a1 k1 (.cons [] n2 a2 k2 .nil)) → J (n1, a1, k1) ∧ J (n2, a2, k2)) {w : World} {A B : Option Addr} {n c k d p : Nat} {y : TT} {zs : List Int} (hw : I w) (ht : TermV w A n c (rowT y)) (hy : RtX y) (hm : (rowT y).length ≤ m) (hJ : J y) (hk : k + (rowT y).length ≤ 9000) (hz : IntsR (· < w.heap.size) w B k d zs) (hnul : B = none → d = 0) (hg : G zs) (hp : p ≤ 100) :
 Calls Try.prog 56 #[.agg #[.int .i64 K.vars, .slice K.Ao K.no K.co, .slice K.Ae K.ne K.ce, .int .i64 K.nat, .slice K.Ap K.np K.cp, .slice K.Aq K.nq K.cq], .slice A n c, .int .i64 (p : Int), .slice B k d] w (BoolP (bodyT rec_ (p + 1) zs y) w) := by
 obtain ⟨vars, nat, Ao, no, co, Ae, ne, ce, Ap, np, cp, Aq, nq, cq⟩ := K
 unfold FineH at H
 simp only at H ⊢
 obtain ⟨i0, hi, hy0, hy1, hy2⟩ := info_parts infoM
 have HI0 := hid hi
 have HY0 := hid hy0
 have HY1 := hid hy1
 have HY2 := hid hy2
 have HH := hid H
 have HI := hid hI
 have HGG := hid hG
 have HJK := hid hJK
 have HW := hid hw
 have HT := hid ht
 have HY := hid hy
 have HM := hid hm
 have HJ := hid hJ
 have HG := hid hg
 have hk2 : k + n ≤ 9000 := by rw [← ht.len]; exact hk
 have hkl : k ≤ 9000 := by omega
 have HCL := hid (cloneM_any (hz.below (below_alloc w (.cells #[.int .i64 vars, .slice Ao no co, .slice Ae ne ce, .int .i64 nat, .slice Ap np cp, .slice Aq nq cq] 98))) (by omega) hnul)
 have HZL := hid hz.len
 clear H hI hG hJK hw ht hy hm hJ hg hk hi hy0 hy1 hy2 hz hnul
 go_in
 go_wp2_with fail
 refine (HCL.out).mono ?_
 rintro e w2 ⟨hb2, A2, n2, c2, rfl, ho2⟩
 have hn2 : n2 = k := by have := ho2.1; rw [← HZL.out]; simpa using this.symm
 have HB2 := hid ((below_alloc w (.cells #[.int .i64 vars, .slice Ao no co, .slice Ae ne ce, .int .i64 nat, .slice Ap np cp, .slice Aq nq cq] 98)).trans (hb2.mono (by simp)))
 have HBK := hid (Blk.below (Blk.new w 98 #[.int .i64 vars, .slice Ao no co, .slice Ae ne ce, .int .i64 nat, .slice Ap np cp, .slice Aq nq cq]) hb2 (by simp))
 have HO2 : Hid (OwnM w2 (w.heap.size + 1) A2 n2 c2 zs) := hid (by simpa using ho2)
 have hk3 : n2 + n ≤ 9000 := by omega
 clear hb2 ho2 hn2
 go_wp2_with fail
 go_loopw [1, 3, 9] (fun tv mv iv wr => ∃ (i r' n' c' k' d' : Nat) (A' B' : Option Addr) (y' : TT) (zs' : List Int), tv = .slice A' n' c' ∧ iv = .int .i64 (i : Int) ∧ mv = .slice B' k' d' ∧ i + r' = p + 1 ∧ k' + n' ≤ 9000 ∧ Hid (RtX y') ∧ Hid ((rowT y').length ≤ m) ∧ Hid (J y') ∧ Hid (G zs') ∧ Hid (∀ w', Below w.heap.size w w' → TermV w' A' n' c' (rowT y')) ∧ Hid (OwnM wr (w.heap.size + 1) B' k' d' zs') ∧ Hid (bodyT rec_ r' zs' y' = bodyT rec_ (p + 1) zs y) ∧ Hid (Blk wr w.heap.size 98 #[.int .i64 vars, .slice Ao no co, .slice Ae ne ce, .int .i64 nat, .slice Ap np cp, .slice Aq nq cq]) ∧ Hid (Below w.heap.size w wr)) (fun _ _ i _ => p + 1 - (intOf i).toNat)
 case atStart => exact ⟨0, p + 1, n, c, n2, c2, A, A2, y, zs, rfl, rfl, rfl, by omega, hk3, HY, HM, HJ, HG, hid (fun w' h => HT.out.below h), HO2, hid rfl, HBK, HB2⟩
 case round =>
  obtain ⟨i, r', n', c', k', d', A', B', y', zs', rfl, rfl, rfl, hr', hkn, hrt, hlm, hJ', hG', htc, hom, hbr, hblk, hbw⟩ := hrel
  obtain ⟨nd, a, kk⟩ := y'
  have HT1 := hid (htc.out _ hbw.out)
  have hlen := HT1.out.len
  have hn0 : 0 < n' := by rw [← hlen]; simp [rowT]
  have hcap := HT1.out.cap
  obtain ⟨b, off, rfl, hb, hc0, _, _⟩ := HT1.out.at_ hn0
  rw [Nat.zero_mul, Nat.add_zero, show nth (rowT (nd, a, kk)) 0 = nd from rfl] at hc0
  have hbs := hbw.out.size
  have zc := Blk.cell hblk.out
  have hbl := hblk.out.lt
  have HOM := hid (OwnM.ints hom.out (by omega))
  cases r' with
  | succ r1 =>
   have hile : decide ((i : Int) ≤ (p : Int)) = true := decide_eq_true (by omega)
   by_cases h5 : nd.op = 5
   · obtain ⟨nx, ax, kx, ny, ay, ky, rfl, rfl, hsplit⟩ := two_split hrt.out (.inr (.inl h5))
     obtain ⟨hf1, hf2, hq, hend⟩ := hsplit
     obtain ⟨hJ1, hJ2⟩ := HJK.out _ _ _ _ _ _ _ _ hJ'.out
     have hbr2 := hbr.out
     rw [bodyT_lam h5] at hbr2
     obtain ⟨e, he⟩ : ∃ e, e = 1 + (rowT (nx, ax, kx)).length := ⟨_, rfl⟩
     rw [← he] at hend
     have hql : n' = e + (rowT (ny, ay, ky)).length := by rw [← hlen, hq, he]; simp; omega
     have hr2l : 0 < (rowT (ny, ay, ky)).length := by simp [rowT]
     have hlm2 := hlm.out
     rw [hlen] at hlm2
     obtain ⟨A2', hcut2, hcutr2⟩ := cut_from (some ⟨b, off, none⟩) n' c' e (by omega)
     obtain ⟨A3', hcut3, hcutr3⟩ := cut_mid (some ⟨b, off, none⟩) n' c' 1 e (by omega) (by omega) hcap
     rw [show ((1 : Nat) : Int) = 1 from rfl] at hcut3
     have HT2 : Hid (∀ w', Below w.heap.size w w' → TermV w' A2' (n' - e) (c' - e) (rowT (ny, ay, ky))) := hid fun w' h => by
      have := hcutr2 _ _ _ (htc.out w' h)
      rw [hq, he, Nat.add_comm, List.drop_succ_cons, List.drop_left] at this
      rw [he, Nat.add_comm]
      exact this
     have HT3 : Hid (∀ w', Below w.heap.size w w' → TermV w' A3' (e - 1) (c' - 1) (rowT (nx, ax, kx))) := hid fun w' h => by
      have := hcutr3 _ _ _ (htc.out w' h)
      rw [hq, he, Nat.add_comm, List.take_succ_cons, List.drop_succ_cons, List.drop_zero, List.take_left] at this
      rw [he, Nat.add_comm]
      exact this
     have HEND := hid (end_any HT1.out 1)
     rw [hend] at HEND
     have HC := hid (fun (wr2 : World) (h2 : Below w.heap.size w wr2) (h3 : OwnM wr2 (w.heap.size + 1) B' k' d' zs') => HH.out wr2 (nx, ax, kx) zs' A3' (e - 1) (c' - 1) B' k' d' (HI.out _ _ HW.out h2) (HT3.out _ h2) hf1 (by omega) hJ1 (OwnM.ints h3 (by omega)) (own_nul h3) (by omega) hG'.out)
     have HF2 := hid hf2
     have HJ2 := hid hJ2
     have HML2 : Hid ((rowT (ny, ay, ky)).length ≤ m) := hid (by omega)
     have HBR2 := hid hbr2
     have hp1 : 1 ≤ e := by omega
     have hpn : e < n' := by omega
     clear hf1 hf2 hq hend he hql hr2l hJ1 hJ2 hbr2 hlm2 hcutr2 hcutr3
     rw [h5] at hc0
     clear h5 hlen
     go_wp2_with fail
     refine (HEND.out).mono ?_
     rintro e1 w3 ⟨rfl, hb3⟩
     have HB3 := hid (hbw.out.trans (hb3.mono hbs))
     have HO3 := hid (own_below hom.out hb3)
     have HBK3 := hid (Blk.below hblk.out hb3 hbl)
     have zc3 := Blk.cell HBK3.out
     have hbs3 := HB3.out.size
     have hbl3 := HBK3.out.lt
     have HC3 := hid (HC.out w3.drew (below_drewN HB3.out 1) HO3.out)
     obtain ⟨rb, hrb⟩ : ∃ rb, rb = rec_ zs' (nx, ax, kx) := ⟨_, rfl⟩
     rw [← hrb] at HC3 HBR2
     clear hb3 zc hc0 hrb
     cases rb with
     | false =>
      have HRES : Hid (bodyT rec_ (p + 1) zs y = false) := hid HBR2.out.symm
      go_wp2_with fail
      go_region_held3 (fun w' => w'.cell? ⟨w.heap.size, 0, none⟩ = some (.int .i64 vars) ∧ w'.cell? ⟨w.heap.size, 1, none⟩ = some (.slice Ao no co) ∧ w'.cell? ⟨w.heap.size, 2, none⟩ = some (.slice Ae ne ce) ∧ w'.cell? ⟨w.heap.size, 3, none⟩ = some (.int .i64 nat) ∧ w'.cell? ⟨w.heap.size, 4, none⟩ = some (.slice Ap np cp) ∧ w'.cell? ⟨w.heap.size, 5, none⟩ = some (.slice Aq nq cq)) (first | exact ⟨zc3 0, zc3 1, zc3 2, zc3 3, zc3 4, zc3 5⟩ | exact ⟨zc4 0, zc4 1, zc4 2, zc4 3, zc4 4, zc4 5⟩)
       (first
        | (go_at_call 83; refine (HC3.out).mono ?_; rintro e w4 ⟨rfl, hb4⟩; have hblk4 := Blk.below (show Blk w3.drew w.heap.size 98 _ from HBK3.out) hb4 hbl3; have zc4 := Blk.cell hblk4))
      have HB4 := hid ((below_drewN HB3.out 1).trans (hb4.mono hbs3))
      clear hb4
      go_wp2_with fail
      go_ret
      rw [HRES.out]
      exact ⟨rfl, HB4.out⟩
     | true =>
      rw [Bool.true_and] at HBR2
      go_wp2_with fail
      go_region_held3 (fun w' => w'.cell? ⟨w.heap.size, 0, none⟩ = some (.int .i64 vars) ∧ w'.cell? ⟨w.heap.size, 1, none⟩ = some (.slice Ao no co) ∧ w'.cell? ⟨w.heap.size, 2, none⟩ = some (.slice Ae ne ce) ∧ w'.cell? ⟨w.heap.size, 3, none⟩ = some (.int .i64 nat) ∧ w'.cell? ⟨w.heap.size, 4, none⟩ = some (.slice Ap np cp) ∧ w'.cell? ⟨w.heap.size, 5, none⟩ = some (.slice Aq nq cq)) (first | exact ⟨zc3 0, zc3 1, zc3 2, zc3 3, zc3 4, zc3 5⟩ | exact ⟨zc4 0, zc4 1, zc4 2, zc4 3, zc4 4, zc4 5⟩)
       (first
        | (go_at_call 83; refine (HC3.out).mono ?_; rintro e w4 ⟨rfl, hb4⟩; have hblk4 := Blk.below (show Blk w3.drew w.heap.size 98 _ from HBK3.out) hb4 hbl3; have zc4 := Blk.cell hblk4))
      have HB4 := hid ((below_drewN HB3.out 1).trans (hb4.mono hbs3))
      have HO4 := hid (own_below (show OwnM w3.drew (w.heap.size + 1) B' k' d' zs' from HO3.out) hb4)
      have HBK4 := hid hblk4
      have hbs4 := HB4.out.size
      have hbl4 := hblk4.lt
      clear hb4 hblk4 zc4 zc3
      rcases Nat.eq_zero_or_pos r1 with hr0 | hr0
      · have hip : ((i : Int) == (p : Int)) = true := by simp; omega
        rw [if_pos hr0] at HBR2
        have hmk : Hid ((zs' ++ [1]).map (Value.int .i64) = zs'.map (Value.int .i64) ++ [.int .i64 1]) := hid (by simp)
        clear hr0
        go_wp2_with (at_builtin; go_loud (refine wpList_oper rfl (oper_append_one (.tmp 36) (.tmp 38) 99 100 rfl (w.heap.size + 1) i0 _ 8 Try.underlying99 HI0.out HY0.out HY1.out HY2.out rfl (by decide) (.slice B' k' d') k' (zs'.map (Value.int .i64)) (.int .i64 1) rfl w4 rfl rfl HO4.out _ rfl rfl (by omega) (by omega) ?_)); intro A5 c5 w5 happ5)
        have HO5 : Hid (OwnM w5 (w.heap.size + 1) A5 (k' + 1) c5 (zs' ++ [1])) := hid (by
         have := happ5.own
         rw [← hmk.out] at this
         exact this)
        have HB5 := hid (HB4.out.grown happ5.grown hbs4 (fun g hg => by have := (ownsRow_block HO4.out hg).1; omega))
        have HBK5 := hid (Blk.grown HBK4.out happ5.grown (own_ne HO4.out (Nat.lt_succ_self _)))
        clear happ5
        go_wp2_with fail
        go_roundw
        case rel => exact ⟨i + 1, r1, n' - e, c' - e, k' + 1, c5, A2', A5, (ny, ay, ky), zs' ++ [1], rfl, by go_num, rfl, by omega, by omega, HF2, HML2, HJ2, hid (HGG.out _ _ (by omega) (by omega) hG'.out), HT2, HO5, HBR2, HBK5, HB5⟩
        case measure => simp [intOf]; omega
      · have hip : ((i : Int) == (p : Int)) = false := by simp; omega
        rw [if_neg (by omega)] at HBR2
        have hmk : Hid ((zs' ++ [0]).map (Value.int .i64) = zs'.map (Value.int .i64) ++ [.int .i64 0]) := hid (by simp)
        clear hr0
        go_wp2_with (at_builtin; go_loud (refine wpList_oper rfl (oper_append_one (.tmp 36) (.tmp 38) 99 100 rfl (w.heap.size + 1) i0 _ 8 Try.underlying99 HI0.out HY0.out HY1.out HY2.out rfl (by decide) (.slice B' k' d') k' (zs'.map (Value.int .i64)) (.int .i64 0) rfl w4 rfl rfl HO4.out _ rfl rfl (by omega) (by omega) ?_)); intro A5 c5 w5 happ5)
        have HO5 : Hid (OwnM w5 (w.heap.size + 1) A5 (k' + 1) c5 (zs' ++ [0])) := hid (by
         have := happ5.own
         rw [← hmk.out] at this
         exact this)
        have HB5 := hid (HB4.out.grown happ5.grown hbs4 (fun g hg => by have := (ownsRow_block HO4.out hg).1; omega))
        have HBK5 := hid (Blk.grown HBK4.out happ5.grown (own_ne HO4.out (Nat.lt_succ_self _)))
        clear happ5
        go_wp2_with fail
        go_roundw
        case rel => exact ⟨i + 1, r1, n' - e, c' - e, k' + 1, c5, A2', A5, (ny, ay, ky), zs' ++ [0], rfl, by go_num, rfl, by omega, by omega, HF2, HML2, HJ2, hid (HGG.out _ _ (by omega) (by omega) hG'.out), HT2, HO5, HBR2, HBK5, HB5⟩
        case measure => simp [intOf]; omega
   · have h5b : (nd.op == 5) = false := by simpa using h5
     have HRES : Hid (bodyT rec_ (p + 1) zs y = false) := hid (by rw [← hbr.out, bodyT_stop]; exact h5)
     generalize nd.op = op at *
     clear h5
     go_wp2_with fail
     go_ret
     rw [HRES.out]
     exact ⟨rfl, hbw.out⟩
  | zero =>
   have HE : Hid (rec_ zs' (nd, a, kk) = bodyT rec_ (p + 1) zs y) := hbr
   have hile : decide ((i : Int) ≤ (p : Int)) = false := decide_eq_false (by omega)
   have HC := hid (HH.out wr (nd, a, kk) zs' (some ⟨b, off, none⟩) n' c' B' k' d' (HI.out _ _ HW.out hbw.out) HT1.out hrt.out hlm.out hJ'.out HOM.out (own_nul hom.out) (by rw [hlen]; exact hkn) hG'.out)
   rw [HE.out] at HC
   generalize bodyT rec_ (p + 1) zs y = res at *
   generalize nd.op = op at *
   go_wp2_with fail
   refine (HC.out).mono ?_
   rintro e w3 ⟨rfl, hb3⟩
   have HB3 := hid (hbw.out.trans (hb3.mono hbs))
   clear hb3
   go_wp2_with fail
   go_ret
   exact ⟨rfl, HB3.out⟩
end
section
open Go.RowKit
structure At (t : List Nd) (p : Nat) (dl : List Bool) (F : Fo) : Prop where
 wf : Wf dl F
 few : t.length ≤ 4096
 le : p ≤ t.length
 rest : t.drop p = row F
structure AtK (t : List Nd) (p : Nat) (d : Bool) (dr : List Bool) (pre : List Nd) (y : TT) (nx : Fo) : Prop where
 plen : pre.length = if d then 1 else 0
 fun_ : d = true → ∃ f, pre = [f] ∧ okF f = true ∧ nth t p = f
 rt : RtX y
 end_ : endI t ((p + pre.length : Nat) : Int) = ((p + pre.length + (rowT y).length : Nat) : Int)
 cut : (t.take (p + pre.length + (rowT y).length)).drop (p + pre.length) = rowT y
 le : p + pre.length + (rowT y).length ≤ t.length
 next : At t (p + pre.length + (rowT y).length) dr nx
theorem At.first {n : Nd} {a : List Nd} {k : Fo} (h : RtX (n, a, k)) (h2 : n.op ≠ 2) : At (rowT (n, a, k)) 1 (ds n) k := by
 obtain ⟨_, hat, hw⟩ := Rt.wf h
 simp only at hat hw
 have ha : a = [] := by
  unfold AtOk at hat
  rwa [if_neg h2] at hat
 subst ha
 exact ⟨hw, Rt.few h, by simp [rowT], by simp [rowT]⟩
theorem nth_zero_drop {t : List Nd} {p : Nat} {f : Nd} {r : List Nd} (h : t.drop p = f :: r) : nth t p = f := by
 have : nth (t.drop p) 0 = f := by rw [h]; rfl
 rwa [nth_drop, Nat.add_zero] at this
theorem At.step {t : List Nd} {p : Nat} {d : Bool} {dr : List Bool} {F : Fo} (h : At t p (d :: dr) F) : ∃ pre n a k nx, F = .cons pre n a k nx ∧ AtK t p d dr pre (n, a, k) nx := by
 obtain ⟨hw, hf, hle, hr⟩ := h
 match F, hw with
 | .cons pre n a k nx, hw =>
  obtain ⟨hp, hok, hat, hk, hx⟩ := hw
  refine ⟨pre, n, a, k, nx, rfl, ?_⟩
  have hrow : t.drop p = pre ++ (rowT (n, a, k) ++ row nx) := by rw [hr]; simp [row, rowT]
  have hl := congrArg List.length hrow
  rw [List.length_drop, List.length_append, List.length_append] at hl
  have hd2 : t.drop (p + pre.length) = rowT (n, a, k) ++ row nx := by rw [← List.drop_drop, hrow, List.drop_left]
  have hd3 : t.drop (p + pre.length + (rowT (n, a, k)).length) = row nx := by rw [← List.drop_drop, hd2, List.drop_left]
  have hpos : 0 < (rowT (n, a, k)).length := by simp [rowT]
  refine ⟨?_, ?_, ?_, ?_, ?_, by omega, ⟨hx, hf, by omega, hd3⟩⟩
  · cases d with
    | false => simp only at hp; subst hp; rfl
    | true => obtain ⟨f, rfl, _⟩ := hp; rfl
  · rintro rfl
    obtain ⟨f, rfl, hf⟩ := hp
    exact ⟨f, rfl, hf, nth_zero_drop hrow⟩
  · exact rt_make hok hat hk (by show (rowT (n, a, k)).length ≤ 4096; omega)
  · rw [endI_nat]
    have hpp := pp_of_wf (.cons [] n a k .nil) [false] (row nx) ⟨rfl, hok, hat, hk, trivial⟩
    unfold ends
    rw [hd2, show rowT (n, a, k) = row (.cons [] n a k .nil) from by simp [row, rowT], hpp]
    simp only [Option.map_some, optI]
    have e : (row (Fo.cons [] n a k .nil)).length = (rowT (n, a, k)).length := by simp [row, rowT]
    rw [e]
    congr 1
    omega
  · rw [List.drop_take, hd2, show p + pre.length + (rowT (n, a, k)).length - (p + pre.length) = (rowT (n, a, k)).length from by omega, List.take_left]
theorem At.done {t : List Nd} {p : Nat} {F : Fo} (h : At t p [] F) : F = .nil := by
 obtain ⟨hw, _⟩ := h
 match F, hw with
 | .nil, _ => rfl
structure EntR (K : LK) (ca : Int → Nat → Nat) (w : World) : Prop where
 ent : ∀ e : Nat, e < K.ne → ∃ b off Ac nc cc, K.Ae = some ⟨b, off, none⟩ ∧ b < w.heap.size ∧ w.cell? ⟨b, off + e * 7 + 4, none⟩ = some (.slice Ac nc cc) ∧ nc ≤ 100 ∧ (∀ k, k < nc → ∃ b2 o2 A c, Ac = some ⟨b2, o2, none⟩ ∧ b2 < w.heap.size ∧ w.cell? ⟨b2, o2 + k * 2, none⟩ = some (.slice A (ca e k) c) ∧ ca e k ≤ 100) ∧ ∀ k, nc ≤ k → ca e k = 0
end
end Go.Proofs.Ytjllmblbbgojbaa
