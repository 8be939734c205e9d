/- sense: must, and apart: what is applied, and the arguments, as pieces of a row. -/
import Derived.Test.YtjllmblbbgojbaaUShort2
import Derived.Test.YtjllmblbbgojbaaUHeads
import Derived.Test.YtjllmblbbgojbaaUFineW
import Derived.Test.YtjllmblbbgojbaaUWalks
namespace Go.Proofs.Ytjllmblbbgojbaa
open Go.Lib (hid)
set_option maxHeartbeats 4000000
set_option maxRecDepth 100000
set_option linter.unusedVariables false
set_option linter.unusedSimpArgs false
open Go.RowKit
def FailP (z : Int) : List PanicEntry := [{ v := .iface 76 (.agg #[.int .i64 z]), recovered := false }]
theorem must_ok {A : Option Addr} {n c : Nat} {w : World} : Calls Try.prog 68 #[.slice A n c, .int .i64 0] w (fun e w' => e = .returned (.slice A n c) ∧ w' = w) := by
 go_in
 go_wp2_with fail
 go_ret
 exact ⟨rfl, rfl⟩
theorem must_er {A : Option Addr} {n c : Nat} {w : World} {z : Int} (hz : z ≠ 0) : Calls Try.prog 68 #[.slice A n c, .int .i64 z] w (fun e w' => e = .panicked (FailP z) ∧ w' = w) := by
 have d1 : (z != 0) = true := by simpa using hz
 clear hz
 go_in
 go_wp2_with fail
 exact ⟨rfl, rfl, rfl⟩
def PcsP (A : Option Addr) (n c : Nat) (l : List Nd) : List Value → List TT → Prop
 | [], [] => True
 | v :: vs, x :: xs => (∃ A' n' c', v = .slice A' n' c' ∧ ∀ (R : Nat → Prop) (w : World), TermR R w A n c l → TermR R w A' n' c' (rowT x)) ∧ PcsP A n c l vs xs
 | _, _ => False
section
variable {A : Option Addr} {n c : Nat} {l : List Nd}
theorem PcsP.len : ∀ {vs : List Value} {xs : List TT}, PcsP A n c l vs xs → vs.length = xs.length
 | [], [], _ => rfl
 | [], _ :: _, h => h.elim
 | _ :: _, [], h => h.elim
 | v :: vs, x :: xs, h => by simp [PcsP.len h.2]
theorem PcsP.add {A' : Option Addr} {n' c' : Nat} {y : TT} (ht : ∀ (R : Nat → Prop) (w : World), TermR R w A n c l → TermR R w A' n' c' (rowT y)) : ∀ {vs : List Value} {xs : List TT}, PcsP A n c l vs xs → PcsP A n c l (vs ++ [.slice A' n' c']) (xs ++ [y])
 | [], [], _ => ⟨⟨A', n', c', rfl, ht⟩, trivial⟩
 | [], _ :: _, h => h.elim
 | _ :: _, [], h => h.elim
 | _ :: _, _ :: _, h => ⟨h.1, h.2.add ht⟩
theorem PcsP.rev : ∀ {vs : List Value} {xs : List TT}, PcsP A n c l vs xs → PcsP A n c l vs.reverse xs.reverse
 | [], [], _ => trivial
 | [], _ :: _, h => h.elim
 | _ :: _, [], h => h.elim
 | v :: vs, x :: xs, h => by
  obtain ⟨⟨A', n', c', rfl, ht⟩, h2⟩ := h
  rw [List.reverse_cons, List.reverse_cons]
  exact PcsP.add ht h2.rev
theorem PcsP.slices : ∀ {vs : List Value} {xs : List TT}, PcsP A n c l vs xs → ∀ v ∈ vs, ∃ A n c, v = .slice A n c
 | [], [], _ => fun v hv => by cases hv
 | [], _ :: _, h => h.elim
 | _ :: _, [], h => h.elim
 | v :: vs, x :: xs, h => fun y hy => by
  obtain ⟨⟨A', n', c', e, _⟩, h2⟩ := h
  rcases List.mem_cons.1 hy with rfl | hy
  · exact ⟨A', n', c', e⟩
  · exact PcsP.slices h2 y hy
theorem PcsP.at_ : ∀ {vs : List Value} {xs : List TT} (k : Nat), PcsP A n c l vs xs → (hk : k < xs.length) → ∃ A' n' c', vs[k]? = some (.slice A' n' c') ∧ ∀ (R : Nat → Prop) (w : World), TermR R w A n c l → TermR R w A' n' c' (rowT xs[k])
 | [], [], _, _, hk => absurd hk (by simp)
 | [], _ :: _, _, h, _ => h.elim
 | _ :: _, [], _, h, _ => h.elim
 | v :: vs, x :: xs, 0, h, _ => by
  obtain ⟨⟨A', n', c', e, ht⟩, _⟩ := h
  exact ⟨A', n', c', by simp [e], ht⟩
 | v :: vs, x :: xs, k + 1, h, hk => by
  obtain ⟨A', n', c', e, ht⟩ := PcsP.at_ k h.2 (by simpa using hk)
  exact ⟨A', n', c', by simpa using e, by simpa using ht⟩
end
def ApartP (A : Option Addr) (n c : Nat) (x : TT) (q : TT × List TT) (w : World) (e : Ending) (w' : World) : Prop := Below w.heap.size w w' ∧ ∃ A1 n1 c1 B d vs, e = .returned (.agg #[.slice A1 n1 c1, .slice B q.2.length d]) ∧ (∀ (R : Nat → Prop) (w2 : World), TermR R w2 A n c (rowT x) → TermR R w2 A1 n1 c1 (rowT q.1)) ∧ w'.ownsRow w.heap.size 28 1 (.slice B q.2.length d) q.2.length vs ∧ PcsP A n c (rowT x) vs q.2
theorem apart_fin {w w3 : World} {B : Option Addr} {j d : Nat} {vs : List Value} (hb : Below w.heap.size w w3) (hk : Blk w3 w.heap.size 118 #[.slice none 0 0, .slice none 0 0]) (hs : Blk w3 (w.heap.size + 1) 118 #[.slice none 0 0, .slice B j d]) (ho : w3.ownsRow (w.heap.size + 2) 28 1 (.slice B j d) j vs) (u : Value) :
 Below w.heap.size w (((w3.setCell ⟨w.heap.size + 1, 0, none⟩ u).setCell ⟨w.heap.size, 0, none⟩ u).setCell ⟨w.heap.size, 1, none⟩ (.slice B j d)) ∧ (((w3.setCell ⟨w.heap.size + 1, 0, none⟩ u).setCell ⟨w.heap.size, 0, none⟩ u).setCell ⟨w.heap.size, 1, none⟩ (.slice B j d)).ownsRow w.heap.size 28 1 (.slice B j d) j vs ∧
 Blk (((w3.setCell ⟨w.heap.size + 1, 0, none⟩ u).setCell ⟨w.heap.size, 0, none⟩ u).setCell ⟨w.heap.size, 1, none⟩ (.slice B j d)) w.heap.size 118 #[u, .slice B j d] := by
 have hl := hs.lt
 have g1 := grown_setv w3 (w.heap.size + 1) 0 u
 have g2 := grown_setv (w3.setCell ⟨w.heap.size + 1, 0, none⟩ u) w.heap.size 0 u
 have g3 := grown_setv ((w3.setCell ⟨w.heap.size + 1, 0, none⟩ u).setCell ⟨w.heap.size, 0, none⟩ u) w.heap.size 1 (.slice B j d)
 have hbs := hb.size
 have hs1 := g1.size
 have hs2 := g2.size
 have no : ∀ g, g < w.heap.size + 2 → (Value.slice B j d).ownBlock ≠ some g := fun g hg e => by have := (ownsRow_block ho e).1; omega
 have o1 := World.ownsRow.kept ho g1 (.inr (no _ (by omega)))
 have o2 := World.ownsRow.kept o1 g2 (.inr (no _ (by omega)))
 have o3 := World.ownsRow.kept o2 g3 (.inr (no _ (by omega)))
 refine ⟨((hb.grown g1 (by omega) (fun g e => by injection e with e; omega)).grown g2 (by omega) (fun g e => by injection e with e; omega)).grown g3 (by omega) (fun g e => by injection e with e; omega), ⟨o3.1, ?_⟩, by simpa using ((hk.grown g1 (by intro e; injection e with e; omega)).set_ 0 u).set_ 1 (.slice B j d)⟩
 rcases o3.2 with h | ⟨g, cap, cur, h1, h2, h3⟩
 · exact .inl h
 exact .inr ⟨g, cap, cur, h1, by omega, h3⟩
theorem apart_any {A : Option Addr} {n c : Nat} {x : TT} {w : World} (h : TermV w A n c (rowT x)) (hrt : RtX x) :
 Calls Try.prog 72 #[.slice A n c] w (ApartP A n c x (hdW x) w) := by
 obtain ⟨i1, hi', hy0', hy1', hy2'⟩ := info_parts infoR
 have HI1 := hid hi'
 have HZ0 := hid hy0'
 have HZ1 := hid hy1'
 have HZ2 := hid hy2'
 obtain ⟨m, hm⟩ : ∃ m, m = szT x := ⟨_, rfl⟩
 have hmf : m ≤ 4096 := by rw [hm]; exact hrt.few
 have HM := hid hm
 have HT := hid h
 have HRT := hid hrt
 have hln := h.len
 have hn4 : n ≤ 4096 := by have : (rowT x).length = szT x := rfl; omega
 obtain ⟨F, L, hFL⟩ : ∃ F L, hdW x = (F, L) := ⟨_, _, rfl⟩
 rw [hFL]
 have hFL2 : hd m x = (F, L) := by rw [hm]; exact hFL
 have HFL := hid hFL2
 obtain ⟨tx, htx⟩ : ∃ t, t = rowT x := ⟨_, rfl⟩
 have HTX := hid htx
 have hb0 := (below_alloc w (.cells #[.slice none 0 0, .slice none 0 0] 118)).alloc (by simp) (.cells #[.slice none 0 0, .slice none 0 0] 118)
 have HB0 := hid hb0
 have HK0 : Hid (Blk ((w.alloc (.cells #[.slice none 0 0, .slice none 0 0] 118)).alloc (.cells #[.slice none 0 0, .slice none 0 0] 118)) w.heap.size 118 #[.slice none 0 0, .slice none 0 0]) := hid ((Blk.new w _ _).alloc _)
 have HS0 : Hid (Blk ((w.alloc (.cells #[.slice none 0 0, .slice none 0 0] 118)).alloc (.cells #[.slice none 0 0, .slice none 0 0] 118)) (w.heap.size + 1) 118 #[.slice none 0 0, .slice none 0 0]) := hid (Blk.new' (by simp))
 clear hi' hy0' hy1' hy2' hm h hrt hFL hFL2 hb0 hln
 unfold ApartP
 rw [← htx]
 clear htx
 go_in
 go_wp2_with fail
 go_loopw [0] (fun tv wr => ∃ (m' n' c' j d : Nat) (A' B : Option Addr) (y : TT) (vs : List Value) (ys : List TT), tv = .slice A' n' c' ∧ j + n' ≤ 4096 ∧ Hid (RtX y) ∧ Hid (szT y ≤ m') ∧ Hid ((hd m' y).1 = F ∧ (hd m' y).2 ++ ys.reverse = L) ∧ Hid (∀ (R : Nat → Prop) (w' : World), TermR R w' A n c tx → TermR R w' A' n' c' (rowT y)) ∧ Hid (wr.ownsRow (w.heap.size + 2) 28 1 (.slice B j d) j vs) ∧ Hid (PcsP A n c tx vs ys) ∧ Hid (Below w.heap.size w wr) ∧ Hid (Blk wr w.heap.size 118 #[.slice none 0 0, .slice none 0 0]) ∧ Hid (Blk wr (w.heap.size + 1) 118 #[.slice none 0 0, .slice B j d])) (fun tv _ => lenOf tv)
 case atStart => exact ⟨m, n, c, 0, 0, A, none, x, [], [], rfl, by omega, HRT, hid (by rw [HM.out]; exact Nat.le_refl _), hid (by rw [HFL.out]; exact ⟨rfl, by simp⟩), hid (fun R w' hb => by rw [HTX.out] at hb; exact hb), hid (World.ownsRow_nil _ _ _ _), hid trivial, HB0, HK0, HS0⟩
 case round =>
  obtain ⟨m', n', c', j, d, A', B, y, vs, ys, rfl, hjn, hrt, hm', hsp, htc, hown, hpcs, hbw, hkr, hks⟩ := hrel
  obtain ⟨n1, a1, k1⟩ := y
  have hxb : TermV wr A n c tx := by rw [HTX.out]; exact HT.out.below hbw.out
  have HXB := hid hxb
  have HT1 : Hid (TermV wr A' n' c' (rowT (n1, a1, k1))) := hid (htc.out _ _ hxb)
  clear hxb
  have hlen := HT1.out.len
  have hn0 : 0 < n' := by rw [← hlen]; simp [rowT]
  have hcap := HT1.out.cap
  obtain ⟨b, off, rfl, hb, hc0, _, _⟩ := HT1.out.at_ hn0
  rw [Nat.zero_mul, Nat.add_zero, show nth (rowT (n1, a1, k1)) 0 = n1 from rfl] at hc0
  have hbs := hbw.out.size
  have hsl := hks.out.lt
  by_cases h6 : n1.op = 6
  rotate_left
  · have h6b : (n1.op == 6) = false := by simpa using h6
    have HE : Hid ((F, L) = ((n1, a1, k1), ys.reverse)) := hid (by
     have h1 := hsp.out
     rw [hd_stop (x := (n1, a1, k1)) h6] at h1
     rw [← h1.1, ← h1.2]
     simp)
    have hjl : j = ys.length := by have := hpcs.out.len; have := hown.out.1; omega
    have HJL := hid hjl
    have HREV := hid (reverse_any hown.out (by omega) (PcsP.slices hpcs.out))
    have zs := Blk.cell hks.out
    generalize n1.op = op at *
    clear h6 hlen hjl
    go_wp2_with fail
    refine (HREV.out).mono ?_
    rintro e w3 ⟨rfl, ho3, hg3⟩
    have hblk : ∀ g, (Value.slice B j d).ownBlock = some g → w.heap.size + 2 ≤ g := fun g hg => (ownsRow_block hown.out hg).1
    have HB3 := hid (hbw.out.grown hg3 hbs (fun g hg => by have := hblk g hg; omega))
    have HK3 := hid (hkr.out.grown hg3 (fun e => by have := hblk _ e.symm; omega))
    have HS3 := hid (hks.out.grown hg3 (fun e => by have := hblk _ e.symm; omega))
    have HO3 := hid ho3
    have HBL := hid hblk
    have zr3 := Blk.cell HK3.out
    have fr3 := Blk.frozen HK3.out
    have zs3 := Blk.cell HS3.out
    have fs3 := Blk.frozen HS3.out
    have hl3 := HS3.out.lt
    obtain ⟨f1, f2, f3⟩ := apart_fin HB3.out HK3.out HS3.out HO3.out (.slice (some ⟨b, off, none⟩) n' c')
    have HF1 := hid f1
    have HF2 := hid f2
    have zz := Blk.cell f3
    clear f1 f2 f3
    clear ho3 hg3 hblk zs
    go_wp2_with fail
    refine bodyPost_ret (v := .agg #[.slice (some ⟨b, off, none⟩) n' c', .slice B j d]) (by simp [results, Try.results72, go_sem, zz]) rfl ?_
    have f2 := HF2.out
    obtain ⟨rfl, rfl⟩ := Prod.mk.inj HE.out
    refine ⟨HF1.out, some ⟨b, off, none⟩, n', c', B, d, vs.reverse, ?_, htc.out, ?_, PcsP.rev hpcs.out⟩
    · rw [HJL.out]; simp
    rw [List.length_reverse, ← HJL.out]
    exact f2
  obtain ⟨nx, ax, kx, ny, ay, ky, rfl, hsplit⟩ := app_split hrt.out h6
  obtain ⟨r1, hr1⟩ : ∃ r1, r1 = rowT (nx, ax, kx) := ⟨_, rfl⟩
  obtain ⟨r2, hr2⟩ : ∃ r2, r2 = rowT (ny, ay, ky) := ⟨_, rfl⟩
  obtain ⟨hf1, hf2, hq, hend⟩ := hsplit
  cases m' with
  | zero => have := hm'.out; unfold szT at this; rw [show rowT _ = _ from hq] at this; simp at this
  | succ m' =>
  have hsp2 := hsp.out
  rw [hd_app h6] at hsp2
  change rowT _ = _ at hq
  have hq2 : rowT (n1, a1, Fo.cons [] nx ax kx (.cons [] ny ay ky .nil)) = ⟨6, 0, 0⟩ :: (r1 ++ r2) := by rw [hq, hr1, hr2]; rfl
  obtain ⟨p, hp⟩ : ∃ p, p = 1 + r1.length := ⟨_, rfl⟩
  have hend2 : endI (rowT (n1, a1, Fo.cons [] nx ax kx (.cons [] ny ay ky .nil))) 1 = (p : Int) := by rw [hp, hr1]; exact hend
  have hm2 := hm'.out
  unfold szT at hm2
  generalize rowT (n1, a1, Fo.cons [] nx ax kx (.cons [] ny ay ky .nil)) = tc at *
  have hql : n' = p + r2.length := by rw [← hlen, hq2, hp]; simp; omega
  have hr2l : 0 < r2.length := by rw [hr2]; simp [rowT]
  have hd2 : tc.drop p = r2 := by rw [hq2, hp, Nat.add_comm, List.drop_succ_cons, List.drop_left]
  have hd1 : (tc.take p).drop 1 = r1 := by rw [hq2, hp, Nat.add_comm, List.take_succ_cons, List.drop_succ_cons, List.drop_zero, List.take_left]
  obtain ⟨A2, hcut2, hcutr2⟩ := cut_from (some ⟨b, off, none⟩) n' c' p (by omega)
  obtain ⟨A3, hcut3, hcutr3⟩ := cut_mid (some ⟨b, off, none⟩) n' c' 1 p (by omega) (by omega) hcap
  rw [show ((1 : Nat) : Int) = 1 from rfl] at hcut3
  have HT2 : Hid (∀ (R : Nat → Prop) (w' : World), TermR R w' A n c tx → TermR R w' A2 (n' - p) (c' - p) (rowT (ny, ay, ky))) := hid fun R w' h => by
   have := hcutr2 _ _ _ (htc.out R w' h)
   rwa [hd2, hr2] at this
  have HT3 : Hid (∀ (R : Nat → Prop) (w' : World), TermR R w' A n c tx → TermR R w' A3 (p - 1) (c' - 1) (rowT (nx, ax, kx))) := hid fun R w' h => by
   have := hcutr3 _ _ _ (htc.out R w' h)
   rwa [hd1, hr1] at this
  have HEND := hid (end_any HT1.out 1)
  rw [hend2] at HEND
  have HF1 : Hid (RtX (nx, ax, kx)) := hid hf1
  have HSP2 := hid hsp2
  have HML : Hid (szT (nx, ax, kx) ≤ m') := hid (by have := hm2; rw [hq2] at this; show (rowT (nx, ax, kx)).length ≤ m'; rw [← hr1]; simp at this; omega)
  have hp1 : 1 ≤ p := by omega
  have hpn : p < n' := by omega
  clear hf1 hf2 hq hq2 hend hend2 hsp2 hr1 hr2 hp hql hr2l hd1 hd2 hcutr2 hcutr3 hlen hm2
  rw [h6] at hc0
  clear h6
  go_wp2_with fail
  refine (HEND.out).mono ?_
  rintro e w3 ⟨rfl, hb3⟩
  have HB3 := hid (hbw.out.trans (hb3.mono hbs))
  have HO3 := hid (own_below hown.out hb3)
  have HK3 := hid (hkr.out.below hb3 hkr.out.lt)
  have HS3 := hid (hks.out.below hb3 hks.out.lt)
  have hbs3 := HB3.out.size
  have hs3 := hb3.size
  have hz3 : w.heap.size + 2 ≤ w3.drew.heap.size := by show w.heap.size + 2 ≤ w3.heap.size; omega
  have zs0 : w3.drew.cell? ⟨w.heap.size + 1, 1, none⟩ = some (.slice B j d) := HS3.out.cell 1
  have hp0 : (0 : Int) ≤ (p : Int) := by omega
  have hpn2 : (p : Int) ≤ (n' : Int) := by omega
  have hnc2 : (n' : Int) ≤ (c' : Int) := by omega
  clear hb3
  go_wp2_with fail
  refine wp_region_E 8 (fun w' => w'.cell? ⟨w.heap.size + 1, 1, none⟩ = some (.slice B j d)) (by kernel_rfl) ?_ (fun hHeld => ?_)
  · (try dsimp only); exact zs0
  refine wpAnyE_take' (i := 0) (v := ?_) rfl (by kernel_rfl) (by kernel_rfl) (by kernel_rfl) (by kernel_rfl) (by kernel_rfl) (fun _ _ _ h => h) (Or.inl ⟨by rfl, fun w hSw => ?_⟩) hHeld ?_
  rotate_left
  · ((try dsimp only at hSw); go_simp; try with_reducible rfl)
  try simp only [p7]
  refine wpAnyE_take' (i := 1) (v := ?_) rfl (by kernel_rfl) (by kernel_rfl) (by kernel_rfl) (by kernel_rfl) (by kernel_rfl) (fun _ _ _ h => h) (Or.inl ⟨by rfl, fun w hSw => ?_⟩) hHeld ?_
  rotate_left
  · ((try dsimp only at hSw); go_simp; try with_reducible rfl)
  try simp only [p7]
  refine wpAnyE_take' (i := 2) (v := ?_) rfl (by kernel_rfl) (by kernel_rfl) (by kernel_rfl) (by kernel_rfl) (by kernel_rfl) (fun _ _ _ h => h) (Or.inl ⟨by rfl, fun w hSw => ?_⟩) hHeld ?_
  rotate_left
  · ((try dsimp only at hSw); go_simp; try with_reducible rfl)
  try simp only [p7]
  refine wpAnyE_take' (i := 3) (v := ?_) rfl (by kernel_rfl) (by kernel_rfl) (by kernel_rfl) (by kernel_rfl) (by kernel_rfl) (fun _ _ _ h => h) (Or.inl ⟨by rfl, fun w hSw => ?_⟩) hHeld ?_
  rotate_left
  · ((try dsimp only at hSw); go_simp; try with_reducible rfl)
  try simp only [p7]
  refine wpAnyE_take' (i := 4) (v := ?_) rfl (by kernel_rfl) (by kernel_rfl) (by kernel_rfl) (by kernel_rfl) (by kernel_rfl) (fun _ _ _ h => h) (Or.inl ⟨by rfl, fun w hSw => ?_⟩) hHeld ?_
  rotate_left
  · ((try dsimp only at hSw); go_simp; try with_reducible rfl)
  try simp only [p7]
  have HO4 := hid (own_below HO3.out (below_drewN (Below.refl w3.heap.size w3) 1))
  have hs4 : (w3.drew.alloc (.cells #[.slice A2 (n' - p) (c' - p)] 28)).cell? ⟨w.heap.size + 1, 1, none⟩ = some (.slice B j d) := ((HS3.out.drewN 1).alloc _).cell 1
  refine wpAnyE_step (i := 5) (by kernel_rfl) rfl rfl (fun K hK => ?_)
  go_simp
  refine hK.out _ _ (fun _ => ?_) ?_
  · (try dsimp only); exact hs4
  clear hK K
  try simp only [p7]
  replace hHeld := hs4
  refine wpAnyE_step (i := 6) (by kernel_rfl) rfl rfl (fun K hK => ?_)
  refine oper_append_one (.tmp 13) (.tmp 17) 49 28 rfl (w.heap.size + 2) i1 _ 24 Try.underlying49 HI1.out HZ0.out HZ1.out HZ2.out rfl (by decide) (.slice B j d) j vs (.slice A2 (n' - p) (c' - p)) rfl w3.drew (by rfl) (by rfl) HO4.out _ (by rfl) (by rfl) (by omega) hz3 ?_
  intro A5 c5 w5 happ5
  have hne5 : ∀ g, g < w.heap.size + 2 → some g ≠ (Value.slice B j d).ownBlock := fun g hg e => by have := (ownsRow_block HO4.out e.symm).1; omega
  have HB5 := hid ((below_drewN HB3.out 1).grown happ5.grown hbs3 (fun g hg => by have := (ownsRow_block HO4.out hg).1; omega))
  have HK5 := hid ((HK3.out.drewN 1).grown happ5.grown (hne5 _ (by omega)))
  have HS5 := hid ((HS3.out.drewN 1).grown happ5.grown (hne5 _ (by omega)))
  have hs5 : w5.cell? ⟨w.heap.size + 1, 1, none⟩ = some (.slice B j d) := HS5.out.cell 1
  have hf5 : w5.frozen? ⟨w.heap.size + 1, 1, none⟩ = false := HS5.out.frozen 1
  have hz5 : w.heap.size + 1 < w5.heap.size := HS5.out.lt
  have hob : ∀ g, (Value.slice A5 (j + 1) c5).ownBlock = some g → w.heap.size + 2 ≤ g := fun g hg => (happ5.new g hg).elim (fun h1 => (ownsRow_block HO4.out h1).1) (fun h1 => by omega)
  have hg6 := grown_setv w5 (w.heap.size + 1) 1 (.slice A5 (j + 1) c5)
  have HO6 := hid (World.ownsRow.kept happ5.own hg6 (.inr fun e => by have := hob _ e; omega))
  have HB6 := hid (HB5.out.grown hg6 (by have := HB5.out.size; omega) (fun g e => by injection e with e; omega))
  have HK6 := hid (HK5.out.grown hg6 (by intro e; injection e with e; omega))
  have HS6 : Hid (Blk (w5.setCell ⟨w.heap.size + 1, 1, none⟩ (.slice A5 (j + 1) c5)) (w.heap.size + 1) 118 #[.slice none 0 0, .slice A5 (j + 1) c5]) := hid (HS5.out.set_ 1 _)
  clear happ5 hne5 hob hg6
  refine hK.out _ _ (fun _ => ?_) ?_
  · (try dsimp only); exact hs5
  clear hK K
  try simp only [p7]
  replace hHeld := hs5
  refine wpAnyE_take' (i := 7) (v := ?_) rfl (by kernel_rfl) (by kernel_rfl) (by kernel_rfl) (by kernel_rfl) (by kernel_rfl) (fun _ _ _ h => h) (Or.inl ⟨by rfl, fun w hSw => ?_⟩) hHeld ?_
  rotate_left
  · ((try dsimp only at hSw); go_simp; try with_reducible rfl)
  try simp only [p7]
  refine wpAnyE_step (i := 8) (by kernel_rfl) rfl rfl (fun K hK => ?_)
  go_simp
  refine hK.out _ _ (fun h => absurd rfl h) ?_
  clear hK K
  try simp only [p7]
  refine wpAnyE_end (by kernel_rfl) ?_ _
  go_wp2_with fail
  go_roundw
  case rel => exact ⟨m', p - 1, c' - 1, j + 1, c5, A3, A5, (nx, ax, kx), vs ++ [.slice A2 (n' - p) (c' - p)], ys ++ [(ny, ay, ky)], rfl, by omega, HF1, HML, hid ⟨HSP2.out.1, by rw [← HSP2.out.2]; simp⟩, HT3, HO6, hid (PcsP.add HT2.out hpcs.out), HB6, HK6, HS6⟩
  case measure => simp only [lenOf]; omega
end Go.Proofs.Ytjllmblbbgojbaa
