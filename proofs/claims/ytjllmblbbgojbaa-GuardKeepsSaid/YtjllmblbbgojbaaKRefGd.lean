/- Merged: RefMark, RefSmall, RefTakes. -/
import Derived.Test.YtjllmblbbgojbaaKFines
import Derived.Test.YtjllmblbbgojbaaKFineW
namespace Go.Proofs.Ytjllmblbbgojbaa
open Go.Lib (hid)
set_option maxHeartbeats 4000000
set_option maxRecDepth 100000
set_option linter.unusedVariables false
set_option linter.unusedSimpArgs false
section
open Go.RowKit
theorem least_of {p : Nat → Prop} : ∀ (n : Nat), (∃ k, k ≤ n ∧ p k) → ∃ m, p m ∧ ∀ k, p k → m ≤ k
 | 0, ⟨k, hk, h⟩ => by
  obtain rfl : k = 0 := by omega
  exact ⟨0, h, fun _ _ => Nat.zero_le _⟩
 | n + 1, ⟨k, hk, h⟩ => by
  by_cases h2 : ∃ k, k ≤ n ∧ p k
  · exact least_of n h2
  · refine ⟨k, h, fun j hj => ?_⟩
    by_cases h3 : k ≤ j
    · exact h3
    exact absurd ⟨j, by omega, hj⟩ h2
theorem least_ex {p : Nat → Prop} (h : ∃ k, p k) : ∃ m, p m ∧ ∀ k, p k → m ≤ k := by
 obtain ⟨k, hk⟩ := h
 exact least_of k ⟨k, Nat.le_refl _, hk⟩
open Classical in
noncomputable def msr (I : World → Nat → Prop) (w : World) : Nat := if h : ∃ k, I w k then Classical.choose (least_ex h) else 0
theorem msr_spec {I : World → Nat → Prop} {w : World} (h : ∃ k, I w k) : I w (msr I w) := by
 unfold msr
 rw [dif_pos h]
 exact (Classical.choose_spec (least_ex h)).1
theorem msr_le {I : World → Nat → Prop} {w : World} {k : Nat} (h : I w k) : msr I w ≤ k := by
 unfold msr
 rw [dif_pos ⟨k, h⟩]
 exact (Classical.choose_spec (least_ex ⟨k, h⟩)).2 k h
structure TrV where
 Ak : Option Addr
 nk : Nat
 ck : Nat
 Aa : Option Addr
 na : Nat
 ca : Nat
 Af : Option Addr
 nf : Nat
 cf : Nat
def TrW (w : World) (t : TrV) (x : TT) : Prop := TreeC (· < w.heap.size) w [.int .i64 x.1.op, .int .i64 x.1.a, .int .i64 x.1.b, .slice t.Ak t.nk t.ck, .slice t.Aa t.na t.ca, .slice t.Af t.nf t.cf] x.1 x.2.1 x.2.2
theorem TrW.below {w w' : World} {t : TrV} {x : TT} (h : TrW w t x) (hb : Below w.heap.size w w') : TrW w' t x :=
 TreeC.keep h fun b hb2 => ⟨Nat.lt_of_lt_of_le hb2 hb.size, fun o => hb.cell (p := ⟨b, o, none⟩) hb2⟩
theorem TrW.kids {w : World} {t : TrV} {x : TT} (h : TrW w t x) : KidsR (· < w.heap.size) w t.Ak t.nk t.ck x.2.2 := by
 obtain ⟨sk, sa, sf, he, ⟨A, n, c, rfl, hk⟩, _, _⟩ := h
 simp only [List.cons.injEq, Value.slice.injEq, true_and, and_true] at he
 obtain ⟨⟨rfl, rfl, rfl⟩, _, _⟩ := he
 exact hk
theorem TrW.funs {w : World} {t : TrV} {x : TT} (h : TrW w t x) : TermR (· < w.heap.size) w t.Af t.nf t.cf (press x.2.2) := by
 obtain ⟨sk, sa, sf, he, _, _, ⟨A, n, c, rfl, hk⟩⟩ := h
 simp only [List.cons.injEq, Value.slice.injEq, true_and, and_true] at he
 obtain ⟨_, _, ⟨rfl, rfl, rfl⟩⟩ := he
 exact hk
abbrev dfT : TT := (default, [], .nil)
def kidAt (F : Fo) (j : Nat) : TT := (kidL F).getD j dfT
structure Six (w : World) (b o : Nat) (t : TrV) (n : Nd) : Prop where
 c0 : w.cell? ⟨b, o, none⟩ = some (.int .i64 n.op)
 c1 : w.cell? ⟨b, o + 1, none⟩ = some (.int .i64 n.a)
 c2 : w.cell? ⟨b, o + 2, none⟩ = some (.int .i64 n.b)
 c3 : w.cell? ⟨b, o + 3, none⟩ = some (.slice t.Ak t.nk t.ck)
 c4 : w.cell? ⟨b, o + 4, none⟩ = some (.slice t.Aa t.na t.ca)
 c5 : w.cell? ⟨b, o + 5, none⟩ = some (.slice t.Af t.nf t.cf)
theorem Six.below {w w' : World} {B b o : Nat} {t : TrV} {n : Nd} (h : Six w b o t n) (hb : Below B w w') (hlt : b < B) : Six w' b o t n :=
 ⟨(hb.cell (p := ⟨b, o, none⟩) hlt).trans h.c0, (hb.cell (p := ⟨b, o + 1, none⟩) hlt).trans h.c1, (hb.cell (p := ⟨b, o + 2, none⟩) hlt).trans h.c2, (hb.cell (p := ⟨b, o + 3, none⟩) hlt).trans h.c3, (hb.cell (p := ⟨b, o + 4, none⟩) hlt).trans h.c4, (hb.cell (p := ⟨b, o + 5, none⟩) hlt).trans h.c5⟩
theorem flen_kidL : ∀ (F : Fo), (kidL F).length = flen F
 | .nil => rfl
 | .cons _ n a k x => by simp only [kidL, List.length_cons, flen, flen_kidL x]
theorem FoR.nth_ {R : Nat → Prop} {w : World} : ∀ (F : Fo) (b off j : Nat), FoR R w F b off → j < flen F → ∃ t : TrV, Six w b (off + j * 6) t (kidAt F j).1 ∧ TreeC R w [.int .i64 (kidAt F j).1.op, .int .i64 (kidAt F j).1.a, .int .i64 (kidAt F j).1.b, .slice t.Ak t.nk t.ck, .slice t.Aa t.na t.ca, .slice t.Af t.nf t.cf] (kidAt F j).1 (kidAt F j).2.1 (kidAt F j).2.2
 | .nil, _, _, _, _, h => absurd h (Nat.not_lt_zero _)
 | .cons p n a k x, b, off, 0, h, _ => by
  obtain ⟨⟨h0, h1, h2⟩, ⟨A', c', h3, h3b, h3c⟩, ⟨v, h4, ⟨Av, nv, cv, rfl, h4b⟩⟩, ⟨u, h5, ⟨Au, nu, cu, rfl, h5b⟩⟩, _⟩ := h
  refine ⟨⟨A', flen k, c', Av, nv, cv, Au, nu, cu⟩, ⟨?_, ?_, ?_, ?_, ?_, ?_⟩, ⟨_, _, _, rfl, ⟨A', _, c', rfl, ⟨rfl, h3b, h3c⟩⟩, ⟨_, _, _, rfl, h4b⟩, ⟨_, _, _, rfl, h5b⟩⟩⟩
  all_goals rw [Nat.zero_mul, Nat.add_zero]
  all_goals assumption
 | .cons p n a k x, b, off, j + 1, h, hj => by
  obtain ⟨_, _, _, _, h5⟩ := h
  obtain ⟨t, h6, h7⟩ := FoR.nth_ x b (off + 6) j h5 (by simpa [flen] using hj)
  rw [show off + 6 + j * 6 = off + (j + 1) * 6 from by omega] at h6
  exact ⟨t, h6, h7⟩
theorem KidsR.nth_ {w : World} {A : Option Addr} {n c : Nat} {F : Fo} (h : KidsR (· < w.heap.size) w A n c F) {j : Nat} (hj : j < n) : ∃ b o t, A = some ⟨b, o, none⟩ ∧ b < w.heap.size ∧ Six w b (o + j * 6) t (kidAt F j).1 ∧ TrW w t (kidAt F j) := by
 obtain ⟨b, off, e, hr, hf⟩ := h.mem (by omega)
 obtain ⟨t, h1, h2⟩ := FoR.nth_ F b off j hf (by rw [h.len]; exact hj)
 exact ⟨b, off, t, e, hr, h1, h2⟩
theorem TrW.kid {w : World} {t : TrV} {x : TT} (h : TrW w t x) {j : Nat} (hj : j < t.nk) : ∃ b o t', t.Ak = some ⟨b, o, none⟩ ∧ b < w.heap.size ∧ Six w b (o + j * 6) t' (kidAt x.2.2 j).1 ∧ TrW w t' (kidAt x.2.2 j) := h.kids.nth_ hj
theorem TrW.nk {w : World} {t : TrV} {x : TT} (h : TrW w t x) : t.nk = (kidL x.2.2).length := by rw [flen_kidL, h.kids.len]
abbrev sixV (t : TrV) (n : Nd) : Array Value := #[.int .i64 n.op, .int .i64 n.a, .int .i64 n.b, .slice t.Ak t.nk t.ck, .slice t.Aa t.na t.ca, .slice t.Af t.nf t.cf]
theorem blk_sixs {w : World} {g : Nat} {a0 a1 a2 a3 a4 a5 : Value} (h : Blk w g 71 #[a0, a1, a2, a3, a4, a5]) (x0 x1 x2 x3 x4 x5 : Value) : Blk ((((((w.setCell ⟨g, 0, none⟩ x0).setCell ⟨g, 1, none⟩ x1).setCell ⟨g, 2, none⟩ x2).setCell ⟨g, 3, none⟩ x3).setCell ⟨g, 4, none⟩ x4).setCell ⟨g, 5, none⟩ x5) g 71 #[x0, x1, x2, x3, x4, x5] := by
 have := (((((h.set_ 0 x0).set_ 1 x1).set_ 2 x2).set_ 3 x3).set_ 4 x4).set_ 5 x5
 simpa using this
theorem grown_sixs (w : World) (g : Nat) (x0 x1 x2 x3 x4 x5 : Value) : w.grownBy ((((((w.setCell ⟨g, 0, none⟩ x0).setCell ⟨g, 1, none⟩ x1).setCell ⟨g, 2, none⟩ x2).setCell ⟨g, 3, none⟩ x3).setCell ⟨g, 4, none⟩ x4).setCell ⟨g, 5, none⟩ x5) (some g) :=
 (((((grown_setv _ g 0 x0).trans (grown_setv _ g 1 x1)).trans (grown_setv _ g 2 x2)).trans (grown_setv _ g 3 x3)).trans (grown_setv _ g 4 x4)).trans (grown_setv _ g 5 x5)
def ofR (ms : List Int) (v : Int) : Int := if v < (ms.length : Int) then ms.getD v.toNat 0 else -1
def lessR (ms : List Int) (x : TT) : Bool := (hdW x).1.1.op == 1 && ofR ms (hdW x).1.1.a == -3
theorem of7_any {A : Option Addr} {n c : Nat} {ms : List Int} {w : World} (h : IntsR (· < w.heap.size) w A n c ms) (v : Int) (hv : 0 ≤ v) :
 Calls Try.prog 92 #[.slice A n c, .int .i64 v] w fun e w' => e = .returned (.int .i64 (ofR ms v)) ∧ Below w.heap.size w w' := by
 have hl := h.len
 have hf := h.few
 have HB := hid (Below.refl w.heap.size w)
 by_cases hge : v < (n : Int)
 · have hb : decide (v < (n : Int)) = true := decide_eq_true hge
   obtain ⟨u, rfl⟩ : ∃ u : Nat, v = (u : Int) := ⟨v.toNat, by omega⟩
   obtain ⟨b, off, rfl, hbb, hc⟩ := h.at_ (k := u) (by omega)
   have HE : Hid (ofR ms (u : Int) = ms.getD u 0) := hid (by unfold ofR; rw [if_pos (by omega), Int.toNat_natCast])
   have hun : u < n := by omega
   have hub : decide (u < n) = true := decide_eq_true hun
   generalize ms.getD u 0 = z at *
   clear h hl hge
   go_in
   go_wp2_with fail
   go_ret
   exact ⟨ret_int HE.out.symm, HB.out⟩
 have hb : decide (v < (n : Int)) = false := decide_eq_false hge
 have HE : Hid (ofR ms v = -1) := hid (by unfold ofR; rw [if_neg (by omega)])
 clear h hl
 go_in
 go_wp2_with fail
 go_ret
 exact ⟨ret_int HE.out.symm, HB.out⟩
theorem own_zero2 {w : World} {base j d : Nat} {B : Option Addr} {e : TypeId} {xs : List Value} (h : w.ownsRow base e 1 (.slice B j d) j xs) : B = none → j = 0 := by
 intro hB
 rcases h.2 with ⟨_, h2⟩ | ⟨g, cap, cur, hv, _⟩
 · exact h2
 injection hv with e1
 rw [hB] at e1
 cases e1
theorem ints_cells {w : World} {A : Option Addr} {n c : Nat} {zs : List Int} (h : IntsR (· < w.heap.size) w A n c zs) : ∀ ad, A = some ad → ∀ j u, (zs.map (Value.int .i64))[j]? = some u → w.cell? (ad.add j) = some u := by
 intro ad e j u hu
 have hj : j < zs.length := by have := (List.getElem?_eq_some_iff.1 hu).1; simpa using this
 obtain ⟨b, off, e2, _, hc⟩ := h.at_ (k := j) (by rw [← h.len]; exact hj)
 rw [e] at e2
 injection e2 with e2
 subst e2
 have ea : (⟨b, off, none⟩ : Addr).add j = ⟨b, off + j, none⟩ := by unfold Addr.add; split <;> simp_all
 rw [ea, hc]
 simpa [List.getElem?_eq_getElem hj] using hu
def IntsP (zs : List Int) (w : World) (e : Ending) (w' : World) : Prop := Below w.heap.size w w' ∧ ∃ A n c, e = .returned (.slice A n c) ∧ IntsR (· < w'.heap.size) w' A n c zs ∧ (A = none → n = 0 ∧ c = 0) ∧ (∀ ad, A = some ad → w.heap.size ≤ ad.block)
theorem ints_grown {w W : World} {A : Option Addr} {n c g : Nat} {zs : List Int} (h : IntsR (· < w.heap.size) w A n c zs) (hA : ∀ ad, A = some ad → ad.block ≠ g) (hg : w.grownBy W (some g)) : IntsR (· < W.heap.size) W A n c zs :=
 ⟨h.len, h.few, fun hn => by
  obtain ⟨b, off, e, hb, hm⟩ := h.mem hn
  refine ⟨b, off, e, Nat.lt_of_lt_of_le hb hg.size, fun k hk => (cell_of_heap (hg.block b hb (fun e2 => hA _ e (by injection e2))) (off + k)).trans (hm k hk)⟩⟩
theorem under_any {A : Option Addr} {n c : Nat} {ms : List Int} {w : World} (h : IntsR (· < w.heap.size) w A n c ms) (hn : n ≤ 100000) (hnul : A = none → n = 0 ∧ c = 0) (k : Nat) (hk : k ≤ 1000) (z : Int) :
 Calls Try.prog 67 #[.slice A n c, .int .i64 (k : Int), .int .i64 z] w (IntsP (List.replicate k z ++ ms) w) := by
 obtain ⟨i0, hi, hy0, hy1, hy2⟩ := info_parts infoI
 have HI0 := hid hi
 have HY0 := hid hy0
 have HY1 := hid hy1
 have HY2 := hid hy2
 have HM := hid h
 have HL := hid h.len
 have HNUL := hid hnul
 clear hi hy0 hy1 hy2 h hnul
 go_in
 go_wp2_with fail
 go_loopw [7, 8] (fun ov iv wr => ∃ (i d : Nat) (B : Option Addr), ov = .slice B i d ∧ iv = .int .i64 (i : Int) ∧ i ≤ k ∧ Hid (OwnI wr w.heap.size B i d (List.replicate i z)) ∧ Hid (Below w.heap.size w wr)) (fun _ iv _ => k - (intOf iv).toNat)
 case atStart => exact ⟨0, 0, none, rfl, rfl, by omega, hid (World.ownsRow_nil _ _ _ _), hid (Below.refl _ _)⟩
 case round =>
  obtain ⟨i, d, B, rfl, rfl, hi, hown, hbw⟩ := hrel
  have hsz := hbw.out.size
  by_cases hlt : i < k
  · have hib : decide ((i : Int) < (k : Int)) = true := decide_eq_true (by omega)
    go_wp2_with (at_builtin; go_loud (refine wpList_oper rfl (oper_append_one (.tmp 14) (.tmp 16) 110 3 rfl w.heap.size i0 _ 8 Try.underlying110 HI0.out HY0.out HY1.out HY2.out rfl (by decide) (.slice B i d) i ((List.replicate i z).map (Value.int .i64)) (.int .i64 z) rfl wr rfl rfl hown.out _ rfl rfl (by omega) (by omega) ?_)); intro A5 c5 w5 happ5)
    have HO5 : Hid (OwnI w5 w.heap.size A5 (i + 1) c5 (List.replicate (i + 1) z)) := hid (by
     have h1 := happ5.own
     rw [show (List.replicate i z).map (Value.int .i64) ++ [Value.int .i64 z] = (List.replicate (i + 1) z).map (Value.int .i64) from by simp [List.replicate_succ']] at h1
     exact h1)
    have HB5 := hid (hbw.out.grown happ5.grown hsz (fun g hg => (ownsRow_block hown.out hg).1))
    clear happ5
    go_roundw
    case rel => exact ⟨i + 1, c5, A5, rfl, by go_num, by omega, HO5, HB5⟩
    case measure => simp [intOf]; omega
  have hib : decide ((i : Int) < (k : Int)) = false := decide_eq_false (by omega)
  obtain rfl : i = k := by omega
  have HX := hid (ints_cells (HM.out.below hbw.out))
  have hl2 : ms.length = n := HL.out
  clear hlt
  go_wp2_with (at_builtin; go_loud (refine wpList_oper rfl (oper_append_mine (.tmp 18) (.tmp 19) 110 rfl w.heap.size 3 i0 _ 1 8 Try.underlying110 HI0.out HY0.out HY1.out HY2.out rfl (by decide) (.slice B i d) i ((List.replicate i z).map (Value.int .i64)) rfl hown.out A n c (ms.map (Value.int .i64)) rfl (by rw [List.length_map, HL.out, Nat.mul_one]) HNUL.out HX.out (marks_one ms) (by unfold maxLen; omega) (by omega) (by omega) ?_)); intro A5 c5 w5 happ5)
  have HO5 : Hid (OwnI w5 w.heap.size A5 (i + n) c5 (List.replicate i z ++ ms)) := hid (by
   have h1 := happ5.own
   rw [← List.map_append] at h1
   exact h1)
  have HB5 := hid (hbw.out.grown happ5.grown hsz (fun g hg => (ownsRow_block hown.out hg).1))
  clear happ5
  go_ret
  exact ⟨HB5.out, A5, i + n, c5, rfl, HO5.out.ints (by omega), fun e => ⟨own_zero2 HO5.out e, own_nul HO5.out e⟩, fun ad e => by
   have h1 := HO5.out
   rcases h1.2 with ⟨hv, _⟩ | ⟨g, cap, cur, hv, hbg, _⟩
   · injection hv with e1
     rw [e] at e1
     cases e1
   injection hv with e1
   rw [e] at e1
   injection e1 with e1
   subst e1
   exact hbg⟩
end
section
open Go.RowKit
theorem smaller_any {w : World} {t : TrV} {x : TT} (ht : TrW w t x) (hx : RtX x) {B : Option Addr} {m d : Nat} {ms : List Int} (hz : IntsR (· < w.heap.size) w B m d ms) :
 Calls Try.prog 93 #[.agg #[.int .i64 x.1.op, .int .i64 x.1.a, .int .i64 x.1.b, .slice t.Ak t.nk t.ck, .slice t.Aa t.na t.ca, .slice t.Af t.nf t.cf], .slice B m d] w (BoolP (lessR ms x) w) := by
 have HT := hid ht
 have HX := hid hx
 have HOF := hid (fun (w' : World) (h : Below w.heap.size w w') (v : Int) (hv : 0 ≤ v) => of7_any (hz.below h) v hv)
 obtain ⟨H, hH⟩ : ∃ H, H = (hdW x).1 := ⟨_, rfl⟩
 have HR : Hid (lessR ms x = (H.1.op == 1 && ofR ms H.1.a == -3)) := hid (by rw [hH]; rfl)
 have HH := hid hH
 have HB0 := hid (below_alloc w (.cells (sixV t x.1) 71))
 have HK0 := hid (Blk.new w 71 (sixV t x.1))
 generalize lessR ms x = res at *
 obtain ⟨I, hI⟩ : ∃ I : World → Nat → Prop, I = fun wr q => ∃ (t' : TrV) (x' : TT), szT x' ≤ q ∧ Hid (RtX x') ∧ Hid ((hdW x').1 = H) ∧ Hid (TrW w t' x') ∧ Hid (Blk wr w.heap.size 71 (sixV t' x'.1)) ∧ Hid (Below w.heap.size w wr) := ⟨_, rfl⟩
 have HI := hid hI
 clear hI hH hz ht hx
 go_in
 go_wp2_with fail
 go_loopw [] (fun wr => ∃ q, I wr q) (fun wr => msr I wr)
 case atStart => exact ⟨szT x, by rw [HI.out]; exact ⟨t, x, Nat.le_refl _, HX, hid HH.out.symm, HT, HK0, HB0⟩⟩
 case round =>
  have hsp := msr_spec hrel
  generalize hq : msr I wr = q at *
  clear hrel
  have HI2 := hid hsp
  clear hsp
  have hsp := HI2.out
  rw [HI.out] at hsp
  obtain ⟨t', x', hsz, hrt, hhd, htw, hbk, hbw⟩ := hsp
  have hbl := hbk.out.lt
  have zf := Blk.frozen hbk.out
  by_cases h6 : x'.1.op = 6
  · obtain ⟨n, a, k⟩ := x'
    obtain ⟨n1, a1, k1, n2, a2, k2, rfl, hs⟩ := app_split hrt.out h6
    have hnk : t'.nk = 2 := htw.out.nk
    obtain ⟨b, o, t2, hA, hb, h6c, ht2⟩ := htw.out.kid (j := 0) (by omega)
    have hkid : kidAt (Fo.cons [] n1 a1 k1 (Fo.cons [] n2 a2 k2 Fo.nil)) 0 = (n1, a1, k1) := rfl
    simp only at h6c ht2 hA
    rw [hkid] at h6c ht2
    have h6w := h6c.below hbw.out hb
    have hr1 : RtX (n1, a1, k1) := hs.fst
    have hsz1 : szT (n1, a1, k1) < q := by
     have h0 := szT_eq n a (Fo.cons [] n1 a1 k1 (Fo.cons [] n2 a2 k2 Fo.nil))
     rw [sz_cons, sz_cons] at h0
     simp only [List.length_nil] at h0
     omega
    have hh1 : (hdW (n1, a1, k1)).1 = H := by
     have := hhd.out
     rw [hdW_app h6] at this
     exact this
    have HN := hid (And.intro hr1 (And.intro hsz1 (And.intro hh1 ht2)))
    obtain ⟨Ak', nk', ck', Aa', na', ca', Af', nf', cf'⟩ := t'
    obtain ⟨Ak2, nk2, ck2, Aa2, na2, ca2, Af2, nf2, cf2⟩ := t2
    simp only at hnk hA h6 ⊢
    subst hnk
    subst hA
    obtain ⟨z0, z1, z2, z3, z4, z5⟩ := h6w
    rw [Nat.zero_mul, Nat.add_zero] at z0 z1 z2 z3 z4 z5
    simp only at z0 z1 z2 z3 z4 z5
    obtain ⟨op, va, vb⟩ := n
    simp only at h6
    subst h6
    have zk := Blk.cell hbk.out
    simp only at zk
    have hg6 := grown_sixs wr w.heap.size (.int .i64 n1.op) (.int .i64 n1.a) (.int .i64 n1.b) (.slice Ak2 nk2 ck2) (.slice Aa2 na2 ca2) (.slice Af2 nf2 cf2)
    have HNEW : Hid (I ((((((wr.setCell ⟨w.heap.size, 0, none⟩ (.int .i64 n1.op)).setCell ⟨w.heap.size, 1, none⟩ (.int .i64 n1.a)).setCell ⟨w.heap.size, 2, none⟩ (.int .i64 n1.b)).setCell ⟨w.heap.size, 3, none⟩ (.slice Ak2 nk2 ck2)).setCell ⟨w.heap.size, 4, none⟩ (.slice Aa2 na2 ca2)).setCell ⟨w.heap.size, 5, none⟩ (.slice Af2 nf2 cf2)) (szT (n1, a1, k1))) := hid (by
     rw [HI.out]
     exact ⟨⟨Ak2, nk2, ck2, Aa2, na2, ca2, Af2, nf2, cf2⟩, (n1, a1, k1), Nat.le_refl _, hid hr1, hid hh1, hid ht2, hid (blk_sixs hbk.out _ _ _ _ _ _), hid (hbw.out.grown hg6 (Nat.le_of_lt hbl) (fun q hq => by injection hq with hq; omega))⟩)
    clear hr1 hh1 ht2 h6c hkid hs hsz hrt hhd htw hg6
    have HS := hid hsz1
    clear hsz1
    go_wp2_with fail
    go_roundw
    case rel => exact ⟨_, HNEW.out⟩
    case measure => exact Nat.lt_of_le_of_lt (msr_le HNEW.out) HS.out
  have hh1 := hhd.out
  rw [hdW_stop h6] at hh1
  simp only at hh1
  subst hh1
  have hva := var_a hrt.out
  have HC := hid (fun h => HOF.out wr hbw.out x'.1.a h)
  have zk := Blk.cell hbk.out
  obtain ⟨Ak', nk', ck', Aa', na', ca', Af', nf', cf'⟩ := t'
  obtain ⟨⟨op, va, vb⟩, a, k⟩ := x'
  simp only at h6 hva HC HR zk
  have y6 : (op == 6) = false := by simpa using h6
  by_cases h1 : op = 1
  · have y1 : (op == 1) = true := by simpa using h1
    rw [y1, Bool.true_and] at HR
    generalize ofR ms va = mk at *
    clear h1 h6 hsz hrt hhd htw
    go_wp2_with fail
    refine (HC.out hva).mono ?_
    rintro e w3 ⟨rfl, hb3⟩
    have HB3 := bto hbw hb3
    clear hb3
    go_wp2_with fail
    go_ret
    rw [HR.out]
    exact ⟨rfl, HB3.out⟩
  have y1 : (op == 1) = false := by simpa using h1
  rw [y1, Bool.false_and] at HR
  clear h1 h6 hsz hrt hhd htw
  go_wp2_with fail
  go_ret
  rw [HR.out]
  exact ⟨rfl, hbw.out⟩
end
section
open Go.RowKit
theorem takenT_pi {p : Nat} {n n1 n2 : Nd} {a a1 a2 : List Nd} {k1 k2 : Fo} (h : n.op = 4) : takenT (p + 1) (n, a, .cons [] n1 a1 k1 (.cons [] n2 a2 k2 .nil)) = takenT p (n2, a2, k2) := by
 simp only [takenT]; rw [if_pos h]
theorem takenT_zero {n n1 n2 : Nd} {a a1 a2 : List Nd} {k1 k2 : Fo} (h : n.op = 4) : takenT 0 (n, a, .cons [] n1 a1 k1 (.cons [] n2 a2 k2 .nil)) = ((hdW (n1, a1, k1)).1.1.op == 9) := by
 simp only [takenT]; rw [if_pos h]; rfl
theorem sz_two {n n1 n2 : Nd} {a a1 a2 : List Nd} {k1 k2 : Fo} : szT (n1, a1, k1) < szT (n, a, .cons [] n1 a1 k1 (.cons [] n2 a2 k2 .nil)) ∧ szT (n2, a2, k2) < szT (n, a, .cons [] n1 a1 k1 (.cons [] n2 a2 k2 .nil)) := by
 have h0 := szT_eq n a (Fo.cons [] n1 a1 k1 (Fo.cons [] n2 a2 k2 Fo.nil))
 rw [sz_cons, sz_cons] at h0
 simp only [List.length_nil] at h0
 omega
theorem takes_any {w : World} {t : TrV} {x : TT} (ht : TrW w t x) (hx : RtX x) (p : Nat) (hp : p ≤ 1000) :
 Calls Try.prog 65 #[.agg #[.int .i64 x.1.op, .int .i64 x.1.a, .int .i64 x.1.b, .slice t.Ak t.nk t.ck, .slice t.Aa t.na t.ca, .slice t.Af t.nf t.cf], .int .i64 (p : Int)] w (BoolP (takenT p x) w) := by
 have HT := hid ht
 have HX := hid hx
 have HB0 := hid (below_alloc w (.cells (sixV t x.1) 71))
 have HK0 := hid (Blk.new w 71 (sixV t x.1))
 obtain ⟨res, hres⟩ : ∃ r, r = takenT p x := ⟨_, rfl⟩
 have HR := hid hres
 rw [← hres]
 clear hres ht hx
 go_in
 go_wp2_with fail
 go_loopw [5] (fun iv wr => ∃ (i q : Nat) (t' : TrV) (x' : TT), iv = .int .i64 (i : Int) ∧ i + q = p ∧ Hid (RtX x') ∧ Hid (res = takenT q x') ∧ Hid (TrW w t' x') ∧ Hid (Blk wr w.heap.size 71 (sixV t' x'.1)) ∧ Hid (Below w.heap.size w wr)) (fun i _ => p - (intOf i).toNat)
 case atStart => exact ⟨0, p, t, x, rfl, by omega, HX, HR, HT, HK0, HB0⟩
 case round =>
  clear HK0 HB0 HR HT HX
  obtain ⟨i, q, t', x', rfl, hiq, hrt, htk, htw, hbk, hbw⟩ := hrel
  have hbl := hbk.out.lt
  have zf := Blk.frozen hbk.out
  by_cases h4 : x'.1.op = 4
  case neg =>
   have HRF : Hid (res = false) := hid (by rw [htk.out, takenT_stop h4])
   have zk := Blk.cell hbk.out
   have y4 : (x'.1.op == 4) = false := by simpa using h4
   have y4b : (x'.1.op != 4) = true := by simpa using h4
   obtain ⟨⟨op, va, vb⟩, a, k⟩ := x'
   simp only at zk y4 y4b
   clear h4 htk hrt
   rcases Nat.lt_or_ge i p with hlt | hlt
   · have y5 : decide ((i : Int) < (p : Int)) = true := decide_eq_true (by omega)
     go_wp2_with fail
     go_ret
     rw [HRF.out]
     exact ⟨rfl, hbw.out⟩
   have y5 : decide ((i : Int) < (p : Int)) = false := decide_eq_false (by omega)
   go_wp2_with fail
   go_ret
   rw [HRF.out]
   exact ⟨rfl, hbw.out⟩
  obtain ⟨n, a, k⟩ := x'
  obtain ⟨n1, a1, k1, n2, a2, k2, rfl, rfl, hs1, hs2, _, _⟩ := two_split hrt.out (.inl h4)
  have hnk : t'.nk = 2 := htw.out.nk
  cases q with
  | succ q =>
   have htk2 := htk.out
   rw [takenT_pi h4] at htk2
   have HTK := hid htk2
   have y5 : decide ((i : Int) < (p : Int)) = true := decide_eq_true (by omega)
   obtain ⟨b, o, t2, hA, hb, h6c, ht2⟩ := htw.out.kid (j := 1) (by omega)
   simp only at h6c ht2 hA
   rw [show kidAt (Fo.cons [] n1 a1 k1 (Fo.cons [] n2 a2 k2 Fo.nil)) 1 = (n2, a2, k2) from rfl] at h6c ht2
   have h6w := h6c.below hbw.out hb
   obtain ⟨Ak', nk', ck', Aa', na', ca', Af', nf', cf'⟩ := t'
   obtain ⟨Ak2, nk2, ck2, Aa2, na2, ca2, Af2, nf2, cf2⟩ := t2
   simp only at hnk hA h4
   subst hnk
   subst hA
   obtain ⟨z0, z1, z2, z3, z4, z5⟩ := h6w
   rw [Nat.one_mul] at z0 z1 z2 z3 z4 z5
   simp only at z0 z1 z2 z3 z4 z5
   obtain ⟨op, va, vb⟩ := n
   simp only at h4
   subst h4
   have zk := Blk.cell hbk.out
   simp only at zk
   have hg6 := hid (grown_sixs wr w.heap.size (.int .i64 n2.op) (.int .i64 n2.a) (.int .i64 n2.b) (.slice Ak2 nk2 ck2) (.slice Aa2 na2 ca2) (.slice Af2 nf2 cf2))
   have HT2 := hid ht2
   have HS2 := hid hs2
   clear ht2 h6c hs1 hs2 hrt htk htk2 htw
   go_wp2_with fail
   go_roundw
   case rel => exact ⟨i + 1, q, ⟨Ak2, nk2, ck2, Aa2, na2, ca2, Af2, nf2, cf2⟩, (n2, a2, k2), by go_num, by omega, HS2, HTK, HT2, hid (blk_sixs hbk.out _ _ _ _ _ _), hid (hbw.out.grown hg6.out (Nat.le_of_lt hbl) (fun q hq => by injection hq with hq; omega))⟩
   case measure => simp [intOf]; omega
  | zero =>
   have htk2 := htk.out
   rw [takenT_zero h4] at htk2
   obtain ⟨H, hH⟩ : ∃ H, H = (hdW (n1, a1, k1)).1 := ⟨_, rfl⟩
   rw [← hH] at htk2
   have HRF := hid htk2
   have HH := hid hH.symm
   have y5 : decide ((i : Int) < (p : Int)) = false := decide_eq_false (by omega)
   obtain ⟨b, o, t2, hA, hb, h6c, ht2⟩ := htw.out.kid (j := 0) (by omega)
   simp only at h6c ht2 hA
   rw [show kidAt (Fo.cons [] n1 a1 k1 (Fo.cons [] n2 a2 k2 Fo.nil)) 0 = (n1, a1, k1) from rfl] at h6c ht2
   have h6w := h6c.below hbw.out hb
   obtain ⟨Ak', nk', ck', Aa', na', ca', Af', nf', cf'⟩ := t'
   obtain ⟨Ak2, nk2, ck2, Aa2, na2, ca2, Af2, nf2, cf2⟩ := t2
   simp only at hnk hA h4
   subst hnk
   subst hA
   obtain ⟨z0, z1, z2, z3, z4, z5⟩ := h6w
   rw [Nat.zero_mul, Nat.add_zero] at z0 z1 z2 z3 z4 z5
   simp only at z0 z1 z2 z3 z4 z5
   obtain ⟨op, va, vb⟩ := n
   simp only at h4
   subst h4
   have zk := Blk.cell hbk.out
   simp only at zk
   have hg6 := hid (grown_sixs wr w.heap.size (.int .i64 n1.op) (.int .i64 n1.a) (.int .i64 n1.b) (.slice Ak2 nk2 ck2) (.slice Aa2 na2 ca2) (.slice Af2 nf2 cf2))
   obtain ⟨I, hI⟩ : ∃ I : World → Nat → Prop, I = fun wr q => ∃ (t' : TrV) (x' : TT), szT x' ≤ q ∧ Hid (RtX x') ∧ Hid ((hdW x').1 = H) ∧ Hid (TrW w t' x') ∧ Hid (Blk wr w.heap.size 71 (sixV t' x'.1)) ∧ Hid (Below w.heap.size w wr) := ⟨_, rfl⟩
   have HI := hid hI
   have HNEW : Hid (I ((((((wr.setCell ⟨w.heap.size, 0, none⟩ (.int .i64 n1.op)).setCell ⟨w.heap.size, 1, none⟩ (.int .i64 n1.a)).setCell ⟨w.heap.size, 2, none⟩ (.int .i64 n1.b)).setCell ⟨w.heap.size, 3, none⟩ (.slice Ak2 nk2 ck2)).setCell ⟨w.heap.size, 4, none⟩ (.slice Aa2 na2 ca2)).setCell ⟨w.heap.size, 5, none⟩ (.slice Af2 nf2 cf2)) (szT (n1, a1, k1))) := hid (by
    rw [HI.out]
    exact ⟨⟨Ak2, nk2, ck2, Aa2, na2, ca2, Af2, nf2, cf2⟩, (n1, a1, k1), Nat.le_refl _, hid hs1, HH, hid ht2, hid (blk_sixs hbk.out _ _ _ _ _ _), hid (hbw.out.grown hg6.out (Nat.le_of_lt hbl) (fun q hq => by injection hq with hq; omega))⟩)
   obtain ⟨wo, rfl⟩ : ∃ wo : World, wo = wr := ⟨_, rfl⟩
   clear ht2 h6c hs1 hs2 hrt htk htk2 htw hI hH HH
   go_wp2_with fail
   clear zk z0 z1 z2 z3 z4 z5
   go_loopw [] (fun wr => ∃ q, I wr q) (fun wr => msr I wr)
   case atStart => exact ⟨_, HNEW.out⟩
   case round =>
    have hsp := msr_spec hrel
    generalize hq : msr I wr = q at *
    clear hrel HNEW hg6 hbk zf hbl
    have HI2 := hid hsp
    clear hsp
    have hsp := HI2.out
    rw [HI.out] at hsp
    obtain ⟨t', x', hsz, hrt, hhd, htw, hbk, hbw2⟩ := hsp
    have hbl := hbk.out.lt
    have zf := Blk.frozen hbk.out
    by_cases h6 : x'.1.op = 6
    rotate_left
    · have hh1 := hhd.out
      rw [hdW_stop h6] at hh1
      simp only at hh1
      subst hh1
      have zk := Blk.cell hbk.out
      obtain ⟨⟨op, va, vb⟩, a, k⟩ := x'
      simp only at h6 zk HRF
      have y6 : (op == 6) = false := by simpa using h6
      clear h6 hsz hrt hhd htw
      go_wp2_with fail
      go_ret
      rw [HRF.out]
      exact ⟨rfl, hbw2.out⟩
    obtain ⟨n, a, k⟩ := x'
    obtain ⟨n3, a3, k3, n4, a4, k4, rfl, rfl, hs3, hs4, _, _⟩ := two_split hrt.out (.inr (.inr h6))
    have hnk : t'.nk = 2 := htw.out.nk
    obtain ⟨b, o, t2, hA, hb, h6c, ht2⟩ := htw.out.kid (j := 0) (by omega)
    simp only at h6c ht2 hA
    rw [show kidAt (Fo.cons [] n3 a3 k3 (Fo.cons [] n4 a4 k4 Fo.nil)) 0 = (n3, a3, k3) from rfl] at h6c ht2
    have h6w := h6c.below hbw2.out hb
    have hsz1 : szT (n3, a3, k3) < q := Nat.lt_of_lt_of_le sz_two.1 hsz
    have hh1 : (hdW (n3, a3, k3)).1 = H := by
     have := hhd.out
     rw [hdW_app h6] at this
     exact this
    obtain ⟨Ak', nk', ck', Aa', na', ca', Af', nf', cf'⟩ := t'
    obtain ⟨Ak3, nk3, ck3, Aa3, na3, ca3, Af3, nf3, cf3⟩ := t2
    simp only at hnk hA h6
    subst hnk
    subst hA
    obtain ⟨z0, z1, z2, z3, z4, z5⟩ := h6w
    rw [Nat.zero_mul, Nat.add_zero] at z0 z1 z2 z3 z4 z5
    simp only at z0 z1 z2 z3 z4 z5
    obtain ⟨op, va, vb⟩ := n
    simp only at h6
    subst h6
    have zk := Blk.cell hbk.out
    simp only at zk
    have hg6 := grown_sixs wr w.heap.size (.int .i64 n3.op) (.int .i64 n3.a) (.int .i64 n3.b) (.slice Ak3 nk3 ck3) (.slice Aa3 na3 ca3) (.slice Af3 nf3 cf3)
    have HNEW : Hid (I ((((((wr.setCell ⟨w.heap.size, 0, none⟩ (.int .i64 n3.op)).setCell ⟨w.heap.size, 1, none⟩ (.int .i64 n3.a)).setCell ⟨w.heap.size, 2, none⟩ (.int .i64 n3.b)).setCell ⟨w.heap.size, 3, none⟩ (.slice Ak3 nk3 ck3)).setCell ⟨w.heap.size, 4, none⟩ (.slice Aa3 na3 ca3)).setCell ⟨w.heap.size, 5, none⟩ (.slice Af3 nf3 cf3)) (szT (n3, a3, k3))) := hid (by
     rw [HI.out]
     exact ⟨⟨Ak3, nk3, ck3, Aa3, na3, ca3, Af3, nf3, cf3⟩, (n3, a3, k3), Nat.le_refl _, hid hs3, hid hh1, hid ht2, hid (blk_sixs hbk.out _ _ _ _ _ _), hid (hbw2.out.grown hg6 (Nat.le_of_lt hbl) (fun q hq => by injection hq with hq; omega))⟩)
    have HS := hid hsz1
    clear hh1 ht2 h6c hs3 hs4 hsz hrt hhd htw hg6 hsz1
    go_wp2_with fail
    go_roundw
    case rel => exact ⟨_, HNEW.out⟩
    case measure => exact Nat.lt_of_le_of_lt (msr_le HNEW.out) HS.out
end
end Go.Proofs.Ytjllmblbbgojbaa
