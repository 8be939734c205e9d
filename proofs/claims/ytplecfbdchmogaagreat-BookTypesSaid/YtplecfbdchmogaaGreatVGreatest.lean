/- Greatest of the reference: the greatest free variable of a tree. -/
import Derived.Test.YtplecfbdchmogaaGreatProg
import Derived.Test.YtplecfbdchmogaaGreatVBase
import Derived.Test.YtplecfbdchmogaaGreatVLeafs
import Derived.WalkKit
import Derived.WalkLawsBesides
import Derived.WalkSpells
import Derived.Lib.Hide
import Derived.Deep.RegionHeld3
namespace Go.Proofs.YtplecfbdchmogaaGreat
open Go.Lib (hid)
open Go.RowKit
set_option maxRecDepth 100000 in
set_option maxHeartbeats 2000000 in
theorem greatest_step (m : Nat) (ih : ∀ (w : World) (R : Nat → Prop) (xs : List Value) (n : Nd) (atoms : List Nd) (kids : Fo) (u : Int), (∀ b, R b → b < w.heap.size) → TreeC R w xs n atoms kids → okN n = true → AllOk kids → 0 ≤ u → u + 4 * fsize kids ≤ 1000000000000 → fsize kids < m →
      Calls Tryz.prog 124 #[.agg xs.toArray, .int .i64 u] w (IntPost (grtT n kids u) w))
 (w : World) (R : Nat → Prop) (xs : List Value) (n : Nd) (atoms : List Nd) (kids : Fo) (u : Int) (hR : ∀ b, R b → b < w.heap.size) (ht : TreeC R w xs n atoms kids) (hok : okN n = true) (hall : AllOk kids) (hu0 : 0 ≤ u) (hu1 : u + 4 * fsize kids ≤ 1000000000000) (hsz : fsize kids ≤ m) :
 Calls Tryz.prog 124 #[.agg xs.toArray, .int .i64 u] w (IntPost (grtT n kids u) w) := by
 have HI := hid ih
 clear ih
 obtain ⟨sk, sa, sf, rfl, ⟨Ak, nk, ck, rfl, hkk⟩, ⟨Aa, na, ca, rfl, haa⟩, ⟨Af, nf, cf, rfl, hff⟩⟩ := ht
 have hna := (plainB_a ((by simp only [okN, Bool.and_eq_true] at hok; exact hok.1.1) : plainB n.op n.a n.b = true))
 by_cases h1 : n.op = 1
 · have h1b : (n.op == 1) = true := by simp [h1]
   have H1 := hid h1
   have hu2 : u ≤ 1000000000000 := by omega
   clear h1 hu1
   obtain ⟨hna1, hna2⟩ := hna
   go_in
   go_wp2_with fail
   all_goals
    go_ret
    refine ⟨ret_int ?_, below_alloc _ _⟩
    simp only [grtT, if_pos H1.out]
    omega
 have h1b : (n.op == 1) = false := by simp [h1]
 have H1 := hid h1
 have HU := hid hu1
 have HSZ := hid hsz
 have HKL := hid hkk.len
 have HOK := hid hok
 have hnk : nk ≤ 1000000000000000 := by
  have h1 := flen_le_fsize kids
  have h2 := hkk.len
  omega
 clear h1 hu1 hsz hok
 go_in
 go_wp2_with fail
 go_loopw [5, 6] (fun v i wr => ∃ (F1 F2 : Fo) (j : Nat) (t : Int), kids = F1.app F2 ∧ flen F1 = j ∧ v = .int .i64 t ∧ i = .int .i64 (j : Int) ∧ -1 ≤ t ∧ max t (grt n.op n.b j u F2) = grt n.op n.b 0 u kids ∧ Below w.heap.size w wr ∧
  Blk wr w.heap.size 131 #[.int .i64 n.op, .int .i64 n.a, .int .i64 n.b, .slice Ak nk ck, .slice Aa na ca, .slice Af nf cf]) (fun _ i _ => nk - (intOf i).toNat)
 case atStart => exact ⟨.nil, kids, 0, -1, rfl, rfl, rfl, rfl, Int.le_refl _, max_grt _ _ _ _ _, below_alloc _ _, Blk.new _ _ _⟩
 case round =>
  obtain ⟨F1, F2, j, t, hk, hj, rfl, rfl, ht, he, hbw, hblk⟩ := hrel
  have HK := hid hk
  have HJ := hid hj
  have HE := hid he
  have HT := hid ht
  have hkkr := hkk.keep (R' := R) (w' := wr) (fun b hb => ⟨hb, fun o => hbw.cell (p := ⟨b, o, none⟩) (hR b hb)⟩)
  have zc := Blk.cell hblk
  have hszb : w.heap.size + 1 ≤ wr.heap.size := Blk.lt hblk
  clear he ht
  cases F2 with
  | nil =>
   have hjn : j = nk := by rw [← HKL.out, hk, flen_app, hj]; rfl
   have hjn2 : ¬ j < nk := by omega
   clear hk hj hjn
   go_wp2_with fail
   go_ret
   refine ⟨ret_int ?_, hbw⟩
   have h1 := HE.out
   have h2 := HT.out
   simp only [grtT, if_neg H1.out, ← h1, grt]
   omega
  | cons pre nd ats ks F2 =>
   have hjn : j < nk := by rw [← HKL.out, hk, flen_app, hj]; simp [flen]
   have hkk2 : KidsR R wr Ak nk ck (F1.app (.cons pre nd ats ks F2)) := by rw [← hk]; exact hkkr
   obtain ⟨b, off, sk', sa', sf', rfl, hrb, htree, g0, g1, g2, g3, g4, g5⟩ := hkk2.at_
   rw [hj] at g0 g1 g2 g3 g4 g5
   obtain ⟨_, hok2, hall2, _⟩ := (AllOk.app F1 _).1 (hk ▸ hall)
   have hbb : b < w.heap.size := hR b hrb
   clear hk hj hkk2 hkkr
   have hB : w.heap.size < wr.heap.size := Blk.lt hblk
   obtain ⟨ha1, ha2⟩ := aroundI_bd HOK.out (j : Int)
   have hfs : u + 4 * (fsize F1 + (fsize ks + fsize F2 + 1)) ≤ 1000000000000 := by
    have := HU.out
    rw [HK.out, fsize_app] at this
    simp only [fsize] at this
    omega
   have hfs2 : fsize ks < m := by
    have := HSZ.out
    rw [HK.out, fsize_app] at this
    simp only [fsize] at this
    omega
   have hw : IntKind.i64.wrap (u + aroundI n.op n.b (j : Int)) = u + aroundI n.op n.b (j : Int) := IntWalk.i64_in _ (by omega)
   have hb1 : 0 ≤ u + aroundI n.op n.b (j : Int) := by omega
   have hb2 : u + aroundI n.op n.b (j : Int) + 4 * fsize ks ≤ 1000000000000 := by omega
   have HB1 := hid hb1
   have HB2 := hid hb2
   have HB3 := hid hfs2
   have htr : ∀ W : World, Below wr.heap.size wr W → TreeC R W [.int .i64 nd.op, .int .i64 nd.a, .int .i64 nd.b, sk', sa', sf'] nd ats ks := fun W hW =>
    htree.keep fun b' hb' => ⟨hb', fun o => hW.cell (p := ⟨b', o, none⟩) (Nat.lt_of_lt_of_le (hR b' hb') hbw.size)⟩
   have hrl : ∀ W : World, Below wr.heap.size wr W → ∀ b', R b' → b' < W.heap.size := fun W hW b' hb' => Nat.lt_of_lt_of_le (hR b' hb') (Nat.le_trans hbw.size hW.size)
   have hkeep : ∀ W : World, Below wr.heap.size wr W → (W.cell? ⟨w.heap.size, 0, none⟩ = some (.int .i64 n.op) ∧ W.cell? ⟨w.heap.size, 1, none⟩ = some (.int .i64 n.a) ∧ W.cell? ⟨w.heap.size, 2, none⟩ = some (.int .i64 n.b) ∧ W.cell? ⟨w.heap.size, 3, none⟩ = some (.slice (some ⟨b, off, none⟩) nk ck) ∧
    W.cell? ⟨b, off + j * 6, none⟩ = some (.int .i64 nd.op) ∧ W.cell? ⟨b, off + j * 6 + 1, none⟩ = some (.int .i64 nd.a) ∧ W.cell? ⟨b, off + j * 6 + 2, none⟩ = some (.int .i64 nd.b) ∧ W.cell? ⟨b, off + j * 6 + 3, none⟩ = some sk' ∧ W.cell? ⟨b, off + j * 6 + 4, none⟩ = some sa' ∧ W.cell? ⟨b, off + j * 6 + 5, none⟩ = some sf') := fun W hW => by
    have hB : ∀ o, W.cell? ⟨w.heap.size, o, none⟩ = wr.cell? ⟨w.heap.size, o, none⟩ := fun o => hW.cell (p := ⟨w.heap.size, o, none⟩) hB
    have hC : ∀ o, W.cell? ⟨b, o, none⟩ = wr.cell? ⟨b, o, none⟩ := fun o => hW.cell (p := ⟨b, o, none⟩) (Nat.lt_of_lt_of_le hbb hbw.size)
    rw [hB, hB, hB, hB, hC, hC, hC, hC, hC, hC]
    exact ⟨hblk.cell 0, hblk.cell 1, hblk.cell 2, hblk.cell 3, g0, g1, g2, g3, g4, g5⟩
   have hfirst := hkeep wr (Below.refl _ _)
   have HTR := hid htr
   have HRL := hid hrl
   have HKEEP := hid hkeep
   clear hb1 hb2 hfs hfs2 htr hrl hkeep zc g0 g1 g2 g3 g4 g5
   by_cases hm : t < grtT nd ks (u + aroundI n.op n.b (j : Int))
   all_goals
    obtain ⟨g0, g1, g2, g3, g4, g5, g6, g7, g8, g9⟩ := hfirst
    go_wp2_with fail
    go_region_held3 (fun w' => w'.cell? ⟨w.heap.size, 0, none⟩ = some (.int .i64 n.op) ∧ w'.cell? ⟨w.heap.size, 1, none⟩ = some (.int .i64 n.a) ∧ w'.cell? ⟨w.heap.size, 2, none⟩ = some (.int .i64 n.b) ∧ w'.cell? ⟨w.heap.size, 3, none⟩ = some (.slice (some ⟨b, off, none⟩) nk ck) ∧
     w'.cell? ⟨b, off + j * 6, none⟩ = some (.int .i64 nd.op) ∧ w'.cell? ⟨b, off + j * 6 + 1, none⟩ = some (.int .i64 nd.a) ∧ w'.cell? ⟨b, off + j * 6 + 2, none⟩ = some (.int .i64 nd.b) ∧ w'.cell? ⟨b, off + j * 6 + 3, none⟩ = some sk' ∧ w'.cell? ⟨b, off + j * 6 + 4, none⟩ = some sa' ∧ w'.cell? ⟨b, off + j * 6 + 5, none⟩ = some sf') (first | go_keep | exact HKEEP.out _ hb4)
     (first
      | (go_at_call 142; refine (around_any _ _ _ _ _ (by omega)).mono ?_; rintro e w2 ⟨rfl, rfl⟩)
      | (go_at_call 124; refine (HI.out _ R [.int .i64 nd.op, .int .i64 nd.a, .int .i64 nd.b, sk', sa', sf'] nd ats ks _ (HRL.out _ (((Below.refl _ _).alloc (Nat.le_refl _) _).drew)) (HTR.out _ (((Below.refl _ _).alloc (Nat.le_refl _) _).drew)) hok2 hall2 HB1.out HB2.out HB3.out).mono ?_; rintro e w3 ⟨rfl, hb3⟩; have hb4 : Below wr.heap.size wr w3 := below_step (((Below.refl _ _).alloc (Nat.le_refl _) _).drew) hb3 (Nat.le_refl _)))
    go_wp2_with fail
    go_roundw
    case rel =>
     refine ⟨F1.app (.cons pre nd ats ks .nil), F2, j + 1, _, by rw [HK.out, app_assoc]; rfl, by rw [flen_app]; simp [flen, HJ.out], rfl, by go_num, ?_, ?_, hbw.trans (hb4.mono hbw.size), hblk.below hb4 hB⟩
     · have := HT.out; omega
     have h1 := HE.out
     rw [grt_cons] at h1
     rw [← h1]
     omega
    case measure => simp [intOf]; omega
theorem greatest_all : ∀ (m : Nat) (w : World) (R : Nat → Prop) (xs : List Value) (n : Nd) (atoms : List Nd) (kids : Fo) (u : Int), (∀ b, R b → b < w.heap.size) → TreeC R w xs n atoms kids → okN n = true → AllOk kids → 0 ≤ u → u + 4 * fsize kids ≤ 1000000000000 → fsize kids < m →
      Calls Tryz.prog 124 #[.agg xs.toArray, .int .i64 u] w (IntPost (grtT n kids u) w)
 | 0, _, _, _, _, _, _, _, _, _, _, _, _, _, h => absurd h (by omega)
 | m + 1, w, R, xs, n, atoms, kids, u, h1, h2, h3, h4, h5, h6, h7 => greatest_step m (greatest_all m) w R xs n atoms kids u h1 h2 h3 h4 h5 h6 (by omega)
theorem greatest_any {w : World} {R : Nat → Prop} {xs : List Value} {n : Nd} {atoms : List Nd} {kids : Fo} {u : Int} (hR : ∀ b, R b → b < w.heap.size) (ht : TreeC R w xs n atoms kids) (hok : okN n = true) (hall : AllOk kids) (h0 : 0 ≤ u) (h1 : u + 4 * fsize kids ≤ 1000000000000) :
 Calls Tryz.prog 124 #[.agg xs.toArray, .int .i64 u] w (IntPost (grtT n kids u) w) :=
 greatest_all (fsize kids + 1) w R xs n atoms kids u hR ht hok hall h0 h1 (Nat.lt_succ_self _)
end Go.Proofs.YtplecfbdchmogaaGreat
