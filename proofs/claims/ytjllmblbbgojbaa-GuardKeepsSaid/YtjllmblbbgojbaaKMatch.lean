/- The guard checker's walks: match. -/
import Derived.Test.YtjllmblbbgojbaaKHeads
namespace Go.Proofs.Ytjllmblbbgojbaa
open Go.Lib (hid)
open Go.RowKit
def matchT (rec_ : List Int → TT → Bool) (ca : Int → Nat → Nat) (zs : List Int) (x : TT) : Bool :=
 match kidL x.2.2 with
 | mo :: sc :: br => (rec_ zs mo && rec_ zs sc) && branchesT rec_ (fun k => if downT zs sc then ca x.1.a k else 0) zs 0 br
 | _ => true
theorem pcs_two {W : World} {T : TypeId} {A1 A2 : Option Addr} {n1 c1 n2 c2 : Nat} {x y : TT} (h1 : ∀ w', Below W.heap.size W w' → TermV w' A1 n1 c1 (rowT x)) (h2 : ∀ w', Below W.heap.size W w' → TermV w' A2 n2 c2 (rowT y)) :
 PcsR (W.alloc (.cells #[.slice A1 n1 c1, .slice A2 n2 c2] T)) (some ⟨W.heap.size, 0, none⟩) 2 [x, y] := by
 have hb : ∀ w', Below (W.alloc (.cells #[.slice A1 n1 c1, .slice A2 n2 c2] T)).heap.size (W.alloc (.cells #[.slice A1 n1 c1, .slice A2 n2 c2] T)) w' → Below W.heap.size W w' := fun w' h => (below_alloc W _).trans (h.mono (by simp))
 refine ⟨rfl, by omega, fun _ => ⟨W.heap.size, 0, rfl, by simp, fun k hk => ?_⟩⟩
 simp only [List.length_cons, List.length_nil] at hk
 rw [Nat.zero_add, World.cell?_alloc_new]
 obtain rfl | rfl : k = 0 ∨ k = 1 := by omega
 · exact ⟨A1, n1, c1, rfl, fun w' h => h1 w' (hb w' h)⟩
 exact ⟨A2, n2, c2, rfl, fun w' h => h2 w' (hb w' h)⟩
theorem ds_match {n : Nd} (h : n.op = 11) (hb : 0 ≤ n.b) : ds n = false :: false :: List.replicate n.b.toNat false := by
 unfold ds
 rw [if_neg (by omega), h, show kidsI 11 n.b = n.b + 2 from by simp [kidsI] <;> omega, show (n.b + 2).toNat = n.b.toNat + 1 + 1 from by omega]
 rfl
theorem downT_eq {zs : List Int} {x : TT} {q : TT × List TT} (h : hd (rowT x).length x = q) : downT zs x = ((if q.1.1.op = 1 then ofI zs q.1.1.a else 0) == 2 || ((if q.1.1.op = 1 then ofI zs q.1.1.a else 0) == 1 && q.2.isEmpty)) := by
 unfold downT
 rw [h]
theorem empty_len {L : List TT} : L.isEmpty = ((L.length : Int) == 0) := by
 cases L with
 | nil => rfl
 | cons x L => simp; omega
theorem branchesT_cons {rec_ : List Int → TT → Bool} {cf : Nat → Nat} {zs : List Int} {k r : Nat} {y : TT} {ys : List TT} (h : cf k = r) : branchesT rec_ cf zs k (y :: ys) = (branchT rec_ r zs y && branchesT rec_ cf zs (k + 1) ys) := by
 rw [← h]; rfl
set_option linter.unusedSimpArgs false in
set_option maxRecDepth 100000 in
set_option maxHeartbeats 8000000 in
theorem match_any {K : LK} {I : World → Prop} {G : List Int → Prop} {J : TT → Prop} {rec_ : List Int → TT → Bool} {ca : Int → Nat → Nat} {m : Nat} (H : FineH K I G J rec_ m) (hI : ∀ w w', I w → Below w.heap.size w w' → I w') (hE : ∀ w, I w → EntR K ca w) (hG : ∀ zs z, 0 ≤ z → z ≤ 2 → G zs → G (zs ++ [z])) (hJK : ∀ n a k, J (n, a, k) → ∀ y ∈ kidL k, J y) (hJM : ∀ n a k, J (n, a, k) → n.op = 11 → n.a < (K.ne : Int)) {w : World} {A B : Option Addr} {n c k d : Nat} {nd : Nd} {a : List Nd} {kk : Fo} {zs : List Int} (hw : I w) (ht : TermV w A n c (rowT (nd, a, kk))) (hy : RtX (nd, a, kk)) (h11 : nd.op = 11) (hm : (rowT (nd, a, kk)).length ≤ m + 1) (hJ : J (nd, a, kk)) (hk : k + (rowT (nd, a, kk)).length ≤ 9000) (hz : IntsR (· < w.heap.size) w B k d zs) (hnul : B = none → d = 0) (hg : G zs) :
 Calls Try.prog 123 #[.agg #[.int .i64 K.vars, .slice K.Ao K.no K.co, .slice K.Ae K.ne K.ce, .int .i64 K.nat, .slice K.Ap K.np K.cp, .slice K.Aq K.nq K.cq], .slice A n c, .slice B k d] w (BoolP (matchT rec_ ca zs (nd, a, kk)) w) := by
 have hJ2 : ∀ n a n1 a1 k1 n2 a2 k2, J (n, a, .cons [] n1 a1 k1 (.cons [] n2 a2 k2 .nil)) → J (n1, a1, k1) ∧ J (n2, a2, k2) := fun n a n1 a1 k1 n2 a2 k2 h => ⟨hJK _ _ _ h _ (by simp [kidL]), hJK _ _ _ h _ (by simp [kidL])⟩
 -- what the row is
 have hok := (Rt.wf hy).1
 simp only at hok
 have hpl := plainB_iff.1 (by simp only [okN, Bool.and_eq_true] at hok; exact hok.1.1)
 have hb0 : 0 ≤ nd.b ∧ nd.b ≤ 16 ∧ 0 ≤ nd.a ∧ nd.a < 64 := by omega
 have hat := At.first hy (by omega : nd.op ≠ 2)
 rw [ds_match h11 hb0.1] at hat
 obtain ⟨pre0, n0, a0, k0, nx0, rfl, s0⟩ := hat.step
 obtain ⟨pre1, n1, a1, k1, nx1, rfl, s1⟩ := s0.next.step
 have hp0 : pre0.length = 0 := s0.plen
 have hp1 : pre1.length = 0 := s1.plen
 have hnx := s1.next
 obtain ⟨e0, c0, r0, l0⟩ := (⟨s0.end_, s0.cut, s0.rt, s0.le⟩ : _ ∧ _ ∧ _ ∧ _)
 obtain ⟨e1, c1, r1, l1⟩ := (⟨s1.end_, s1.cut, s1.rt, s1.le⟩ : _ ∧ _ ∧ _ ∧ _)
 simp only [hp0, hp1, Nat.add_zero] at e0 c0 l0 e1 c1 l1 hnx
 have hMT : matchT rec_ ca zs (nd, a, .cons pre0 n0 a0 k0 (.cons pre1 n1 a1 k1 nx1)) = ((rec_ zs (n0, a0, k0) && rec_ zs (n1, a1, k1)) && branchesT rec_ (fun k => if downT zs (n1, a1, k1) then ca nd.a k else 0) zs 0 (kidL nx1)) := rfl
 have hJ0 := hJK _ _ _ hJ (n0, a0, k0) (by simp [kidL])
 have hJ1 := hJK _ _ _ hJ (n1, a1, k1) (by simp [kidL])
 have hJX : ∀ y ∈ kidL nx1, J y := fun y hy => hJK _ _ _ hJ y (by simp [kidL, hy])
 have hJA := hJM _ _ _ hJ h11
 obtain ⟨ea, hea⟩ : ∃ ea : Nat, nd.a = (ea : Int) := ⟨nd.a.toNat, by omega⟩
 obtain ⟨bb, hbb⟩ : ∃ bb : Nat, nd.b = (bb : Int) := ⟨nd.b.toNat, by omega⟩
 have hbt : nd.b.toNat = bb := by omega
 rw [hbt] at hnx
 obtain ⟨p0, hq0⟩ : ∃ p, p = 1 + (rowT (n0, a0, k0)).length := ⟨_, rfl⟩
 obtain ⟨p1, hq1⟩ : ∃ p, p = p0 + (rowT (n1, a1, k1)).length := ⟨_, rfl⟩
 rw [← hq0] at e0 c0 l0 e1 c1 l1 hnx
 rw [← hq1] at e1 c1 l1 hnx
 have hlen := ht.len
 have hnf : n ≤ 4096 := by rw [← hlen]; exact Rt.few hy
 rw [hlen] at hm hk l0 l1
 have hpos0 : 0 < (rowT (n0, a0, k0)).length := by simp [rowT]
 have hpos1 : 0 < (rowT (n1, a1, k1)).length := by simp [rowT]
 have hcap := ht.cap
 obtain ⟨b, off, rfl, hb, hc0, hc1, hc2⟩ := ht.at_ (p := 0) (by omega)
 simp only [Nat.zero_mul, Nat.add_zero] at hc0 hc1 hc2
 rw [show nth (rowT (nd, a, Fo.cons pre0 n0 a0 k0 (.cons pre1 n1 a1 k1 nx1))) 0 = nd from rfl] at hc0 hc1 hc2
 rw [hea] at hc1 hMT hJA
 rw [hbb] at hc2
 have hen : ea < K.ne := by omega
 have hbb16 : bb ≤ 16 := by omega
 have hn0 : 0 < n := by omega
 obtain ⟨vars, nat, Ao, no, co, Ae, ne, ce, Ap, np, cp, Aq, nqq, cq⟩ := K
 simp only at hen ⊢
 have hp11 : 1 ≤ p1 := by omega
 have hml : (rowT (n0, a0, k0)).length ≤ m ∧ (rowT (n1, a1, k1)).length ≤ m := by omega
 generalize hT : rowT (nd, a, Fo.cons pre0 n0 a0 k0 (.cons pre1 n1 a1 k1 nx1)) = tt at *
 generalize hMM : matchT rec_ ca zs (nd, a, Fo.cons pre0 n0 a0 k0 (.cons pre1 n1 a1 k1 nx1)) = mt at *
 obtain ⟨A0, hcut0, hcutr0⟩ := cut_mid (some ⟨b, off, none⟩) n c 1 p0 (by omega) (by omega) hcap
 obtain ⟨A1, hcut1, hcutr1⟩ := cut_mid (some ⟨b, off, none⟩) n c p0 p1 (by omega) (by omega) hcap
 rw [show ((1 : Nat) : Int) = 1 from rfl] at hcut0 e0
 have HT0 : Hid (∀ w', Below w.heap.size w w' → TermV w' A0 (p0 - 1) (c - 1) (rowT (n0, a0, k0))) := hid fun w' h => by
  have := hcutr0 _ _ _ (ht.below h)
  rwa [c0] at this
 have HT1 : Hid (∀ w', Below w.heap.size w w' → TermV w' A1 (p1 - p0) (c - p0) (rowT (n1, a1, k1))) := hid fun w' h => by
  have := hcutr1 _ _ _ (ht.below h)
  rwa [c1] at this
 have HE0 := hid (fun (wr : World) (h : Below w.heap.size w wr) => end_any (ht.below h) 1)
 have HE1 := hid (fun (wr : World) (h : Below w.heap.size w wr) => end_any (ht.below h) (p0 : Int))
 rw [e0] at HE0
 rw [e1] at HE1
 have HMT := hid hMT
 have HALL := hid (fun (wr : World) (As : Option Addr) (h : Below w.heap.size w wr) (hp : PcsR wr As 2 [(n0, a0, k0), (n1, a1, k1)]) => all_any (c := 2) H hI (hI _ _ hw h) hp (fun y hy => by
  rcases List.mem_cons.1 hy with rfl | hy
  · exact ⟨r0, hml.1, hJ0, by omega⟩
  rw [List.mem_singleton] at hy; subst hy; exact ⟨r1, hml.2, hJ1, by omega⟩) (hz.below h) hnul hg)
 have HHD := hid (fun (wr : World) (h : Below w.heap.size w wr) => head_any (HT1.out wr h) r1)
 obtain ⟨hr1, hr2, _, _, _⟩ := hd_right _ (n1, a1, k1) r1 (Nat.le_refl _)
 have hva := var_a hr1
 obtain ⟨F, L, hFL⟩ : ∃ F L, hd (rowT (n1, a1, k1)).length (n1, a1, k1) = (F, L) := ⟨_, _, rfl⟩
 have HDN := hid (downT_eq (zs := zs) hFL)
 rw [hFL] at HHD hva
 simp only at hva
 have HBR := hid (fun (wr : World) (An : Option Addr) (nn cn r : Nat) (y : TT) (h : Below w.heap.size w wr) (ht : TermV wr An nn cn (rowT y)) (hy : RtX y) (hmy : (rowT y).length ≤ m) (hJy : J y) (hky : k + (rowT y).length ≤ 9000) (hr : r ≤ 100) => branch_any H hI (fun zs => hG zs 2 (by omega) (by omega)) hJ2 (hI _ _ hw h) ht hy hmy hJy hky (hz.below h) hnul hg hr)
 have HOF := hid (fun (wr : World) (h : Below w.heap.size w wr) => of_any (hz.below h) F.1.a hva)
 have HENT := hid (fun (wr : World) (h : Below w.heap.size w wr) => (hE _ (hI _ _ hw h)).ent ea hen)
 have HNX := hid hnx
 have HJX := hid hJX
 have HT := hid (fun (wr : World) (h : Below w.heap.size w wr) => ht.below h)
 have HBEL0 := hid (below_alloc w (.cells #[.int .i64 vars, .slice Ao no co, .slice Ae ne ce, .int .i64 nat, .slice Ap np cp, .slice Aq nqq cq] 98))
 have HBK0 := hid (Blk.new w 98 #[.int .i64 vars, .slice Ao no co, .slice Ae ne ce, .int .i64 nat, .slice Ap np cp, .slice Aq nqq cq])
 simp only at HALL HBR HENT
 clear H hI hE hG hJK hJM hw ht hy h11 hJ hz hnul hg hJ2 hok hpl hat s0 s1 hp0 hp1 hnx e0 c0 r0 e1 c1 r1 hMT hJ0 hJ1 hJX hJA hFL hr1 hr2 hva hcutr0 hcutr1 hpos0 hpos1 hT hMM hea hbb hbt hb0 hml hq0 hq1
 go_in
 go_wp2_with fail
 refine (HE0.out _ HBEL0.out).mono ?_
 rintro e w2 ⟨rfl, hb2⟩
 have HB2 := bto HBEL0 hb2
 have HBK2 := hid (Blk.below HBK0.out hb2 (by simp))
 clear hb2 HBK0
 go_wp2_with fail
 refine (HE1.out _ HB2.out).mono ?_
 rintro e w3 ⟨rfl, hb3⟩
 have HB3 := bto HB2 hb3
 have HBK3 := bko HBK2 hb3
 have zc3 := Blk.cell HBK3.out
 have hbs3 := HB3.out.size
 have hbl3 := HBK3.out.lt
 clear hb3
 have HD3 := hid (below_drewN HB3.out 1)
 have HA3 := hid (HD3.out.trans ((below_alloc w3.drew (.cells #[.slice A0 (p0 - 1) (c - 1), .slice A1 (p1 - p0) (c - p0)] 28)).mono hbs3))
 have HC3 := hid (HALL.out _ _ HA3.out (pcs_two (W := w3.drew) (T := 28) (fun w' h => HT0.out w' (HD3.out.trans (h.mono hbs3))) (fun w' h => HT1.out w' (HD3.out.trans (h.mono hbs3)))))
 have HBK3a := hid (Blk.below (show Blk w3.drew w.heap.size 98 _ from HBK3.out) (below_alloc w3.drew (.cells #[.slice A0 (p0 - 1) (c - 1), .slice A1 (p1 - p0) (c - p0)] 28)) hbl3)
 have zc3a := Blk.cell HBK3a.out
 have hbl3a := HBK3a.out.lt
 have hbs3a := HA3.out.size
 have hall : ([(n0, a0, k0), (n1, a1, k1)] : List TT).all (rec_ zs) = (rec_ zs (n0, a0, k0) && rec_ zs (n1, a1, k1)) := by simp
 rw [hall] at HC3
 clear hall
 obtain ⟨rb, hrb⟩ : ∃ rb, rb = (rec_ zs (n0, a0, k0) && rec_ zs (n1, a1, k1)) := ⟨_, rfl⟩
 rw [← hrb] at HC3 HMT
 clear hrb
 cases rb with
 | false =>
  rw [Bool.false_and] at HMT
  go_wp2_with fail
  go_region_held3 (fun w' => w'.cell? ⟨w.heap.size, 0, none⟩ = some (.int .i64 vars) ∧ w'.cell? ⟨w.heap.size, 1, none⟩ = some (.slice Ao no co) ∧ w'.cell? ⟨w.heap.size, 2, none⟩ = some (.slice Ae ne ce) ∧ w'.cell? ⟨w.heap.size, 3, none⟩ = some (.int .i64 nat) ∧ w'.cell? ⟨w.heap.size, 4, none⟩ = some (.slice Ap np cp) ∧ w'.cell? ⟨w.heap.size, 5, none⟩ = some (.slice Aq nqq cq)) (first | exact ⟨zc3 0, zc3 1, zc3 2, zc3 3, zc3 4, zc3 5⟩ | exact ⟨zc3a 0, zc3a 1, zc3a 2, zc3a 3, zc3a 4, zc3a 5⟩ | exact ⟨zc4 0, zc4 1, zc4 2, zc4 3, zc4 4, zc4 5⟩)
   (first
    | (go_at_call 120; refine (HC3.out).mono ?_; rintro e w4 ⟨rfl, hb4⟩; have hblk4 := Blk.below HBK3a.out hb4 hbl3a; have zc4 := Blk.cell hblk4))
  have HB4 := hid (HA3.out.trans (hb4.mono hbs3a))
  clear hb4
  go_wp2_with fail
  go_ret
  rw [HMT.out]
  exact ⟨rfl, HB4.out⟩
 | true =>
  rw [Bool.true_and] at HMT
  go_wp2_with fail
  go_region_held3 (fun w' => w'.cell? ⟨w.heap.size, 0, none⟩ = some (.int .i64 vars) ∧ w'.cell? ⟨w.heap.size, 1, none⟩ = some (.slice Ao no co) ∧ w'.cell? ⟨w.heap.size, 2, none⟩ = some (.slice Ae ne ce) ∧ w'.cell? ⟨w.heap.size, 3, none⟩ = some (.int .i64 nat) ∧ w'.cell? ⟨w.heap.size, 4, none⟩ = some (.slice Ap np cp) ∧ w'.cell? ⟨w.heap.size, 5, none⟩ = some (.slice Aq nqq cq)) (first | exact ⟨zc3 0, zc3 1, zc3 2, zc3 3, zc3 4, zc3 5⟩ | exact ⟨zc3a 0, zc3a 1, zc3a 2, zc3a 3, zc3a 4, zc3a 5⟩ | exact ⟨zc4 0, zc4 1, zc4 2, zc4 3, zc4 4, zc4 5⟩)
   (first
    | (go_at_call 120; refine (HC3.out).mono ?_; rintro e w4 ⟨rfl, hb4⟩; have hblk4 := Blk.below HBK3a.out hb4 hbl3a; have zc4 := Blk.cell hblk4))
  have HB4 := hid (HA3.out.trans (hb4.mono hbs3a))
  have HBK4 := hid hblk4
  clear hb4 hblk4 zc4 zc3 zc3a HBK3a HA3 HD3 HBK3 HC3 hbs3 hbs3a hbl3 hbl3a
  go_wp2_with fail
  refine (HHD.out _ HB4.out).mono ?_
  rintro e w5 ⟨hb5, A5, n5, c5, B5, d5, vs5, rfl, htf, _, _⟩
  have HB5 := bto HB4 hb5
  have HBK5 := bko HBK4 hb5
  have hf5 := htf w5 hb5
  have hn5 : 0 < n5 := by have := hf5.len; rw [← this]; simp [rowT]
  obtain ⟨b5, o5, rfl, _, hc50, hc51, _⟩ := hf5.at_ hn5
  simp only [Nat.zero_mul, Nat.add_zero] at hc50 hc51
  rw [show nth (rowT F) 0 = F.1 from rfl] at hc50 hc51
  have HDN2 := hid HDN.out
  rw [empty_len] at HDN2
  simp only at HDN2 ⊢
  generalize (L.length : Nat) = na at *
  generalize F.1.op = op at *
  generalize F.1.a = fa at *
  generalize hDD : downT zs (n1, a1, k1) = dn at *
  generalize ofI zs fa = mk at *
  clear htf hf5 hb5 HDN hDD
  by_cases h1 : op = 1
  · have h1b : (op == 1) = true := by simp [h1]
    rw [if_pos h1] at HDN2
    clear h1
    by_cases hm2 : mk = 2
    case' pos =>
     have hmb2 : (mk == 2) = true := by simp [hm2]
     have HDNV : Hid (dn = true) := hid (by rw [HDN2.out, hmb2]; rfl)
    case' neg =>
     have hmb2 : (mk == 2) = false := by simpa using hm2
     by_cases hm1 : mk = 1
     case' neg =>
      have hmb1 : (mk == 1) = false := by simpa using hm1
      have HDNV : Hid (dn = false) := hid (by rw [HDN2.out, hmb2, hmb1]; rfl)
     case' pos =>
      have hmb1 : (mk == 1) = true := by simp [hm1]
      by_cases hna : na = 0
      case' pos =>
       have hnab : ((na : Int) == 0) = true := by simp [hna]
       have HDNV : Hid (dn = true) := hid (by rw [HDN2.out, hmb2, hmb1, hnab]; rfl)
      case' neg =>
       have hnab : ((na : Int) == 0) = false := by simpa using hna
       have HDNV : Hid (dn = false) := hid (by rw [HDN2.out, hmb2, hmb1, hnab]; rfl)
    all_goals
     (try clear hm2)
     (try clear hm1)
     (try clear hna)
     clear HDN2
     go_wp2_with fail
     refine (HOF.out _ HB5.out).mono ?_
     rintro e w6 ⟨rfl, hb6⟩
     have HB6 := bto HB5 hb6
     have HBK6 := bko HBK5 hb6
     clear hb6
     obtain ⟨b7, o7, Ac, nc, cc, rfl, hb7, hcE0, hncf, hctor, hctor0⟩ := HENT.out w (Below.refl _ _)
     have HCT := hid hctor
     have HCT0 := hid hctor0
     have zc6 := Blk.cell HBK6.out
     have hcE : w6.cell? ⟨b7, o7 + ea * 7 + 4, none⟩ = some (.slice Ac nc cc) := (HB6.out.cell (p := ⟨b7, o7 + ea * 7 + 4, none⟩) hb7).trans hcE0
     have hcX1 : w6.cell? ⟨b, off + 1, none⟩ = some (.int .i64 (ea : Int)) := (HB6.out.cell (p := ⟨b, off + 1, none⟩) hb).trans hc1
     have hcX2 : w6.cell? ⟨b, off + 2, none⟩ = some (.int .i64 (bb : Int)) := (HB6.out.cell (p := ⟨b, off + 2, none⟩) hb).trans hc2
     clear hctor hctor0 hcE0
     go_wp2_with fail
     go_quiet (fail)
     have HBD := hid (below_drewN HB6.out nq)
     have HBKD : Hid (Blk (w6.drewN nq) w.heap.size 98 #[.int .i64 vars, .slice Ao no co, .slice (some ⟨b7, o7, none⟩) ne ce, .int .i64 nat, .slice Ap np cp, .slice Aq nqq cq]) := HBK6
     have hcY2 : (w6.drewN nq).cell? ⟨b, off + 2, none⟩ = some (.int .i64 (bb : Int)) := hcX2
     clear zc6 hcE
     go_wp2_with fail
     go_loopw [8, 78] (fun av kv wr => ∃ (q p : Nat) (dF : Fo), av = .int .i64 (p : Int) ∧ kv = .int .i64 (q : Int) ∧ q ≤ bb ∧ 1 ≤ p ∧ Hid (At tt p (List.replicate (bb - q) false) dF) ∧ Hid (branchesT rec_ (fun k => if dn then ca (ea : Int) k else 0) zs q (kidL dF) = mt) ∧ Hid (∀ y ∈ kidL dF, J y) ∧ Hid (Blk wr w.heap.size 98 #[.int .i64 vars, .slice Ao no co, .slice (some ⟨b7, o7, none⟩) ne ce, .int .i64 nat, .slice Ap np cp, .slice Aq nqq cq]) ∧ Hid (Below w.heap.size w wr)) (fun _ q _ => bb - (intOf q).toNat)
     case atStart => exact ⟨0, p1, nx1, rfl, rfl, by omega, hp11, HNX, hid HMT.out.symm, HJX, HBKD, HBD⟩
     case round =>
      obtain ⟨q, p, dF, rfl, rfl, hqb, hp1, hAt, hbr, hjx, hblk, hbw⟩ := hrel
      have hbs := hbw.out.size
      have hbl := hblk.out.lt
      by_cases hlt : q < bb
      rotate_left
      · have hqe : q = bb := by omega
        have HRES : Hid (mt = true) := hid (by
         have h1 := hAt.out
         rw [show bb - q = 0 from by omega, List.replicate_zero] at h1
         have h2 := h1.done
         subst h2
         exact hbr.out.symm)
        have hqlt : decide ((q : Int) < (bb : Int)) = false := decide_eq_false (by omega)
        go_wp2_with fail
        go_ret
        rw [HRES.out]
        exact ⟨rfl, hbw.out⟩
      have hat2 := hAt.out
      rw [show bb - q = (bb - (q + 1)) + 1 from by omega, List.replicate_succ] at hat2
      obtain ⟨pre, ny, ay, ky, nx, rfl, s⟩ := hat2.step
      have hpl : pre.length = 0 := s.plen
      have hnx2 := s.next
      obtain ⟨ee, ce2, re, le2⟩ := (⟨s.end_, s.cut, s.rt, s.le⟩ : _ ∧ _ ∧ _ ∧ _)
      simp only [hpl, Nat.add_zero] at ee ce2 le2 hnx2
      obtain ⟨e, he⟩ : ∃ e, e = p + (rowT (ny, ay, ky)).length := ⟨_, rfl⟩
      rw [← he] at ee ce2 le2 hnx2
      rw [hlen] at le2
      have hpe : p ≤ e := by omega
      obtain ⟨Ay, hcuty, hcutry⟩ := cut_mid (some ⟨b, off, none⟩) n c p e hpe le2 hcap
      have HTY : Hid (∀ w', Below w.heap.size w w' → TermV w' Ay (e - p) (c - p) (rowT (ny, ay, ky))) := hid fun w' h => by
       have := hcutry _ _ _ (HT.out w' h)
       rwa [ce2] at this
      have HEN := hid (end_any (HT.out _ hbw.out) (p : Int))
      rw [ee] at HEN
      obtain ⟨r, hr⟩ : ∃ r : Nat, (if dn then ca (ea : Int) q else 0) = r := ⟨_, rfl⟩
      have hr100 : r ≤ 100 := by
       rw [← hr]
       split
       · by_cases hqc : q < nc
         · obtain ⟨_, _, _, _, _, _, _, h⟩ := HCT.out q hqc; exact h
         rw [HCT0.out q (by omega)]; omega
       omega
      have hbr2 := hbr.out
      rw [show kidL (.cons pre ny ay ky nx) = (ny, ay, ky) :: kidL nx from rfl, branchesT_cons (cf := fun k => if dn = true then ca (ea : Int) k else 0) hr] at hbr2
      have HC := hid (fun (wr2 : World) (h2 : Below w.heap.size w wr2) => HBR.out wr2 Ay (e - p) (c - p) r (ny, ay, ky) h2 (HTY.out _ h2) re (by omega) (hjx.out _ (by simp [kidL])) (by omega) hr100)
      have HJ2 : Hid (∀ y ∈ kidL nx, J y) := hid fun y hy => hjx.out y (by simp [kidL, hy])
      have HNX2 := hid hnx2
      have HBR2 := hid hbr2
      obtain ⟨rb, hrb⟩ : ∃ rb, rb = branchT rec_ r zs (ny, ay, ky) := ⟨_, rfl⟩
      rw [← hrb] at HC HBR2
      have hqlt : decide ((q : Int) < (bb : Int)) = true := decide_eq_true (by omega)
      clear hat2 s hpl ee ce2 re he hnx2 hcutry hbr2 hr100 hrb
      by_cases hqc : q < nc
      case' pos =>
       have hqb2 : decide ((q : Int) < (nc : Int)) = true := decide_eq_true (by omega)
       obtain ⟨b9, o9, A9, c9, rfl, hb9, hc9, _⟩ := HCT.out q hqc
       first
        | rw [show r = ca (ea : Int) q from by rw [← hr, HDNV.out]; rfl] at HC
        | rw [show r = 0 from by rw [← hr, HDNV.out]; rfl, show ((0 : Nat) : Int) = 0 from rfl] at HC
      case' neg =>
       have hqb2 : decide ((q : Int) < (nc : Int)) = false := decide_eq_false (by omega)
       rw [show r = 0 from by rw [← hr, HDNV.out]; first | rfl | exact HCT0.out q (by omega), show ((0 : Nat) : Int) = 0 from rfl] at HC
      all_goals
       clear hr
       go_wp2_with fail
       refine (HEN.out).mono ?_
       rintro e1 w8 ⟨rfl, hb8⟩
       have HB8 := hid (hbw.out.trans (hb8.mono hbs))
       have HBK8 := hid (Blk.below hblk.out hb8 hbl)
       have zc8 := Blk.cell HBK8.out
       have hbs8 := HB8.out.size
       have hbl8 := HBK8.out.lt
       (try have hc98 := (HB8.out.cell (p := ⟨b9, o9 + q * 2, none⟩) hb9).trans hc9)
       have HC8 := hid (HC.out w8.drew (below_drewN HB8.out 1))
       clear hb8
       cases rb with
       | false =>
        have HRES : Hid (mt = false) := hid (by rw [← HBR2.out, Bool.false_and])
        go_wp2_with fail
        go_region_held3 (fun w' => w'.cell? ⟨w.heap.size, 0, none⟩ = some (.int .i64 vars) ∧ w'.cell? ⟨w.heap.size, 1, none⟩ = some (.slice Ao no co) ∧ w'.cell? ⟨w.heap.size, 2, none⟩ = some (.slice (some ⟨b7, o7, none⟩) ne ce) ∧ w'.cell? ⟨w.heap.size, 3, none⟩ = some (.int .i64 nat) ∧ w'.cell? ⟨w.heap.size, 4, none⟩ = some (.slice Ap np cp) ∧ w'.cell? ⟨w.heap.size, 5, none⟩ = some (.slice Aq nqq cq)) (first | exact ⟨zc8 0, zc8 1, zc8 2, zc8 3, zc8 4, zc8 5⟩ | exact ⟨zc9 0, zc9 1, zc9 2, zc9 3, zc9 4, zc9 5⟩)
         (first
          | (go_at_call 135; refine (HC8.out).mono ?_; rintro e w9 ⟨rfl, hb9'⟩; have hblk9 := Blk.below (show Blk w8.drew w.heap.size 98 _ from HBK8.out) hb9' hbl8; have zc9 := Blk.cell hblk9))
        have HB9 := hid ((below_drewN HB8.out 1).trans (hb9'.mono hbs8))
        clear hb9'
        go_wp2_with fail
        go_ret
        rw [HRES.out]
        exact ⟨rfl, HB9.out⟩
       | true =>
        rw [Bool.true_and] at HBR2
        go_wp2_with fail
        go_region_held3 (fun w' => w'.cell? ⟨w.heap.size, 0, none⟩ = some (.int .i64 vars) ∧ w'.cell? ⟨w.heap.size, 1, none⟩ = some (.slice Ao no co) ∧ w'.cell? ⟨w.heap.size, 2, none⟩ = some (.slice (some ⟨b7, o7, none⟩) ne ce) ∧ w'.cell? ⟨w.heap.size, 3, none⟩ = some (.int .i64 nat) ∧ w'.cell? ⟨w.heap.size, 4, none⟩ = some (.slice Ap np cp) ∧ w'.cell? ⟨w.heap.size, 5, none⟩ = some (.slice Aq nqq cq)) (first | exact ⟨zc8 0, zc8 1, zc8 2, zc8 3, zc8 4, zc8 5⟩ | exact ⟨zc9 0, zc9 1, zc9 2, zc9 3, zc9 4, zc9 5⟩)
         (first
          | (go_at_call 135; refine (HC8.out).mono ?_; rintro e w9 ⟨rfl, hb9'⟩; have hblk9 := Blk.below (show Blk w8.drew w.heap.size 98 _ from HBK8.out) hb9' hbl8; have zc9 := Blk.cell hblk9))
        have HB9 := hid ((below_drewN HB8.out 1).trans (hb9'.mono hbs8))
        have HBK9 := hid hblk9
        clear hb9' hblk9 zc9 zc8
        go_wp2_with fail
        go_roundw
        case rel => exact ⟨q + 1, e, nx, rfl, by go_num, by omega, by omega, HNX2, HBR2, HJ2, HBK9, HB9⟩
        case measure => simp [intOf]; omega
  · have h1b : (op == 1) = false := by simpa using h1
    rw [if_neg h1] at HDN2
    have HDNV : Hid (dn = false) := hid (by rw [HDN2.out]; rfl)
    clear h1 HDN2
    obtain ⟨b7, o7, Ac, nc, cc, rfl, hb7, hcE0, hncf, hctor, hctor0⟩ := HENT.out w (Below.refl _ _)
    have HCT := hid hctor
    have HCT0 := hid hctor0
    have zc5 := Blk.cell HBK5.out
    have hcE : w5.cell? ⟨b7, o7 + ea * 7 + 4, none⟩ = some (.slice Ac nc cc) := (HB5.out.cell (p := ⟨b7, o7 + ea * 7 + 4, none⟩) hb7).trans hcE0
    have hcX1 : w5.cell? ⟨b, off + 1, none⟩ = some (.int .i64 (ea : Int)) := (HB5.out.cell (p := ⟨b, off + 1, none⟩) hb).trans hc1
    have hcX2 : w5.cell? ⟨b, off + 2, none⟩ = some (.int .i64 (bb : Int)) := (HB5.out.cell (p := ⟨b, off + 2, none⟩) hb).trans hc2
    clear hctor hctor0 hcE0
    go_wp2_with fail
    go_quiet (fail)
    have HBD := hid (below_drewN HB5.out nq)
    have HBKD : Hid (Blk (w5.drewN nq) w.heap.size 98 #[.int .i64 vars, .slice Ao no co, .slice (some ⟨b7, o7, none⟩) ne ce, .int .i64 nat, .slice Ap np cp, .slice Aq nqq cq]) := HBK5
    have hcY2 : (w5.drewN nq).cell? ⟨b, off + 2, none⟩ = some (.int .i64 (bb : Int)) := hcX2
    clear zc5 hcE
    go_wp2_with fail
    go_loopw [8, 78] (fun av kv wr => ∃ (q p : Nat) (dF : Fo), av = .int .i64 (p : Int) ∧ kv = .int .i64 (q : Int) ∧ q ≤ bb ∧ 1 ≤ p ∧ Hid (At tt p (List.replicate (bb - q) false) dF) ∧ Hid (branchesT rec_ (fun k => if dn then ca (ea : Int) k else 0) zs q (kidL dF) = mt) ∧ Hid (∀ y ∈ kidL dF, J y) ∧ Hid (Blk wr w.heap.size 98 #[.int .i64 vars, .slice Ao no co, .slice (some ⟨b7, o7, none⟩) ne ce, .int .i64 nat, .slice Ap np cp, .slice Aq nqq cq]) ∧ Hid (Below w.heap.size w wr)) (fun _ q _ => bb - (intOf q).toNat)
    case atStart => exact ⟨0, p1, nx1, rfl, rfl, by omega, hp11, HNX, hid HMT.out.symm, HJX, HBKD, HBD⟩
    case round =>
     obtain ⟨q, p, dF, rfl, rfl, hqb, hp1, hAt, hbr, hjx, hblk, hbw⟩ := hrel
     have hbs := hbw.out.size
     have hbl := hblk.out.lt
     by_cases hlt : q < bb
     rotate_left
     · have hqe : q = bb := by omega
       have HRES : Hid (mt = true) := hid (by
        have h1 := hAt.out
        rw [show bb - q = 0 from by omega, List.replicate_zero] at h1
        have h2 := h1.done
        subst h2
        exact hbr.out.symm)
       have hqlt : decide ((q : Int) < (bb : Int)) = false := decide_eq_false (by omega)
       go_wp2_with fail
       go_ret
       rw [HRES.out]
       exact ⟨rfl, hbw.out⟩
     have hat2 := hAt.out
     rw [show bb - q = (bb - (q + 1)) + 1 from by omega, List.replicate_succ] at hat2
     obtain ⟨pre, ny, ay, ky, nx, rfl, s⟩ := hat2.step
     have hpl : pre.length = 0 := s.plen
     have hnx2 := s.next
     obtain ⟨ee, ce2, re, le2⟩ := (⟨s.end_, s.cut, s.rt, s.le⟩ : _ ∧ _ ∧ _ ∧ _)
     simp only [hpl, Nat.add_zero] at ee ce2 le2 hnx2
     obtain ⟨e, he⟩ : ∃ e, e = p + (rowT (ny, ay, ky)).length := ⟨_, rfl⟩
     rw [← he] at ee ce2 le2 hnx2
     rw [hlen] at le2
     have hpe : p ≤ e := by omega
     obtain ⟨Ay, hcuty, hcutry⟩ := cut_mid (some ⟨b, off, none⟩) n c p e hpe le2 hcap
     have HTY : Hid (∀ w', Below w.heap.size w w' → TermV w' Ay (e - p) (c - p) (rowT (ny, ay, ky))) := hid fun w' h => by
      have := hcutry _ _ _ (HT.out w' h)
      rwa [ce2] at this
     have HEN := hid (end_any (HT.out _ hbw.out) (p : Int))
     rw [ee] at HEN
     obtain ⟨r, hr⟩ : ∃ r : Nat, (if dn then ca (ea : Int) q else 0) = r := ⟨_, rfl⟩
     have hr100 : r ≤ 100 := by
      rw [← hr]
      split
      · by_cases hqc : q < nc
        · obtain ⟨_, _, _, _, _, _, _, h⟩ := HCT.out q hqc; exact h
        rw [HCT0.out q (by omega)]; omega
      omega
     have hbr2 := hbr.out
     rw [show kidL (.cons pre ny ay ky nx) = (ny, ay, ky) :: kidL nx from rfl, branchesT_cons (cf := fun k => if dn = true then ca (ea : Int) k else 0) hr] at hbr2
     have HC := hid (fun (wr2 : World) (h2 : Below w.heap.size w wr2) => HBR.out wr2 Ay (e - p) (c - p) r (ny, ay, ky) h2 (HTY.out _ h2) re (by omega) (hjx.out _ (by simp [kidL])) (by omega) hr100)
     have HJ2 : Hid (∀ y ∈ kidL nx, J y) := hid fun y hy => hjx.out y (by simp [kidL, hy])
     have HNX2 := hid hnx2
     have HBR2 := hid hbr2
     obtain ⟨rb, hrb⟩ : ∃ rb, rb = branchT rec_ r zs (ny, ay, ky) := ⟨_, rfl⟩
     rw [← hrb] at HC HBR2
     have hqlt : decide ((q : Int) < (bb : Int)) = true := decide_eq_true (by omega)
     clear hat2 s hpl ee ce2 re he hnx2 hcutry hbr2 hr100 hrb
     by_cases hqc : q < nc
     case' pos =>
      have hqb2 : decide ((q : Int) < (nc : Int)) = true := decide_eq_true (by omega)
      obtain ⟨b9, o9, A9, c9, rfl, hb9, hc9, _⟩ := HCT.out q hqc
      first
       | rw [show r = ca (ea : Int) q from by rw [← hr, HDNV.out]; rfl] at HC
       | rw [show r = 0 from by rw [← hr, HDNV.out]; rfl, show ((0 : Nat) : Int) = 0 from rfl] at HC
     case' neg =>
      have hqb2 : decide ((q : Int) < (nc : Int)) = false := decide_eq_false (by omega)
      rw [show r = 0 from by rw [← hr, HDNV.out]; first | rfl | exact HCT0.out q (by omega), show ((0 : Nat) : Int) = 0 from rfl] at HC
     all_goals
      clear hr
      go_wp2_with fail
      refine (HEN.out).mono ?_
      rintro e1 w8 ⟨rfl, hb8⟩
      have HB8 := hid (hbw.out.trans (hb8.mono hbs))
      have HBK8 := hid (Blk.below hblk.out hb8 hbl)
      have zc8 := Blk.cell HBK8.out
      have hbs8 := HB8.out.size
      have hbl8 := HBK8.out.lt
      (try have hc98 := (HB8.out.cell (p := ⟨b9, o9 + q * 2, none⟩) hb9).trans hc9)
      have HC8 := hid (HC.out w8.drew (below_drewN HB8.out 1))
      clear hb8
      cases rb with
      | false =>
       have HRES : Hid (mt = false) := hid (by rw [← HBR2.out, Bool.false_and])
       go_wp2_with fail
       go_region_held3 (fun w' => w'.cell? ⟨w.heap.size, 0, none⟩ = some (.int .i64 vars) ∧ w'.cell? ⟨w.heap.size, 1, none⟩ = some (.slice Ao no co) ∧ w'.cell? ⟨w.heap.size, 2, none⟩ = some (.slice (some ⟨b7, o7, none⟩) ne ce) ∧ w'.cell? ⟨w.heap.size, 3, none⟩ = some (.int .i64 nat) ∧ w'.cell? ⟨w.heap.size, 4, none⟩ = some (.slice Ap np cp) ∧ w'.cell? ⟨w.heap.size, 5, none⟩ = some (.slice Aq nqq cq)) (first | exact ⟨zc8 0, zc8 1, zc8 2, zc8 3, zc8 4, zc8 5⟩ | exact ⟨zc9 0, zc9 1, zc9 2, zc9 3, zc9 4, zc9 5⟩)
        (first
         | (go_at_call 135; refine (HC8.out).mono ?_; rintro e w9 ⟨rfl, hb9'⟩; have hblk9 := Blk.below (show Blk w8.drew w.heap.size 98 _ from HBK8.out) hb9' hbl8; have zc9 := Blk.cell hblk9))
       have HB9 := hid ((below_drewN HB8.out 1).trans (hb9'.mono hbs8))
       clear hb9'
       go_wp2_with fail
       go_ret
       rw [HRES.out]
       exact ⟨rfl, HB9.out⟩
      | true =>
       rw [Bool.true_and] at HBR2
       go_wp2_with fail
       go_region_held3 (fun w' => w'.cell? ⟨w.heap.size, 0, none⟩ = some (.int .i64 vars) ∧ w'.cell? ⟨w.heap.size, 1, none⟩ = some (.slice Ao no co) ∧ w'.cell? ⟨w.heap.size, 2, none⟩ = some (.slice (some ⟨b7, o7, none⟩) ne ce) ∧ w'.cell? ⟨w.heap.size, 3, none⟩ = some (.int .i64 nat) ∧ w'.cell? ⟨w.heap.size, 4, none⟩ = some (.slice Ap np cp) ∧ w'.cell? ⟨w.heap.size, 5, none⟩ = some (.slice Aq nqq cq)) (first | exact ⟨zc8 0, zc8 1, zc8 2, zc8 3, zc8 4, zc8 5⟩ | exact ⟨zc9 0, zc9 1, zc9 2, zc9 3, zc9 4, zc9 5⟩)
        (first
         | (go_at_call 135; refine (HC8.out).mono ?_; rintro e w9 ⟨rfl, hb9'⟩; have hblk9 := Blk.below (show Blk w8.drew w.heap.size 98 _ from HBK8.out) hb9' hbl8; have zc9 := Blk.cell hblk9))
       have HB9 := hid ((below_drewN HB8.out 1).trans (hb9'.mono hbs8))
       have HBK9 := hid hblk9
       clear hb9' hblk9 zc9 zc8
       go_wp2_with fail
       go_roundw
       case rel => exact ⟨q + 1, e, nx, rfl, by go_num, by omega, by omega, HNX2, HBR2, HJ2, HBK9, HB9⟩
       case measure => simp [intOf]; omega
end Go.Proofs.Ytjllmblbbgojbaa
