/- What the laws of books ask first: numbers, heavy, awake; programs that read alike are the same. -/
import Derived.Test.YtplecfbdchmogaaEDec
import Derived.Test.YtplecfbdchmogaaETyq
import Derived.Test.YtplecfbdchmogaaESized
namespace Go.Proofs.Ytplecfbdchmogaa
open Go.Lib (hid)
set_option maxHeartbeats 8000000
set_option maxRecDepth 100000
set_option linter.unusedSimpArgs false
open Go.RowKit
abbrev numV5 (g : Nat) : BkVal := ⟨none, 0, 0, some ⟨g, 0, none⟩, 1, 1, none, 0, 0⟩
def Nums5 (w : World) (e : Ending) (w' : World) : Prop := Below w.heap.size w w' ∧ ∃ g : Nat, e = .returned (.agg #[.int .i64 0, .slice none 0 0, .slice (some ⟨g, 0, none⟩) 1 1, .int .i64 0, .slice none 0 0]) ∧ BookV w' (numV5 g) numsB
theorem nums5_any {w : World} : Calls Try.prog 18 #[] w (Nums5 w) := by
 go_in
 go_wp2_with fail
 refine bodyPost_ret (v := .agg #[.int .i64 0, .slice none 0 0, .slice (some ⟨w.heap.size + 1 + 1 + 1 + 1 + 1, 0, none⟩) 1 1, .int .i64 0, .slice none 0 0]) (by simp [results, Try.results18, go_sem]) rfl ⟨?_, _, rfl, ?_⟩
 · exact (((((below_alloc w _).alloc (by simp) _).alloc (by simp; omega) _).alloc (by simp; omega) _).alloc (by simp; omega) _).alloc (by simp; omega) _
 exact nums_book (g1 := w.heap.size + 1) (g2 := w.heap.size + 1 + 1) (g3 := w.heap.size + 1 + 1 + 1) (g4 := w.heap.size + 1 + 1 + 1 + 1)
  (((((blk_new (by simp)).alloc _).alloc _).alloc _).alloc _) ((((blk_new (by simp)).alloc _).alloc _).alloc _) (((blk_new (by simp)).alloc _).alloc _) ((blk_new (by simp)).alloc _) (blk_new (by simp))
theorem heavy5_any {w : World} {v : BkVal} {b : Bk} (hb : BookV w v b) :
 Calls Try.prog 7 #[.agg #[.int .i64 b.vars, .slice v.Ao v.no v.co, .slice v.Ae v.ne v.ce, .int .i64 b.nat, .slice v.Ap v.np v.cp]] w (BoolP (decide (12000 ≤ sizeB 12000 b)) w) := by
 have hb1 := below_alloc w (.cells #[.int .i64 b.vars, .slice v.Ao v.no v.co, .slice v.Ae v.ne v.ce, .int .i64 b.nat, .slice v.Ap v.np v.cp] 26)
 have HB1 := hid hb1
 have HC := hid (size_any (hb.below hb1) 12000 (by decide))
 obtain ⟨z, hz⟩ : ∃ z, z = sizeB 12000 b := ⟨_, rfl⟩
 rw [← hz] at HC ⊢
 clear hb hb1 hz
 go_in
 go_wp2_with fail
 refine (HC.out).mono ?_
 rintro e w1 ⟨rfl, hb2⟩
 have HB2 := bto HB1 hb2
 clear hb2
 go_wp2_with fail
 go_ret
 exact ⟨rfl, HB2.out⟩
def pg0 : Pg := ⟨numsB, [⟨10, 0, 0⟩], [⟨9, 0, 0⟩]⟩
theorem ak1 : bctT numsB 0 1 = ([⟨4, 0, 0⟩, ⟨9, 0, 0⟩, ⟨9, 0, 0⟩], 0) := by kernel_rfl
theorem ak2 : progE pg0 = 0 := by kernel_rfl
theorem ak3 : (pgBs pg0).length = 32 := by kernel_rfl
theorem ak4 : encodeQ pg0 = (pgBs pg0, 0) := by
 unfold encodeQ
 rw [if_neg (by rw [ak2]; decide), if_neg (by rw [ak3]; decide)]
theorem ak5 : decodeQ (pgBs pg0) = (pg0, 0) := (decode_back (progW_of ak2) (by rw [ak4])).2
theorem ak6 : rightE ⟨0, [], [], 1, []⟩ = 22 := by kernel_rfl
theorem bookV1 (w : World) : BookV w ⟨none, 0, 0, none, 0, 0, none, 0, 0⟩ ⟨0, [], [], 1, []⟩ := ⟨TermV.nil w, ⟨rfl, by decide, fun h => absurd h (by decide)⟩, ⟨rfl, by decide, fun h => absurd h (by decide)⟩, by decide, by decide, (fun x h => by cases h), (fun x h => by cases h)⟩
set_option linter.unusedVariables false in
theorem awake5_any {w : World} : Calls Try.prog 6 #[] w (BoolP true w) := by
 go_in
 go_wp2_with fail
 refine nums5_any.mono ?_
 rintro e w1 ⟨hb1, g1, rfl, hbk1⟩
 have HB1 := hid hb1
 have hc1 := bctor_any hbk1 0 1 (by decide) (by decide)
 rw [ak1] at hc1
 have HC1 := hid hc1
 clear hb1 hbk1 hc1
 go_wp2_with fail
 refine (HC1.out).mono ?_
 rintro e w2 ⟨hb2, A2, n2, c2, rfl, ht2⟩
 have HB2 := bto HB1 hb2
 have HT2 := hid (ht2.keep (R' := (· < w2.heap.size)) fun q hq => ⟨hq.2, fun _ => rfl⟩)
 clear hb2 ht2
 go_wp2_with fail
 refine nums5_any.mono ?_
 rintro e w3 ⟨hb3, g3, rfl, hbk3⟩
 have HB3 := bto HB2 hb3
 have HT3 := hid (TermV.below HT2.out hb3)
 have hbb := below_alloc2 w3 (.cells #[.int .i64 10, .int .i64 0, .int .i64 0] 59) (.cells #[.int .i64 9, .int .i64 0, .int .i64 0] 59)
 have hpv : ProgV ((w3.alloc (.cells #[.int .i64 10, .int .i64 0, .int .i64 0] 59)).alloc (.cells #[.int .i64 9, .int .i64 0, .int .i64 0] 59)) ⟨numV5 g3, some ⟨w3.heap.size, 0, none⟩, 1, 1, some ⟨w3.heap.size + 1, 0, none⟩, 1, 1⟩ pg0 :=
  ⟨hbk3.below hbb, lit_term (l := [⟨10, 0, 0⟩]) ((Blk.new _ _ _).alloc _) rfl (Nat.le_refl 1) (by simp), lit_term (l := [⟨9, 0, 0⟩]) (Blk.new' (by simp)) rfl (Nat.le_refl 1) (by simp)⟩
 have hen := encode_any hpv
 rw [ak4] at hen
 have HEN := hid hen
 have HB4 := bto HB3 hbb
 have HT4 := hid (TermV.below HT3.out hbb)
 have hp8 : ∀ x ∈ pgBs pg0, x < 256 := fun x hx => reads_prog.bytes pg0 x hx
 have HP8 := hid hp8
 obtain ⟨L, hL⟩ : ∃ L, L = pgBs pg0 := ⟨_, rfl⟩
 have HL32 : Hid (L.length = 32) := hid (by rw [hL, ak3])
 have HD := hid (show decodeQ L = (pg0, 0) from by rw [hL]; exact ak5)
 rw [← hL] at HEN HP8
 clear hb3 hbk3 hbb hpv hen hp8 hL
 go_wp2_with fail
 refine (HEN.out).mono ?_
 rintro e w5 ⟨hb5, A5, c5, rfl, ho5⟩
 have HB5 := bto HB4 hb5
 have HT5 := hid (TermV.below HT4.out hb5)
 have hy : BytV w5 A5 L.length c5 L := (ho5.byt HP8.out (by rw [HL32.out]; decide)).keep fun b hb => ⟨hb.2, fun _ => rfl⟩
 have hde := decode_any hy
 rw [HD.out] at hde
 have HDE := hid hde
 clear hb5 ho5 hy hde
 go_wp2_with fail
 refine (HDE.out).mono ?_
 rintro e w6 ⟨hb6, u, he6, hq6⟩
 replace he6 : e = .returned (.tuple #[.agg #[.int .i64 0, .slice u.bk.Ao u.bk.no u.bk.co, .slice u.bk.Ae u.bk.ne u.bk.ce, .int .i64 0, .slice u.bk.Ap u.bk.np u.bk.cp, .slice u.Am u.nm u.cm, .slice u.At u.nt u.ct], .int .i64 0]) := he6
 subst he6
 have HB6 := bto HB5 hb6
 have hnm : u.nm = 1 := by have := hq6.main.len; exact this.symm
 have HT6 := hid (TermV.below HT5.out hb6)
 obtain ⟨⟨Ao, no, co, Ae, ne, ce, Ap, np, cp⟩, Am, nm, cm, At, nt, ct⟩ := u
 simp only at hnm
 subst hnm
 have d10 : decide ((L.length : Int) > 10) = true := decide_eq_true (by have := HL32.out; omega)
 have d11 : decide (10 < (L.length : Int)) = true := decide_eq_true (by have := HL32.out; omega)
 have d12 : decide (10 < L.length) = true := decide_eq_true (by have := HL32.out; omega)
 clear hb6 hq6
 have hb7 := below_alloc2 w6 (.cells #[.int .i64 0, .slice Ao no co, .slice Ae ne ce, .int .i64 0, .slice Ap np cp, .slice Am 1 cm, .slice At nt ct] 30) (.cells #[.int .i64 4, .int .i64 0, .int .i64 0, .int .i64 9, .int .i64 0, .int .i64 0, .int .i64 9, .int .i64 0, .int .i64 0] 59)
 have HB7 := bto HB6 hb7
 have HSM := hid (same_any _ (TermV.below HT6.out hb7) (lit_term (l := [⟨4, 0, 0⟩, ⟨9, 0, 0⟩, ⟨9, 0, 0⟩]) (g := w6.heap.size + 1) (Blk.new' (by simp)) rfl (Nat.le_refl 3) (by decide)))
 have HRT := hid (fun W : World => right_any (bookV1 W))
 rw [ak6] at HRT
 clear hb7
 go_wp2_with fail
 refine (HSM.out).mono ?_
 rintro e w8 ⟨rfl, m, rfl⟩
 have HB8 := hid (below_drewN HB7.out m)
 try simp only [decide_true]
 go_wp2_with fail
 refine (HRT.out _).mono ?_
 rintro e w9 ⟨rfl, hb9⟩
 have HB9 := bto HB8 hb9
 clear hb9
 go_wp2_with fail
 go_ret
 exact ⟨rfl, HB9.out⟩
end Go.Proofs.Ytplecfbdchmogaa
