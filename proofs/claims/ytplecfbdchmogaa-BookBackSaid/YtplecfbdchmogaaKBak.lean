/- BookBack walked. -/
import Derived.Test.YtplecfbdchmogaaKOne
namespace Go.Proofs.Ytplecfbdchmogaa
open Go.Lib (hid)
open Go.RowKit
theorem BytR.front {R : Nat → Prop} {w : World} {A : Option Addr} {n c : Nat} {bs : List Nat} (h : BytR R w A n c bs) {k : Nat} (hk : k ≤ n) : BytR R w A k c (bs.take k) := by
 refine ⟨by rw [List.length_take, h.len]; omega, by have := h.cap; omega, by have := h.few; omega, h.nul, fun x hx => h.byte x (List.mem_of_mem_take hx), fun hn => ?_⟩
 obtain ⟨b, off, e, hb, hc⟩ := h.mem (by omega)
 refine ⟨b, off, e, hb, fun j hj => ?_⟩
 have := hc j (by omega)
 rw [this]
 simp [List.getD_eq_getElem?_getD, hj]
theorem encode_ok {p : Pg} (h : (encodeQ p).2 = 0) : progE p = 0 ∧ (pgBs p).length ≤ 65536 ∧ encodeQ p = (pgBs p, 0) := by
 unfold encodeQ at h ⊢
 by_cases h1 : progE p ≠ 0
 · rw [if_pos h1] at h; exact absurd h h1
 rw [if_neg h1] at h ⊢
 by_cases h2 : 65536 < (pgBs p).length
 · rw [if_pos h2] at h; cases h
 rw [if_neg h2]
 exact ⟨Decidable.not_not.1 h1, by omega, rfl⟩
theorem pgBs_pos (p : Pg) : 0 < (pgBs p).length := by
 have := (formL_len p.book.vars.toNat).1
 simp only [pgBs, progBs, bookBs, List.length_append]
 omega
set_option linter.unusedSimpArgs false in
set_option linter.unusedVariables false in
set_option maxRecDepth 100000 in
set_option maxHeartbeats 16000000 in
theorem back_law {w : World} {u : PgVal} {p : Pg} (hp : ProgV w u p) (ct : Int) (h0 : 0 ≤ ct) (h1 : ct ≤ 65535) :
 Calls Try.prog 3 #[.agg (pgCells u p), .int .u16 ct] w (BoolP true w) := by
 obtain ⟨i0, hi, hy0, hy1, hy2⟩ := info_parts infoU8
 have HI0 := hid hi
 have HY0 := hid hy0
 have HY1 := hid hy1
 have HY2 := hid hy2
 have hb1 := below_alloc w (.cells (pgCells u p) 30)
 have HB1 := hid hb1
 have HK1 := hid (Blk.new w 30 (pgCells u p))
 have HP := hid hp
 have hml := hp.main.len
 have htl := hp.type.len
 have HML := hid hml
 have HTL := hid htl
 unfold pgCells at HB1 HK1 ⊢
 clear hi hy0 hy1 hy2 hb1 hp hml htl
 go_in
 go_wp2_with fail
 refine awake5_any.mono ?_
 rintro e w1 ⟨rfl, hb1⟩
 have HB2 := bto HB1 hb1
 have HK2 := hid (HK1.out.below hb1 HK1.out.lt)
 have HHV := hid (heavy5_any (HP.out.below HB2.out).book)
 have z1 := HK2.out.cell
 clear hb1
 obtain ⟨hv, hhv⟩ : ∃ b, b = decide (12000 ≤ sizeB 12000 p.book) := ⟨_, rfl⟩
 rw [← hhv] at HHV
 clear hhv
 go_wp2_with fail
 refine (HHV.out).mono ?_
 rintro e w2 ⟨rfl, hb2⟩
 have HB3 := bto HB2 hb2
 have HK3 := hid (HK2.out.below hb2 HK2.out.lt)
 clear z1 hb2
 have z2 := HK3.out.cell
 by_cases hbig : hv = true ∨ 3000 < u.nm ∨ 3000 < u.nt
 · have hs : hv = true ∨ (hv = false ∧ 3000 < u.nm) ∨ (hv = false ∧ ¬ 3000 < u.nm ∧ 3000 < u.nt) := by
    cases hv
    · simp only [Bool.false_eq_true, false_or] at hbig
      by_cases h : 3000 < u.nm
      · exact Or.inr (Or.inl ⟨rfl, h⟩)
      exact Or.inr (Or.inr ⟨rfl, h, by omega⟩)
    exact Or.inl rfl
   clear hbig
   rcases hs with rfl | ⟨rfl, h2⟩ | ⟨rfl, h2, h3⟩
   case' inr.inl => have d1 : decide ((u.nm : Int) > 3000) = true := decide_eq_true (by omega)
   case' inr.inr =>
    have d1 : decide ((u.nm : Int) > 3000) = false := decide_eq_false (by omega)
    have d2 : decide ((u.nt : Int) > 3000) = true := decide_eq_true (by omega)
   all_goals
    go_wp2_with fail
    go_ret
    exact ⟨rfl, HB3.out⟩
 obtain rfl : hv = false := by
  cases hv
  · rfl
  exact absurd (Or.inl rfl) hbig
 have d1 : decide ((u.nm : Int) > 3000) = false := decide_eq_false (by omega)
 have d2 : decide ((u.nt : Int) > 3000) = false := decide_eq_false (by omega)
 clear hbig
 have hen := encode_any (HP.out.below HB3.out)
 obtain ⟨eq, heq⟩ : ∃ q, q = encodeQ p := ⟨_, rfl⟩
 have HEQ := hid heq
 rw [← heq] at hen
 obtain ⟨L, z⟩ := eq
 have HEN := hid hen
 clear hen heq
 go_wp2_with fail
 refine (HEN.out).mono ?_
 rintro e w3 ⟨hb3, A3, c3, rfl, ho3⟩
 simp only at ho3 ⊢
 have HB4 := bto HB3 hb3
 have HK4 := hid (HK3.out.below hb3 HK3.out.lt)
 have HO3 := hid ho3
 clear z2 hb3 ho3
 have z3 := HK4.out.cell
 by_cases hz : z = 0
 rotate_left
 · have dz : (z != 0) = true := by simpa using hz
   have hnil := encode_nil (p := p) (by rw [← HEQ.out]; exact hz)
   rw [← HEQ.out] at hnil
   simp only at hnil
   subst hnil
   clear hz
   go_wp2_with fail
   go_ret
   exact ⟨rfl, HB4.out⟩
 subst hz
 obtain ⟨k1, k2, k3⟩ := encode_ok (p := p) (by rw [← HEQ.out])
 have hLp : L = pgBs p := by rw [← HEQ.out] at k3; injection k3
 have HPW := hid (progW_of k1)
 have hLl : L.length ≤ 65536 := by rw [hLp]; exact k2
 have hL0 : 0 < L.length := by rw [hLp]; exact pgBs_pos p
 have HLP := hid hLp
 have HBY : Hid (∀ x ∈ L, x < 256) := hid (by rw [hLp]; exact fun x hx => reads_prog.bytes p x hx)
 have HDB : Hid (decodeQ L = (p, 0)) := hid (by rw [hLp]; exact (decode_back HPW.out (by rw [k3])).2)
 have HY3 : Hid (BytV w3 A3 L.length c3 L) := hid ((HO3.out.byt HBY.out (by omega)).keep fun b hb => ⟨hb.2, fun _ => rfl⟩)
 have hde := decode_any HY3.out
 rw [HDB.out] at hde
 obtain ⟨gb, gbo, rfl, _, _⟩ := HY3.out.mem hL0
 have HDE := hid hde
 have dL0 : ((L.length : Int) == 0) = false := by
  have : (L.length : Int) ≠ 0 := by omega
  simpa using this
 clear k1 k2 k3 hLp hde
 go_wp2_with fail
 refine (HDE.out).mono ?_
 rintro e w4 ⟨hb4, u4, he4, hq4⟩
 simp only at he4 hq4
 subst he4
 have HB5 := bto HB4 hb4
 have hbb := below_alloc w4 (.cells (pgCells u4 p) 30)
 have HB6 := bto HB5 hbb
 have HK6 := hid ((HK4.out.below hb4 HK4.out.lt).alloc (.cells (pgCells u4 p) 30))
 have HY6 := hid ((HY3.out.below hb4).below hbb)
 have HSP := hid (sameProg_true (HP.out.below HB6.out) ((hq4.progV fun q hq => hq.2).below hbb))
 unfold pgCells at HB6 HK6 HY6 HSP
 clear z3 hb4 hq4 hbb
 have z6 := HK6.out.cell
 go_wp2_with fail
 refine (HSP.out).mono ?_
 rintro e w7 ⟨rfl, hb7⟩
 have HB7 := bto HB6 hb7
 have HY7 := hid (HY6.out.below hb7)
 obtain ⟨K, hK⟩ : ∃ K, K = ct.toNat % L.length := ⟨_, rfl⟩
 have hKl : K < L.length := by rw [hK]; exact Nat.mod_lt _ hL0
 have hrem : ct % (L.length : Int) = (K : Int) := by
  obtain ⟨cn, rfl⟩ : ∃ cn : Nat, ct = (cn : Int) := ⟨ct.toNat, by omega⟩
  rw [hK]
  simp
 have hcap := HY7.out.cap
 have hKc : K ≤ c3 := by omega
 have HDC : Hid (decodeQ (L.take K) = (nilPg, 4)) := hid (by rw [HLP.out]; exact decode_cut HPW.out (by rw [← HLP.out]; exact hLl) (by rw [← HLP.out]; exact hKl))
 have hdc := decode_any (HY7.out.front (Nat.le_of_lt hKl))
 rw [HDC.out] at hdc
 have HDE2 := hid hdc
 clear z6 hb7 hK hdc
 go_wp2_with fail
 refine (HDE2.out).mono ?_
 rintro e w8 ⟨hb8, u8, he8, hq8⟩
 simp only at he8 hq8
 subst he8
 have HB8 := bto HB7 hb8
 have hbc := below_alloc w8 (.cells (pgCells u8 nilPg) 30)
 have HB9 := bto HB8 hbc
 have HK9 := hid (Blk.new w8 30 (pgCells u8 nilPg))
 have HY9 := hid ((HY7.out.below hb8).below hbc)
 have HSP2 := hid (sameProg_true ((hq8.progV fun q hq => hq.2).below hbc) ((nilQ (fun _ => False) (w8.alloc (.cells (pgCells u8 nilPg) 30))).progV (fun _ h => h.elim)))
 unfold pgCells at HB9 HK9 HY9 HSP2
 clear hb8 hq8 hbc
 have z9 := HK9.out.cell
 go_wp2_with fail
 refine (HSP2.out).mono ?_
 rintro e w10 ⟨rfl, hb10⟩
 have HB10 := bto HB9 hb10
 have HY10 := hid (HY9.out.below hb10)
 clear z9 hb10
 have hown : (w10.alloc (.cells #[] 5)).ownsRow w10.heap.size 5 1 (.slice (some ⟨w10.heap.size, 0, none⟩) 0 0) 0 [] := World.ownsRow_made w10 #[] 0 (Nat.le_refl _) (Nat.zero_le _) rfl
 have hba := below_alloc w10 (.cells #[] 5)
 have HB11 := hid hba
 have HY11 := hid (HY10.out.below hba)
 have HOWN := hid hown
 clear hown hba
 go_wp2_with (at_builtin; first | (refine wpList_oper rfl (oper_append_mine (.tmp 74) (.tmp 75) 34 rfl w10.heap.size 5 i0 _ 1 1 Try.underlying34 HI0.out HY0.out HY1.out HY2.out rfl (by decide) (.slice (some ⟨w10.heap.size, 0, none⟩) 0 0) 0 [] rfl HOWN.out (some ⟨gb, gbo, none⟩) L.length c3 (u8s L) rfl (by rw [u8s_len]; omega) (fun e => by cases e) HY11.out.cells (u8s_one L) (by unfold maxLen; omega) (by omega) HB11.out.size ?_); intro A4 c4 w12 hap; rw [List.nil_append, Nat.zero_add] at hap; have HAP := hid hap; clear hap) | (refine wpList_oper rfl (oper_append_far (.tmp 76) (.tmp 77) 34 5 rfl w10.heap.size i0 _ 1 Try.underlying34 HI0.out HY0.out HY1.out HY2.out rfl (by decide) (.slice A4 L.length c4) L.length (u8s L) (.int .u8 ((0 : Nat) : Int)) rfl w12 rfl rfl HAP.out.own _ rfl rfl (by omega) (Nat.le_trans HB11.out.size HAP.out.grown.size) ?_); intro A5 c5 w13 hap; have HAQ := hid hap; clear hap))
 have hlen : (L ++ [0]).length = L.length + 1 := by simp
 have hown5 : OwnB w13 w10.heap.size (.slice A5 (L ++ [0]).length c5) (L ++ [0]) := by
  have h := HAQ.out.own
  rw [u8s_snoc] at h
  unfold OwnB
  rw [hlen]
  exact h
 have hy5 : BytV w13 A5 (L ++ [0]).length c5 (L ++ [0]) := (hown5.byt (fun x hx => by
  rcases List.mem_append.1 hx with h | h
  · exact HBY.out x h
  rw [List.mem_singleton.1 h]; decide) (by omega)).keep fun b hb => ⟨hb.2, fun _ => rfl⟩
 have hba : Below w10.heap.size w10 w12 := HB11.out.grown HAP.out.grown HB11.out.size (fun g hg => (ownsRow_block HOWN.out hg).1)
 have hba2 : Below w10.heap.size w10 w13 := hba.grown HAQ.out.grown hba.size (fun g hg => (ownsRow_block HAP.out.own hg).1)
 have HB13 := bto HB10 hba2
 obtain ⟨z9, hz9, hd9⟩ : ∃ z9 : Int, (z9 = 3 ∨ z9 = 6) ∧ decodeQ (L ++ [0]) = (nilPg, z9) := by
  rw [HLP.out]
  rcases decode_more HPW.out 0 with h | h
  · exact ⟨3, .inl rfl, h⟩
  exact ⟨6, .inr rfl, h⟩
 have hd5 := decode_any hy5
 rw [hd9, hlen] at hd5
 have HD5 := hid hd5
 clear hd5 hd9 hy5 hown5 hlen hba hba2
 refine (HD5.out).mono ?_
 rintro e w14 ⟨hb14, u14, he14, hq14⟩
 simp only at he14
 subst he14
 have HB14 := bto HB13 hb14
 clear hb14 hq14
 rcases hz9 with rfl | rfl
 all_goals
  go_wp2_with fail
  go_ret
  exact ⟨rfl, HB14.out⟩
end Go.Proofs.Ytplecfbdchmogaa
