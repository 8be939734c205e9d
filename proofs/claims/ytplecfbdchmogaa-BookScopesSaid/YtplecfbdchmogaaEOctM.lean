/- Bytes that are read: Num, Signed, Err, Left, New (octet). -/
import Derived.Test.YtplecfbdchmogaaEOctN
import Derived.Test.YtplecfbdchmogaaERdP
namespace Go.Proofs.Ytplecfbdchmogaa
open Go.Lib (hid)
set_option maxHeartbeats 2000000
set_option maxRecDepth 100000
open Go.RowKit
theorem nextF_le : ∀ (l : List Nat) (most i n : Nat), (nextF most i n l).2.1 ≤ most
 | [], most, i, n => by simp [nextF]
 | c :: r, most, i, n => by
  simp only [nextF]
  split
  · simp
  · rename_i h
    split
    · show n + c % 128 * 2 ^ (7 * i) ≤ most
      have := fun h2 => h (Or.inr (Or.inl h2))
      omega
    split
    · simp
    exact nextF_le r most (i + 1) _
theorem rdNext_le (most : Nat) (s : Rd) : (rdNext most s).1 ≤ most := by
 unfold rdNext
 split
 · exact Nat.zero_le _
 split
 · exact Nat.zero_le _
 exact nextF_le _ _ _ _
section
variable {R : Nat → Prop} {w0 w w1 w' : World} {g n c k : Nat} {A : Option Addr} {bs : List Nat} {z : Int} {q : Rd}
end
def RdA (R : Nat → Prop) (w0 : World) (g : Nat) (A : Option Addr) (n c : Nat) (bs : List Nat) (r : Int × Rd) (w : World) (e : Ending) (w' : World) : Prop := e = .returned (.int .i64 r.1) ∧ RdE R w0 g A n c bs r.2 w w'
theorem onum_any {R : Nat → Prop} {w0 w : World} {g n c k : Nat} {A : Option Addr} {bs : List Nat} {z : Int} (h : RdS R w0 g A n c bs k z w) (o : Bool) (most : Nat) (hm : most ≤ 100000000) :
 Calls Try.prog 66 #[.pointer (some ⟨g, 0, none⟩), .int .i64 (most : Int)] w (RdA R w0 g A n c bs (rdInt most ⟨bs.drop k, z, o⟩) w) := by
 have HN := hid (onext_any h o most (by omega))
 have hle := rdNext_le most ⟨bs.drop k, z, o⟩
 unfold rdInt
 obtain ⟨q, hq⟩ : ∃ q, q = rdNext most ⟨bs.drop k, z, o⟩ := ⟨_, rfl⟩
 rw [← hq] at HN hle ⊢
 obtain ⟨v, s⟩ := q
 simp only at HN hle ⊢
 have hw : IntKind.u64.wrap (most : Int) = (most : Int) := by rw [IntKind.wrap_u64]; omega
 have hw2 : IntKind.i64.wrap (v : Int) = (v : Int) := by rw [IntKind.wrap_i64]; omega
 have d1 : decide ((most : Int) < 0) = false := decide_eq_false (by omega)
 clear h hq
 go_in
 go_wp2_with fail
 refine (HN.out).mono ?_
 rintro e w1 ⟨rfl, h1⟩
 have H1 := hid h1
 clear h1
 go_wp2_with fail
 go_ret
 exact ⟨rfl, H1.out⟩
theorem xor_neg (x : Nat) (hx : x < 9223372036854775808) : bits .xor .i64 (x : Int) (-1) = -(x : Int) - 1 := by
 show IntKind.i64.wrap ((BitVec.ofInt 64 (x : Int) ^^^ BitVec.ofInt 64 (-1)).toNat : Int) = _
 have h1 : (BitVec.ofInt 64 (-1)).toNat = 2 ^ 64 - 1 := by decide
 have h2 : (BitVec.ofInt 64 (x : Int)).toNat = x := by
  rw [BitVec.ofInt_natCast, BitVec.toNat_ofNat]; exact Nat.mod_eq_of_lt (by omega)
 rw [BitVec.toNat_xor, h1, h2, Nat.xor_comm, Lib.xor_ones64 x (by omega), IntKind.wrap_i64]
 omega
theorem xor_zero64 (x : Nat) (hx : x < 9223372036854775808) : bits .xor .i64 (x : Int) 0 = (x : Int) := by
 show IntKind.i64.wrap ((BitVec.ofInt 64 (x : Int) ^^^ BitVec.ofInt 64 0).toNat : Int) = _
 have h1 : (BitVec.ofInt 64 0).toNat = 0 := by decide
 have h2 : (BitVec.ofInt 64 (x : Int)).toNat = x := by
  rw [BitVec.ofInt_natCast, BitVec.toNat_ofNat]; exact Nat.mod_eq_of_lt (by omega)
 rw [BitVec.toNat_xor, h1, h2, Nat.xor_zero, IntKind.wrap_i64]
 omega
theorem osigned_any {R : Nat → Prop} {w0 w : World} {g n c k : Nat} {A : Option Addr} {bs : List Nat} {z : Int} (h : RdS R w0 g A n c bs k z w) (o : Bool) :
 Calls Try.prog 68 #[.pointer (some ⟨g, 0, none⟩)] w (RdA R w0 g A n c bs (rdSigned ⟨bs.drop k, z, o⟩) w) := by
 have HN := hid (onext_any h o 18446744073709551615 (by decide))
 have hle := rdNext_le 18446744073709551615 ⟨bs.drop k, z, o⟩
 unfold rdSigned
 obtain ⟨q, hq⟩ : ∃ q, q = rdNext 18446744073709551615 ⟨bs.drop k, z, o⟩ := ⟨_, rfl⟩
 rw [← hq] at HN hle ⊢
 obtain ⟨v, s⟩ := q
 simp only at HN hle ⊢
 have hand : bits BinOp.and IntKind.u64 (v : Int) 1 = ((v % 2 : Nat) : Int) := by rw [Lib.u64_and1 _ (by omega) (by omega)]; omega
 obtain ⟨d, hd⟩ : ∃ d, d = v / 2 := ⟨_, rfl⟩
 obtain ⟨r, hr⟩ : ∃ r, r = v % 2 := ⟨_, rfl⟩
 have hdiv : (v : Int) / 2 = (d : Int) := by omega
 have hw : IntKind.i64.wrap (d : Int) = (d : Int) := by rw [IntKind.wrap_i64]; omega
 rw [← hr] at hand
 have hw2 : IntKind.i64.wrap (r : Int) = (r : Int) := by rw [IntKind.wrap_i64]; omega
 have HV : Hid (zag v = if r = 0 then (d : Int) else -(d : Int) - 1) := hid (by unfold zag; rw [hr, hd])
 have hr2 : r = 0 ∨ r = 1 := by omega
 have hdl : d < 9223372036854775808 := by omega
 clear h hq hle hd hr
 rcases hr2 with rfl | rfl
 all_goals
  have hx0 := xor_zero64 d hdl
  have hx1 := xor_neg d hdl
  clear hdl
  go_in
  go_wp2_with fail
  refine (HN.out).mono ?_
  rintro e w1 ⟨rfl, h1⟩
  have H1 := hid h1
  clear h1
  go_wp2_with fail
  go_ret
  refine ⟨?_, H1.out⟩
  rw [HV.out]
  first | rfl | (rw [if_pos rfl]) | (rw [if_neg (by decide)])
theorem oerr_any {R : Nat → Prop} {w0 w : World} {g n c k : Nat} {A : Option Addr} {bs : List Nat} {z : Int} (h : RdS R w0 g A n c bs k z w) :
 Calls Try.prog 39 #[.pointer (some ⟨g, 0, none⟩)] w (fun e w' => e = .returned (.int .i64 z) ∧ w' = w) := by
 have z2 := h.blk.cell 2
 clear h
 go_in
 go_wp2_with fail
 go_ret
 exact ⟨rfl, rfl⟩
theorem oleft_any {R : Nat → Prop} {w0 w : World} {g n c k : Nat} {A : Option Addr} {bs : List Nat} {z : Int} (h : RdS R w0 g A n c bs k z w) :
 Calls Try.prog 40 #[.pointer (some ⟨g, 0, none⟩)] w (fun e w' => e = .returned (.int .i64 ((n - k : Nat) : Int)) ∧ Below w.heap.size w w') := by
 have HL := hid (left_any h)
 obtain ⟨m, hm⟩ : ∃ m, m = n - k := ⟨_, rfl⟩
 rw [← hm] at HL ⊢
 clear h hm
 go_in
 go_wp2_with fail
 refine (HL.out).mono ?_
 rintro e w1 ⟨hb1, A', c', rfl, _⟩
 have HB1 := hid hb1
 clear hb1
 go_wp2_with fail
 go_ret
 exact ⟨rfl, HB1.out⟩
def NewP (bs : List Nat) (w : World) (e : Ending) (w' : World) : Prop := ∃ (R : Nat → Prop) (g : Nat) (A : Option Addr) (c : Nat), e = .returned (.pointer (some ⟨g, 0, none⟩)) ∧ RdS R w g A bs.length c bs 0 0 w' ∧ ∀ q, R q → w.heap.size ≤ q
theorem onew_any {A : Option Addr} {n c : Nat} {bs : List Nat} {w : World} (h : BytV w A n c bs) :
 Calls Try.prog 30 #[.slice A n c] w (NewP bs w) := by
 have HCL := hid (clone_bytes h)
 have HB := hid h.byte
 have HF : Hid (bs.length ≤ 140737488355328) := hid (by have := h.len; have := h.few; omega)
 clear h
 go_in
 go_wp2_with fail
 refine (HCL.out).mono ?_
 rintro e w1 ⟨hb1, A1, c1, rfl, ho1⟩
 have HB1 := hid hb1
 have HO1 := hid ho1
 clear hb1 ho1
 go_wp2_with fail
 go_ret
 have hy := (HO1.out.byt HB.out HF.out)
 have hba := below_alloc w1 (.cells #[.slice A1 bs.length c1, .int .i64 0, .int .i64 0] 119)
 refine ⟨fun b => w.heap.size ≤ b ∧ b < w1.heap.size, w1.heap.size, A1, c1, rfl, ⟨HB1.out.trans (hba.mono HB1.out.size), Blk.new _ _ _, HB1.out.size, hy.keep fun q hq => ⟨hq, fun o => hba.cell (p := ⟨q, o, none⟩) hq.2⟩, fun q hq => ⟨by have := hq.2; simp; omega, by have := hq.2; omega⟩, Nat.zero_le _⟩, fun q hq => hq.1⟩
end Go.Proofs.Ytplecfbdchmogaa
