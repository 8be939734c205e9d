/- Add32, Sub32 of math/bits. -/
import Derived.Test.YtgiepikoffaaiaaDoorLeaf
import Derived.Laws.BitsLemmas
import Derived.Lib.EndianBits
namespace Go.Proofs.YtgiepikoffaaiaaDoor
open Go.RowKit

theorem add32_any (x y c : Nat) (hx : x < 4294967296) (hy : y < 4294967296) (hc : c ≤ 1) (w : World) :
    Calls Tryd.prog 55 #[.int .u32 (x : Int), .int .u32 (y : Int), .int .u32 (c : Int)] w fun e w' => e = .returned (.tuple #[.int .u32 (((x + y + c) % 4294967296 : Nat) : Int), .int .u32 (((x + y + c) / 4294967296 : Nat) : Int)]) ∧ w = w' := by
  go_enter Tryd.func55, Tryd.ntmps55
  go_wp2
  go_ret2
  exact ⟨rfl, rfl⟩

theorem bits_xor_u32 (a b : Nat) (ha : a < 4294967296) (hb : b < 4294967296) : bits .xor .u32 (a : Int) (b : Int) = ((a ^^^ b : Nat) : Int) := by
  have hx : a ^^^ b < 2 ^ 32 := Nat.xor_lt_two_pow (by omega) (by omega)
  have h1 : (BitVec.ofInt 32 (a : Int)).toNat = a := by
    rw [BitVec.ofInt_natCast, BitVec.toNat_ofNat]; exact Nat.mod_eq_of_lt (by omega)
  have h2 : (BitVec.ofInt 32 (b : Int)).toNat = b := by
    rw [BitVec.ofInt_natCast, BitVec.toNat_ofNat]; exact Nat.mod_eq_of_lt (by omega)
  show IntKind.u32.wrap ((BitVec.ofInt 32 (a : Int) ^^^ BitVec.ofInt 32 (b : Int)).toNat : Int) = _
  rw [BitVec.toNat_xor, h1, h2, IntKind.wrap_u32]
  omega
theorem bits_and_u32 (a b : Nat) (ha : a < 4294967296) (hb : b < 4294967296) : bits .and .u32 (a : Int) (b : Int) = ((a &&& b : Nat) : Int) :=
  (bits_nat .u32 32 (by decide) wraps_u32 a b ha hb).1
theorem bits_or_u32 (a b : Nat) (ha : a < 4294967296) (hb : b < 4294967296) : bits .or .u32 (a : Int) (b : Int) = ((a ||| b : Nat) : Int) :=
  (bits_nat .u32 32 (by decide) wraps_u32 a b ha hb).2
theorem top_bit {n : Nat} (h : n < 4294967296) : n.testBit 31 = decide (2147483648 ≤ n) := by
  rw [Nat.testBit_eq_decide_div_mod_eq]
  simp only [Nat.reducePow]
  by_cases h2 : 2147483648 ≤ n
  · rw [show n / 2147483648 % 2 = 1 from by omega, decide_eq_true h2]; rfl
  · rw [show n / 2147483648 % 2 = 0 from by omega, decide_eq_false h2]; rfl
theorem div_top {n : Nat} (h : n < 4294967296) : n / 2147483648 = if n.testBit 31 = true then 1 else 0 := by
  rw [top_bit h]
  simp only [decide_eq_true_eq]
  split <;> omega
def diffN (x y c : Nat) : Nat := (x + 4294967296 - y - c) % 4294967296
def borrowN (x y c : Nat) : Nat := if x < y + c then 1 else 0
theorem borrow_bits {x y c d : Nat} (hx : x < 4294967296) (hy : y < 4294967296) (hc : c ≤ 1) (hd : d = (x + 4294967296 - y - c) % 4294967296) :
    ((4294967295 ^^^ x) &&& y ||| (4294967295 ^^^ (x ^^^ y)) &&& d) / 2147483648 = borrowN x y c := by
  have hd2 : d < 4294967296 := by omega
  have h1 : (4294967295 ^^^ x) &&& y < 2 ^ 32 := Nat.and_lt_two_pow _ (by omega)
  have h2 : (4294967295 ^^^ (x ^^^ y)) &&& d < 2 ^ 32 := Nat.and_lt_two_pow _ (by omega)
  rw [div_top (Nat.or_lt_two_pow h1 h2)]
  simp only [Nat.testBit_or, Nat.testBit_and, Nat.testBit_xor]
  rw [top_bit hx, top_bit hy, top_bit hd2, show (4294967295 : Nat).testBit 31 = true from by decide]
  unfold borrowN
  by_cases b1 : 2147483648 ≤ x <;> by_cases b2 : 2147483648 ≤ y <;> by_cases b3 : 2147483648 ≤ d <;> simp [b1, b2, b3] <;> omega

theorem sub32_any (x y c : Nat) (hx : x < 4294967296) (hy : y < 4294967296) (hc : c ≤ 1) (w : World) :
    Calls Tryd.prog 57 #[.int .u32 (x : Int), .int .u32 (y : Int), .int .u32 (c : Int)] w fun e w' => e = .returned (.tuple #[.int .u32 ((diffN x y c : Nat) : Int), .int .u32 ((borrowN x y c : Nat) : Int)]) ∧ w = w' := by
  obtain ⟨d, hd⟩ : ∃ d : Nat, d = (x + 4294967296 - y - c) % 4294967296 := ⟨_, rfl⟩
  have hdi : ((x : Int) - (y : Int) - (c : Int)) % 4294967296 = ((d : Nat) : Int) := by omega
  have hdl : d < 4294967296 := by omega
  have hb := borrow_bits hx hy hc hd
  have q1 : bits .xor .u32 (IntKind.u32.max) (x : Int) = ((4294967295 ^^^ x : Nat) : Int) := bits_xor_u32 4294967295 x (by omega) hx
  have q2 : bits .xor .u32 (x : Int) (y : Int) = ((x ^^^ y : Nat) : Int) := bits_xor_u32 x y hx hy
  have l2 : x ^^^ y < 2 ^ 32 := Nat.xor_lt_two_pow (by omega) (by omega)
  have q3 : bits .xor .u32 (IntKind.u32.max) ((x ^^^ y : Nat) : Int) = ((4294967295 ^^^ (x ^^^ y) : Nat) : Int) := bits_xor_u32 4294967295 _ (by omega) l2
  have l1 : 4294967295 ^^^ x < 2 ^ 32 := Nat.xor_lt_two_pow (by omega) (by omega)
  have l3 : 4294967295 ^^^ (x ^^^ y) < 2 ^ 32 := Nat.xor_lt_two_pow (by omega) (by omega)
  have q4 := bits_and_u32 _ y l1 hy
  have q5 := bits_and_u32 _ d l3 hdl
  have l4 : (4294967295 ^^^ x) &&& y < 2 ^ 32 := Nat.and_lt_two_pow _ (by omega)
  have l5 : (4294967295 ^^^ (x ^^^ y)) &&& d < 2 ^ 32 := Nat.and_lt_two_pow _ (by omega)
  have q6 := bits_or_u32 _ _ l4 l5
  have HD := Lib.hid hd
  have Q : RowKit.Hid (bits BinOp.or IntKind.u32 (bits BinOp.and IntKind.u32 (bits BinOp.xor IntKind.u32 IntKind.u32.max ↑x) ↑y)
                (bits BinOp.and IntKind.u32
                  (bits BinOp.xor IntKind.u32 IntKind.u32.max (bits BinOp.xor IntKind.u32 ↑x ↑y))
                  ((↑x - ↑y - ↑c) % 4294967296)) /
              2147483648 = ((borrowN x y c : Nat) : Int)) := Lib.hid (by
    rw [hdi, q1, q2, q3, q4, q5, q6, ← hb]; rfl)
  have HDI := Lib.hid hdi
  clear hd hdi hb q1 q2 q3 q4 q5 q6 l1 l2 l3 l4 l5
  go_enter Tryd.func57, Tryd.ntmps57
  go_wp2
  go_ret2
  refine ⟨?_, rfl⟩
  rw [show diffN x y c = d from HD.out.symm, ← Q.out, ← HDI.out]
  rfl

end Go.Proofs.YtgiepikoffaaiaaDoor
