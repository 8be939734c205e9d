/- Decimal of the reference. -/
import Derived.Test.YtgiepikoffaaiaaDoorDec10
import Derived.Test.YtgiepikoffaaiaaDoorRefShift
import Derived.Laws.IdiomStrings
namespace Go.Proofs.YtgiepikoffaaiaaDoor
open Go Go.RowKit

/-- An owned row of bytes. -/
abbrev OwnY (w : World) (base : Nat) (A : Option Addr) (n c : Nat) (l : List UInt8) : Prop := w.ownsRow base 5 1 (.slice A n c) n (l.map fun b => Value.int .u8 (b.toNat : Int))
theorem infoY : (Tryd.prog.info? 5).map (fun i => (i.zero, i.size, i.bytes)) = some (some (.int .u8 0), 1, 1) := by kernel_rfl
theorem str_of {w : World} {base n c : Nat} {A : Option Addr} {l : List UInt8} (h : OwnY w base A n c l) (hn : 0 < n) : (convert 69 9 (.slice A n c)).run Tryd.prog w = .ok (.string ⟨l.toArray⟩) w := by
  have hln : l.length = n := by have := h.1; simpa using this
  have h0 := h
  obtain ⟨_, hcase⟩ := h
  rcases hcase with ⟨_, h2⟩ | ⟨g, cap', cur, hv, hg, hh, _⟩
  · omega
  · injection hv with e1 e2 e3
    subst e1
    rw [← hln]
    refine run_convert_bytes_back (P := Tryd.prog) w 69 9 5 ⟨g, 0, none⟩ c l Tryd.underlying69 Tryd.underlying5 Tryd.underlying9 (fun j hj => ?_)
    have ea : (⟨g, 0, none⟩ : Addr).add j = ⟨g, j, none⟩ := by unfold Addr.add; split <;> simp_all
    rw [ea, h0.cellAt j (by omega), List.getElem?_map, List.getElem?_eq_getElem hj]
    rfl
theorem own_one {w : World} {base g d : Nat} (h : Blk w g 3 #[.int .i64 (d : Int)]) (hg : base ≤ g) : OwnD w base (some ⟨g, 0, none⟩) 1 1 [d] := own_newD (l := [d]) h hg (by simp [maxLen])

set_option maxRecDepth 100000 in
set_option maxHeartbeats 8000000 in
theorem refDecimal_num {A : Option Addr} {n c x i : Nat} {w : World} (hx : Arg w A n c x i) (hi : i ≤ 1000) :
    Calls Tryd.prog 38 #[.slice A n c] w fun e w' => e = .returned (.string ⟨(Lib.decDigits x).toArray⟩) ∧ Below w.heap.size w w' := by
  obtain ⟨i0, hi0, hy0, hy1, hy2⟩ := info_parts infoI
  have HI0 := Lib.hid hi0
  have HY0 := Lib.hid hy0
  have HY1 := Lib.hid hy1
  have HY2 := Lib.hid hy2
  obtain ⟨j0, hj0, hz0, hz1, hz2⟩ := info_parts infoY
  have HJ0 := Lib.hid hj0
  have HZ0 := Lib.hid hz0
  have HZ1 := Lib.hid hz1
  have HZ2 := Lib.hid hz2
  have H := Lib.hid (digits_num hx hi)
  have hfx := dgs_few hx.lt
  clear hx hi0 hy0 hy1 hy2 hj0 hz0 hz1 hz2
  go_enter Tryd.func38, Tryd.ntmps38
  go_wp2_with fail
  refine (H.out).mono ?_
  rintro e w1 ⟨hb1', A1, m, c1, rfl, hd1⟩
  have hl := hd1.len
  have hm : m ≤ 4000 := by omega
  have HX8 : RowKit.Hid (x / 2 ^ (8 * m) = 0) := Lib.hid (by
    apply Nat.div_eq_of_lt
    have h1 := val_lt8 (ok_wds8 x)
    rw [val_wds8, hl, pw8_two] at h1
    exact h1)
  have HDB : RowKit.Hid (∀ wr : World, Below w1.heap.size w1 wr → DigR wr A1 m c1 (dgs x)) := Lib.hid fun wr h => hd1.below h
  have HUP : RowKit.Hid (∀ wr : World, Below w1.heap.size w1 wr → Below w.heap.size w wr) := Lib.hid fun wr h => hb1'.trans (h.mono hb1'.size)
  clear hb1' hd1 hl hfx
  go_wp2_with fail
  go_loopw [4, 5] (fun dv iv wr => ∃ (i L cc g : Nat) (o : List Nat), i ≤ 8 * m ∧ iv = .int .i64 ((i : Int) - 1) ∧ dv = .slice (some ⟨g, 0, none⟩) L cc ∧ L ≤ 1 + (8 * m - i) ∧ RowKit.Hid (o.length = L ∧ DcS (x / 2 ^ i) o) ∧ RowKit.Hid (OwnD wr w1.heap.size (some ⟨g, 0, none⟩) L cc o) ∧ RowKit.Hid (Below w1.heap.size w1 wr)) (fun _ i _ => (intOf i + 1).toNat)
  case atStart => exact ⟨8 * m, 1, 1, w1.heap.size, [0], by omega, by go_num, rfl, by omega, Lib.hid ⟨rfl, by rw [HX8.out]; exact DcS.zero⟩, Lib.hid (own_one (Blk.new w1 _ _) (Nat.le_refl _)), Lib.hid (below_alloc _ _)⟩
  case round =>
    obtain ⟨i, L, cc, g, o, him, rfl, rfl, hL, ho, hown, hbw⟩ := hrel
    by_cases hi0 : i = 0
    · subst hi0
      have HDEC : RowKit.Hid (bys o = Lib.decDigits x) := Lib.hid (by
        have := bys_dec ho.out.2
        rwa [Nat.pow_zero, Nat.div_one] at this)
      have hLp : 0 < L := by rw [← ho.out.1]; exact ho.out.2.pos
      have HOL := Lib.hid ho.out.1
      simp only [Int.natCast_zero, Int.zero_sub]
      obtain ⟨wo, rfl⟩ : ∃ wo : World, wo = wr := ⟨_, rfl⟩
      go_wp2_with fail
      go_loopw [9, 10] (fun ov kv wr => ∃ (k q ck : Nat) (B : Option Addr), k ≤ L ∧ kv = .int .i64 ((k : Int) - 1) ∧ ov = .slice B q ck ∧ q = L - k ∧ RowKit.Hid (OwnY wr w1.heap.size B q ck (bys (o.drop k))) ∧ RowKit.Hid (OwnD wr w1.heap.size (some ⟨g, 0, none⟩) L cc o) ∧ RowKit.Hid (Below w1.heap.size w1 wr)) (fun _ k _ => (intOf k + 1).toNat)
      case atStart => exact ⟨L, 0, 0, none, by omega, by go_num, rfl, by omega, Lib.hid (by rw [List.drop_of_length_le (by rw [HOL.out]; omega)]; exact World.ownsRow_nil _ _ _ _), hown, hbw⟩
      case round =>
        obtain ⟨k, q, ck, B, hk, rfl, rfl, hqk, hownb, hown, hbw⟩ := hrel
        by_cases hk0 : k = 0
        · subst hk0
          obtain rfl : q = L := by omega
          clear hqk
          have hst := str_of hownb.out hLp
          rw [List.drop_zero, HDEC.out] at hst
          have HST := Lib.hid hst
          have HB := Lib.hid (HUP.out _ hbw.out)
          simp only [Int.natCast_zero, Int.zero_sub]
          clear hst
          have hst2 := HST.out
          go_wp2_with fail
          go_ret
          exact ⟨rfl, HB.out⟩
        · obtain ⟨r, rfl⟩ : ∃ r, k = r + 1 := ⟨k - 1, by omega⟩
          have hr : (((r + 1 : Nat) : Int) - 1) = (r : Int) := by omega
          rw [hr]
          have HQK : RowKit.Hid (q + 1 = L - r) := Lib.hid (by omega)
          have hrL : r < L := by omega
          have hqL : q ≤ L := by omega
          clear hr hk0 hqk
          have hxc := OwnD.cell hown.out (k := r) (by omega)
          have hzl := dg_lt10 ho.out.2.ok r
          have HBY := Lib.hid (drop_bys (o := o) (k := r) (by rw [HOL.out]; omega))
          have HBV := Lib.hid (by_val hzl)
          generalize dg8 o r = z at *
          generalize UInt8.ofNat (48 + z) = y at *
          have hyi : (48 : Int) + (z : Int) = ((y.toNat : Nat) : Int) := by have := HBV.out; omega
          have hyl : y.toNat ≤ 57 := by have := HBV.out; omega
          have hbs := hbw.out.size
          go_wp2_with (at_builtin; go_loud (refine wpList_oper rfl (oper_append_one (.tmp 58) (.tmp 65) 69 5 rfl w1.heap.size j0 _ 1 Tryd.underlying69 HJ0.out HZ0.out HZ1.out HZ2.out rfl (by decide) (.slice B q ck) q _ (.int .u8 ((y.toNat : Nat) : Int)) rfl wr rfl rfl hownb.out _ rfl rfl (by omega) hbs ?_)); intro A4 c4 w4 happ4)
          have ho4 := happ4.own
          have hown4 : OwnD w4 w1.heap.size (some ⟨g, 0, none⟩) L cc o := by
            refine hown.out.kept happ4.grown (.inr (fun e => ?_))
            obtain ⟨_, _, cu1, hc1⟩ := ownsRow_block hown.out (g := g) rfl
            obtain ⟨_, _, cu2, hc2⟩ := ownsRow_block hownb.out (g := g) e.symm
            rw [hc1] at hc2
            injection hc2 with hc2
            injection hc2 with _ hc3
            exact absurd hc3 (by decide)
          go_roundw
          case rel => exact ⟨r, q + 1, c4, A4, by omega, by go_num, rfl, HQK.out, Lib.hid (by
            rw [HBY.out]
            have e : ((bys (o.drop (r + 1)) ++ [y]).map fun b => Value.int .u8 (b.toNat : Int)) = (bys (o.drop (r + 1))).map (fun b => Value.int .u8 (b.toNat : Int)) ++ [.int .u8 (y.toNat : Int)] := by simp
            unfold OwnY
            rw [e]
            exact ho4), Lib.hid hown4, Lib.hid (hbw.out.grown happ4.grown hbs (fun g hg => (ownsRow_block hownb.out hg).1))⟩
          case measure => simp [intOf]
    · obtain ⟨q, rfl⟩ : ∃ q, i = q + 1 := ⟨i - 1, by omega⟩
      have hq : (((q + 1 : Nat) : Int) - 1) = (q : Int) := by omega
      rw [hq]
      clear hq hi0
      have HBIT := Lib.hid (bit_any (i := q) (HDB.out _ hbw.out) (show q < 8 * m by omega))
      have hbl := bitN_lt x q
      have HHALF := Lib.hid (half_bit x q)
      generalize bitN x q = b at *
      obtain ⟨wo, rfl⟩ : ∃ wo : World, wo = wr := ⟨_, rfl⟩
      go_wp2_with fail
      refine (HBIT.out).mono ?_
      rintro e w' ⟨rfl, rfl⟩
      go_wp2_with fail
      go_loopw [6, 7] (fun cv kv wr => ∃ (k cr : Nat) (p : List Nat), k ≤ L ∧ cv = .int .i64 (cr : Int) ∧ kv = .int .i64 (k : Int) ∧ cr ≤ 1 ∧ RowKit.Hid (DcI o b k p cr) ∧ RowKit.Hid (OwnD wr w1.heap.size (some ⟨g, 0, none⟩) L cc p) ∧ RowKit.Hid (Below w1.heap.size w1 wr)) (fun _ k _ => L - (intOf k).toNat)
      case atStart => exact ⟨0, b, o, by omega, rfl, rfl, by omega, Lib.hid (DcI.start ho.out.2 (by omega)), hown, hbw⟩
      case round =>
        obtain ⟨k, cr, p, hk, rfl, rfl, hcr, hdi, hownp, hbw⟩ := hrel
        by_cases hkl : k < L
        · obtain ⟨_, cur, e1, hg, hblk⟩ := OwnD.row hownp.out (by omega)
          injection e1 with e1; injection e1 with e1; subst e1
          have hxc := OwnD.cell hownp.out hkl
          have hblk2 : Blk wr g 3 cur := hblk
          have hfz := hblk2.frozen
          have HST := Lib.hid (hdi.out.step (by rw [ho.out.1]; exact hkl))
          have hzl := dg_lt10 hdi.out.ok k
          generalize dg8 p k = z at *
          obtain ⟨t, ht⟩ : ∃ t, t = (2 * z + cr) % 10 := ⟨_, rfl⟩
          obtain ⟨u, hu⟩ : ∃ u, u = (2 * z + cr) / 10 := ⟨_, rfl⟩
          rw [← ht, ← hu] at HST
          have hti : (2 * (z : Int) + (cr : Int)) % 10 = (t : Int) := by omega
          have hui : (2 * (z : Int) + (cr : Int)) / 10 = (u : Int) := by omega
          have hul : u ≤ 1 := by omega
          clear ht hu hblk hblk2
          go_wp2_with fail
          go_roundw
          case rel => exact ⟨k + 1, u, p.set k t, by omega, by rw [hui], by go_num, hul, HST, Lib.hid (OwnD.set hownp.out k t), Lib.hid (hbw.out.setCell hg _)⟩
          case measure => simp [intOf]; omega
        · have hkl2 : k = L := by omega
          subst hkl2
          by_cases hc0 : cr = 0
          · subst hc0
            have HD := Lib.hid (DcI.done (p := p) ho.out.2 (by rw [ho.out.1]; exact hdi.out))
            rw [← HHALF.out] at HD
            have HPL : RowKit.Hid (p.length = k) := Lib.hid (by rw [hdi.out.len, ho.out.1])
            go_wp2_with fail
            go_roundw
            case rel => exact ⟨q, k, cc, g, p, by omega, by go_num, rfl, by omega, Lib.hid ⟨HPL.out, HD.out⟩, hownp, hbw⟩
            case measure => simp [intOf]
          · have hcp : 0 < cr := by omega
            have HD := Lib.hid (DcI.more (p := p) ho.out.2 (by rw [ho.out.1]; exact hdi.out) hcp)
            rw [← HHALF.out] at HD
            have HPL : RowKit.Hid (p.length = k) := Lib.hid (by rw [hdi.out.len, ho.out.1])
            have hbs := hbw.out.size
            go_wp2_with (at_builtin; go_loud (refine wpList_oper rfl (oper_append_one (.tmp 47) (.tmp 49) 56 3 rfl w1.heap.size i0 _ 8 Tryd.underlying56 HI0.out HY0.out HY1.out HY2.out rfl (by decide) (.slice (some ⟨g, 0, none⟩) k cc) k _ (.int .i64 (cr : Int)) rfl wr rfl rfl hownp.out _ rfl rfl (by omega) hbs ?_)); intro A4 c4 w4 happ4)
            have ho4 := happ4.own
            rw [← cellsD_snoc] at ho4
            obtain ⟨g4, cur4, rfl, _, _⟩ := OwnD.row ho4 (by omega)
            go_roundw
            case rel => exact ⟨q, k + 1, c4, g4, p ++ [cr], by omega, by go_num, rfl, by omega, Lib.hid ⟨by rw [List.length_append, HPL.out]; rfl, HD.out⟩, Lib.hid ho4, Lib.hid (hbw.out.grown happ4.grown hbs (fun g hg => (ownsRow_block hownp.out hg).1))⟩
            case measure => simp [intOf]

end Go.Proofs.YtgiepikoffaaiaaDoor
