/- Bytes in memory, and the writing of numbers (octet). -/
import Derived.Test.YtplecfbdchmogaaEOctP
import Derived.Test.YtplecfbdchmogaaELeafs
import Derived.Lib.Hide
import Derived.Lib.SliceRun
import Derived.Lib.Zigzag
namespace Go.Proofs.Ytplecfbdchmogaa
open Go.Lib (hid)
set_option maxHeartbeats 2000000
set_option maxRecDepth 100000
open Go.RowKit
theorem oper_append_far {P : Program} {o : Oper} {a : Act} {w : World} {K : Act → World → Prop} {Q : Exit → Act → World → Prop}
 (s x : Operand) (t e : TypeId) (hop : o.op = Op.call { callee := Callee.builtin Builtin.append, args := #[s, x], argTypes := #[t, t] })
 (base : Nat) (i : TypeInfo) (z : Value) (bytes : Nat) (h1 : P.underlying t = some (.slice e)) (h2 : P.info? e = some i) (h3 : i.zero = some z) (h4 : i.size = 1) (h5 : i.bytes = bytes) (h6 : z.cells.size = 1) (hby : bytes ≤ 24)
 (v : Value) (n : Nat) (xs : List Value) (u : Value) (hone : u.oneCell' = true) (W : World) (hW : w = W.alloc (.cells #[u] e)) (hs : a.eval s = v) (hown : W.ownsRow base e 1 v n xs)
 (g : Nat) (hx : a.eval x = .slice (some ⟨g, 0, none⟩) 1 1) (hgW : g = W.heap.size) (b1 : n + 1 ≤ 5864062014805) (b3 : base ≤ W.heap.size)
 (hK : ∀ A' c' w', Appended W w' base e 1 v A' (n + 1) c' (xs ++ [u]) → K (a.put o.dst (.slice A' (n + 1) c')) w') : Oper.wp P o a w K Q := by
 subst hW
 subst hgW
 refine oper_append_mine s x t hop base _ i _ 1 bytes h1 h2 h3 h4 h5 h6 (by decide) v n xs hs (World.ownsRow.alloc hown _) _ 1 1 [u] hx (by simp) (fun e => by cases e) (fun ad e j u' hu => ?_) (fun q hq => by simp at hq; subst hq; exact hone) (by unfold maxLen; omega) ?_ (by simp; omega) ?_
 · injection e with e
   subst e
   have ea : (⟨W.heap.size, 0, none⟩ : Addr).add j = ⟨W.heap.size, j, none⟩ := by unfold Addr.add; split <;> simp_all
   rw [ea, World.cell?_alloc_new, ← hu]
   simp
 · exact Nat.le_trans (Nat.mul_le_mul b1 hby) (by decide)
 intro A' c' w' h
 refine hK A' c' w' ⟨h.own, ?_, fun g hg => (h.new g hg).imp id (fun hh => by simp at hh; omega)⟩
 refine ⟨h.grown.os, h.grown.tape, h.grown.output, Nat.le_trans (by simp) h.grown.size, fun k hk hne => ?_⟩
 rw [h.grown.block k (by simp; omega) hne]
 exact Below.heap_alloc _ _ _ hk
def u8s (bs : List Nat) : List Value := bs.map fun (x : Nat) => Value.int .u8 (x : Int)
structure BytR (R : Nat → Prop) (w : World) (A : Option Addr) (n c : Nat) (bs : List Nat) : Prop where
 len : bs.length = n
 cap : n ≤ c
 few : n ≤ 140737488355328
 nul : A = none → c = 0
 byte : ∀ x ∈ bs, x < 256
 mem : 0 < n → ∃ b off, A = some ⟨b, off, none⟩ ∧ R b ∧ ∀ k, k < n → w.cell? ⟨b, off + k, none⟩ = some (.int .u8 ((bs.getD k 0 : Nat) : Int))
abbrev BytV (w : World) (A : Option Addr) (n c : Nat) (bs : List Nat) : Prop := BytR (· < w.heap.size) w A n c bs
theorem BytR.keep {R R' : Nat → Prop} {w w' : World} {A : Option Addr} {n c : Nat} {bs : List Nat} (h : BytR R w A n c bs) (hR : ∀ b, R b → R' b ∧ ∀ o, w'.cell? ⟨b, o, none⟩ = w.cell? ⟨b, o, none⟩) : BytR R' w' A n c bs :=
 ⟨h.len, h.cap, h.few, h.nul, h.byte, fun hn => by
  obtain ⟨b, off, e, hb, hk⟩ := h.mem hn
  exact ⟨b, off, e, (hR b hb).1, fun k hkn => by rw [(hR b hb).2]; exact hk k hkn⟩⟩
theorem BytR.below {w w' : World} {A : Option Addr} {n c : Nat} {bs : List Nat} (h : BytV w A n c bs) (hb : Below w.heap.size w w') : BytV w' A n c bs :=
 h.keep fun b hb' => ⟨Nat.lt_of_lt_of_le hb' hb.size, fun o => hb.cell (p := ⟨b, o, none⟩) hb'⟩
def OwnB (w : World) (base : Nat) (v : Value) (bs : List Nat) : Prop := w.ownsRow base 5 1 v bs.length (u8s bs)
theorem infoU8 : (Try.prog.info? 5).map (fun i => (i.zero, i.size, i.bytes)) = some (some (.int .u8 0), 1, 1) := by kernel_rfl
theorem u8s_snoc (bs : List Nat) (x : Nat) : u8s bs ++ [.int .u8 (x : Int)] = u8s (bs ++ [x]) := by simp [u8s]
theorem or128 : ∀ x : Fin 256, bits .or .u8 (x.val : Int) 128 = ((x.val % 128 + 128 : Nat) : Int) := by decide +kernel
theorem or_byte (k : Nat) : bits .or .u8 ((k : Int) % 256) 128 = ((k % 128 + 128 : Nat) : Int) := by
 have h := or128 ⟨k % 256, Nat.mod_lt _ (by omega)⟩
 have e : ((k : Int) % 256) = ((k % 256 : Nat) : Int) := by omega
 rw [e, h]
 simp only
 congr 2
 omega
def FormP (A : Option Addr) (c : Nat) (bs : List Nat) (m base : Nat) (w : World) (e : Ending) (w' : World) : Prop :=
 Below base w w' ∧ Moved (fun _ => False) (Value.slice A bs.length c).ownBlock w w' ∧ ∃ A' c', e = .returned (.slice A' (bs ++ formL m).length c') ∧ OwnB w' base (.slice A' (bs ++ formL m).length c') (bs ++ formL m) ∧ ∀ g, (Value.slice A' (bs ++ formL m).length c').ownBlock = some g → (Value.slice A bs.length c).ownBlock = some g ∨ w.heap.size ≤ g
theorem form_grow {w : World} {base : Nat} {A : Option Addr} {c : Nat} {bs : List Nat} (ho : OwnB w base (.slice A bs.length c) bs) (hbase : base ≤ w.heap.size) (hb : bs.length ≤ 5000000000000) {m : Nat} (hm : m < 18446744073709551616) :
 Calls Try.prog 94 #[.slice A bs.length c, .int .u64 (m : Int)] w (FormP A c bs m base w) := by
 obtain ⟨i0, hi, hy0, hy1, hy2⟩ := info_parts infoU8
 have HI0 := hid hi
 have HY0 := hid hy0
 have HY1 := hid hy1
 have HY2 := hid hy2
 have HB0 := hid (Below.refl base w)
 have HO := hid ho
 obtain ⟨row, hrow⟩ : ∃ r, r = (Value.slice A bs.length c).ownBlock := ⟨_, rfl⟩
 have HROW := hid hrow
 have HM0 : Hid (Moved (fun _ => False) row w w) := hid (Moved.refl _ _ _)
 clear hi hy0 hy1 hy2 ho hrow
 go_in
 go_wp2_with fail
 go_loopw [0, 1] (fun sv mv wr => ∃ (A1 : Option Addr) (c1 : Nat) (l : List Nat) (k : Nat), sv = .slice A1 l.length c1 ∧ mv = .int .u64 (k : Int) ∧ k < 18446744073709551616 ∧ l.length + (formL k).length = bs.length + (formL m).length ∧ Hid (l ++ formL k = bs ++ formL m) ∧ Hid (OwnB wr base (.slice A1 l.length c1) l) ∧ Hid (Below base w wr) ∧ Hid (Moved (fun _ => False) row w wr) ∧ Hid (∀ g, (Value.slice A1 l.length c1).ownBlock = some g → row = some g ∨ w.heap.size ≤ g)) (fun _ mv _ => (intOf mv).toNat)
 case atStart => exact ⟨A, c, bs, m, rfl, rfl, hm, rfl, hid rfl, HO, HB0, HM0, hid (fun g hg => Or.inl (HROW.out.trans hg))⟩
 case round =>
  obtain ⟨A1, c1, l, k, rfl, rfl, hk, hll, HE, HO1, HB1, HM1, HR1⟩ := hrel
  have hfl := formL_len m
  have hfk := formL_len k
  have hln : l.length ≤ 5000000000010 := by omega
  have HB2 := hid (Nat.le_trans hbase HB1.out.size)
  by_cases h1 : 128 ≤ k
  · have d1 : decide ((k : Int) ≥ 128) = true := decide_eq_true (by omega)
    have d2 : decide (128 ≤ (k : Int)) = true := decide_eq_true (by omega)
    have d3 : decide (128 ≤ k) = true := decide_eq_true h1
    have HS := hid (formL_step h1 hk)
    obtain ⟨x, hx⟩ : ∃ x : Nat, x = k % 128 + 128 := ⟨_, rfl⟩
    have hor : bits BinOp.or IntKind.u8 ((k : Int) % 256) 128 = (x : Int) := by rw [hx]; exact or_byte k
    rw [← hx] at HS
    have HX := hid hx
    clear hx
    go_wp2_with (at_builtin; go_loud (refine wpList_oper rfl (oper_append_far (.tmp 7) (.tmp 11) 34 5 rfl base i0 _ 1 Try.underlying34 HI0.out HY0.out HY1.out HY2.out rfl (by decide) (.slice A1 l.length c1) l.length (u8s l) (.int .u8 (x : Int)) rfl wr rfl rfl HO1.out _ rfl rfl (by omega) HB2.out ?_)); intro A5 c5 w5 hap; have HAP := hid hap; clear hap)
    have hlen : (l ++ [x]).length = l.length + 1 := by simp
    have hown5 : OwnB w5 base (.slice A5 (l ++ [x]).length c5) (l ++ [x]) := by
     have h := HAP.out.own
     rw [u8s_snoc] at h
     unfold OwnB
     rw [hlen]
     exact h
    have hb5 : Below base w w5 := HB1.out.grown HAP.out.grown HB2.out (fun g e => (ownsRow_block HO1.out e).1)
    have hm5 : Moved (fun _ => False) row w w5 := HM1.out.trans (Moved.of_grown HAP.out.grown) HR1.out
    have hr5 : ∀ g, (Value.slice A5 (l.length + 1) c5).ownBlock = some g → row = some g ∨ w.heap.size ≤ g := fun g hg => by
     rcases HAP.out.new g hg with h | h
     · exact HR1.out g h
     exact Or.inr (Nat.le_trans HM1.out.size h)
    have hd : (((k / 128 : Nat) : Int)) = (k : Int) / 128 := by omega
    refine ⟨⟨A5, c5, l ++ [x], k / 128, by rw [hlen], by rw [hd], by omega, ?_, hid ?_, hid hown5, hid hb5, hid hm5, hid (by rw [hlen]; exact hr5)⟩, ?_⟩
    · have := congrArg List.length HS.out
      simp only [List.length_cons] at this
      rw [hlen]
      omega
    · rw [List.append_assoc]
      have e := HE.out
      rw [HS.out] at e
      exact e
    simp [intOf]
    omega
  have d1 : decide ((k : Int) ≥ 128) = false := decide_eq_false (by omega)
  have d2 : decide (128 ≤ (k : Int)) = false := decide_eq_false (by omega)
  have d3 : decide (128 ≤ k) = false := decide_eq_false h1
  have HS := hid (formL_small (n := k) (by omega))
  have hkm : (k : Int) % 256 = (k : Int) := by omega
  go_wp2_with (at_builtin; go_loud (refine wpList_oper rfl (oper_append_far (.tmp 15) (.tmp 18) 34 5 rfl base i0 _ 1 Try.underlying34 HI0.out HY0.out HY1.out HY2.out rfl (by decide) (.slice A1 l.length c1) l.length (u8s l) (.int .u8 (k : Int)) rfl wr rfl rfl HO1.out _ rfl rfl (by omega) HB2.out ?_)); intro A5 c5 w5 hap; have HAP := hid hap; clear hap)
  go_ret
  have hlen : (l ++ [k]).length = l.length + 1 := by simp
  have e : l ++ [k] = bs ++ formL m := by
   have e := HE.out
   rw [HS.out] at e
   exact e
  have hb5 : Below base w w5 := HB1.out.grown HAP.out.grown HB2.out (fun g e => (ownsRow_block HO1.out e).1)
  have hm5 : Moved (fun _ => False) row w w5 := HM1.out.trans (Moved.of_grown HAP.out.grown) HR1.out
  have hr5 : ∀ g, (Value.slice A5 (l.length + 1) c5).ownBlock = some g → row = some g ∨ w.heap.size ≤ g := fun g hg => by
   rcases HAP.out.new g hg with h | h
   · exact HR1.out g h
   exact Or.inr (Nat.le_trans HM1.out.size h)
  rw [HROW.out] at hm5 hr5
  refine ⟨hb5, hm5, A5, c5, ?_, ?_, ?_⟩
  · rw [← e, hlen]; rfl
  · rw [← e]
    have h := HAP.out.own
    rw [u8s_snoc] at h
    unfold OwnB
    rw [hlen]
    exact h
  rw [← e, hlen]; exact hr5
theorem form_any {w : World} {base : Nat} {A : Option Addr} {c : Nat} {bs : List Nat} (ho : OwnB w base (.slice A bs.length c) bs) (hbase : base ≤ w.heap.size) (hb : bs.length ≤ 5000000000000) {m : Nat} (hm : m < 18446744073709551616) :
 Calls Try.prog 94 #[.slice A bs.length c, .int .u64 (m : Int)] w (fun e w' => Below base w w' ∧ ∃ A' c', e = .returned (.slice A' (bs ++ formL m).length c') ∧ OwnB w' base (.slice A' (bs ++ formL m).length c') (bs ++ formL m)) :=
 (form_grow ho hbase hb hm).mono fun _ _ ⟨h1, _, A', c', h2, h3, _⟩ => ⟨h1, A', c', h2, h3⟩
theorem OwnB.nil (w : World) (base : Nat) : OwnB w base (.slice none 0 0) [] := World.ownsRow_nil w base _ _
theorem OwnB.below {w w' : World} {base : Nat} {v : Value} {bs : List Nat} (h : OwnB w base v bs) (hb : Below w.heap.size w w') : OwnB w' base v bs := own_below h hb
theorem u8s_at {bs : List Nat} {k : Nat} (h : k < bs.length) : (u8s bs)[k]? = some (.int .u8 ((bs.getD k 0 : Nat) : Int)) := by
 simp [u8s, List.getD_eq_getElem?_getD, List.getElem?_eq_getElem h]
theorem u8s_len (bs : List Nat) : (u8s bs).length = bs.length := by simp [u8s]
theorem u8s_one (bs : List Nat) : ∀ u ∈ u8s bs, u.oneCell' = true := by
 intro u hu
 simp only [u8s, List.mem_map] at hu
 obtain ⟨x, _, rfl⟩ := hu
 rfl
theorem BytR.cells {w : World} {A : Option Addr} {n c : Nat} {bs : List Nat} (h : BytV w A n c bs) : ∀ ad, A = some ad → ∀ j u, (u8s bs)[j]? = some u → w.cell? (ad.add j) = some u := by
 intro ad hA j u hu
 have hj : j < bs.length := by
  have := (List.getElem?_eq_some_iff.1 hu).1
  rwa [u8s_len] at this
 obtain ⟨b, off, e, _, hk⟩ := h.mem (by have := h.len; omega)
 rw [hA] at e
 injection e with e
 subst e
 have ea : (⟨b, off, none⟩ : Addr).add j = ⟨b, off + j, none⟩ := by unfold Addr.add; split <;> simp_all
 rw [ea, hk j (by have := h.len; omega), ← hu, u8s_at hj]
theorem OwnB.byt {w : World} {base : Nat} {A : Option Addr} {c : Nat} {bs : List Nat} (h : OwnB w base (.slice A bs.length c) bs) (hb : ∀ x ∈ bs, x < 256) (hl : bs.length ≤ 140737488355328) : BytR (fun b => base ≤ b ∧ b < w.heap.size) w A bs.length c bs := by
 have hc := fun g hg => World.ownsRow.cells h (g := g) hg
 rcases h.2 with ⟨e, h0⟩ | ⟨g, cap, cur, e, hbg, hgg, hcap, _⟩
 · injection e with e1 e2 e3
   subst e1 e3
   exact ⟨rfl, by omega, hl, fun _ => rfl, hb, fun hn => absurd hn (by omega)⟩
 injection e with e1 e2 e3
 subst e1 e3
 refine ⟨rfl, hcap, hl, (fun e => by cases e), hb, fun _ => ⟨g, 0, rfl, ⟨hbg, (Array.getElem?_eq_some_iff.1 hgg).1⟩, fun k hk => ?_⟩⟩
 have ea : (⟨g, 0, none⟩ : Addr).add k = ⟨g, 0 + k, none⟩ := by unfold Addr.add; split <;> simp_all
 rw [← ea]
 exact hc g rfl k _ (u8s_at hk)
theorem clone_bytes {A : Option Addr} {n c : Nat} {bs : List Nat} {w : World} (h : BytV w A n c bs) :
 Calls Try.prog 65 #[.slice A n c] w (fun e w' => Below w.heap.size w w' ∧ ∃ A c, e = .returned (.slice A bs.length c) ∧ OwnB w' w.heap.size (.slice A bs.length c) bs) := by
 have q22 : ∀ (w : World) (a : Option Addr) (n c n' c' : Nat), (binOp .eql 34 (.slice a n c) (.slice none n' c')).run Try.prog w = .ok (.bool a.isNone) w := fun w a n c n' c' => Lib.run_eql_slice_nil w _ _ a n c n' c' Try.underlying34
 have hln := h.len
 cases A with
 | none =>
  obtain rfl := h.nul rfl
  obtain rfl : n = 0 := by have := h.cap; omega
  have hl : bs = [] := List.eq_nil_of_length_eq_zero h.len
  subst hl
  go_in
  go_wp2_with fail
  go_ret
  exact ⟨Below.refl _ _, none, 0, rfl, OwnB.nil _ _⟩
 | some a =>
  obtain ⟨i0, hi, hy0, hy1, hy2⟩ := info_parts infoU8
  have HI0 := hid hi
  have HY0 := hid hy0
  have HY1 := hid hy1
  have HY2 := hid hy2
  clear hi hy0 hy1 hy2
  have hfew := h.few
  have hb0 := below_alloc w (.cells #[] 5)
  have hm : BytV (w.alloc (.cells #[] 5)) (some a) n c bs := h.below hb0
  have hown : (w.alloc (.cells #[] 5)).ownsRow w.heap.size 5 1 (.slice (some ⟨w.heap.size, 0, none⟩) 0 0) 0 [] := World.ownsRow_made w #[] 0 (Nat.le_refl _) (Nat.zero_le _) rfl
  have HM := hid hm
  have HOWN := hid hown
  have HB := hid hb0
  have HN := hid hln
  clear hm hown hb0 h hln
  go_in
  go_wp2_with (at_builtin; go_loud (refine wpList_oper rfl (oper_append_mine (.tmp 5) (.tmp 6) 34 rfl w.heap.size 5 i0 _ 1 1 Try.underlying34 HI0.out HY0.out HY1.out HY2.out rfl (by decide) (.slice (some ⟨w.heap.size, 0, none⟩) 0 0) 0 [] rfl HOWN.out (some a) n c (u8s bs) rfl (by rw [u8s_len, HN.out]; omega) (fun e => by cases e) HM.out.cells (u8s_one bs) (by unfold maxLen; omega) (by omega) HB.out.size ?_)); intro A4 c4 w4 hap; have HAP := hid hap; clear hap)
  go_ret
  have h := HAP.out.own
  rw [List.nil_append, Nat.zero_add, ← HN.out] at h
  refine ⟨HB.out.grown HAP.out.grown HB.out.size (fun g hg => (ownsRow_block HOWN.out hg).1), A4, c4, ?_, h⟩
  rw [HN.out, ← Nat.zero_add n]
  rfl
def putL (bs : List Nat) (zs : List Int) : List Nat × Int := if zs.all (fun z => decide (0 ≤ z)) then (bs ++ formsL zs, 0) else ([], 1)
def BytsP (q : List Nat × Int) (w : World) (e : Ending) (w' : World) : Prop := Below w.heap.size w w' ∧ ∃ A c, e = .returned (.tuple #[.slice A q.1.length c, .int .i64 q.2]) ∧ OwnB w' w.heap.size (.slice A q.1.length c) q.1
theorem putL_cons {l : List Nat} {z : Nat} {r : List Int} : putL l ((z : Int) :: r) = putL (l ++ formL z) r := by
 unfold putL
 have e : ((z : Int) :: r).all (fun z => decide (0 ≤ z)) = r.all (fun z => decide (0 ≤ z)) := by simp
 rw [e]
 simp [formsL]
theorem putL_nil (l : List Nat) : putL l [] = (l, 0) := by simp [putL, formsL]
theorem put_any {w : World} {A B : Option Addr} {n c m d : Nat} {bs : List Nat} {zs : List Int} (h : BytV w A n c bs) (hz : IntsR (· < w.heap.size) w B m d zs) (hw : ∀ z ∈ zs, z ≤ 9223372036854775807) (hn : n ≤ 4500000000000) (hm : m ≤ 1000000) :
 Calls Try.prog 59 #[.slice A n c, .slice B m d] w (BytsP (putL bs zs) w) := by
 have HCL := hid (clone_bytes h)
 have HZ := hid hz
 have HW := hid hw
 obtain rfl := h.len
 obtain rfl := hz.len
 have hlo := HZ.out.few
 obtain ⟨q, hq⟩ : ∃ q, q = putL bs zs := ⟨_, rfl⟩
 rw [← hq]
 have HQ := hid hq
 clear h hz hw hq
 go_in
 go_wp2_with fail
 refine (HCL.out).mono ?_
 rintro e w1 ⟨hb1, A1, c1, rfl, ho1⟩
 have HB1 := hid hb1
 have HO1 := hid ho1
 clear hb1 ho1
 go_wp2_with fail
 go_loopw [6, 13] (fun sv iv wr => ∃ (A2 : Option Addr) (c2 k : Nat) (l : List Nat), sv = .slice A2 l.length c2 ∧ iv = .int .i64 (k : Int) ∧ k ≤ zs.length ∧ l.length ≤ bs.length + 10 * k ∧ Hid (putL bs zs = putL l (zs.drop k)) ∧ Hid (OwnB wr w.heap.size (.slice A2 l.length c2) l) ∧ Hid (Below w.heap.size w wr)) (fun _ iv _ => zs.length - (intOf iv).toNat)
 case atStart => exact ⟨A1, c1, 0, bs, rfl, rfl, Nat.zero_le _, by omega, hid rfl, HO1, HB1⟩
 case round =>
  obtain ⟨A2, c2, k, l, rfl, rfl, hk, hll, HP, HO2, HB2⟩ := hrel
  by_cases hkm : k < zs.length
  rotate_left
  · have hkk : k = zs.length := by omega
    subst hkk
    have d1 : decide ((zs.length : Int) < (zs.length : Int)) = false := decide_eq_false (by omega)
    have d2 : decide (zs.length < zs.length) = false := decide_eq_false (by omega)
    go_wp2_with fail
    go_ret2
    have e : q = (l, 0) := by
     rw [HQ.out, HP.out, List.drop_length, putL_nil]
    rw [e]
    exact ⟨HB2.out, A2, c2, by first | rfl | (rw [List.length_append]; rfl), HO2.out⟩
  have d1 : decide ((k : Int) < (zs.length : Int)) = true := decide_eq_true (by omega)
  have d2 : decide (k < zs.length) = true := decide_eq_true hkm
  obtain ⟨b, off, e, hlt, hcell⟩ := (HZ.out.below HB2.out).at_ hkm
  subst e
  have hdr : zs.drop k = zs.getD k 0 :: zs.drop (k + 1) := by
   rw [List.drop_eq_getElem_cons hkm, List.getD_eq_getElem?_getD, List.getElem?_eq_getElem hkm]
   rfl
  have hzw := HW.out (zs.getD k 0) (by rw [List.getD_eq_getElem?_getD, List.getElem?_eq_getElem hkm]; exact List.getElem_mem hkm)
  rw [hdr] at HP
  obtain ⟨z, hz⟩ : ∃ z, z = zs.getD k 0 := ⟨_, rfl⟩
  rw [← hz] at hcell HP hzw
  clear hz hdr
  by_cases h0 : z < 0
  · have d3 : decide (z < 0) = true := decide_eq_true h0
    go_wp2_with fail
    go_ret2
    have e : q = ([], 1) := by
     rw [HQ.out, HP.out]
     unfold putL
     rw [if_neg]
     simp
     omega
    rw [e]
    exact ⟨HB2.out, none, 0, rfl, OwnB.nil _ _⟩
  have d3 : decide (z < 0) = false := decide_eq_false h0
  obtain ⟨zn, rfl⟩ : ∃ zn : Nat, z = (zn : Int) := ⟨z.toNat, by omega⟩
  have HF := hid (fun (w' : World) (hh : OwnB w' w.heap.size (.slice A2 l.length c2) l) (hs : w.heap.size ≤ w'.heap.size) => form_any hh hs (by omega) (m := zn) (by omega))
  have HS2 := hid HB2.out.size
  go_wp2_with fail
  refine (HF.out wr HO2.out HS2.out).mono ?_
  rintro e w5 ⟨hb5, A5, c5, rfl, ho5⟩
  have HB5 := hid (HB2.out.trans hb5)
  have HO5 := hid ho5
  clear hb5 ho5
  go_wp2_with fail
  go_roundw
  case measure => simp [intOf]; omega
  refine ⟨A5, c5, k + 1, l ++ formL zn, by rw [List.length_append], by simp, hkm, ?_, hid (HP.out.trans putL_cons), HO5, HB5⟩
  have := (formL_len zn).2
  rw [List.length_append]
  omega
theorem zig_xor {z : Int} (h1 : -9223372036854775808 ≤ z) (h2 : z ≤ 9223372036854775807) : bits .xor .u64 (IntKind.u64.wrap (IntKind.u64.wrap z * 2)) (IntKind.u64.wrap (z / 9223372036854775808)) = ((zig z : Nat) : Int) := by
 by_cases h : 0 ≤ z
 · have e1 : IntKind.u64.wrap (IntKind.u64.wrap z * 2) = ((2 * z.toNat : Nat) : Int) := by rw [IntKind.wrap_u64, IntKind.wrap_u64]; omega
   have e2 : IntKind.u64.wrap (z / 9223372036854775808) = ((0 : Nat) : Int) := by rw [IntKind.wrap_u64]; omega
   rw [e1, e2, bits_xor_u64_nat _ _ (by omega) (by decide), Nat.xor_zero]
   unfold zig
   rw [if_pos h]
 have e1 : IntKind.u64.wrap (IntKind.u64.wrap z * 2) = (((2 * z + 18446744073709551616).toNat : Nat) : Int) := by rw [IntKind.wrap_u64, IntKind.wrap_u64]; omega
 have e2 : IntKind.u64.wrap (z / 9223372036854775808) = ((2 ^ 64 - 1 : Nat) : Int) := by rw [IntKind.wrap_u64]; omega
 rw [e1, e2, bits_xor_u64_nat _ _ (by omega) (by decide), Nat.xor_comm, Lib.xor_ones64 _ (by omega)]
 unfold zig
 rw [if_neg h]
 omega
theorem zig_lt {z : Int} (h1 : -9223372036854775808 ≤ z) (h2 : z ≤ 9223372036854775807) : zig z < 18446744073709551616 := by
 unfold zig
 split <;> omega
theorem signed_any {w : World} {A : Option Addr} {n c : Nat} {bs : List Nat} (h : BytV w A n c bs) (z : Int) (h1 : -9223372036854775808 ≤ z) (h2 : z ≤ 9223372036854775807) (hn : n ≤ 4500000000000) :
 Calls Try.prog 60 #[.slice A n c, .int .i64 z] w (fun e w' => Below w.heap.size w w' ∧ ∃ A' c', e = .returned (.slice A' (bs ++ formL (zig z)).length c') ∧ OwnB w' w.heap.size (.slice A' (bs ++ formL (zig z)).length c') (bs ++ formL (zig z))) := by
 have HX := zig_xor h1 h2
 have HL := hid (zig_lt h1 h2)
 obtain ⟨x, hx⟩ : ∃ x, x = zig z := ⟨_, rfl⟩
 rw [← hx] at HX HL ⊢
 clear hx
 have HCL := hid (clone_bytes h)
 obtain rfl := h.len
 clear h
 go_in
 go_wp2_with fail
 refine (HCL.out).mono ?_
 rintro e w1 ⟨hb1, A1, c1, rfl, ho1⟩
 have HB1 := hid hb1
 have HO1 := hid ho1
 clear hb1 ho1
 have HF := hid (form_any HO1.out HB1.out.size (by omega) HL.out)
 go_wp2_with fail
 refine (HF.out).mono ?_
 rintro e w2 ⟨hb2, A2, c2, rfl, ho2⟩
 have HB2 := hid (HB1.out.trans hb2)
 have HO2 := hid ho2
 clear hb2 ho2
 go_wp2_with fail
 go_ret
 exact ⟨HB2.out, A2, c2, by first | rfl | (rw [List.length_append]; rfl), HO2.out⟩
end Go.Proofs.Ytplecfbdchmogaa
