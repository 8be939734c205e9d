/- A word is appended to a full row: a new row, with words 0 behind it. -/
import Derived.Test.YtgiepikoffaaiaaDoorLongP
import Derived.Test.YtgiepikoffaaiaaDoorWords
namespace Go.Proofs.YtgiepikoffaaiaaDoor
open Go Go.RowKit

theorem zero_words (n : Nat) : Builtin.zeroCells #[Value.int .u32 0] n = cellsU (List.replicate n 0) := by
  rw [cellsU_zero]
  apply Array.ext
  · simp [Builtin.zeroCells]
  · intro i h1 h2
    simp [Builtin.zeroCells, Nat.mod_one]

theorem oper_append_full {o : Oper} {a : Act} {w : World} {K : Act → World → Prop} {Q : Exit → Act → World → Prop}
    (s x : Operand) (hop : o.op = Op.call { callee := Callee.builtin Builtin.append, args := #[s, x], argTypes := #[23, 23] })
    {W : World} {g : Nat} {X : List Nat} (hr : RowB W g X) (hl : X.length ≤ 1000000) (hW : w = W.alloc (.cells #[.int .u32 0] 34))
    (hs : a.eval s = .slice (some ⟨g, 0, none⟩) X.length X.length) (hx : a.eval x = .slice (some ⟨W.heap.size, 0, none⟩) 1 1)
    (hK : ∀ g' c' z w', X.length + 1 ≤ c' → W.heap.size ≤ g' → Below W.heap.size W w' → RowB w' g' ((X ++ [0]) ++ List.replicate z 0) → K (a.put o.dst (.slice (some ⟨g', 0, none⟩) (X.length + 1) c')) w') : Oper.wp Tryd.prog o a w K Q := by
  obtain ⟨i, hi, h1, h2, h3⟩ := info_parts infoU
  subst hW
  have hr2 : RowB (W.alloc (.cells #[.int .u32 0] 34)) g X := Blk.alloc hr _
  have hg2 := hr2.lt
  obtain ⟨w, hw⟩ : ∃ w, w = W.alloc (.cells #[.int .u32 0] 34) := ⟨_, rfl⟩
  have hn : RowB w W.heap.size [0] := by rw [hw]; exact Blk.new _ _ _
  have hbw : Below W.heap.size W w := by rw [hw]; exact below_alloc _ _
  rw [← hw] at hr2 hg2
  rw [← hw]
  have hrun := run_append_grow (P := Tryd.prog) w 23 o.type 34 i (.int .u32 0) Tryd.underlying23 hi h1 ⟨g, 0, none⟩ X.length X.length (cellsU X).toList (by rw [h2, Array.length_toList, cellsU_size, Nat.mul_one]) (fun j v hv => by
    rw [Array.getElem?_toList] at hv
    have ea : (⟨g, 0, none⟩ : Addr).add j = ⟨g, j, none⟩ := by unfold Addr.add; split <;> simp_all
    rw [ea, Blk.cell hr2]; exact hv) ⟨W.heap.size, 0, none⟩ 1 1 (cellsU [0]).toList (by rw [h2, Array.length_toList, cellsU_size]; rfl) (fun j v hv => by
    rw [Array.getElem?_toList] at hv
    have ea : (⟨W.heap.size, 0, none⟩ : Addr).add j = ⟨W.heap.size, j, none⟩ := by unfold Addr.add; split <;> simp_all
    rw [ea, Blk.cell hn]; exact hv) (by omega) (by omega) (by
    rw [h3]
    exact growslice_fits (by omega) (by omega))
  have hcells : (cellsU X).toList.toArray ++ (cellsU [0]).toList.toArray ++ Builtin.zeroCells (Value.int .u32 0).cells (grownCap w (X.length + 1) X.length 34 - (X.length + 1)) = cellsU ((X ++ [0]) ++ List.replicate (grownCap w (X.length + 1) X.length 34 - (X.length + 1)) 0) := by
    rw [show (Value.int .u32 0).cells = #[Value.int .u32 0] from rfl, zero_words]
    simp [cellsU]
  rw [hcells] at hrun
  unfold Oper.wp
  simp [execOp, hop, resolve, invoke, builtin, hs, hx, hrun, Result.andThen]
  refine hK _ _ (grownCap w (X.length + 1) X.length 34 - (X.length + 1)) _ (grownCap_ge _ _ _ _) hbw.size ?_ (by rw [List.append_assoc]; exact Blk.new _ _ _)
  exact (below_drewN hbw 1).alloc hbw.size _

theorem ok_app {a b : List Nat} (ha : Ok a) (hb : Ok b) : Ok (a ++ b) := fun x hx => (List.mem_append.1 hx).elim (ha x) (hb x)
/-- The rest and the quotient's words from the k-th on, as they stand before the round. -/
structure LongS (X D : List Nat) (L qn k : Nat) (l qs : List Nat) : Prop where
  len : l.length = L
  ok : Ok l
  qlen : qs.length = qn
  qok : Ok qs
  num : val X = pw k * val (qs.drop k) * val D + val l
  low : val (l.drop k) < val D
theorem LongS.start {X D : List Nat} {qn : Nat} (hX : Ok X) (hD0 : 0 < D.length) (htop : wd D (D.length - 1) ≠ 0) (hle : D.length ≤ X.length) (hqn : qn = X.length + 1 - D.length) (z : Nat) : LongS X D (X.length + 1 + z) qn qn ((X ++ [0]) ++ List.replicate z 0) (List.replicate qn 0) := by
  have hv : val ((X ++ [0]) ++ List.replicate z 0) = val X := by
    rw [val_append, val_append, val_zeros]; simp [val]
  refine ⟨by simp; omega, ok_app (ok_app hX (ok_cons.2 ⟨by omega, ok_nil⟩)) (ok_zero z), by simp, ok_zero qn, ?_, ?_⟩
  · rw [List.drop_eq_nil_of_le (by simp), hv]; simp [val]
  · obtain ⟨n, hn⟩ : ∃ n, D.length = n + 1 := ⟨D.length - 1, by omega⟩
    rw [hn, Nat.add_sub_cancel] at htop
    have h1 := top_val hn
    have h2 := val_lt hX
    have h3 := val_split ((X ++ [0]) ++ List.replicate z 0) qn
    rw [hv] at h3
    have h4 : pw X.length = pw qn * pw n := by rw [← pw_add]; congr 1; omega
    have h5 : pw n ≤ val D := Nat.le_trans (Nat.le_mul_of_pos_right _ (by omega)) h1
    have h6 : pw qn * pw n ≤ pw qn * val D := Nat.mul_le_mul_left _ h5
    exact Nat.lt_of_mul_lt_mul_left (a := pw qn) (by omega)
theorem drop_set_same {qs : List Nat} {k q : Nat} (hk : k < qs.length) : (qs.set k q).drop k = q :: qs.drop (k + 1) := by
  rw [List.drop_set, if_neg (by omega), Nat.sub_self, List.drop_eq_getElem_cons hk]
  rfl
theorem LongS.step {X D : List Nat} {L qn k q : Nat} {l l' qs : List Nat} (h : LongS X D L qn (k + 1) l qs) (hD : Ok D) (hs : SegE k (D.length + 1) l l') (hk : k < qn) (hql : q < 4294967296) (hq : sv l k (D.length + 1) = q * val D + sv l' k (D.length + 1)) (hr : sv l' k (D.length + 1) < val D) : LongS X D L qn k l' (qs.set k q) := by
  obtain ⟨h1, h2⟩ := long_step hD rfl hs h.ok h.low hq hr
  refine ⟨hs.len.trans h.len, hs.ok, by rw [List.length_set]; exact h.qlen, ok_set h.qok _ hql, ?_, h2⟩
  rw [drop_set_same (by rw [h.qlen]; exact hk), h.num, h1, pw_succ]
  simp only [val]
  grind
theorem LongS.fin {X D : List Nat} {L qn A V B : Nat} {l qs : List Nat} (h : LongS X D L qn 0 l qs) (hX : val X = A * B) (hD : val D = V * B) (hB : 0 < B) : val qs = A / V ∧ val l / B = A % V := by
  have h1 := h.num
  have h2 := h.low
  rw [List.drop_zero, pw_zero, Nat.one_mul, hX, hD] at h1
  rw [List.drop_zero, hD] at h2
  have hV : 0 < V * B := by omega
  constructor
  · rw [← Nat.mul_div_mul_right A V hB, h1, Nat.add_comm, Nat.add_mul_div_right _ _ hV, Nat.div_eq_of_lt h2, Nat.zero_add]
  · have h3 : A * B % (V * B) = val l := by rw [h1, Nat.add_comm, Nat.add_mul_mod_self_right, Nat.mod_eq_of_lt h2]
    rw [← h3, Nat.mul_mod_mul_right, Nat.mul_div_cancel _ hB]
theorem LongS.take {X D : List Nat} {L qn : Nat} {l qs : List Nat} (h : LongS X D L qn 0 l qs) (hD : Ok D) {n : Nat} (hn : D.length ≤ n) : val (l.take n) = val l := by
  have h2 := h.low
  rw [List.drop_zero] at h2
  have h3 := val_lt hD
  have h4 := pw_le hn
  have h5 := val_split l n
  rcases Nat.eq_zero_or_pos (val (l.drop n)) with h6 | h6
  · rw [h6] at h5; omega
  · have := Nat.le_mul_of_pos_right (pw n) h6
    omega
theorem RowB.part {w : World} {g : Nat} {l : List Nat} (h : RowB w g l) (ho : Ok l) {n c : Nat} (hn : n ≤ l.length) (hc : n ≤ c) (hf : n ≤ 35184372087808) : NatV w (some ⟨g, 0, none⟩) n c (l.take n) :=
  ⟨by rw [List.length_take, Nat.min_eq_left hn], hc, hf, (fun e => by cases e), ok_take ho n, fun _ => ⟨g, 0, rfl, h.lt, fun k hk => by rw [Nat.zero_add, wd_take hk]; exact RowB.cell h (by omega)⟩⟩
theorem RowB.natO {w : World} {g g' : Nat} {l : List Nat} (h : RowB w g l) (ho : Ok l) (hf : l.length ≤ 35184372087808) (hne : g ≠ g') : NatO g' w (some ⟨g, 0, none⟩) l.length l.length l := h.natR ho hf ⟨h.lt, hne⟩

end Go.Proofs.YtgiepikoffaaiaaDoor
