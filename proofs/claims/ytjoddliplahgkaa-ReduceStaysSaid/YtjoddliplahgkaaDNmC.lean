/- core: norm: helpers. -/
import Derived.Test.YtjoddliplahgkaaDNmB
import Derived.Deep.RegionLawGrows
import Derived.Deep.Upon
namespace Go.Proofs.Ytjoddliplahgkaa
open Go.Lib (hid)
open Go.RowKit
theorem own_intsF {w : World} {base n c : Nat} {A : Option Addr} {zs : List Int} (h : w.ownsRow base 3 1 (.slice A n c) n (zs.map (Value.int .i64))) (hn : n = zs.length) (hf : n ≤ 5864062014805) : IntsR (fun q => base ≤ q ∧ q < w.heap.size) w A n c zs := by
 have h1 := own_ints h hn hf
 refine ⟨h1.len, h1.few, fun hp => ?_⟩
 obtain ⟨b, off, e, hb, hm⟩ := h1.mem hp
 subst e
 exact ⟨b, off, rfl, ⟨(ownsRow_block h rfl).1, hb⟩, hm⟩
def IntsF (zs : List Int) (w : World) (e : Ending) (w' : World) : Prop := Below w.heap.size w w' ∧ ∃ A n c, e = .returned (.slice A n c) ∧ IntsR (fun q => w.heap.size ≤ q ∧ q < w'.heap.size) w' A n c zs
set_option linter.unusedSimpArgs false in
set_option linter.unusedVariables false in
set_option maxRecDepth 100000 in
set_option maxHeartbeats 4000000 in
theorem bindersF_any {A : Option Addr} {nn c : Nat} {l : List Nd} {w : World} (h : TermV w A nn c l) (hs : shapeI l = 0) :
 Calls Try.prog 75 #[.slice A nn c] w (IntsF (arL (topOf l).1.op (topOf l).1.b 0 (topOf l).2) w) := by
 obtain ⟨_, n, ats, k, hpp, hrow, hfs⟩ := shape_ok hs
 have htop : topOf l = (n, k) := by
  unfold topOf
  rw [if_pos hs, hpp]
 have hfl : flen k ≤ 4096 := by have := flen_le_fsize k; omega
 have HTOP := hid htop
 have hsh := shape_any h
 rw [hs] at hsh
 have hparts : ∀ w2, Below w.heap.size w w2 → Calls Try.prog 93 #[.slice A nn c] w2 (PartsPost n k w2) := fun w2 hb => parts_any (h.below hb) hs hpp
 have HSH := hid hsh
 have HPARTS := hid hparts
 have HFL := hid hfl
 clear hsh hparts htop hs hpp hrow hfl h
 go_in
 go_wp2_with fail
 refine (HSH.out).mono ?_
 rintro e w2 ⟨rfl, hb2⟩
 have HB2 := hid hb2
 clear hb2
 go_wp2_with fail
 refine (HPARTS.out _ HB2.out).mono ?_
 rintro e w3 ⟨hb3, A1, k1, A2, k2, xs1, rfl, ho1, ho2, hr⟩
 go_wp2_with fail
 go_ret
 rw [HTOP.out]
 refine ⟨HB2.out.trans (hb3.mono HB2.out.size), _, _, _, rfl, ?_⟩
 exact (own_intsF ho2 (by rw [arL_len]) (by have := HFL.out; omega)).keep fun q hq => ⟨⟨by have := HB2.out.size; have := hq.1; omega, hq.2⟩, fun _ => rfl⟩
theorem kid_flen : ∀ (F : Fo), (kidL F).length = flen F
 | .nil => rfl
 | .cons _ _ _ _ x => by simp only [kidL, List.length_cons, flen, kid_flen x]
theorem binders_fit {b : Bk} {free : Int} {x : TT} (hx : FitT b free x) : (topOf (rowT x)).1 = x.1 ∧ (topOf (rowT x)).2 = x.2.2 := by
 rw [rt_top hx.rt]
 exact ⟨rfl, rfl⟩
theorem around_binds {b : Bk} {cv : List (List Nd)} {free : Int} {f : Fc} (hf : FocG b free f) (hrd : readyF b cv f = false) (i : Nat) : 0 ≤ aroundI f.1.1.op f.1.1.b (i : Int) ∧ (aroundI f.1.1.op f.1.1.b (i : Int)).toNat ≤ bindsN f.1.1 := by
 have h7 : f.1.1.op ≠ 7 := fun h => by
  unfold readyF at hrd
  rw [if_neg (by omega), if_pos (.inl h)] at hrd
  cases hrd
 have h0 := (hf.head.okt.around (i : Int)).1
 refine ⟨h0, ?_⟩
 unfold bindsN
 unfold aroundI at h0 ⊢
 split
 · rename_i h1
   rw [if_pos (by omega)]
   omega
 split
 · rename_i h1 h2
   rw [if_neg (by omega), if_pos (by omega)]
   omega
 omega
def appN (ys : List TT) : NsR → NsR
 | .bad e => .bad e
 | .done zs k => .done (ys ++ zs) k
theorem appN_appN (ys zs : List TT) (r : NsR) : appN ys (appN zs r) = appN (ys ++ zs) r := by cases r <;> simp [appN]
theorem nms_cons {nm : List (List Nd) → Nat → TT → NmR} {cvs : Nat → List (List Nd)} {i n : Nat} {x : TT} {r : List TT} : nmsL nm cvs i (x :: r) n = match nm (cvs i) n x with
 | .bad e => .bad e
 | .done y m => appN [y] (nmsL nm cvs (i + 1) r m) := by
 simp only [nmsL]
 cases nm (cvs i) n x with
 | bad e => rfl
 | done y m =>
  simp only
  cases nmsL nm cvs (i + 1) r m <;> rfl
structure NsI (nm : List (List Nd) → Nat → TT → NmR) (cvs : Nat → List (List Nd)) (L : List TT) (n0 i : Nat) (ys : List TT) (n : Nat) : Prop where
 len : ys.length = i
 le : n ≤ n0
 eq : nmsL nm cvs 0 L n0 = appN ys (nmsL nm cvs i (L.drop i) n)
theorem NsI.start (nm : List (List Nd) → Nat → TT → NmR) (cvs : Nat → List (List Nd)) (L : List TT) (n0 : Nat) : NsI nm cvs L n0 0 [] n0 := by
 refine ⟨rfl, Nat.le_refl _, ?_⟩
 rw [List.drop_zero]
 cases nmsL nm cvs 0 L n0 <;> simp [appN]
section
variable {nm : List (List Nd) → Nat → TT → NmR} {cvs : Nat → List (List Nd)} {L ys : List TT} {n0 i n : Nat}
theorem NsI.bad (h : NsI nm cvs L n0 i ys n) {x : TT} (hx : L[i]? = some x) {e : Int} (hn : nm (cvs i) n x = .bad e) : nmsL nm cvs 0 L n0 = .bad e := by
 obtain ⟨hi, hx2⟩ := List.getElem?_eq_some_iff.1 hx
 rw [h.eq, List.drop_eq_getElem_cons hi, hx2, nms_cons, hn]
 rfl
theorem NsI.next (h : NsI nm cvs L n0 i ys n) {x y : TT} (hx : L[i]? = some x) {m : Nat} (hn : nm (cvs i) n x = .done y m) (hm : m ≤ n) : NsI nm cvs L n0 (i + 1) (ys ++ [y]) m := by
 obtain ⟨hi, hx2⟩ := List.getElem?_eq_some_iff.1 hx
 refine ⟨by rw [List.length_append, h.len]; rfl, Nat.le_trans hm h.le, ?_⟩
 rw [h.eq, List.drop_eq_getElem_cons hi, hx2, nms_cons, hn]
 exact appN_appN _ _ _
theorem NsI.fin (h : NsI nm cvs L n0 i ys n) (hi : L.length ≤ i) : nmsL nm cvs 0 L n0 = .done ys n := by
 rw [h.eq, List.drop_of_length_le hi]
 simp [nmsL, appN]
end
theorem set_part {ys L : List TT} {i : Nat} (hl : ys.length = i) {y : TT} (hi : i < L.length) : (ys ++ L.drop i).set i y = (ys ++ [y]) ++ L.drop (i + 1) := by
 rw [List.drop_eq_getElem_cons hi, List.set_append_right _ _ (by omega), hl, Nat.sub_self, List.set_cons_zero]
 simp
theorem part_at {ys L : List TT} {i : Nat} (hl : ys.length = i) {x : TT} (hx : L[i]? = some x) : (ys ++ L.drop i).getD i (default, [], .nil) = x := by
 rw [List.getD_eq_getElem?_getD, List.getElem?_append_right (by omega), hl, Nat.sub_self, List.getElem?_drop, Nat.add_zero, hx]
 rfl
theorem oper_append_grows {P : Program} {o : Oper} {a : Act} {w : World} {K : Act → World → Prop} {Q : Exit → Act → World → Prop}
 (hg : o.guard = none) (s x : Operand) (t : TypeId) (hop : o.op = Op.call { callee := Callee.builtin Builtin.append, args := #[s, x], argTypes := #[t, t] })
 (e : TypeId) (i : TypeInfo) (z : Value) (size bytes : Nat) (h1 : P.underlying t = some (.slice e)) (h2 : P.info? e = some i) (h3 : i.zero = some z) (h4 : i.size = size) (h5 : i.bytes = bytes) (h6 : z.cells.size = size) (h7 : 0 < size)
 (ao : Option Addr) (n cap : Nat) (olds : List Value) (hs : a.eval s = .slice ao n cap) (hnone : ao = none → n = 0 ∧ cap = 0) (hlo : olds.length = n * size) (holds : ∀ b, ao = some b → ∀ j u, olds[j]? = some u → w.cell? (b.add j) = some u)
 (ad : Addr) (m c : Nat) (news : List Value) (hx : a.eval x = .slice (some ad) m c) (hn : news.length = m * size) (hc : ∀ j u, news[j]? = some u → w.cell? (ad.add j) = some u) (h1c : ∀ u ∈ news, u.oneCell' = true)
 (hfull : cap < n + m) (b1 : n + m ≤ maxLen) (b2 : (n + m) * bytes ≤ 140737488355328)
 (hK : ∀ v' w', w'.ownsRow w.heap.size e size v' (n + m) (olds ++ news) → w.grownBy w' none → K (a.put o.dst v') w') : Oper.wp P o a w K Q := by
 have h := step_append_grows (Q := Q) (K := K) (ops := #[]) (E := True) hg s x t hop e i z size bytes h1 h2 h3 h4 h5 h6 h7 ao n cap olds hs hnone hlo holds ad m c news hx hn hc h1c hfull b1 b2 hK
 have hw : Region.wanted o (yielded #[] a.tmps) = true := by simp [Region.wanted, hg]
 rwa [if_pos hw] at h
theorem oper_append_none {P : Program} {o : Oper} {a : Act} {w : World} {K : Act → World → Prop} {Q : Exit → Act → World → Prop}
 (s x : Operand) (t : TypeId) (hop : o.op = Op.call { callee := Callee.builtin Builtin.append, args := #[s, x], argTypes := #[t, t] })
 (e : TypeId) (i : TypeInfo) (h1 : P.underlying t = some (.slice e)) (h2 : P.info? e = some i)
 (ao : Option Addr) (n cap : Nat) (hs : a.eval s = .slice ao n cap) (hle : n ≤ cap) (ad : Option Addr) (c : Nat) (hx : a.eval x = .slice ad 0 c)
 (hK : K (a.put o.dst (.slice ao n cap)) w) : Oper.wp P o a w K Q := by
 have hsrc : Src P i.size t (.slice ad 0 c) 0 [] w := by
  cases ad with
  | none => exact Src.ofNil w h1 c
  | some ad => exact Src.ofSlice w h1 ad 0 c [] (by simp) (fun j u h => by simp at h) (fun u h => by cases h)
 have hrun := run_append_nothing (P := P) w t t o.type e i h1 h2 ao n cap hle (.slice ad 0 c) hsrc
 unfold Oper.wp
 simp [execOp, hop, resolve, invoke, builtin, hs, hx, hrun, Result.andThen]
 exact hK
theorem vals_cells {w : World} {b off m : Nat} (h : ∀ j, j < m → ∃ u, w.cell? ⟨b, off + j, none⟩ = some u) : ∃ vs : List Value, vs.length = m ∧ ∀ j, j < m → w.cell? ⟨b, off + j, none⟩ = vs[j]? := by
 refine ⟨(List.range m).map fun j => (w.cell? ⟨b, off + j, none⟩).getD undef, by simp, fun j hj => ?_⟩
 obtain ⟨u, hu⟩ := h j hj
 rw [List.getElem?_map, List.getElem?_range hj]
 simp [hu]
structure BndW (w : World) (Ad : Option Addr) (nd cd : Nat) (xs : List Value) : Prop where
 len : xs.length = nd
 cap : nd ≤ cd
 few : nd ≤ 1000
 sl : ∀ x ∈ xs, ∃ A1 n1 c1, x = Value.slice A1 n1 c1
 mem : 0 < nd → ∃ gd, Ad = some ⟨gd, 0, none⟩ ∧ gd < w.heap.size ∧ ∀ k, k < nd → w.cell? ⟨gd, k * 2, none⟩ = xs[k]? ∧ w.cell? ⟨gd, k * 2 + 1, none⟩ = some (.slice none 0 0)
theorem BndW.moved {S : Nat → Prop} {w w' : World} {Ad : Option Addr} {nd cd : Nat} {xs : List Value} (h : BndW w Ad nd cd xs) (hm : Moved S none w w') (hS : ∀ q, Ad = some ⟨q, 0, none⟩ → ¬ S q) : BndW w' Ad nd cd xs :=
 ⟨h.len, h.cap, h.few, h.sl, fun hn => by
  obtain ⟨gd, e, hl, hk⟩ := h.mem hn
  have hb := hm.block gd hl (hS gd e) (by simp)
  refine ⟨gd, e, Nat.lt_of_lt_of_le hl hm.size, fun k hk2 => ?_⟩
  obtain ⟨h1, h2⟩ := hk k hk2
  exact ⟨(cell_of_heap hb _).trans h1, (cell_of_heap hb _).trans h2⟩⟩
theorem setKs_sz : ∀ (F : Fo) (ys : List TT), (∀ y ∈ ys, szT y ≤ 4096) → (row (setKs F ys)).length ≤ (row F).length + 4096 * ys.length
 | .nil, _, _ => by simp [setKs]
 | .cons p n a k x, [], _ => by simp [setKs]
 | .cons p n a k x, y :: ys, h => by
  have h1 := setKs_sz x ys (fun z hz => h z (by simp [hz]))
  have h2 := h y (by simp)
  simp only [setKs]
  rw [sz_cons, sz_cons, List.length_cons]
  have h3 : szT (y.1, y.2.1, y.2.2) = szT y := rfl
  omega
theorem withKs_sz {x : TT} {ys : List TT} (h : ∀ y ∈ ys, szT y ≤ 4096) : szT (withKs x ys) ≤ szT x + 4096 * ys.length := by
 have h1 := setKs_sz x.2.2 ys h
 have e1 : szT (withKs x ys) = 1 + x.2.1.length + (row (setKs x.2.2 ys)).length := szT_eq _ _ _
 have e2 : szT x = 1 + x.2.1.length + (row x.2.2).length := szT_eq x.1 x.2.1 x.2.2
 omega
theorem BndW.of_own {w : World} {base nd cd : Nat} {Ad : Option Addr} {xs : List Value} (h : w.ownsRow base 43 2 (.slice Ad nd cd) nd (pairsB xs)) (hl : xs.length = nd) (hs : ∀ x ∈ xs, ∃ A1 n1 c1, x = Value.slice A1 n1 c1) (hf : nd ≤ 1000) : BndW w Ad nd cd xs := by
 refine ⟨hl, ?_, hf, hs, fun hn => ?_⟩
 · rcases h.2 with ⟨hv, h0⟩ | ⟨g, cap, cur, hv, _, _, h2, _⟩
   · omega
   injection hv with _ _ e3; omega
 have h0 := h
 rcases h.2 with ⟨_, h2⟩ | ⟨g, cap, cur, hv, hg, hh, _⟩
 · omega
 injection hv with e1 e2 e3
 subst e1
 refine ⟨g, rfl, (ownsRow_block h0 rfl).2.1, fun k hk => ?_⟩
 obtain ⟨p1, p2⟩ := pairsB_at xs k (by omega)
 exact ⟨(h0.cellAt (k * 2) (by omega)).trans p1, (h0.cellAt (k * 2 + 1) (by omega)).trans p2⟩
theorem oper_append_ctx {o : Oper} {a : Act} {w : World} {K : Act → World → Prop} {Q : Exit → Act → World → Prop}
 (hg : o.guard = none) (s x : Operand) (hop : o.op = Op.call { callee := Callee.builtin Builtin.append, args := #[s, x], argTypes := #[27, 27] })
 {R : Nat → Prop} {cA : Option Addr} {cn cc : Nat} {cv : List (List Nd)} (hc : CtxW R w cA cn cc cv) (hR : ∀ q, R q → q < w.heap.size) (hcn : cn ≤ 990000) (hs : a.eval s = .slice cA cn cn)
 {Ad : Option Addr} {nd cd k : Nat} {xs : List Value} (hd : BndW w Ad nd cd xs) (hk : k ≤ nd) (hx : a.eval x = .slice Ad k cd)
 (hK : ∀ cA' cc' w', Below w.heap.size w w' → CtxW (fun q => R q ∨ (w.heap.size ≤ q ∧ q < w'.heap.size)) w' cA' (cn + k) cc' (cv ++ List.replicate k []) → K (a.put o.dst (.slice cA' (cn + k) cc')) w') : Oper.wp Try.prog o a w K Q := by
 obtain ⟨i0, hi, hy0, hy1, hy2⟩ := info_parts infoBd
 by_cases h0 : k = 0
 · subst h0
   refine oper_append_none s x 27 hop 43 i0 Try.underlying27 hi cA cn cn hs (Nat.le_refl _) Ad cd hx ?_
   have h9 := hK cA cn w (Below.refl _ _) (by
    rw [List.replicate_zero, List.append_nil, Nat.add_zero]
    exact ⟨hc.len, Nat.le_refl _, hc.few, fun e => by have := hc.nul e; have := hc.cap; omega, fun hn => by
     obtain ⟨b, off, e, hb, hm⟩ := hc.mem hn
     refine ⟨b, off, e, .inl hb, fun j hj => ?_⟩
     obtain ⟨A1, n1, c1, A2, n2, c2, y1, y2, y3⟩ := hm j hj
     exact ⟨A1, n1, c1, A2, n2, c2, y1, y2, y3.keep fun q hq => ⟨.inl hq, fun _ => rfl⟩⟩⟩)
   rw [Nat.add_zero] at h9
   exact h9
 have hk0 : 0 < k := by omega
 obtain ⟨gd, rfl, hgd, hdm⟩ := hd.mem (by omega)
 have hcf := hc.few
 have hdf := hd.few
 -- what the old row holds
 have hold : ∃ olds : List Value, olds.length = cn * 2 ∧ ∀ b off, cA = some ⟨b, off, none⟩ → ∀ j, j < cn * 2 → w.cell? ⟨b, off + j, none⟩ = olds[j]? := by
  by_cases hn : 0 < cn
  · obtain ⟨b, off, e, hb, hm⟩ := hc.mem hn
    obtain ⟨vs, v1, v2⟩ := vals_cells (w := w) (b := b) (off := off) (m := cn * 2) (fun j hj => by
     obtain ⟨A1, n1, c1, A2, n2, c2, y1, y2, _⟩ := hm (j / 2) (by omega)
     by_cases hp : j % 2 = 0
     · exact ⟨_, by rw [show off + j = off + j / 2 * 2 from by omega]; exact y1⟩
     exact ⟨_, by rw [show off + j = off + j / 2 * 2 + 1 from by omega]; exact y2⟩)
    refine ⟨vs, v1, fun b' off' e' j hj => ?_⟩
    rw [e] at e'
    simp only [Option.some.injEq, Addr.mk.injEq] at e'
    obtain ⟨rfl, rfl, _⟩ := e'
    exact v2 j hj
  exact ⟨[], by simp; omega, fun b off e j hj => absurd hj (by omega)⟩
 obtain ⟨olds, ho1, ho2⟩ := hold
 have hnl : (pairsB (xs.take k)).length = k * 2 := by rw [pairsB_len, List.length_take, hd.len, Nat.min_eq_left hk]
 have hnew : ∀ j u, (pairsB (xs.take k))[j]? = some u → w.cell? ((⟨gd, 0, none⟩ : Addr).add j) = some u := by
  intro j u hu
  have hj : j < k * 2 := by
   have := (List.getElem?_eq_some_iff.1 hu).1
   omega
  have ea : (⟨gd, 0, none⟩ : Addr).add j = ⟨gd, j, none⟩ := by unfold Addr.add; split <;> simp_all
  rw [ea]
  have hl : j / 2 < (xs.take k).length := by rw [List.length_take, hd.len]; omega
  obtain ⟨p1, p2⟩ := pairsB_at (xs.take k) (j / 2) hl
  obtain ⟨d1, d2⟩ := hdm (j / 2) (by omega)
  by_cases hp : j % 2 = 0
  · rw [show j = j / 2 * 2 from by omega] at hu ⊢
    rw [p1, List.getElem?_take, if_pos (by omega)] at hu
    rw [d1]; exact hu
  rw [show j = j / 2 * 2 + 1 from by omega] at hu ⊢
  rw [p2] at hu
  rw [d2]; exact hu
 have hone : ∀ u ∈ pairsB (xs.take k), u.oneCell' = true := by
  have : ∀ (ys : List Value), (∀ x ∈ ys, ∃ A1 n1 c1, x = Value.slice A1 n1 c1) → ∀ u ∈ pairsB ys, u.oneCell' = true := by
   intro ys
   induction ys with
   | nil => intro _ u hu; cases hu
   | cons y ys ih =>
    intro h u hu
    simp only [pairsB, List.mem_cons] at hu
    rcases hu with rfl | rfl | hu
    · obtain ⟨A1, n1, c1, rfl⟩ := h u (by simp)
      rfl
    · rfl
    · exact ih (fun x hx => h x (by simp [hx])) u hu
  exact this _ fun x hx => hd.sl x (List.mem_of_mem_take hx)
 refine oper_append_grows hg s x 27 hop 43 i0 _ 2 48 Try.underlying27 hi hy0 hy1 hy2 rfl (by decide) cA cn cn olds hs (fun e => by have := hc.nul e; have := hc.cap; omega) ho1 (fun b e j u hu => ?_) ⟨gd, 0, none⟩ k cd (pairsB (xs.take k)) hx hnl hnew hone (by omega) (by unfold maxLen; omega) (by omega) (fun v' w' hown hgr => ?_)
 · by_cases hn : 0 < cn
   · obtain ⟨b', off', e', _, _⟩ := hc.mem hn
     rw [e'] at e
     obtain rfl := Option.some.inj e
     have hj : j < cn * 2 := by have := (List.getElem?_eq_some_iff.1 hu).1; omega
     have ea : (⟨b', off', none⟩ : Addr).add j = ⟨b', off' + j, none⟩ := by unfold Addr.add; split <;> simp_all
     rw [ea, ho2 b' off' e' j hj]
     exact hu
   have := (List.getElem?_eq_some_iff.1 hu).1
   omega
 have hbw : Below w.heap.size w w' := ⟨hgr.os, hgr.tape, hgr.output, hgr.size, fun q hq => hgr.block q hq (by simp)⟩
 obtain ⟨hol, hoc⟩ := hown
 rcases hoc with ⟨_, hz⟩ | ⟨g', cap, cur, rfl, hg', hh, hcap, hrest⟩
 · omega
 have hown : w'.ownsRow w.heap.size 43 2 (.slice (some ⟨g', 0, none⟩) (cn + k) cap) (cn + k) (olds ++ pairsB (xs.take k)) := ⟨hol, .inr ⟨g', cap, cur, rfl, hg', hh, hcap, hrest⟩⟩
 have hgl := (ownsRow_block hown rfl).2.1
 refine hK _ _ w' hbw ⟨by rw [List.length_append, List.length_replicate, hc.len], hcap, by omega, (fun e => by cases e), fun _ => ⟨g', 0, rfl, .inr ⟨hg', hgl⟩, fun j hj => ?_⟩⟩
 rw [Nat.zero_add]
 have c1 := hown.cellAt (j * 2) (by omega)
 have c2 := hown.cellAt (j * 2 + 1) (by omega)
 by_cases hjc : j < cn
 · obtain ⟨b, off, e, hb, hm⟩ := hc.mem (by omega)
   obtain ⟨A1, n1, k1, A2, n2, k2, y1, y2, y3⟩ := hm j hjc
   rw [List.getElem?_append_left (by omega), ← ho2 b off e (j * 2) (by omega), y1] at c1
   rw [List.getElem?_append_left (by omega), ← ho2 b off e (j * 2 + 1) (by omega), ← Nat.add_assoc, y2] at c2
   refine ⟨A1, n1, k1, A2, n2, k2, c1, c2, ?_⟩
   have e3 : (cv ++ List.replicate k []).getD j [] = cv.getD j [] := by
    rw [List.getD_eq_getElem?_getD, List.getD_eq_getElem?_getD, List.getElem?_append_left (by rw [hc.len]; exact hjc)]
   rw [e3]
   exact y3.keep fun q hq => ⟨.inl hq, fun o => hbw.cell (p := ⟨q, o, none⟩) (hR q hq)⟩
 have hl : j - cn < (xs.take k).length := by rw [List.length_take, hd.len]; omega
 obtain ⟨p1, p2⟩ := pairsB_at (xs.take k) (j - cn) hl
 rw [List.getElem?_append_right (by omega), ho1, show j * 2 - cn * 2 = (j - cn) * 2 from by omega, p1, List.getElem?_eq_getElem hl] at c1
 rw [List.getElem?_append_right (by omega), ho1, show j * 2 + 1 - cn * 2 = (j - cn) * 2 + 1 from by omega, p2] at c2
 obtain ⟨A1, n1, k1, ex⟩ := hd.sl ((xs.take k)[j - cn]) (List.mem_of_mem_take (List.getElem_mem hl))
 rw [ex] at c1
 refine ⟨A1, n1, k1, none, 0, 0, c1, c2, ?_⟩
 have e3 : (cv ++ List.replicate k []).getD j [] = [] := by
  rw [List.getD_eq_getElem?_getD, List.getElem?_append_right (by rw [hc.len]; omega), List.getElem?_replicate]
  split <;> rfl
 rw [e3]
 exact ⟨rfl, Nat.le_refl _, by decide, fun _ => rfl, fun h => absurd h (by decide)⟩
end Go.Proofs.Ytjoddliplahgkaa
