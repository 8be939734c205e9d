/- The guard checker's walks: fine. -/
import Derived.Test.YtjllmblbbgojbaaKMatch
import Derived.Test.YtjllmblbbgojbaaKLeafs
import Derived.Test.YtjllmblbbgojbaaKHeads
namespace Go.Proofs.Ytjllmblbbgojbaa
open Go.Lib (hid)
set_option maxHeartbeats 8000000
set_option maxRecDepth 100000
set_option linter.unusedVariables false
set_option linter.unusedSimpArgs false
open Go.RowKit
theorem hd_J {J : TT → Prop} (hJK : ∀ n a k, J (n, a, k) → ∀ y ∈ kidL k, J y) : ∀ (m : Nat) (x : TT), RtX x → J x → J (hd m x).1 ∧ ∀ y ∈ (hd m x).2, J y
 | 0, x, _, h => by
  obtain ⟨n, a, k⟩ := x
  exact ⟨h, fun y hy => (by cases hy)⟩
 | m + 1, (n, a, k), h, hj => by
  by_cases h6 : n.op = 6
  · obtain ⟨n1, a1, k1, n2, a2, k2, rfl, hs⟩ := app_split h h6
    rw [hd_app h6]
    obtain ⟨e1, e2⟩ := hd_J hJK m (n1, a1, k1) hs.fst (hJK _ _ _ hj _ (by simp [kidL]))
    refine ⟨e1, fun y hy => ?_⟩
    rcases List.mem_append.1 hy with hy | hy
    · exact e2 y hy
    rw [List.mem_singleton] at hy
    subst hy
    exact hJK _ _ _ hj _ (by simp [kidL])
  · rw [hd_stop (x := (n, a, k)) h6]
    exact ⟨hj, fun y hy => (by cases hy)⟩
theorem hd_len : ∀ (m : Nat) (x : TT), RtX x → (hd m x).2.length < (rowT x).length
 | 0, x, _ => by
  obtain ⟨n, a, k⟩ := x
  simp [hd, rowT]
 | m + 1, (n, a, k), h => by
  by_cases h6 : n.op = 6
  · obtain ⟨n1, a1, k1, n2, a2, k2, rfl, hs⟩ := app_split h h6
    rw [hd_app h6]
    have e1 := hd_len m (n1, a1, k1) hs.fst
    have hr := congrArg List.length hs.eq
    simp only [rowT, List.length_cons, List.length_append] at hr e1 ⊢
    simp only [List.length_nil]
    omega
  · rw [hd_stop (x := (n, a, k)) h6]
    simp [rowT]
theorem pcs_own {w0 w : World} {B : Option Addr} {n d : Nat} {vs : List Value} {ys : List TT} (h : w.ownsRow w0.heap.size 28 1 (.slice B n d) n vs) (hp : PcsC w0 vs ys) (hb : Below w0.heap.size w0 w) (hn : n ≤ 1000000) : PcsR w B n ys := by
 have hl := hp.len
 have hv : vs.length = n := by have := h.1; omega
 refine ⟨by omega, hn, fun hpos => ?_⟩
 have h0 := h
 rcases h.2 with ⟨_, h2⟩ | ⟨g, cap', cur, hvv, hg, hh, _⟩
 · omega
 injection hvv with e1 e2 e3
 subst e1
 refine ⟨g, 0, rfl, (ownsRow_block h0 rfl).2.1, fun k hk => ?_⟩
 obtain ⟨A, n', c', e, ht⟩ := PcsC.at_ k hp hk
 refine ⟨A, n', c', ?_, fun w' h' => ht w' (hb.trans (h'.mono hb.size))⟩
 rw [Nat.zero_add, h0.cellAt k (by omega)]
 exact e
theorem own_pcs_keep {w w' : World} {B : Option Addr} {n d : Nat} {vs : List Value} {base : Nat} (h : w.ownsRow base 28 1 (.slice B n d) n vs) (hb : Below w.heap.size w w') : w'.ownsRow base 28 1 (.slice B n d) n vs := own_below h hb
def GM (nq : Nat) (zs : List Int) : Prop := ∀ z ∈ zs, (0 ≤ z ∧ z ≤ 2) ∨ (100 ≤ z ∧ z < 100 + (nq : Int))
theorem GM.add {nq : Nat} {zs : List Int} {z : Int} (h0 : 0 ≤ z) (h2 : z ≤ 2) (h : GM nq zs) : GM nq (zs ++ [z]) := fun u hu => by
 rcases List.mem_append.1 hu with hu | hu
 · exact h u hu
 rw [List.mem_singleton] at hu; subst hu; exact .inl ⟨h0, h2⟩
theorem GM.many {nq : Nat} {zs : List Int} {m : Nat} (h : GM nq zs) : GM nq (zs ++ List.replicate m 0) := fun u hu => by
 rcases List.mem_append.1 hu with hu | hu
 · exact h u hu
 rw [List.eq_of_mem_replicate hu]; exact .inl ⟨by omega, by omega⟩
theorem GM.of {nq : Nat} {zs : List Int} {v : Int} (h : GM nq zs) (h0 : 0 ≤ v) : (0 ≤ ofI zs v ∧ ofI zs v ≤ 2) ∨ (100 ≤ ofI zs v ∧ ofI zs v < 100 + (nq : Int)) := by
 unfold ofI
 split
 · exact .inl ⟨by omega, by omega⟩
 have hlt : zs.length - 1 - v.toNat < zs.length := by omega
 rw [List.getD_eq_getElem?_getD, List.getElem?_eq_getElem hlt]
 exact h _ (List.getElem_mem hlt)
theorem lit_cells {W : World} {b : Nat} {u : Value} (h : W.cell? ⟨b, 0, none⟩ = some u) : ∀ ad, (some ⟨b, 0, none⟩ : Option Addr) = some ad → ∀ j v, ([u] : List Value)[j]? = some v → W.cell? (ad.add j) = some v := by
 intro ad e j v hv
 injection e with e
 subst e
 have hj : j = 0 := by have := (List.getElem?_eq_some_iff.1 hv).1; simpa using this
 subst hj
 have : u = v := by simpa using hv
 rw [← this, ← h]
 rfl
theorem step_oper_g {P : Program} {ops : Array Oper} {o : Oper} {a : Act} {w : World} {K : Act → World → Prop} {Q : Exit → Act → World → Prop} {E : Prop} (hg : Region.wanted o (yielded ops a.tmps) = true) (h : Oper.wp P o a w K Q) :
 if Region.wanted o (yielded ops a.tmps) = true then Oper.wp P o a w K Q else E := by
 rw [if_pos hg]; exact h
theorem append_types2 {l : List Int} {z : Int} : (l ++ [z]).map (Value.int .i64) = l.map (Value.int .i64) ++ [.int .i64 z] := by simp
def restT (places : List Int) (ca : Int → Nat → Nat) (f : Nat) (zs : List Int) (q : TT × List TT) : Bool :=
 let n := q.1.1
 (if n.op = 1 then (if ofI zs n.a < 100 then true else (match q.2[(places.getD (ofI zs n.a - 100).toNat 0).toNat]? with | some y => lessT zs y | none => false))
  else if n.op = 11 then (match kidL q.1.2.2 with
   | mo :: sc :: br => (fineT places ca f zs mo && fineT places ca f zs sc) && branchesT (fineT places ca f) (fun k => if downT zs sc then ca n.a k else 0) zs 0 br
   | _ => true)
  else if n.op = 4 ∨ n.op = 5 then (match kidL q.1.2.2 with
   | a :: b :: _ => fineT places ca f zs a && fineT places ca f (zs ++ [0]) b
   | _ => true)
  else if n.op = 7 then (match kidL q.1.2.2 with
   | a :: b :: c :: _ => (fineT places ca f zs a && fineT places ca f zs b) && fineT places ca f (zs ++ [0]) c
   | _ => true)
  else if n.op = 12 then pairsT (fineT places ca f) zs (zs ++ List.replicate n.b.toNat 0) (kidL q.1.2.2)
  else true)
theorem fineT_succ {places : List Int} {ca : Int → Nat → Nat} {f : Nat} {zs : List Int} {x : TT} {q : TT × List TT} (h : hd (rowT x).length x = q) : fineT places ca (f + 1) zs x = (q.2.all (fineT places ca f zs) && restT places ca f zs q) := by
 subst h; rfl
theorem fine_var {K : LK} {I : World → Prop} {J : TT → Prop} {ca : Int → Nat → Nat} {places : List Int} {f m : Nat} (H : FineH K I (GM places.length) J (fineT places ca f) m) (hI : ∀ w w', I w → Below w.heap.size w w' → I w') (hE : ∀ w, I w → EntR K ca w) (hP : ∀ w, I w → IntsR (· < w.heap.size) w K.Aq K.nq K.cq places) (hp16 : ∀ p ∈ places, 0 ≤ p ∧ p < 16) (hJK : ∀ n a k, J (n, a, k) → ∀ y ∈ kidL k, J y) (hJM : ∀ n a k, J (n, a, k) → n.op = 11 → n.a < (K.ne : Int)) (w : World) (x : TT) (zs : List Int) (A : Option Addr) (n c : Nat) (B : Option Addr) (k d : Nat) (hw : I w) (ht : TermV w A n c (rowT x)) (hy : RtX x) (hm : (rowT x).length ≤ m + 1) (hJ : J x) (hz : IntsR (· < w.heap.size) w B k d zs) (hnul : B = none → d = 0) (hk : k + (rowT x).length ≤ 9000) (hg : GM places.length zs) (hop : (hd (rowT x).length x).1.1.op = 1) :
 Calls Try.prog 83 #[.agg #[.int .i64 K.vars, .slice K.Ao K.no K.co, .slice K.Ae K.ne K.ce, .int .i64 K.nat, .slice K.Ap K.np K.cp, .slice K.Aq K.nq K.cq], .slice A n c, .slice B k d] w (BoolP (fineT places ca (f + 1) zs x) w) := by
 have HOP := hop
 clear hop
 obtain ⟨vars, nat, Ao, no, co, Ae, ne, ce, Ap, np, cp, Aq, nqq, cq⟩ := K
 have HK := hid H
 unfold FineH at H
 simp only at H hP ⊢
 obtain ⟨i0, hi, hy0, hy1, hy2⟩ := info_parts infoM
 have HI0 := hid hi
 have HY0 := hid hy0
 have HY1 := hid hy1
 have HY2 := hid hy2
 clear hi hy0 hy1 hy2
 obtain ⟨hr1, hr2, hr3, hr4, hr5⟩ := hd_right _ x hy (Nat.le_refl _)
 obtain ⟨hj1, hj2⟩ := hd_J hJK (rowT x).length x hy hJ
 have hll := hd_len (rowT x).length x hy
 have hxf : (rowT x).length ≤ 4096 := Rt.few hy
 have HHD := hid (fun (w' : World) (h : Below w.heap.size w w') => head_any (ht.below h) hy)
 obtain ⟨F, L, hFL⟩ : ∃ F L, hd (rowT x).length x = (F, L) := ⟨_, _, rfl⟩
 have HFT := hid (fineT_succ (places := places) (ca := ca) (f := f) (zs := zs) hFL)
 rw [hFL] at hr1 hr2 hr3 hr4 hr5 hj1 hj2 hll HHD HOP
 simp only at hr1 hr2 hr3 hr4 hr5 hj1 hj2 hll HFT HOP
 generalize hXL : (rowT x).length = xl at *
 have hva := var_a hr1
 have hLx : L.length ≤ 1000000 := by omega
 have HZ := hid hz
 have HG := hid hg
 have HALL := hid (fun (w0 wr : World) (B2 : Option Addr) (d2 : Nat) (vs : List Value) (h0 : Below w.heap.size w w0) (hb : Below w0.heap.size w0 wr) (ho : wr.ownsRow w0.heap.size 28 1 (.slice B2 L.length d2) L.length vs) (hp : PcsC w0 vs L) => all_any (c := d2) HK.out hI (hI _ _ hw (h0.trans (hb.mono h0.size))) (pcs_own ho hp hb hLx) (fun y hy => ⟨(hr4 y hy).1, by have := (hr4 y hy).2; omega, hj2 y hy, by have := (hr4 y hy).2; omega⟩) (hz.below (h0.trans (hb.mono h0.size))) hnul hg)
 have HBEL0 := hid (below_alloc w (.cells #[.int .i64 vars, .slice Ao no co, .slice Ae ne ce, .int .i64 nat, .slice Ap np cp, .slice Aq nqq cq] 98))
 have HBK0 := hid (Blk.new w 98 #[.int .i64 vars, .slice Ao no co, .slice Ae ne ce, .int .i64 nat, .slice Ap np cp, .slice Aq nqq cq])
 simp only at HALL
 have HOF := hid (fun (wr : World) (h : Below w.heap.size w wr) => of_any (hz.below h) F.1.a hva)
 have hmk := GM.of hg hva
 have HPL := hid (fun (wr : World) (h : Below w.heap.size w wr) => hP _ (hI _ _ hw h))
 have HLS := hid (fun (wr : World) (y : TT) (A' : Option Addr) (n' c' : Nat) (h : Below w.heap.size w wr) (h1 : TermV wr A' n' c' (rowT y)) (h2 : RtX y) => less_any h1 h2 (hz.below h))
 have HR4 := hid hr4
 have HP16 := hid hp16
 have hnq : nqq ≤ places.length ∧ places.length ≤ nqq := by have := (hP _ hw).len; omega
 have hnq2 : nqq ≤ 5864062014805 := (hP _ hw).few
 have HFT1 : Hid (restT places ca f zs (F, L) = if ofI zs F.1.a < 100 then true else (match L[(places.getD (ofI zs F.1.a - 100).toNat 0).toNat]? with | some y => lessT zs y | none => false)) := hid (by unfold restT; simp only; rw [if_pos HOP])
 rw [HFT1.out] at HFT
 generalize hmm : ofI zs F.1.a = mk at *
 clear HFT1 hmm H HK hI hE hP hp16 hJK hJM hw ht hy hJ hz hnul hg hr1 hr2 hr4 hr5 hj1 hj2 hFL
 go_in
 go_wp2_with fail
 refine (HHD.out _ HBEL0.out).mono ?_
 rintro e w2 ⟨hb2, A2, n2, c2, B2, d2, vs, rfl, htf, ho2, hpc2⟩
 have HB2 := bto HBEL0 hb2
 have HBK2 := hid (Blk.below HBK0.out hb2 (by simp))
 have HHDB2 := hid hb2
 have HO2 := hid ho2
 have HPC2 := hid hpc2
 have HTF := hid (fun (w' : World) (h : Below w2.heap.size w2 w') => htf w' (hb2.trans (h.mono hb2.size)))
 have HC2 := hid (HALL.out _ _ _ _ _ HBEL0.out hb2 ho2 hpc2)
 have zc2 := Blk.cell HBK2.out
 have hbl2 := HBK2.out.lt
 clear hb2 ho2 hpc2 htf
 obtain ⟨rb, hrb⟩ : ∃ rb, rb = L.all (fineT places ca f zs) := ⟨_, rfl⟩
 rw [← hrb] at HC2 HFT
 clear hrb
 cases rb with
 | false =>
  rw [Bool.false_and] at HFT
  generalize fineT places ca (f + 1) zs x = res at *
  go_wp2_with fail
  refine (HC2.out).mono ?_
  rintro e w3 ⟨rfl, hb3⟩
  have HB3 := bto HB2 hb3
  clear hb3
  go_wp2_with fail
  go_ret
  rw [HFT.out]
  exact ⟨rfl, HB3.out⟩
 | true =>
  rw [Bool.true_and] at HFT
  generalize fineT places ca (f + 1) zs x = res at *
  go_wp2_with fail
  refine (HC2.out).mono ?_
  rintro e w3 ⟨rfl, hb3⟩
  have HB3 := bto HB2 hb3
  have HBK3 := hid (Blk.below HBK2.out hb3 hbl2)
  have HTF3 := hid (fun (w' : World) (h : Below w3.heap.size w3 w') => HTF.out w' (hb3.trans (h.mono hb3.size)))
  have HO3 := hid (own_pcs_keep HO2.out hb3)
  have HB03 := bto HHDB2 hb3
  have hf3 := HTF3.out w3 (Below.refl _ _)
  have hn3 : 0 < n2 := by have := hf3.len; rw [← this]; simp [rowT]
  obtain ⟨bf, off, rfl, hbf, hc30, hc31, hc32⟩ := hf3.at_ hn3
  simp only [Nat.zero_mul, Nat.add_zero] at hc30 hc31 hc32
  rw [show nth (rowT F) 0 = F.1 from rfl] at hc30 hc31 hc32
  have hlenF := hf3.len
  have hcapF := hf3.cap
  have hbs3 := HB3.out.size
  have hbl3 := HBK3.out.lt
  clear hb3 zc2 hf3
  have zc3 := Blk.cell HBK3.out
  rw [HOP] at hc30
  clear HOP
  generalize F.1.a = fa at *
  go_wp2_with fail
  refine (HOF.out _ (HB3.out.trans ((below_alloc w3 _).mono hbs3))).mono ?_
  rintro e w4 ⟨rfl, hb4⟩
  have HBa := hid ((below_alloc w3 (.cells #[.int .i64 1, .int .i64 fa, .int .i64 F.1.b] 34)).trans (hb4.mono (by simp)))
  have HB4 := hid (HB3.out.trans (HBa.out.mono hbs3))
  have HBK4 := hid (Blk.below HBK3.out HBa.out hbl3)
  have zc4 := Blk.cell HBK4.out
  have hbs4 := HB4.out.size
  clear hb4 zc3
  by_cases hm100 : mk < 100
  · have hmb : decide (mk < 100) = true := decide_eq_true hm100
    rw [if_pos hm100] at HFT
    clear hm100 hmk
    go_wp2_with fail
    go_ret
    rw [HFT.out]
    exact ⟨rfl, HB4.out⟩
  · have hmb : decide (mk < 100) = false := decide_eq_false hm100
    rw [if_neg hm100] at HFT
    obtain ⟨j, rfl⟩ : ∃ j : Nat, mk = 100 + (j : Int) := ⟨(mk - 100).toNat, by omega⟩
    have hj : j < nqq := by omega
    obtain ⟨bq, oq, rfl, hbq, hcq⟩ := (HPL.out _ HB4.out).at_ (k := j) hj
    rw [show (100 + (j : Int) - 100).toNat = j from by omega] at HFT
    have hpj : 0 ≤ places.getD j 0 ∧ places.getD j 0 < 16 := by
     have hjl : j < places.length := by omega
     rw [List.getD_eq_getElem?_getD, List.getElem?_eq_getElem hjl]
     exact HP16.out _ (List.getElem_mem hjl)
    obtain ⟨pl, hpl⟩ : ∃ pl : Nat, places.getD j 0 = (pl : Int) := ⟨(places.getD j 0).toNat, by omega⟩
    rw [hpl] at HFT hcq hpj
    simp only [Int.toNat_natCast] at HFT
    have hjj : (100 : Int) + (j : Int) - 100 = (j : Int) := by omega
    have hjs : (100 : Int) + (j : Int) - 100 = (j : Int) := hjj
    clear hjs hpl hm100 hmk
    have HO4 := hid (own_pcs_keep HO3.out HBa.out)
    have HPR := hid (pcs_own HO4.out HPC2.out (HB03.out.trans (HBa.out.mono HB03.out.size)) hLx)
    clear hjj
    by_cases hlt : pl < L.length
    · have hlb : decide ((L.length : Int) > (pl : Int)) = true := decide_eq_true (by omega)
      obtain ⟨bg, og, rfl, hbg, hmg⟩ := HPR.out.mem (by omega)
      obtain ⟨A', n', c', hcg, htg⟩ := hmg pl hlt
      have HLL := hid (HLS.out w4 L[pl] A' n' c' HB4.out (htg _ (Below.refl _ _)) (HR4.out _ (List.getElem_mem hlt)).1)
      rw [List.getElem?_eq_getElem hlt] at HFT
      simp only at HFT
      generalize lessT zs L[pl] = rl at *
      clear hmg htg
      go_wp2_with fail
      refine (HLL.out).mono ?_
      rintro e w5 ⟨rfl, hb5⟩
      have HB5 := hid (HB4.out.trans (hb5.mono hbs4))
      clear hb5
      go_wp2_with fail
      go_ret
      rw [HFT.out]
      exact ⟨rfl, HB5.out⟩
    have hlb : decide ((L.length : Int) > (pl : Int)) = false := decide_eq_false (by omega)
    rw [List.getElem?_eq_none (by omega)] at HFT
    simp only at HFT
    go_wp2_with fail
    go_ret
    rw [HFT.out]
    exact ⟨rfl, HB4.out⟩
theorem fine_oth {K : LK} {I : World → Prop} {J : TT → Prop} {ca : Int → Nat → Nat} {places : List Int} {f m : Nat} (H : FineH K I (GM places.length) J (fineT places ca f) m) (hI : ∀ w w', I w → Below w.heap.size w w' → I w') (hE : ∀ w, I w → EntR K ca w) (hP : ∀ w, I w → IntsR (· < w.heap.size) w K.Aq K.nq K.cq places) (hp16 : ∀ p ∈ places, 0 ≤ p ∧ p < 16) (hJK : ∀ n a k, J (n, a, k) → ∀ y ∈ kidL k, J y) (hJM : ∀ n a k, J (n, a, k) → n.op = 11 → n.a < (K.ne : Int)) (w : World) (x : TT) (zs : List Int) (A : Option Addr) (n c : Nat) (B : Option Addr) (k d : Nat) (hw : I w) (ht : TermV w A n c (rowT x)) (hy : RtX x) (hm : (rowT x).length ≤ m + 1) (hJ : J x) (hz : IntsR (· < w.heap.size) w B k d zs) (hnul : B = none → d = 0) (hk : k + (rowT x).length ≤ 9000) (hg : GM places.length zs) (hop : (hd (rowT x).length x).1.1.op ≠ 1 ∧ (hd (rowT x).length x).1.1.op ≠ 11 ∧ (hd (rowT x).length x).1.1.op ≠ 4 ∧ (hd (rowT x).length x).1.1.op ≠ 5 ∧ (hd (rowT x).length x).1.1.op ≠ 7 ∧ (hd (rowT x).length x).1.1.op ≠ 12) :
 Calls Try.prog 83 #[.agg #[.int .i64 K.vars, .slice K.Ao K.no K.co, .slice K.Ae K.ne K.ce, .int .i64 K.nat, .slice K.Ap K.np K.cp, .slice K.Aq K.nq K.cq], .slice A n c, .slice B k d] w (BoolP (fineT places ca (f + 1) zs x) w) := by
 have HOP := hop
 clear hop
 obtain ⟨vars, nat, Ao, no, co, Ae, ne, ce, Ap, np, cp, Aq, nqq, cq⟩ := K
 have HK := hid H
 unfold FineH at H
 simp only at H hP ⊢
 obtain ⟨i0, hi, hy0, hy1, hy2⟩ := info_parts infoM
 have HI0 := hid hi
 have HY0 := hid hy0
 have HY1 := hid hy1
 have HY2 := hid hy2
 clear hi hy0 hy1 hy2
 obtain ⟨hr1, hr2, hr3, hr4, hr5⟩ := hd_right _ x hy (Nat.le_refl _)
 obtain ⟨hj1, hj2⟩ := hd_J hJK (rowT x).length x hy hJ
 have hll := hd_len (rowT x).length x hy
 have hxf : (rowT x).length ≤ 4096 := Rt.few hy
 have HHD := hid (fun (w' : World) (h : Below w.heap.size w w') => head_any (ht.below h) hy)
 obtain ⟨F, L, hFL⟩ : ∃ F L, hd (rowT x).length x = (F, L) := ⟨_, _, rfl⟩
 have HFT := hid (fineT_succ (places := places) (ca := ca) (f := f) (zs := zs) hFL)
 rw [hFL] at hr1 hr2 hr3 hr4 hr5 hj1 hj2 hll HHD HOP
 simp only at hr1 hr2 hr3 hr4 hr5 hj1 hj2 hll HFT HOP
 generalize hXL : (rowT x).length = xl at *
 have hva := var_a hr1
 have hLx : L.length ≤ 1000000 := by omega
 have HZ := hid hz
 have HG := hid hg
 have HALL := hid (fun (w0 wr : World) (B2 : Option Addr) (d2 : Nat) (vs : List Value) (h0 : Below w.heap.size w w0) (hb : Below w0.heap.size w0 wr) (ho : wr.ownsRow w0.heap.size 28 1 (.slice B2 L.length d2) L.length vs) (hp : PcsC w0 vs L) => all_any (c := d2) HK.out hI (hI _ _ hw (h0.trans (hb.mono h0.size))) (pcs_own ho hp hb hLx) (fun y hy => ⟨(hr4 y hy).1, by have := (hr4 y hy).2; omega, hj2 y hy, by have := (hr4 y hy).2; omega⟩) (hz.below (h0.trans (hb.mono h0.size))) hnul hg)
 have HBEL0 := hid (below_alloc w (.cells #[.int .i64 vars, .slice Ao no co, .slice Ae ne ce, .int .i64 nat, .slice Ap np cp, .slice Aq nqq cq] 98))
 have HBK0 := hid (Blk.new w 98 #[.int .i64 vars, .slice Ao no co, .slice Ae ne ce, .int .i64 nat, .slice Ap np cp, .slice Aq nqq cq])
 simp only at HALL
 have HFT1 : Hid (restT places ca f zs (F, L) = true) := hid (by unfold restT; simp only; rw [if_neg (by omega), if_neg (by omega), if_neg (by omega), if_neg (by omega), if_neg (by omega)])
 rw [HFT1.out] at HFT
 have q1 : (F.1.op == 1) = false := by simpa using HOP.1
 have q2 : (F.1.op == 11) = false := by simpa using HOP.2.1
 have q3 : (F.1.op == 4) = false := by simpa using HOP.2.2.1
 have q4 : (F.1.op == 5) = false := by simpa using HOP.2.2.2.1
 have q5 : (F.1.op == 7) = false := by simpa using HOP.2.2.2.2.1
 have q6 : (F.1.op == 12) = false := by simpa using HOP.2.2.2.2.2
 clear HFT1 HOP H HK hI hE hP hp16 hJK hJM hw ht hy hJ hz hnul hg hr1 hr2 hr4 hr5 hj1 hj2 hFL
 go_in
 go_wp2_with fail
 refine (HHD.out _ HBEL0.out).mono ?_
 rintro e w2 ⟨hb2, A2, n2, c2, B2, d2, vs, rfl, htf, ho2, hpc2⟩
 have HB2 := bto HBEL0 hb2
 have HBK2 := hid (Blk.below HBK0.out hb2 (by simp))
 have HHDB2 := hid hb2
 have HO2 := hid ho2
 have HPC2 := hid hpc2
 have HTF := hid (fun (w' : World) (h : Below w2.heap.size w2 w') => htf w' (hb2.trans (h.mono hb2.size)))
 have HC2 := hid (HALL.out _ _ _ _ _ HBEL0.out hb2 ho2 hpc2)
 have zc2 := Blk.cell HBK2.out
 have hbl2 := HBK2.out.lt
 clear hb2 ho2 hpc2 htf
 obtain ⟨rb, hrb⟩ : ∃ rb, rb = L.all (fineT places ca f zs) := ⟨_, rfl⟩
 rw [← hrb] at HC2 HFT
 clear hrb
 cases rb with
 | false =>
  rw [Bool.false_and] at HFT
  generalize fineT places ca (f + 1) zs x = res at *
  go_wp2_with fail
  refine (HC2.out).mono ?_
  rintro e w3 ⟨rfl, hb3⟩
  have HB3 := bto HB2 hb3
  clear hb3
  go_wp2_with fail
  go_ret
  rw [HFT.out]
  exact ⟨rfl, HB3.out⟩
 | true =>
  rw [Bool.true_and] at HFT
  generalize fineT places ca (f + 1) zs x = res at *
  go_wp2_with fail
  refine (HC2.out).mono ?_
  rintro e w3 ⟨rfl, hb3⟩
  have HB3 := bto HB2 hb3
  have HBK3 := hid (Blk.below HBK2.out hb3 hbl2)
  have HTF3 := hid (fun (w' : World) (h : Below w3.heap.size w3 w') => HTF.out w' (hb3.trans (h.mono hb3.size)))
  have HO3 := hid (own_pcs_keep HO2.out hb3)
  have HB03 := bto HHDB2 hb3
  have hf3 := HTF3.out w3 (Below.refl _ _)
  have hn3 : 0 < n2 := by have := hf3.len; rw [← this]; simp [rowT]
  obtain ⟨bf, off, rfl, hbf, hc30, hc31, hc32⟩ := hf3.at_ hn3
  simp only [Nat.zero_mul, Nat.add_zero] at hc30 hc31 hc32
  rw [show nth (rowT F) 0 = F.1 from rfl] at hc30 hc31 hc32
  have hlenF := hf3.len
  have hcapF := hf3.cap
  have hbs3 := HB3.out.size
  have hbl3 := HBK3.out.lt
  clear hb3 zc2 hf3
  have zc3 := Blk.cell HBK3.out
  generalize F.1.op = op at *
  generalize F.1.a = fa at *
  generalize F.1.b = fb at *
  go_wp2_with fail
  go_ret
  rw [HFT.out]
  exact ⟨rfl, HB3.out.trans ((below_alloc w3 _).mono hbs3)⟩
theorem fine_mat {K : LK} {I : World → Prop} {J : TT → Prop} {ca : Int → Nat → Nat} {places : List Int} {f m : Nat} (H : FineH K I (GM places.length) J (fineT places ca f) m) (hI : ∀ w w', I w → Below w.heap.size w w' → I w') (hE : ∀ w, I w → EntR K ca w) (hP : ∀ w, I w → IntsR (· < w.heap.size) w K.Aq K.nq K.cq places) (hp16 : ∀ p ∈ places, 0 ≤ p ∧ p < 16) (hJK : ∀ n a k, J (n, a, k) → ∀ y ∈ kidL k, J y) (hJM : ∀ n a k, J (n, a, k) → n.op = 11 → n.a < (K.ne : Int)) (w : World) (x : TT) (zs : List Int) (A : Option Addr) (n c : Nat) (B : Option Addr) (k d : Nat) (hw : I w) (ht : TermV w A n c (rowT x)) (hy : RtX x) (hm : (rowT x).length ≤ m + 1) (hJ : J x) (hz : IntsR (· < w.heap.size) w B k d zs) (hnul : B = none → d = 0) (hk : k + (rowT x).length ≤ 9000) (hg : GM places.length zs) (hop : (hd (rowT x).length x).1.1.op = 11) :
 Calls Try.prog 83 #[.agg #[.int .i64 K.vars, .slice K.Ao K.no K.co, .slice K.Ae K.ne K.ce, .int .i64 K.nat, .slice K.Ap K.np K.cp, .slice K.Aq K.nq K.cq], .slice A n c, .slice B k d] w (BoolP (fineT places ca (f + 1) zs x) w) := by
 have HOP := hop
 clear hop
 obtain ⟨vars, nat, Ao, no, co, Ae, ne, ce, Ap, np, cp, Aq, nqq, cq⟩ := K
 have HK := hid H
 unfold FineH at H
 simp only at H hP ⊢
 obtain ⟨i0, hi, hy0, hy1, hy2⟩ := info_parts infoM
 have HI0 := hid hi
 have HY0 := hid hy0
 have HY1 := hid hy1
 have HY2 := hid hy2
 clear hi hy0 hy1 hy2
 obtain ⟨hr1, hr2, hr3, hr4, hr5⟩ := hd_right _ x hy (Nat.le_refl _)
 obtain ⟨hj1, hj2⟩ := hd_J hJK (rowT x).length x hy hJ
 have hll := hd_len (rowT x).length x hy
 have hxf : (rowT x).length ≤ 4096 := Rt.few hy
 have HHD := hid (fun (w' : World) (h : Below w.heap.size w w') => head_any (ht.below h) hy)
 obtain ⟨F, L, hFL⟩ : ∃ F L, hd (rowT x).length x = (F, L) := ⟨_, _, rfl⟩
 have HFT := hid (fineT_succ (places := places) (ca := ca) (f := f) (zs := zs) hFL)
 rw [hFL] at hr1 hr2 hr3 hr4 hr5 hj1 hj2 hll HHD HOP
 simp only at hr1 hr2 hr3 hr4 hr5 hj1 hj2 hll HFT HOP
 generalize hXL : (rowT x).length = xl at *
 have hva := var_a hr1
 have hLx : L.length ≤ 1000000 := by omega
 have HZ := hid hz
 have HG := hid hg
 have HALL := hid (fun (w0 wr : World) (B2 : Option Addr) (d2 : Nat) (vs : List Value) (h0 : Below w.heap.size w w0) (hb : Below w0.heap.size w0 wr) (ho : wr.ownsRow w0.heap.size 28 1 (.slice B2 L.length d2) L.length vs) (hp : PcsC w0 vs L) => all_any (c := d2) HK.out hI (hI _ _ hw (h0.trans (hb.mono h0.size))) (pcs_own ho hp hb hLx) (fun y hy => ⟨(hr4 y hy).1, by have := (hr4 y hy).2; omega, hj2 y hy, by have := (hr4 y hy).2; omega⟩) (hz.below (h0.trans (hb.mono h0.size))) hnul hg)
 have HBEL0 := hid (below_alloc w (.cells #[.int .i64 vars, .slice Ao no co, .slice Ae ne ce, .int .i64 nat, .slice Ap np cp, .slice Aq nqq cq] 98))
 have HBK0 := hid (Blk.new w 98 #[.int .i64 vars, .slice Ao no co, .slice Ae ne ce, .int .i64 nat, .slice Ap np cp, .slice Aq nqq cq])
 simp only at HALL
 have HFT1 : Hid (restT places ca f zs (F, L) = matchT (fineT places ca f) ca zs F) := hid (by unfold restT matchT; simp only; rw [if_neg (by omega), if_pos HOP]; rfl)
 rw [HFT1.out] at HFT
 have HMA := hid (fun (wr : World) (A' : Option Addr) (n' c' : Nat) (h : Below w.heap.size w wr) (h1 : TermV wr A' n' c' (rowT F)) => match_any HK.out hI hE (fun zs z h0 h2 h => GM.add h0 h2 h) hJK hJM (hI _ _ hw h) h1 hr1 HOP (by show (rowT F).length ≤ m + 1; omega) hj1 (by show k + (rowT F).length ≤ 9000; omega) (hz.below h) hnul hg)
 simp only at HMA
 rw [show ((F.1, F.2.1, F.2.2) : TT) = F from rfl] at HMA
 clear HFT1 H HK hI hE hP hp16 hJK hJM hw ht hy hJ hz hnul hg hr1 hr2 hr4 hr5 hj1 hj2 hFL
 go_in
 go_wp2_with fail
 refine (HHD.out _ HBEL0.out).mono ?_
 rintro e w2 ⟨hb2, A2, n2, c2, B2, d2, vs, rfl, htf, ho2, hpc2⟩
 have HB2 := bto HBEL0 hb2
 have HBK2 := hid (Blk.below HBK0.out hb2 (by simp))
 have HHDB2 := hid hb2
 have HO2 := hid ho2
 have HPC2 := hid hpc2
 have HTF := hid (fun (w' : World) (h : Below w2.heap.size w2 w') => htf w' (hb2.trans (h.mono hb2.size)))
 have HC2 := hid (HALL.out _ _ _ _ _ HBEL0.out hb2 ho2 hpc2)
 have zc2 := Blk.cell HBK2.out
 have hbl2 := HBK2.out.lt
 clear hb2 ho2 hpc2 htf
 obtain ⟨rb, hrb⟩ : ∃ rb, rb = L.all (fineT places ca f zs) := ⟨_, rfl⟩
 rw [← hrb] at HC2 HFT
 clear hrb
 cases rb with
 | false =>
  rw [Bool.false_and] at HFT
  generalize fineT places ca (f + 1) zs x = res at *
  go_wp2_with fail
  refine (HC2.out).mono ?_
  rintro e w3 ⟨rfl, hb3⟩
  have HB3 := bto HB2 hb3
  clear hb3
  go_wp2_with fail
  go_ret
  rw [HFT.out]
  exact ⟨rfl, HB3.out⟩
 | true =>
  rw [Bool.true_and] at HFT
  generalize fineT places ca (f + 1) zs x = res at *
  go_wp2_with fail
  refine (HC2.out).mono ?_
  rintro e w3 ⟨rfl, hb3⟩
  have HB3 := bto HB2 hb3
  have HBK3 := hid (Blk.below HBK2.out hb3 hbl2)
  have HTF3 := hid (fun (w' : World) (h : Below w3.heap.size w3 w') => HTF.out w' (hb3.trans (h.mono hb3.size)))
  have HO3 := hid (own_pcs_keep HO2.out hb3)
  have HB03 := bto HHDB2 hb3
  have hf3 := HTF3.out w3 (Below.refl _ _)
  have hn3 : 0 < n2 := by have := hf3.len; rw [← this]; simp [rowT]
  obtain ⟨bf, off, rfl, hbf, hc30, hc31, hc32⟩ := hf3.at_ hn3
  simp only [Nat.zero_mul, Nat.add_zero] at hc30 hc31 hc32
  rw [show nth (rowT F) 0 = F.1 from rfl] at hc30 hc31 hc32
  have hlenF := hf3.len
  have hcapF := hf3.cap
  have hbs3 := HB3.out.size
  have hbl3 := HBK3.out.lt
  clear hb3 zc2 hf3
  have zc3 := Blk.cell HBK3.out
  rw [HOP] at hc30
  clear HOP
  have HTF4 := hid (HTF3.out _ (below_alloc w3 (.cells #[.int .i64 11, .int .i64 F.1.a, .int .i64 F.1.b] 34)))
  have HMM := hid (HMA.out _ _ _ _ (HB3.out.trans ((below_alloc w3 (.cells #[.int .i64 11, .int .i64 F.1.a, .int .i64 F.1.b] 34)).mono hbs3)) HTF4.out)
  generalize F.1.a = fa at *
  generalize F.1.b = fb at *
  generalize matchT (fineT places ca f) ca zs F = mt at *
  go_wp2_with fail
  refine (HMM.out).mono ?_
  rintro e w5 ⟨rfl, hb5⟩
  have HB5 := hid ((HB3.out.trans ((below_alloc w3 (.cells #[.int .i64 11, .int .i64 fa, .int .i64 fb] 34)).mono hbs3)).trans (hb5.mono (by simp; omega)))
  clear hb5
  go_wp2_with fail
  go_ret
  rw [HFT.out]
  exact ⟨rfl, HB5.out⟩
end Go.Proofs.Ytjllmblbbgojbaa
