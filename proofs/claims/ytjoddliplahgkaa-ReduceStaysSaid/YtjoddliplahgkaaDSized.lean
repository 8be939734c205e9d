/- Merged: Sizes, Size. -/
import Derived.Test.YtjoddliplahgkaaDBooks
import Derived.Test.YtjoddliplahgkaaDShort2
import Derived.Test.YtjoddliplahgkaaDRegist
namespace Go.Proofs.Ytjoddliplahgkaa
open Go.Lib (hid)
set_option maxHeartbeats 4000000
set_option maxRecDepth 100000
set_option linter.unusedVariables false
set_option linter.unusedSimpArgs false
section
open Go.RowKit
def sizeF (lid : Int) : List (List Nd) → Int → Int
 | [], n => n
 | l :: r, n => if n < lid then sizeF lid r (n + 1 + (l.length : Int)) else n
theorem sizeF_le (lid : Int) : ∀ (r : List (List Nd)) (n : Int), (∀ l ∈ r, l.length ≤ 5864062014805) → n ≤ sizeF lid r n ∧ (sizeF lid r n ≤ n ∨ sizeF lid r n ≤ lid + 5864062014805)
 | [], n, _ => ⟨Int.le_refl _, .inl (Int.le_refl _)⟩
 | l :: r, n, h => by
  simp only [sizeF]
  split
  · rename_i hlt
    have hl := h l (by simp)
    have := sizeF_le lid r (n + 1 + (l.length : Int)) (fun x hx => h x (by simp [hx]))
    omega
  · exact ⟨Int.le_refl _, .inl (Int.le_refl _)⟩
theorem sizes_any {w : World} {A : Option Addr} {n c : Nat} {ls : List (List Nd)} (ht : RowsV w A n c ls) (lid : Int) (hlid : lid ≤ 1000000000000000) :
 Calls Try.prog 28 #[.slice A n c, .int .i64 lid] w (fun e w' => e = .returned (.int .i64 (sizeF lid ls 0)) ∧ w' = w) := by
 have hlen := ht.len
 have hfew := ht.few
 have HT := hid (fun (k : Nat) (hk : k < n) => ht.at_ hk)
 obtain ⟨res, hres⟩ : ∃ res, res = sizeF lid ls 0 := ⟨_, rfl⟩
 rw [← hres]
 have HRES := hid hres
 clear ht hres
 go_in
 go_wp2_with fail
 go_loopw [5, 6] (fun nv iv wr => ∃ (i : Nat) (m : Int), nv = .int .i64 m ∧ iv = .int .i64 (i : Int) ∧ i ≤ n ∧ 0 ≤ m ∧ m ≤ 1010000000000000 ∧ Hid (sizeF lid (ls.drop i) m = res) ∧ wr = w) (fun _ i _ => n - (intOf i).toNat)
 case atStart => exact ⟨0, 0, rfl, rfl, by omega, by omega, by omega, hid HRES.out.symm, rfl⟩
 case round =>
  obtain ⟨i, m, rfl, rfl, hi, hm0, hm1, hrs, rfl⟩ := hrel
  by_cases hlt : i < n
  rotate_left
  · have hib : decide ((i : Int) < (n : Int)) = false := decide_eq_false (by omega)
    have hrs2 := hrs.out
    rw [List.drop_of_length_le (by omega)] at hrs2
    simp only [sizeF] at hrs2
    have HRN := hid hrs2
    clear hrs2 hrs
    go_wp2_with fail
    go_ret
    rw [← HRN.out]
    exact ⟨rfl, rfl⟩
  have hib : decide ((i : Int) < (n : Int)) = true := decide_eq_true (by omega)
  obtain ⟨b', off, A', n', c', rfl, hb', hc0, ht'⟩ := HT.out i hlt
  have hil : i < ls.length := by omega
  have hlen' := ht'.len
  have hfew' := ht'.few
  have hrs2 := hrs.out
  rw [List.drop_eq_getElem_cons hil, show ls[i] = ls.getD i [] from by rw [List.getD_eq_getElem?_getD, List.getElem?_eq_getElem hil]; rfl] at hrs2
  simp only [sizeF] at hrs2
  rw [hlen'] at hrs2
  by_cases hm : m < lid
  · have hmb : decide (m < lid) = true := decide_eq_true hm
    rw [if_pos hm] at hrs2
    have HRN := hid hrs2
    clear hrs2 hrs ht'
    go_wp2_with fail
    go_roundw
    case rel => exact ⟨i + 1, m + 1 + n', by go_num, by go_num, by omega, by omega, by omega, HRN, by first | trivial | rfl⟩
    case measure => simp [intOf]; omega
  have hmb : decide (m < lid) = false := decide_eq_false hm
  rw [if_neg hm] at hrs2
  have HRN := hid hrs2
  clear hrs2 hrs ht'
  go_wp2_with fail
  go_ret
  rw [← HRN.out]
  exact ⟨rfl, rfl⟩
end
section
open Go.RowKit
def sizeC (lid : Int) : List Ct → Int → Int
 | [], n => n
 | c :: r, n => if n < lid then sizeC lid r (n + 1 + sizeF lid c.args 0 + sizeF lid c.outs 0) else n
def sizeE (lid : Int) : List En → Int → Int
 | [], n => n
 | x :: r, n => if n < lid then sizeE lid r (sizeC lid x.ctors (n + 1 + (x.sort.length : Int) + (x.type.length : Int) + (x.body.length : Int) + sizeF lid x.params 0 + sizeF lid x.indices 0)) else n
def sizeB (lid : Int) (b : Bk) : Int := sizeE lid b.entries ((b.orders.length : Int) + (b.prims.length : Int))
theorem RowsV.lens {w : World} {A : Option Addr} {n c : Nat} {ls : List (List Nd)} (h : RowsV w A n c ls) : ∀ l ∈ ls, l.length ≤ 5864062014805 := by
 intro l hl
 obtain ⟨i, hi, rfl⟩ := List.getElem_of_mem hl
 obtain ⟨b, off, A', n', c', _, _, _, ht⟩ := h.at_ (k := i) (by have := h.len; omega)
 have h1 := ht.len
 have h2 := ht.few
 rw [List.getD_eq_getElem?_getD, List.getElem?_eq_getElem hi] at h1
 simp only [Option.getD_some] at h1
 omega
theorem RowsV.size_le {w : World} {A : Option Addr} {n c : Nat} {ls : List (List Nd)} (h : RowsV w A n c ls) (lid : Int) (hlid : lid ≤ 1000000000000000) : 0 ≤ sizeF lid ls 0 ∧ sizeF lid ls 0 ≤ 1005864062014805 := by
 have := sizeF_le lid ls 0 h.lens
 omega
theorem CtsV.at_ {w : World} {A : Option Addr} {n c : Nat} {cs : List Ct} (h : CtsV w A n c cs) {k : Nat} (hk : k < n) : ∃ b off, A = some ⟨b, off, none⟩ ∧ b < w.heap.size ∧ ∃ A1 n1 c1 A2 n2 c2, w.cell? ⟨b, off + k * 2, none⟩ = some (.slice A1 n1 c1) ∧ w.cell? ⟨b, off + k * 2 + 1, none⟩ = some (.slice A2 n2 c2) ∧ RowsV w A1 n1 c1 (cs.getD k default).args ∧ RowsV w A2 n2 c2 (cs.getD k default).outs := by
 obtain ⟨b, off, e, hb, hm⟩ := h.mem (by omega)
 exact ⟨b, off, e, hb, hm k hk⟩
theorem size_any {w : World} {v : BkVal} {b : Bk} (hb : BookV w v b) (lid : Int) (hlid : lid ≤ 1000000000000000) :
 Calls Try.prog 17 #[.agg #[.int .i64 b.vars, .slice v.Ao v.no v.co, .slice v.Ae v.ne v.ce, .int .i64 b.nat, .slice v.Ap v.np v.cp], .int .i64 lid] w (fun e w' => e = .returned (.int .i64 (sizeB lid b)) ∧ Below w.heap.size w w') := by
 have hofew := hb.orders.few
 have hpfew := hb.prims.few
 have hefew := hb.entries.few
 have HLN := hid hb.entries.len
 have HEN := hid (fun (w' : World) (h : Below w.heap.size w w') => hb.entries.below h)
 have HB0 := hid (below_alloc w (.cells #[.int .i64 b.vars, .slice v.Ao v.no v.co, .slice v.Ae v.ne v.ce, .int .i64 b.nat, .slice v.Ap v.np v.cp] 26))
 have HK0 := hid (Blk.new w 26 #[.int .i64 b.vars, .slice v.Ao v.no v.co, .slice v.Ae v.ne v.ce, .int .i64 b.nat, .slice v.Ap v.np v.cp])
 have HR0 : Hid (sizeB lid b = sizeE lid b.entries ((b.orders.length : Int) + (b.prims.length : Int))) := hid rfl
 rw [hb.orders.len, hb.prims.len] at HR0
 generalize sizeB lid b = res at *
 obtain ⟨Ao, no, co, Ae, ne, ce, Ap, np, cp⟩ := v
 simp only at HEN HB0 HK0 HR0 HLN hofew hpfew hefew ⊢
 clear hb
 generalize b.vars = bv at *
 generalize b.nat = bn at *
 generalize b.entries = es at *
 clear b
 go_in
 go_wp2_with fail
 go_loopw [5, 6] (fun nv iv wr => ∃ (i : Nat) (m : Int), nv = .int .i64 m ∧ iv = .int .i64 (i : Int) ∧ i ≤ ne ∧ 0 ≤ m ∧ m ≤ 6000000000000000 ∧ Hid (sizeE lid (es.drop i) m = res) ∧ Hid (Blk wr w.heap.size 26 #[.int .i64 bv, .slice Ao no co, .slice Ae ne ce, .int .i64 bn, .slice Ap np cp]) ∧ Hid (Below w.heap.size w wr)) (fun _ i _ => ne - (intOf i).toNat)
 case atStart => exact ⟨0, (no : Int) + (np : Int), by go_num, rfl, by omega, by omega, by omega, hid HR0.out.symm, HK0, HB0⟩
 case round =>
  obtain ⟨i, m, rfl, rfl, hi, hm0, hm1, hes, hbk, hbw⟩ := hrel
  have zk := Blk.cell hbk.out
  have hbl := hbk.out.lt
  by_cases hlt : i < ne
  case neg =>
   have hib : decide ((i : Int) < (ne : Int)) = false := decide_eq_false (by omega)
   have hq := hes.out
   rw [List.drop_of_length_le (by rw [HLN.out]; omega)] at hq
   simp only [sizeE] at hq
   have HQ := hid hq
   clear hq hes
   go_wp2_with fail
   go_ret
   rw [← HQ.out]
   exact ⟨rfl, hbw.out⟩
  have hib : decide ((i : Int) < (ne : Int)) = true := decide_eq_true (by omega)
  have hil : i < es.length := by rw [HLN.out]; exact hlt
  have hq := hes.out
  rw [List.drop_eq_getElem_cons hil, show es[i] = es.getD i default from by rw [List.getD_eq_getElem?_getD, List.getElem?_eq_getElem hil]; rfl] at hq
  simp only [sizeE] at hq
  by_cases hml : m < lid
  case neg =>
   have hmb : decide (m < lid) = false := decide_eq_false hml
   rw [if_neg hml] at hq
   have HQ := hid hq
   clear hq hes
   go_wp2_with fail
   go_ret
   rw [← HQ.out]
   exact ⟨rfl, hbw.out⟩
  have hmb : decide (m < lid) = true := decide_eq_true hml
  rw [if_pos hml] at hq
  obtain ⟨be, oe, rfl, hbe, ev, hc0, hc1, hc2, hc3, hc4, hc5, hc6, hec⟩ := (HEN.out wr hbw.out).at_ hlt
  generalize es.getD i default = x at *
  have HBa := hid (hbw.out.trans ((below_alloc wr (.cells #[.int .i64 x.kind, .slice ev.As ev.ns ev.cs, .slice ev.Ap ev.np ev.cp, .slice ev.Ai ev.ni ev.ci, .slice ev.Ac ev.nc ev.cc, .slice ev.At ev.nt ev.ct, .slice ev.Ab ev.nb ev.cb] 62)).mono hbw.out.size))
  have HKa := hid (hbk.out.alloc (.cells #[.int .i64 x.kind, .slice ev.As ev.ns ev.cs, .slice ev.Ap ev.np ev.cp, .slice ev.Ai ev.ni ev.ci, .slice ev.Ac ev.nc ev.cc, .slice ev.At ev.nt ev.ct, .slice ev.Ab ev.nb ev.cb] 62))
  have HEa := hid (Blk.new wr 62 #[.int .i64 x.kind, .slice ev.As ev.ns ev.cs, .slice ev.Ap ev.np ev.cp, .slice ev.Ai ev.ni ev.ci, .slice ev.Ac ev.nc ev.cc, .slice ev.At ev.nt ev.ct, .slice ev.Ab ev.nb ev.cb])
  have hec2 := hec.below (below_alloc wr (.cells #[.int .i64 x.kind, .slice ev.As ev.ns ev.cs, .slice ev.Ap ev.np ev.cp, .slice ev.Ai ev.ni ev.ci, .slice ev.Ac ev.nc ev.cc, .slice ev.At ev.nt ev.ct, .slice ev.Ab ev.nb ev.cb] 62))
  generalize x.kind = kd at *
  obtain ⟨As, ns, cs, Ap2, np2, cp2, Ai, ni, ci, Ac, nc, cc, At, nt, ct, Ab, nb, cb⟩ := ev
  simp only at hc1 hc2 hc3 hc4 hc5 hc6 HBa HKa HEa hec2
  have hsl := hec2.sort.len
  have hsf := hec2.sort.few
  have htl := hec2.type.len
  have htf := hec2.type.few
  have hyl := hec2.body.len
  have hyf := hec2.body.few
  have HPR := hid hec2.params
  have HIR := hid hec2.indices
  have HCR := hid hec2.ctors
  simp only at hsl hsf htl htf hyl hyf HPR HIR HCR
  clear hec hec2
  rw [hsl, htl, hyl] at hq
  have hcf := HCR.out.few
  have hp1 := HPR.out.size_le lid hlid
  have hp2 := HIR.out.size_le lid hlid
  have HSP := hid (fun w' h => sizes_any (HPR.out.below (w' := w') h) lid hlid)
  have HSI := hid (fun w' h => sizes_any (HIR.out.below (w' := w') h) lid hlid)
  generalize sizeF lid x.params 0 = P at *
  generalize sizeF lid x.indices 0 = I at *
  obtain ⟨hp10, hp11⟩ := hp1
  obtain ⟨hp20, hp21⟩ := hp2
  have HQ := hid hq
  have w1 : IntKind.i64.wrap (m + 1) = m + 1 := by rw [IntKind.wrap_i64]; omega
  have w2 : IntKind.i64.wrap (m + 1 + (ns : Int)) = m + 1 + (ns : Int) := by rw [IntKind.wrap_i64]; omega
  have w3 : IntKind.i64.wrap (m + 1 + (ns : Int) + (nt : Int)) = m + 1 + (ns : Int) + (nt : Int) := by rw [IntKind.wrap_i64]; omega
  have w4 : IntKind.i64.wrap (m + 1 + (ns : Int) + (nt : Int) + (nb : Int)) = m + 1 + (ns : Int) + (nt : Int) + (nb : Int) := by rw [IntKind.wrap_i64]; omega
  have w5 : IntKind.i64.wrap (m + 1 + (ns : Int) + (nt : Int) + (nb : Int) + P) = m + 1 + (ns : Int) + (nt : Int) + (nb : Int) + P := by rw [IntKind.wrap_i64]; omega
  have w6 : IntKind.i64.wrap (m + 1 + (ns : Int) + (nt : Int) + (nb : Int) + P + I) = m + 1 + (ns : Int) + (nt : Int) + (nb : Int) + P + I := by rw [IntKind.wrap_i64]; omega
  have HWS := hid (And.intro w1 (And.intro w2 (And.intro w3 (And.intro w4 (And.intro w5 w6)))))
  clear hq hes hsl htl hyl w1 w2 w3 w4 w5 w6
  have HW0 : Hid (Below (wr.alloc (.cells #[.int .i64 kd, .slice As ns cs, .slice Ap2 np2 cp2, .slice Ai ni ci, .slice Ac nc cc, .slice At nt ct, .slice Ab nb cb] 62)).heap.size (wr.alloc (.cells #[.int .i64 kd, .slice As ns cs, .slice Ap2 np2 cp2, .slice Ai ni ci, .slice Ac nc cc, .slice At nt ct, .slice Ab nb cb] 62)) (wr.alloc (.cells #[.int .i64 kd, .slice As ns cs, .slice Ap2 np2 cp2, .slice Ai ni ci, .slice Ac nc cc, .slice At nt ct, .slice Ab nb cb] 62)).drew) := hid (bel_drew (Below.refl _ _))
  have zke := Blk.cell HEa.out
  go_wp2_with fail
  refine wp_region_held_drew (S := (fun w' => w'.cell? ⟨wr.heap.size, 1, none⟩ = some (.slice As ns cs) ∧ w'.cell? ⟨wr.heap.size, 5, none⟩ = some (.slice At nt ct) ∧ w'.cell? ⟨wr.heap.size, 6, none⟩ = some (.slice Ab nb cb) ∧ w'.cell? ⟨wr.heap.size, 2, none⟩ = some (.slice Ap2 np2 cp2) ∧ w'.cell? ⟨wr.heap.size, 3, none⟩ = some (.slice Ai ni ci) ∧ Below (wr.alloc (.cells #[.int .i64 kd, .slice As ns cs, .slice Ap2 np2 cp2, .slice Ai ni ci, .slice Ac nc cc, .slice At nt ct, .slice Ab nb cb] 62)).heap.size (wr.alloc (.cells #[.int .i64 kd, .slice As ns cs, .slice Ap2 np2 cp2, .slice Ai ni ci, .slice Ac nc cc, .slice At nt ct, .slice Ab nb cb] 62)) w')) (by kernel_rfl) ?_ (fun hHeld => ?_)
  · (try dsimp only); exact ⟨zke 1, zke 5, zke 6, zke 2, zke 3, HW0.out⟩
  refine tq 0 hHeld ?_
  try simp only [p7]
  refine tq 1 hHeld ?_
  try simp only [p7]
  refine tq 2 hHeld ?_
  try simp only [p7]
  refine tq 3 hHeld ?_
  try simp only [p7]
  refine tq 4 hHeld ?_
  try simp only [p7]
  refine tq 5 hHeld ?_
  try simp only [p7]
  refine tq 6 hHeld ?_
  try simp only [p7]
  refine tq 7 hHeld ?_
  try simp only [p7]
  refine tq 8 hHeld ?_
  try simp only [p7]
  refine tq 9 hHeld ?_
  try simp only [p7]
  refine tq 10 hHeld ?_
  try simp only [p7]
  refine tq 11 hHeld ?_
  try simp only [p7]
  refine tq 12 hHeld ?_
  try simp only [p7]
  refine tq 13 hHeld ?_
  try simp only [p7]
  refine tq 14 hHeld ?_
  try simp only [p7]
  refine tq 15 hHeld ?_
  try simp only [p7]
  refine tq 16 hHeld ?_
  try simp only [p7]
  refine tq 19 hHeld ?_
  try simp only [p7]
  refine tq 20 hHeld ?_
  try simp only [p7]
  refine tq 21 hHeld ?_
  try simp only [p7]
  refine r1 17 fun K hK => ?_
  go_simp
  refine (HSP.out _ hHeld.2.2.2.2.2).mono ?_
  rintro e w3 ⟨rfl, rfl⟩
  go_wp2_with fail
  refine hK.out _ _ (by exact hHeld) fun hHeld => ?_
  clear hK K
  try simp only [p7]
  refine tq 18 hHeld ?_
  try simp only [p7]
  refine r1 22 fun K hK => ?_
  go_simp
  refine (HSI.out _ hHeld.2.2.2.2.2).mono ?_
  rintro e w3 ⟨rfl, rfl⟩
  go_wp2_with fail
  refine hK.out _ _ (by exact hHeld) fun hHeld => ?_
  clear hK K
  try simp only [p7]
  refine tq 23 hHeld ?_
  try simp only [p7]
  refine tq 24 hHeld ?_
  try simp only [p7]
  refine wpAnyH_done (by kernel_rfl) ?_ _
  clear HSP HSI
  have hHeld := HW0.out
  go_wp2_with fail
  obtain ⟨wo, rfl⟩ : ∃ wo : World, wo = wr := ⟨_, rfl⟩
  go_loopw [5, 8] (fun nv kv w2 => ∃ (k : Nat) (q : Int), nv = .int .i64 q ∧ kv = .int .i64 (k : Int) ∧ k ≤ nc ∧ 0 ≤ q ∧ q ≤ 6000000000000000 ∧ Hid (sizeC lid (x.ctors.drop k) q = sizeC lid x.ctors (m + 1 + (ns : Int) + (nt : Int) + (nb : Int) + P + I)) ∧ Hid (Below (wo.alloc (.cells #[.int .i64 kd, .slice As ns cs, .slice Ap2 np2 cp2, .slice Ai ni ci, .slice Ac nc cc, .slice At nt ct, .slice Ab nb cb] 62)).heap.size (wo.alloc (.cells #[.int .i64 kd, .slice As ns cs, .slice Ap2 np2 cp2, .slice Ai ni ci, .slice Ac nc cc, .slice At nt ct, .slice Ab nb cb] 62)) w2)) (fun _ k _ => nc - (intOf k).toNat)
  case atStart => exact ⟨0, m + 1 + (ns : Int) + (nt : Int) + (nb : Int) + P + I, by first | (obtain ⟨w1, w2, w3, w4, w5, w6⟩ := HWS.out; rw [w1, w2, w3, w4, w5, w6]) | (obtain ⟨w1, w2, w3, w4, w5, w6⟩ := HWS.out; simp only [w1, w2, w3, w4, w5, w6]), rfl, by omega, by omega, by omega, hid rfl, HW0⟩
  case round =>
   obtain ⟨k, q, rfl, rfl, hk, hq0, hq1, hcs, hb2⟩ := hrel
   have hb3 := hb2.out
   have zk2 := Blk.cell (Blk.below HEa.out hb3 HEa.out.lt)
   have hbl2 := hb3.size
   by_cases hlk : k < nc
   case neg =>
    have hkb : decide ((k : Int) < (nc : Int)) = false := decide_eq_false (by omega)
    have hq := hcs.out
    rw [List.drop_of_length_le (by rw [HCR.out.len]; omega)] at hq
    simp only [sizeC] at hq
    rw [← hq] at HQ
    have hq9 := HQ.out
    clear hq hcs
    go_wp2_with fail
    go_roundw
    case rel => exact ⟨i + 1, q, rfl, by go_num, by omega, by omega, by omega, HQ, bko HKa hb3, bto HBa hb3⟩
    case measure => simp [intOf]; omega
   have hkb : decide ((k : Int) < (nc : Int)) = true := decide_eq_true (by omega)
   have hq := hcs.out
   have hkl : k < x.ctors.length := by rw [HCR.out.len]; exact hlk
   rw [List.drop_eq_getElem_cons hkl, show x.ctors[k] = x.ctors.getD k default from by rw [List.getD_eq_getElem?_getD, List.getElem?_eq_getElem hkl]; rfl] at hq
   simp only [sizeC] at hq
   by_cases hql : q < lid
   case neg =>
    have hqb : decide (q < lid) = false := decide_eq_false hql
    rw [if_neg hql] at hq
    rw [← hq] at HQ
    clear hq hcs
    go_wp2_with fail
    go_roundw
    case rel => exact ⟨i + 1, q, rfl, by go_num, by omega, by omega, by omega, HQ, bko HKa hb3, bto HBa hb3⟩
    case measure => simp [intOf]; omega
   have hqb : decide (q < lid) = true := decide_eq_true hql
   rw [if_pos hql] at hq
   obtain ⟨bc, oc, rfl, hbc, A1, n1, c1, A2, n2, c2, hk1, hk2, hr1, hr2⟩ := (HCR.out.below hb3).at_ hlk
   have hp1 := hr1.size_le lid hlid
   have hp2 := hr2.size_le lid hlid
   have HS1 := hid (fun w' h => sizes_any (hr1.below (w' := w') h) lid hlid)
   have HS2 := hid (fun w' h => sizes_any (hr2.below (w' := w') h) lid hlid)
   generalize x.ctors.getD k default = ct2 at *
   generalize sizeF lid ct2.args 0 = P1 at *
   generalize sizeF lid ct2.outs 0 = I1 at *
   obtain ⟨hp10, hp11⟩ := hp1
   obtain ⟨hp20, hp21⟩ := hp2
   have y1 : IntKind.i64.wrap (q + 1) = q + 1 := by rw [IntKind.wrap_i64]; omega
   have y2 : IntKind.i64.wrap (q + 1 + P1) = q + 1 + P1 := by rw [IntKind.wrap_i64]; omega
   have y3 : IntKind.i64.wrap (q + 1 + P1 + I1) = q + 1 + P1 + I1 := by rw [IntKind.wrap_i64]; omega
   have HWT := hid (And.intro y1 (And.intro y2 y3))
   have HC2 := hid hq
   have zk4 := zk2 4
   have HD2 := hid (bel_drew hb3)
   have HD3 : Hid (Below wr.heap.size wr wr.drew) := hid (bel_drew (Below.refl _ _))
   clear hq hcs y1 y2 y3 hr1 hr2
   go_wp2_with fail
   refine wp_region_held_drew (S := (fun w' => w'.cell? ⟨wo.heap.size, 4, none⟩ = some (.slice (some ⟨bc, oc, none⟩) nc cc) ∧ w'.cell? ⟨bc, oc + k * 2, none⟩ = some (.slice A1 n1 c1) ∧ w'.cell? ⟨bc, oc + k * 2 + 1, none⟩ = some (.slice A2 n2 c2) ∧ Below wr.heap.size wr w')) (by kernel_rfl) ?_ (fun hHeld => ?_)
   · (try dsimp only); exact ⟨zk4, hk1, hk2, HD3.out⟩
   refine tq 0 hHeld ?_
   try simp only [p7]
   refine tq 1 hHeld ?_
   try simp only [p7]
   refine tq 2 hHeld ?_
   try simp only [p7]
   refine tq 3 hHeld ?_
   try simp only [p7]
   refine tq 4 hHeld ?_
   try simp only [p7]
   refine tq 5 hHeld ?_
   try simp only [p7]
   refine tq 6 hHeld ?_
   try simp only [p7]
   refine tq 7 hHeld ?_
   try simp only [p7]
   refine tq 8 hHeld ?_
   try simp only [p7]
   refine tq 11 hHeld ?_
   try simp only [p7]
   refine tq 12 hHeld ?_
   try simp only [p7]
   refine tq 13 hHeld ?_
   try simp only [p7]
   refine tq 14 hHeld ?_
   try simp only [p7]
   refine tq 15 hHeld ?_
   try simp only [p7]
   refine tq 16 hHeld ?_
   try simp only [p7]
   refine tq 17 hHeld ?_
   try simp only [p7]
   refine r1 9 fun K hK => ?_
   go_simp
   refine (HS1.out _ hHeld.2.2.2).mono ?_
   rintro e w3 ⟨rfl, rfl⟩
   go_wp2_with fail
   refine hK.out _ _ (by exact hHeld) fun hHeld => ?_
   clear hK K
   try simp only [p7]
   refine tq 10 hHeld ?_
   try simp only [p7]
   refine r1 18 fun K hK => ?_
   go_simp
   refine (HS2.out _ hHeld.2.2.2).mono ?_
   rintro e w3 ⟨rfl, rfl⟩
   go_wp2_with fail
   refine hK.out _ _ (by exact hHeld) fun hHeld => ?_
   clear hK K
   try simp only [p7]
   refine tq 19 hHeld ?_
   try simp only [p7]
   refine tq 20 hHeld ?_
   try simp only [p7]
   refine wpAnyH_done (by kernel_rfl) ?_ _
   clear HS1 HS2
   go_wp2_with fail
   go_roundw
   case rel => exact ⟨k + 1, q + 1 + P1 + I1, by first | (obtain ⟨w1, w2, w3⟩ := HWT.out; rw [w1, w2, w3]) | (obtain ⟨w1, w2, w3⟩ := HWT.out; simp only [w1, w2, w3]), by go_num, by omega, by omega, by omega, HC2, HD2⟩
   case measure => simp [intOf]; omega
end
end Go.Proofs.Ytjoddliplahgkaa
