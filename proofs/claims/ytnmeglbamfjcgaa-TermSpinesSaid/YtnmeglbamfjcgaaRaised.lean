/- raised: a row with its free variables from one on higher, behind another row. -/
import Derived.Test.YtnmeglbamfjcgaaWalk4
namespace Go.Proofs.Ytnmeglbamfjcgaa
open Go.RowKit

/-- What raising does to each node. -/
def raV (up fr : Int) : Vis Unit where
  em := fun _ n a => if n.op = 1 ∧ fr + a ≤ n.a then [⟨n.op, n.a + up, n.b⟩] else [n]
  nx := fun _ _ _ => ()
  ok := fun _ n a => if n.op = 1 ∧ fr + a ≤ n.a then decide (up ≤ 1048576 - n.a) else true
  dm := fun _ _ _ => True
def raJ (pf pb : Nat) (up fr : Int) (w : World) (_ : Unit) : Prop := Blk w pf 3 #[.int .i64 fr] ∧ Blk w pb 3 #[.int .i64 up]
def raK (pf pb : Nat) (k : Nat) : Prop := k = pf ∨ k = pb

theorem ra_same {up fr : Int} {n : Nd} {a : Int} (h : ¬ (n.op = 1 ∧ fr + a ≤ n.a)) : (raV up fr).em () n a = [n] ∧ (raV up fr).ok () n a = true := ⟨if_neg h, if_neg h⟩
theorem ra_up {up fr : Int} {n : Nd} {a : Int} (h : n.op = 1 ∧ fr + a ≤ n.a) : (raV up fr).em () n a = [⟨n.op, n.a + up, n.b⟩] ∧ (raV up fr).ok () n a = decide (up ≤ 1048576 - n.a) := ⟨if_pos h, if_pos h⟩

theorem ra_close {pf pb : Nat} {up fr : Int} {base : Nat} {pan : List PanicEntry} {w W w' : World} {s : Unit} {v : Value} {A' : Option Addr} {m c' : Nat} {o : List Nd} {n x : Nd} {a : Int} {xs : List Value} (hf : Blk w pf 3 #[.int .i64 fr]) (hp : Blk w pb 3 #[.int .i64 up]) (hk : ∀ k, v.ownBlock = some k → ¬ raK pf pb k)
    (hb : Below w.heap.size w W) (hown : OwnN w' base (.slice A' m c') (o ++ [x])) (happ : Appended W w' base 53 3 v A' m c' xs) (he : (raV up fr).em () n a = [x]) (hok : (raV up fr).ok () n a = true) :
    OnePost (raV up fr) (raJ pf pb up fr) (fun _ => False) base pan w s v o n a (.returned (.slice A' m c')) w' := by
  refine .inl ⟨hok, (Moved.of_below hb).trans (Moved.of_grown happ.grown) (fun g hg => .inl hg), ⟨?_, ?_⟩, _, rfl, ?_, fun g hg => (happ.new g hg).imp id (fun h => Nat.le_trans hb.size h)⟩
  · exact (hf.below hb hf.lt).grown happ.grown (fun e => hk _ e.symm (.inl rfl))
  · exact (hp.below hb hp.lt).grown happ.grown (fun e => hk _ e.symm (.inr rfl))
  · show OwnN w' base _ (o ++ (raV up fr).em () n a)
    rw [he]; exact hown

set_option linter.unusedSimpArgs false in
set_option maxRecDepth 100000 in
set_option maxHeartbeats 1000000 in
theorem raised1_ok {pf pb : Nat} {up fr : Int} {base H M : Nat} (hpf : pf < H) (hpb : pb < H) (hb : base ≤ H) (hM : M ≤ 1000000000000) (hup0 : 0 ≤ up) (hup1 : up ≤ 9223372036854775807) (hfr0 : 0 ≤ fr) (hfr1 : fr ≤ 1000000000000) :
    OneOk Try.prog 70 #[.pointer (some ⟨pf, 0, none⟩), .pointer (some ⟨pb, 0, none⟩)] (raV up fr) (raJ pf pb up fr) (raK pf pb) (fun _ => False) base H [{ v := .iface 85 (.agg #[.int .i64 6]), recovered := false }] M := by
  intro w s v o n a hH hj hown hkk hok _ ha0 ha1 hlen
  obtain ⟨Av, cv, rfl⟩ := hown.slice
  obtain ⟨hjf, hjb⟩ := hj
  have hpl : plainB n.op n.a n.b = true := by simp only [okN, Bool.and_eq_true] at hok; exact hok.1.1
  obtain ⟨hna0, hna1⟩ := plainB_a hpl
  have cf := hjf.cell
  have cb := hjb.cell
  have hlf : pf < w.heap.size := by omega
  have hlb : pb < w.heap.size := by omega
  have hbs : base ≤ w.heap.size := by omega
  obtain ⟨i0, hi, hy0, hy1, hy2⟩ := info_parts infoN
  have HI0 := Lib.hid hi
  have HY0 := Lib.hid hy0
  have HY1 := Lib.hid hy1
  have HY2 := Lib.hid hy2
  have HOWN := Lib.hid hown
  have HJF := Lib.hid hjf
  have HJB := Lib.hid hjb
  have HKK := Lib.hid hkk
  have HLEN := Lib.hid hlen
  clear hi hy0 hy1 hy2 hown hjf hjb hkk hok hpl hlen
  show Calls Try.prog 70 #[.slice Av o.length cv, .agg #[.int .i64 n.op, .int .i64 n.a, .int .i64 n.b], .int .i64 a, .pointer (some ⟨pf, 0, none⟩), .pointer (some ⟨pb, 0, none⟩)] w _
  by_cases h1 : n.op = 1 ∧ fr + a ≤ n.a
  · have ⟨h2, h3⟩ := h1
    have h2b : (n.op == 1) = true := by simp [h2]
    have hw1 : IntKind.i64.wrap (fr + a) = fr + a := IntWalk.i64_in _ (by omega)
    obtain ⟨he, hk⟩ := ra_up (up := up) h1
    have HE := Lib.hid he
    have HK := Lib.hid hk
    have H1 := Lib.hid h1
    clear he hk h1 h2
    by_cases h4 : up ≤ 1048576 - n.a
    · have hl : o.length + 1 ≤ 1000000000000 := by have := HLEN.out; rw [HE.out] at this; simp at this; omega
      have h4b : decide (1048576 - n.a < up) = false := by simp; omega
      go_enter Try.func70, Try.ntmps70
      go_wp2_with (at_builtin; refine wpList_oper rfl (oper_append_node (.tmp 32) (.tmp 34) 23 rfl base i0 Try.underlying23 HI0.out HY0.out HY1.out HY2.out (.slice Av o.length cv) o ⟨n.op, n.a + up, n.b⟩ (w.alloc (.cells #[.int .i64 n.op, .int .i64 (n.a + up), .int .i64 n.b] 53)) (by rfl) (by rfl) (HOWN.out.alloc _) _ (by rfl) (by simp) (by omega) (by simp; omega) ?_); intro A' c' w' hown' happ)
      go_ret
      exact ra_close HJF.out HJB.out HKK.out (below_alloc _ _) hown' happ HE.out (by rw [HK.out]; simpa using h4)
    · have h4b : 1048576 - n.a < up := by omega
      go_enter Try.func70, Try.ntmps70
      go_wp2_with fail
      exact ⟨rfl, .inr ⟨by rw [HK.out]; simp; omega, rfl, Moved.of_below (below_alloc _ _)⟩⟩
  · obtain ⟨he, hk⟩ := ra_same (up := up) h1
    have HE := Lib.hid he
    have HK := Lib.hid hk
    have hl : o.length + 1 ≤ 1000000000000 := by have := HLEN.out; rw [he] at this; simp at this; omega
    clear he hk
    by_cases h2 : n.op = 1
    · have h2b : (n.op == 1) = true := by simp [h2]
      have h3b : decide (fr + a ≤ n.a) = false := by simp; have := fun h => h1 ⟨h2, h⟩; omega
      clear h1 h2
      go_enter Try.func70, Try.ntmps70
      go_wp2_with (at_builtin; refine wpList_oper rfl (oper_append_node (.tmp 32) (.tmp 34) 23 rfl base i0 Try.underlying23 HI0.out HY0.out HY1.out HY2.out (.slice Av o.length cv) o n (w.alloc (.cells #[.int .i64 n.op, .int .i64 n.a, .int .i64 n.b] 53)) (by rfl) (by rfl) (HOWN.out.alloc _) _ (by rfl) (by simp) (by omega) (by simp; omega) ?_); intro A' c' w' hown' happ)
      go_ret
      exact ra_close HJF.out HJB.out HKK.out (below_alloc _ _) hown' happ HE.out HK.out
    · have h2b : (n.op == 1) = false := by simp [h2]
      clear h1 h2
      go_enter Try.func70, Try.ntmps70
      go_wp2_with (at_builtin; refine wpList_oper rfl (oper_append_node (.tmp 32) (.tmp 34) 23 rfl base i0 Try.underlying23 HI0.out HY0.out HY1.out HY2.out (.slice Av o.length cv) o n (w.alloc (.cells #[.int .i64 n.op, .int .i64 n.a, .int .i64 n.b] 53)) (by rfl) (by rfl) (HOWN.out.alloc _) _ (by rfl) (by simp) (by omega) (by simp; omega) ?_); intro A' c' w' hown' happ)
      go_ret
      exact ra_close HJF.out HJB.out HKK.out (below_alloc _ _) hown' happ HE.out HK.out

/-- A row behind another one, raised; or nothing, where a variable would be too great. -/
def RaisedPost (up fr : Int) (base : Nat) (w : World) (v : Value) (o : List Nd) (n : Nd) (ats : List Nd) (k : Fo) (e : Ending) (w' : World) : Prop :=
  Moved (fun _ => False) v.ownBlock w w' ∧ (((raV up fr).G1 0 () n k = true ∧ ∃ v', e = .returned (.tuple #[v', .int .i64 0]) ∧ OwnN w' base v' (o ++ (raV up fr).E1 0 () n ats k) ∧ newRow v v' w) ∨ ((raV up fr).G1 0 () n k = false ∧ e = .returned (.tuple #[.slice none 0 0, .int .i64 6])))

theorem raV_D (up fr : Int) (pop pb : Int) : ∀ (j : Nat) (a : Int) (F : Fo), (raV up fr).D pop pb j a () F
  | _, _, .nil => trivial
  | j, a, .cons p n at' k x => by
    rw [Vis.D_cons]
    exact ⟨⟨trivial, raV_D up fr _ _ _ _ k⟩, raV_D up fr pop pb (j + 1) a x⟩

set_option maxRecDepth 100000 in
set_option maxHeartbeats 1000000 in
theorem raised_any {up fr : Int} {base : Nat} {R : Nat → Prop} {w : World} {A : Option Addr} {nn c : Nat} {l : List Nd} {v : Value} {o : List Nd} (hb : base ≤ w.heap.size) (hR : ∀ b, R b → b < w.heap.size) (htm : TermR R w A nn c l) (hown : OwnN w base v o) (hv : ∀ g, v.ownBlock = some g → ¬ R g)
    {n : Nd} {ats : List Nd} {k : Fo} (hpp : pp [false] l = some (.cons [] n ats k .nil, [])) (hsz : 4 * fsize k ≤ 1000000000000) (hlen : o.length + ((raV up fr).E1 0 () n ats k).length ≤ 1000000000000) (hup0 : 0 ≤ up) (hup1 : up ≤ 9223372036854775807) (hfr0 : 0 ≤ fr) (hfr1 : fr ≤ 1000000000000) :
    Calls Try.prog 47 #[v, .slice A nn c, .int .i64 up, .int .i64 fr] w (RaisedPost up fr base w v o n ats k) := by
  obtain ⟨Av, cv, rfl⟩ := hown.slice
  have hmf : ∀ (fn : Fn) (first cap : Array Value) (w : World), (Instr.makeFunc fn first cap).run Try.prog w = .ok (.func fn first cap) w := fun _ _ _ _ => rfl
  have hb2 := below_alloc2 w (.cells #[.int .i64 up] 3) (.cells #[.int .i64 fr] 3)
  have hin : WalkIn (raV up fr) 70 #[.pointer (some ⟨w.heap.size + 1, 0, none⟩), .pointer (some ⟨w.heap.size, 0, none⟩)] (raJ (w.heap.size + 1) w.heap.size up fr) (raK (w.heap.size + 1) w.heap.size) (fun _ => False) base 6 1000000000000 R ((w.alloc (.cells #[.int .i64 up] 3)).alloc (.cells #[.int .i64 fr] 3)) A nn c l (.slice Av o.length cv) () o := by
    refine ⟨by simp; omega, fun b h => ⟨by have := hR b h; simp; omega, fun h => h⟩, fun b h => by rcases h with h | h <;> subst h <;> simp <;> omega, fun b h => h.elim, ?_, Nat.le_refl _, fun _ _ => by kernel_rfl, raised1_ok (by simp) (by simp <;> omega) (by simp; omega) (Nat.le_refl _) hup0 hup1 hfr0 hfr1, ?_, hown.below hb2, ?_, fun g hg => ⟨fun h => ?_, hv g hg⟩⟩
    · intro w1 w2 s h hk
      exact ⟨h.1.same (hk _ (.inl rfl)), h.2.same (hk _ (.inr rfl))⟩
    · exact htm.keep fun b h => ⟨h, fun o => cell_of_heap (hb2.block b (hR b h)) o⟩
    · exact ⟨Blk.new' (by simp), (Blk.new _ _ _).alloc _⟩
    · have := (ownsRow_block hown hg).2.1
      rcases h with h | h <;> omega
  have hwalk := walk_any hin hpp hsz ⟨trivial, raV_D up fr _ _ _ _ k⟩ hlen
  have HW := Lib.hid hwalk
  have HB2 := Lib.hid hb2
  clear hwalk hin hb2 htm hown hpp hsz hlen hv hR
  go_enter Try.func47, Try.ntmps47
  go_wp2_with fail
  refine HW.out.mono ?_
  rintro e w' ⟨hm, (⟨hg, hj, v', rfl, hown', hnr⟩ | ⟨hg, rfl⟩)⟩
  · go_wp2_with fail
    go_ret2
    exact ⟨Moved.over HB2.out hm (fun _ _ h => h), .inl ⟨hg, _, rfl, hown', fun g hg => (hnr g hg).imp id (fun h => Nat.le_trans HB2.out.size h)⟩⟩
  · go_wp2_with fail
    go_ret2
    exact ⟨Moved.over HB2.out hm (fun _ _ h => h), .inr ⟨hg, rfl⟩⟩

end Go.Proofs.Ytnmeglbamfjcgaa
