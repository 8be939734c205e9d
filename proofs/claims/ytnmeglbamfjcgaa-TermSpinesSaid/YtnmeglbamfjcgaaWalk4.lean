/- The walk over a row that is right: whole. -/
import Derived.Test.YtnmeglbamfjcgaaWalk3
import Derived.Defers
import Derived.Recover
import Derived.Laws.EntriesVeiled
namespace Go.Proofs.Ytnmeglbamfjcgaa
open Go.RowKit

theorem walk2_all {σ : Type} (C : WkC σ) (hG : C.Good) : ∀ (m : Nat) (w : World) (v : Value) (q : Nat) (s : σ) (o : List Nd) (a : Int) (n : Nd) (ats : List Nd) (k : Fo) (rest : List Nd), C.St w v q s o → pp [false] (C.l.drop q) = some (.cons [] n ats k .nil, rest) → 0 ≤ a → a + 4 * fsize k ≤ 1000000000000 → C.V.D1 a s n k → o.length + (C.V.E1 a s n ats k).length ≤ C.M → fsize k < m →
      Calls Try.prog 68 #[.int .i64 a, .pointer (some ⟨C.H, 0, none⟩), .pointer (some ⟨C.H + 5, 0, none⟩), .pointer (some ⟨C.H + 2, 0, none⟩), .pointer (some ⟨C.H + 1, 0, none⟩), .pointer (some ⟨C.H + 6, 0, none⟩)] w (C.Post w v o (C.l.length - rest.length) (C.V.E1 a s n ats k) (C.V.S1 a s n k) (C.V.G1 a s n k))
  | 0, _, _, _, _, _, _, _, _, _, _, _, _, _, _, _, _, h => absurd h (by omega)
  | m + 1, w, v, q, s, o, a, n, ats, k, rest, hst, hpp, ha0, ha1, hD, hM, hsz => by
    by_cases h2 : n.op = 2
    · exact walk2_sort C hG m (walk2_all C hG m) w v q s o a n ats k rest hst hpp ha0 ha1 hD hM (by omega) h2
    · exact walk2_kids C hG m (walk2_all C hG m) w v q s o a n ats k rest hst hpp ha0 ha1 hD hM (by omega) h2

theorem assert_fail (er : Int) (w : World) : (Instr.typeAssert (.iface 85 (.agg #[.int .i64 er])) 20 85 true).run Try.prog w = .ok (.tuple #[.agg #[.int .i64 er], .bool true]) w := by kernel_rfl
theorem assert_nil (w : World) : (Instr.typeAssert .nilIface 20 85 true).run Try.prog w = .ok (.tuple #[.agg #[.int .i64 0], .bool false]) w := by kernel_rfl

def CatchPost (p1 p2 : Nat) (er : Int) (w w' : World) : Prop := Moved (fun k => k = p1 ∨ k = p2) none w w' ∧ Blk w' p1 23 #[.slice none 0 0] ∧ Blk w' p2 26 #[.int .i64 er]

theorem catch_post {p1 p2 : Nat} {x y : Value} {er : Int} {w : World} (hp : p1 ≠ p2) (h1 : Blk w p1 23 #[x]) (h2 : Blk w p2 26 #[y]) (o : Obj) :
    CatchPost p1 p2 er w (((w.setCell ⟨p1, 0, none⟩ (.slice none 0 0)).setCell ⟨p2, 0, none⟩ (.int .i64 er)).alloc o).drew := by
  refine ⟨((((Moved.refl _ _ w).setCell (p := ⟨p1, 0, none⟩) (.inl rfl) _).setCell (p := ⟨p2, 0, none⟩) (.inr rfl) _).alloc _).drew, ?_, ?_⟩
  · have := ((h1.set_ 0 (.slice none 0 0)).far (p := ⟨p2, 0, none⟩) hp (.int .i64 er)).alloc o
    exact (by simpa using this : Blk (((w.setCell ⟨p1, 0, none⟩ (.slice none 0 0)).setCell ⟨p2, 0, none⟩ (.int .i64 er)).alloc o) p1 23 #[.slice none 0 0])
  · have := ((h2.far (p := ⟨p1, 0, none⟩) (Ne.symm hp) (.slice none 0 0)).set_ 0 (.int .i64 er)).alloc o
    exact (by simpa using this : Blk (((w.setCell ⟨p1, 0, none⟩ (.slice none 0 0)).setCell ⟨p2, 0, none⟩ (.int .i64 er)).alloc o) p2 26 #[.int .i64 er])

/-- What the deferred function finds: a panic of the walk's own, which it tells. -/
theorem catch_fail (p1 p2 : Nat) (hp : p1 ≠ p2) (x y : Value) (er : Int) (older : List PanicEntry) (w : World) (h1 : Blk w p1 23 #[x]) (h2 : Blk w p2 26 #[y]) :
    CallsD Try.prog 67 #[.pointer (some ⟨p1, 0, none⟩), .pointer (some ⟨p2, 0, none⟩)] (.panicking ({ v := .iface 85 (.agg #[.int .i64 er]), recovered := false } :: older)) w fun e u' w' =>
      e = .returned (.tuple #[]) ∧ u' = .panicking ({ v := .iface 85 (.agg #[.int .i64 er]), recovered := true } :: older) ∧ CatchPost p1 p2 er w w' := by
  have c1 := h1.cell
  have c2 := h2.cell
  have f1 := h1.frozen
  have f2 := h2.frozen
  refine callsD_of_wpS Try.func67 rfl fun c₀ cs hu => ?_
  apply wpS_seq
  apply wpS_region
  simp [wpOpsS, go_sem, recoverD, hu, Try.ntmps67, Exit.thenS, assert_fail]
  apply wpS_seq
  apply wpS_region
  simp [wpOpsS, go_sem, Exit.thenS]
  refine wpS_cond (t := true) (by simp [Act.eval, Array.replicate]) ?_
  simp only [if_true]
  refine wpS_of_wp ?_
  simp only [Array.replicate]
  have hl1 := h1.lt
  have hl2 := h2.lt
  have hp' : p2 ≠ p1 := Ne.symm hp
  have hn1 : w.heap.size ≠ p1 := by omega
  have hn2 : w.heap.size ≠ p2 := by omega
  go_region
  all_goals
    simp [bodyPostS, results, Try.results67, go_sem]
    exact catch_post hp h1 h2 _

/-- .. and no panic: it does nothing. -/
theorem catch_idle (p1 p2 : Nat) (w : World) :
    CallsD Try.prog 67 #[.pointer (some ⟨p1, 0, none⟩), .pointer (some ⟨p2, 0, none⟩)] .returning w fun e u' w' =>
      e = .returned (.tuple #[]) ∧ u' = .returning ∧ w' = w.alloc (.cells #[.int .i64 0] 85) := by
  refine callsD_of_wpS Try.func67 rfl fun c₀ cs hu => ?_
  apply wpS_seq
  apply wpS_region
  simp [wpOpsS, go_sem, recoverD, hu, Try.ntmps67, Exit.thenS, assert_nil]
  apply wpS_seq
  apply wpS_region
  simp [wpOpsS, go_sem, Exit.thenS]
  refine wpS_cond (t := false) (by simp [Act.eval, Array.replicate]) ?_
  simp only [Bool.false_eq_true, if_false]
  refine wpS_of_wp (wp_skip ?_)
  cases c₀
  simp_all [bodyPostS, results, Try.results67]

/-- What is asked of a walk. -/
structure WalkIn {σ : Type} (V : Vis σ) (fn : FuncId) (caps : Array Value) (J : World → σ → Prop) (KK S : Nat → Prop) (base : Nat) (er : Int) (M : Nat) (R : Nat → Prop) (w : World) (A : Option Addr) (nn c : Nat) (l : List Nd) (v : Value) (s : σ) (o : List Nd) : Prop where
  hbase : base ≤ w.heap.size
  hR : ∀ b, R b → b < w.heap.size ∧ ¬ S b
  hK : ∀ b, KK b → b < w.heap.size
  hS : ∀ b, S b → KK b
  hJ : ∀ w w' s, J w s → (∀ k, KK k → w'.heap[k]? = w.heap[k]?) → J w' s
  hM : M ≤ 1000000000000
  en : ∀ args w, (callFunc fn args).run Try.prog w = .ok (.enter fn args) w
  one : OneOk Try.prog fn caps V J KK S base w.heap.size [{ v := .iface 85 (.agg #[.int .i64 er]), recovered := false }] M
  tm : TermR R w A nn c l
  own : OwnN w base v o
  j : J w s
  hv : ∀ g, v.ownBlock = some g → ¬ KK g ∧ ¬ R g

def WalkPost {σ : Type} (V : Vis σ) (J : World → σ → Prop) (S : Nat → Prop) (base : Nat) (er : Int) (w : World) (v : Value) (s : σ) (o : List Nd) (n : Nd) (ats : List Nd) (k : Fo) (e : Ending) (w' : World) : Prop :=
  Moved S v.ownBlock w w' ∧ ((V.G1 0 s n k = true ∧ J w' (V.S1 0 s n k) ∧ ∃ v', e = .returned (.tuple #[v', .int .i64 0]) ∧ OwnN w' base v' (o ++ V.E1 0 s n ats k) ∧ newRow v v' w) ∨
    (V.G1 0 s n k = false ∧ e = .returned (.tuple #[.slice none 0 0, .int .i64 er])))

section
variable {σ : Type} {V : Vis σ} {fn : FuncId} {caps : Array Value} {J : World → σ → Prop} {KK S : Nat → Prop} {base : Nat} {er : Int} {M : Nat} {R : Nat → Prop} {w : World} {A : Option Addr} {nn c : Nat} {l : List Nd} {v : Value} {s : σ} {o : List Nd}
def wkOf (V : Vis σ) (fn : FuncId) (caps : Array Value) (J : World → σ → Prop) (KK S : Nat → Prop) (base : Nat) (er : Int) (M : Nat) (R : Nat → Prop) (H : Nat) (A : Option Addr) (nn c : Nat) (l : List Nd) : WkC σ :=
  { H := H, base := base, A := A, nn := nn, c := c, l := l, R := R, KK := KK, S := S, fn := fn, caps := caps, J := J, V := V, pan := [{ v := .iface 85 (.agg #[.int .i64 er]), recovered := false }], M := M }
theorem WalkIn.good (h : WalkIn V fn caps J KK S base er M R w A nn c l v s o) : (wkOf V fn caps J KK S base er M R w.heap.size A nn c l).Good :=
  ⟨h.hbase, h.hR, h.hK, h.hS, h.hJ, h.hM, h.en, h.one⟩
def walkStart (w : World) (A : Option Addr) (nn c : Nat) (v : Value) (fn : FuncId) (caps : Array Value) : World :=
  (((((((w.alloc (.cells #[.slice A nn c] 23)).alloc (.cells #[v] 23)).alloc (.cells #[.func (.func fn) #[] caps] 61)).alloc (.cells #[.slice none 0 0] 23)).alloc (.cells #[.int .i64 0] 26)).alloc (.cells #[.int .i64 0] 3)).alloc
    (.cells #[.func (.func 68) #[] #[.pointer (some ⟨w.heap.size, 0, none⟩), .pointer (some ⟨w.heap.size + 5, 0, none⟩), .pointer (some ⟨w.heap.size + 2, 0, none⟩), .pointer (some ⟨w.heap.size + 1, 0, none⟩), .pointer (some ⟨w.heap.size + 6, 0, none⟩)]] 87))
theorem walkStart_below (w : World) (A : Option Addr) (nn c : Nat) (v : Value) (fn : FuncId) (caps : Array Value) : Below w.heap.size w (walkStart w A nn c v fn caps) :=
  (((((((Below.refl _ _).alloc (by simp) _).alloc (by simp) _).alloc (by simp; omega) _).alloc (by simp; omega) _).alloc (by simp; omega) _).alloc (by simp; omega) _).alloc (by simp; omega) _
theorem WalkIn.start (h : WalkIn V fn caps J KK S base er M R w A nn c l v s o) : (wkOf V fn caps J KK S base er M R w.heap.size A nn c l).St (walkStart w A nn c v fn caps) v 0 s o ∧ Blk (walkStart w A nn c v fn caps) (w.heap.size + 3) 23 #[.slice none 0 0] ∧ Blk (walkStart w A nn c v fn caps) (w.heap.size + 4) 26 #[.int .i64 0] := by
  have hb := walkStart_below w A nn c v fn caps
  refine ⟨⟨?_, ?_, ?_, ?_, ?_, ?_, ?_, ?_, ?_⟩, ?_, ?_⟩
  · exact (((((((Blk.new' rfl).alloc _).alloc _).alloc _).alloc _).alloc _).alloc _)
  · exact ((((((Blk.new' (by simp [wkOf])).alloc _).alloc _).alloc _).alloc _).alloc _)
  · exact (((((Blk.new' (by simp [wkOf])).alloc _).alloc _).alloc _).alloc _)
  · exact ((Blk.new' (by simp [wkOf])).alloc _)
  · exact (Blk.new' (by simp [wkOf] <;> rfl))
  · exact h.tm.keep fun b hR => ⟨hR, fun o => cell_of_heap (hb.block b (h.hR b hR).1) o⟩
  · exact h.own.below hb
  · exact h.hJ _ _ _ h.j fun k hk => hb.block k (h.hK k hk)
  · intro g hg
    exact ⟨(h.hv g hg).1, (h.hv g hg).2, .inl (ownsRow_block h.own hg).2.1⟩
  · exact ((((Blk.new' (by simp)).alloc _).alloc _).alloc _)
  · exact (((Blk.new' (by simp)).alloc _).alloc _)
end

set_option maxRecDepth 100000 in
set_option maxHeartbeats 1000000 in
theorem walk_any {σ : Type} {V : Vis σ} {fn : FuncId} {caps : Array Value} {J : World → σ → Prop} {KK S : Nat → Prop} {base : Nat} {er : Int} {M : Nat} {R : Nat → Prop} {w : World} {A : Option Addr} {nn c : Nat} {l : List Nd} {v : Value} {s : σ} {o : List Nd}
    (hin : WalkIn V fn caps J KK S base er M R w A nn c l v s o) {n : Nd} {ats : List Nd} {k : Fo} (hpp : pp [false] l = some (.cons [] n ats k .nil, [])) (hsz : 4 * fsize k ≤ 1000000000000) (hD : V.D1 0 s n k) (hlen : o.length + (V.E1 0 s n ats k).length ≤ M) :
    Calls Try.prog 45 #[.slice A nn c, v, .func (.func fn) #[] caps] w (WalkPost V J S base er w v s o n ats k) := by
  obtain ⟨Av, cv, rfl⟩ := hin.own.slice
  have hmf : ∀ (fn : Fn) (first cap : Array Value) (w : World), (Instr.makeFunc fn first cap).run Try.prog w = .ok (.func fn first cap) w := fun _ _ _ _ => rfl
  have HIN := Lib.hid hin
  have HPP := Lib.hid hpp
  have HSZ := Lib.hid hsz
  have HD := Lib.hid hD
  have HLEN := Lib.hid hlen
  clear hin hpp hsz hD hlen
  go_enter_defers Try.func45, Try.ntmps45
  go_wp2_with fail
  obtain ⟨hst, hk3, hk4⟩ := HIN.out.start
  refine (walk2_all _ HIN.out.good (fsize k + 1) (walkStart w A nn c (.slice Av o.length cv) fn caps) _ 0 s o 0 n ats k [] hst HPP.out (by omega) (by have := HSZ.out; omega) HD.out HLEN.out (by omega)).mono ?_
  rintro e w8 (⟨hg, rfl, hm, v8, hst8, hnr⟩ | ⟨hg, rfl, hm⟩)
  · obtain ⟨A8, c8, rfl⟩ := hst8.own.slice
    have hS : ∀ j, j = 3 ∨ j = 4 → ¬ (wkOf V fn caps J KK S base er M R w.heap.size A nn c l).S' (w.heap.size + j) := fun j hj hs => by
      rcases hs with h | h | h
      · have := HIN.out.hK _ (HIN.out.hS _ h); omega
      · simp only [wkOf] at h; omega
      · simp only [wkOf] at h; omega
    have hO : ∀ j, (Value.slice Av o.length cv).ownBlock ≠ some (w.heap.size + j) := fun j e => by have := (ownsRow_block HIN.out.own e).2.1; omega
    have b3 : Blk w8 (w.heap.size + 1 + 1 + 1) 23 #[.slice none 0 0] := hk3.moved hm (hS 3 (.inl rfl)) (hO 3)
    have b4 : Blk w8 (w.heap.size + 1 + 1 + 1 + 1) 26 #[.int .i64 0] := hk4.moved hm (hS 4 (.inr rfl)) (hO 4)
    have e1 : w8.cell? ⟨w.heap.size + 1, 0, none⟩ = some (.slice A8 (o ++ (wkOf V fn caps J KK S base er M R w.heap.size A nn c l).V.E1 0 s n ats k).length c8) := hst8.bo.cell 0
    have c3 := b3.cell
    have c4 := b4.cell
    have f3 := b3.frozen
    have f4 := b4.frozen
    have B3 := Lib.hid b3
    have B4 := Lib.hid b4
    have HM := Lib.hid hm
    have HS8 := Lib.hid hst8
    have HNR := Lib.hid hnr
    have HGG := Lib.hid hg
    clear b3 b4 hm hst8 hnr hg hst hk3 hk4 hS hO
    go_wp2_with fail
    refine leaves_cons (f := 67) (args := #[.pointer (some ⟨w.heap.size + 1 + 1 + 1, 0, none⟩), .pointer (some ⟨w.heap.size + 1 + 1 + 1 + 1, 0, none⟩)]) (by simp) (by simp [go_sem]) ?_
    refine (catch_idle _ _ _).mono ?_
    rintro e u' w'' ⟨rfl, rfl, rfl⟩
    have r3 := ((B3.out.set_ 0 (.slice A8 (o.length + ((wkOf V fn caps J KK S base er M R w.heap.size A nn c l).V.E1 0 s n ats k).length) c8)).far (p := ⟨w.heap.size + 1 + 1 + 1 + 1, 0, none⟩) (by simp) (.int .i64 0)).alloc (.cells #[.int .i64 0] 85)
    have r4 := ((B4.out.far (p := ⟨w.heap.size + 1 + 1 + 1, 0, none⟩) (by simp) (.slice A8 (o.length + ((wkOf V fn caps J KK S base er M R w.heap.size A nn c l).V.E1 0 s n ats k).length) c8)).set_ 0 (.int .i64 0)).alloc (.cells #[.int .i64 0] 85)
    have hno : ∀ g, (Value.slice A8 (o.length + (V.E1 0 s n ats k).length) c8).ownBlock = some g → g < w.heap.size ∨ w.heap.size + 7 ≤ g := fun g hg => (HS8.out.hv g (by rw [List.length_append]; exact hg)).2.2
    have hown : OwnN (((w8.setCell ⟨w.heap.size + 1 + 1 + 1, 0, none⟩ (.slice A8 (o.length + ((wkOf V fn caps J KK S base er M R w.heap.size A nn c l).V.E1 0 s n ats k).length) c8)).setCell ⟨w.heap.size + 1 + 1 + 1 + 1, 0, none⟩ (.int .i64 0)).alloc (.cells #[.int .i64 0] 85)) base (.slice A8 (o.length + ((wkOf V fn caps J KK S base er M R w.heap.size A nn c l).V.E1 0 s n ats k).length) c8) (o ++ V.E1 0 s n ats k) := by
      have h1 := HS8.out.own
      rw [List.length_append] at h1
      refine OwnN.alloc ?_ _
      refine ownsRow_setCell_other (ownsRow_setCell_other h1 ?_ _) ?_ _
      · intro e; have := hno _ e; simp at this; omega
      · intro e; have := hno _ e; simp at this; omega
    have hfm := ((((Moved.over (S := S) (walkStart_below w A nn c (.slice Av o.length cv) fn caps) HM.out (fun k hk hs => by
      rcases hs with h | h | h
      · exact h
      · simp only [wkOf] at h; omega
      · simp only [wkOf] at h; omega)).setNew (p := ⟨w.heap.size + 1 + 1 + 1, 0, none⟩) (by simp; omega) (.slice A8 (o.length + ((wkOf V fn caps J KK S base er M R w.heap.size A nn c l).V.E1 0 s n ats k).length) c8)).setNew (p := ⟨w.heap.size + 1 + 1 + 1 + 1, 0, none⟩) (by simp; omega) (.int .i64 0)).alloc (.cells #[.int .i64 0] 85))
    have hj : J (((w8.setCell ⟨w.heap.size + 1 + 1 + 1, 0, none⟩ (.slice A8 (o.length + ((wkOf V fn caps J KK S base er M R w.heap.size A nn c l).V.E1 0 s n ats k).length) c8)).setCell ⟨w.heap.size + 1 + 1 + 1 + 1, 0, none⟩ (.int .i64 0)).alloc (.cells #[.int .i64 0] 85)) (V.S1 0 s n k) := HIN.out.hJ _ _ _ HS8.out.j (fun g hg => by
      have h1 := HIN.out.hK g hg
      have h2 := HS8.out.size
      simp only [wkOf] at h2
      rw [Below.heap_alloc _ _ _ (by simp [World.setCell]; omega), Below.heap_setCell _ _ _ _ (by simp; omega), Below.heap_setCell _ _ _ _ (by simp; omega)])
    have hnr : newRow (.slice Av o.length cv) (.slice A8 (o.length + ((wkOf V fn caps J KK S base er M R w.heap.size A nn c l).V.E1 0 s n ats k).length) c8) w := fun g hg => (HNR.out g (by rw [List.length_append]; exact hg)).imp id (fun h => Nat.le_trans (walkStart_below w A nn c (.slice Av o.length cv) fn caps).size h)
    have HP : RowKit.Hid (WalkPost V J S base er w (.slice Av o.length cv) s o n ats k (.returned (.tuple #[.slice A8 (o.length + ((wkOf V fn caps J KK S base er M R w.heap.size A nn c l).V.E1 0 s n ats k).length) c8, .int .i64 0])) (((w8.setCell ⟨w.heap.size + 1 + 1 + 1, 0, none⟩ (.slice A8 (o.length + ((wkOf V fn caps J KK S base er M R w.heap.size A nn c l).V.E1 0 s n ats k).length) c8)).setCell ⟨w.heap.size + 1 + 1 + 1 + 1, 0, none⟩ (.int .i64 0)).alloc (.cells #[.int .i64 0] 85))) :=
      ⟨hfm, .inl ⟨HGG.out, hj, _, rfl, hown, hnr⟩⟩
    clear hfm hown hj hnr hno c3 c4 f3 f4 e1
    generalize (((w8.setCell ⟨w.heap.size + 1 + 1 + 1, 0, none⟩ (.slice A8 (o.length + ((wkOf V fn caps J KK S base er M R w.heap.size A nn c l).V.E1 0 s n ats k).length) c8)).setCell ⟨w.heap.size + 1 + 1 + 1 + 1, 0, none⟩ (.int .i64 0)).alloc (.cells #[.int .i64 0] 85)) = wf at r3 r4 HP ⊢
    have q3 : wf.cell? ⟨w.heap.size + 1 + 1 + 1, 0, none⟩ = some (.slice A8 (o.length + ((wkOf V fn caps J KK S base er M R w.heap.size A nn c l).V.E1 0 s n ats k).length) c8) := r3.cell 0
    have q4 : wf.cell? ⟨w.heap.size + 1 + 1 + 1 + 1, 0, none⟩ = some (.int .i64 0) := r4.cell 0
    simp [Leaves, settle, results, Try.results45, go_sem, q3, q4]
    exact HP.out
  · have hS : ∀ j, j = 3 ∨ j = 4 → ¬ (wkOf V fn caps J KK S base er M R w.heap.size A nn c l).S' (w.heap.size + j) := fun j hj hs => by
      rcases hs with h | h | h
      · have := HIN.out.hK _ (HIN.out.hS _ h); omega
      · simp only [wkOf] at h; omega
      · simp only [wkOf] at h; omega
    have hO : ∀ j, (Value.slice Av o.length cv).ownBlock ≠ some (w.heap.size + j) := fun j e => by have := (ownsRow_block HIN.out.own e).2.1; omega
    have b3 : Blk w8 (w.heap.size + 1 + 1 + 1) 23 #[.slice none 0 0] := hk3.moved hm (hS 3 (.inl rfl)) (hO 3)
    have b4 : Blk w8 (w.heap.size + 1 + 1 + 1 + 1) 26 #[.int .i64 0] := hk4.moved hm (hS 4 (.inr rfl)) (hO 4)
    refine leaves_cons (f := 67) (args := #[.pointer (some ⟨w.heap.size + 1 + 1 + 1, 0, none⟩), .pointer (some ⟨w.heap.size + 1 + 1 + 1 + 1, 0, none⟩)]) (by simp) (by simp [go_sem]) ?_
    refine (catch_fail (w.heap.size + 1 + 1 + 1) (w.heap.size + 1 + 1 + 1 + 1) (by omega) _ _ er [] w8 b3 b4).mono ?_
    rintro e u' wf ⟨rfl, rfl, hc1, hc3, hc4⟩
    have q3 : wf.cell? ⟨w.heap.size + 1 + 1 + 1, 0, none⟩ = some (.slice none 0 0) := hc3.cell 0
    have q4 : wf.cell? ⟨w.heap.size + 1 + 1 + 1 + 1, 0, none⟩ = some (.int .i64 er) := hc4.cell 0
    have HP : RowKit.Hid (WalkPost V J S base er w (.slice Av o.length cv) s o n ats k (.returned (.tuple #[.slice none 0 0, .int .i64 er])) wf) := by
      refine ⟨?_, .inr ⟨hg, rfl⟩⟩
      have h1 := Moved.over (S := S) (walkStart_below w A nn c (.slice Av o.length cv) fn caps) hm (fun k hk hs => by
        rcases hs with h | h | h
        · exact h
        · simp only [wkOf] at h; omega
        · simp only [wkOf] at h; omega)
      refine ⟨hc1.os.trans h1.os, hc1.tape.trans h1.tape, hc1.output.trans h1.output, Nat.le_trans h1.size hc1.size, fun g hg1 hg2 hg3 => ?_⟩
      exact (hc1.block g (Nat.lt_of_lt_of_le hg1 h1.size) (by omega) (by simp)).trans (h1.block g hg1 hg2 hg3)
    simp [Leaves, settle, results, Try.results45, go_sem, q3, q4]
    exact HP.out

end Go.Proofs.Ytnmeglbamfjcgaa
