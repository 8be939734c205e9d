/- each: all variables of a row that is right are met, up to the first one of which that is told. -/
import Derived.Test.YtnmeglbamfjcgaaWalk4
namespace Go.Proofs.Ytnmeglbamfjcgaa
open Go.RowKit

/-- What meeting a variable under so many binders answers, and the state behind it. -/
structure Met (τ : Type) where
  an : τ → Int → Int → Bool
  nx : τ → Int → Int → τ
def MetOk (P : Program) (mk : FuncId) (mc : Array Value) {τ : Type} (T : Met τ) (J : World → τ → Prop) (S : Nat → Prop) (H : Nat) : Prop :=
  ∀ (w : World) (t : τ) (v a : Int), H ≤ w.heap.size → J w t → 0 ≤ v → v ≤ 1048576 → 0 ≤ a → a ≤ 1000000000000 →
    Calls P mk (#[.int .i64 v, .int .i64 a] ++ mc) w fun e w' => e = .returned (.bool (T.an t v a)) ∧ Moved S none w w' ∧ J w' (T.nx t v a)

def eaV {τ : Type} (T : Met τ) : Vis (Bool × τ) where
  em := fun _ _ _ => []
  nx := fun s n a => if s.1 = true then s else if n.op = 1 then (T.an s.2 n.a a, T.nx s.2 n.a a) else s
  ok := fun _ _ _ => true
  dm := fun _ _ _ => True
def eaJ {τ : Type} (pf pm : Nat) (mk : FuncId) (mc : Array Value) (J : World → τ → Prop) (w : World) (s : Bool × τ) : Prop := Blk w pf 4 #[.bool s.1] ∧ Blk w pm 58 #[.func (.func mk) #[] mc] ∧ J w s.2
def eaK (pf pm : Nat) (K : Nat → Prop) (k : Nat) : Prop := k = pf ∨ k = pm ∨ K k
def eaS (pf : Nat) (S : Nat → Prop) (k : Nat) : Prop := k = pf ∨ S k

theorem ea_close {τ : Type} {T : Met τ} {pf pm : Nat} {mk : FuncId} {mc : Array Value} {J : World → τ → Prop} {S : Nat → Prop} {base : Nat} {pan : List PanicEntry} {w w' : World} {s : Bool × τ} {v : Value} {o : List Nd} {n : Nd} {a : Int} {b : Bool} {t : τ} (hown : OwnN w base v o) (hv : ∀ k, v.ownBlock = some k → ¬ eaS pf S k) (hm : Moved (eaS pf S) none w w') (hf : Blk w' pf 4 #[.bool b]) (hp : Blk w' pm 58 #[.func (.func mk) #[] mc]) (hj : J w' t) (hn : (eaV T).nx s n a = (b, t)) :
    OnePost (eaV T) (eaJ pf pm mk mc J) (eaS pf S) base pan w s v o n a (.returned v) w' := by
  refine .inl ⟨rfl, ⟨hm.os, hm.tape, hm.output, hm.size, fun k hk hs _ => hm.block k hk hs (by simp)⟩, ?_, _, rfl, ?_, newRow.refl _ _⟩
  · rw [hn]; exact ⟨hf, hp, hj⟩
  · show OwnN w' base v (o ++ [])
    rw [List.append_nil]
    exact hown.moved hm fun g hg => ⟨hv g hg, by simp⟩

theorem ea_quiet {τ : Type} {T : Met τ} {pf pm : Nat} {mk : FuncId} {mc : Array Value} {J : World → τ → Prop} {K S : Nat → Prop} {base H : Nat} {pan : List PanicEntry} {w : World} {s : Bool × τ} {v : Value} {o : List Nd} {n : Nd} {a : Int} {b : Bool} {t : τ} {x : Value} (hown : OwnN w base v o) (hv : ∀ k, v.ownBlock = some k → ¬ eaS pf S k) (hne : pf ≠ pm) (hH : H ≤ w.heap.size) (hK : ∀ k, K k → k < H ∧ k ≠ pf ∧ k ≠ pm)
    (hJ : ∀ w w' t, J w t → (∀ k, K k → w'.heap[k]? = w.heap[k]?) → J w' t) (hf : Blk w pf 4 #[x]) (hp : Blk w pm 58 #[.func (.func mk) #[] mc]) (hj : J w t) (hn : (eaV T).nx s n a = (b, t)) (ob : Obj) :
    OnePost (eaV T) (eaJ pf pm mk mc J) (eaS pf S) base pan w s v o n a (.returned v) ((w.setCell ⟨pf, 0, none⟩ (.bool b)).alloc ob) := by
  refine ea_close hown hv (((Moved.refl _ _ w).setCell (p := ⟨pf, 0, none⟩) (.inl rfl) _).alloc _) ?_ ((hp.far (p := ⟨pf, 0, none⟩) (Ne.symm hne) _).alloc _) ?_ hn
  · have := (hf.set_ 0 (.bool b)).alloc ob
    simpa using this
  · refine hJ _ _ _ hj fun k hk => ?_
    have := hK k hk
    rw [Below.heap_alloc _ _ _ (by simp [World.setCell]; omega), Below.heap_setCell _ _ _ _ this.2.1]

set_option linter.unusedSimpArgs false in
set_option maxRecDepth 100000 in
set_option maxHeartbeats 1000000 in
theorem each1_ok {τ : Type} {T : Met τ} {pf pm : Nat} {mk : FuncId} {mc : Array Value} {J : World → τ → Prop} {K S : Nat → Prop} {base H M : Nat} {pan : List PanicEntry} (hne : pf ≠ pm) (hpf : pf < H) (hpm : pm < H) (hK : ∀ k, K k → k < H ∧ k ≠ pf ∧ k ≠ pm) (hS : ∀ k, S k → K k)
    (hJ : ∀ w w' t, J w t → (∀ k, K k → w'.heap[k]? = w.heap[k]?) → J w' t) (hen : ∀ args w, (callFunc mk args).run Try.prog w = .ok (.enter mk args) w) (hmet : MetOk Try.prog mk mc T J S H) :
    OneOk Try.prog 66 #[.pointer (some ⟨pf, 0, none⟩), .pointer (some ⟨pm, 0, none⟩)] (eaV T) (eaJ pf pm mk mc J) (eaK pf pm K) (eaS pf S) base H pan M := by
  rintro w ⟨f, t⟩ v o n a hH ⟨hjf, hjm, hjt⟩ hown hkk hok _ ha0 ha1 hlen
  have hpl : plainB n.op n.a n.b = true := by simp only [okN, Bool.and_eq_true] at hok; exact hok.1.1
  obtain ⟨hna0, hna1⟩ := plainB_a hpl
  have cf := hjf.cell
  have ff := hjf.frozen
  have cm := hjm.cell
  have hlf : pf < w.heap.size := by omega
  have hlm : pm < w.heap.size := by omega
  have HOWN := Lib.hid hown
  have HJF := Lib.hid hjf
  have HJM := Lib.hid hjm
  have HJT := Lib.hid hjt
  have HKK := Lib.hid hkk
  have HK := Lib.hid hK
  have HS := Lib.hid hS
  have HJ := Lib.hid hJ
  have HMET := Lib.hid hmet
  have hvs : ∀ k, v.ownBlock = some k → ¬ eaS pf S k := fun k hk hs => hkk k hk (hs.elim .inl fun h => .inr (.inr (hS k h)))
  have HVS := Lib.hid hvs
  have hba : Below w.heap.size w (w.alloc (.cells #[.int .i64 n.op, .int .i64 n.a, .int .i64 n.b] 53)) := below_alloc _ _
  have HJA := Lib.hid (hJ _ _ _ hjt (fun k hk => hba.block k (by have := (hK k hk).1; omega)))
  clear hown hjf hjm hjt hkk hok hpl hlen hK hS hJ hmet hvs hba
  show Calls Try.prog 66 #[v, .agg #[.int .i64 n.op, .int .i64 n.a, .int .i64 n.b], .int .i64 a, .pointer (some ⟨pf, 0, none⟩), .pointer (some ⟨pm, 0, none⟩)] w _
  simp only at cf HJF HJT HJA
  cases f with
  | true =>
    go_enter Try.func66, Try.ntmps66
    go_wp2_with fail
    go_ret
    exact ea_quiet HOWN.out HVS.out hne hH HK.out HJ.out HJF.out HJM.out HJT.out rfl _
  | false =>
    by_cases h1 : n.op = 1
    · have h1b : (n.op == 1) = true := by simp [h1]
      have H1 := Lib.hid h1
      clear h1
      go_enter Try.func66, Try.ntmps66
      go_wp2_with fail
      refine (HMET.out (w.alloc (.cells #[.int .i64 n.op, .int .i64 n.a, .int .i64 n.b] 53)) t n.a a (by simp; omega) HJA.out hna0 hna1 ha0 ha1).mono ?_
      rintro e w8 ⟨rfl, hm, hj8⟩
      have hnS : ∀ k, k = pf ∨ k = pm → ¬ S k := fun k hk hs => by have := HK.out k (HS.out k hs); omega
      have b8 : Blk w8 pf 4 #[.bool false] := (HJF.out.alloc _).moved hm (hnS pf (.inl rfl)) (by simp)
      have b9 : Blk w8 pm 58 #[.func (.func mk) #[] mc] := (HJM.out.alloc _).moved hm (hnS pm (.inr rfl)) (by simp)
      have c8 := b8.cell
      have f8 := b8.frozen
      have hl8 : pf < w8.heap.size := b8.lt
      have B8 := Lib.hid b8
      have B9 := Lib.hid b9
      have HM8 := Lib.hid hm
      have HJ8 := Lib.hid hj8
      clear b8 b9 hm hj8 hnS cf ff cm
      go_wp2_with fail
      go_ret
      refine ea_close HOWN.out HVS.out ((((Moved.refl _ _ w).alloc _).trans (HM8.out.mono (fun _ h => .inr h)) (fun g hg => by cases hg)).setCell (p := ⟨pf, 0, none⟩) (.inl rfl) _) ?_ (B9.out.far (p := ⟨pf, 0, none⟩) (Ne.symm hne) _) ?_ (b := T.an t n.a a) (t := T.nx t n.a a) ?_
      · have := B8.out.set_ 0 (.bool (T.an t n.a a))
        simpa using this
      · exact HJ.out _ _ _ HJ8.out fun k hk => Below.heap_setCell _ _ _ _ (HK.out k hk).2.1
      · show (if false = true then (false, t) else if n.op = 1 then (T.an t n.a a, T.nx t n.a a) else (false, t)) = _
        rw [if_neg (by simp), if_pos H1.out]
    · have h1b : (n.op == 1) = false := by simp [h1]
      have H1 := Lib.hid h1
      clear h1
      go_enter Try.func66, Try.ntmps66
      go_wp2_with fail
      go_ret
      refine ea_quiet HOWN.out HVS.out hne hH HK.out HJ.out HJF.out HJM.out HJT.out ?_ _
      show (if false = true then (false, t) else if n.op = 1 then (T.an t n.a a, T.nx t n.a a) else (false, t)) = _
      rw [if_neg (by simp), if_neg H1.out]

theorem eaV_D {τ : Type} (T : Met τ) (pop pb : Int) : ∀ (j : Nat) (a : Int) (s : Bool × τ) (F : Fo), (eaV T).D pop pb j a s F
  | _, _, _, .nil => trivial
  | j, a, s, .cons p n at' k x => by
    rw [Vis.D_cons]
    exact ⟨⟨trivial, eaV_D T _ _ _ _ _ k⟩, eaV_D T pop pb (j + 1) a _ x⟩
theorem eaV_G {τ : Type} (T : Met τ) (pop pb : Int) : ∀ (j : Nat) (a : Int) (s : Bool × τ) (F : Fo), (eaV T).G pop pb j a s F = true
  | _, _, _, .nil => rfl
  | j, a, s, .cons p n at' k x => by
    rw [Vis.G_cons, eaV_G T pop pb (j + 1) a _ x, Vis.G1, eaV_G T _ _ _ _ _ k]; rfl

/-- What 'each' answers, and the state behind it. -/
def eachR {τ : Type} (T : Met τ) (t : τ) (n : Nd) (k : Fo) : Bool × τ := (eaV T).S1 0 (false, t) n k

set_option maxRecDepth 100000 in
set_option maxHeartbeats 1000000 in
theorem each_any {τ : Type} {T : Met τ} {mk : FuncId} {mc : Array Value} {J : World → τ → Prop} {K S : Nat → Prop} {R : Nat → Prop} {w : World} {A : Option Addr} {nn c : Nat} {l : List Nd} {t : τ} (hR : ∀ b, R b → b < w.heap.size ∧ ¬ S b) (htm : TermR R w A nn c l) (hK : ∀ k, K k → k < w.heap.size) (hS : ∀ k, S k → K k)
    (hJ : ∀ w w' t, J w t → (∀ k, K k → w'.heap[k]? = w.heap[k]?) → J w' t) (hen : ∀ args w, (callFunc mk args).run Try.prog w = .ok (.enter mk args) w) (hmet : MetOk Try.prog mk mc T J S w.heap.size) (hj : J w t)
    {n : Nd} {ats : List Nd} {k : Fo} (hpp : pp [false] l = some (.cons [] n ats k .nil, [])) (hsz : 4 * fsize k ≤ 1000000000000) (hlen : ((eaV T).E1 0 (false, t) n ats k).length ≤ 1000000000000) :
    Calls Try.prog 42 #[.slice A nn c, .func (.func mk) #[] mc] w fun e w' => e = .returned (.bool (eachR T t n k).1) ∧ Moved S none w w' ∧ J w' (eachR T t n k).2 := by
  have hmf : ∀ (fn : Fn) (first cap : Array Value) (w : World), (Instr.makeFunc fn first cap).run Try.prog w = .ok (.func fn first cap) w := fun _ _ _ _ => rfl
  have hb2 := below_alloc2 w (.cells #[.func (.func mk) #[] mc] 58) (.cells #[.bool false] 4)
  have hin : WalkIn (eaV T) 66 #[.pointer (some ⟨w.heap.size + 1, 0, none⟩), .pointer (some ⟨w.heap.size, 0, none⟩)] (eaJ (w.heap.size + 1) w.heap.size mk mc J) (eaK (w.heap.size + 1) w.heap.size K) (eaS (w.heap.size + 1) S) w.heap.size 6 1000000000000 R ((w.alloc (.cells #[.func (.func mk) #[] mc] 58)).alloc (.cells #[.bool false] 4)) A nn c l (.slice none 0 0) (false, t) [] := by
    refine ⟨by simp; omega, fun b h => ⟨by have := (hR b h).1; simp; omega, fun hs => ?_⟩, fun b h => ?_, fun b h => ?_, ?_, Nat.le_refl _, fun _ _ => by kernel_rfl, each1_ok (K := K) (by omega) (by simp) (by simp <;> omega) (fun k hk => by have := hK k hk; simp; omega) hS hJ hen ?_, ?_, OwnN.nil _ _, ?_, fun g hg => by simp [Value.ownBlock] at hg⟩
    · have := hR b h
      rcases hs with hs | hs
      · omega
      · exact this.2 hs
    · rcases h with h | h | h
      · subst h; simp
      · subst h; simp <;> omega
      · have := hK b h; simp; omega
    · rcases h with h | h
      · exact .inl h
      · exact .inr (.inr (hS b h))
    · intro w1 w2 s h hk
      exact ⟨h.1.same (hk _ (.inl rfl)), h.2.1.same (hk _ (.inr (.inl rfl))), hJ _ _ _ h.2.2 fun k h => hk k (.inr (.inr h))⟩
    · intro w1 t1 v1 a1 h
      exact hmet w1 t1 v1 a1 (by simp at h; omega)
    · exact htm.keep fun b h => ⟨h, fun o => cell_of_heap (hb2.block b (hR b h).1) o⟩
    · exact ⟨Blk.new' (by simp), (Blk.new _ _ _).alloc _, hJ _ _ _ hj fun k h => hb2.block k (hK k h)⟩
  have hwalk := walk_any hin hpp hsz ⟨trivial, eaV_D T _ _ _ _ _ k⟩ (by simpa using hlen)
  have hg : (eaV T).G1 0 (false, t) n k = true := by rw [Vis.G1, eaV_G]; rfl
  have HW := Lib.hid hwalk
  have HB2 := Lib.hid hb2
  have HG1 := Lib.hid hg
  have HJ := Lib.hid hJ
  have HS := Lib.hid hS
  clear hwalk hin hb2 htm hpp hsz hlen hR hg hJ hS hK hmet hj
  go_enter Try.func42, Try.ntmps42
  go_wp2_with fail
  refine HW.out.mono ?_
  rintro e w' ⟨hm, (⟨_, ⟨hf, hp, hj⟩, v', rfl, hown', hnr⟩ | ⟨hg, _⟩)⟩
  · have cf := hf.cell
    have HF := Lib.hid hf
    have HM := Lib.hid hm
    have HJ' := Lib.hid hj
    clear hf hm hj hp hown' hnr
    go_wp2_with fail
    go_ret
    refine ⟨rfl, Moved.over HB2.out HM.out (fun k hk hs => ?_), HJ'.out⟩
    rcases hs with hs | hs
    · omega
    · exact hs
  · rw [HG1.out] at hg; cases hg

end Go.Proofs.Ytnmeglbamfjcgaa
