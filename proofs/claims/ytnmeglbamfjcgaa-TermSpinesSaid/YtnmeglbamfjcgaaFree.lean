/- Free: does a variable stand free in a row? Below: are all free variables below that? -/
import Derived.Test.YtnmeglbamfjcgaaShape
import Derived.Test.YtnmeglbamfjcgaaEach
namespace Go.Proofs.Ytnmeglbamfjcgaa
open Go.RowKit

/-- Some variable v under a binders of which that holds. -/
def exM (p : Int → Int → Bool) : Met Unit := { an := fun _ v a => p v a, nx := fun _ _ _ => () }
def boxJ (pb : Nat) (x : Int) (w : World) (_ : Unit) : Prop := Blk w pb 3 #[.int .i64 x]

set_option maxRecDepth 100000 in
theorem free1_ok {pb H : Nat} {x : Int} (hpb : pb < H) : MetOk Try.prog 53 #[.pointer (some ⟨pb, 0, none⟩)] (exM fun v a => decide (v - a = x)) (boxJ pb x) (fun _ => False) H := by
  intro w t v a hH hj hv0 hv1 ha0 ha1
  have cb := Blk.cell hj
  have hl : pb < w.heap.size := by omega
  have HJ := Lib.hid hj
  clear hj
  show Calls Try.prog 53 #[.int .i64 v, .int .i64 a, .pointer (some ⟨pb, 0, none⟩)] w _
  go_enter Try.func53, Try.ntmps53
  go_wp2_with fail
  go_ret
  exact ⟨ret_bool (by simp only [exM]; rw [Bool.eq_iff_iff]; simp), Moved.refl _ _ _, HJ.out⟩

set_option maxRecDepth 100000 in
theorem below1_ok {pb H : Nat} {x : Int} (hpb : pb < H) : MetOk Try.prog 56 #[.pointer (some ⟨pb, 0, none⟩)] (exM fun v a => decide (max x 0 ≤ v - a)) (boxJ pb x) (fun _ => False) H := by
  intro w t v a hH hj hv0 hv1 ha0 ha1
  have cb := Blk.cell hj
  have hl : pb < w.heap.size := by omega
  have HJ := Lib.hid hj
  clear hj
  show Calls Try.prog 56 #[.int .i64 v, .int .i64 a, .pointer (some ⟨pb, 0, none⟩)] w _
  go_enter Try.func56, Try.ntmps56
  go_wp2_with fail
  all_goals
    go_ret
    refine ⟨ret_bool ?_, Moved.refl _ _ _, HJ.out⟩
    simp only [exM]
    rw [decide_eq_decide]
    omega

/-- Is there such a variable? -/
def exF (p : Int → Int → Bool) (pop pb : Int) : Nat → Int → Fo → Bool
  | _, _, .nil => false
  | j, a, .cons _ n _ k x => ((decide (n.op = 1) && p n.a (a + aroundI pop pb j)) || exF p n.op n.b 0 (a + aroundI pop pb j) k) || exF p pop pb (j + 1) a x
def exT (p : Int → Int → Bool) (a : Int) (n : Nd) (k : Fo) : Bool := (decide (n.op = 1) && p n.a a) || exF p n.op n.b 0 a k
theorem exF_cons (p : Int → Int → Bool) (pop pb : Int) (j : Nat) (a : Int) (pre : List Nd) (n : Nd) (ats : List Nd) (k x : Fo) : exF p pop pb j a (.cons pre n ats k x) = (exT p (a + aroundI pop pb j) n k || exF p pop pb (j + 1) a x) := rfl
theorem exM_nx (p : Int → Int → Bool) (f : Bool) (n : Nd) (a : Int) : (eaV (exM p)).nx (f, ()) n a = ((f || (decide (n.op = 1) && p n.a a)), ()) := by
  simp only [eaV, exM]
  cases f
  · by_cases h : n.op = 1 <;> simp [h]
  · simp
theorem exM_S (p : Int → Int → Bool) (pop pb : Int) : ∀ (j : Nat) (a : Int) (f : Bool) (F : Fo), (eaV (exM p)).S pop pb j a (f, ()) F = ((f || exF p pop pb j a F), ())
  | _, _, _, .nil => by simp [Vis.S, exF]
  | j, a, f, .cons pre n ats k x => by
    rw [Vis.S_cons, Vis.S1, exM_nx, exM_S p n.op n.b 0 _ _ k, exM_S p pop pb (j + 1) a _ x, exF_cons, exT]
    simp only [Bool.or_assoc]
theorem eachR_ex (p : Int → Int → Bool) (n : Nd) (k : Fo) : (eachR (exM p) () n k).1 = exT p 0 n k := by
  rw [eachR, Vis.S1, exM_nx, exM_S, exT, Bool.false_or]
theorem eaV_len {τ : Type} (T : Met τ) (pop pb : Int) : ∀ (j : Nat) (a : Int) (s : Bool × τ) (F : Fo), ((eaV T).E pop pb j a s F).length ≤ (row F).length
  | _, _, _, .nil => Nat.le_refl _
  | j, a, s, .cons p n at' k x => by
    rw [Vis.E_cons, Vis.E1]
    have h1 := eaV_len T n.op n.b 0 (a + aroundI pop pb j) ((eaV T).nx s n (a + aroundI pop pb j)) k
    have h2 := eaV_len T pop pb (j + 1) a ((eaV T).S1 (a + aroundI pop pb j) s n k) x
    have h3 : ((eaV T).em s n (a + aroundI pop pb j)).length = 0 := rfl
    simp only [List.length_append, row, List.length_cons]
    omega
theorem eaV_len1 {τ : Type} (T : Met τ) (a : Int) (s : Bool × τ) (n : Nd) (ats : List Nd) (k : Fo) : ((eaV T).E1 a s n ats k).length ≤ (n :: (ats ++ row k)).length := by
  have h1 := eaV_len T n.op n.b 0 a ((eaV T).nx s n a) k
  have h3 : ((eaV T).em s n a).length = 0 := rfl
  rw [Vis.E1, List.length_append, List.length_append, h3]
  simp only [List.length_cons, List.length_append]; omega

def exR (p : Int → Int → Bool) (l : List Nd) : Bool :=
  match pp [false] l with
  | some (.cons _ n _ k _, _) => exT p 0 n k
  | _ => false
def freeB (l : List Nd) (v : Int) : Bool := decide (0 ≤ v) && (decide (shapeI l = 0) && exR (fun x a => decide (x - a = v)) l)
def belowB (l : List Nd) (v : Int) : Bool := decide (shapeI l = 0) && !exR (fun x a => decide (max v 0 ≤ x - a)) l
def BoolPost (b : Bool) (w : World) (e : Ending) (w' : World) : Prop := e = .returned (.bool b) ∧ Below w.heap.size w w'

/-- 'each' with a function that holds one number. -/
theorem each_box {p : Int → Int → Bool} {mk : FuncId} {x : Int} {A : Option Addr} {nn c : Nat} {l : List Nd} {w w2 : World} (h : TermV w A nn c l) (hs : shapeI l = 0) (hb : Below w.heap.size w w2) (hg : w.heap.size < w2.heap.size) (hbx : Blk w2 w.heap.size 3 #[.int .i64 x])
    (hen : ∀ args w, (callFunc mk args).run Try.prog w = .ok (.enter mk args) w) (hmet : ∀ H pb, pb < H → MetOk Try.prog mk #[.pointer (some ⟨pb, 0, none⟩)] (exM p) (boxJ pb x) (fun _ => False) H) :
    Calls Try.prog 42 #[.slice A nn c, .func (.func mk) #[] #[.pointer (some ⟨w.heap.size, 0, none⟩)]] w2 (BoolPost (exR p l) w2) := by
  obtain ⟨hl, n, ats, k, hpp, hrow, hfs⟩ := shape_ok hs
  refine (each_any (T := exM p) (J := boxJ w.heap.size x) (K := fun k => k = w.heap.size) (S := fun _ => False) (R := (· < w.heap.size)) (t := ()) (fun b hb' => ⟨by omega, fun h => h⟩) (h.keep fun b hb' => ⟨hb', fun o => cell_of_heap (hb.block b hb') o⟩) (fun k hk => by omega) (fun k hk => hk.elim)
    (fun w w' t hj hk => hj.same (hk _ rfl)) hen (hmet _ _ hg) hbx hpp (by omega) (by have := eaV_len1 (exM p) 0 (false, ()) n ats k; rw [← hrow] at this; omega)).mono ?_
  rintro e w3 ⟨rfl, hm, _⟩
  refine ⟨ret_bool ?_, hm.to_below (Nat.le_refl _) (fun _ h => h.elim) (fun g hg => by cases hg)⟩
  rw [eachR_ex]
  unfold exR
  rw [hpp]

set_option maxRecDepth 100000 in
set_option maxHeartbeats 1000000 in
theorem free_any {A : Option Addr} {nn c : Nat} {l : List Nd} {w : World} (h : TermV w A nn c l) (v : Int) :
    Calls Try.prog 18 #[.slice A nn c, .int .i64 v] w (BoolPost (freeB l v) w) := by
  have hmf : ∀ (fn : Fn) (first cap : Array Value) (w : World), (Instr.makeFunc fn first cap).run Try.prog w = .ok (.func fn first cap) w := fun _ _ _ _ => rfl
  have hbw := below_alloc w (.cells #[.int .i64 v] 3)
  by_cases h0 : 0 ≤ v
  · by_cases hs : shapeI l = 0
    · have hf : freeB l v = exR (fun x a => decide (x - a = v)) l := by simp [freeB, h0, hs]
      have hsb : (shapeI l == 0) = true := by simp [hs]
      have HF := Lib.hid hf
      have HS := Lib.hid hs
      have H := Lib.hid h
      have HBW := Lib.hid hbw
      have HA := Lib.hid (h.below hbw)
      clear hf hs h hbw
      go_enter Try.func18, Try.ntmps18
      go_wp2_with (go_at_call 19; refine (shape_any HA.out).mono ?_; rintro e w2 ⟨rfl, hb2⟩)
      have hb3 : Below w.heap.size w w2 := HBW.out.trans (hb2.mono HBW.out.size)
      have hx : Blk w2 w.heap.size 3 #[.int .i64 v] := (Blk.new w _ _).below hb2 (by simp)
      refine (each_box H.out HS.out hb3 hx.lt hx (fun _ _ => by kernel_rfl) (fun H pb hp => free1_ok hp)).mono ?_
      rintro e w4 ⟨rfl, hb4⟩
      go_wp2_with fail
      go_ret
      exact ⟨ret_bool HF.out.symm, hb3.trans (hb4.mono hb3.size)⟩
    · have hf : freeB l v = false := by simp [freeB, hs]
      have hsb : (shapeI l == 0) = false := by simp [hs]
      have HF := Lib.hid hf
      have HBW := Lib.hid hbw
      have HA := Lib.hid (h.below hbw)
      clear hf hs h hbw
      go_enter Try.func18, Try.ntmps18
      go_wp2_with (go_at_call 19; refine (shape_any HA.out).mono ?_; rintro e w2 ⟨rfl, hb2⟩)
      go_ret
      exact ⟨ret_bool HF.out.symm, HBW.out.trans (hb2.mono HBW.out.size)⟩
  · have hf : freeB l v = false := by simp [freeB, h0]
    have h0b : decide (0 ≤ v) = false := by simp; omega
    have HF := Lib.hid hf
    have HBW := Lib.hid hbw
    clear hf h0 h hbw
    go_enter Try.func18, Try.ntmps18
    go_wp2_with fail
    go_ret
    exact ⟨ret_bool HF.out.symm, HBW.out⟩

set_option maxRecDepth 100000 in
set_option maxHeartbeats 1000000 in
theorem below_any {A : Option Addr} {nn c : Nat} {l : List Nd} {w : World} (h : TermV w A nn c l) (v : Int) :
    Calls Try.prog 23 #[.slice A nn c, .int .i64 v] w (BoolPost (belowB l v) w) := by
  have hmf : ∀ (fn : Fn) (first cap : Array Value) (w : World), (Instr.makeFunc fn first cap).run Try.prog w = .ok (.func fn first cap) w := fun _ _ _ _ => rfl
  have hbw := below_alloc w (.cells #[.int .i64 v] 3)
  by_cases hs : shapeI l = 0
  · have hf : belowB l v = !exR (fun x a => decide (max v 0 ≤ x - a)) l := by simp [belowB, hs]
    have hsb : (shapeI l == 0) = true := by simp [hs]
    have HF := Lib.hid hf
    have HS := Lib.hid hs
    have H := Lib.hid h
    have HBW := Lib.hid hbw
    have HA := Lib.hid (h.below hbw)
    clear hf hs h hbw
    go_enter Try.func23, Try.ntmps23
    go_wp2_with (go_at_call 19; refine (shape_any HA.out).mono ?_; rintro e w2 ⟨rfl, hb2⟩)
    have hb3 : Below w.heap.size w w2 := HBW.out.trans (hb2.mono HBW.out.size)
    have hx : Blk w2 w.heap.size 3 #[.int .i64 v] := (Blk.new w _ _).below hb2 (by simp)
    refine (each_box H.out HS.out hb3 hx.lt hx (fun _ _ => by kernel_rfl) (fun H pb hp => below1_ok hp)).mono ?_
    rintro e w4 ⟨rfl, hb4⟩
    go_wp2_with fail
    go_ret
    exact ⟨ret_bool HF.out.symm, hb3.trans (hb4.mono hb3.size)⟩
  · have hf : belowB l v = false := by simp [belowB, hs]
    have hsb : (shapeI l == 0) = false := by simp [hs]
    have HF := Lib.hid hf
    have HBW := Lib.hid hbw
    have HA := Lib.hid (h.below hbw)
    clear hf hs h hbw
    go_enter Try.func23, Try.ntmps23
    go_wp2_with (go_at_call 19; refine (shape_any HA.out).mono ?_; rintro e w2 ⟨rfl, hb2⟩)
    go_ret
    exact ⟨ret_bool HF.out.symm, HBW.out.trans (hb2.mono HBW.out.size)⟩

end Go.Proofs.Ytnmeglbamfjcgaa
