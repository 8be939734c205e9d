/- core: run, Whnf. -/
import Derived.Test.YtjoddliplahgkaaDWhD
namespace Go.Proofs.Ytjoddliplahgkaa
open Go.Lib (hid)
set_option maxHeartbeats 4000000
set_option maxRecDepth 100000
set_option linter.unusedVariables false
set_option linter.unusedSimpArgs false
open Go.RowKit
inductive RnR
 | bad (e : Int)
 | done (l : List Nd) (k : Nat)
def OneP (g : Nat) (v : BkVal) (b : Bk) (cA : Option Addr) (cn cc : Nat) (r : RnR) (w : World) (e : Ending) (w' : World) : Prop := Moved (fun q => q = g) none w w' ∧ ((∃ z, r = .bad z ∧ e = .panicked (CFail z)) ∨ ∃ l k A n c, r = .done l k ∧ e = .returned (.slice A n c) ∧ OwnN w' w.heap.size (.slice A n c) l ∧ Blk w' g 79 (McA v b cA cn cc k))
def RunA (r : RnR) (w : World) (e : Ending) (w' : World) : Prop := Below w.heap.size w w' ∧ ((∃ z, r = .bad z ∧ e = .returned (.tuple #[.slice none 0 0, .int .i64 0, .int .i64 z])) ∨ ∃ l k A n c, r = .done l k ∧ e = .returned (.tuple #[.slice A n c, .int .i64 (k : Int), .int .i64 0]) ∧ OwnN w' w.heap.size (.slice A n c) l)
def clipN (fuel : Int) : Nat := (min (max fuel 0) 100000).toNat
theorem crun_any {w : World} {v : BkVal} {b : Bk} {cA : Option Addr} {cn cc : Nat} {cv : List (List Nd)} (hb : BookV w v b) (hcw : CtxW (· < w.heap.size) w cA cn cc cv) {A : Option Addr} {n c : Nat} (fuel : Int) {fid : FuncId} {p : Nat} {r : RnR} (hen : ∀ (args : Array Value) (w : World), (callFunc fid args).run Try.prog w = .ok (.enter fid args) w) (hone : ∀ (g : Nat) (W : World), Below w.heap.size w W → MaW w g v b cA cn cc cv (clipN fuel) W → Calls Try.prog fid #[.pointer (some ⟨g, 0, none⟩), .pointer (some ⟨p, 0, none⟩)] W (OneP g v b cA cn cc r W)) :
 Calls Try.prog 29 #[.agg #[.int .i64 b.vars, .slice v.Ao v.no v.co, .slice v.Ae v.ne v.ce, .int .i64 b.nat, .slice v.Ap v.np v.cp], .slice cA cn cc, .slice A n c, .int .i64 fuel, .func (.func fid) #[] #[.pointer (some ⟨p, 0, none⟩)]] w (RunA r w) := by
 have hmf : ∀ (fn : Fn) (first cap : Array Value) (w : World), (Instr.makeFunc fn first cap).run Try.prog w = .ok (.func fn first cap) w := fun _ _ _ _ => rfl
 obtain ⟨W4, hW4⟩ : ∃ W4 : World, W4 = (((w.alloc (.cells #[.int .i64 b.vars, .slice v.Ao v.no v.co, .slice v.Ae v.ne v.ce, .int .i64 b.nat, .slice v.Ap v.np v.cp] 26)).alloc (.cells #[.slice none 0 0] 29)).alloc (.cells #[.int .i64 0] 3)).alloc (.cells #[.int .i64 0] 34) := ⟨_, rfl⟩
 have hb4 : Below w.heap.size w W4 := by rw [hW4]; exact (((below_alloc w _).alloc (by simp) _).alloc (by simp <;> omega) _).alloc (by simp <;> omega) _
 have hs4 : W4.heap.size = w.heap.size + 4 := by rw [hW4]; simp
 have k0 : Blk W4 w.heap.size 26 #[.int .i64 b.vars, .slice v.Ao v.no v.co, .slice v.Ae v.ne v.ce, .int .i64 b.nat, .slice v.Ap v.np v.cp] := by rw [hW4]; exact (((Blk.new _ _ _).alloc _).alloc _).alloc _
 have k1 : Blk W4 (w.heap.size + 1) 29 #[.slice none 0 0] := by rw [hW4]; exact ((Blk.new' (by simp)).alloc _).alloc _
 have k2 : Blk W4 (w.heap.size + 2) 3 #[.int .i64 0] := by rw [hW4]; exact (Blk.new' (by simp)).alloc _
 have k3 : Blk W4 (w.heap.size + 3) 34 #[.int .i64 0] := by rw [hW4]; exact Blk.new' (by simp)
 have HB4 := hid hb4
 have HW4 := hid hW4.symm
 have HK0 := hid k0
 have HK1 := hid k1
 have HK2 : Hid (Blk W4 (w.heap.size + 1 + 1) 3 #[.int .i64 0]) := hid k2
 have HK3 : Hid (Blk W4 (w.heap.size + 1 + 1 + 1) 34 #[.int .i64 0]) := hid k3
 have hl4 : w.heap.size < W4.heap.size := by omega
 obtain ⟨F, hF⟩ : ∃ F : Nat, F = clipN fuel := ⟨_, rfl⟩
 have hFi : min (max fuel 0) 100000 = (F : Int) := by unfold clipN at hF; omega
 have hF1 : F ≤ 100000 := by omega
 rw [← hF] at hone
 obtain ⟨mx, hmx⟩ : ∃ mx : Int, mx = (if fuel < 0 then 0 else fuel) := ⟨_, rfl⟩
 have hfx : (if 100000 < mx then 100000 else mx) = (F : Int) := by rw [hmx, ← hFi]; split <;> split <;> omega
 have HMX := hid hmx
 have HFX := hid hfx
 obtain ⟨w6, hw6⟩ : ∃ w6 : World, w6 = W4.alloc (.cells #[.int .i64 b.vars, .slice v.Ao v.no v.co, .slice v.Ae v.ne v.ce, .int .i64 b.nat, .slice v.Ap v.np v.cp, .slice cA cn cc, .int .i64 (F : Int)] 79) := ⟨_, rfl⟩
 have hb6 : Below W4.heap.size W4 w6 := by rw [hw6]; exact below_alloc _ _
 obtain ⟨g, hg⟩ : ∃ g, g = w.heap.size + 4 := ⟨_, rfl⟩
 have hk6 : Blk w6 g 79 #[.int .i64 b.vars, .slice v.Ao v.no v.co, .slice v.Ae v.ne v.ce, .int .i64 b.nat, .slice v.Ap v.np v.cp, .slice cA cn cc, .int .i64 (F : Int)] := by rw [hw6]; exact Blk.new' (by omega)
 have hb06 : Below w.heap.size w w6 := hb4.trans (hb6.mono (by omega))
 have HMA : Hid (MaW w g v b cA cn cc cv F w6) := hid ⟨hb06, hk6, by omega, hcw.keep fun q hq => ⟨⟨Nat.lt_of_lt_of_le hq hb06.size, by omega⟩, fun o => hb06.cell (p := ⟨q, o, none⟩) hq⟩⟩
 have hs6 : w6.heap.size = w.heap.size + 5 := by rw [hw6]; simp; omega
 have HB06 := hid hb06
 have HON := hid (hone g w6 hb06 HMA.out)
 have hlt1 : w.heap.size + 1 < W4.heap.size := by omega
 have hlt2 : w.heap.size + 1 + 1 < W4.heap.size := by omega
 have hlt3 : w.heap.size + 1 + 1 + 1 < W4.heap.size := by omega
 have L1 := hid (HK1.out.below hb6 hlt1)
 have L2 := hid (HK2.out.below hb6 hlt2)
 have L3 := hid (HK3.out.below hb6 hlt3)
 have l1 : w.heap.size + 1 < w6.heap.size := by omega
 have l2 : w.heap.size + 1 + 1 < w6.heap.size := by omega
 have l3 : w.heap.size + 1 + 1 + 1 < w6.heap.size := by omega
 have hg3 : w.heap.size + 1 + 1 + 1 < g := by omega
 clear hb hcw hb4 hW4 k0 k1 k2 k3 hb6 hk6 hb06 hone hF hFi hF1 hmx hfx
 go_enter_defers Try.func29, Try.ntmps29
 go_upto_region 2 with fail
 rw [HW4.out]
 have z0 := Blk.cell HK0.out
 go_upto_region 3 with fail
 rw [← HMX.out, HFX.out, ← hg, ← hw6]
 clear hw6 z0 hs4 hs6 hg HMX HFX
 go_wp2_with fail
 refine (HON.out).mono ?_
 rintro e w7 ⟨hm7, h7⟩
 have HM7 := hid hm7
 have K1 := hid (L1.out.moved hm7 (by omega) (by simp))
 have K2 := hid (L2.out.moved hm7 (by omega) (by simp))
 have K3 := hid (L3.out.moved hm7 (by omega) (by simp))
 have HB7 : Hid (Below w.heap.size w w7) := hid (HB06.out.trans (hm7.to_below HB06.out.size (fun k h => by omega) (fun _ e => by cases e)))
 have hs7 := hm7.size
 clear hm7
 rcases h7 with ⟨z, hz, rfl⟩ | ⟨l, k, A7, n7, c7, hd, rfl, ho7, hk7⟩
 · have HZ := hid hz
   clear hz
   go_wp2_with fail
   unfold CFail
   refine leaves_cons (f := 47) (args := #[.pointer (some ⟨w.heap.size + 1, 0, none⟩), .pointer (some ⟨w.heap.size + 1 + 1, 0, none⟩), .pointer (some ⟨w.heap.size + 1 + 1 + 1, 0, none⟩)]) (by simp) (by simp [go_sem]) ?_
   refine (kruncatch_fail (w.heap.size + 1) (w.heap.size + 1 + 1) (w.heap.size + 1 + 1 + 1) (by omega) (by omega) (by omega) _ _ _ z [] w7 K1.out K2.out K3.out).mono ?_
   rintro e u' wf ⟨rfl, rfl, hc1, hc2, hc3, hc4⟩
   have q1 : wf.cell? ⟨w.heap.size + 1, 0, none⟩ = some (.slice none 0 0) := hc2.cell 0
   have q2 : wf.cell? ⟨w.heap.size + 1 + 1, 0, none⟩ = some (.int .i64 0) := hc3.cell 0
   have q3 : wf.cell? ⟨w.heap.size + 1 + 1 + 1, 0, none⟩ = some (.int .i64 z) := hc4.cell 0
   have HP : Hid (RunA r w (.returned (.tuple #[.slice none 0 0, .int .i64 0, .int .i64 z])) wf) := hid ⟨HB7.out.trans (hc1.to_below HB7.out.size (fun k h => by omega) (fun _ e => by cases e)), .inl ⟨z, HZ.out, rfl⟩⟩
   simp [Leaves, settle, results, Try.results29, go_sem, q1, q2, q3]
   exact HP.out
 have HD := hid hd
 have HO7 := hid ho7
 have HK7 := hid hk7
 have c1 := K1.out.cell
 have f1 := K1.out.frozen
 have t1 : w.heap.size + 1 < w7.heap.size := by omega
 clear hd ho7 hk7
 go_upto_region 4 with fail
 obtain ⟨w9, hw9⟩ : ∃ w9 : World, w9 = w7.setCell ⟨w.heap.size + 1, 0, none⟩ (.slice A7 n7 c7) := ⟨_, rfl⟩
 have m9 : Below w.heap.size w w9 := by rw [hw9]; exact HB7.out.setCell (by simp <;> omega) _
 have m1 : Blk w9 (w.heap.size + 1) 29 #[.slice A7 n7 c7] := by rw [hw9]; simpa using K1.out.set_ 0 (.slice A7 n7 c7)
 have m2 : Blk w9 (w.heap.size + 1 + 1) 3 #[.int .i64 0] := by rw [hw9]; exact K2.out.far (p := ⟨w.heap.size + 1, 0, none⟩) (by simp) _
 have m3 : Blk w9 (w.heap.size + 1 + 1 + 1) 34 #[.int .i64 0] := by rw [hw9]; exact K3.out.far (p := ⟨w.heap.size + 1, 0, none⟩) (by simp <;> omega) _
 have mg : Blk w9 g 79 #[.int .i64 b.vars, .slice v.Ao v.no v.co, .slice v.Ae v.ne v.ce, .int .i64 b.nat, .slice v.Ap v.np v.cp, .slice cA cn cc, .int .i64 (k : Int)] := by rw [hw9]; exact HK7.out.far (p := ⟨w.heap.size + 1, 0, none⟩) (by simp <;> omega) _
 have mt : OwnN w9 w6.heap.size (.slice A7 n7 c7) l := by rw [hw9]; exact HO7.out.setCell (a := ⟨w.heap.size + 1, 0, none⟩) (show w.heap.size + 1 < w6.heap.size by omega) _
 have hs9 : w9.heap.size = w7.heap.size := by rw [hw9]; exact size_setT _ _ _ _
 rw [← hw9]
 clear hw9 c1 f1 t1
 have c1 := m1.cell
 have c2 := m2.cell
 have c3 := m3.cell
 have cg := mg.cell
 have f1 := m1.frozen
 have f2 := m2.frozen
 have f3 := m3.frozen
 have hne1 : g ≠ w.heap.size + 1 := by omega
 have hne2 : g ≠ w.heap.size + 1 + 1 := by omega
 have hne3 : g ≠ w.heap.size + 1 + 1 + 1 := by omega
 have hn1 : w.heap.size + 1 ≠ g := Ne.symm hne1
 have hn2 : w.heap.size + 1 + 1 ≠ g := Ne.symm hne2
 have hn3 : w.heap.size + 1 + 1 + 1 ≠ g := Ne.symm hne3
 have t1 : w.heap.size + 1 < w9.heap.size := m1.lt
 have t2 : w.heap.size + 1 + 1 < w9.heap.size := m2.lt
 have t3 : w.heap.size + 1 + 1 + 1 < w9.heap.size := m3.lt
 have M1 := hid m1
 have M2 := hid m2
 have M3 := hid m3
 have MTT := hid mt
 have M9 := hid m9
 obtain ⟨WF, hWF⟩ : ∃ WF : World, WF = (((w9.setCell ⟨w.heap.size + 1, 0, none⟩ (.slice A7 n7 c7)).setCell ⟨w.heap.size + 1 + 1, 0, none⟩ (.int .i64 (k : Int))).setCell ⟨w.heap.size + 1 + 1 + 1, 0, none⟩ (.int .i64 0)).drew := ⟨_, rfl⟩
 have x51 : Blk (w9.setCell ⟨w.heap.size + 1, 0, none⟩ (.slice A7 n7 c7)) (w.heap.size + 1) 29 #[.slice A7 n7 c7] := by simpa using m1.set_ 0 (.slice A7 n7 c7)
 have x52 : Blk (w9.setCell ⟨w.heap.size + 1, 0, none⟩ (.slice A7 n7 c7)) (w.heap.size + 1 + 1) 3 #[.int .i64 0] := m2.far (p := ⟨w.heap.size + 1, 0, none⟩) (by simp <;> omega) _
 have x53 : Blk (w9.setCell ⟨w.heap.size + 1, 0, none⟩ (.slice A7 n7 c7)) (w.heap.size + 1 + 1 + 1) 34 #[.int .i64 0] := m3.far (p := ⟨w.heap.size + 1, 0, none⟩) (by simp <;> omega) _
 have x61 : Blk ((w9.setCell ⟨w.heap.size + 1, 0, none⟩ (.slice A7 n7 c7)).setCell ⟨w.heap.size + 1 + 1, 0, none⟩ (.int .i64 (k : Int))) (w.heap.size + 1) 29 #[.slice A7 n7 c7] := x51.far (p := ⟨w.heap.size + 1 + 1, 0, none⟩) (by simp <;> omega) _
 have x62 : Blk ((w9.setCell ⟨w.heap.size + 1, 0, none⟩ (.slice A7 n7 c7)).setCell ⟨w.heap.size + 1 + 1, 0, none⟩ (.int .i64 (k : Int))) (w.heap.size + 1 + 1) 3 #[.int .i64 (k : Int)] := by simpa using x52.set_ 0 (.int .i64 (k : Int))
 have x63 : Blk ((w9.setCell ⟨w.heap.size + 1, 0, none⟩ (.slice A7 n7 c7)).setCell ⟨w.heap.size + 1 + 1, 0, none⟩ (.int .i64 (k : Int))) (w.heap.size + 1 + 1 + 1) 34 #[.int .i64 0] := x53.far (p := ⟨w.heap.size + 1 + 1, 0, none⟩) (by simp <;> omega) _
 have X1 : Hid (Blk WF (w.heap.size + 1) 29 #[.slice A7 n7 c7]) := hid (by rw [hWF]; exact (x61.far (p := ⟨w.heap.size + 1 + 1 + 1, 0, none⟩) (by simp <;> omega) _))
 have X2 : Hid (Blk WF (w.heap.size + 1 + 1) 3 #[.int .i64 (k : Int)]) := hid (by rw [hWF]; exact (x62.far (p := ⟨w.heap.size + 1 + 1 + 1, 0, none⟩) (by simp <;> omega) _))
 have X3 : Hid (Blk WF (w.heap.size + 1 + 1 + 1) 34 #[.int .i64 0]) := hid (by rw [hWF]; exact (by simpa using x63.set_ 0 (.int .i64 0) : Blk (((w9.setCell ⟨w.heap.size + 1, 0, none⟩ (.slice A7 n7 c7)).setCell ⟨w.heap.size + 1 + 1, 0, none⟩ (.int .i64 (k : Int))).setCell ⟨w.heap.size + 1 + 1 + 1, 0, none⟩ (.int .i64 0)) (w.heap.size + 1 + 1 + 1) 34 #[.int .i64 0]))
 have XB : Hid (Below w.heap.size w WF) := hid (by rw [hWF]; exact below_drewN (((m9.setCell (p := ⟨w.heap.size + 1, 0, none⟩) (by simp <;> omega) _).setCell (p := ⟨w.heap.size + 1 + 1, 0, none⟩) (by simp <;> omega) _).setCell (p := ⟨w.heap.size + 1 + 1 + 1, 0, none⟩) (by simp <;> omega) _) 1)
 have XO : Hid (OwnN WF w.heap.size (.slice A7 n7 c7) l) := hid (by rw [hWF]; exact own_baseN ((((mt.setCell (a := ⟨w.heap.size + 1, 0, none⟩) (show w.heap.size + 1 < w6.heap.size by omega) _).setCell (a := ⟨w.heap.size + 1 + 1, 0, none⟩) (show w.heap.size + 1 + 1 < w6.heap.size by omega) _).setCell (a := ⟨w.heap.size + 1 + 1 + 1, 0, none⟩) (show w.heap.size + 1 + 1 + 1 < w6.heap.size by omega) _).drewN 1) HB06.out.size)
 clear x51 x52 x53 x61 x62 x63 m1 m2 m3 mt m9 mg
 go_region
 go_wp2_with fail
 rw [← hWF]
 clear hWF
 refine leaves_cons (f := 47) (args := #[.pointer (some ⟨w.heap.size + 1, 0, none⟩), .pointer (some ⟨w.heap.size + 1 + 1, 0, none⟩), .pointer (some ⟨w.heap.size + 1 + 1 + 1, 0, none⟩)]) (by simp) (by simp [go_sem]) ?_
 refine (kruncatch_idle _ _ _ _).mono ?_
 rintro e u' w'' ⟨rfl, rfl, rfl⟩
 have q1 : (WF.alloc (.cells #[.int .i64 0] 76)).cell? ⟨w.heap.size + 1, 0, none⟩ = some (.slice A7 n7 c7) := (X1.out.alloc _).cell 0
 have q2 : (WF.alloc (.cells #[.int .i64 0] 76)).cell? ⟨w.heap.size + 1 + 1, 0, none⟩ = some (.int .i64 (k : Int)) := (X2.out.alloc _).cell 0
 have q3 : (WF.alloc (.cells #[.int .i64 0] 76)).cell? ⟨w.heap.size + 1 + 1 + 1, 0, none⟩ = some (.int .i64 0) := (X3.out.alloc _).cell 0
 have HP : Hid (RunA r w (.returned (.tuple #[.slice A7 n7 c7, .int .i64 (k : Int), .int .i64 0])) (WF.alloc (.cells #[.int .i64 0] 76))) := hid ⟨XB.out.alloc XB.out.size _, .inr ⟨l, k, A7, n7, c7, HD.out, rfl, XO.out.alloc _⟩⟩
 generalize (WF.alloc (.cells #[.int .i64 0] 76)) = wz at HP q1 q2 q3 ⊢
 simp [Leaves, settle, results, Try.results29, go_sem, q1, q2, q3]
 exact HP.out
theorem RunA.base {r : RnR} {w w1 w' : World} {e : Ending} (h : RunA r w1 e w') (hb : Below w.heap.size w w1) : RunA r w e w' := by
 obtain ⟨h1, h2⟩ := h
 refine ⟨hb.trans (h1.mono hb.size), ?_⟩
 rcases h2 with h2 | ⟨l, k, A, n, c, h3, h4, h5⟩
 · exact .inl h2
 exact .inr ⟨l, k, A, n, c, h3, h4, own_baseN h5 hb.size⟩
def whQf : WhR → RnR
 | .bad z => .bad z
 | .done y k => .done (rowT (rowF y)) k
def whQ (b : Bk) (cv : List (List Nd)) (x : TT) (F : Nat) : RnR := whQf (whN b cv F (hdW x) 4096)
theorem cwhone_any {w0 : World} {g : Nat} {v : BkVal} {b : Bk} {cA : Option Addr} {cn cc : Nat} {cv : List (List Nd)} (hr : rightE b = 0) (hb : BookV w0 v b) (hc : CtxG b cv) (hcl : (cv.length : Int) ≤ 990000) {F : Nat} (hF : F ≤ 100000) {w : World} (hw : MaW w0 g v b cA cn cc cv F w) {p : Nat} {A : Option Addr} {n c : Nat} {x : TT} (hp : Blk w p 29 #[.slice A n c]) (ht : TermV w A n c (rowT x)) (hx : FitT b (cv.length : Int) x) :
 Calls Try.prog 30 #[.pointer (some ⟨g, 0, none⟩), .pointer (some ⟨p, 0, none⟩)] w (OneP g v b cA cn cc (whQ b cv x F) w) := by
 have hsz := foc_sz hx
 have hszx : szT x ≤ 4096 := hx.few
 have HFO := hid (focused_any ht hx)
 have hgas := wh_gas hr hc (F * 4097 + fsz (hdW x) + 1) F (hdW x) 4096 (foc hx) (by omega) (by omega) (by omega)
 obtain ⟨r, hr9⟩ : ∃ r, r = whN b cv F (hdW x) 4096 := ⟨_, rfl⟩
 have HWH := hid (fun (W : World) (hB : Below w.heap.size w W) (A4 B4 : Option Addr) (n4 c4 m4 d4 : Nat) (h9 : FocO w.heap.size W (hdW x) A4 n4 c4 B4 m4 d4) => cwhnf_any (w0 := w0) (g := g) (cA := cA) (cn := cn) (cc := cc) hr hb hc hcl (F * 4097 + fsz (hdW x) + 1) _ (Nat.le_refl _) W (hdW x) A4 B4 n4 c4 m4 d4 w.heap.size F 4096 (hw.below hB) hw.lt hB.size h9 (foc hx) (by omega) (by omega) (by omega) hgas.1)
 have e9 : whF b cv (F * 4097 + fsz (hdW x) + 1) F (hdW x) 4096 = r := hr9.symm
 rw [e9] at HWH
 have HQ : Hid (whQ b cv x F = whQf r) := hid (congrArg whQf hr9.symm)
 have HFT := hid (fun (y : Fc) (k : Nat) (h : r = .done y k) => whN_fit hr hc (n := F) (m := k) (f := hdW x) (y := y) (room := 4096) (foc hx) (by omega) (by omega) (hr9.symm.trans h))
 have zp := hp.cell
 have hpl := hp.lt
 have hgl := hw.lt
 generalize whQ b cv x F = rr at *
 clear hr hb hc hcl hw hp ht hx hsz hszx
 go_in
 go_wp2_with fail
 refine (HFO.out).mono ?_
 rintro e w2 ⟨hb2, A2, n2, c2, B2, m2, d2, rfl, hf2⟩
 have HB2 := hid hb2
 have HF2 := hid hf2
 clear hb2 hf2
 go_wp2_with fail
 refine (HWH.out w2 HB2.out A2 B2 n2 c2 m2 d2 HF2.out).mono ?_
 rintro e w3 ⟨hm3, h3⟩
 have HM3 : Hid (Moved (fun q => q = g) none w w3) := hid ((Moved.of_below HB2.out).trans (row' := none) hm3 (fun _ e => by cases e))
 clear hm3
 rcases h3 with ⟨z, hz, rfl⟩ | ⟨y, k, A3, n3, c3, B3, m3, d3, hd, rfl, hf3, hk3⟩
 · have HE : Hid (rr = .bad z) := hid (HQ.out.trans (congrArg whQf hz))
   clear hz
   go_wp2_with fail
   exact ⟨rfl, HM3.out, .inl ⟨z, HE.out, rfl⟩⟩
 have HE : Hid (rr = .done (rowT (rowF y)) k) := hid (HQ.out.trans (congrArg whQf hd))
 have HFY := hid (HFT.out y k hd)
 have hyz : fsz y ≤ 4096 := by have := HFY.out.2.1; omega
 have hm5 := hf3.len.2
 have ha5 := FocG.argsLen HFY.out.1 hyz
 have HI3 := hid (hf3.read (g := g) hgl (by omega))
 have HYZ := hid hyz
 have HK3 := hid hk3
 clear hd hf3 hk3 hyz hm5 ha5
 go_wp2_with fail
 refine (frow_any HI3.out HFY.out.1).mono ?_
 rintro e w4 ⟨hb4, h4⟩
 rcases h4 with ⟨_, A7, n7, c7, rfl, _, ho7⟩ | ⟨hbig, rfl⟩
 rotate_left
 · exact absurd hbig (by have := HYZ.out; omega)
 have HM4 : Hid (Moved (fun q => q = g) none w w4) := hid (HM3.out.trans (row' := none) (Moved.of_below hb4) (fun _ e => by cases e))
 have HK4 := hid (HK3.out.below hb4 HK3.out.lt)
 have HO7 := hid (own_baseN ho7 HM3.out.size)
 clear hb4 ho7
 go_wp2_with fail
 go_ret
 exact ⟨HM4.out, .inr ⟨_, k, A7, n7, c7, HE.out, rfl, HO7.out, HK4.out⟩⟩
theorem coreWhnf_any {w : World} {v : BkVal} {b : Bk} {cA : Option Addr} {cn cc : Nat} {cv : List (List Nd)} (hr : rightE b = 0) (hb : BookV w v b) (hc : CtxG b cv) (hcl : (cv.length : Int) ≤ 990000) (hcw : CtxW (· < w.heap.size) w cA cn cc cv) {A : Option Addr} {n c : Nat} {x : TT} (ht : TermV w A n c (rowT x)) (hx : FitT b (cv.length : Int) x) (fuel : Int) :
 Calls Try.prog 20 #[.agg #[.int .i64 b.vars, .slice v.Ao v.no v.co, .slice v.Ae v.ne v.ce, .int .i64 b.nat, .slice v.Ap v.np v.cp], .slice cA cn cc, .slice A n c, .int .i64 fuel] w (RunA (whQ b cv x (clipN fuel)) w) := by
 have hmf : ∀ (fn : Fn) (first cap : Array Value) (w : World), (Instr.makeFunc fn first cap).run Try.prog w = .ok (.func fn first cap) w := fun _ _ _ _ => rfl
 obtain ⟨w1, hw1⟩ : ∃ w1 : World, w1 = (w.alloc (.cells #[.int .i64 b.vars, .slice v.Ao v.no v.co, .slice v.Ae v.ne v.ce, .int .i64 b.nat, .slice v.Ap v.np v.cp] 26)).alloc (.cells #[.slice A n c] 29) := ⟨_, rfl⟩
 have hb1 : Below w.heap.size w w1 := by rw [hw1]; exact below_alloc2 _ _ _
 have k0 : Blk w1 w.heap.size 26 #[.int .i64 b.vars, .slice v.Ao v.no v.co, .slice v.Ae v.ne v.ce, .int .i64 b.nat, .slice v.Ap v.np v.cp] := by rw [hw1]; exact (Blk.new _ _ _).alloc _
 have k1 : Blk w1 (w.heap.size + 1) 29 #[.slice A n c] := by rw [hw1]; exact Blk.new' (by simp)
 have z0 := k0.cell
 have z1 := k1.cell
 have hl1 : w.heap.size + 1 < w1.heap.size := k1.lt
 have hF1 : clipN fuel ≤ 100000 := by unfold clipN; omega
 have HB1 := hid hb1
 have HRN := hid (crun_any (A := A) (n := n) (c := c) (hb.below hb1) (hcw.keep fun q hq => ⟨Nat.lt_of_lt_of_le hq hb1.size, fun o => hb1.cell (p := ⟨q, o, none⟩) hq⟩) fuel (fid := 30) (p := w.heap.size + 1) (r := whQ b cv x (clipN fuel)) (fun _ _ => by kernel_rfl) (fun g W hB hM => cwhone_any hr (hb.below hb1) hc hcl hF1 hM (k1.below hB hl1) (ht.below (hb1.trans (hB.mono hb1.size))) hx))
 clear hr hb hc hcl hcw ht hx hb1 k0 k1 hF1
 generalize whQ b cv x (clipN fuel) = rr at *
 go_in
 go_upto_region 1 with fail
 rw [← hw1]
 clear hw1
 go_wp2_with fail
 refine (HRN.out).mono ?_
 rintro e w2 h2
 have h3 := h2.base HB1.out
 clear h2
 obtain ⟨hb3, h4⟩ := h3
 rcases h4 with ⟨z, hz, rfl⟩ | ⟨l, k, A7, n7, c7, hd, rfl, ho⟩
 · have HP : Hid (RunA rr w (.returned (.tuple #[.slice none 0 0, .int .i64 0, .int .i64 z])) w2) := hid ⟨hb3, .inl ⟨z, hz, rfl⟩⟩
   clear hz hb3
   go_wp2_with fail
   go_ret3
   exact HP.out
 have HP : Hid (RunA rr w (.returned (.tuple #[.slice A7 n7 c7, .int .i64 (k : Int), .int .i64 0])) w2) := hid ⟨hb3, .inr ⟨l, k, A7, n7, c7, hd, rfl, ho⟩⟩
 clear hd hb3 ho
 go_wp2_with fail
 go_ret3
 exact HP.out
end Go.Proofs.Ytjoddliplahgkaa
