/- Terms that are reckoned on: plain functions, and what fits stays fitting. -/
import Derived.Test.YtjoddliplahgkaaDSenseM
import Derived.Test.YtjoddliplahgkaaDSpi
namespace Go.Proofs.Ytjoddliplahgkaa
open Go.RowKit
abbrev Fc := TT × List TT
def argsN : List TT → Nat
 | [] => 0
 | a :: r => 1 + szT a + argsN r
def fsz (f : Fc) : Nat := szT f.1 + argsN f.2
def apps (f : TT) (L : List TT) : TT := L.foldl appTT f
def rowF (f : Fc) : TT := apps f.1 f.2
theorem argsN_app : ∀ (L M : List TT), argsN (L ++ M) = argsN L + argsN M
 | [], M => by simp [argsN]
 | a :: r, M => by simp only [List.cons_append, argsN, argsN_app r M]; omega
theorem apps_app (f : TT) (L M : List TT) : apps f (L ++ M) = apps (apps f L) M := List.foldl_append ..
theorem apps_snoc (f : TT) (L : List TT) (a : TT) : apps f (L ++ [a]) = appTT (apps f L) a := by rw [apps_app]; rfl
theorem apps_len : ∀ (L : List TT) (f : TT), szT (apps f L) = szT f + argsN L
 | [], f => rfl
 | a :: r, f => by
  show szT (apps (appTT f a) r) = _
  rw [apps_len r, app_len]
  simp only [argsN]; omega
theorem rowF_len (f : Fc) : szT (rowF f) = fsz f := apps_len _ _
theorem hdW_appTT (x a : TT) : hdW (appTT x a) = ((hdW x).1, (hdW x).2 ++ [a]) := hdW_app (n := ⟨6, 0, 0⟩) rfl
theorem hdW_apps : ∀ (L : List TT) (x : TT), hdW (apps x L) = ((hdW x).1, (hdW x).2 ++ L)
 | [], x => by simp [apps]
 | a :: r, x => by
  show hdW (apps (appTT x a) r) = _
  rw [hdW_apps r, hdW_appTT]
  simp
theorem hdW_rowF {f : Fc} (h : f.1.1.op ≠ 6) : hdW (rowF f) = f := by
 unfold rowF
 rw [hdW_apps, hdW_stop h]
 rfl
theorem app_eq {b : Bk} {free : Int} {x : TT} (h : FitT b free x) (h6 : x.1.op = 6) : ∃ f a, x = appTT f a ∧ FitT b free f ∧ FitT b free a ∧ szT x = 1 + szT f + szT a := by
 obtain ⟨n, at_, k⟩ := x
 have hn : n = ⟨6, 0, 0⟩ := app_node h.okt.ok h6
 have hat : at_ = [] := by
  have h1 := h.okt.at_
  unfold AtOk at h1
  have h6' : n.op = 6 := h6
  rw [if_neg (by show ¬ n.op = 2; omega)] at h1
  exact h1
 subst hn hat
 have hwf := h.okt.wf
 have hds : ds ⟨6, 0, 0⟩ = [false, false] := rfl
 simp only at hwf
 rw [hds] at hwf
 match k, hwf with
 | .cons p n1 a1 k1 (.cons q n2 a2 k2 .nil), ⟨hp, _, _, _, hq, _, _, _, _⟩ =>
  simp only at hp hq
  subst hp hq
  refine ⟨(n1, a1, k1), (n2, a2, k2), rfl, h.kid0 (i := 0) rfl (show aroundI 6 0 ((0 : Nat) : Int) = 0 by decide), h.kid0 (i := 1) rfl (show aroundI 6 0 ((1 : Nat) : Int) = 0 by decide), ?_⟩
  exact app_len (n1, a1, k1) (n2, a2, k2)
structure FocG (b : Bk) (free : Int) (f : Fc) : Prop where
 head : FitT b free f.1
 ne : f.1.1.op ≠ 6
 args : ∀ a ∈ f.2, FitT b free a
theorem foc_of {b : Bk} {free : Int} : ∀ (s : Nat) (x : TT), szT x ≤ s → FitT b free x → FocG b free (hdW x) ∧ fsz (hdW x) = szT x ∧ rowF (hdW x) = x
 | 0, (n, a, k), h, _ => by rw [szT_eq] at h; omega
 | s + 1, x, h, hf => by
  by_cases h6 : x.1.op = 6
  · obtain ⟨f, a, rfl, h1, h2, h3⟩ := app_eq hf h6
    obtain ⟨g1, g2, g3⟩ := foc_of s f (by omega) h1
    rw [hdW_appTT]
    refine ⟨⟨g1.head, g1.ne, fun y hy => ?_⟩, ?_, ?_⟩
    · rcases List.mem_append.1 hy with hy | hy
      · exact g1.args y hy
      rw [List.mem_singleton.1 hy]; exact h2
    · unfold fsz at g2 ⊢
      simp only [argsN_app, argsN]
      omega
    unfold rowF at g3 ⊢
    simp only
    rw [apps_snoc, g3]
  · rw [hdW_stop h6]
    exact ⟨⟨hf, h6, fun y hy => by cases hy⟩, by simp [fsz, argsN], rfl⟩
theorem foc {b : Bk} {free : Int} {x : TT} (hf : FitT b free x) : FocG b free (hdW x) := (foc_of _ x (Nat.le_refl _) hf).1
theorem foc_sz {b : Bk} {free : Int} {x : TT} (hf : FitT b free x) : fsz (hdW x) = szT x := (foc_of _ x (Nat.le_refl _) hf).2.1
theorem foc_row {b : Bk} {free : Int} {x : TT} (hf : FitT b free x) : rowF (hdW x) = x := (foc_of _ x (Nat.le_refl _) hf).2.2
theorem apps_fits {b : Bk} {free : Int} : ∀ (L : List TT) (x : TT), FitT b free x → (∀ a ∈ L, FitT b free a) → szT x + argsN L ≤ 4096 → FitT b free (apps x L)
 | [], x, hx, _, _ => hx
 | a :: r, x, hx, hL, hs => by
  simp only [argsN] at hs
  exact apps_fits r (appTT x a) (app_fit hx (hL a (by simp)) (by omega)) (fun y hy => hL y (by simp [hy])) (by rw [app_len]; omega)
theorem FocG.fit {b : Bk} {free : Int} {f : Fc} (h : FocG b free f) (hs : fsz f ≤ 4096) : FitT b free (rowF f) := apps_fits _ _ h.head h.args hs
theorem apps_row : ∀ (L : List TT) (x : TT), rowT (apps x L) = List.replicate L.length ⟨6, 0, 0⟩ ++ (rowT x ++ (L.map rowT).flatten)
 | [], x => by simp [apps]
 | a :: r, x => by
  show rowT (apps (appTT x a) r) = _
  rw [apps_row r]
  have er : rowT (appTT x a) = ⟨6, 0, 0⟩ :: (rowT x ++ rowT a) := by simp [appTT, rowT, row]
  rw [er, List.length_cons, List.replicate_succ']
  simp
def ontoF (t : TT) (L : List TT) : Option Fc := if 4096 < szT t + argsN L then none else some ((hdW t).1, (hdW t).2 ++ L)
theorem onto_fit {b : Bk} {free : Int} {t : TT} {L : List TT} {f : Fc} (ht : FitT b free t) (hL : ∀ a ∈ L, FitT b free a) (h : ontoF t L = some f) : FocG b free f ∧ fsz f = szT t + argsN L ∧ fsz f ≤ 4096 ∧ f = hdW (apps t L) := by
 unfold ontoF at h
 split at h
 · cases h
 injection h with h
 subst h
 have g := foc ht
 have g2 := foc_sz ht
 have e : fsz ((hdW t).1, (hdW t).2 ++ L) = szT t + argsN L := by
  unfold fsz at g2 ⊢
  simp only [argsN_app]
  omega
 refine ⟨⟨g.head, g.ne, fun y hy => ?_⟩, e, by omega, (hdW_apps L t).symm⟩
 rcases List.mem_append.1 hy with hy | hy
 · exact g.args y hy
 exact hL y hy
def valAt (cv : List (List Nd)) (a : Int) : List Nd := cv.getD (cv.length - 1 - a.toNat) []
def fitsM (b : Bk) (n : Nd) (s : Fc) : Bool := s.1.1.op == 10 && (s.1.1.a == n.a && (decide (s.1.1.b < n.b) && s.2.length == (entB b n.a).params.length + ((entB b n.a).ctors.getD s.1.1.b.toNat default).args.length))
def kidN (x : TT) (i : Nat) : TT := (kidL x.2.2).getD i (default, [], .nil)
def readyF (b : Bk) (cv : List (List Nd)) (f : Fc) : Bool :=
 if f.1.1.op = 5 then decide (0 < f.2.length)
 else if f.1.1.op = 7 ∨ f.1.1.op = 8 then true
 else if f.1.1.op = 1 then decide (0 < (valAt cv f.1.1.a).length)
 else if f.1.1.op = 11 then fitsM b f.1.1 (hdW (kidN f.1 1))
 else if f.1.1.op = 12 then decide ((placeT f.1).toNat < f.2.length) && ((hdW (f.2.getD (placeT f.1).toNat (default, [], .nil))).1.1.op == 10)
 else false
def unfG (h : TT) : Nat → TT → Option TT
 | 0, x => some x
 | i + 1, x => if (subTT x (upT (fixAt h i) (i : Int))).2 = 0 then unfG h i (subTT x (upT (fixAt h i) (i : Int))).1 else none
def unfR (h : TT) : Option TT := unfG h h.1.b.toNat (kidN h (2 * h.1.a.toNat + 1))
def ownF (b : Bk) (cv : List (List Nd)) (f : Fc) : Option Fc :=
 if f.1.1.op = 5 then (if (subTT (kidN f.1 1) (f.2.getD 0 (default, [], .nil))).2 = 0 then ontoF (subTT (kidN f.1 1) (f.2.getD 0 (default, [], .nil))).1 (f.2.drop 1) else none)
 else if f.1.1.op = 7 then (if (subTT (kidN f.1 2) (kidN f.1 1)).2 = 0 then ontoF (subTT (kidN f.1 2) (kidN f.1 1)).1 f.2 else none)
 else if f.1.1.op = 1 then ontoF (upT (treeAt (valAt cv f.1.1.a)) (f.1.1.a + 1)) f.2
 else if f.1.1.op = 8 then ontoF (treeAt (entB b f.1.1.a).body) f.2
 else if f.1.1.op = 11 then ontoF (kidN f.1 (2 + (hdW (kidN f.1 1)).1.1.b.toNat)) ((hdW (kidN f.1 1)).2.drop (entB b f.1.1.a).params.length ++ f.2)
 else match unfR f.1 with
  | none => none
  | some y => ontoF y f.2
def partF (f : Fc) : Option TT :=
 if f.1.1.op = 11 then some (kidN f.1 1)
 else if f.1.1.op = 12 then (if (placeT f.1).toNat < f.2.length then some (f.2.getD (placeT f.1).toNat (default, [], .nil)) else none)
 else none
def setK1 : Fo → TT → Fo
 | .cons p n a k (.cons q _ _ _ r), t => .cons p n a k (.cons q t.1 t.2.1 t.2.2 r)
 | F, _ => F
def withF (f : Fc) (p : TT) : Fc := if f.1.1.op = 11 then ((f.1.1, f.1.2.1, setK1 f.1.2.2 p), f.2) else (f.1, f.2.set (placeT f.1).toNat p)
inductive StR
 | no
 | big
 | yes (f : Fc)
def stF (b : Bk) (cv : List (List Nd)) : Nat → Fc → Int → StR
 | 0, _, _ => .big
 | g + 1, f, room =>
  if readyF b cv f = true then
   match ownF b cv f with
   | none => .big
   | some y => if room < (fsz y : Int) then .big else .yes y
  else match partF f with
   | none => .no
   | some p => match stF b cv g (hdW p) (room - fsz f + szT p) with
    | .no => .no
    | .big => .big
    | .yes y => .yes (withF f (rowF y))
inductive WhR
 | bad (e : Int)
 | done (f : Fc) (n : Nat)
def whF (b : Bk) (cv : List (List Nd)) : Nat → Nat → Fc → Int → WhR
 | 0, _, _, _ => .bad 99
 | g + 1, n, f, room =>
  match (match partF f with
   | none => WhR.done f n
   | some p => match whF b cv g n (hdW p) (room - fsz f + szT p) with
    | .bad e => .bad e
    | .done y m => .done (withF f (rowF y)) m) with
  | .bad e => .bad e
  | .done f n =>
   if readyF b cv f = true then
    if n = 0 then .bad 10
    else match ownF b cv f with
     | none => .bad 9
     | some y => if room < (fsz y : Int) then .bad 9 else whF b cv g (n - 1) y room
   else .done f n
end Go.Proofs.Ytjoddliplahgkaa
