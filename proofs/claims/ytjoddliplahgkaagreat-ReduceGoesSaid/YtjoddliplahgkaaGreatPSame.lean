/- Same of the reference: two rows of nodes are compared. -/
import Derived.Test.YtjoddliplahgkaaGreatProg
import Derived.Test.YtjoddliplahgkaaGreatPBase
import Derived.WalkLawsBesides
import Derived.WalkSpells
import Derived.Deep.QuietTactic
import Derived.BigQuiet
namespace Go.Proofs.YtjoddliplahgkaaGreat
set_option linter.unusedVariables false
set_option linter.unusedSimpArgs false
open Go.RowKit
open Go.Value renaming int → O
open Go.IntKind renaming i64 → S
open Go.Lib (hid)
theorem BN (x y:Nd) (w:World):(Go.binOp .eql 46 (.agg #[O S x.op,O S x.a,O S x.b]) (.agg #[O S y.op,O S y.a,O S y.b])).run Tryz.prog w=.ok (.bool (decide (x=y))) w:=by
 obtain⟨p,q,r⟩:=x;obtain⟨p',q',r'⟩:=y;simp[go_sem];by_cases h1:p=p'<;>by_cases h2:q=q'<;>by_cases h3:r=r'<;>simp[h1,h2,h3]
theorem mP (x y:Nd) (w:World):(Go.binOp .neq 46 (.agg #[O S x.op,O S x.a,O S x.b]) (.agg #[O S y.op,O S y.a,O S y.b])).run Tryz.prog w=.ok (.bool (!decide (x=y))) w:=by
 obtain⟨p,q,r⟩:=x;obtain⟨p',q',r'⟩:=y;simp[go_sem];by_cases h1:p=p'<;>by_cases h2:q=q'<;>by_cases h3:r=r'<;>simp[h1,h2,h3]
set_option maxHeartbeats 400000 in
theorem mU {A A':Option Addr} {n c n' c':Nat} {l l':List Nd} (w:World) (h:aY w A n c l) (h':aY w A' n' c' l') :
 Calls Tryz.prog 13 #[.slice A n c,.slice A' n' c'] w fun e w'=>e=.returned (.bool (decide (l=l'))) ∧ ∃m,w'=w.drewN m:=by
 have hf:=h.few;by_cases hne:n=n';rotate_left
 · have hb:(((n:Nat):Int) != (n':Int))=true:=by simp;omega
   go_in;go_wp2
   go_ret;refine⟨fH ?_,0,rfl⟩;have:l ≠ l':=fun e=>hne (by rw[← h.len,← h'.len,e]);simp[this]
 subst hne;go_in;go_wp2
 go_loopw [5] (fun i wr=>∃k:Nat,k ≤ n ∧ i=O S k ∧ (∃dr,wr=w.drewN dr) ∧ ∀j,j<k → bD l j=bD l' j) (fun i _=>n-(intOf i).toNat)
 case atStart=>exact⟨0,Nat.zero_le _,rfl,⟨0,rfl⟩,fun j hj=>absurd hj (by omega)⟩
 case round =>
  obtain⟨k,hk,rfl,⟨dr,rfl⟩,hd⟩:=hrel;have HD:=hid hd;clear hd;by_cases hlt:k<n;rotate_left
  · go_wp2
    go_ret;refine⟨fH ?_,dr,rfl⟩;have:l=l':=OZ (by rw[h.len,h'.len]) fun j hj=>HD.out j (by rw[h.len] at hj;omega);simp[this]
  obtain⟨b,off,rfl,_,hm⟩:=h.mem (by omega);obtain⟨b',off',rfl,_,a0⟩:=h'.mem (by omega);obtain⟨g0,g1,g2⟩:=hm k (by rw[h.len];exact hlt);obtain⟨g0',g1',g2'⟩:=a0 k (by rw[h'.len];exact hlt);clear hm a0;by_cases hq:bD l k=bD l' k
  · have a1:=fun w=>(mP (bD l k) (bD l' k) w).trans (by simp only[hq,decide_true,Bool.not_true]:_=Result.ok (Value.bool false) w);have HQ:=hid hq;clear hq;go_wp2
    go_quiet (fail)
    go_wp2
    go_roundw
    case rel=>exact⟨k+1,by omega,by go_num,⟨_,rfl⟩,fun j hj=>by
     by_cases e:j=k
     · subst e;exact HQ.out
     exact HD.out j (by omega)⟩
    case measure=>simp[intOf];omega
  have a1:=fun w=>(mP (bD l k) (bD l' k) w).trans (by simp only[hq,decide_false,Bool.not_false]:_=Result.ok (Value.bool true) w);have HQ:=hid hq;clear hq;go_wp2
  go_quiet (fail)
  go_wp2
  go_ret;refine⟨fH ?_,_,World.drewN_drewN _ _ _⟩;have:l ≠ l':=fun e=>HQ.out (by rw[e]);simp[this]
end Go.Proofs.YtjoddliplahgkaaGreat
