/- Same of the reference: two rows of nodes are compared. -/
import Derived.Test.YtjoddliplahgkaaGreatProg
import Derived.Test.YtjoddliplahgkaaGreatTBase
import Derived.WalkLawsBesides
import Derived.WalkSpells
import Derived.Deep.QuietTactic
import Derived.BigQuiet
namespace Go.Proofs.YtjoddliplahgkaaGreat
set_option linter.unusedVariables false
set_option linter.unusedSimpArgs false
open Go.RowKit
open Go.Value renaming int → O
open Go.IntKind renaming i64 → S
open Go.Lib (hid)
theorem EL(x y:Nd)(w:aAB):(Go.binOp .eql 46 (.agg #[O S x.op,O S x.a,O S x.b]) (.agg #[O S y.op,O S y.a,O S y.b])).run Tryz.prog w=.ok (.bool (decide (x=y))) w:=by
 obtain⟨p,q,r⟩:=x;obtain⟨I,U,Y⟩:=y;simp[go_sem];by_cases D:p=I<;>by_cases F:q=U<;>by_cases G:r=Y<;>simp[D,F,G]
theorem nW(x y:Nd)(w:aAB):(Go.binOp .neq 46 (.agg #[O S x.op,O S x.a,O S x.b]) (.agg #[O S y.op,O S y.a,O S y.b])).run Tryz.prog w=.ok (.bool (!decide (x=y))) w:=by
 obtain⟨p,q,r⟩:=x;obtain⟨I,U,Y⟩:=y;simp[go_sem];by_cases D:p=I<;>by_cases F:q=U<;>by_cases G:r=Y<;>simp[D,F,G]
set_option maxHeartbeats 400000 in
theorem rT{A A':ZZ}{n c o c':Nat}{l D:List Nd}(w:aAB)(h:aX w A n c l)(Y:aX w A' o c' D):
 Calls Tryz.prog 13 #[.slice A n c,.slice A' o c'] w fun e w'=>e=.returned (.bool (decide (l=D)))∧∃m,w'=w.drewN m:=by
 have hf:=h.few;by_cases U:n=o;rotate_left
 . have hb:(((n:Nat):Int) != (o:Int))=true:=by simp;omega
   go_in;go_wp2
   go_ret;refine⟨fS ?_,0,rfl⟩;have:l≠D:=fun e=>U (by rw[← h.len,← Y.len,e]);simp[this]
 subst U;go_in;go_wp2
 go_loopw [5] (fun i wr=>∃k:Nat,k ≤ n∧i=O S k∧(∃z,wr=w.drewN z)∧∀j,j<k → bC l j=bC D j) (fun i _=>n-(intOf i).toNat)
 case atStart=>exact⟨0,ZA _,rfl,⟨0,rfl⟩,fun j Z=>absurd Z (by omega)⟩
 case round =>
  obtain⟨k,hk,rfl,⟨z,rfl⟩,hd⟩:=hrel;have HD:=hid hd;clear hd;by_cases G:k<n;rotate_left
  . go_wp2
    go_ret;refine⟨fS ?_,z,rfl⟩;have:l=D:=SP (by rw[h.len,Y.len]) fun j Z=>HD.out j (by rw[h.len]at Z;omega);simp[this]
  obtain⟨b,off,rfl,_,hm⟩:=h.mem (by omega);obtain⟨b',off',rfl,_,I⟩:=Y.mem (by omega);obtain⟨g0,g1,g2⟩:=hm k (by rw[h.len];exact G);obtain⟨a1,a2,a3⟩:=I k (by rw[Y.len];exact G);clear hm I;by_cases F:bC l k=bC D k
  . have a0:=fun w=>(nW (bC l k) (bC D k) w).trans (by simp only[F,decide_true,Bool.not_true]:_=Result.ok (Value.bool false) w);have s:=hid F;clear F;go_wp2
    go_quiet (fail)
    go_wp2
    go_roundw
    case rel=>exact⟨k+1,by omega,by go_num,⟨_,rfl⟩,fun j Z=>by
     by_cases e:j=k
     . subst e;exact s.out
     exact HD.out j (by omega)⟩
    case measure=>simp[intOf];omega
  have a0:=fun w=>(nW (bC l k) (bC D k) w).trans (by simp only[F,decide_false,Bool.not_false]:_=Result.ok (Value.bool true) w);have s:=hid F;clear F;go_wp2
  go_quiet (fail)
  go_wp2
  go_ret;refine⟨fS ?_,_,World.drewN_drewN _ _ _⟩;have:l≠D:=fun e=>s.out (by rw[e]);simp[this]
end Go.Proofs.YtjoddliplahgkaaGreat
