/- ReduceFits and ReduceGoes return true, whatever it is handed; what it is handed reads as it did. No conditions. -/
import Derived.Test.YtjoddliplahgkaaGreatRows
import Derived.Test.YtjoddliplahgkaaGreatPOpenC
namespace Go.Proofs.YtjoddliplahgkaaGreat
set_option linter.unusedVariables false
set_option linter.unusedSimpArgs false
set_option maxRecDepth 100000
open Go.ChangeShapes Go.WideShapes Go.ChangeAt Go.RowKit
theorem vO (os:Os) (started:os.Started) (H:Type) (enc:TypeId×Value->H) :
 ReturnsInHanded {} Tryz.checked os 3 .any (Rows.reduceFitsSpec.pre6 enc Tryz.prog Tryz.f3 Rows.reduceFitsRow.domain false) (Rows.reduceFitsSpec.post enc Tryz.prog Tryz.f3 false true false false):=by
 refine returnsInHanded_of_change_sized (C:=Tryz.checked) Tryz.own started aC Tryz.func3
  (ChangeSpec.witness6 (enc:=enc) (C:=Tryz.checked) false ⟨#[],#[.agg #[.int .i64 0,.slice none 0 0,.slice none 0 0,.int .i64 0,.slice none 0 0,.slice none 0 0,.slice none 0 0,.int .i64 0]],[]⟩ 8 aC aC aC aC) ?_
 intro W base args ds gs before a0 hW _ a2 _;have a5:(DataW.weightsEach Tryz.prog (Tryz.f3.params.toList++Rows.reduceFitsSpec.plain.varTypes Tryz.prog) (ds++gs)).all (·<=reachBytes)=true:=a2;clear a2;have a1:∀(j:Nat) t v,Tryz.f3.params[j]? = some t->args[j]? = some v->Value.okWide Tryz.prog W .any base t v:=a0;have a4:=hW;obtain⟨p,q,a6,hV,rfl,_,_⟩:=hW;have hA:DataW.TrodAll enc Tryz.prog W 0 (fun _=>true) true Tryz.f3.params.toList args.toList ds p:=a6;rw[Tryz.params3] at hA a1 a5;obtain⟨v0,d0,rfl,rfl,h0⟩:=trodAll_one hA;obtain⟨rfl,rfl⟩:=trodVars_none hV;clear a6;simp only[List.append_nil] at a4;have a3:∀y ∈ p,y.block<W.heap.size:=fun y hy=>a4.lt y (by simp[hy]);obtain⟨bv0,bk0,cA0,cn0,cc0,bs0,A0,n0,c0,t0,a7,rfl,b0,b2,a9,a8,wf0⟩:=wX (a1 0 31 v0 rfl rfl) h0 (fun k hk=>by have:=List.all_eq_true.1 a5 k (DataW.weights_mem_each (j:=0) rfl rfl k hk);simpa using this) a3;have b1:∀(W':World),Below W.heap.size W W'->DataW.Trod enc Tryz.prog W' 0 (fun b=>decide (b<W.heap.size)) true 31 (yP bv0 bk0 cA0 cn0 cc0 A0 n0 c0 a7) d0 p :=
  fun W' hn=>Below.trod Tryz.laidOut aC (of_decide_eq_true aC) h0 hn a3
 refine (EQ b0 a9 a8 a7).mono fun e W' ⟨he,hn⟩ => ?_;subst he;exact⟨_,rfl,_,_,_,[]++[],_,[],a4,trodAll_mk1 xU,trodAll_mk1 (b1 W' hn),rfl,hn.frame _,fun h=>by cases h⟩
theorem fits8F_holds:Rows.ReduceFitsSaid :=
 OpenClaim.holds_of_wide 3 Tryz.f3 rfl rfl rfl rfl rfl rfl rfl ⟨rfl,rfl,rfl,rfl,rfl⟩ rfl rfl rfl rfl rfl aC Tryz.func3 aC
  (of_decide_eq_true aC) (by unfold Func.isWrapper;first | (rw[if_pos (by decide +kernel)];kernel_rfl) | (rw[if_neg (by decide +kernel)];exact⟨rfl,rfl⟩))
  (fun os started H enc _=>vO os started H enc)
theorem zD (os:Os) (started:os.Started) (H:Type) (enc:TypeId×Value->H) :
 ReturnsInHanded {} Tryz.checked os 4 .any (Rows.reduceGoesSpec.pre6 enc Tryz.prog Tryz.f4 Rows.reduceGoesRow.domain false) (Rows.reduceGoesSpec.post enc Tryz.prog Tryz.f4 false true false false):=by
 refine returnsInHanded_of_change_sized (C:=Tryz.checked) Tryz.own started aC Tryz.func4
  (ChangeSpec.witness6 (enc:=enc) (C:=Tryz.checked) false ⟨#[],#[.agg #[.int .i64 0,.slice none 0 0,.slice none 0 0,.int .i64 0,.slice none 0 0,.slice none 0 0,.slice none 0 0,.int .i64 0]],[]⟩ 8 aC aC aC aC) ?_
 intro W base args ds gs before a0 hW _ a2 _;have a5:(DataW.weightsEach Tryz.prog (Tryz.f4.params.toList++Rows.reduceGoesSpec.plain.varTypes Tryz.prog) (ds++gs)).all (·<=reachBytes)=true:=a2;clear a2;have a1:∀(j:Nat) t v,Tryz.f4.params[j]? = some t->args[j]? = some v->Value.okWide Tryz.prog W .any base t v:=a0;have a4:=hW;obtain⟨p,q,a6,hV,rfl,_,_⟩:=hW;have hA:DataW.TrodAll enc Tryz.prog W 0 (fun _=>true) true Tryz.f4.params.toList args.toList ds p:=a6;rw[Tryz.params4] at hA a1 a5;obtain⟨v0,d0,rfl,rfl,h0⟩:=trodAll_one hA;obtain⟨rfl,rfl⟩:=trodVars_none hV;clear a6;simp only[List.append_nil] at a4;have a3:∀y ∈ p,y.block<W.heap.size:=fun y hy=>a4.lt y (by simp[hy]);obtain⟨bv0,bk0,cA0,cn0,cc0,bs0,A0,n0,c0,t0,a7,rfl,b0,b2,a9,a8,wf0⟩:=wX (a1 0 31 v0 rfl rfl) h0 (fun k hk=>by have:=List.all_eq_true.1 a5 k (DataW.weights_mem_each (j:=0) rfl rfl k hk);simpa using this) a3;have b1:∀(W':World),Below W.heap.size W W'->DataW.Trod enc Tryz.prog W' 0 (fun b=>decide (b<W.heap.size)) true 31 (yP bv0 bk0 cA0 cn0 cc0 A0 n0 c0 a7) d0 p :=
  fun W' hn=>Below.trod Tryz.laidOut aC (of_decide_eq_true aC) h0 hn a3
 refine (JC b0 a9 a8 a7).mono fun e W' ⟨he,hn⟩ => ?_;subst he;exact⟨_,rfl,_,_,_,[]++[],_,[],a4,trodAll_mk1 xU,trodAll_mk1 (b1 W' hn),rfl,hn.frame _,fun h=>by cases h⟩
theorem goes8_holds:Rows.ReduceGoesSaid :=
 OpenClaim.holds_of_wide 4 Tryz.f4 rfl rfl rfl rfl rfl rfl rfl ⟨rfl,rfl,rfl,rfl,rfl⟩ rfl rfl rfl rfl rfl aC Tryz.func4 aC
  (of_decide_eq_true aC) (by unfold Func.isWrapper;first | (rw[if_pos (by decide +kernel)];kernel_rfl) | (rw[if_neg (by decide +kernel)];exact⟨rfl,rfl⟩))
  (fun os started H enc _=>zD os started H enc)
end Go.Proofs.YtjoddliplahgkaaGreat
