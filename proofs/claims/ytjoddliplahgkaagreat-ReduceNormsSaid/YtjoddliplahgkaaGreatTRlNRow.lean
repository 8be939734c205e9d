/- ReduceNorms returns true, whatever it is handed; what it is handed reads as it did. No conditions. -/
import Derived.Test.YtjoddliplahgkaaGreatRows
import Derived.Test.YtjoddliplahgkaaGreatTOpenC
namespace Go.Proofs.YtjoddliplahgkaaGreat
set_option linter.unusedVariables false
set_option linter.unusedSimpArgs false
open Go.ChangeShapes Go.WideShapes Go.ChangeAt Go.RowKit
set_option maxRecDepth 100000 in
theorem CK(os:Os)(D:os.Started)(H:Type)(enc:TypeId×Value->H):
 ReturnsInHanded {} Tryz.checked os 5 .any (Rows.reduceGoesSpec.pre6 enc Tryz.prog Tryz.f5 Rows.reduceGoesRow.domain false) (Rows.reduceGoesSpec.post enc Tryz.prog Tryz.f5 false true false false):=by
 refine returnsInHanded_of_change_sized (C:=Tryz.checked) Tryz.own D aC Tryz.func5
  (ChangeSpec.witness6 (enc:=enc) (C:=Tryz.checked) false ⟨#[],#[.agg #[.int .i64 0,.slice none 0 0,.slice none 0 0,.int .i64 0,.slice none 0 0,.slice none 0 0,.slice none 0 0,.int .i64 0]],[]⟩ 8 aC aC aC aC) ?_
 intro W base args ds gs before U hW _ G _;have s:(DataW.weightsEach Tryz.prog (Tryz.f5.params.toList++Rows.reduceGoesSpec.plain.varTypes Tryz.prog) (ds++gs)).all (·<=reachBytes)=true:=G;clear G;have I:∀(j:Nat) t v,Tryz.f5.params[j]? = some t->args[j]? = some v->Value.okWide Tryz.prog W .any base t v:=U;have O:=hW;obtain⟨p,q,o,hV,rfl,_,_⟩:=hW;have hA:DataW.TrodAll enc Tryz.prog W 0 (fun _=>true) true Tryz.f5.params.toList args.toList ds p:=o;rw[Tryz.params5]at hA I s;obtain⟨v0,d0,rfl,rfl,h0⟩:=trodAll_one hA;obtain⟨rfl,rfl⟩:=trodVars_none hV;clear o;simp only[YP]at O;have F:∀y∈p,y.block<W.heap.size:=fun y hy=>O.lt y (by simp[hy]);obtain⟨a1,a0,a2,a4,a3,a9,A0,n0,c0,t0,Z,rfl,a6,b0,a7,a8,b1⟩:=M9 (I 0 31 v0 rfl rfl) h0 (fun k hk=>by have:=List.all_eq_true.1 s k (DataW.weights_mem_each (j:=0) rfl rfl k hk);simpa using this) F;have a5:∀(Y:aAB),ZY W Y->DataW.Trod enc Tryz.prog Y 0 (fun b=>decide (b<W.heap.size)) true 31 (KD a1 a0 a2 a4 a3 A0 n0 c0 Z) d0 p :=
  fun Y z=>Below.trod Tryz.laidOut aC (of_decide_eq_true aC) h0 z F
 refine (IX a6 a7 a8 Z).mono fun e Y ⟨he,z⟩=>?_;subst he;exact⟨_,rfl,_,_,_,[]++[],_,[],O,trodAll_mk1 NX,trodAll_mk1 (a5 Y z),rfl,z.frame _,fun h=>by cases h⟩
theorem norms8_holds:Rows.ReduceNormsSaid :=
 OpenClaim.holds_of_wide 5 Tryz.f5 rfl rfl rfl rfl rfl rfl rfl ⟨rfl,rfl,rfl,rfl,rfl⟩ rfl rfl rfl rfl rfl aC Tryz.func5 aC
  (of_decide_eq_true aC) (by unfold Func.isWrapper;first|(rw[XP (by decide +kernel)];kernel_rfl)|(rw[XN (by decide +kernel)];exact⟨rfl,rfl⟩))
  (fun os started H enc _=>CK os started H enc)
end Go.Proofs.YtjoddliplahgkaaGreat
