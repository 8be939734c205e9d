/- SenseKeeps returns true, whatever it is handed; what it is handed reads as it did. No conditions. -/
import Derived.Test.YtjllmblbbgojbaaGreatRows
import Derived.Test.YtjllmblbbgojbaaGreatXOpenB
namespace Go.Proofs.YtjllmblbbgojbaaGreat
set_option linter.unusedVariables false
set_option linter.unusedSimpArgs false
open Go.ChangeShapes Go.WideShapes Go.ChangeAt Go.RowKit
set_option maxRecDepth 100000 in
theorem sI (os:Os) (started:os.Started) (H:Type) (enc:TypeId×Value->H) :
 ReturnsInHanded {} Tryz.checked os 4 .any (Rows.senseKeepsSpec.pre6 enc Tryz.prog Tryz.f4 Rows.senseKeepsRow.domain false) (Rows.senseKeepsSpec.post enc Tryz.prog Tryz.f4 false true false false):=by
 refine returnsInHanded_of_change_sized (C:=Tryz.checked) Tryz.own started aC Tryz.func4
  (ChangeSpec.witness6 (enc:=enc) (C:=Tryz.checked) false ⟨#[],#[.agg #[.int .i64 0,.slice none 0 0,.slice none 0 0,.int .i64 0,.slice none 0 0],.slice none 0 0],[]⟩ 8 aC aC aC aC) ?_
 intro W base args ds gs before hval0 hW _ hsz0 _;have hsz:(DataW.weightsEach Tryz.prog (Tryz.f4.params.toList++Rows.senseKeepsSpec.plain.varTypes Tryz.prog) (ds++gs)).all (·<=reachBytes)=true:=hsz0;clear hsz0;have hval:∀(j:Nat) t v,Tryz.f4.params[j]? = some t->args[j]? = some v->Value.okWide Tryz.prog W .any base t v:=hval0;have hW':=hW;obtain⟨p,q,hA0,hV,rfl,_,_⟩:=hW;have hA:DataW.TrodAll enc Tryz.prog W 0 (fun _=>true) true Tryz.f4.params.toList args.toList ds p:=hA0;rw[Tryz.params4] at hA hval hsz;obtain⟨v0,v1,d0,d1,p0,p1,rfl,rfl,rfl,h0,h1⟩:=trodAll_two hA;obtain⟨rfl,rfl⟩:=trodVars_none hV;clear hA0;simp only[List.append_nil] at hW';have hlt0:∀y ∈ p0,y.block<W.heap.size:=fun y hy=>hW'.lt y (by simp[hy]);obtain⟨bv0,bk0,rfl,hb0,hn0⟩:=DA (hval 0 26 v0 rfl rfl) h0 (fun k hk=>by have:=List.all_eq_true.1 hsz k (DataW.weights_mem_each (j:=0) rfl rfl k hk);simpa using this) hlt0;have hlt1:∀y ∈ p1,y.block<W.heap.size:=fun y hy=>hW'.lt y (by simp[hy]);obtain⟨A1,n1,c1,t1,rfl,ht1⟩:=H0 (hval 1 28 v1 rfl rfl) h1 (fun es sp e=>sized_slice hsz (j:=1) (t:=28) (e:=40) rfl (by rw[e];rfl) Tryz.underlying28) hlt1;have ha0:∀(W':World),Below W.heap.size W W'->DataW.Trod enc Tryz.prog W' 0 (fun b=>decide (b<W.heap.size)) true 26 (EL bv0 bk0) d0 p0 :=
  fun W' hn=>Below.trod Tryz.laidOut aC (of_decide_eq_true aC) h0 hn hlt0
 have ha1:∀(W':World),Below W.heap.size W W'->DataW.Trod enc Tryz.prog W' 0 (fun b=>decide (b<W.heap.size)) true 28 (.slice A1 n1 c1) d1 p1 :=
  fun W' hn=>Below.trod Tryz.laidOut aC (of_decide_eq_true aC) h1 hn hlt1
 refine (zW hb0 hn0 ht1).mono fun e W' ⟨he,hn⟩ => ?_;subst he;exact⟨_,rfl,_,_,_,[]++[],_,[],hW',trodAll_mk1 IQ,trodAll_mk2 (ha0 W' hn) (ha1 W' hn),rfl,hn.frame _,fun h=>by cases h⟩
theorem keeps13_holds:Rows.SenseKeepsSaid :=
 OpenClaim.holds_of_wide 4 Tryz.f4 rfl rfl rfl rfl rfl rfl rfl ⟨rfl,rfl,rfl,rfl,rfl⟩ rfl rfl rfl rfl rfl aC Tryz.func4 aC
  (of_decide_eq_true aC) (by unfold Func.isWrapper;first | (rw[if_pos (by decide +kernel)];kernel_rfl) | (rw[if_neg (by decide +kernel)];exact⟨rfl,rfl⟩))
  (fun os started H enc _=>sI os started H enc)
end Go.Proofs.YtjllmblbbgojbaaGreat
