/- BookCodes returns true, whatever it is handed; what it is handed reads as it did. No conditions. -/
import Derived.Test.YtplecfbdchmogaaGreatRows
import Derived.Test.YtplecfbdchmogaaGreatDJoin
import Derived.Test.YtplecfbdchmogaaGreatDOpenP
namespace Go.Proofs.YtplecfbdchmogaaGreat
open Go.ChangeShapes Go.WideShapes Go.ChangeAt Go.RowKit
set_option maxRecDepth 100000 in
theorem sN (os:Os) (started:os.Started) (H:Type) (enc:TypeId×Value->H) :
 ReturnsInHanded {} Tryz.checked os 4 .any (Rows.bookCodesSpec.pre6 enc Tryz.prog Tryz.f4 Rows.bookCodesRow.domain false) (Rows.bookCodesSpec.post enc Tryz.prog Tryz.f4 false true false false):=by
 refine returnsInHanded_of_change_sized (C:=Tryz.checked) Tryz.own started (by kernel_rfl) Tryz.func4
  (ChangeSpec.witness6 (enc:=enc) (C:=Tryz.checked) false ⟨#[],#[.agg #[.int .i64 0,.slice none 0 0,.slice none 0 0,.int .i64 0,.slice none 0 0,.slice none 0 0,.slice none 0 0],.slice none 0 0],[]⟩ 8 (by kernel_rfl) (by kernel_rfl) (by kernel_rfl) (by kernel_rfl)) ?_
 intro W base args ds gs before hval0 hW _ hsz0 _;have hsz:(DataW.weightsEach Tryz.prog (Tryz.f4.params.toList++Rows.bookCodesSpec.plain.varTypes Tryz.prog) (ds++gs)).all (·<=reachBytes)=true:=hsz0;clear hsz0;have hval:∀ (j:Nat) t v,Tryz.f4.params[j]? = some t->args[j]? = some v->Value.okWide Tryz.prog W .any base t v:=hval0;have hW':=hW;obtain ⟨p,q,hA0,hV,rfl,_,_⟩:=hW;have hA:DataW.TrodAll enc Tryz.prog W 0 (fun _=>true) true Tryz.f4.params.toList args.toList ds p:=hA0;rw [Tryz.params4] at hA hval hsz;obtain ⟨v0,v1,d0,d1,p0,p1,rfl,rfl,rfl,h0,h1⟩:=trodAll_two hA;obtain ⟨rfl,rfl⟩:=trodVars_none hV;clear hA0;simp only [List.append_nil] at hW';have hlt0:∀ y ∈ p0,y.block<W.heap.size:=fun y hy=>hW'.lt y (by simp [hy]);obtain ⟨pu0,ED,rfl,hp0,hn0⟩:=EB (hval 0 36 v0 rfl rfl) h0 (fun k hk=>by have:=List.all_eq_true.1 hsz k (DataW.weights_mem_each (j:=0) rfl rfl k hk);simpa using this) hlt0;have hlt1:∀ y ∈ p1,y.block<W.heap.size:=fun y hy=>hW'.lt y (by simp [hy]);obtain ⟨A1,n1,c1,t1,rfl,ht1⟩:=AA h1 (hval 1 37 v1 rfl rfl) (fun k hk=>by have:=List.all_eq_true.1 hsz k (DataW.weights_mem_each (j:=1) rfl rfl k hk);simpa using this) hlt1;have ha0:∀ (W':World),Below W.heap.size W W'->DataW.Trod enc Tryz.prog W' 0 (fun b=>decide (b<W.heap.size)) true 36 (CG pu0 ED) d0 p0 :=
  fun W' hn=>Below.trod Tryz.laidOut (by kernel_rfl) (of_decide_eq_true (by kernel_rfl)) h0 hn hlt0
 have ha1:∀ (W':World),Below W.heap.size W W'->DataW.Trod enc Tryz.prog W' 0 (fun b=>decide (b<W.heap.size)) true 37 (.slice A1 n1 c1) d1 p1 :=
  fun W' hn=>Below.trod Tryz.laidOut (by kernel_rfl) (of_decide_eq_true (by kernel_rfl)) h1 hn hlt1
 refine (CZ hp0 ht1).mono fun e W' ⟨he,hn⟩ => ?_;subst he;exact ⟨_,rfl,_,_,_,[]++[],_,[],hW',trodAll_mk1 EY,trodAll_mk2 (ha0 W' hn) (ha1 W' hn),rfl,hn.frame _,fun h=>by cases h⟩
theorem codes5_holds:Rows.BookCodesSaid :=
 OpenClaim.holds_of_wide 4 Tryz.f4 rfl rfl rfl rfl rfl rfl rfl ⟨rfl,rfl,rfl,rfl,rfl⟩ rfl rfl rfl rfl rfl (by kernel_rfl) Tryz.func4 (by kernel_rfl)
  (of_decide_eq_true (by kernel_rfl)) (by unfold Func.isWrapper;first | (rw [if_pos (by decide +kernel)];kernel_rfl) | (rw [if_neg (by decide +kernel)];exact ⟨rfl,rfl⟩))
  (fun os started H enc _=>sN os started H enc)
end Go.Proofs.YtplecfbdchmogaaGreat
