/- ConvFuel, ConvEither, ConvChain return true, whatever they are handed; what they are handed reads as it did. No conditions. -/
import Derived.Test.YtlahmbhimhmoaaaRows
import Derived.Test.YtlahmbhimhmoaaaVCvE
import Derived.Test.YtlahmbhimhmoaaaVCvO
namespace Go.Proofs.Ytlahmbhimhmoaaa
set_option linter.unusedVariables false
set_option linter.unusedSimpArgs false
set_option maxRecDepth 100000
open Go.ChangeShapes Go.WideShapes Go.ChangeAt Go.RowKit
theorem s7(os:Os)(F:os.Started)(H:Type)(enc:TypeId×Value->H):
 ReturnsInHanded {} Try.checked os 5 .any (Rows.convFuelSpec.pre6 enc Try.prog Try.f5 Rows.convFuelRow.domain false) (Rows.convFuelSpec.post enc Try.prog Try.f5 false true false false):=by
 refine returnsInHanded_of_change_sized (C:=Try.checked) Try.own F aC Try.func5
  (ChangeSpec.witness6 (enc:=enc) (C:=Try.checked) false ⟨#[],#[.agg #[.int .i64 0,.slice none 0 0,.slice none 0 0,.int .i64 0,.slice none 0 0,.slice none 0 0,.slice none 0 0,.slice none 0 0,.int .i64 0],.int .u8 0,.bool false],[]⟩ 8 aC aC aC aC) ?_
 intro W base args ds gs before U hW _ I _;have s:(DataW.weightsEach Try.prog (Try.f5.params.toList++Rows.convFuelSpec.plain.varTypes Try.prog) (ds++gs)).all (·<=reachBytes)=true:=I;clear I;have D:∀(j:Nat) t v,Try.f5.params[j]? = some t->args[j]? = some v->Value.okWide Try.prog W .any base t v:=U;have O:=hW;obtain⟨p,q,o,hV,rfl,_,_⟩:=hW;have hA:DataW.TrodAll enc Try.prog W 0 (fun _=>true) true Try.f5.params.toList args.toList ds p:=o;rw[Try.params5]at hA D s;obtain⟨v0,v1,v2,d0,d1,d2,p0,p1,p2,rfl,rfl,rfl,h0,h1,h2⟩:=trodAll_three hA;obtain⟨rfl,rfl⟩:=trodVars_none hV;obtain⟨x1,rfl,rfl,rfl,a0⟩:=open_int Try.underlying5 (D 1 5 v1 rfl rfl) h1;obtain⟨x2,rfl,rfl,rfl⟩:=open_bool Try.underlying4 (D 2 4 v2 rfl rfl) h2;clear o;simp only[NF]at O;have G:∀y∈p0,y.block<W.heap.size:=fun y hy=>O.lt y (by simp[hy]);obtain⟨a3,a2,a4,a6,a5,b4,A0,n0,c0,t0,a1,b3,b2,b6,Z,rfl,a8,b5,a9,b0,b1,b7⟩:=mM (D 0 31 v0 rfl rfl) h0 (fun k hk=>by have:=List.all_eq_true.1 s k (DataW.weights_mem_each (j:=0) rfl rfl k hk);simpa using this) G;have a7:∀(Y:OE),OB W Y->DataW.Trod enc Try.prog Y 0 (fun b=>decide (b<W.heap.size)) true 31 (oA a3 a2 a4 a6 a5 A0 n0 c0 a1 b3 b2 Z) d0 p0 :=
  fun Y hn=>Below.trod Try.laidOut aC (of_decide_eq_true aC) h0 hn G
 have z:0<=x1/\x1<=255:=by
  have e1:IntKind.u8.min=0:=rfl;have e2:IntKind.u8.max=255:=rfl;simp only[Lit.wf,ME,MJ]at a0;omega
 refine (CC a8 a9 b0 b1 Z x1 z.1 z.2 x2).mono fun e Y ⟨he,hn⟩=>?_;subst he;exact⟨_,rfl,_,_,_,[]++[],_,[],O,trodAll_mk1 mV,trodAll_mk3 (a7 Y hn) (shut_int Try.underlying5 a0) (show DataW.Trod enc Try.prog Y 0 (fun b=>decide (b<W.heap.size)) true 4 (.bool x2) (.lit (.bool x2)) [] from⟨1,by simp[DataW.trod,Value.cells,Try.underlying4]⟩),rfl,hn.frame _,fun h=>by cases h⟩
theorem fuel9_holds:Rows.ConvFuelSaid :=
 OpenClaim.holds_of_wide 5 Try.f5 rfl rfl rfl rfl rfl rfl rfl ⟨rfl,rfl,rfl,rfl,rfl⟩ rfl rfl rfl rfl rfl aC Try.func5 aC
  (of_decide_eq_true aC) (by unfold Func.isWrapper;first|(rw[LZ (by decide +kernel)];kernel_rfl)|(rw[aN (by decide +kernel)];exact⟨rfl,rfl⟩))
  (fun os started H enc _=>s7 os started H enc)
theorem oX(os:Os)(D:os.Started)(H:Type)(enc:TypeId×Value->H):
 ReturnsInHanded {} Try.checked os 3 .any (Rows.convEitherSpec.pre6 enc Try.prog Try.f3 Rows.convEitherRow.domain false) (Rows.convEitherSpec.post enc Try.prog Try.f3 false true false false):=by
 refine returnsInHanded_of_change_sized (C:=Try.checked) Try.own D aC Try.func3
  (ChangeSpec.witness6 (enc:=enc) (C:=Try.checked) false ⟨#[],#[.agg #[.int .i64 0,.slice none 0 0,.slice none 0 0,.int .i64 0,.slice none 0 0,.slice none 0 0,.slice none 0 0,.slice none 0 0,.int .i64 0]],[]⟩ 8 aC aC aC aC) ?_
 intro W base args ds gs before U hW _ G _;have s:(DataW.weightsEach Try.prog (Try.f3.params.toList++Rows.convEitherSpec.plain.varTypes Try.prog) (ds++gs)).all (·<=reachBytes)=true:=G;clear G;have I:∀(j:Nat) t v,Try.f3.params[j]? = some t->args[j]? = some v->Value.okWide Try.prog W .any base t v:=U;have O:=hW;obtain⟨p,q,o,hV,rfl,_,_⟩:=hW;have hA:DataW.TrodAll enc Try.prog W 0 (fun _=>true) true Try.f3.params.toList args.toList ds p:=o;rw[Try.params3]at hA I s;obtain⟨v0,d0,rfl,rfl,h0⟩:=trodAll_one hA;obtain⟨rfl,rfl⟩:=trodVars_none hV;clear o;simp only[NF]at O;have F:∀y∈p,y.block<W.heap.size:=fun y hy=>O.lt y (by simp[hy]);obtain⟨a2,a1,a3,a5,a4,b3,A0,n0,c0,t0,a0,b2,b1,b5,Z,rfl,a7,b4,a8,a9,b0,b6⟩:=mM (I 0 31 v0 rfl rfl) h0 (fun k hk=>by have:=List.all_eq_true.1 s k (DataW.weights_mem_each (j:=0) rfl rfl k hk);simpa using this) F;have a6:∀(Y:OE),OB W Y->DataW.Trod enc Try.prog Y 0 (fun b=>decide (b<W.heap.size)) true 31 (oA a2 a1 a3 a5 a4 A0 n0 c0 a0 b2 b1 Z) d0 p :=
  fun Y z=>Below.trod Try.laidOut aC (of_decide_eq_true aC) h0 z F
 refine (uT a7 a8 a9 b0 Z).mono fun e Y ⟨he,z⟩=>?_;subst he;exact⟨_,rfl,_,_,_,[]++[],_,[],O,trodAll_mk1 mV,trodAll_mk1 (a6 Y z),rfl,z.frame _,fun h=>by cases h⟩
theorem either9_holds:Rows.ConvEitherSaid :=
 OpenClaim.holds_of_wide 3 Try.f3 rfl rfl rfl rfl rfl rfl rfl ⟨rfl,rfl,rfl,rfl,rfl⟩ rfl rfl rfl rfl rfl aC Try.func3 aC
  (of_decide_eq_true aC) (by unfold Func.isWrapper;first|(rw[LZ (by decide +kernel)];kernel_rfl)|(rw[aN (by decide +kernel)];exact⟨rfl,rfl⟩))
  (fun os started H enc _=>oX os started H enc)
theorem qS(os:Os)(F:os.Started)(H:Type)(enc:TypeId×Value->H):
 ReturnsInHanded {} Try.checked os 4 .any (Rows.convChainSpec.pre6 enc Try.prog Try.f4 Rows.convChainRow.domain false) (Rows.convChainSpec.post enc Try.prog Try.f4 false true false false):=by
 refine returnsInHanded_of_change_sized (C:=Try.checked) Try.own F aC Try.func4
  (ChangeSpec.witness6 (enc:=enc) (C:=Try.checked) false ⟨#[],#[.agg #[.int .i64 0,.slice none 0 0,.slice none 0 0,.int .i64 0,.slice none 0 0,.slice none 0 0,.slice none 0 0,.slice none 0 0,.int .i64 0],.slice none 0 0],[]⟩ 8 aC aC aC aC) ?_
 intro W base args ds gs before s hW _ Y _;have o:(DataW.weightsEach Try.prog (Try.f4.params.toList++Rows.convChainSpec.plain.varTypes Try.prog) (ds++gs)).all (·<=reachBytes)=true:=Y;clear Y;have D:∀(j:Nat) t v,Try.f4.params[j]? = some t->args[j]? = some v->Value.okWide Try.prog W .any base t v:=s;have I:=hW;obtain⟨p,q,a0,hV,rfl,_,_⟩:=hW;have hA:DataW.TrodAll enc Try.prog W 0 (fun _=>true) true Try.f4.params.toList args.toList ds p:=a0;rw[Try.params4]at hA D o;obtain⟨v0,v1,d0,d1,p0,p1,rfl,rfl,rfl,h0,h1⟩:=trodAll_two hA;obtain⟨rfl,rfl⟩:=trodVars_none hV;clear a0;simp only[NF]at I;have O:∀y∈p0,y.block<W.heap.size:=fun y hy=>I.lt y (by simp[hy]);obtain⟨a3,a2,a4,a6,a5,b6,A0,n0,c0,t0,a1,b5,b4,b8,z,rfl,a9,b7,b0,b1,b3,b9⟩:=mM (D 0 31 v0 rfl rfl) h0 (fun k hk=>by have:=List.all_eq_true.1 o k (DataW.weights_mem_each (j:=0) rfl rfl k hk);simpa using this) O;have U:∀y∈p1,y.block<W.heap.size:=fun y hy=>I.lt y (by simp[hy]);obtain⟨A1,n1,c1,t1,rfl,b2⟩:=CR (D 1 29 v1 rfl rfl) h1 (fun es sp e=>sized_slice o (j:=1) (t:=29) (e:=42) rfl (by rw[e];rfl) Try.underlying29) U;have a7:∀(G:OE),OB W G->DataW.Trod enc Try.prog G 0 (fun b=>decide (b<W.heap.size)) true 31 (oA a3 a2 a4 a6 a5 A0 n0 c0 a1 b5 b4 z) d0 p0 :=
  fun G Z=>Below.trod Try.laidOut aC (of_decide_eq_true aC) h0 Z O
 have a8:∀(G:OE),OB W G->DataW.Trod enc Try.prog G 0 (fun b=>decide (b<W.heap.size)) true 29 (.slice A1 n1 c1) d1 p1 :=
  fun G Z=>Below.trod Try.laidOut aC (of_decide_eq_true aC) h1 Z U
 refine (xF a9 b0 b1 b3 z b2).mono fun e G ⟨he,Z⟩=>?_;subst he;exact⟨_,rfl,_,_,_,[]++[],_,[],I,trodAll_mk1 mV,trodAll_mk2 (a7 G Z) (a8 G Z),rfl,Z.frame _,fun h=>by cases h⟩
theorem chain9_holds:Rows.ConvChainSaid :=
 OpenClaim.holds_of_wide 4 Try.f4 rfl rfl rfl rfl rfl rfl rfl ⟨rfl,rfl,rfl,rfl,rfl⟩ rfl rfl rfl rfl rfl aC Try.func4 aC
  (of_decide_eq_true aC) (by unfold Func.isWrapper;first|(rw[LZ (by decide +kernel)];kernel_rfl)|(rw[aN (by decide +kernel)];exact⟨rfl,rfl⟩))
  (fun os started H enc _=>qS os started H enc)
end Go.Proofs.Ytlahmbhimhmoaaa
