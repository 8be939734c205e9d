/- Row and rows of the reference (books). -/
import Derived.Test.YtjoddliplahgkaaGreatPThere
import Derived.Test.YtjoddliplahgkaaGreatPRefTerm
namespace Go.Proofs.YtjoddliplahgkaaGreat
set_option linter.unusedVariables false
set_option linter.unusedSimpArgs false
open Go.RowKit
open Go.Value renaming int → O, slice → Y
open Go.IntKind renaming i64 → X
open Go.Lib renaming hid->aB
set_option maxHeartbeats 4000000
set_option maxRecDepth 100000
theorem O6 {b:Bk} {known self:Int} {m:Nd} (h:m.op=13):cN b known self m=true:=by
 unfold cN;rw[if_neg aA,if_neg aA,if_neg aA,if_neg aA,if_neg aA]
theorem Q6 {b:Bk} {known self:Int} {m:Nd} (h:m.op=3):cN b known self m=decide (m.a<=b.vars):=by
 unfold cN;rw[if_pos h]
theorem AR {α:Type} {f g:α->Bool} : ∀{L:List α},(∀y ∈ L,f y=g y)->L.all f=L.all g
 | [],_=>rfl
 | x::L,h=>by
  simp only[List.all_cons];rw[h x aD,AR (fun y hy=>h y (by simp[hy]))]
theorem FX {b:Bk} {known self:Int} : ∀(F:Fo) (dl:List Bool),Wf dl F->(row F).all (cN b known self)=vX b known self F
 | .nil,_,_=>rfl
 | .cons _ _ _ _ _,[],h=>h.elim
 | .cons p n a k x,d::dr,h=>by
  obtain⟨hp,a1,a0,hk,hx⟩:=h;have e1:p.all (cN b known self)=true:=by
   cases d with
   | false=>simp only at hp;subst hp;rfl
   | true =>
    obtain⟨f,rfl,hf⟩:=hp;simp only[vI,Bool.and_eq_true,decide_eq_true_eq] at hf;simp[O6 hf.2]
  have e2:a.all (cN b known self)=a.all (fun m=>decide (m.a<=b.vars)):=by
   unfold iR at a0;split at a0
   · exact AR (fun m hm=>Q6 (AZ _ _ _ _ a0 m hm))
   subst a0;rfl
  simp only[row,List.all_append,List.all_cons,vX,e1,e2,FX k _ hk,FX x _ hx,Bool.true_and,Bool.and_assoc]
theorem SI {b:Bk} {known self:Int} {l:List Nd} {n:Nd} {a:List Nd} {k:Fo} (hpp:pp [false] l=some (.cons [] n a k .nil,[])):l.all (cN b known self)=NU b known self n a k:=by
 have hw:=iP hpp;have hr:=oX hpp;simp only[List.append_nil] at hr;rw[hr,FX _ _ hw,uY];simp[vX]
theorem kB {w:World} {v:bO} {b:Bk} (hb:bX w v b) (known self below:Int) (hkn:known<=b.entries.length) {A:Option Addr} {n c:Nat} {l:List Nd} (ht:aY w A n c l) :
 Calls Tryz.prog 30 #[.agg #[O X b.vars,Y v.Ao v.no v.co,Y v.Ae v.ne v.ce,O X b.nat,Y v.Ap v.np v.cp],O X known,O X self,O X below,Y A n c] w (iG (fC b known self l below) w):=by
 have HT:=aB (fun (w':World) (h:Below w.heap.size w w')=>ht.below h);have c9:=aB (fun (w':World) (h:Below w.heap.size w w')=>hb.below h);have a0:=aB (fun (w':World) (h:Below w.heap.size w w')=>x8 (v:=v) (b:=b) known self hkn);have a2:=aB (aP w (.cells #[O X b.vars,Y v.Ao v.no v.co,Y v.Ae v.ne v.ce,O X b.nat,Y v.Ap v.np v.cp] 26));have b6:=aB (aS.new w 26 #[O X b.vars,Y v.Ao v.no v.co,Y v.Ae v.ne v.ce,O X b.nat,Y v.Ap v.np v.cp]);obtain⟨bv,c3⟩ : ∃x,x=b.vars:=⟨_,rfl⟩;obtain⟨bn,c4⟩ : ∃x,x=b.nat:=⟨_,rfl⟩;rw[<-c3] at a0 a2 b6 ⊢;rw[<-c4] at a0 a2 b6 ⊢;clear c3 c4 hb ht;obtain⟨Ao,no,co,Ae,ne,ce,Ap,np,cp⟩:=v;simp only at a0 c9 a2 b6 ⊢;obtain⟨res,a1⟩ : ∃res,res=fC b known self l below:=⟨_,rfl⟩;rw[<-a1];have HR:=aB a1;clear a1;by_cases hs:a8 l=0;case neg =>
  have hr:Hid (res=a8 l):=aB (by rw[HR.o];unfold fC;rw[if_pos hs]);have b4:=aB (jP (HT.o _ a2.o));have d1:(a8 l != 0)=true:=by simpa using hs
  generalize a8 l=s at *;clear hs;go_in;go_wp2_with fail;refine b4.o.mono ?_;rintro e w2 ⟨rfl,a3⟩;have b7:=bZ a2 a3;clear a3;go_wp2_with fail;go_ret;rw[hr.o];exact⟨rfl,b7.o⟩
 have b4:=aB (jP (HT.o _ a2.o));rw[hs] at b4;have HS:=aB hs;clear hs;go_in;go_wp2_with fail;refine b4.o.mono ?_;rintro e w2 ⟨rfl,a3⟩;have b7:=bZ a2 a3;have e2:=jL b6 a3;clear a3;go_wp2_with fail;refine (nR (HT.o _ b7.o)).mono ?_;rintro e w3 ⟨c0,⟨hs,_⟩ | ⟨xs,n1,ats,k,rfl,a5,a6,_⟩⟩
 · exact absurd HS.o hs
 obtain⟨sk,sa,sf,rfl,b1,b3,b2⟩:=a5;obtain⟨Ak,nk,ck,rfl,b1⟩:=b1;obtain⟨Aa,na,ca,rfl,b3⟩:=b3;obtain⟨Af,nf,cf,rfl,b2⟩:=b2;have b0:Hid (cR (fJ w2 w3) w3 [O X n1.op,O X n1.a,O X n1.b,Y Ak nk ck,Y Aa na ca,Y Af nf cf] n1 ats k):=aB ⟨_,_,_,rfl,⟨Ak,nk,ck,rfl,b1⟩,⟨Aa,na,ca,rfl,b3⟩,⟨Af,nf,cf,rfl,b2⟩⟩;have a4:=bZ b7 c0;have e1:=jL e2 c0;have c8:=aB (a4.o.alloc a4.o.size (.cells #[O X n1.op,O X n1.a,O X n1.b,Y Ak nk ck,Y Aa na ca,Y Af nf cf] 85));have d9:=aB (e1.o.alloc (.cells #[O X n1.op,O X n1.a,O X n1.b,Y Ak nk ck,Y Aa na ca,Y Af nf cf] 85));have d5:=aB (aS.new w3 85 #[O X n1.op,O X n1.a,O X n1.b,Y Ak nk ck,Y Aa na ca,Y Af nf cf]);have hw:=iP a6;obtain⟨_,c2,_,d3,_⟩:=hw;have a9:=pZ a6;have d4:aX k<=4096:=by
  obtain⟨_,n',a',k',h1,_,h2⟩:=fB HS.o;rw[a6] at h1;simp only[Option.some.injEq,Prod.mk.injEq,Fo.cons.injEq] at h1;obtain⟨⟨_,_,_,h3,_⟩,_⟩:=h1;rw[h3];exact h2
 have d8:=aB (SI (b:=b) (known:=known) (self:=self) a6);have c6:Hid (∀x y,fS l below=x->NU b known self n1 ats k=y->res=if x&&y then 0 else 8):=aB (fun x y h1 h2=>by
  rw[HR.o];unfold fC;rw[HS.o,if_neg aD,h1,d8.o,h2];cases x<;>cases y<;>simp)
 have c7:=aB (fun (w':World) (h:Below w3.heap.size w3 w')=>a0.o w' (a4.o.trans (h.mono a4.o.size)) (aX k+1) aA w' (fJ w2 w3) _ n1 ats k (c9.o w' (a4.o.trans (h.mono a4.o.size))) (fun b' hb'=>Nat.lt_of_lt_of_le hb'.2 h.size) (b0.o.keep fun b' hb'=>⟨hb',fun o=>h.cell (p:=⟨b',o,none⟩) hb'.2⟩) c2 a9.2.1 (Nat.lt_succ_self _));have e3:=aB (fun (w':World) (h:Below w.heap.size w w')=>zP (HT.o w' h) below);have b9:=aB (aP w3 (.cells #[O X n1.op,O X n1.a,O X n1.b,Y Ak nk ck,Y Aa na ca,Y Af nf cf] 85));generalize fS l below=bb at *;obtain⟨tt,b8⟩ : ∃tt,tt=NU b known self n1 ats k:=⟨_,rfl⟩;rw[<-b8] at c7;have d7:=aB b8;clear b1 b3 b2 c0 c2 d3 a9 d4 a6 b8;generalize n1.op=n1o at *;generalize n1.a=n1a at *;generalize n1.b=n1b at *;go_wp2_with fail;refine (e3.o _ c8.o).mono ?_;rintro e w4 ⟨rfl,a7⟩;have d2:=bZ c8 a7;have e0:=jL d9 a7;have d6:=jL d5 a7;have c1:=bZ b9 a7;have e5:=aS.cell e0.o;have e4:=aS.cell d6.o;clear a7;cases bb with
 | false =>
  have hr:=c6.o false _ rfl rfl;rw[Bool.false_and,if_neg aD] at hr;have b5:=aB hr;clear hr;go_wp2_with fail;go_ret;rw[b5.o];exact⟨rfl,d2.o⟩
 | true =>
  have HC:=aB (c7.o _ c1.o);have hr:=c6.o true tt rfl d7.o.symm;rw[Bool.true_and] at hr;have b5:=aB hr;clear hr;go_wp2_with fail;refine HC.o.mono ?_;rintro e w5 ⟨rfl,c5⟩;have d0:=bZ d2 c5;clear c5;cases tt with
  | true =>
   go_wp2_with fail;go_ret;rw[b5.o];exact⟨rfl,d0.o⟩
  | false =>
   go_wp2_with fail;go_ret;rw[b5.o];exact⟨rfl,d0.o⟩
theorem mS {w:World} {v:bO} {b:Bk} (hb:bX w v b) (known self below:Int) (hkn:known<=b.entries.length) (hbl0:0<=below) (hbl1:below<=1000) {A:Option Addr} {n c:Nat} {ls:List (List Nd)} (ht:fF w A n c ls) :
 Calls Tryz.prog 101 #[.agg #[O X b.vars,Y v.Ao v.no v.co,Y v.Ae v.ne v.ce,O X b.nat,Y v.Ap v.np v.cp],O X known,O X self,O X below,Y A n c] w (iG (cZ b known self 1 ls below) w):=by
 have HT:=aB (fun (w':World) (h:Below w.heap.size w w')=>ht.below h);have a7:=aB (fun (w':World) (h:Below w.heap.size w w') (bl:Int) (A':Option Addr) (n' c':Nat) (l:List Nd) (h2:aY w' A' n' c' l)=>kB (hb.below h) known self bl hkn h2);have a9:=aB (aP w (.cells #[O X b.vars,Y v.Ao v.no v.co,Y v.Ae v.ne v.ce,O X b.nat,Y v.Ap v.np v.cp] 26));have a8:=aB (aS.new w 26 #[O X b.vars,Y v.Ao v.no v.co,Y v.Ae v.ne v.ce,O X b.nat,Y v.Ap v.np v.cp]);obtain⟨bv,b9⟩ : ∃x,x=b.vars:=⟨_,rfl⟩;obtain⟨bn,c0⟩ : ∃x,x=b.nat:=⟨_,rfl⟩;rw[<-b9] at a7 a9 a8 ⊢;rw[<-c0] at a7 a9 a8 ⊢;have c2:=aB ht.len;have c9:=ht.few;clear b9 c0 hb ht;obtain⟨Ao,no,co,Ae,ne,ce,Ap,np,cp⟩:=v;simp only at a7 a9 a8 ⊢;obtain⟨res,a2⟩ : ∃res,res=cZ b known self 1 ls below:=⟨_,rfl⟩;rw[<-a2];have HR:=aB a2;clear a2;go_in;go_wp2_with fail;go_loopw [11] (fun iv wr=>∃i:Nat,iv=O X (i:Int)/\i<=n/\Hid (cZ b known self 1 (ls.drop i) (below+i)=res)/\Hid (aS wr w.heap.size 26 #[O X bv,Y Ao no co,Y Ae ne ce,O X bn,Y Ap np cp])/\Hid (Below w.heap.size w wr)) (fun i _=>n-(intOf i).toNat)
 case atStart=>exact⟨0,rfl,by omega,aB (by rw[List.drop_zero,show below+((0:Nat):Int)=below from by omega];exact HR.o.symm),a8,a9⟩
 case round =>
  obtain⟨i,rfl,d0,b6,c7,b8⟩:=hrel;by_cases hi2:i<n;rotate_left
  · have c8:decide ((i:Int)<(n:Int))=false:=decide_eq_false aA;have a0:=b6.o;rw[List.drop_of_length_le (by rw[c2.o];omega)] at a0;have b2:Hid (res=0):=aB a0.symm;clear a0;go_wp2_with fail;go_ret;rw[b2.o];exact⟨rfl,b8.o⟩
  have c8:decide ((i:Int)<(n:Int))=true:=decide_eq_true aA;have b7:i<ls.length:=by rw[c2.o];exact hi2
  have a0:=b6.o;rw[List.drop_eq_getElem_cons b7,show ls[i]=ls.getD i [] from by rw[List.getD_eq_getElem?_getD,List.getElem?_eq_getElem b7];rfl] at a0;have a1:∀(l:List Nd) (r:List (List Nd)) (bl:Int),cZ b known self 1 (l::r) bl=if fC b known self l bl ≠ 0 then fC b known self l bl else cZ b known self 1 r (bl+1):=fun _ _ _=>rfl;rw[a1] at a0;have a5:=aB (aT b8.o 1);have c3:=aB (c7.o.drewN 1);obtain⟨bk,ok,A',n',c',rfl,c1,hc,b5⟩:=(HT.o w (Below.refl _ _)).at_ hi2;have a3:=aS.cell c3.o;have b3:=(a5.o.cell (p:=⟨bk,ok+i,none⟩) c1).trans hc;have b0:=Nat.lt_of_lt_of_le c1 a5.o.size;have b4:IntKind.i64.wrap (below+(i:Int))=below+(i:Int):=by rw[IntKind.wrap_i64];omega
  have HC:=aB (a7.o _ a5.o (below+(i:Int)) A' n' c' _ (b5.below a5.o));generalize fC b known self (ls.getD i []) (below+(i:Int))=re at *;clear a1 hc b5;have b1:=aB a0;clear a0;go_wp2_with fail;refine wp_region_held_drew (S:=(fun w'=>w'.cell? ⟨w.heap.size,0,none⟩=some (O X bv)/\w'.cell? ⟨w.heap.size,1,none⟩=some (Y Ao no co)/\w'.cell? ⟨w.heap.size,2,none⟩=some (Y Ae ne ce)/\w'.cell? ⟨w.heap.size,3,none⟩=some (O X bn)/\w'.cell? ⟨w.heap.size,4,none⟩=some (Y Ap np cp)/\w'.cell? ⟨bk,ok+i,none⟩=some (Y A' n' c'))) aC ?_ (fun hZ => ?_)
  · (try dsimp only);exact⟨a3 0,a3 1,a3 2,a3 3,a3 4,b3⟩
  refine aL 0 hZ ?_;refine aL 1 hZ ?_;refine aL 2 hZ ?_;refine aL 3 hZ ?_;refine aL 4 hZ ?_;refine aL 5 hZ ?_;refine aL 6 hZ ?_;refine aL 7 hZ ?_;refine aL 8 hZ ?_;refine aL 9 hZ ?_;refine r1 10 fun K hK => ?_;go_simp;go_at_call 30
  refine HC.o.mono ?_;rintro e' w7 ⟨rfl,a6⟩;have c5:=bZ a5 a6;have c4:=jL c3 a6;have a4:=aS.cell c4.o;have c6:=(a6.cell (p:=⟨bk,ok+i,none⟩) b0).trans b3;clear a6;go_wp2_with fail;refine hK.o _ _ (by exact⟨a4 0,a4 1,a4 2,a4 3,a4 4,c6⟩) fun hZ => ?_;clear hK K;try simp only[p7]
  refine aL 11 hZ ?_;refine wpAnyH_done aC ?_ _;have a0:=b1.o;by_cases h0:re=0
  · subst h0;rw[if_neg aD] at a0;have HN:Hid (cZ b known self 1 (ls.drop (i+1)) (below+((i+1:Nat):Int))=res):=aB (by rw[<-a0];congr 1;omega);clear a0;go_wp2_with fail;go_roundw
    case rel=>exact⟨i+1,by go_num,by omega,HN,c4,c5⟩
    case measure=>simp[intOf];omega
  rw[if_pos h0] at a0;have b2:=aB a0;have d1:(re != 0)=true:=by simpa using h0
  clear a0 h0;go_wp2_with fail;go_ret;rw[<-b2.o];exact⟨rfl,c5.o⟩
end Go.Proofs.YtjoddliplahgkaaGreat
