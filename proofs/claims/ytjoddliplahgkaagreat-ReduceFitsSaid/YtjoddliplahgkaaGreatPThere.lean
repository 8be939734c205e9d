/- Family and there of the reference (books). -/
import Derived.Test.YtjoddliplahgkaaGreatPBooks
import Derived.Deep.DeepCutAuto
namespace Go.Proofs.YtjoddliplahgkaaGreat
set_option linter.unusedVariables false
set_option linter.unusedSimpArgs false
open Go.RowKit
open Go.Value renaming int → O, slice → Y
open Go.IntKind renaming i64 → X
open Option renaming none → Z
open Go.Obj renaming cells → I
open Go.Lib renaming hid->aB
set_option maxHeartbeats 8000000
set_option maxRecDepth 100000
theorem oM {w:World} {v:bO} {b:Bk} (hb:bX w v b) (e known:Int) (hk:known<=b.entries.length) :
 Calls Tryz.prog 54 #[.agg #[O X b.vars,Y v.Ao v.no v.co,Y v.Ae v.ne v.ce,O X b.nat,Y v.Ap v.np v.cp],O X e,O X known] w (gC (decide (0<=e)&&fG b known e) w):=by
 have HB:=aB (aP w (I #[O X b.vars,Y v.Ao v.no v.co,Y v.Ae v.ne v.ce,O X b.nat,Y v.Ap v.np v.cp] 26));have a0:=hb.entries.len;by_cases h0:0<=e;case neg =>
  have d0:decide (e ≥ 0)=false:=decide_eq_false h0;have HR:Hid ((decide (0<=e)&&fG b known e)=false):=aB (by rw[decide_eq_false h0];rfl);generalize (decide (0<=e)&&fG b known e)=res at *;generalize b.vars=bv at *;generalize b.nat=bn at *;clear hb hk a0 h0;go_in;go_wp2_with fail;go_ret;rw[HR.o];exact⟨rfl,HB.o⟩
 have d0:decide (e ≥ 0)=true:=decide_eq_true h0;by_cases h1:e<known;case neg =>
  have d1:decide (e<known)=false:=decide_eq_false h1;have HR:Hid ((decide (0<=e)&&fG b known e)=false):=aB (by unfold fG;rw[d1];simp);generalize (decide (0<=e)&&fG b known e)=res at *;generalize b.vars=bv at *;generalize b.nat=bn at *;clear hb hk a0 h0 h1;go_in;go_wp2_with fail;go_ret;rw[HR.o];exact⟨rfl,HB.o⟩
 have d1:decide (e<known)=true:=decide_eq_true h1;obtain⟨q,rfl⟩ : ∃q:Nat,e=q:=⟨e.toNat,by omega⟩;obtain⟨be,oe,hA,a3,ev,a1,_⟩:=hb.entries.at_ (k:=q) aA;have HR:Hid ((decide (0<=(q:Int))&&fG b known q)=((bK b q).kind==1)):=aB (by unfold fG;rw[d1,decide_eq_true h0,Bool.true_and,Bool.true_and]);rw[show b.entries.getD q default=bK b q from by unfold bK;rw[Int.toNat_natCast]] at a1;obtain⟨Ao,no,co,Ae,ne,ce,Ap,np,cp⟩:=v;simp only at hA a0 HB ⊢;subst hA;have a2:q<ne:=aA;generalize (bK b q).kind=kd at *;generalize (decide (0<=(q:Int))&&fG b known q)=res at *;generalize b.vars=bv at *;generalize b.nat=bn at *;clear hb hk a0 h0 h1;go_in;go_wp2_with fail;go_ret;rw[HR.o];exact⟨rfl,HB.o⟩
def vX (b:Bk) (known self:Int):Fo->Bool
 | .nil=>true
 | .cons _ n a k x=>(cN b known self n&&(a.all (fun m=>decide (m.a<=b.vars))&&vX b known self k))&&vX b known self x
def NU (b:Bk) (known self:Int) (n:Nd) (a:List Nd) (k:Fo):Bool:=cN b known self n&&(a.all (fun m=>decide (m.a<=b.vars))&&vX b known self k)
theorem sX (b:Bk) (known self:Int) : ∀(F G:Fo),vX b known self (F.app G)=(vX b known self F&&vX b known self G)
 | .nil,G=>by simp[Fo.app,vX]
 | .cons p n a k x,G=>by simp only[Fo.app,vX,sX b known self x G,Bool.and_assoc]
theorem uY (b:Bk) (known self:Int) (p:List Nd) (n:Nd) (a:List Nd) (k x:Fo):vX b known self (.cons p n a k x)=(NU b known self n a k&&vX b known self x):=rfl
theorem FY {b:Bk} {v:bO} (known self:Int) (hkn:known<=b.entries.length) (m:Nat) (hm15:m<=1000000000000000)
 (ih:∀(w:World) (R:Nat->Prop) (xs:List Value) (n:Nd) (atoms:List Nd) (kids:Fo),bX w v b->(∀b,R b->b<w.heap.size)->cR R w xs n atoms kids->eN n=true->dC kids->aX kids<m →
  Calls Tryz.prog 57 #[.agg #[O X b.vars,Y v.Ao v.no v.co,Y v.Ae v.ne v.ce,O X b.nat,Y v.Ap v.np v.cp],O X known,O X self,.agg xs.toArray] w (gC (NU b known self n atoms kids) w))
 (w:World) (R:Nat->Prop) (xs:List Value) (n:Nd) (atoms:List Nd) (kids:Fo) (hb:bX w v b) (hR:∀b,R b->b<w.heap.size) (ht:cR R w xs n atoms kids) (hok:eN n=true) (hall:dC kids) (hsz:aX kids<=m) :
 Calls Tryz.prog 57 #[.agg #[O X b.vars,Y v.Ao v.no v.co,Y v.Ae v.ne v.ce,O X b.nat,Y v.Ap v.np v.cp],O X known,O X self,.agg xs.toArray] w (gC (NU b known self n atoms kids) w):=by
 have HI:=aB ih;clear ih;obtain⟨sk,sa,sf,rfl,⟨Ak,nk,ck,rfl,i3⟩,⟨Aa,na,ca,rfl,j6⟩,⟨Af,nf,cf,rfl,n0⟩⟩:=ht;have f9:cD n.op n.a n.b=true:=by simp only[eN,Bool.and_eq_true] at hok;exact hok.1.1
 obtain⟨k8,_⟩:=fM f9;obtain⟨e1,_⟩:=gT f9;have a0:n.op ≠ 3:=by simp only[eN,Bool.and_eq_true,decide_eq_true_eq] at hok;exact hok.1.2
 have d2:=hb.entries.len;have l9:=aB (fun (w':World) (h:Below w.heap.size w w')=>hb.below h);have b4:=aB (fun (w':World) (h:Below w.heap.size w w') (e:Int)=>oM (hb.below h) e known hkn);have d3:=fun (k:Nat) (hk:k<v.ne)=>hb.entries.at_ hk;have k1:=aB i3;have e3:=aB j6;have g7:=aB hR;have k6:=aB hall;have n9:=aB hsz;have m7:nk<=1000000000000000/\na<=1000000000000000/\True:=⟨by have h1:=e8 kids;have h2:=i3.len;exact Nat.le_trans (by rw[<-h2];exact h1) (Nat.le_trans hsz hm15),by have:=j6.few;omega,trivial⟩;obtain⟨m6,m8,_⟩:=m7;obtain⟨op,a,q⟩:=n;simp only at f9 k8 e1 a0;obtain⟨e,rfl⟩ : ∃e:Nat,a=e:=⟨a.toNat,by omega⟩;obtain⟨q,rfl⟩ : ∃q':Nat,q=q':=⟨q.toNat,by omega⟩;clear f9 k8 e1 hok hall i3 j6 n0 hR hsz;have c7:Hid (∀s,NU b known self ⟨op,e,q⟩ atoms kids=s ↔ (cN b known self ⟨op,e,q⟩&&(atoms.all (fun m=>decide (m.a<=b.vars))&&vX b known self kids))=s):=aB (fun s=>Iff.rfl);obtain⟨bvar,c5⟩ : ∃x,x=b.vars:=⟨_,rfl⟩;obtain⟨bn,l2⟩ : ∃x,x=b.nat:=⟨_,rfl⟩;rw[<-c5] at HI b4 c7 ⊢;rw[<-l2] at HI b4 ⊢;clear l2 c5;generalize hbv2:bvar=bv at *;clear hbv2 bvar;obtain⟨nb,e1⟩ : ∃x,x=cN b known self ⟨op,e,q⟩:=⟨_,rfl⟩;rw[<-e1] at c7;obtain⟨Ao,no,co,Ae,ne,ce,Ap,np,cp⟩:=v;simp only at HI b4 l9 d2 d3 ⊢;rw[d2] at hkn;clear hb;have k5:=aB (aP w (I #[O X bv,Y Ao no co,Y Ae ne ce,O X bn,Y Ap np cp] 26));have k4:=aB (k5.o.alloc k5.o.size (I #[O X op,O X (e:Int),O X (q:Int),Y Ak nk ck,Y Aa na ca,Y Af nf cf] 85));have c1:=aB (k4.o.alloc k4.o.size (I #[O X op,O X (e:Int),O X (q:Int)] 46));have a7:Hid (aS (((w.alloc (I #[O X bv,Y Ao no co,Y Ae ne ce,O X bn,Y Ap np cp] 26)).alloc (I #[O X op,O X (e:Int),O X (q:Int),Y Ak nk ck,Y Aa na ca,Y Af nf cf] 85)).alloc (I #[O X op,O X (e:Int),O X (q:Int)] 46)) w.heap.size 26 #[O X bv,Y Ao no co,Y Ae ne ce,O X bn,Y Ap np cp]):=aB (((aS.new _ _ _).alloc _).alloc _);have b3:Hid (aS (((w.alloc (I #[O X bv,Y Ao no co,Y Ae ne ce,O X bn,Y Ap np cp] 26)).alloc (I #[O X op,O X (e:Int),O X (q:Int),Y Ak nk ck,Y Aa na ca,Y Af nf cf] 85)).alloc (I #[O X op,O X (e:Int),O X (q:Int)] 46)) (w.heap.size+1) 85 #[O X op,O X (e:Int),O X (q:Int),Y Ak nk ck,Y Aa na ca,Y Af nf cf]):=aB ((aS.new' aD).alloc _);have a6:Hid (aS (((w.alloc (I #[O X bv,Y Ao no co,Y Ae ne ce,O X bn,Y Ap np cp] 26)).alloc (I #[O X op,O X (e:Int),O X (q:Int),Y Ak nk ck,Y Aa na ca,Y Af nf cf] 85)).alloc (I #[O X op,O X (e:Int),O X (q:Int)] 46)) (w.heap.size+1+1) 46 #[O X op,O X (e:Int),O X (q:Int)]):=aB (aS.new' aD);have a4:=aB e1;have e0:=aB d3;have k0:=aB hkn;have b8:=aB a0;clear e1 d3 hkn a0 d2;go_in;go_upto_region 2 with fail
 have h5:=aS.cell a7.o;have h0:=aS.cell a6.o;go_cut [41] (fun bv2 wx=>∃bad,bv2=.bool bad/\wx=(((w.alloc (I #[O X bv,Y Ao no co,Y Ae ne ce,O X bn,Y Ap np cp] 26)).alloc (I #[O X op,O X (e:Int),O X (q:Int),Y Ak nk ck,Y Aa na ca,Y Af nf cf] 85)).alloc (I #[O X op,O X (e:Int),O X (q:Int)] 46))/\Hid (bad=true->nb=false)/\Hid (bad=false->op=8->nb=true))
 case first =>
  have a0:=b8.o;have hkn:=k0.o;by_cases hop:op=8;case neg =>
   have o8:(op==8)=false:=by simpa using hop
   have n6:Hid (op ≠ 8):=aB hop;clear hop a0 hkn;go_wp2_with fail;go_meet;exact⟨false,rfl,rfl,aB (fun h=>by cases h),aB (fun _ h=>absurd h n6.o)⟩
  have o8:(op==8)=true:=by simpa using hop
  have a9:nb=(decide ((e:Int)<known)&&(bK b e).kind==2):=by rw[a4.o];unfold cN;simp only;rw[if_neg a0,if_pos hop]
  by_cases h1:(e:Int)<known;case neg =>
   have d1:decide ((e:Int)<known)=false:=decide_eq_false h1;have d9:Hid (nb=false):=aB (by rw[a9,d1];rfl);clear hop a0 hkn a9 h1;go_wp2_with fail;go_meet;exact⟨true,rfl,rfl,aB (fun _=>d9.o),aB (fun h=>by cases h)⟩
  have d1:decide ((e:Int)<known)=true:=decide_eq_true h1;have o4:e<ne:=aA;obtain⟨be,oe,j7,j4,ev,j2,_⟩:=e0.o e aA;rw[show b.entries.getD e default=bK b e from by unfold bK;rw[Int.toNat_natCast]] at j2;subst j7;have j1:=(c1.o.cell (p:=⟨be,oe+e*7,Z⟩) j4).trans j2;obtain⟨kd,a8⟩ : ∃kd,kd=(bK b e).kind:=⟨_,rfl⟩;rw[<-a8,d1,Bool.true_and] at a9;rw[<-a8] at j1;obtain⟨k2,i5⟩ : ∃k,k=(kd==2):=⟨_,rfl⟩;have d4:=i5.symm;rw[<-i5] at a9;have d9:=aB a9;clear hop a0 hkn a9 h1 j2 a8 i5;cases k2 with
  | true =>
   go_wp2_with fail;go_meet;exact⟨false,rfl,rfl,aB (fun h=>by cases h),aB (fun _ _=>d9.o)⟩
  | false =>
   go_wp2_with fail;go_meet;exact⟨true,rfl,rfl,aB (fun _=>d9.o),aB (fun h=>by cases h)⟩
 case rest =>
 obtain⟨bad,rfl,m4,f7,f5⟩:=hcut;subst m4;clear h5 h0;cases bad with
 | true =>
  have d8:Hid (nb=false):=aB (f7.o rfl);go_wp2_with fail;go_ret;rw[(c7.o false).2 (by rw[d8.o];rfl)];exact⟨rfl,c1.o⟩
 | false =>
 have d9:=aB (f5.o rfl);clear f7 f5;go_upto_region 4 with fail
 have h5:=aS.cell a7.o;have h0:=aS.cell a6.o;go_cut [76] (fun bv2 wx=>∃bad,bv2=.bool bad/\Hid (aS wx w.heap.size 26 #[O X bv,Y Ao no co,Y Ae ne ce,O X bn,Y Ap np cp])/\Hid (aS wx (w.heap.size+1) 85 #[O X op,O X (e:Int),O X (q:Int),Y Ak nk ck,Y Aa na ca,Y Af nf cf])/\Hid (aS wx (w.heap.size+1+1) 46 #[O X op,O X (e:Int),O X (q:Int)])/\Hid (Below w.heap.size w wx)/\Hid (bad=true->nb=false)/\Hid (bad=false->(op=9->nb=true)/\(op=11->nb=true)/\(op=10->fG b known e=true)))
 case first =>
  have a0:=b8.o;have d0:decide (0<=(e:Int))=true:=decide_eq_true aA;have a2:=fun (w':World) h=>b4.o w' h (e:Int);rw[d0,Bool.true_and] at a2;obtain⟨fq,hf⟩ : ∃f,f=fG b known e:=⟨_,rfl⟩;rw[<-hf] at a2;have f8:=aB a2;clear d0 a2;have g8:=f8;by_cases hop9:op=9
  · have o10:(op==10)=false:=by simp;omega
    have o11:(op==11)=false:=by simp;omega
    have o9:(op==9)=true:=by simpa using hop9
    have b1:nb=((e:Int)==self||fq):=by rw[a4.o];unfold cN;simp only;rw[if_neg a0,if_neg aA,if_pos hop9,hf]
    by_cases h1:(e:Int)=self
    · have d1:((e:Int) != self)=false:=by simpa using h1
      have b9:Hid (nb=true):=aB (by rw[b1,beq_iff_eq.2 h1];rfl);have HX:Hid (op=9):=aB hop9;clear hop9 h1 a0 b1 hf;go_wp2_with fail;go_meet;exact⟨false,rfl,a7,b3,a6,c1,aB (fun h=>by cases h),aB (fun _=>⟨fun _=>b9.o,fun h=>by have:=HX.o;omega,fun h=>by have:=HX.o;omega⟩)⟩
    have d1:((e:Int) != self)=true:=by simpa using h1
    rw[beq_false_of_ne h1,Bool.false_or] at b1;have b9:=aB b1;have HX:Hid (op=9):=aB hop9;clear hop9 h1 a0 b1 hf;go_wp2_with fail;refine (g8.o _ c1.o).mono ?_;rintro e' w2 ⟨rfl,b2⟩;have c0:=bZ c1 b2;have a1:=jL a7 b2;have a5:=jL b3 b2;have a3:=jL a6 b2;have h4:=aS.cell a1.o;have g9:=aS.cell a3.o;clear b2;go_wp2_with fail;go_meet;exact⟨!fq,rfl,a1,a5,a3,c0,aB (fun h=>by rw[b9.o];simpa using h),aB (fun h=>⟨fun _=>by rw[b9.o];simpa using h,fun h=>by have:=HX.o;omega,fun h=>by have:=HX.o;omega⟩)⟩
  by_cases b7:op=10\/op=11
  · have c3:op=11->nb=fq:=fun h=>by rw[a4.o];unfold cN;simp only;rw[if_neg a0,if_neg aA,if_neg hop9,if_pos h,hf]
    have c4:op=10->fq=false->nb=false:=fun h h2=>by rw[a4.o];unfold cN;simp only;rw[if_neg a0,if_neg aA,if_neg hop9,if_neg aA,if_pos h,<-hf,h2];rfl
    have j8:=aB c4;have f6:=aB c3;have HX:=aB b7;have n5:=aB hop9;have HF:=aB hf;have o9:(op==9)=false:=by simpa using hop9
    have hc:(op==10)=true\/((op==10)=false/\(op==11)=true):=by
     rcases b7 with h | h
     · exact .inl (by simpa using h)
     exact .inr ⟨by simp;omega,by simpa using h⟩
    clear hop9 b7 a0 c4 c3 hf g8;have a2:=f8.o;rcases hc with o10 | ⟨o10,o11⟩<;>rcases Bool.eq_false_or_eq_true fq with hq | hq;all_goals
     rw[hq] at a2;have g8:=aB a2;have HQ:=aB hq;clear a2 hq;go_wp2_with fail;refine (g8.o _ c1.o).mono ?_;rintro e' w2 ⟨rfl,b2⟩;have c0:=bZ c1 b2;have a1:=jL a7 b2;have a5:=jL b3 b2;have a3:=jL a6 b2;have h4:=aS.cell a1.o;have g9:=aS.cell a3.o;clear b2;go_wp2_with fail;go_meet;exact⟨_,rfl,a1,a5,a3,c0,aB (fun h=>by
      first
      | exact absurd h aE
      | exact HX.o.elim (fun h3=>j8.o h3 HQ.o) (fun h3=>by rw[f6.o h3,HQ.o])),aB (fun h=>by
      first
      | exact absurd h aE
      | exact⟨fun h3=>absurd h3 n5.o,fun h3=>by rw[f6.o h3,HQ.o],fun _=>by rw[<-HF.o,HQ.o]⟩)⟩
  have o9:(op==9)=false:=by simpa using hop9
  have o10:(op==10)=false:=by simp;omega
  have o11:(op==11)=false:=by simp;omega
  have HX:Hid (op ≠ 9/\op ≠ 10/\op ≠ 11):=aB aA;clear hop9 b7 a0 hf;go_wp2_with fail;go_meet;exact⟨false,rfl,a7,b3,a6,c1,aB (fun h=>by cases h),aB (fun _=>⟨fun h=>absurd h HX.o.1,fun h=>absurd h HX.o.2.2,fun h=>absurd h HX.o.2.1⟩)⟩
 case rest =>
 obtain⟨bad,rfl,a1,a5,a3,c0,f7,f5⟩:=hcut;clear h5 h0 b4 a7 b3 a6 k5 k4 c1;obtain⟨w4,rfl⟩ : ∃x:World,x=wc:=⟨_,rfl⟩;cases bad with
 | true =>
  have d8:Hid (nb=false):=aB (f7.o rfl);go_wp2_with fail;go_ret;rw[(c7.o false).2 (by rw[d8.o];rfl)];exact⟨rfl,c0.o⟩
 | false =>
 have b9:=aB (f5.o rfl);clear f7 f5;go_upto_region 6 with fail
 have h4:=aS.cell a1.o;have g9:=aS.cell a3.o;go_cut [92] (fun bv2 wx=>∃bad,bv2=.bool bad/\Hid (aS wx w.heap.size 26 #[O X bv,Y Ao no co,Y Ae ne ce,O X bn,Y Ap np cp])/\Hid (aS wx (w.heap.size+1) 85 #[O X op,O X (e:Int),O X (q:Int),Y Ak nk ck,Y Aa na ca,Y Af nf cf])/\Hid (Below w.heap.size w wx)/\Hid (nb = !bad))
 case first =>
  have a0:=b8.o;have hkn:=k0.o;by_cases hop10:op=10;rotate_left
  · have o10:(op==10)=false:=by simpa using hop10
    have e2:Hid (nb = !false):=aB (by
     by_cases h8:op=8
     · exact d9.o h8
     by_cases h9:op=9
     · exact b9.o.1 h9
     by_cases h11:op=11
     · exact b9.o.2.1 h11
     rw[a4.o];unfold cN;simp only;rw[if_neg a0,if_neg h8,if_neg h9,if_neg h11,if_neg hop10];rfl)
    clear hop10 a0 hkn;go_wp2_with fail;go_quiet (fail)
    go_wp2_with fail;go_meet;exact⟨false,rfl,aB (a1.o.drewN _),aB (a5.o.drewN _),aB (aT c0.o _),e2⟩
  have o10:(op==10)=true:=by simpa using hop10
  have hf:=b9.o.2.2 hop10;have n1:(e:Int)<known:=by
   have i8:=hf;unfold fG at i8;rw[Bool.and_eq_true,decide_eq_true_eq] at i8;exact i8.1
  have i1:e<ne:=aA;have d3i:(e:Int)<(ne:Int):=aA;obtain⟨be,oe,j7,j4,ev,_,_,_,_,j0,_,_,l1⟩:=e0.o e i1;have i9:=l1.ctors.len;rw[show b.entries.getD e default=bK b e from by unfold bK;rw[Int.toNat_natCast]] at i9;have c8:nb=decide ((q:Int)<(ev.nc:Int)):=by
   rw[a4.o];unfold cN;simp only;rw[if_neg a0,if_neg aA,if_neg aA,if_neg aA,if_pos hop10,hf,Bool.true_and];show decide ((q:Int)<((bK b e).ctors.length:Int))=_;rw[i9]
  obtain⟨Ac,nc,cc,h7,h8,h9⟩ : ∃Ac nc cc,(ev.Ac=Ac/\ev.nc=nc/\ev.cc=cc):=⟨_,_,_,rfl,rfl,rfl⟩;rw[h7,h8,h9] at j0;rw[h8] at c8;subst j7;have n2:=(c0.o.cell (p:=⟨be,oe+e*7+4,Z⟩) j4).trans j0;obtain⟨ge,g6⟩ : ∃g,g=decide ((q:Int) ≥ (nc:Int)):=⟨_,rfl⟩;have d5:=g6.symm;have d6:decide (q ≥ nc)=ge:=by rw[g6];exact decide_eq_decide.2 aA
  have e2:Hid (nb = !ge):=aB (by
   rw[c8,g6,Bool.eq_iff_iff];simp only[Bool.not_eq_true',decide_eq_false_iff_not,decide_eq_true_eq];omega)
  clear j0 l1 i9 hf hop10 n1 h7 h8 h9 a0 hkn c8 g6;go_wp2_with fail;go_quiet (fail)
  go_wp2_with fail;go_meet;exact⟨ge,rfl,aB (a1.o.drewN _),aB (a5.o.drewN _),aB (aT c0.o _),e2⟩
 case rest =>
 obtain⟨bad,rfl,k3,j9,m1,e2⟩:=hcut;clear h4 g9 a1 a5 a3 c0 d9 b9 a4 e0 k0 b8;obtain⟨w5,rfl⟩ : ∃x:World,x=wc:=⟨_,rfl⟩;cases bad with
 | true =>
  have d8:Hid (nb=false):=aB (by rw[e2.o];rfl);go_wp2_with fail;go_ret;rw[(c7.o false).2 (by rw[d8.o];rfl)];exact⟨rfl,m1.o⟩
 | false =>
 have d8:Hid (nb=true):=aB (by rw[e2.o];rfl);go_wp2_with fail;go_loopw [10] (fun iv wr=>∃i:Nat,iv=O X (i:Int)/\i<=na/\Hid ((atoms.take i).all (fun m=>decide (m.a<=bv))=true)/\Hid (aS wr w.heap.size 26 #[O X bv,Y Ao no co,Y Ae ne ce,O X bn,Y Ap np cp])/\Hid (aS wr (w.heap.size+1) 85 #[O X op,O X (e:Int),O X (q:Int),Y Ak nk ck,Y Aa na ca,Y Af nf cf])/\Hid (Below w.heap.size w wr)) (fun i _=>na-(intOf i).toNat)
 case atStart=>exact⟨0,rfl,by omega,aB aD,k3,j9,m1⟩
 case round =>
  obtain⟨i,rfl,o5,l3,i4,i2,j3⟩:=hrel;have zb:=aS.cell i4.o;have zx:=aS.cell i2.o;by_cases hi2:i<na
  · have m9:decide ((i:Int)<(na:Int))=true:=decide_eq_true aA;obtain⟨ba,oa,rfl,n3,hm⟩:=e3.o.mem aA;obtain⟨_,g1,_⟩:=hm i (by rw[e3.o.len];exact hi2);have j5:=g7.o ba n3;have g1r:=(j3.o.cell (p:=⟨ba,oa+i*3+1,Z⟩) j5).trans g1;have h6:atoms.take (i+1)=atoms.take i++[bD atoms i]:=by rw[kQ (by rw[e3.o.len];exact hi2),List.take_add_one,List.getElem?_eq_getElem (by rw[e3.o.len];exact hi2)];rfl
    have c9:bD atoms i ∈ atoms:=by rw[kQ (by rw[e3.o.len];exact hi2)];exact List.getElem_mem _
    obtain⟨x,hx⟩ : ∃x,x=(bD atoms i).a:=⟨_,rfl⟩;rw[<-hx] at g1r;have o0:=aB (fun (k:Nat)=>i4.o.drewN k);have n4:=aB (fun (k:Nat)=>i2.o.drewN k);have l8:=aB (fun (k:Nat)=>aT j3.o k);by_cases hgt:x<=bv
    · have d5:decide (x>bv)=false:=decide_eq_false aA;have k7:Hid ((atoms.take (i+1)).all (fun m=>decide (m.a<=bv))=true):=aB (by
       rw[h6,List.all_append,l3.o];simp[<-hx,hgt])
      clear hm g1 h6 c9 hx hgt;go_wp2_with fail;go_quiet (fail)
      go_wp2_with fail;go_roundw
      case rel=>exact⟨i+1,by go_num,by omega,k7,aB (o0.o _),aB (n4.o _),aB (l8.o _)⟩
      case measure=>simp[intOf];omega
    have d5:decide (x>bv)=true:=decide_eq_true aA;have k7:Hid (atoms.all (fun m=>decide (m.a<=bv))=false):=aB (by
     rw[List.all_eq_false];exact⟨_,c9,by simp[<-hx];omega⟩)
    clear hm g1 h6 c9 hx hgt;go_wp2_with fail;go_quiet (fail)
    go_wp2_with fail;go_ret;rw[(c7.o false).2 (by rw[k7.o];simp)];exact⟨rfl,l8.o _⟩
  have m9:decide ((i:Int)<(na:Int))=false:=decide_eq_false aA;have o3:Hid (atoms.all (fun m=>decide (m.a<=bv))=true):=aB (by
   have:=l3.o
   rwa [List.take_of_length_le (by rw[e3.o.len];omega)] at this)
  obtain⟨wo,rfl⟩ : ∃wo:World,wo=wr:=⟨_,rfl⟩;go_wp2_with fail;go_loopw [11] (fun iv wr=>∃(F1 F2:Fo) (j:Nat),kids=F1.app F2/\bF F1=j/\iv=O X (j:Int)/\Hid (vX b known self F1=true)/\Hid (aS wr w.heap.size 26 #[O X bv,Y Ao no co,Y Ae ne ce,O X bn,Y Ap np cp])/\Hid (aS wr (w.heap.size+1) 85 #[O X op,O X (e:Int),O X (q:Int),Y Ak nk ck,Y Aa na ca,Y Af nf cf])/\Hid (Below w.heap.size w wr)) (fun i _=>nk-(intOf i).toNat)
  case atStart=>exact⟨.nil,kids,0,rfl,rfl,rfl,aB rfl,i4,i2,j3⟩
  case round =>
   obtain⟨F1,F2,j,a8,hj,rfl,i0,f2,f0,f4⟩:=hrel;clear zb zx;have zb:=aS.cell f2.o;have zx:=aS.cell f0.o;cases F2 with
   | nil =>
    have i6:j=nk:=by rw[<-k1.o.len,a8,bV,hj];rfl
    have i7:decide (j<nk)=false:=decide_eq_false aA;have HF:Hid (vX b known self kids=true):=aB (by rw[a8,sX,i0.o];rfl);clear a8 hj i6;go_wp2_with fail;go_ret;rw[(c7.o true).2 (by rw[d8.o,o3.o,HF.o];rfl)];exact⟨rfl,f4.o⟩
   | cons pre nd ats ks F2 =>
    have i6:j<nk:=by rw[<-k1.o.len,a8,bV,hj];simp[bF]
    have i7:decide (j<nk)=true:=decide_eq_true i6;have k9:dM R w Ak nk ck (F1.app (.cons pre nd ats ks F2)):=by rw[<-a8];exact k1.o
    obtain⟨bk,ok,sk',sa',sf',rfl,m5,c2,g0,g1,g2,g3,g4,g5⟩:=k9.at_;rw[hj] at g0 g1 g2 g3 g4 g5;obtain⟨_,e9,c6,_⟩:=(dC.app F1 _).1 (a8 ▸ k6.o);have d7:bk<w.heap.size:=g7.o bk m5;have f3:aX ks<m:=by
     have:=n9.o;rw[a8,dO] at this;simp only[aX] at this;omega
    have b5:=aB (aT f4.o 1);have l6:=aB (f2.o.drewN 1);have l4:=aB (f0.o.drewN 1);have e4:=aS.cell l6.o;have m2:=aS.cell l4.o;have gd0:=(b5.o.cell (p:=⟨bk,ok+j*6,Z⟩) d7).trans g0;have gd1:=(b5.o.cell (p:=⟨bk,ok+j*6+1,Z⟩) d7).trans g1;have gd2:=(b5.o.cell (p:=⟨bk,ok+j*6+2,Z⟩) d7).trans g2;have gd3:=(b5.o.cell (p:=⟨bk,ok+j*6+3,Z⟩) d7).trans g3;have gd4:=(b5.o.cell (p:=⟨bk,ok+j*6+4,Z⟩) d7).trans g4;have gd5:=(b5.o.cell (p:=⟨bk,ok+j*6+5,Z⟩) d7).trans g5;have b0:=Nat.lt_of_lt_of_le d7 b5.o.size;have HC:=aB (HI.o _ R [O X nd.op,O X nd.a,O X nd.b,sk',sa',sf'] nd ats ks (l9.o _ b5.o) (fun b' hb'=>Nat.lt_of_lt_of_le (g7.o b' hb') b5.o.size) (c2.keep fun b' hb'=>⟨hb',fun o=>b5.o.cell (p:=⟨b',o,Z⟩) (g7.o b' hb')⟩) e9 c6 f3);have e7:vX b known self (F1.app (.cons pre nd ats ks .nil))=NU b known self nd ats ks:=by
     rw[sX,i0.o,uY,Bool.true_and];simp[vX]
    have e6:vX b known self kids=(NU b known self nd ats ks&&vX b known self F2):=by
     rw[a8,sX,i0.o,uY,Bool.true_and]
    have f1:kids=(F1.app (.cons pre nd ats ks .nil)).app F2:=by rw[a8,dG];rfl
    have l0:bF (F1.app (.cons pre nd ats ks .nil))=j+1:=by rw[bV];simp[bF,hj]
    have o1:=aB f1;have o2:=aB l0;generalize NU b known self nd ats ks=ty at *;clear a8 hj k9 c2 g0 g1 g2 g3 g4 g5 e9 c6 f3 f1 l0;have n8:=aB e7;have n7:=aB e6;clear e7 e6;go_wp2_with fail;refine wp_region_held_drew (S:=(fun w'=>w'.cell? ⟨w.heap.size,0,Z⟩=some (O X bv)/\w'.cell? ⟨w.heap.size,1,Z⟩=some (Y Ao no co)/\w'.cell? ⟨w.heap.size,2,Z⟩=some (Y Ae ne ce)/\w'.cell? ⟨w.heap.size,3,Z⟩=some (O X bn)/\w'.cell? ⟨w.heap.size,4,Z⟩=some (Y Ap np cp)/\w'.cell? ⟨w.heap.size+1,3,Z⟩=some (Y (some ⟨bk,ok,Z⟩) nk ck)/\w'.cell? ⟨bk,ok+j*6,Z⟩=some (O X nd.op)/\w'.cell? ⟨bk,ok+j*6+1,Z⟩=some (O X nd.a)/\w'.cell? ⟨bk,ok+j*6+2,Z⟩=some (O X nd.b)/\w'.cell? ⟨bk,ok+j*6+3,Z⟩=some sk'/\w'.cell? ⟨bk,ok+j*6+4,Z⟩=some sa'/\w'.cell? ⟨bk,ok+j*6+5,Z⟩=some sf')) aC ?_ (fun hZ => ?_)
    · (try dsimp only);exact⟨e4 0,e4 1,e4 2,e4 3,e4 4,m2 3,gd0,gd1,gd2,gd3,gd4,gd5⟩
    refine aL 0 hZ ?_;refine aL 1 hZ ?_;refine aL 2 hZ ?_;refine aL 3 hZ ?_;refine aL 4 hZ ?_;refine aL 5 hZ ?_;refine aL 6 hZ ?_;refine aL 7 hZ ?_;refine r1 8 fun K hK => ?_;go_simp;go_at_call 57
    refine HC.o.mono ?_;rintro e' w7 ⟨rfl,b6⟩;have m0:=bZ b5 b6;have l7:=jL l6 b6;have l5:=jL l4 b6;have e5:=aS.cell l7.o;have m3:=aS.cell l5.o;have g70:=(b6.cell (p:=⟨bk,ok+j*6,Z⟩) b0).trans gd0;have g71:=(b6.cell (p:=⟨bk,ok+j*6+1,Z⟩) b0).trans gd1;have g72:=(b6.cell (p:=⟨bk,ok+j*6+2,Z⟩) b0).trans gd2;have g73:=(b6.cell (p:=⟨bk,ok+j*6+3,Z⟩) b0).trans gd3;have g74:=(b6.cell (p:=⟨bk,ok+j*6+4,Z⟩) b0).trans gd4;have g75:=(b6.cell (p:=⟨bk,ok+j*6+5,Z⟩) b0).trans gd5;clear b6;go_wp2_with fail;refine hK.o _ _ (by exact⟨e5 0,e5 1,e5 2,e5 3,e5 4,m3 3,g70,g71,g72,g73,g74,g75⟩) fun hZ => ?_;clear hK K;try simp only[p7]
    refine aL 9 hZ ?_;refine wpAnyH_done aC ?_ _;cases ty with
    | true =>
     have HN:=n8;go_wp2_with fail;go_roundw
     case rel=>exact⟨_,F2,j+1,o1.o,o2.o,by go_num,HN,l7,l5,m0⟩
     case measure=>simp[intOf];omega
    | false =>
     have HN:Hid (vX b known self kids=false):=aB (by rw[n7.o];rfl);go_wp2_with fail;go_ret;rw[(c7.o false).2 (by rw[HN.o];simp)];exact⟨rfl,m0.o⟩
theorem x8 {b:Bk} {v:bO} (known self:Int) (hkn:known<=b.entries.length) : ∀(m:Nat),m<=1000000000000000->∀(w:World) (R:Nat->Prop) (xs:List Value) (n:Nd) (atoms:List Nd) (kids:Fo),bX w v b->(∀b,R b->b<w.heap.size)->cR R w xs n atoms kids->eN n=true->dC kids->aX kids<m →
      Calls Tryz.prog 57 #[.agg #[O X b.vars,Y v.Ao v.no v.co,Y v.Ae v.ne v.ce,O X b.nat,Y v.Ap v.np v.cp],O X known,O X self,.agg xs.toArray] w (gC (NU b known self n atoms kids) w)
 | 0,_,_,_,_,_,_,_,_,_,_,_,_,h=>absurd h aA
 | m+1,hm,w,R,xs,n,atoms,kids,h1,h2,h3,h4,h5,h6=>FY known self hkn m aA (x8 known self hkn m aA) w R xs n atoms kids h1 h2 h3 h4 h5 aA
end Go.Proofs.YtjoddliplahgkaaGreat
