/- Merged: There, RefRow. -/
import Derived.Test.YtjoddliplahgkaaGreatTRefTerm
namespace Go.Proofs.YtjoddliplahgkaaGreat
set_option linter.unusedVariables false
set_option linter.unusedSimpArgs false
open Go.RowKit
open Go.Value renaming int → O, slice → Y
open Go.IntKind renaming i64 → X
open Option renaming none → Z, some → J
open Go.Obj renaming cells → I
variable {b:Bk}{known self:Int}{v:bR}
section
open Go.Lib renaming hid->aB
set_option maxHeartbeats 8000000
set_option maxRecDepth 100000
theorem pT{w:aAB}(U:cE w v b)(e known:Int)(hk:known<=b.entries.length):
 Calls Tryz.prog 54 #[.agg #[O X b.vars,Y v.Ao v.no v.co,Y v.Ae v.ne v.ce,O X b.nat,Y v.Ap v.np v.cp],O X e,O X known] w (gT (decide (0<=e)&&fQ b known e) w):=by
 have h:=aB (aQ w (I #[O X b.vars,Y v.Ao v.no v.co,Y v.Ae v.ne v.ce,O X b.nat,Y v.Ap v.np v.cp] 26));have D:=U.entries.len;by_cases F:0<=e;case neg =>
  have d0:decide (e ≥ 0)=false:=XQ F;have G:Hid ((decide (0<=e)&&fQ b known e)=false):=aB (by rw[XQ F];rfl);generalize (decide (0<=e)&&fQ b known e)=res at *;generalize b.vars=bv at *;generalize b.nat=bn at *;clear U hk D F;go_in;go_wp2_with fail;go_ret;rw[G.o];exact⟨rfl,h.o⟩
 have d0:decide (e ≥ 0)=true:=XR F;by_cases s:e<known;case neg =>
  have z:decide (e<known)=false:=XQ s;have G:Hid ((decide (0<=e)&&fQ b known e)=false):=aB (by unfold fQ;rw[z];simp);generalize (decide (0<=e)&&fQ b known e)=res at *;generalize b.vars=bv at *;generalize b.nat=bn at *;clear U hk D F s;go_in;go_wp2_with fail;go_ret;rw[G.o];exact⟨rfl,h.o⟩
 have z:decide (e<known)=true:=XR s;obtain⟨q,rfl⟩:∃q:Nat,e=q:=⟨e.toNat,by omega⟩;obtain⟨be,oe,hA,a1,ev,a0,_⟩:=U.entries.at_ (k:=q) aA;have G:Hid ((decide (0<=(q:Int))&&fQ b known q)=((bP b q).kind==1)):=aB (by unfold fQ;rw[z,XR F,YZ,YZ]);rw[show b.entries.getD q default=bP b q from by unfold bP;rw[YG]]at a0;obtain⟨Ao,no,co,Ae,ne,ce,Ap,np,cp⟩:=v;simp only at hA D h ⊢;subst hA;have a2:q<ne:=aA;generalize (bP b q).kind=kd at *;generalize (decide (0<=(q:Int))&&fQ b known q)=res at *;generalize b.vars=bv at *;generalize b.nat=bn at *;clear U hk D F s;go_in;go_wp2_with fail;go_ret;rw[G.o];exact⟨rfl,h.o⟩
def y7(b:Bk)(known self:Int):Fo->Bool
 | .nil=>true
 | .cons _ n a k x=>(cP b known self n&&(a.all (fun m=>decide (m.a<=b.vars))&&y7 b known self k))&&y7 b known self x
def Q7(b:Bk)(known self:Int)(n:Nd)(a:List Nd)(k:Fo):Bool:=cP b known self n&&(a.all (fun m=>decide (m.a<=b.vars))&&y7 b known self k)
theorem vE(b:Bk)(known self:Int):∀(F G:Fo),y7 b known self (F.app G)=(y7 b known self F&&y7 b known self G)
 | .nil,G=>by simp[Fo.app,y7]
 | .cons p n a k x,G=>by simp only[Fo.app,y7,vE b known self x G,Bool.and_assoc]
theorem x7(b:Bk)(known self:Int)(p:List Nd)(n:Nd)(a:List Nd)(k x:Fo):y7 b known self (.cons p n a k x)=(Q7 b known self n a k&&y7 b known self x):=rfl
theorem JU(known self:Int)(a8:known<=b.entries.length)(m:Nat)(n6:m<=1000000000000000)
 (ih:∀(w:aAB)(R:Nat->Prop)(xs:List Value)(n:Nd)(atoms:List Nd)(kids:Fo),cE w v b->(∀b,R b->b<w.heap.size)->cJ R w xs n atoms kids->eW n=true->dI kids->aY kids<m →
  Calls Tryz.prog 57 #[.agg #[O X b.vars,Y v.Ao v.no v.co,Y v.Ae v.ne v.ce,O X b.nat,Y v.Ap v.np v.cp],O X known,O X self,.agg xs.toArray] w (gT (Q7 b known self n atoms kids) w))
 (w:aAB) (R:Nat->Prop) (xs:List Value) (n:Nd) (atoms:List Nd) (kids:Fo) (hb:cE w v b) (hR:∀b,R b->b<w.heap.size) (ht:cJ R w xs n atoms kids) (e6:eW n=true) (f9:dI kids) (k0:aY kids<=m) :
 Calls Tryz.prog 57 #[.agg #[O X b.vars,Y v.Ao v.no v.co,Y v.Ae v.ne v.ce,O X b.nat,Y v.Ap v.np v.cp],O X known,O X self,.agg xs.toArray] w (gT (Q7 b known self n atoms kids) w):=by
 have HI:=aB ih;clear ih;obtain⟨sk,sa,sf,rfl,⟨Ak,nk,ck,rfl,j7⟩,⟨Aa,na,ca,rfl,i6⟩,⟨Af,nf,cf,rfl,q4⟩⟩:=ht;have f6:cD n.op n.a n.b=true:=by simp only[eW,YC]at e6;exact e6.1.1
 obtain⟨n7,_⟩:=fZ f6;obtain⟨c8,_⟩:=iF f6;have D:n.op≠3:=by simp only[eW,YC,YJ]at e6;exact e6.1.2
 have e1:=hb.entries.len;have l1:=aB (fun (w':aAB) (h:ZY w w')=>hb.below h);have b5:=aB (fun (w':aAB) (h:ZY w w') (e:Int)=>pT (hb.below h) e known a8);have e0:=fun (k:Nat) (hk:k<v.ne)=>hb.entries.at_ hk;have i3:=aB j7;have c6:=aB i6;have f2:=aB hR;have k8:=aB f9;have o6:=aB k0;have q6:nk<=1000000000000000/\na<=1000000000000000/\True:=⟨by have h1:=eP kids;have h2:=j7.len;exact YE (by rw[<-h2];exact h1) (YE k0 n6),by have:=i6.few;omega,trivial⟩;obtain⟨r4,r3,_⟩:=q6;obtain⟨op,a,q⟩:=n;simp only at f6 n7 c8 D;obtain⟨e,rfl⟩:∃e:Nat,a=e:=⟨a.toNat,by omega⟩;obtain⟨q,rfl⟩:∃q':Nat,q=q':=⟨q.toNat,by omega⟩;clear f6 n7 c8 e6 f9 j7 i6 q4 hR k0;have b7:Hid (∀s,Q7 b known self ⟨op,e,q⟩ atoms kids=s ↔ (cP b known self ⟨op,e,q⟩&&(atoms.all (fun m=>decide (m.a<=b.vars))&&y7 b known self kids))=s):=aB (fun s=>Iff.rfl);obtain⟨bvar,d9⟩:=aAJ b.vars;obtain⟨bn,m9⟩:=aAJ b.nat;rw[<-d9]at HI b5 b7 ⊢;rw[<-m9]at HI b5 ⊢;clear m9 d9;generalize hbv2:bvar=bv at *;clear hbv2 bvar;obtain⟨nb,c8⟩:=aAJ (cP b known self ⟨op,e,q⟩);rw[<-c8]at b7;obtain⟨Ao,no,co,Ae,ne,ce,Ap,np,cp⟩:=v;simp only at HI b5 l1 e1 e0 ⊢;rw[e1]at a8;clear hb;have i1:=aB (aQ w (I #[O X bv,Y Ao no co,Y Ae ne ce,O X bn,Y Ap np cp] 26));have i2:=aB (i1.o.alloc i1.o.size (I #[O X op,O X (e:Int),O X (q:Int),Y Ak nk ck,Y Aa na ca,Y Af nf cf] 85));have b2:=aB (i2.o.alloc i2.o.size (I #[O X op,O X (e:Int),O X (q:Int)] 46));have a3:Hid (aT (((w.alloc (I #[O X bv,Y Ao no co,Y Ae ne ce,O X bn,Y Ap np cp] 26)).alloc (I #[O X op,O X (e:Int),O X (q:Int),Y Ak nk ck,Y Aa na ca,Y Af nf cf] 85)).alloc (I #[O X op,O X (e:Int),O X (q:Int)] 46)) w.heap.size 26 #[O X bv,Y Ao no co,Y Ae ne ce,O X bn,Y Ap np cp]):=aB (((aT.new _ _ _).alloc _).alloc _);have b6:Hid (aT (((w.alloc (I #[O X bv,Y Ao no co,Y Ae ne ce,O X bn,Y Ap np cp] 26)).alloc (I #[O X op,O X (e:Int),O X (q:Int),Y Ak nk ck,Y Aa na ca,Y Af nf cf] 85)).alloc (I #[O X op,O X (e:Int),O X (q:Int)] 46)) (w.heap.size+1) 85 #[O X op,O X (e:Int),O X (q:Int),Y Ak nk ck,Y Aa na ca,Y Af nf cf]):=aB ((aT.new' aD).alloc _);have a4:Hid (aT (((w.alloc (I #[O X bv,Y Ao no co,Y Ae ne ce,O X bn,Y Ap np cp] 26)).alloc (I #[O X op,O X (e:Int),O X (q:Int),Y Ak nk ck,Y Aa na ca,Y Af nf cf] 85)).alloc (I #[O X op,O X (e:Int),O X (q:Int)] 46)) (w.heap.size+1+1) 46 #[O X op,O X (e:Int),O X (q:Int)]):=aB (aT.new' aD);have a6:=aB c8;have c9:=aB e0;have i4:=aB a8;have c4:=aB D;clear c8 e0 a8 D e1;go_in;go_upto_region 2 with fail
 have k4:=aT.cell a3.o;have k6:=aT.cell a4.o;go_cut [41] (fun d7 wx=>∃bad,d7=.bool bad/\wx=(((w.alloc (I #[O X bv,Y Ao no co,Y Ae ne ce,O X bn,Y Ap np cp] 26)).alloc (I #[O X op,O X (e:Int),O X (q:Int),Y Ak nk ck,Y Aa na ca,Y Af nf cf] 85)).alloc (I #[O X op,O X (e:Int),O X (q:Int)] 46))/\Hid (bad=true->nb=false)/\Hid (bad=false->op=8->nb=true))
 case first =>
  have D:=c4.o;have a8:=i4.o;by_cases c3:op=8;case neg =>
   have o8:(op==8)=false:=by simpa using c3
   have p1:Hid (op≠8):=aB c3;clear c3 D a8;go_wp2_with fail;go_meet;exact⟨false,rfl,rfl,aB (fun h=>by cases h),aB (fun _ h=>absurd h p1.o)⟩
  have o8:(op==8)=true:=by simpa using c3
  have b1:nb=(decide ((e:Int)<known)&&(bP b e).kind==2):=by rw[a6.o];unfold cP;simp only;rw[XN D,XP c3]
  by_cases h1:(e:Int)<known;case neg =>
   have d1:decide ((e:Int)<known)=false:=XQ h1;have c0:Hid (nb=false):=aB (by rw[b1,d1];rfl);clear c3 D a8 b1 h1;go_wp2_with fail;go_meet;exact⟨true,rfl,rfl,aB (fun _=>c0.o),aB (fun h=>by cases h)⟩
  have d1:decide ((e:Int)<known)=true:=XR h1;have r7:e<ne:=aA;obtain⟨be,oe,i5,i7,ev,i9,_⟩:=c9.o e aA;rw[show b.entries.getD e default=bP b e from by unfold bP;rw[YG]]at i9;subst i5;have n0:=(b2.o.cell (p:=⟨be,oe+e*7,Z⟩) i7).trans i9;obtain⟨kd,z⟩:=aAJ (bP b e).kind;rw[<-z,d1,YZ]at b1;rw[<-z]at n0;obtain⟨k2,j5⟩:=aAJ (kd==2);have d4:=j5.symm;rw[<-j5]at b1;have c0:=aB b1;clear c3 D a8 b1 h1 i9 z j5;cases k2 with
  | true =>
   go_wp2_with fail;go_meet;exact⟨false,rfl,rfl,aB (fun h=>by cases h),aB (fun _ _=>c0.o)⟩
  | false =>
   go_wp2_with fail;go_meet;exact⟨true,rfl,rfl,aB (fun _=>c0.o),aB (fun h=>by cases h)⟩
 case rest =>
 obtain⟨bad,rfl,q8,d2,d3⟩:=hcut;subst q8;clear k4 k6;cases bad with
 | true =>
  have c1:Hid (nb=false):=aB (d2.o rfl);go_wp2_with fail;go_ret;rw[(b7.o false).2 (by rw[c1.o];rfl)];exact⟨rfl,b2.o⟩
 | false =>
 have c0:=aB (d3.o rfl);clear d2 d3;go_upto_region 4 with fail
 have k4:=aT.cell a3.o;have k6:=aT.cell a4.o;go_cut [76] (fun d7 wx=>∃bad,d7=.bool bad/\Hid (aT wx w.heap.size 26 #[O X bv,Y Ao no co,Y Ae ne ce,O X bn,Y Ap np cp])/\Hid (aT wx (w.heap.size+1) 85 #[O X op,O X (e:Int),O X (q:Int),Y Ak nk ck,Y Aa na ca,Y Af nf cf])/\Hid (aT wx (w.heap.size+1+1) 46 #[O X op,O X (e:Int),O X (q:Int)])/\Hid (ZY w wx)/\Hid (bad=true->nb=false)/\Hid (bad=false->(op=9->nb=true)/\(op=11->nb=true)/\(op=10->fQ b known e=true)))
 case first =>
  have D:=c4.o;have d0:decide (0<=(e:Int))=true:=XR aA;have a1:=fun (w':aAB) h=>b5.o w' h (e:Int);rw[d0,YZ]at a1;obtain⟨fq,hf⟩:=aAJ (fQ b known e);rw[<-hf]at a1;have f7:=aB a1;clear d0 a1;have f1:=f7;by_cases F:op=9
  . have e8:(op==10)=false:=by simp;omega
    have n8:(op==11)=false:=by simp;omega
    have o9:(op==9)=true:=by simpa using F
    have b9:nb=((e:Int)==self||fq):=by rw[a6.o];unfold cP;simp only;rw[XN D,XN aA,XP F,hf]
    by_cases h1:(e:Int)=self
    . have d1:((e:Int) != self)=false:=by simpa using h1
      have b4:Hid (nb=true):=aB (by rw[b9,beq_iff_eq.2 h1];rfl);have HX:Hid (op=9):=aB F;clear F h1 D b9 hf;go_wp2_with fail;go_meet;exact⟨false,rfl,a3,b6,a4,b2,aB (fun h=>by cases h),aB (fun _=>⟨fun _=>b4.o,fun h=>by have:=HX.o;omega,fun h=>by have:=HX.o;omega⟩)⟩
    have d1:((e:Int) != self)=true:=by simpa using h1
    rw[beq_false_of_ne h1,ZP]at b9;have b4:=aB b9;have HX:Hid (op=9):=aB F;clear F h1 D b9 hf;go_wp2_with fail;refine (f1.o _ b2.o).mono ?_;rintro e' w2 ⟨rfl,a7⟩;have b3:=bY b2 a7;have G:=j8 a3 a7;have a5:=j8 b6 a7;have a0:=j8 a4 a7;have k5:=aT.cell G.o;have k7:=aT.cell a0.o;clear a7;go_wp2_with fail;go_meet;exact⟨!fq,rfl,G,a5,a0,b3,aB (fun h=>by rw[b4.o];simpa using h),aB (fun h=>⟨fun _=>by rw[b4.o];simpa using h,fun h=>by have:=HX.o;omega,fun h=>by have:=HX.o;omega⟩)⟩
  by_cases c5:op=10\/op=11
  . have e4:op=11->nb=fq:=fun h=>by rw[a6.o];unfold cP;simp only;rw[XN D,XN aA,XN F,XP h,hf]
    have e3:op=10->fq=false->nb=false:=fun h h2=>by rw[a6.o];unfold cP;simp only;rw[XN D,XN aA,XN F,XN aA,XP h,<-hf,h2];rfl
    obtain⟨l7,f8,HX,p2,HF⟩:=aAD e3 e4 c5 F hf;have o9:(op==9)=false:=by simpa using F
    have hc:(op==10)=true\/((op==10)=false/\(op==11)=true):=by
     rcases c5 with h|h
     . exact .inl (by simpa using h)
     exact .inr ⟨by simp;omega,by simpa using h⟩
    clear F c5 D e3 e4 hf f1;have a1:=f7.o;rcases hc with e8|⟨e8,n8⟩<;>rcases Bool.eq_false_or_eq_true fq with hq|hq;all_goals
     rw[hq]at a1;have f1:=aB a1;have HQ:=aB hq;clear a1 hq;go_wp2_with fail;refine (f1.o _ b2.o).mono ?_;rintro e' w2 ⟨rfl,a7⟩;have b3:=bY b2 a7;have G:=j8 a3 a7;have a5:=j8 b6 a7;have a0:=j8 a4 a7;have k5:=aT.cell G.o;have k7:=aT.cell a0.o;clear a7;go_wp2_with fail;go_meet;exact⟨_,rfl,G,a5,a0,b3,aB (fun h=>by
      first
      | exact absurd h aE
      | exact HX.o.elim (fun h3=>l7.o h3 HQ.o) (fun h3=>by rw[f8.o h3,HQ.o])),aB (fun h=>by
      first
      | exact absurd h aE
      | exact⟨fun h3=>absurd h3 p2.o,fun h3=>by rw[f8.o h3,HQ.o],fun _=>by rw[<-HF.o,HQ.o]⟩)⟩
  have o9:(op==9)=false:=by simpa using F
  have e8:(op==10)=false:=by simp;omega
  have n8:(op==11)=false:=by simp;omega
  have HX:Hid (op≠9/\op≠10/\op≠11):=aB aA;clear F c5 D hf;go_wp2_with fail;go_meet;exact⟨false,rfl,a3,b6,a4,b2,aB (fun h=>by cases h),aB (fun _=>⟨fun h=>absurd h HX.o.1,fun h=>absurd h HX.o.2.2,fun h=>absurd h HX.o.2.1⟩)⟩
 case rest =>
 obtain⟨bad,rfl,G,a5,a0,b3,d2,d3⟩:=hcut;clear k4 k6 b5 a3 b6 a4 i1 i2 b2;obtain⟨w4,rfl⟩:=aAJ wc;cases bad with
 | true =>
  have c1:Hid (nb=false):=aB (d2.o rfl);go_wp2_with fail;go_ret;rw[(b7.o false).2 (by rw[c1.o];rfl)];exact⟨rfl,b3.o⟩
 | false =>
 have b4:=aB (d3.o rfl);clear d2 d3;go_upto_region 6 with fail
 have k5:=aT.cell G.o;have k7:=aT.cell a0.o;go_cut [92] (fun d7 wx=>∃bad,d7=.bool bad/\Hid (aT wx w.heap.size 26 #[O X bv,Y Ao no co,Y Ae ne ce,O X bn,Y Ap np cp])/\Hid (aT wx (w.heap.size+1) 85 #[O X op,O X (e:Int),O X (q:Int),Y Ak nk ck,Y Aa na ca,Y Af nf cf])/\Hid (ZY w wx)/\Hid (nb = !bad))
 case first =>
  have D:=c4.o;have a8:=i4.o;by_cases U:op=10;rotate_left
  . have e8:(op==10)=false:=by simpa using U
    have c7:Hid (nb = !false):=aB (by
     by_cases h8:op=8
     . exact c0.o h8
     by_cases h9:op=9
     . exact b4.o.1 h9
     by_cases m6:op=11
     . exact b4.o.2.1 m6
     rw[a6.o];unfold cP;simp only;rw[XN D,XN h8,XN h9,XN m6,XN U];rfl)
    clear U D a8;go_wp2_with fail;go_quiet (fail)
    go_wp2_with fail;go_meet;exact⟨false,rfl,aB (G.o.drewN _),aB (a5.o.drewN _),aB (aU b3.o _),c7⟩
  have e8:(op==10)=true:=by simpa using U
  have hf:=b4.o.2.2 U;have q3:(e:Int)<known:=by
   have j2:=hf;unfold fQ at j2;rw[YC,YJ]at j2;exact j2.1
  have n5:e<ne:=aA;have r5:(e:Int)<(ne:Int):=aA;obtain⟨be,oe,i5,i7,ev,_,_,_,_,j0,_,_,n1⟩:=c9.o e n5;have j1:=n1.ctors.len;rw[show b.entries.getD e default=bP b e from by unfold bP;rw[YG]]at j1;have e5:nb=decide ((q:Int)<(ev.nc:Int)):=by
   rw[a6.o];unfold cP;simp only;rw[XN D,XN aA,XN aA,XN aA,XP U,hf,YZ];show decide ((q:Int)<((bP b e).ctors.length:Int))=_;rw[j1]
  obtain⟨Ac,nc,cc,h7,h8,h9⟩:∃Ac nc cc,(ev.Ac=Ac/\ev.nc=nc/\ev.cc=cc):=⟨_,_,_,rfl,rfl,rfl⟩;rw[h7,h8,h9]at j0;rw[h8]at e5;subst i5;have r2:=(b3.o.cell (p:=⟨be,oe+e*7+4,Z⟩) i7).trans j0;obtain⟨ge,f4⟩:=aAJ (decide ((q:Int) ≥ (nc:Int)));have d5:=f4.symm;have d6:decide (q ≥ nc)=ge:=by rw[f4];exact decide_eq_decide.2 aA
  have c7:Hid (nb = !ge):=aB (by
   rw[e5,f4,YK];simp only[Bool.not_eq_true',YM,YJ];omega)
  clear j0 n1 j1 hf U q3 h7 h8 h9 D a8 e5 f4;go_wp2_with fail;go_quiet (fail)
  go_wp2_with fail;go_meet;exact⟨ge,rfl,aB (G.o.drewN _),aB (a5.o.drewN _),aB (aU b3.o _),c7⟩
 case rest =>
 obtain⟨bad,rfl,l4,l5,k9,c7⟩:=hcut;clear k5 k7 G a5 a0 b3 c0 b4 a6 c9 i4 c4;obtain⟨w5,rfl⟩:=aAJ wc;cases bad with
 | true =>
  have c1:Hid (nb=false):=aB (by rw[c7.o];rfl);go_wp2_with fail;go_ret;rw[(b7.o false).2 (by rw[c1.o];rfl)];exact⟨rfl,k9.o⟩
 | false =>
 have c1:Hid (nb=true):=aB (by rw[c7.o];rfl);go_wp2_with fail;go_loopw [10] (fun iv wr=>∃i:Nat,iv=O X (i:Int)/\i<=na/\Hid ((atoms.take i).all (fun m=>decide (m.a<=bv))=true)/\Hid (aT wr w.heap.size 26 #[O X bv,Y Ao no co,Y Ae ne ce,O X bn,Y Ap np cp])/\Hid (aT wr (w.heap.size+1) 85 #[O X op,O X (e:Int),O X (q:Int),Y Ak nk ck,Y Aa na ca,Y Af nf cf])/\Hid (ZY w wr)) (fun i _=>na-(intOf i).toNat)
 case atStart=>exact⟨0,rfl,by omega,aB aD,l4,l5,k9⟩
 case round =>
  obtain⟨i,rfl,r6,m7,j6,j9,i8⟩:=hrel;have zb:=aT.cell j6.o;have zx:=aT.cell j9.o;by_cases f5:i<na
  . have q5:decide ((i:Int)<(na:Int))=true:=XR aA;obtain⟨ba,oa,rfl,q2,hm⟩:=c6.o.mem aA;obtain⟨_,g1,_⟩:=hm i (by rw[c6.o.len];exact f5);have m8:=f2.o ba q2;have p4:=(i8.o.cell (p:=⟨ba,oa+i*3+1,Z⟩) m8).trans g1;have k3:atoms.take (i+1)=atoms.take i++[bC atoms i]:=by rw[lR (by rw[c6.o.len];exact f5),List.take_add_one,YB (by rw[c6.o.len];exact f5)];rfl
    have e2:bC atoms i∈atoms:=by rw[lR (by rw[c6.o.len];exact f5)];exact ZQ _
    obtain⟨x,hx⟩:=aAJ (bC atoms i).a;rw[<-hx]at p4;obtain⟨o5,p3,l2⟩:=aAF (fun (k:Nat)=>j6.o.drewN k) (fun (k:Nat)=>j9.o.drewN k) (fun (k:Nat)=>aU i8.o k);by_cases j3:x<=bv
    . have d5:decide (x>bv)=false:=XQ aA;have i0:Hid ((atoms.take (i+1)).all (fun m=>decide (m.a<=bv))=true):=aB (by
       rw[k3,List.all_append,m7.o];simp[<-hx,j3])
      clear hm g1 k3 e2 hx j3;go_wp2_with fail;go_quiet (fail)
      go_wp2_with fail;go_roundw
      case rel=>exact⟨i+1,by go_num,by omega,i0,aB (o5.o _),aB (p3.o _),aB (l2.o _)⟩
      case measure=>simp[intOf];omega
    have d5:decide (x>bv)=true:=XR aA;have i0:Hid (atoms.all (fun m=>decide (m.a<=bv))=false):=aB (by
     rw[List.all_eq_false];exact⟨_,e2,by simp[<-hx];omega⟩)
    clear hm g1 k3 e2 hx j3;go_wp2_with fail;go_quiet (fail)
    go_wp2_with fail;go_ret;rw[(b7.o false).2 (by rw[i0.o];simp)];exact⟨rfl,l2.o _⟩
  have q5:decide ((i:Int)<(na:Int))=false:=XQ aA;have o2:Hid (atoms.all (fun m=>decide (m.a<=bv))=true):=aB (by
   have:=m7.o
   rwa [ZN (by rw[c6.o.len];omega)]at this)
  obtain⟨wo,rfl⟩:=aAJ wr;go_wp2_with fail;go_loopw [11] (fun iv wr=>∃(F1 F2:Fo)(j:Nat),kids=F1.app F2/\bE F1=j/\iv=O X (j:Int)/\Hid (y7 b known self F1=true)/\Hid (aT wr w.heap.size 26 #[O X bv,Y Ao no co,Y Ae ne ce,O X bn,Y Ap np cp])/\Hid (aT wr (w.heap.size+1) 85 #[O X op,O X (e:Int),O X (q:Int),Y Ak nk ck,Y Aa na ca,Y Af nf cf])/\Hid (ZY w wr)) (fun i _=>nk-(intOf i).toNat)
  case atStart=>exact⟨.nil,kids,0,rfl,rfl,rfl,aB rfl,j6,j9,i8⟩
  case round =>
   obtain⟨F1,F2,j,z,hj,rfl,k1,g8,h0,g6⟩:=hrel;clear zb zx;have zb:=aT.cell g8.o;have zx:=aT.cell h0.o;cases F2 with
   | nil =>
    have j4:j=nk:=by rw[<-i3.o.len,z,bN,hj];rfl
    have n2:decide (j<nk)=false:=XQ aA;have HF:Hid (y7 b known self kids=true):=aB (by rw[z,vE,k1.o];rfl);clear z hj j4;go_wp2_with fail;go_ret;rw[(b7.o true).2 (by rw[c1.o,o2.o,HF.o];rfl)];exact⟨rfl,g6.o⟩
   | cons pre nd b8 ks F2 =>
    have j4:j<nk:=by rw[<-i3.o.len,z,bN,hj];simp[bE]
    have n2:decide (j<nk)=true:=XR j4;have n4:eX R w Ak nk ck (F1.app (.cons pre nd b8 ks F2)):=by rw[<-z];exact i3.o
    obtain⟨bk,ok,o1,n9,o0,rfl,q7,e7,g0,g1,g2,g3,g4,g5⟩:=n4.at_;rw[hj]at g0 g1 g2 g3 g4 g5;obtain⟨_,h4,d8,_⟩:=(dI.app F1 _).1 (z ▸ k8.o);have c2:bk<w.heap.size:=f2.o bk q7;have g7:aY ks<m:=by
     have:=o6.o;rw[z,dQ]at this;simp only[aY]at this;omega
    obtain⟨a2,l6,l9⟩:=aAF (aU g6.o 1) (g8.o.drewN 1) (h0.o.drewN 1);have f0:=aT.cell l6.o;have r0:=aT.cell l9.o;have m0:=(a2.o.cell (p:=⟨bk,ok+j*6,Z⟩) c2).trans g0;have m1:=(a2.o.cell (p:=⟨bk,ok+j*6+1,Z⟩) c2).trans g1;have m2:=(a2.o.cell (p:=⟨bk,ok+j*6+2,Z⟩) c2).trans g2;have m3:=(a2.o.cell (p:=⟨bk,ok+j*6+3,Z⟩) c2).trans g3;have m4:=(a2.o.cell (p:=⟨bk,ok+j*6+4,Z⟩) c2).trans g4;have m5:=(a2.o.cell (p:=⟨bk,ok+j*6+5,Z⟩) c2).trans g5;have b0:=XT c2 a2.o.size;have HC:=aB (HI.o _ R [O X nd.op,O X nd.a,O X nd.b,o1,n9,o0] nd b8 ks (l1.o _ a2.o) (fun b' f3=>XT (f2.o b' f3) a2.o.size) (e7.keep fun b' f3=>⟨f3,fun o=>a2.o.cell (p:=⟨b',o,Z⟩) (f2.o b' f3)⟩) h4 d8 g7);have h5:y7 b known self (F1.app (.cons pre nd b8 ks .nil))=Q7 b known self nd b8 ks:=by
     rw[vE,k1.o,x7,YZ];simp[y7]
    have h6:y7 b known self kids=(Q7 b known self nd b8 ks&&y7 b known self F2):=by
     rw[z,vE,k1.o,x7,YZ]
    have g9:kids=(F1.app (.cons pre nd b8 ks .nil)).app F2:=by rw[z,cV];rfl
    have n3:bE (F1.app (.cons pre nd b8 ks .nil))=j+1:=by rw[bN];simp[bE,hj]
    obtain⟨o4,o3⟩:=aAC g9 n3;generalize Q7 b known self nd b8 ks=ty at *;clear z hj n4 e7 g0 g1 g2 g3 g4 g5 h4 d8 g7 g9 n3;obtain⟨o7,p0⟩:=aAC h5 h6;clear h5 h6;go_wp2_with fail;refine wp_region_held_drew (S:=(fun w'=>w'.cell? ⟨w.heap.size,0,Z⟩=J (O X bv)/\w'.cell? ⟨w.heap.size,1,Z⟩=J (Y Ao no co)/\w'.cell? ⟨w.heap.size,2,Z⟩=J (Y Ae ne ce)/\w'.cell? ⟨w.heap.size,3,Z⟩=J (O X bn)/\w'.cell? ⟨w.heap.size,4,Z⟩=J (Y Ap np cp)/\w'.cell? ⟨w.heap.size+1,3,Z⟩=J (Y (J ⟨bk,ok,Z⟩) nk ck)/\w'.cell? ⟨bk,ok+j*6,Z⟩=J (O X nd.op)/\w'.cell? ⟨bk,ok+j*6+1,Z⟩=J (O X nd.a)/\w'.cell? ⟨bk,ok+j*6+2,Z⟩=J (O X nd.b)/\w'.cell? ⟨bk,ok+j*6+3,Z⟩=J o1/\w'.cell? ⟨bk,ok+j*6+4,Z⟩=J n9/\w'.cell? ⟨bk,ok+j*6+5,Z⟩=J o0)) aC ?_ (fun hZ=>?_)
    . (try dsimp only);exact⟨f0 0,f0 1,f0 2,f0 3,f0 4,r0 3,m0,m1,m2,m3,m4,m5⟩
    refine aL 0 hZ ?_;refine aL 1 hZ ?_;refine aL 2 hZ ?_;refine aL 3 hZ ?_;refine aL 4 hZ ?_;refine aL 5 hZ ?_;refine aL 6 hZ ?_;refine aL 7 hZ ?_;refine r1 8 fun K hK=>?_;go_simp;go_at_call 57
    refine HC.o.mono ?_;rintro e' w7 ⟨rfl,a9⟩;have l0:=bY a2 a9;have l3:=j8 l6 a9;have l8:=j8 l9 a9;have e9:=aT.cell l3.o;have q9:=aT.cell l8.o;have p5:=(a9.cell (p:=⟨bk,ok+j*6,Z⟩) b0).trans m0;have p6:=(a9.cell (p:=⟨bk,ok+j*6+1,Z⟩) b0).trans m1;have p8:=(a9.cell (p:=⟨bk,ok+j*6+2,Z⟩) b0).trans m2;have p9:=(a9.cell (p:=⟨bk,ok+j*6+3,Z⟩) b0).trans m3;have q0:=(a9.cell (p:=⟨bk,ok+j*6+4,Z⟩) b0).trans m4;have q1:=(a9.cell (p:=⟨bk,ok+j*6+5,Z⟩) b0).trans m5;clear a9;go_wp2_with fail;refine hK.o _ _ (by exact⟨e9 0,e9 1,e9 2,e9 3,e9 4,q9 3,p5,p6,p8,p9,q0,q1⟩) fun hZ=>?_;clear hK K;try simp only[p7]
    refine aL 9 hZ ?_;refine wpAnyH_done aC ?_ _;cases ty with
    | true =>
     have HN:=o7;go_wp2_with fail;go_roundw
     case rel=>exact⟨_,F2,j+1,o4.o,o3.o,by go_num,HN,l3,l8,l0⟩
     case measure=>simp[intOf];omega
    | false =>
     have HN:Hid (y7 b known self kids=false):=aB (by rw[p0.o];rfl);go_wp2_with fail;go_ret;rw[(b7.o false).2 (by rw[HN.o];simp)];exact⟨rfl,l0.o⟩
theorem BC{b:Bk}{v:bR}(known self:Int)(D:known<=b.entries.length):∀(m:Nat),m<=1000000000000000->∀(w:aAB)(R:Nat->Prop)(F:List Value)(n:Nd)(atoms:List Nd)(kids:Fo),cE w v b->(∀b,R b->b<w.heap.size)->cJ R w F n atoms kids->eW n=true->dI kids->aY kids<m →
      Calls Tryz.prog 57 #[.agg #[O X b.vars,Y v.Ao v.no v.co,Y v.Ae v.ne v.ce,O X b.nat,Y v.Ap v.np v.cp],O X known,O X self,.agg F.toArray] w (gT (Q7 b known self n atoms kids) w)
 | 0,_,_,_,_,_,_,_,_,_,_,_,_,h=>absurd h aA
 | m+1,hm,w,R,F,n,atoms,kids,G,U,o,s,z,h6=>JU known self D m aA (BC known self D m aA) w R F n atoms kids G U o s z aA
end
section
open Go.Lib renaming hid->aB
set_option maxHeartbeats 4000000
set_option maxRecDepth 100000
theorem SX{m:Nd}(h:m.op=13):cP b known self m=true:=by
 unfold cP;rw[XN aA,XN aA,XN aA,XN aA,XN aA]
theorem UZ{m:Nd}(h:m.op=3):cP b known self m=decide (m.a<=b.vars):=by
 unfold cP;rw[XP h]
theorem DX{α:Type}{f g:α->Bool}:∀{L:List α},(∀y∈L,f y=g y)->L.all f=L.all g
 | [],_=>rfl
 | x::L,h=>by
  simp only[List.all_cons];rw[h x aD,DX (fun y D=>h y (by simp[D]))]
theorem JS{b:Bk}{known self:Int}:∀(F:Fo)(o:List Bool),Wf o F->(row F).all (cP b known self)=y7 b known self F
 | .nil,_,_=>rfl
 | .cons _ _ _ _ _,[],h=>h.elim
 | .cons p n a k x,d::dr,h=>by
  obtain⟨G,a0,D,hk,hx⟩:=h;have s:p.all (cP b known self)=true:=by
   cases d with
   | false=>simp only at G;subst G;rfl
   | true =>
    obtain⟨f,rfl,U⟩:=G;simp only[yM,YC,YJ]at U;simp[SX U.2]
  have z:a.all (cP b known self)=a.all (fun m=>decide (m.a<=b.vars)):=by
   unfold iU at D;split at D
   . exact DX (fun m hm=>UZ (D7 _ _ _ _ D m hm))
   subst D;rfl
  simp only[row,List.all_append,List.all_cons,y7,s,z,JS k _ hk,JS x _ hx,YZ,Bool.and_assoc]
theorem WB{l:List Nd}{n:Nd}{a:List Nd}{k:Fo}(D:pp [false] l=J (.cons [] n a k .nil,[])):l.all (cP b known self)=Q7 b known self n a k:=by
 have G:=i9 D;have F:=qC D;simp only[YP]at F;rw[F,JS _ _ G,x7];simp[y7]
theorem kY{w:aAB}(hb:cE w v b)(known self below:Int)(e1:known<=b.entries.length){A:ZZ}{n c:Nat}{l:List Nd}(ht:aX w A n c l):
 Calls Tryz.prog 30 #[.agg #[O X b.vars,Y v.Ao v.no v.co,Y v.Ae v.ne v.ce,O X b.nat,Y v.Ap v.np v.cp],O X known,O X self,O X below,Y A n c] w (iV (fM b known self l below) w):=by
 obtain⟨HT,c0,F,D,a3⟩:=aAD (fun (w':aAB) (h:ZY w w')=>ht.below h) (fun (w':aAB) (h:ZY w w')=>hb.below h) (fun (w':aAB) (h:ZY w w')=>BC (v:=v) (b:=b) known self e1) (aQ w (I #[O X b.vars,Y v.Ao v.no v.co,Y v.Ae v.ne v.ce,O X b.nat,Y v.Ap v.np v.cp] 26)) (aT.new w 26 #[O X b.vars,Y v.Ao v.no v.co,Y v.Ae v.ne v.ce,O X b.nat,Y v.Ap v.np v.cp]);obtain⟨bv,c6⟩:=aAJ b.vars;obtain⟨bn,c5⟩:=aAJ b.nat;rw[<-c6]at F D a3 ⊢;rw[<-c5]at F D a3 ⊢;clear c6 c5 hb ht;obtain⟨Ao,no,co,Ae,ne,ce,Ap,np,cp⟩:=v;simp only at F c0 D a3 ⊢;obtain⟨c9,a1⟩:=aAJ (fM b known self l below);rw[<-a1];have HR:=aB a1;clear a1;by_cases hs:a6 l=0;case neg =>
  have hr:Hid (c9=a6 l):=aB (by rw[HR.o];unfold fM;rw[XP hs]);have a5:=aB (gY (HT.o _ D.o));have d1:(a6 l != 0)=true:=by simpa using hs
  generalize a6 l=s at *;clear hs;go_in;go_wp2_with fail;refine a5.o.mono ?_;rintro e w2 ⟨rfl,U⟩;have a2:=bY D U;clear U;go_wp2_with fail;go_ret;rw[hr.o];exact⟨rfl,a2.o⟩
 have a5:=aB (gY (HT.o _ D.o));rw[hs]at a5;have HS:=aB hs;clear hs;go_in;go_wp2_with fail;refine a5.o.mono ?_;rintro e w2 ⟨rfl,U⟩;have a2:=bY D U;have d2:=j8 a3 U;clear U;go_wp2_with fail;refine (kG (HT.o _ a2.o)).mono ?_;rintro e w3 ⟨b4,⟨hs,_⟩|⟨xs,n1,a7,k,rfl,b5,a0,_⟩⟩
 . exact absurd HS.o hs
 obtain⟨sk,sa,sf,rfl,b1,a8,b0⟩:=b5;obtain⟨Ak,nk,ck,rfl,b1⟩:=b1;obtain⟨Aa,na,ca,rfl,a8⟩:=a8;obtain⟨Af,nf,cf,rfl,b0⟩:=b0;have b3:Hid (cJ (eC w2 w3) w3 [O X n1.op,O X n1.a,O X n1.b,Y Ak nk ck,Y Aa na ca,Y Af nf cf] n1 a7 k):=aB ⟨_,_,_,rfl,⟨Ak,nk,ck,rfl,b1⟩,⟨Aa,na,ca,rfl,a8⟩,⟨Af,nf,cf,rfl,b0⟩⟩;have G:=bY a2 b4;have d3:=j8 d2 b4;obtain⟨c1,d5,d9⟩:=aAF (G.o.alloc G.o.size (I #[O X n1.op,O X n1.a,O X n1.b,Y Ak nk ck,Y Aa na ca,Y Af nf cf] 85)) (d3.o.alloc (I #[O X n1.op,O X n1.a,O X n1.b,Y Ak nk ck,Y Aa na ca,Y Af nf cf] 85)) (aT.new w3 85 #[O X n1.op,O X n1.a,O X n1.b,Y Ak nk ck,Y Aa na ca,Y Af nf cf]);have hw:=i9 a0;obtain⟨_,c8,_,e2,_⟩:=hw;have b2:=rI a0;have e0:aY k<=4096:=by
  obtain⟨_,n',a',k',h1,_,h2⟩:=eN HS.o;rw[a0]at h1;simp only[YT,ZB,Fo.cons.injEq]at h1;obtain⟨⟨_,_,_,h3,_⟩,_⟩:=h1;rw[h3];exact h2
 have d6:=aB (WB (b:=b) (known:=known) (self:=self) a0);have c3:Hid (∀x y,gH l below=x->Q7 b known self n1 a7 k=y->c9=if x&&y then 0 else 8):=aB (fun x y h1 h2=>by
  rw[HR.o];unfold fM;rw[HS.o,XN aD,h1,d6.o,h2];cases x<;>cases y<;>simp)
 obtain⟨c2,d0,c7⟩:=aAF (fun (w':aAB) (h:ZY w3 w')=>F.o w' (G.o.trans (h.mono G.o.size)) (aY k+1) aA w' (eC w2 w3) _ n1 a7 k (c0.o w' (G.o.trans (h.mono G.o.size))) (fun b' a9=>XT a9.2 h.size) (b3.o.keep fun b' a9=>⟨a9,fun o=>h.cell (p:=⟨b',o,Z⟩) a9.2⟩) c8 b2.2.1 (YL _)) (fun (w':aAB) (h:ZY w w')=>C2 (HT.o w' h) below) (aQ w3 (I #[O X n1.op,O X n1.a,O X n1.b,Y Ak nk ck,Y Aa na ca,Y Af nf cf] 85));generalize gH l below=bb at *;obtain⟨tt,b6⟩:=aAJ (Q7 b known self n1 a7 k);rw[<-b6]at c2;have d7:=aB b6;clear b1 a8 b0 b4 c8 e2 b2 e0 a0 b6;generalize n1.op=n1o at *;generalize n1.a=n1a at *;generalize n1.b=n1b at *;go_wp2_with fail;refine (d0.o _ c1.o).mono ?_;rintro e w4 ⟨rfl,z⟩;have b8:=bY c1 z;have d4:=j8 d5 z;have d8:=j8 d9 z;have b7:=bY c7 z;have e3:=aT.cell d4.o;have e4:=aT.cell d8.o;clear z;cases bb with
 | false =>
  have hr:=c3.o false _ rfl rfl;rw[Bool.false_and,XN aD]at hr;have a4:=aB hr;clear hr;go_wp2_with fail;go_ret;rw[a4.o];exact⟨rfl,b8.o⟩
 | true =>
  have HC:=aB (c2.o _ b7.o);have hr:=c3.o true tt rfl d7.o.symm;rw[YZ]at hr;have a4:=aB hr;clear hr;go_wp2_with fail;refine HC.o.mono ?_;rintro e w5 ⟨rfl,c4⟩;have b9:=bY b8 c4;clear c4;cases tt with
  | true =>
   go_wp2_with fail;go_ret;rw[a4.o];exact⟨rfl,b9.o⟩
  | false =>
   go_wp2_with fail;go_ret;rw[a4.o];exact⟨rfl,b9.o⟩
theorem oC{w:aAB}(hb:cE w v b)(known self below:Int)(c4:known<=b.entries.length)(c7:0<=below)(c8:below<=1000){A:ZZ}{n c:Nat}{ls:aAA}(ht:fP w A n c ls):
 Calls Tryz.prog 101 #[.agg #[O X b.vars,Y v.Ao v.no v.co,Y v.Ae v.ne v.ce,O X b.nat,Y v.Ap v.np v.cp],O X known,O X self,O X below,Y A n c] w (iV (dE b known self 1 ls below) w):=by
 obtain⟨HT,a3,a1,a2⟩:=aAE (fun (w':aAB) (h:ZY w w')=>ht.below h) (fun (w':aAB) (h:ZY w w') (bl:Int) (A':ZZ) (n' c':Nat) (l:List Nd) (h2:aX w' A' n' c' l)=>kY (hb.below h) known self bl c4 h2) (aQ w (I #[O X b.vars,Y v.Ao v.no v.co,Y v.Ae v.ne v.ce,O X b.nat,Y v.Ap v.np v.cp] 26)) (aT.new w 26 #[O X b.vars,Y v.Ao v.no v.co,Y v.Ae v.ne v.ce,O X b.nat,Y v.Ap v.np v.cp]);obtain⟨bv,b5⟩:=aAJ b.vars;obtain⟨bn,b4⟩:=aAJ b.nat;rw[<-b5]at a3 a1 a2 ⊢;rw[<-b4]at a3 a1 a2 ⊢;have b0:=aB ht.len;have c9:=ht.few;clear b5 b4 hb ht;obtain⟨Ao,no,co,Ae,ne,ce,Ap,np,cp⟩:=v;simp only at a3 a1 a2 ⊢;obtain⟨a6,U⟩:=aAJ (dE b known self 1 ls below);rw[<-U];have HR:=aB U;clear U;go_in;go_wp2_with fail;go_loopw [11] (fun iv wr=>∃i:Nat,iv=O X (i:Int)/\i<=n/\Hid (dE b known self 1 (ls.drop i) (below+i)=a6)/\Hid (aT wr w.heap.size 26 #[O X bv,Y Ao no co,Y Ae ne ce,O X bn,Y Ap np cp])/\Hid (ZY w wr)) (fun i _=>n-(intOf i).toNat)
 case atStart=>exact⟨0,rfl,by omega,aB (by rw[List.drop_zero,show below+((0:Nat):Int)=below from by omega];exact HR.o.symm),a2,a1⟩
 case round =>
  obtain⟨i,rfl,d0,b9,c3,b6⟩:=hrel;by_cases b7:i<n;rotate_left
  . have c2:decide ((i:Int)<(n:Int))=false:=XQ aA;have D:=b9.o;rw[YY (by rw[b0.o];omega)]at D;have a5:Hid (a6=0):=aB D.symm;clear D;go_wp2_with fail;go_ret;rw[a5.o];exact⟨rfl,b6.o⟩
  have c2:decide ((i:Int)<(n:Int))=true:=XR aA;have b8:i<ls.length:=by rw[b0.o];exact b7
  have D:=b9.o;rw[YX b8,show ls[i]=ls.getD i [] from by rw[YD,YB b8];rfl]at D;have s:∀(l:List Nd)(r:aAA)(bl:Int),dE b known self 1 (l::r) bl=if fM b known self l bl≠0 then fM b known self l bl else dE b known self 1 r (bl+1):=fun _ _ _=>rfl;rw[s]at D;have G:=aB (aU b6.o 1);have a9:=aB (c3.o.drewN 1);obtain⟨bk,ok,A',n',c',rfl,b2,hc,c0⟩:=(HT.o w (XS _ _)).at_ b7;have a0:=aT.cell a9.o;have c1:=(G.o.cell (p:=⟨bk,ok+i,Z⟩) b2).trans hc;have b3:=XT b2 G.o.size;have c5:IntKind.i64.wrap (below+(i:Int))=below+(i:Int):=by rw[XV];omega
  have HC:=aB (a3.o _ G.o (below+(i:Int)) A' n' c' _ (c0.below G.o));generalize fM b known self (ls.getD i []) (below+(i:Int))=re at *;clear s hc c0;have b1:=aB D;clear D;go_wp2_with fail;refine wp_region_held_drew (S:=(fun w'=>w'.cell? ⟨w.heap.size,0,Z⟩=J (O X bv)/\w'.cell? ⟨w.heap.size,1,Z⟩=J (Y Ao no co)/\w'.cell? ⟨w.heap.size,2,Z⟩=J (Y Ae ne ce)/\w'.cell? ⟨w.heap.size,3,Z⟩=J (O X bn)/\w'.cell? ⟨w.heap.size,4,Z⟩=J (Y Ap np cp)/\w'.cell? ⟨bk,ok+i,Z⟩=J (Y A' n' c'))) aC ?_ (fun F=>?_)
  . (try dsimp only);exact⟨a0 0,a0 1,a0 2,a0 3,a0 4,c1⟩
  refine aL 0 F ?_;refine aL 1 F ?_;refine aL 2 F ?_;refine aL 3 F ?_;refine aL 4 F ?_;refine aL 5 F ?_;refine aL 6 F ?_;refine aL 7 F ?_;refine aL 8 F ?_;refine aL 9 F ?_;refine r1 10 fun K hK=>?_;go_simp;go_at_call 30
  refine HC.o.mono ?_;rintro e' w7 ⟨rfl,a4⟩;have a7:=bY G a4;have a8:=j8 a9 a4;have z:=aT.cell a8.o;have c6:=(a4.cell (p:=⟨bk,ok+i,Z⟩) b3).trans c1;clear a4;go_wp2_with fail;refine hK.o _ _ (by exact⟨z 0,z 1,z 2,z 3,z 4,c6⟩) fun F=>?_;clear hK K;try simp only[p7]
  refine aL 11 F ?_;refine wpAnyH_done aC ?_ _;have D:=b1.o;by_cases h0:re=0
  . subst h0;rw[XN aD]at D;have HN:Hid (dE b known self 1 (ls.drop (i+1)) (below+((i+1:Nat):Int))=a6):=aB (by rw[<-D];congr 1;omega);clear D;go_wp2_with fail;go_roundw
    case rel=>exact⟨i+1,by go_num,by omega,HN,a8,a7⟩
    case measure=>simp[intOf];omega
  rw[XP h0]at D;have a5:=aB D;have d1:(re != 0)=true:=by simpa using h0
  clear D h0;go_wp2_with fail;go_ret;rw[<-a5.o];exact⟨rfl,a7.o⟩
end
end Go.Proofs.YtjoddliplahgkaaGreat
