/- Merged: GoV, GoI. -/
import Derived.Test.YtjoddliplahgkaaGreatPGoH
namespace Go.Proofs.YtjoddliplahgkaaGreat
set_option linter.unusedVariables false
set_option linter.unusedSimpArgs false
open Go.RowKit
open Go.Value renaming int → O, slice → Y
open Go.IntKind renaming i64 → X
open Go.Obj renaming cells → Z
open Option renaming none → I
theorem BR:∀(F:Fo) (m:Nat),Wf (List.replicate m false) F->F=gH (cI F)
 | .nil,_,_=>rfl
 | .cons p n a k x,0,h=>h.elim
 | .cons p n a k x,m+1,h=>by
  rw[List.replicate_succ] at h;obtain⟨h1,_,_,_,h2⟩:=h;have hp:p=[]:=h1;subst hp;rw[iW];show Fo.cons [] n a k x=Fo.cons [] n a k (gH (cI x));rw[<-BR x _ h2]
theorem NG:∀(L:List TT) (y:TT),2<=L.length->fN (gH L) y=gH (L.set 1 y)
 | [],_,h=>by simp at h
 | [_],_,h=>by simp at h
 | a::c::r,y,_=>rfl
theorem nJ {x:TT} (h:oH x) (h11:x.1.op=11) (hl:2<=(cI x.2.2).length) (y:TT):(x.1,x.2.1,fN x.2.2 y)=((x.1,[],gH ((cI x.2.2).set 1 y)):TT)/\x.2.2=gH (cI x.2.2):=by
 have ha:x.2.1=[]:=by
  have:=h.at_;unfold iR at this;rw[if_neg aA] at this;exact this
 have hf:x.2.2=gH (cI x.2.2):=by
  have hp:=h.wf;unfold ds at hp;rw[if_neg aA] at hp;exact BR _ _ hp
 refine⟨?_,hf⟩;rw[ha]
 conv=>lhs;rw[hf]
 rw[NG _ _ hl]
theorem RA {R:Nat->Prop} {W:World} {n:Nd} {A:Option Addr} {c:Nat} {L:List TT} {m:Nat} (hm:m=L.length) (h:dM R W A m c (gH L)):dX R W ⟨A,m,c,I,0,0,I,0,0⟩ (n,[],gH L):=by
 subst hm;refine⟨_,_,_,rfl,⟨_,_,_,rfl,h⟩,gE.nil _ _,?_⟩;rw[xE];exact gE.nil _ _
section
open Go.Lib renaming hid->aB
set_option maxRecDepth 100000 in
set_option maxHeartbeats 4000000 in
theorem FO {v:bO} {b:Bk} {w0:World} {cA:Option Addr} {cn cc:Nat} {cv:List (List Nd)} (hr:bP b=0) (hcx:fR b cv) {gas:Nat} (IH:KU v b w0 cA cn cc cv gas) {w:World} {R:Nat->Prop} {t:iE} {x:TT} (hbk:bX w v b) (hctx:jI (· < w.heap.size) w cA cn cc cv) (hR:∀q,R q->q<w.heap.size) (ht:dX R w t x) (hx:bR b (cv.length:Int) x) (hsz:bI x<gas+1) (hop:((bU x).1.1.op=11/\eS b (bU x).1.1 (bU (eQ (bU x).1 1))=true/\True)) :
 Calls Tryz.prog 45 #[.agg #[O X b.vars,Y v.Ao v.no v.co,Y v.Ae v.ne v.ce,O X b.nat,Y v.Ap v.np v.cp],Y cA cn cc,.agg (bH t x.1)] w (DN R w (iF b cv (gas+1) (bU x))):=by
 obtain⟨res,a8⟩ : ∃r,r=iF b cv (gas+1) (bU x):=⟨_,rfl⟩;rw[<-a8];have b8:=kI hx;have a9:=dJ hx;have b3:bI x<=4096:=hx.few;have e1:=(a7 w (Z #[O X b.vars,Y v.Ao v.no v.co,Y v.Ae v.ne v.ce,O X b.nat,Y v.Ap v.np v.cp] 26) (Z (bH t x.1) 85)).alloc aH (Z #[O X 0,O X 0,O X 0,Y I 0 0,Y I 0 0,Y I 0 0] 85);have d0:=aB (eC (fun q hq=>Nat.lt_of_lt_of_le (hR q hq) e1.size) (ht.below hR e1) hx.rt);obtain⟨⟨⟨ho,ha,hb⟩,a1,hk⟩,L,p1⟩ : ∃F L,bU x=(F,L):=⟨_,_,rfl⟩;rw[p1] at d0 a8 b8 a9 hop;unfold DM at d0;simp only at d0 hop;have h6:DP w (((w.alloc (Z #[O X b.vars,Y v.Ao v.no v.co,Y v.Ae v.ne v.ce,O X b.nat,Y v.Ap v.np v.cp] 26)).alloc (Z (bH t x.1) 85)).alloc (Z #[O X 0,O X 0,O X 0,Y I 0 0,Y I 0 0,Y I 0 0] 85)) #[O X b.vars,Y v.Ao v.no v.co,Y v.Ae v.ne v.ce,O X b.nat,Y v.Ap v.np v.cp] (bH t x.1) (((w.alloc (Z #[O X b.vars,Y v.Ao v.no v.co,Y v.Ae v.ne v.ce,O X b.nat,Y v.Ap v.np v.cp] 26)).alloc (Z (bH t x.1) 85)).alloc (Z #[O X 0,O X 0,O X 0,Y I 0 0,Y I 0 0,Y I 0 0] 85)):=⟨e1,Nat.le_refl _,((aS.new _ _ _).alloc _).alloc _,(aS.new' aD).alloc _,aS.new' aD⟩;have j0:dX (bB R (((w.alloc (Z #[O X b.vars,Y v.Ao v.no v.co,Y v.Ae v.ne v.ce,O X b.nat,Y v.Ap v.np v.cp] 26)).alloc (Z (bH t x.1) 85)).alloc (Z #[O X 0,O X 0,O X 0,Y I 0 0,Y I 0 0,Y I 0 0] 85)) (((w.alloc (Z #[O X b.vars,Y v.Ao v.no v.co,Y v.Ae v.ne v.ce,O X b.nat,Y v.Ap v.np v.cp] 26)).alloc (Z (bH t x.1) 85)).alloc (Z #[O X 0,O X 0,O X 0,Y I 0 0,Y I 0 0,Y I 0 0] 85))) (((w.alloc (Z #[O X b.vars,Y v.Ao v.no v.co,Y v.Ae v.ne v.ce,O X b.nat,Y v.Ap v.np v.cp] 26)).alloc (Z (bH t x.1) 85)).alloc (Z #[O X 0,O X 0,O X 0,Y I 0 0,Y I 0 0,Y I 0 0] 85)) t x:=ht.keep fun q hq=>⟨Or.inl hq,fun o=>e1.cell (p:=⟨q,o,I⟩) (hR q hq)⟩;have i9:(((w.alloc (Z #[O X b.vars,Y v.Ao v.no v.co,Y v.Ae v.ne v.ce,O X b.nat,Y v.Ap v.np v.cp] 26)).alloc (Z (bH t x.1) 85)).alloc (Z #[O X 0,O X 0,O X 0,Y I 0 0,Y I 0 0,Y I 0 0] 85)).heap.size=w.heap.size+3:=by simp
 obtain⟨V0,g7⟩ : ∃V0,V0=((w.alloc (Z #[O X b.vars,Y v.Ao v.no v.co,Y v.Ae v.ne v.ce,O X b.nat,Y v.Ap v.np v.cp] 26)).alloc (Z (bH t x.1) 85)).alloc (Z #[O X 0,O X 0,O X 0,Y I 0 0,Y I 0 0,Y I 0 0] 85):=⟨_,rfl⟩;rw[<-g7] at e1 d0 h6 j0 i9;obtain⟨kl,m1⟩ : ∃k,k=L.length:=⟨_,rfl⟩;have r6:L.length<=4096:=by
  have h3:=a9;have h4:bT L<=4096:=by
   have:dK (((⟨ho,ha,hb⟩:Nd),a1,hk),L)=bI ((⟨ho,ha,hb⟩:Nd),a1,hk)+bT L:=rfl;omega
  exact Nat.le_trans (eW L) h4
 rw[<-m1] at d0 r6;have f8:=aB a8;have l1:=aB b8;have l0:=aB a9;have w9:=aB b3;have g9:=aB h6;have c5:=aB j0;have c3:=aB i9;have HR:=aB hR;have o6:=aB hbk;have HX:=aB hx;have HT:=aB ht;have s6:=aB hsz;clear m1 a8 b8 a9 b3 h6 j0 i9 hR hbk hctx hx IH hcx hr ht hsz e1;obtain⟨⟨xo,xa,xb⟩,xat,xk⟩:=x;obtain⟨Ak,nk,ck,Aa,na,ca,Af,nf,cf⟩:=t;simp only at g9 c5 g7;show Calls Tryz.prog 45 #[.agg #[O X b.vars,Y v.Ao v.no v.co,Y v.Ae v.ne v.ce,O X b.nat,Y v.Ap v.np v.cp],Y cA cn cc,.agg #[O X xo,O X xa,O X xb,Y Ak nk ck,Y Aa na ca,Y Af nf cf]] w _;go_in;go_upto_region 1 with fail
 rw[<-g7];clear g7;have o9:=aS.cell g9.o.x;go_wp2_with fail;refine (d0.o).mono ?_;rintro e w4 ⟨b5,⟨Ck,pk,ek,Ca,pa,ea,Cf,pf,ef⟩,KB,kd,rfl,l3,m2,i2⟩;have c0:=a7 w4 (Z #[O X ho,O X ha,O X hb,Y Ck pk ek,Y Ca pa ea,Y Cf pf ef] 85) (Z #[O X ho,O X ha,O X hb] 46);have n7:=aB ((g9.o.below b5).below c0);have j3:Hid (aS ((w4.alloc (Z #[O X ho,O X ha,O X hb,Y Ck pk ek,Y Ca pa ea,Y Cf pf ef] 85)).alloc (Z #[O X ho,O X ha,O X hb] 46)) w4.heap.size 85 #[O X ho,O X ha,O X hb,Y Ck pk ek,Y Ca pa ea,Y Cf pf ef]):=aB ((aS.new _ _ _).alloc _);have j2:Hid (aS ((w4.alloc (Z #[O X ho,O X ha,O X hb,Y Ck pk ek,Y Ca pa ea,Y Cf pf ef] 85)).alloc (Z #[O X ho,O X ha,O X hb] 46)) (w4.heap.size+1) 46 #[O X ho,O X ha,O X hb]):=aB (aS.new' aD);have f6:Hid (dX (bB R V0 ((w4.alloc (Z #[O X ho,O X ha,O X hb,Y Ck pk ek,Y Ca pa ea,Y Cf pf ef] 85)).alloc (Z #[O X ho,O X ha,O X hb] 46))) ((w4.alloc (Z #[O X ho,O X ha,O X hb,Y Ck pk ek,Y Ca pa ea,Y Cf pf ef] 85)).alloc (Z #[O X ho,O X ha,O X hb] 46)) ⟨Ak,nk,ck,Aa,na,ca,Af,nf,cf⟩ ((⟨xo,xa,xb⟩:Nd),xat,xk)):=aB (c5.o.keep fun q hq=>⟨hq.to (Nat.le_refl _) (Nat.le_trans b5.size c0.size),fun o=>(b5.trans (c0.mono b5.size)).cell (p:=⟨q,o,I⟩) (by
  rcases hq with hq | hq
  · have:=HR.o _ hq;have:=c3.o;show q<V0.heap.size;omega
  exact hq.2)⟩)
 have f7:Hid (dX R ((w4.alloc (Z #[O X ho,O X ha,O X hb,Y Ck pk ek,Y Ca pa ea,Y Cf pf ef] 85)).alloc (Z #[O X ho,O X ha,O X hb] 46)) ⟨Ck,pk,ek,Ca,pa,ea,Cf,pf,ef⟩ ((⟨ho,ha,hb⟩:Nd),a1,hk)):=aB (l3.keep fun q hq=>⟨hq,fun o=>c0.cell (p:=⟨q,o,I⟩) (by have:=HR.o _ hq;have:=c3.o;have:=b5.size;show q<w4.heap.size;omega)⟩);have g2:Hid (dM (bB R V0 ((w4.alloc (Z #[O X ho,O X ha,O X hb,Y Ck pk ek,Y Ca pa ea,Y Cf pf ef] 85)).alloc (Z #[O X ho,O X ha,O X hb] 46))) ((w4.alloc (Z #[O X ho,O X ha,O X hb,Y Ck pk ek,Y Ca pa ea,Y Cf pf ef] 85)).alloc (Z #[O X ho,O X ha,O X hb] 46)) KB kl kd (gH L)):=aB (m2.keep fun q hq=>⟨hq.to (Nat.le_refl _) c0.size,fun o=>c0.cell (p:=⟨q,o,I⟩) (by
  rcases hq with hq | hq
  · have:=HR.o _ hq;have:=c3.o;have:=b5.size;show q<w4.heap.size;omega
  exact hq.2)⟩)
 have r8:=aB b5.size;clear b5 c0 l3 m2 i2 d0 g9 c5 o9;have g1:Hid (AM w V0 R #[O X b.vars,Y v.Ao v.no v.co,Y v.Ae v.ne v.ce,O X b.nat,Y v.Ap v.np v.cp] #[O X xo,O X xa,O X xb,Y Ak nk ck,Y Aa na ca,Y Af nf cf] w4.heap.size (w4.heap.size+1) ⟨Ak,nk,ck,Aa,na,ca,Af,nf,cf⟩ ((⟨xo,xa,xb⟩:Nd),xat,xk) ⟨Ck,pk,ek,Ca,pa,ea,Cf,pf,ef⟩ ((⟨ho,ha,hb⟩:Nd),a1,hk) KB kl kd L ((w4.alloc (Z #[O X ho,O X ha,O X hb,Y Ck pk ek,Y Ca pa ea,Y Cf pf ef] 85)).alloc (Z #[O X ho,O X ha,O X hb] 46))):=aB ⟨n7.o,j3.o,j2.o,f6.o,f7.o.keep fun q hq=>⟨Or.inl hq,fun _=>rfl⟩,g2.o⟩;have zh:=aS.cell j3.o;have zn:=aS.cell j2.o;clear n7 j3 j2 f6 f7 g2;obtain⟨hop,g5,r3⟩:=hop;have hF:=l1.o;obtain⟨n1,n2,n3,n4⟩:=kM hF.head hop;obtain⟨p,q,brs,a4,m8⟩:=eK hF.head.okt hop;simp only at n1 n2 n3 n4 a4 m8;have hq:=hF.head.kid0 (i:=1) (by rw[a4];rfl) (eI (.inr (.inr hop)));obtain⟨i3,f0⟩:=nJ hF.head.okt hop (by simp only;rw[a4];simp) (x:=((⟨ho,ha,hb⟩:Nd),a1,hk)) ((⟨0,0,0⟩:Nd),[],.nil);have o3:=aB (fun y=>(nJ hF.head.okt hop (by simp only;rw[a4];simp) y).1);have x4:=aB f0;obtain⟨ia,i7⟩ : ∃ia:Nat,ha=(ia:Int):=⟨ha.toNat,by omega⟩;obtain⟨nb,m0⟩ : ∃nb:Nat,hb=(nb:Int):=⟨hb.toNat,by omega⟩;have p9:=o6.o.entries.len;obtain⟨be,oe,n5,m9,⟨As,ns,cs,Ap,np,cp,Ai,ni,ci,Ac,nc,ccc,At,nt,ct,Ab,nbo,cb⟩,_,_,c2,_,c4,_,_,a0⟩:=o6.o.entries.at_ (k:=ia) aA;have m5:bK b (ia:Int)=b.entries.getD ia default:=by unfold bK;rw[Int.toNat_natCast]
 rw[<-m5] at a0;simp only at c2 c4;have g3:=a0.params.len;have e9:=a0.params.few;simp only at g3 e9;obtain⟨⟨⟨so,sa,sb⟩,sat,sk⟩,M,b4⟩ : ∃F L,bU q=(F,L):=⟨_,_,rfl⟩;have m4:eQ ((⟨ho,ha,hb⟩:Nd),a1,hk) 1=q:=dI (i:=1) (by simp only;rw[a4];rfl);rw[m4,b4] at g5;have h8:=kI hq;have hsz:=dJ hq;rw[b4] at h8 hsz;have h5:=aB (fun h=>oU h8.head h);simp only at h5;obtain⟨ml,i4⟩ : ∃m,m=M.length:=⟨_,rfl⟩;have p6:M.length<=4096:=by
  have h3:dK (((⟨so,sa,sb⟩:Nd),sat,sk),M)=bI ((⟨so,sa,sb⟩:Nd),sat,sk)+bT M:=rfl;have h4:bI q<=4096:=hq.few;have:=eW M;omega
 have l7:bI q<gas:=by
  have h2:=rN (show q ∈ cI hk by rw[a4];simp);have e:bI ((⟨ho,ha,hb⟩:Nd),a1,hk)=1+a1.length+(row hk).length:=dL _ _ _;have h3:=l0.o;have h4:dK (((⟨ho,ha,hb⟩:Nd),a1,hk),L)=bI ((⟨ho,ha,hb⟩:Nd),a1,hk)+bT L:=rfl;have:=s6.o;omega
 have c6:Hid (res=if eS b ⟨ho,ha,hb⟩ (((⟨so,sa,sb⟩:Nd),sat,sk),M)=true then s9.yes (eG (cU hk (2+sb.toNat)) (M.drop np++L)) else match iF b cv gas (((⟨so,sa,sb⟩:Nd),sat,sk),M) with | .no=>.no | .bad=>.bad | .yes y=>.yes (eG ((⟨ho,ha,hb⟩:Nd),[],gH ((cI hk).set 1 y)) L)):=aB (by
  have i6:eQ ((⟨ho,ha,hb⟩:Nd),a1,hk) 1=q:=dI (i:=1) (by simp only;rw[a4];rfl);have l5:bW b cv (((⟨ho,ha,hb⟩:Nd),a1,hk),L)=eS b ⟨ho,ha,hb⟩ (((⟨so,sa,sb⟩:Nd),sat,sk),M):=by
   unfold bW;simp only;rw[if_neg aA,if_neg aA,if_neg aA,if_pos hop,i6,b4]
  by_cases h:eS b ⟨ho,ha,hb⟩ (((⟨so,sa,sb⟩:Nd),sat,sk),M)=true
  · rw[if_pos h,f8.o,iL (by rw[l5];exact h)];have w5:0<=sb/\sb<hb:=by
     unfold eS at h;simp only[Bool.and_eq_true,beq_iff_eq,decide_eq_true_eq] at h;exact⟨(h5.o h.1).2.1,h.2.2.1⟩
    have q6:eQ ((⟨ho,ha,hb⟩:Nd),a1,hk) (2+sb.toNat)=cU hk (2+sb.toNat):=by
     refine dI ?_;simp only;unfold cU;have:2+sb.toNat<(cI hk).length:=by rw[a4];simp only[List.length_cons];omega
     rw[List.getD_eq_getElem?_getD,List.getElem?_eq_getElem this];rfl
    unfold kD;simp only;rw[if_neg aA,if_neg aA,if_neg aA,if_neg aA,if_pos hop,i6,b4];simp only;rw[q6,i7,g3]
  rw[if_neg h,f8.o,pO (p:=q) (by rw[l5];exact h) (by unfold cS;simp only;rw[if_pos hop,i6]),b4];cases iF b cv gas (((⟨so,sa,sb⟩:Nd),sat,sk),M) with
  | no=>rfl
  | bad=>rfl
  | yes y =>
   simp only
   congr 1
   show eG (dU _ y).1 (dU _ y).2=_;unfold dU;simp only;rw[if_pos hop];simp only;rw[o3.o y])
 rw[i7,m0] at c6 o3 g5;have h0:=aB g5;clear g5 m4 r3;subst i7;subst m0;have d9:=g1.o;have i1:=d9.th.nk;simp only at i1;have e7:pk=2+nb:=by rw[i1,a4];simp only[List.length_cons];omega
 obtain⟨bq,oq,⟨k1A,k1n,k1c,k1B,k1m,k1d,k1C,k1p,k1e⟩,g8,j1,g6,e4⟩:=d9.th.kid (j:=1) (by simp only;omega);have i5:cU hk 1=q:=by unfold cU;rw[a4];rfl
 simp only at g8 g6 e4;rw[i5,Nat.one_mul] at g6;rw[i5] at e4;have v0:=aB (fun (j:Nat) (hj:j<pk)=>(by
  obtain⟨b',o',t',h1,h2,h3,h4⟩:=d9.th.kid (j:=j) hj;simp only at h1 h3 h4;rw[g8] at h1;injection h1 with h1;injection h1 with h1 h1';subst h1;subst h1';exact⟨t',h3,h4⟩ : ∃t',P6 (((w4.alloc (Z #[O X ho,O X (ia:Int),O X (nb:Int),Y Ck pk ek,Y Ca pa ea,Y Cf pf ef] 85)).alloc (Z #[O X ho,O X (ia:Int),O X (nb:Int)] 46))) bq (oq+j*6) t' (cU hk j).1/\dX (bB R V0 (((w4.alloc (Z #[O X ho,O X (ia:Int),O X (nb:Int),Y Ck pk ek,Y Ca pa ea,Y Cf pf ef] 85)).alloc (Z #[O X ho,O X (ia:Int),O X (nb:Int)] 46)))) (((w4.alloc (Z #[O X ho,O X (ia:Int),O X (nb:Int),Y Ck pk ek,Y Ca pa ea,Y Cf pf ef] 85)).alloc (Z #[O X ho,O X (ia:Int),O X (nb:Int)] 46))) t' (cU hk j)))
 have a3:=aB (eC (d9.lt HR.o) e4 hq.rt);rw[b4] at a3;unfold DM at a3;simp only at a3;rw[<-i4] at a3;have o8:=aB g8;have t0:=aB j1;have v3:=aB g6;have x0:=aB e4;have x3:=aB hq;have x1:=aB b4;have x2:=aB l7;have o5:=aB (d9.lt HR.o _ j1);have n8:=aB e7;have k8:=aB i4;have k9:Hid (ml<=4096):=aB aA;have o2:=aB g3;have v6:=aB n5;have o7:=aB m9;have v5:=aB c2;have v4:=aB c4;have v2:=aB a0;have v1:Hid (ia<v.ne):=aB aA;have t9:=aB n4;clear hF n1 n2 n3 n4 a4 m8 hq i3 f0 p9 n5 m9 c2 c4 a0 m5 g3 e9 b4 h8 hsz i4 p6 l7 d9 i1 e7 g8 j1 g6 e4 i5;have d5:(ho==5)=false:=by rw[beq_eq_false_iff_ne];omega
 have d7:(ho==7)=false:=by rw[beq_eq_false_iff_ne];omega
 have d1:(ho==1)=false:=by rw[beq_eq_false_iff_ne];omega
 have d8:(ho==8)=false:=by rw[beq_eq_false_iff_ne];omega
 have d11:(ho==11)=true:=by simp[hop]
 obtain rfl:Ck=some ⟨bq,oq,I⟩:=o8.o;clear o8 hop;obtain⟨⟨qo,qa,qb⟩,qat,qk⟩:=q;have p3:1<pk:=by have:=n8.o;omega
 have p2:(1:Int)<(pk:Int):=aA;obtain⟨q0,q1,q2,q3,q4,q5⟩:=v3.o;simp only at q0 q1 q2 q3 q4 q5;go_upto_region 24 with fail
 generalize ((w4.alloc (Z #[O X ho,O X (ia:Int),O X (nb:Int),Y (some ⟨bq,oq,I⟩) pk ek,Y Ca pa ea,Y Cf pf ef] 85)).alloc (Z #[O X ho,O X (ia:Int),O X (nb:Int)] 46))=W5 at *;have e3:=g1;go_wp2_with fail;refine (a3.o).mono ?_;rintro e w6 ⟨b9,⟨c1A,c1n,c1c,c1B,c1m,c1d,c1C,c1p,c1e⟩,PB,pd,rfl,l4,l9,l8⟩;have f5:=aP w6 (Z #[O X so,O X sa,O X sb,Y c1A c1n c1c,Y c1B c1m c1d,Y c1C c1p c1e] 85);have b2:=aB (b9.trans (f5.mono b9.size));have k7:=aB (e3.o.below HR.o b2.o);have b1:=aB (aS.new w6 85 #[O X so,O X sa,O X sb,Y c1A c1n c1c,Y c1B c1m c1d,Y c1C c1p c1e]);have j4:Hid (dX (bB R V0 (w6.alloc (Z #[O X so,O X sa,O X sb,Y c1A c1n c1c,Y c1B c1m c1d,Y c1C c1p c1e] 85))) (w6.alloc (Z #[O X so,O X sa,O X sb,Y c1A c1n c1c,Y c1B c1m c1d,Y c1C c1p c1e] 85)) ⟨c1A,c1n,c1c,c1B,c1m,c1d,c1C,c1p,c1e⟩ ((⟨so,sa,sb⟩:Nd),sat,sk)):=aB (l4.keep fun q hq=>⟨hq.to (Nat.le_refl _) b2.o.size,fun o=>f5.cell (p:=⟨q,o,I⟩) (Nat.lt_of_lt_of_le (e3.o.lt HR.o q hq) b9.size)⟩);have g0:Hid (dM (bB R V0 (w6.alloc (Z #[O X so,O X sa,O X sb,Y c1A c1n c1c,Y c1B c1m c1d,Y c1C c1p c1e] 85))) (w6.alloc (Z #[O X so,O X sa,O X sb,Y c1A c1n c1c,Y c1B c1m c1d,Y c1C c1p c1e] 85)) PB ml pd (gH M)):=aB (l9.keep fun q hq=>⟨(fW (fun q h=>h) e3.o.s.sz b9.size hq:bB R V0 w6 q).to (Nat.le_refl _) f5.size,fun o=>f5.cell (p:=⟨q,o,I⟩) (by
  rcases hq with hq | hq
  · exact Nat.lt_of_lt_of_le (e3.o.lt HR.o q hq) b9.size
  exact hq.2)⟩)
 have t8:=aB l8;have s8:=aB b9.size;clear b9 f5 l4 l9 l8 zh zn q0 q1 q2 q3 q4 q5 a3;go_upto_region 25 with fail
 generalize (w6.alloc (Z #[O X so,O X sa,O X sb,Y c1A c1n c1c,Y c1B c1m c1d,Y c1C c1p c1e] 85))=W7 at *;have b6:=k7;have zh:∀i:Nat,W7.cell? ⟨w4.heap.size,i,I⟩=(#[O X ho,O X (ia:Int),O X (nb:Int),Y (some ⟨bq,oq,I⟩) pk ek,Y Ca pa ea,Y Cf pf ef]:Array Value)[i]?:=aS.cell b6.o.h;have zn:∀i:Nat,W7.cell? ⟨w4.heap.size+1,i,I⟩=(#[O X ho,O X (ia:Int),O X (nb:Int)]:Array Value)[i]?:=aS.cell b6.o.n;have zc:=aS.cell b1.o;have zb:=aS.cell b6.o.s.bk;rw[v6.o] at zb;have q9:ia<v.ne:=v1.o;have q8:(ia:Int)<(v.ne:Int):=aA;have c27:=(b6.o.s.bel.cell (p:=⟨be,oe+ia*7+2,I⟩) o7.o).trans v5.o;have c47:=(b6.o.s.bel.cell (p:=⟨be,oe+ia*7+4,I⟩) o7.o).trans v4.o;have a0:=v2.o.below b6.o.s.bel;obtain⟨rb,i0⟩ : ∃r,r=eS b ⟨ho,(ia:Int),(nb:Int)⟩ (((⟨so,sa,sb⟩:Nd),sat,sk),M):=⟨_,rfl⟩;have j9:Hid (res=if rb=true then s9.yes (eG (cU hk (2+sb.toNat)) (M.drop np++L)) else match iF b cv gas (((⟨so,sa,sb⟩:Nd),sat,sk),M) with | .no=>.no | .bad=>.bad | .yes y=>.yes (eG ((⟨ho,(ia:Int),(nb:Int)⟩:Nd),[],gH ((cI hk).set 1 y)) L)):=aB (by rw[i0];exact c6.o);have b0:=aB i0;clear c6 i0;go_upto_region 26 with fail
 go_cut [193] (fun bv wx=>bv=.bool rb/\Hid (Below W7.heap.size W7 wx))
 case first =>
  by_cases q1:so=10;rotate_left
  · have d1:(so==10)=false:=by simpa using q1
    have c7:Hid (rb=false):=aB (by rw[b0.o];unfold eS;simp only;rw[d1];rfl);clear q1 a0;have h9:=b0.o.trans h0.o;rw[c7.o] at h9;cases h9
  have d1:(so==10)=true:=by simpa using q1
  obtain⟨t1,t2,t3⟩:=h5.o q1;clear q1;by_cases q2:sa=(ia:Int);rotate_left
  · have d2:(sa==(ia:Int))=false:=by simpa using q2
    have c7:Hid (rb=false):=aB (by rw[b0.o];unfold eS;simp only;rw[d1,d2];rfl);clear q2 t1 t2 t3 a0;have h9:=b0.o.trans h0.o;rw[c7.o] at h9;cases h9
  have d2:(sa==(ia:Int))=true:=by simpa using q2
  by_cases q3:sb<(nb:Int);rotate_left
  · have d3:decide (sb<(nb:Int))=false:=decide_eq_false q3;have c7:Hid (rb=false):=aB (by rw[b0.o];unfold eS;simp only;rw[d1,d2,d3];rfl);clear q2 q3 t1 t2 t3 a0;have h9:=b0.o.trans h0.o;rw[c7.o] at h9;cases h9
  have d3:decide (sb<(nb:Int))=true:=decide_eq_true q3;obtain⟨ib,g4⟩ : ∃ib:Nat,sb=(ib:Int):=⟨sb.toNat,by omega⟩;rw[q2] at t3;have m7:=a0.ctors.len;have p4:=a0.params.few;simp only at m7 p4;have f1:ib<nc:=aA;have r0:(ib:Int)<(nc:Int):=aA;obtain⟨bc,oc,A1,n1,c1,ec,w7,k0,n0⟩:=a0.ctors.arg_at (k:=ib) f1;simp only at ec;rw[ec] at c47;have hr:rb=(ml==np+n1):=by
   rw[b0.o];unfold eS;simp only;rw[d1,d2,d3,o2.o,g4,show ((ib:Int)).toNat=ib from by omega,n0,k8.o];rfl
  have d4:((ml:Int)==(np:Int)+(n1:Int))=(ml==np+n1):=by
   rw[Bool.eq_iff_iff];simp only[beq_iff_eq];omega
  have p5:n1<=5864062014805:=by
   obtain⟨_,_,_,_,p8⟩:=a0.ctors.mem (by simp only;omega);obtain⟨A9,n9,c9,_,_,_,_,_,l6,_⟩:=p8 ib f1;have:=l6.len;have:=l6.few;omega
  have c7:=aB hr;have d5:decide (ib<nb)=true:=decide_eq_true aA;have d6:ib<nb:=aA;subst g4;clear q2 q3 hr t1 t2 t3 m7 n0 a0;generalize (ml==np+n1)=rv at *;go_quiet (fail)
  go_wp2_with fail;go_meet;exact⟨by rw[c7.o],aB (aT (Below.refl _ _) _)⟩
 case rest =>
 obtain⟨rfl,f2⟩:=hcut;obtain⟨wd,rfl⟩ : ∃x:World,x=wc:=⟨_,rfl⟩;have a6:=aB (b6.o.below HR.o f2.o);have o4:=aB (b1.o.below f2.o b1.o.lt);have f9:=aB (g0.o.keep (j6 HR.o b6.o.s.bel.size f2.o));have c8:=aB (b2.o.trans (f2.o.mono b2.o.size));have r2:=a6.o.h.lt;have r4:=o4.o.lt;have w3:w.heap.size+3<=w4.heap.size:=by have:=r8.o;have:=c3.o;omega
 have w2:w.heap.size+3<=w6.heap.size:=by have:=e3.o.s.sz;have:=c3.o;have:=s8.o;omega
 have e0:bq<wd.heap.size:=Nat.lt_of_lt_of_le o5.o c8.o.size;have r5:bq ≠ w.heap.size+1+1:=by
  rcases t0.o with h | h
  · have:=HR.o _ h;omega
  have:=h.1;have:=c3.o;omega
 clear zb c27 c47 a0 zh zn zc b1 j4 g0 f2;cases rb with
 | true =>
  have j5:=b0.o.symm;unfold eS at j5;simp only[Bool.and_eq_true,beq_iff_eq,decide_eq_true_eq] at j5;obtain⟨t1,t2,t3,t4⟩:=j5;obtain⟨u1,u2,u3⟩:=h5.o t1;obtain⟨ib,g4⟩ : ∃ib:Nat,sb=(ib:Int):=⟨sb.toNat,by omega⟩;subst g4;have e8:np<=ml:=by have:=k8.o;have:=o2.o;omega
  obtain⟨jb,m3⟩ : ∃jb:Nat,jb=2+ib:=⟨_,rfl⟩;have q7:jb<pk:=by have:=n8.o;omega
  have w1:IntKind.i64.wrap (2+(ib:Int))=(jb:Int):=by rw[IntKind.wrap_i64];have:=t9.o;omega
  obtain⟨⟨j1A,j1n,j1c,j1B,j1m,j1d,j1C,j1p,j1e⟩,b7,h7⟩:=v0.o jb q7;obtain⟨z,hz⟩ : ∃z,z=cU hk jb:=⟨_,rfl⟩;rw[<-hz] at b7 h7;have t6:Hid (res=s9.yes (eG z (M.drop np++L))):=aB (by
   have h:=j9.o;rw[if_pos rfl] at h;rw[h,hz,m3,Int.toNat_natCast])
  obtain⟨⟨zo,za,zb⟩,p0,zk⟩:=z;obtain⟨k0,k1,k2,k3,k4,k5⟩:=b7.below c8.o o5.o;simp only at k0 k1 k2 k3 k4 k5;have e5:=h7.keep (j6 HR.o e3.o.s.bel.size c8.o);obtain⟨B1,w8,m6⟩:=GI (B:=PB) (L:=M) (n:=ml) (c:=pd) (k:=np) k8.o.symm e8 f9.o.cap t8.o;have o0:=aB (fun (V:World) (hV:Below wd.heap.size wd V)=>gM (fun q hq=>Nat.lt_of_lt_of_le (a6.o.lt HR.o q hq) hV.size) (e5.below (a6.o.lt HR.o) hV) ((m6 _ _ f9.o).below (a6.o.lt HR.o) hV) (by have:=k9.o;omega));obtain⟨⟨⟨yo,ya,yb⟩,yat,yk⟩,hY⟩ : ∃y,y=eG ((⟨zo,za,zb⟩:Nd),p0,zk) (M.drop np):=⟨_,rfl⟩;obtain⟨⟨⟨xo',xa',xb'⟩,xat',xk'⟩,i8⟩ : ∃y,y=eG ((⟨yo,ya,yb⟩:Nd),yat,yk) L:=⟨_,rfl⟩;rw[<-hY] at o0;have t5:Hid (res=s9.yes ((⟨xo',xa',xb'⟩:Nd),xat',xk')):=aB (by rw[t6.o,AU,<-hY,i8]);have r7:=aB i8;have zh:∀i:Nat,wd.cell? ⟨w4.heap.size,i,I⟩=(#[O X ho,O X (ia:Int),O X (nb:Int),Y (some ⟨bq,oq,I⟩) pk ek,Y Ca pa ea,Y Cf pf ef]:Array Value)[i]?:=aS.cell a6.o.h;have zc:=aS.cell o4.o;clear t1 t2 t3 t4 u1 u2 u3 e8 m3 b7 h7 hz e5 m6 hY i8;go_upto_region 27 with fail
  refine wp_region_held_drew (S:=(fun w'=>∀q,q<wd.heap.size->q ≠ w.heap.size+1+1->w'.heap[q]? = wd.heap[q]?)) aC ?_ (fun hZ => ?_)
  · (try dsimp only);exact fun q _ _=>rfl
  have l2:Hid (Below wd.heap.size wd wd.drew):=aB (aT (Below.refl _ _) 1);generalize wd.drew=W1 at *;refine aL 0 hZ ?_;refine tk 1 ?_ (fun wq hSw => ?_) hZ ?_;rotate_left
  · have f3:=(aQ (hSw (w4.heap.size) (r2) aA) (3)).trans (zh 3);go_simp;try with_reducible rfl
  try simp only[p7]
  refine aL 2 hZ ?_;refine aL 3 hZ ?_;refine tk 4 ?_ (fun wq hSw => ?_) hZ ?_;rotate_left
  · have f4:=(aQ (hSw (w6.heap.size) (r4) aA) (2)).trans (zc 2);go_simp;try with_reducible rfl
  try simp only[p7]
  refine aL 5 hZ ?_;refine aL 6 hZ ?_;refine tk 7 ?_ (fun wq hSw => ?_) hZ ?_;rotate_left
  · have s0:=(aQ (hSw (bq) (e0) aA) (oq+jb*6)).trans (k0);have s1:=(aQ (hSw (bq) (e0) aA) (oq+jb*6+1)).trans (k1);have s2:=(aQ (hSw (bq) (e0) aA) (oq+jb*6+2)).trans (k2);have s3:=(aQ (hSw (bq) (e0) aA) (oq+jb*6+3)).trans (k3);have s4:=(aQ (hSw (bq) (e0) aA) (oq+jb*6+4)).trans (k4);have s5:=(aQ (hSw (bq) (e0) aA) (oq+jb*6+5)).trans (k5);go_simp;try with_reducible rfl
  try simp only[p7]
  refine aL 8 hZ ?_;refine aL 9 hZ ?_;refine aL 10 hZ ?_;refine aL 12 hZ ?_;refine r1 11 fun K hK => ?_;go_simp;go_at_call 81
  refine (o0.o _ l2.o).mono ?_;rintro e v8 ⟨e2,⟨u1A,u1n,u1c,u1B,u1m,u1d,u1C,u1p,u1e⟩,rfl,e6⟩;have a5:=bZ l2 e2;have n6:=aB e6;have s7:=aB l2.o.size;clear e6;clear e2;go_wp2_with fail;refine hK.o _ _ (by exact fun q h1 _=>a5.o.block q h1) fun hZ => ?_;clear hK K;try simp only[p7]
  have t7:Hid (dX (bB R V0 v8) v8 ⟨u1A,u1n,u1c,u1B,u1m,u1d,u1C,u1p,u1e⟩ ((⟨yo,ya,yb⟩:Nd),yat,yk)):=aB (n6.o.keep fun q hq=>⟨fW (fun q h=>h) (by have:=a6.o.s.sz;have:=s7.o;omega) a5.o.size hq,fun _=>rfl⟩);have k6:=aB (a6.o.below HR.o a5.o);have o1:=aB (gM (k6.o.lt HR.o) t7.o k6.o.kd aA);rw[<-r7.o] at o1;clear n6;refine r1 13 fun K hK => ?_;go_simp;go_at_call 81
  refine (o1.o).mono ?_;rintro e v9 ⟨e2,⟨u2A,u2n,u2c,u2B,u2m,u2d,u2C,u2p,u2e⟩,rfl,e6⟩;have a2:=bZ a5 e2;have r9:=aB e6;have j7:=aB e2.size;clear e6;clear e2;go_wp2_with fail;refine hK.o _ _ (by exact fun q h1 _=>a2.o.block q h1) fun hZ => ?_;clear hK K;try simp only[p7]
  have j8:=aB (a6.o.s.r.below a2.o a6.o.s.r.lt);have zr:=aS.cell j8.o;have v7:=aS.frozen j8.o;refine r1 14 fun K hK => ?_;go_simp;refine hK.o _ _ (by exact fun q h1 h2=>((eR _ (w.heap.size+1+1) _ _ _ _ _ _).block q (Nat.lt_of_lt_of_le h1 a2.o.size) (by intro e;injection e with e;exact h2 e)).trans (a2.o.block q h1)) fun hZ => ?_;clear hK K;try simp only[p7]
  refine aL 15 hZ ?_;refine aL 16 hZ ?_;refine wpAnyH_done aC ?_ _;go_wp2_with fail;refine bodyPost_ret (v:=.tuple #[.agg #[O X xo',O X xa',O X xb',Y u2A u2n u2c,Y u2B u2m u2d,Y u2C u2p u2e],.bool true,O X 0]) ?_ rfl ?_
  · exact dR (g:=w.heap.size+1+1) (cJ j8.o _ _ _ _ _ _) aD
  exact jZ (V0:=V0) (ty:=⟨u2A,u2n,u2c,u2B,u2m,u2d,u2C,u2p,u2e⟩) (y:=((⟨xo',xa',xb'⟩:Nd),xat',xk')) HR.o c3.o a6.o a2.o (fun q hq=>fW (fun q h=>h) k6.o.s.sz (by have:=a2.o.size;have:=a5.o.size;exact j7.o) hq) r9.o (.inr (.inr ⟨t5.o,rfl,rfl⟩))
 | false =>
  have h9:=b0.o.trans h0.o;cases h9
end
end Go.Proofs.YtjoddliplahgkaaGreat
