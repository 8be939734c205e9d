/- Merged: PutG, PartG, SenseP, SenseL, SenseM. -/
import Derived.Test.YtjoddliplahgkaaGreatTDeeps
namespace Go.Proofs.YtjoddliplahgkaaGreat
set_option linter.unusedVariables false
set_option linter.unusedSimpArgs false
open Go.RowKit
variable {b:Bk}{free:Int}{p:Int->Int->Bool}{u x:TT}
def pf(D:List Int)(v z:Int):Bool:=decide (z<=v/\100<=V5 D (v-z))
theorem sH{p q:Int->Int->Bool}{c:Int}(h:∀v z,q v z=true->p v (z+c)=true)(G I:Int):∀(j:Nat)(a:Int)(F:Fo),oP q G I j a F=true->oP p G I j (a+c) F=true
 | _,_,.nil,D=>by simp[oP]at D
 | j,a,.cons pr n ats k x,D=>by
  simp only[oP,ZJ,YC]at D ⊢;have e:a+c+aR G I (j:Int)=a+aR G I (j:Int)+c:=aA;rw[e];rcases D with (D|D)|D
  . exact .inl (.inl ⟨D.1,h _ _ D.2⟩)
  . exact .inl (.inr (sH h n.op n.b 0 _ k D))
  . exact .inr (sH h G I (j+1) a x D)
theorem oQ{q:Int->Int->Bool}{c:Int}(h:∀v z,q v z=true->p v (z+c)=true){a:Int}{n:Nd}{k:Fo}(D:nI p (a+c) n k=false):nI q a n k=false:=by
 cases he:nI q a n k with
 | false=>rfl
 | true =>
  have:nI p (a+c) n k=true:=by
   unfold nI at he ⊢;simp only[ZJ,YC]at he ⊢;rcases he with he|he
   . exact .inl ⟨he.1,h _ _ he.2⟩
   exact .inr (sH h n.op n.b 0 _ k he)
  rw[this]at D;cases D
theorem PD{p:Int->Int->Bool}{D F:Int}:∀{k:Fo} {j:Nat} {a:Int},oP p D F j a k=false->∀i y,(bH k)[i]? = some y->nI p (a+aR D F ((j+i:Nat):Int)) y.1 y.2.2=false
 | .nil,_,_,_,i,y,h=>by simp[bH]at h
 | .cons pr n ats k x,j,a,hh,i,y,h=>by
  rw[eK,ZG]at hh;rw[e8]at h;cases i with
  | zero =>
   simp only[List.getElem?_cons_zero,YT]at h;subst h;exact hh.1
  | succ i =>
   have:=PD hh.2 i y (by simpa using h);rw[show j+(i+1)=j+1+i from by omega];exact this
theorem nO{a:Int}{n:Nd}{k:Fo}(h:nI p a n k=false):(n.op=1->p n.a a=false)/\oP p n.op n.b 0 a k=false:=by
 unfold nI at h;rw[ZG]at h;refine⟨fun D=>?_,h.2⟩;have:=h.1;rw[XR D,YZ]at this;exact this
def far(a v z:Int):Bool:=decide (z<=v/\v-z<a)
def jD(u:TT)(a:Int):TT:=(AK a 0 u.1 0,u.2.1,uM a 0 u.1.op u.1.b 0 0 u.2.2)
structure nF (u:TT):Prop where
 ok:eW u.1=true
 at_:iU u.1 u.2.1
 wf:Wf (ds u.1) u.2.2
theorem nF.one(h:nF u):Wf [false] (.cons [] u.1 u.2.1 u.2.2 .nil):=⟨rfl,h.ok,h.at_,h.wf,trivial⟩
def t8(u:TT)(a:Int)(n:Nd):TT:=if n.a=a then jD u a else if a<n.a then (⟨n.op,n.a-1,n.b⟩,[],.nil) else (n,[],.nil)
theorem CY(u:TT)(D G:Int):∀(j:Nat)(a:Int)(F:Fo),VF F->(pS ⟨u.1,u.2.1,u.2.2⟩ 0).E D G j a () F=row (y8 (t8 u) D G j a F)
 | _,_,.nil,_=>rfl
 | j,a,.cons p n ats k x,h=>by
  obtain⟨U,I,O⟩:=h;have e:∀s:Unit,s=():=fun _=>rfl;rw[lC,cZ.E_cons,cZ.E1,e ((pS ⟨u.1,u.2.1,u.2.2⟩ 0).nx () n _),e ((pS ⟨u.1,u.2.1,u.2.2⟩ 0).S1 _ () n k),CY u n.op n.b 0 _ k I,CY u D G (j+1) a x O];have key:(pS ⟨u.1,u.2.1,u.2.2⟩ 0).em () n (a+aR D G j)++(ats++row (y8 (t8 u) n.op n.b 0 (a+aR D G j) k))=aW (DP (t8 u) (a+aR D G j) (n,ats,k)):=by
   by_cases hv:n.op=1
   . obtain⟨rfl,rfl⟩:=U hv;rw[pJ (x:=(n,[],.nil)) hv];simp only[pS,t8,y8,row,YP,Int.zero_add];by_cases I:n.a=a+aR D G j
     . rw[XP ⟨hv,I⟩,XP I,FD];rfl
     rw[XN (fun h=>I h.2),XN I];by_cases O:a+aR D G j<n.a
     . rw[XP ⟨hv,O⟩,XP O];rfl
     rw[XN (fun h=>O h.2),XN O];rfl
   rw[kH (x:=(n,ats,k)) hv];simp only[pS];rw[XN (fun h=>hv h.1),XN (fun h=>hv h.1)];rfl
  rw[key];simp[row,aW]
theorem RE(u:TT)(a:Int):bL (jD u a)=bL u:=by
 have h:=uY a 0 u.1.op u.1.b 0 0 u.2.2;rw[uZ]at h;unfold jD bL aW;simp only[YA,XX,h]
theorem JP(u:TT)(D G:Int):∀(j:Nat)(a:Int)(F:Fo),VF F->((row (y8 (t8 u) D G j a F)).length:Int)=(row F).length+BU 0 D G j a F*((bL u:Int)-1)
 | _,_,.nil,_=>by simp[y8,row,BU]
 | j,a,.cons p n ats k x,h=>by
  obtain⟨s,O,z⟩:=h;have ix:=JP u D G (j+1) a x z;have ik:=JP u n.op n.b 0 (a+aR D G j) k O;rw[lC,eG,eG];simp only[BU];rw[Int.add_mul,Int.add_mul];by_cases hv:n.op=1
  . obtain⟨rfl,rfl⟩:=s hv;rw[pJ (x:=(n,[],.nil)) hv];simp only;have I:bL (n,[],Fo.nil)=1:=rfl;have Y:BU 0 n.op n.b 0 (a+aR D G j) .nil=0:=rfl;have Z:t8 u (a+aR D G j) n=if n.a=a+aR D G j then jD u (a+aR D G j) else if a+aR D G j<n.a then (⟨n.op,n.a-1,n.b⟩,[],.nil) else (n,[],.nil):=rfl;rw[I,Y,Z];have o:(row Fo.nil).length=0:=rfl;rw[o]at ik;clear I Y Z o;by_cases O:n.a=a+aR D G j
    . rw[XP O,XP ⟨hv,by omega⟩];have:=RE u (a+aR D G j);rw[show ((jD u (a+aR D G j)).1,(jD u (a+aR D G j)).2.1,(jD u (a+aR D G j)).2.2)=jD u (a+aR D G j) from rfl,this]
      push_cast
      omega
    have U:¬ (n.op=1/\n.a-(a+aR D G (j:Int))=0):=aA;rw[XN O,XN U];split
    . have I:bL (⟨n.op,n.a-1,n.b⟩,[],Fo.nil)=1:=rfl;simp only;rw[I]
      push_cast
      omega
    have I:bL (n,[],Fo.nil)=1:=rfl;simp only;rw[I]
    push_cast
    omega
  . rw[kH (x:=(n,ats,k)) hv,XN (fun h=>hv h.1)];simp only;rw[cS,cS]
    push_cast
    omega
theorem uX{B up:Int}(Z:0<=up)(D I:Int)(o:∀j:Int,0<=aR D I j/\aR D I j<=4):∀(j:Nat)(z:Int)(F:Fo)(s:List Bool),Wf s F->oP (fun v z=>decide (B<=v-z)) D I j z F=false->B+z+4*((row F).length:Int)+up<=1048577->(jT up 0).G D I j z () F=true
 | _,_,.nil,_,_,_,_=>rfl
 | j,z,.cons p n ats k x,[],h,_,_=>h.elim
 | j,z,.cons p n ats k x,d::dr,h,he,hb=>by
  obtain⟨_,Y,_,hk,hx⟩:=h;rw[eK,ZG]at he;obtain⟨O,U⟩:=he;obtain⟨t1,t2⟩:=nO O;have hl:((row (.cons p n ats k x)).length:Int)=p.length+(1+ats.length+(row k).length)+(row x).length:=by rw[eG,cS];push_cast;omega
  have ha:=o (j:Int);rw[cZ.G_cons,cZ.G1,YC,YC];refine⟨⟨?_,uX Z n.op n.b (dY Y) 0 _ k _ hk t2 aA⟩,uX Z D I o (j+1) z x _ hx U aA⟩;simp only[jT];split
  . rename_i hh
    have:=t1 hh.1;rw[YM]at this;rw[YJ];omega
  . rfl
def UK(u:TT)(M:Int):Prop:=∀a:Int,0<=a->a<=M->(jT a 0).G1 0 () u.1 u.2.2=true
theorem QD{u:TT}{M:Int}(U:UK u M)(G I:Int)(Y:∀j:Int,0<=aR G I j/\aR G I j<=4):∀(j:Nat)(a:Int)(F:Fo)(Z:List Bool),Wf Z F->0<=a->a+4*((row F).length:Int)<=M->(pS ⟨u.1,u.2.1,u.2.2⟩ 0).D G I j a () F
 | _,_,.nil,_,_,_,_=>trivial
 | j,a,.cons p n ats k x,[],h,_,_=>h.elim
 | j,a,.cons p n ats k x,d::dr,h,o,hb=>by
  obtain⟨_,O,_,s,z⟩:=h;have hl:((row (.cons p n ats k x)).length:Int)=p.length+(1+ats.length+(row k).length)+(row x).length:=by rw[eG,cS];push_cast;omega
  have ha:=Y (j:Int);rw[cZ.D_cons,cZ.D1];refine⟨⟨fun hh=>?_,QD U n.op n.b (dY O) 0 _ k _ s aA aA⟩,QD U G I Y (j+1) a x _ z o aA⟩;rw[Int.zero_add];exact U _ aA aA
theorem RG(I:nF u){a:Int}(O:0<=a)(G:(jT a 0).G1 0 () u.1 u.2.2=true):nF (jD u a):=by
 rw[cZ.G1,YC]at G;have D:=rM a 0 u.1 0;have F:ds (AK a 0 u.1 0)=ds u.1:=by simp only[ds,D.1,D.2]
 refine⟨QF I.ok O G.1,?_,?_⟩
 . have:=I.at_;show iU (AK a 0 u.1 0) u.2.1;unfold iU at this ⊢;rw[D.1,D.2];exact this
 show Wf (ds (AK a 0 u.1 0)) (uM a 0 u.1.op u.1.b 0 0 u.2.2);rw[F];exact I8 O u.1.op u.1.b u.2.2 (ds u.1) 0 0 I.wf G.2
theorem Q3{u:TT}(o:nF u){M:Int}(hM:UK u M)(G O:Int)(z:∀j:Int,0<=aR G O j/\aR G O j<=4):∀(j:Nat)(a:Int)(F:Fo)(s:List Bool),Wf s F->0<=a->a+4*((row F).length:Int)<=M->Wf s (y8 (t8 u) G O j a F)
 | _,_,.nil,_,h,_,_=>h
 | j,a,.cons p n ats k x,[],h,_,_=>h.elim
 | j,a,.cons p n ats k x,d::dr,h,h0,hb=>by
  obtain⟨Z,D,I,Y,hx⟩:=h;have hl:((row (.cons p n ats k x)).length:Int)=p.length+(1+ats.length+(row k).length)+(row x).length:=by rw[eG,cS];push_cast;omega
  have ha:=z (j:Int);have ix:=Q3 o hM G O z (j+1) a x dr hx h0 aA;rw[lC];have key:nF (DP (t8 u) (a+aR G O j) (n,ats,k)):=by
   by_cases hv:n.op=1;rotate_left
   . rw[kH (x:=(n,ats,k)) hv];exact⟨D,I,Q3 o hM n.op n.b (dY D) 0 _ k (ds n) Y aA aA⟩
   rw[pJ (x:=(n,ats,k)) hv];unfold t8;split
   . exact RG o aA (hM _ aA aA)
   obtain⟨rfl,rfl⟩:=(show ats=[]/\k=.nil from (tI (.cons [] n ats k .nil) [false] ⟨rfl,D,I,Y,trivial⟩).1 hv);have U:∀m:Nd,m.op=1->ds m=[]:=fun m h=>KF h;split
   rotate_left
   . exact⟨D,I,Y⟩
   rename_i h1 h2
   simp only at h1 h2;refine⟨?_,?_,?_⟩
   . simp only;simp only[eW,YC]at D;have h3:=aV.1 D.1.1;have h4:n.b=0/\n.a<=1048576:=aA;rw[hv,h4.1];exact V6 aA aA
   . show iU ⟨n.op,n.a-1,n.b⟩ [];unfold iU;rw[XN (by simp only;omega)]
   show Wf (ds ⟨n.op,n.a-1,n.b⟩) .nil;rw[U ⟨n.op,n.a-1,n.b⟩ hv];trivial
  exact⟨Z,key.ok,key.at_,key.wf,ix⟩
theorem IB{B c:Int}(U:0<=B)(D G:Int):∀(j:Nat)(z:Int)(F:Fo),0<=c->oP (fun v z=>decide (B<=v-z)) D G j (z+c) (uM c 0 D G j z F)=true->oP (fun v z=>decide (B<=v-z)) D G j z F=true
 | _,_,.nil,_,h=>by simp[uM,oP]at h
 | j,z,.cons p n ats k x,O,h=>by
  have Y:=rM c 0 n (z+aR D G j);simp only[uM,oP,Y.1,Y.2,ZJ,YC,YJ]at h ⊢;have e:z+c+aR D G (j:Int)=z+aR D G (j:Int)+c:=aA;rw[e]at h;rcases h with (⟨Z,I⟩|h)|h
  . refine .inl (.inl ⟨Z,?_⟩);unfold AK at I;split at I
    . simp only at I;omega
    omega
  . exact .inl (.inr (IB U n.op n.b 0 _ k O h))
  . exact .inr (IB U D G (j+1) z x O h)
theorem Q1{u:TT}{B:Int}(I:0<=B)(O:nI (fun v z=>decide (B<=v-z)) 0 u.1 u.2.2=false)(D G:Int)(Y:∀j:Int,0<=aR D G j):∀(j:Nat)(a:Int)(F:Fo),VF F->WE F->0<=a->oP (fun v z=>decide (B+1<=v-z)) D G j a F=false->oP (fun v z=>decide (B<=v-z)) D G j a (y8 (t8 u) D G j a F)=false
 | _,_,.nil,_,_,_,_=>rfl
 | j,a,.cons p n ats k x,hk,hb,h0,he=>by
  obtain⟨k1,k2,k3⟩:=hk;obtain⟨Z,h,o⟩:=hb;have ha:=Y (j:Int);rw[eK,ZG]at he;obtain⟨t1,t2⟩:=nO he.1;rw[lC,eK,Q1 I O D G Y (j+1) a x k3 o h0 he.2,Bool.or_false];by_cases hv:n.op=1
  . rw[pJ (x:=(n,ats,k)) hv];have t3:=t1 hv;rw[YM]at t3;unfold t8;split
    . cases hh:nI (fun v z=>decide (B<=v-z)) (a+aR D G j) (jD u (a+aR D G j)).1 (jD u (a+aR D G j)).2.2 with
      | false=>rfl
      | true =>
       have s:oP (fun v z=>decide (B<=v-z)) 0 0 0 (0+(a+aR D G j)) (uM (a+aR D G j) 0 0 0 0 0 (.cons [] u.1 u.2.1 u.2.2 .nil))=true:=by
        rw[uW,eK,Int.zero_add];have hz:aR 0 0 ((0:Nat):Int)=0:=by decide
        rw[hz,YQ,ZJ];exact .inl hh
       have U:=IB I 0 0 0 0 _ aA s;have hz:aR 0 0 ((0:Nat):Int)=0:=by decide
       rw[eK,hz,YQ,O]at U;simp[oP]at U
    split
    . simp only[nI,oP,Bool.or_false];rw[XR hv,YZ];exact XQ (by simp only at *;omega)
    simp only[nI,oP,Bool.or_false];rw[XR hv,YZ];exact XQ (by simp only at *;omega)
  . rw[kH (x:=(n,ats,k)) hv];simp only[nI];rw[XQ hv,Bool.false_and,ZP];exact Q1 I O n.op n.b (LZ Z) 0 _ k k2 h aA t2
theorem xX{u:TT}(P:Nd->Prop)(hv:∀m:Nd,m.op=1->P m)(Z:∀m∈aW u,P m)(I o:Int):∀(j:Nat)(a:Int)(F:Fo),(∀m∈row F,P m)->∀m∈row (y8 (t8 u) I o j a F),P m
 | _,_,.nil,_,m,D=>by simp[y8,row]at D
 | j,a,.cons p n ats k x,h,m,D=>by
  have U:row (.cons p n ats k x)=p++(aW (n,ats,k)++row x):=by simp[row,aW]
  rw[U]at h;have G:∀(y:TT)(F:Fo),row (.cons p y.1 y.2.1 y.2.2 F)=p++(aW y++row F):=fun y F=>by simp[row,aW]
  rw[lC,G,YW,YW]at D;rcases D with D|D|D
  . exact h m (by simp[D])
  . by_cases Y:n.op=1
    . rw[pJ (x:=(n,ats,k)) Y]at D;unfold t8 at D;split at D
      . have O:=DE (up:=a+aR I o j) (fr:=0) 0 0 0 0 (.cons [] u.1 u.2.1 u.2.2 .nil) m (by
         rw[uW];simpa[row,aW,jD] using D)
        rcases O with O|O
        . exact Z m (by simpa[row,aW] using O)
        exact hv m O
      split at D
      . simp only[aW,row,YP,ZK]at D;subst D;exact hv _ Y
      simp only[aW,row,YP,ZK]at D;subst D;exact hv _ Y
    rw[kH (x:=(n,ats,k)) Y]at D;simp only[aW,YV,YW]at D;rcases D with rfl|D|D
    . exact h _ (by simp[aW])
    . exact h m (by simp[aW,D])
    exact xX P hv Z n.op n.b 0 _ k (fun m D=>h m (by simp[aW,D])) m D
  . exact xX P hv Z I o (j+1) a x (fun m D=>h m (by simp[D])) m D
theorem OL(D G:Int):∀(F:Fo)(j i:Nat),i<bE F->(GB D G j F).getD i 0=aR D G ((j+i:Nat):Int)
 | .nil,_,i,h=>by simp[bE]at h
 | .cons p n a k x,j,0,h=>rfl
 | .cons p n a k x,j,i+1,h=>by
  have:=OL D G x (j+1) i (by simpa[bE] using h);rw[show j+(i+1)=j+1+i from by omega,<-this];simp[GB]
theorem IN:∀{F:Fo} {I:List Bool},Wf I F->∀{y:TT},y∈bH F->nF y
 | .nil,_,_,y,h=>by cases h
 | .cons _ _ _ _ _,[],h,_,_=>h.elim
 | .cons p n a k x,d::dr,h,y,hy=>by
  obtain⟨_,G,D,O,U⟩:=h;rw[e8]at hy;rcases YV.1 hy with rfl|hy
  . exact⟨G,D,O⟩
  . exact IN U hy
inductive RV where
 | ok (x:TT) (f:Nat)
 | er (e:Int)
def dG(x:TT):Int:=(mX x.2.2).getD x.1.a.toNat 0
def cI(x u:TT):TT×Int:=if 4096<(bL x:Int)+qR 0 x.1 x.2.2*((bL u:Int)-1) then (x,9) else (DP (t8 u) 0 x,0)
def gR(f a:TT):TT:=(⟨6,0,0⟩,[],.cons [] f.1 f.2.1 f.2.2 (.cons [] a.1 a.2.1 a.2.2 .nil))
def eL(h:TT)(i:Nat):TT:=(⟨h.1.op,(i:Int),h.1.b⟩,h.2.1,h.2.2)
structure bO (b:Bk) (free:Int) (x:TT):Prop where
 okt:nF x
 few:bL x<=4096
 low:nI (fun v z=>decide (free<=v-z)) 0 x.1 x.2.2=false
 nod:∀m∈aW x,cP b b.entries.length (-1) m=true
theorem bO.rt(h:bO b free x):LV x:=pG h.okt.ok h.okt.at_ h.okt.wf h.few
theorem IC{l:List Nd}(h:fK b free l=0):l=aW (cT l)/\bO b free (cT l):=by
 obtain⟨z,s,G⟩:=PF h;obtain⟨o,F,O⟩:=AO G;obtain⟨n,a,k,D⟩:=LH o;obtain⟨U,I,Y⟩:=D.wf;rw[BE D];have e:l=aW (n,a,k):=D.eq;refine⟨e,⟨⟨U,I,Y⟩,by have:=D.few;rw[e]at this;exact this,?_,fun m Z=>O m (by rw[e];exact Z)⟩⟩;rw[OQ D,Bool.not_eq_true',show max free 0=free from by omega]at F;exact F
theorem bO.mono{D:Int}(h:bO b free x)(G:free<=D):bO b D x :=
 ⟨h.okt,h.few,oQ (p:=fun v z=>decide (free<=v-z)) (q:=fun v z=>decide (D<=v-z)) (c:=0) (fun v z F=>by
  simp only[YJ]at F ⊢;omega) (a:=0) h.low,h.nod⟩
theorem nF.around(h:nF x)(i:Int):0<=aR x.1.op x.1.b i/\aR x.1.op x.1.b i<=4:=dY h.ok i
theorem bO.kid(h:bO b free x){i:Nat}{y:TT}(G:(bH x.2.2)[i]? = some y):bO b (free+aR x.1.op x.1.b (i:Int)) y:=by
 obtain⟨n,a,k⟩:=x;have D:y∈bH k:=List.mem_of_getElem? G;have Y:=oH D;have I:=h.few;rw[cS]at I;refine⟨IN h.okt.wf D,by omega,?_,fun m U=>h.nod m ?_⟩
 . have F:=PD (nO h.low).2 i y G;rw[YH]at F;refine oQ (p:=fun v z=>decide (free<=v-z)) (fun v z O=>?_) F;simp only[YJ]at O ⊢;omega
 simp only[aW,YV,YW];exact .inr (.inr (LD D m U))
theorem bO.kid0(h:bO b free x){i:Nat}{y:TT}(F:(bH x.2.2)[i]? = some y)(D:aR x.1.op x.1.b (i:Int)=0):bO b free y:=by
 have:=h.kid F
 rwa [D,YQ]at this
theorem R5{g a:TT}(G:bO b free g)(ha:bO b free a)(O:1+bL g+bL a<=4096):bO b free (gR g a):=by
 have D:aW (gR g a)=⟨6,0,0⟩::(aW g++aW a):=by simp[gR,aW,row]
 have hz:∀k:Int,aR 6 0 k=0:=mN aE aE aE aE;refine⟨⟨(by show eW ⟨6,0,0⟩=true;decide),rfl,?_⟩,?_,?_,?_⟩
 . show Wf (ds ⟨6,0,0⟩) _;have I:ds ⟨6,0,0⟩=[false,false]:=rfl;rw[I];exact⟨rfl,G.okt.ok,G.okt.at_,G.okt.wf,rfl,ha.okt.ok,ha.okt.at_,ha.okt.wf,trivial⟩
 . show (aW (gR g a)).length<=4096;rw[D];simp only[YA,XX];simp only[bL]at O;omega
 . unfold gR nI;simp only;rw[eK,eK,hz,hz,YQ,G.low,ha.low];rfl
 rw[D];intro m F;rcases YV.1 F with rfl|F
 . rfl
 rcases YW.1 F with F|F
 . exact G.nod m F
 exact ha.nod m F
theorem BN(g a:TT):bL (gR g a)=1+bL g+bL a:=by
 have D:aW (gR g a)=⟨6,0,0⟩::(aW g++aW a):=by simp[gR,aW,row]
 unfold bL;rw[D];simp only[YA,XX];omega
theorem UR{op na nb i:Int}(F:op=12)(h:eW ⟨op,na,nb⟩=true)(O:0<=i)(U:i<nb):eW ⟨op,i,nb⟩=true:=by
 have G:cD op na nb=true/\op≠3/\op≠13:=by
  simp only[eW,YC,YJ]at h;exact⟨h.1.1,h.1.2,h.2⟩
 have D:=G.1;rw[aV]at D;have I:1<=nb/\nb<=4:=aA;clear D;have Y:cD op i nb=true:=by
  rw[aV];exact .inr (.inr (.inr (.inr (.inr (.inr (.inr (.inl ⟨F,I.1,I.2,O,U⟩)))))))
 unfold eW;simp only;rw[Y,XR G.2.1,XR G.2.2];rfl
theorem PZ{known self:Int}{m:Nd}(h:m.op=12):cP b known self m=true:=by
 unfold cP;rw[XN aA,XN aA,XN aA,XN aA,XN aA]
theorem sJ{h:TT}(F:bO b free h)(D:h.1.op=12){i:Nat}(U:(i:Int)<h.1.b):bO b free (eL h i):=by
 obtain⟨⟨op,na,nb⟩,a,k⟩:=h;have e:aW (eL (⟨op,na,nb⟩,a,k) i)=⟨op,(i:Int),nb⟩::(a++row k):=rfl;have I:aW (⟨op,na,nb⟩,a,k)=⟨op,na,nb⟩::(a++row k):=rfl;refine⟨⟨UR D F.okt.ok aA U,?_,F.okt.wf⟩,?_,?_,?_⟩
 . have:=F.okt.at_;unfold iU at this ⊢;exact this
 . have:=F.few;unfold bL at this ⊢;rw[e];rw[I]at this;exact this
 . have Y:=(nO F.low).2;unfold nI;have O:decide ((eL (⟨op,na,nb⟩,a,k) i).1.op=1)=false:=XQ (by show ¬ op=1;simp only at D;omega);rw[O,Bool.false_and,ZP];exact Y
 intro m G;rw[e]at G;rcases YV.1 G with rfl|G
 . exact PZ D
 exact F.nod m (by rw[I];exact List.mem_cons_of_mem _ G)
theorem mZ:∀{F:Fo} {D:List Bool},Wf D F->(bH F).length=D.length
 | .nil,[],_=>rfl
 | .nil,_::_,h=>h.elim
 | .cons _ _ _ _ _,[],h=>h.elim
 | .cons p n a k x,d::dr,h=>by
  rw[e8,YA,YA,mZ h.2.2.2.2]
theorem fN(I:nF x)(F:x.1.op=12):1<=x.1.b/\x.1.b<=4/\0<=x.1.a/\x.1.a<x.1.b/\(bH x.2.2).length=2*x.1.b.toNat:=by
 have D:=I.ok;have G:=mZ I.wf;rw[sF D]at G;simp only[eW,YC]at D;have O:=aV.1 D.1.1;refine⟨by omega,by omega,by omega,by omega,?_⟩;rw[G];unfold dC;rw[F];simp;omega
theorem VZ(h:nF x)(I:x.1.op=12):(cG x.2.2).length=x.1.b.toNat/\(∀m∈cG x.2.2,0<=m.a/\m.a<16):=by
 have U:=h.ok;simp only[eW,YC]at U;have O:ds x.1=(List.replicate x.1.b.toNat [true,false]).flatten:=by unfold ds;rw[XP I]
 have key:∀(B:Nat)(F:Fo),Wf ((List.replicate B [true,false]).flatten) F->(cG F).length=B/\(∀m∈cG F,0<=m.a/\m.a<16):=by
  intro B
  induction B with
  | zero =>
   intro F hF;cases F with
   | nil=>exact⟨rfl,fun m D=>by cases D⟩
   | cons _ _ _ _ _=>exact hF.elim
  | succ B ih =>
   intro F hF;rw[ZX,ZR]at hF
   match F,hF with
   | .cons s n1 a1 k1 (.cons z n2 a2 k2 x),hF =>
    obtain⟨⟨f,rfl,Y⟩,_,_,_,G,_,_,_,o⟩:=hF;simp only at G;subst G;obtain⟨g1,Z⟩:=ih x o;simp only[cG,YO];refine⟨by simp[g1],fun m D=>?_⟩;simp only[List.singleton_append,YV]at D;rcases D with rfl|D
    . simp only[yM,YC,YJ]at Y;have:=aV.1 Y.1;omega
    . exact Z m D
   | .cons s n1 a1 k1 .nil,hF=>exact hF.2.2.2.2.elim
   | .nil,hF=>exact hF.elim
 exact key _ x.2.2 (O ▸ h.wf)
theorem mE(h:nF x)(D:x.1.op=12):0<=dG x/\dG x<16:=by
 obtain⟨F,G⟩:=VZ h D;obtain⟨_,_,O,U,_⟩:=fN h D;unfold dG mX;have I:x.1.a.toNat<((cG x.2.2).map (·.a)).length:=by rw[YR,F];omega
 rw[YD,YB I];simp only[Option.getD_some,List.getElem_map];exact G _ (ZQ _)
theorem M6{k Y:Int}{m:Nd}(h:cP b k (-1) m=true)(Z:k<=Y):cP b Y (-1) m=true:=by
 have D:∀e,fQ b k e=true->fQ b Y e=true:=fun e he=>by
  unfold fQ at he ⊢;rw[YC,YJ]at he ⊢;exact⟨by omega,he.2⟩
 unfold cP at h ⊢;split
 . rename_i I
   rw[XP I]at h;exact h
 rename_i I
 rw[XN I]at h;split
 . rename_i O
   rw[XP O,YC,YJ]at h;rw[YC,YJ];exact⟨by omega,h.2⟩
 rename_i O
 rw[XN O]at h;split
 . rename_i U
   rw[XP U,ZJ]at h;rw[ZJ];exact h.imp id (D _)
 rename_i U
 rw[XN U]at h;split
 . rename_i F
   rw[XP F]at h;exact D _ h
 rename_i F
 rw[XN F]at h;split
 . rename_i G
   rw[XP G,YC]at h;rw[YC];exact⟨D _ h.1,h.2⟩
 rfl
theorem vU{b:Bk}:∀(L:List En)(i:Nat),dL b i L=0->∀(j:Nat)(x:En),L[j]? = some x->dK b ((i+j:Nat):Int) x=0
 | [],_,_,j,x,h=>by simp at h
 | y::r,i,he,0,x,h=>by
  simp only[List.getElem?_cons_zero,YT]at h;subst h;simp only[dL]at he;split at he
  . rename_i D;exact absurd he D
  . rename_i D;exact Classical.not_not.1 D
 | y::r,i,he,j+1,x,h=>by
  simp only[dL]at he;split at he
  . rename_i D;exact absurd he D
  . have:=vU r (i+1) he j x (by simpa using h)
    rwa [show i+1+j=i+(j+1) from by omega]at this
theorem yX(h:bU b=0):dL b 0 b.entries=0:=by
 unfold bU at h;split at h
 . rename_i D;exact absurd h D
 split at h
 . cases h
 split at h
 . rename_i D;exact absurd h D
 rename_i D;exact Classical.not_not.1 D
theorem OR(G:bU b=0){e:Int}(h:0<=e)(o:e<(b.entries.length:Int))(O:(bP b e).kind=2):fK b 0 (bP b e).body=0:=by
 have U:e.toNat<b.entries.length:=aA;have Z:b.entries[e.toNat]? = some (bP b e):=by
  unfold bP;rw[YD,YB U];rfl
 have he:=vU _ _ (yX G) _ _ Z;rw[YH]at he;unfold dK at he;rw[XN aA,XP O]at he;split at he
 . cases he
 simp only[dE]at he;split at he
 . rename_i D;exact absurd he D
 split at he
 . rename_i D;exact absurd he D
 rename_i D
 have F:=Classical.not_not.1 D;rw[YQ]at F;obtain⟨a1,a2,I⟩:=AO F;exact SR G aA (TK a1 a2 (fun m Y=>M6 (I m Y) aA))
theorem kQ(h:nF x)(D:x.1.op=6\/x.1.op=5\/x.1.op=4):∃p q,bH x.2.2=[p,q]:=by
 have F:=mZ h.wf;rw[sF h.ok]at F;unfold dC at F;generalize bH x.2.2=L at *;have:L.length=2:=by
  rw[F];rcases D with D|D|D<;>rw[D]<;>rfl
 match L,this with
 | [p,q],_=>exact⟨p,q,rfl⟩
theorem mU(h:nF x)(F:x.1.op=7):∃p q r,bH x.2.2=[p,q,r]:=by
 have D:=mZ h.wf;rw[sF h.ok]at D;unfold dC at D;generalize bH x.2.2=L at *;have:L.length=3:=by rw[D,F];rfl
 match L,this with
 | [p,q,r],_=>exact⟨p,q,r,rfl⟩
theorem eT(h:nF x)(F:x.1.op=11):∃p q br,bH x.2.2=p::q::br/\(br.length:Int)=x.1.b:=by
 have G:=mZ h.wf;have D:=h.ok;rw[sF D]at G;simp only[eW,YC]at D;have I:=(iF D.1.1).1;unfold dC at G;generalize bH x.2.2=L at *;have:L.length=2+x.1.b.toNat:=by rw[G,F];simp;omega
 match L,this with
 | p::q::br,this=>exact⟨p,q,br,rfl,by simp at this;omega⟩
 | [_],this=>simp at this;omega
 | [],this=>simp at this;omega
theorem CA(h:nF x)(_h10:x.1.op=10):0<=x.1.b:=by
 have D:=h.ok;simp only[eW,YC]at D;exact (iF D.1.1).1
end Go.Proofs.YtjoddliplahgkaaGreat
