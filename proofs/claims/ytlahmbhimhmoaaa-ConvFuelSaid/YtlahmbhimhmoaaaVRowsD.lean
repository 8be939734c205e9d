/- Merged: PutG, RowsD. -/
import Derived.Test.YtlahmbhimhmoaaaVErr18
import Derived.Test.YtlahmbhimhmoaaaVDeeps
namespace Go.Proofs.Ytlahmbhimhmoaaa
set_option linter.unusedVariables false
set_option linter.unusedSimpArgs false
open Go.RowKit
variable {p:Int->Int->Bool}{c n:Nat}{S:Nat->Prop}{A:OC}{u:TT}{w:OE}
def pf(D:List Int)(v z:Int):Bool:=decide (z<=v/\100<=KJ D (v-z))
theorem mD{p q:Int->Int->Bool}{c:Int}(h:∀v z,q v z=true->p v (z+c)=true)(G I:Int):∀(j:Nat)(a:Int)(F:Fo),lA q G I j a F=true->lA p G I j (a+c) F=true
 | _,_,.nil,D=>by simp[lA]at D
 | j,a,.cons pr n ats k x,D=>by
  simp only[lA,NM,ME]at D ⊢;have e:a+c+aR G I (j:Int)=a+aR G I (j:Int)+c:=aA;rw[e];rcases D with (D|D)|D
  . exact .inl (.inl ⟨D.1,h _ _ D.2⟩)
  . exact .inl (.inr (mD h n.op n.b 0 _ k D))
  . exact .inr (mD h G I (j+1) a x D)
theorem mE{q:Int->Int->Bool}{c:Int}(h:∀v z,q v z=true->p v (z+c)=true){a:Int}{n:Nd}{k:Fo}(D:kU p (a+c) n k=false):kU q a n k=false:=by
 cases he:kU q a n k with
 | false=>rfl
 | true =>
  have:kU p (a+c) n k=true:=by
   unfold kU at he ⊢;simp only[NM,ME]at he ⊢;rcases he with he|he
   . exact .inl ⟨he.1,h _ _ he.2⟩
   exact .inr (mD h n.op n.b 0 _ k he)
  rw[this]at D;cases D
theorem EK{p:Int->Int->Bool}{D F:Int}:∀{k:Fo} {j:Nat} {a:Int},lA p D F j a k=false->∀i y,(a9 k)[i]? = some y->kU p (a+aR D F ((j+i:Nat):Int)) y.1 y.2.2=false
 | .nil,_,_,_,i,y,h=>by simp[a9]at h
 | .cons pr n ats k x,j,a,hh,i,y,h=>by
  rw[cR,NL]at hh;rw[dX]at h;cases i with
  | zero =>
   simp only[List.getElem?_cons_zero,MS]at h;subst h;exact hh.1
  | succ i =>
   have:=EK hh.2 i y (by simpa using h);rw[show j+(i+1)=j+1+i from by omega];exact this
theorem mF{a:Int}{n:Nd}{k:Fo}(h:kU p a n k=false):(n.op=1->p n.a a=false)/\lA p n.op n.b 0 a k=false:=by
 unfold kU at h;rw[NL]at h;refine⟨fun D=>?_,h.2⟩;have:=h.1;rw[MB D,NI]at this;exact this
def far(a v z:Int):Bool:=decide (z<=v/\v-z<a)
def jB(u:TT)(a:Int):TT:=(tR a 0 u.1 0,u.2.1,qO a 0 u.1.op u.1.b 0 0 u.2.2)
structure tV (u:TT):Prop where
 ok:eU u.1=true
 at_:gI u.1 u.2.1
 wf:Wf (ds u.1) u.2.2
theorem tV.one(h:tV u):Wf [false] (.cons [] u.1 u.2.1 u.2.2 .nil):=⟨rfl,h.ok,h.at_,h.wf,trivial⟩
def wG(u:TT)(a:Int)(n:Nd):TT:=if n.a=a then jB u a else if a<n.a then (⟨n.op,n.a-1,n.b⟩,[],.nil) else (n,[],.nil)
theorem tF(u:TT)(D G:Int):∀(j:Nat)(a:Int)(F:Fo),JZ F->(kH ⟨u.1,u.2.1,u.2.2⟩ 0).E D G j a () F=row (tM (wG u) D G j a F)
 | _,_,.nil,_=>rfl
 | j,a,.cons p n ats k x,h=>by
  obtain⟨U,I,O⟩:=h;have e:∀s:Unit,s=():=fun _=>rfl;rw[iP,bT.E_cons,bT.E1,e ((kH ⟨u.1,u.2.1,u.2.2⟩ 0).nx () n _),e ((kH ⟨u.1,u.2.1,u.2.2⟩ 0).S1 _ () n k),tF u n.op n.b 0 _ k I,tF u D G (j+1) a x O];have key:(kH ⟨u.1,u.2.1,u.2.2⟩ 0).em () n (a+aR D G j)++(ats++row (tM (wG u) n.op n.b 0 (a+aR D G j) k))=aT (DH (wG u) (a+aR D G j) (n,ats,k)):=by
   by_cases hv:n.op=1
   . obtain⟨rfl,rfl⟩:=U hv;rw[lQ (x:=(n,[],.nil)) hv];simp only[kH,wG,tM,row,NF,Int.zero_add];by_cases I:n.a=a+aR D G j
     . rw[LZ ⟨hv,I⟩,LZ I,vS];rfl
     rw[aN (fun h=>I h.2),aN I];by_cases O:a+aR D G j<n.a
     . rw[LZ ⟨hv,O⟩,LZ O];rfl
     rw[aN (fun h=>O h.2),aN O];rfl
   rw[iQ (x:=(n,ats,k)) hv];simp only[kH];rw[aN (fun h=>hv h.1),aN (fun h=>hv h.1)];rfl
  rw[key];simp[row,aT]
theorem FT(u:TT)(a:Int):bZ (jB u a)=bZ u:=by
 have h:=oE a 0 u.1.op u.1.b 0 0 u.2.2;rw[oF]at h;unfold jB bZ aT;simp only[MN,MG,h]
theorem yX(u:TT)(D G:Int):∀(j:Nat)(a:Int)(F:Fo),JZ F->((row (tM (wG u) D G j a F)).length:Int)=(row F).length+wP 0 D G j a F*((bZ u:Int)-1)
 | _,_,.nil,_=>by simp[tM,row,wP]
 | j,a,.cons p n ats k x,h=>by
  obtain⟨s,O,z⟩:=h;have ix:=yX u D G (j+1) a x z;have ik:=yX u n.op n.b 0 (a+aR D G j) k O;rw[iP,dB,dB];simp only[wP];rw[Int.add_mul,Int.add_mul];by_cases hv:n.op=1
  . obtain⟨rfl,rfl⟩:=s hv;rw[lQ (x:=(n,[],.nil)) hv];simp only;have I:bZ (n,[],Fo.nil)=1:=rfl;have Y:wP 0 n.op n.b 0 (a+aR D G j) .nil=0:=rfl;have Z:wG u (a+aR D G j) n=if n.a=a+aR D G j then jB u (a+aR D G j) else if a+aR D G j<n.a then (⟨n.op,n.a-1,n.b⟩,[],.nil) else (n,[],.nil):=rfl;rw[I,Y,Z];have o:(row Fo.nil).length=0:=rfl;rw[o]at ik;clear I Y Z o;by_cases O:n.a=a+aR D G j
    . rw[LZ O,LZ ⟨hv,by omega⟩];have:=FT u (a+aR D G j);rw[show ((jB u (a+aR D G j)).1,(jB u (a+aR D G j)).2.1,(jB u (a+aR D G j)).2.2)=jB u (a+aR D G j) from rfl,this]
      push_cast
      omega
    have U:¬ (n.op=1/\n.a-(a+aR D G (j:Int))=0):=aA;rw[aN O,aN U];split
    . have I:bZ (⟨n.op,n.a-1,n.b⟩,[],Fo.nil)=1:=rfl;simp only;rw[I]
      push_cast
      omega
    have I:bZ (n,[],Fo.nil)=1:=rfl;simp only;rw[I]
    push_cast
    omega
  . rw[iQ (x:=(n,ats,k)) hv,aN (fun h=>hv h.1)];simp only;rw[cS,cS]
    push_cast
    omega
theorem oD{B up:Int}(Z:0<=up)(D I:Int)(o:∀j:Int,0<=aR D I j/\aR D I j<=4):∀(j:Nat)(z:Int)(F:Fo)(s:List Bool),Wf s F->lA (fun v z=>decide (B<=v-z)) D I j z F=false->B+z+4*((row F).length:Int)+up<=1048577->(fX up 0).G D I j z () F=true
 | _,_,.nil,_,_,_,_=>rfl
 | j,z,.cons p n ats k x,[],h,_,_=>h.elim
 | j,z,.cons p n ats k x,d::dr,h,he,hb=>by
  obtain⟨_,Y,_,hk,hx⟩:=h;rw[cR,NL]at he;obtain⟨O,U⟩:=he;obtain⟨t1,t2⟩:=mF O;have hl:((row (.cons p n ats k x)).length:Int)=p.length+(1+ats.length+(row k).length)+(row x).length:=by rw[dB,cS];push_cast;omega
  have ha:=o (j:Int);rw[bT.G_cons,bT.G1,ME,ME];refine⟨⟨?_,oD Z n.op n.b (eN Y) 0 _ k _ hk t2 aA⟩,oD Z D I o (j+1) z x _ hx U aA⟩;simp only[fX];split
  . rename_i hh
    have:=t1 hh.1;rw[NY]at this;rw[MJ];omega
  . rfl
def JE(u:TT)(M:Int):Prop:=∀a:Int,0<=a->a<=M->(fX a 0).G1 0 () u.1 u.2.2=true
theorem E9{u:TT}{M:Int}(U:JE u M)(G I:Int)(Y:∀j:Int,0<=aR G I j/\aR G I j<=4):∀(j:Nat)(a:Int)(F:Fo)(Z:List Bool),Wf Z F->0<=a->a+4*((row F).length:Int)<=M->(kH ⟨u.1,u.2.1,u.2.2⟩ 0).D G I j a () F
 | _,_,.nil,_,_,_,_=>trivial
 | j,a,.cons p n ats k x,[],h,_,_=>h.elim
 | j,a,.cons p n ats k x,d::dr,h,o,hb=>by
  obtain⟨_,O,_,s,z⟩:=h;have hl:((row (.cons p n ats k x)).length:Int)=p.length+(1+ats.length+(row k).length)+(row x).length:=by rw[dB,cS];push_cast;omega
  have ha:=Y (j:Int);rw[bT.D_cons,bT.D1];refine⟨⟨fun hh=>?_,E9 U n.op n.b (eN O) 0 _ k _ s aA aA⟩,E9 U G I Y (j+1) a x _ z o aA⟩;rw[Int.zero_add];exact U _ aA aA
theorem FU(I:tV u){a:Int}(O:0<=a)(G:(fX a 0).G1 0 () u.1 u.2.2=true):tV (jB u a):=by
 rw[bT.G1,ME]at G;have D:=lL a 0 u.1 0;have F:ds (tR a 0 u.1 0)=ds u.1:=by simp only[ds,D.1,D.2]
 refine⟨FA I.ok O G.1,?_,?_⟩
 . have:=I.at_;show gI (tR a 0 u.1 0) u.2.1;unfold gI at this ⊢;rw[D.1,D.2];exact this
 show Wf (ds (tR a 0 u.1 0)) (qO a 0 u.1.op u.1.b 0 0 u.2.2);rw[F];exact yQ O u.1.op u.1.b u.2.2 (ds u.1) 0 0 I.wf G.2
theorem FO{u:TT}(o:tV u){M:Int}(hM:JE u M)(G O:Int)(z:∀j:Int,0<=aR G O j/\aR G O j<=4):∀(j:Nat)(a:Int)(F:Fo)(s:List Bool),Wf s F->0<=a->a+4*((row F).length:Int)<=M->Wf s (tM (wG u) G O j a F)
 | _,_,.nil,_,h,_,_=>h
 | j,a,.cons p n ats k x,[],h,_,_=>h.elim
 | j,a,.cons p n ats k x,d::dr,h,h0,hb=>by
  obtain⟨Z,D,I,Y,hx⟩:=h;have hl:((row (.cons p n ats k x)).length:Int)=p.length+(1+ats.length+(row k).length)+(row x).length:=by rw[dB,cS];push_cast;omega
  have ha:=z (j:Int);have ix:=FO o hM G O z (j+1) a x dr hx h0 aA;rw[iP];have key:tV (DH (wG u) (a+aR G O j) (n,ats,k)):=by
   by_cases hv:n.op=1;rotate_left
   . rw[iQ (x:=(n,ats,k)) hv];exact⟨D,I,FO o hM n.op n.b (eN D) 0 _ k (ds n) Y aA aA⟩
   rw[lQ (x:=(n,ats,k)) hv];unfold wG;split
   . exact FU o aA (hM _ aA aA)
   obtain⟨rfl,rfl⟩:=(show ats=[]/\k=.nil from (nA (.cons [] n ats k .nil) [false] ⟨rfl,D,I,Y,trivial⟩).1 hv);have U:∀m:Nd,m.op=1->ds m=[]:=fun m h=>zT h;split
   rotate_left
   . exact⟨D,I,Y⟩
   rename_i h1 h2
   simp only at h1 h2;refine⟨?_,?_,?_⟩
   . simp only;simp only[eU,ME]at D;have h3:=bI.1 D.1.1;have h4:n.b=0/\n.a<=1048576:=aA;rw[hv,h4.1];exact KL aA aA
   . show gI ⟨n.op,n.a-1,n.b⟩ [];unfold gI;rw[aN (by simp only;omega)]
   show Wf (ds ⟨n.op,n.a-1,n.b⟩) .nil;rw[U ⟨n.op,n.a-1,n.b⟩ hv];trivial
  exact⟨Z,key.ok,key.at_,key.wf,ix⟩
theorem xX{B c:Int}(U:0<=B)(D G:Int):∀(j:Nat)(z:Int)(F:Fo),0<=c->lA (fun v z=>decide (B<=v-z)) D G j (z+c) (qO c 0 D G j z F)=true->lA (fun v z=>decide (B<=v-z)) D G j z F=true
 | _,_,.nil,_,h=>by simp[qO,lA]at h
 | j,z,.cons p n ats k x,O,h=>by
  have Y:=lL c 0 n (z+aR D G j);simp only[qO,lA,Y.1,Y.2,NM,ME,MJ]at h ⊢;have e:z+c+aR D G (j:Int)=z+aR D G (j:Int)+c:=aA;rw[e]at h;rcases h with (⟨Z,I⟩|h)|h
  . refine .inl (.inl ⟨Z,?_⟩);unfold tR at I;split at I
    . simp only at I;omega
    omega
  . exact .inl (.inr (xX U n.op n.b 0 _ k O h))
  . exact .inr (xX U D G (j+1) z x O h)
theorem FN{u:TT}{B:Int}(I:0<=B)(O:kU (fun v z=>decide (B<=v-z)) 0 u.1 u.2.2=false)(D G:Int)(Y:∀j:Int,0<=aR D G j):∀(j:Nat)(a:Int)(F:Fo),JZ F->KT F->0<=a->lA (fun v z=>decide (B+1<=v-z)) D G j a F=false->lA (fun v z=>decide (B<=v-z)) D G j a (tM (wG u) D G j a F)=false
 | _,_,.nil,_,_,_,_=>rfl
 | j,a,.cons p n ats k x,hk,hb,h0,he=>by
  obtain⟨k1,k2,k3⟩:=hk;obtain⟨Z,h,o⟩:=hb;have ha:=Y (j:Int);rw[cR,NL]at he;obtain⟨t1,t2⟩:=mF he.1;rw[iP,cR,FN I O D G Y (j+1) a x k3 o h0 he.2,Bool.or_false];by_cases hv:n.op=1
  . rw[lQ (x:=(n,ats,k)) hv];have t3:=t1 hv;rw[NY]at t3;unfold wG;split
    . cases hh:kU (fun v z=>decide (B<=v-z)) (a+aR D G j) (jB u (a+aR D G j)).1 (jB u (a+aR D G j)).2.2 with
      | false=>rfl
      | true =>
       have s:lA (fun v z=>decide (B<=v-z)) 0 0 0 (0+(a+aR D G j)) (qO (a+aR D G j) 0 0 0 0 0 (.cons [] u.1 u.2.1 u.2.2 .nil))=true:=by
        rw[oC,cR,Int.zero_add];have hz:aR 0 0 ((0:Nat):Int)=0:=by decide
        rw[hz,MV,NM];exact .inl hh
       have U:=xX I 0 0 0 0 _ aA s;have hz:aR 0 0 ((0:Nat):Int)=0:=by decide
       rw[cR,hz,MV,O]at U;simp[lA]at U
    split
    . simp only[kU,lA,Bool.or_false];rw[MB hv,NI];exact MA (by simp only at *;omega)
    simp only[kU,lA,Bool.or_false];rw[MB hv,NI];exact MA (by simp only at *;omega)
  . rw[iQ (x:=(n,ats,k)) hv];simp only[kU];rw[MA hv,Bool.false_and,NK];exact FN I O n.op n.b (AY Z) 0 _ k k2 h aA t2
theorem qA{u:TT}(P:Nd->Prop)(hv:∀m:Nd,m.op=1->P m)(Z:∀m∈aT u,P m)(I o:Int):∀(j:Nat)(a:Int)(F:Fo),(∀m∈row F,P m)->∀m∈row (tM (wG u) I o j a F),P m
 | _,_,.nil,_,m,D=>by simp[tM,row]at D
 | j,a,.cons p n ats k x,h,m,D=>by
  have U:row (.cons p n ats k x)=p++(aT (n,ats,k)++row x):=by simp[row,aT]
  rw[U]at h;have G:∀(y:TT)(F:Fo),row (.cons p y.1 y.2.1 y.2.2 F)=p++(aT y++row F):=fun y F=>by simp[row,aT]
  rw[iP,G,MW,MW]at D;rcases D with D|D|D
  . exact h m (by simp[D])
  . by_cases Y:n.op=1
    . rw[lQ (x:=(n,ats,k)) Y]at D;unfold wG at D;split at D
      . have O:=tK (up:=a+aR I o j) (fr:=0) 0 0 0 0 (.cons [] u.1 u.2.1 u.2.2 .nil) m (by
         rw[oC];simpa[row,aT,jB] using D)
        rcases O with O|O
        . exact Z m (by simpa[row,aT] using O)
        exact hv m O
      split at D
      . simp only[aT,row,NF,List.mem_singleton]at D;subst D;exact hv _ Y
      simp only[aT,row,NF,List.mem_singleton]at D;subst D;exact hv _ Y
    rw[iQ (x:=(n,ats,k)) Y]at D;simp only[aT,MU,MW]at D;rcases D with rfl|D|D
    . exact h _ (by simp[aT])
    . exact h m (by simp[aT,D])
    exact qA P hv Z n.op n.b 0 _ k (fun m D=>h m (by simp[aT,D])) m D
  . exact qA P hv Z I o (j+1) a x (fun m D=>h m (by simp[D])) m D
structure dN (R:Nat->Prop) (w:OE) (A:OC) (n c:Nat) (ls:OD):Prop where
 len:ls.length=n
 few:n<=5864062014805
 mem:0<n->∃b off,A=some ⟨b,off,none⟩/\R b/\∀k,k<n->∃A' n' c',w.cell? ⟨b,off+k,none⟩=some (.slice A' n' c')/\a6 R w A' n' c' (ls.getD k [])
theorem dN.keep{R R':Nat->Prop}{w':OE}{ls:OD}(h:dN R w A n c ls)(hR:∀b,R b->R' b/\∀o,w'.cell? ⟨b,o,none⟩=w.cell? ⟨b,o,none⟩):dN R' w' A n c ls:=by
 refine⟨h.len,h.few,fun Y=>?_⟩;obtain⟨b,off,e,F,U⟩:=h.mem Y;refine⟨b,off,e,(hR b F).1,fun k D=>?_⟩;obtain⟨G,Z,I,O,ht⟩:=U k D;exact⟨G,Z,I,by rw[(hR b F).2];exact O,ht.keep hR⟩
def a8(S:Nat->Prop)(w:OE):List Value->List (List Nd)->Prop
 | [],[]=>True
 | x::xs,l::ls=>(∃A n c,x=.slice A n c/\a6 S w A n c l)/\a8 S w xs ls
 | _,_=>False
theorem a8.keep{S':Nat->Prop}{w':OE}(hS:∀b,S b->S' b/\∀o,w'.cell? ⟨b,o,none⟩=w.cell? ⟨b,o,none⟩):∀{D:List Value} {ls:OD},a8 S w D ls->a8 S' w' D ls
 | [],[],_=>trivial
 | [],_::_,h=>h.elim
 | _::_,[],h=>h.elim
 | x::D,l::ls,h=>by
  obtain⟨⟨A,n,c,e,ht⟩,F⟩:=h;exact⟨⟨A,n,c,e,ht.keep hS⟩,F.keep hS⟩
theorem a8.add{m:List Nd}(ht:a6 S w A n c m):∀{D:List Value} {ls:OD},a8 S w D ls->a8 S w (D++[.slice A n c]) (ls++[m])
 | [],[],_=>⟨⟨A,n,c,rfl,ht⟩,trivial⟩
 | [],_::_,h=>h.elim
 | _::_,[],h=>h.elim
 | _::_,_::_,h=>⟨h.1,h.2.add ht⟩
theorem a8.len{S:Nat->Prop}{w:OE}:∀{D:List Value} {ls:OD},a8 S w D ls->D.length=ls.length
 | [],[],_=>rfl
 | [],_::_,h=>h.elim
 | _::_,[],h=>h.elim
 | x::D,l::ls,h=>by simp[a8.len h.2]
theorem a8.at_{S:Nat->Prop}{w:OE}:∀{D:List Value} {ls:OD} (k:Nat),a8 S w D ls->k<ls.length->∃A n c,D[k]? = some (.slice A n c)/\a6 S w A n c (ls.getD k [])
 | [],[],_,_,hk=>absurd hk aD
 | [],_::_,_,h,_=>h.elim
 | _::_,[],_,h,_=>h.elim
 | x::D,l::ls,0,h,_=>by
  obtain⟨⟨A,n,c,e,ht⟩,_⟩:=h;exact⟨A,n,c,by simp[e],ht⟩
 | x::D,l::ls,k+1,h,hk=>by
  obtain⟨A,n,c,e,ht⟩:=a8.at_ k h.2 (by simpa using hk);exact⟨A,n,c,by simpa using e,by simpa using ht⟩
theorem E4{base:Nat}{I:List Value}{ls:OD}(h:w.ownsRow base 29 1 (.slice A n c) n I)(z:n=ls.length)(s:n<=5864062014805)(hr:a8 S w I ls)(hS:∀b,S b->b<w.heap.size):dN (· < w.heap.size) w A n c ls:=by
 refine⟨z.symm,s,fun G=>?_⟩;have F:=h;obtain⟨_,D⟩:=h;rcases D with⟨_,h2⟩|⟨g,cap',Y,hv,hg,hh,_⟩
 . omega
 injection hv with Z e2 e3;subst Z;refine⟨g,0,rfl,(aV F rfl).2.1,fun k hk=>?_⟩;obtain⟨O,n',U,hx,ht⟩:=hr.at_ k aA;refine⟨O,n',U,?_,ht.keep fun b o=>⟨hS b o,fun _=>rfl⟩⟩;rw[ML,F.cellAt k aA];exact hx
def e7(B:Nat)(w:OE)(v:Value)(b:Nat):Prop:=B<=b/\b<w.heap.size/\v.ownBlock≠some b
theorem jZ{base:Nat}{I:List Value}{ls:OD}{R:Nat->Prop}(h:w.ownsRow base 29 1 (.slice A n c) n I)(hn:n=ls.length)(z:n<=5864062014805)(hr:a8 S w I ls)(hS:∀b,S b->R b)(hv:∀g,(Value.slice A n c).ownBlock=some g->R g):dN R w A n c ls:=by
 refine⟨hn.symm,z,fun G=>?_⟩;have o:=h;obtain⟨_,D⟩:=h;rcases D with⟨_,h2⟩|⟨g,cap',Y,F,hg,hh,_⟩
 . omega
 injection F with Z e2 e3;subst Z;refine⟨g,0,rfl,hv g rfl,fun k hk=>?_⟩;obtain⟨O,n',U,hx,ht⟩:=hr.at_ k aA;refine⟨O,n',U,?_,ht.keep fun b s=>⟨hS b s,fun _=>rfl⟩⟩;rw[ML,o.cellAt k aA];exact hx
end Go.Proofs.Ytlahmbhimhmoaaa
