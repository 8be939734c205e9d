/- Merged: PutG, PartG, SenseP, SenseL, SenseM. -/
import Derived.Test.YtjoddliplahgkaaGreatPDeeps
namespace Go.Proofs.YtjoddliplahgkaaGreat
set_option linter.unusedVariables false
set_option linter.unusedSimpArgs false
open Go.RowKit
def pf (zs:List Int) (v z:Int):Bool:=decide (z<=v/\100<=SD zs (v-z))
theorem qR {p q:Int->Int->Bool} {c:Int} (h:∀v z,q v z=true->p v (z+c)=true) (pop pb:Int) : ∀(j:Nat) (a:Int) (F:Fo),oD q pop pb j a F=true->oD p pop pb j (a+c) F=true
 | _,_,.nil,hh=>by simp[oD] at hh
 | j,a,.cons pr n ats k x,hh=>by
  simp only[oD,Bool.or_eq_true,Bool.and_eq_true] at hh ⊢;have e:a+c+aR pop pb (j:Int)=a+aR pop pb (j:Int)+c:=aA;rw[e];rcases hh with (hh | hh) | hh
  · exact .inl (.inl ⟨hh.1,h _ _ hh.2⟩)
  · exact .inl (.inr (qR h n.op n.b 0 _ k hh))
  · exact .inr (qR h pop pb (j+1) a x hh)
theorem qS {p q:Int->Int->Bool} {c:Int} (h:∀v z,q v z=true->p v (z+c)=true) {a:Int} {n:Nd} {k:Fo} (hh:oI p (a+c) n k=false):oI q a n k=false:=by
 cases he:oI q a n k with
 | false=>rfl
 | true =>
  have:oI p (a+c) n k=true:=by
   unfold oI at he ⊢;simp only[Bool.or_eq_true,Bool.and_eq_true] at he ⊢;rcases he with he | he
   · exact .inl ⟨he.1,h _ _ he.2⟩
   exact .inr (qR h n.op n.b 0 _ k he)
  rw[this] at hh;cases hh
theorem L0 {p:Int->Int->Bool} {pop pb:Int} : ∀{k:Fo} {j:Nat} {a:Int},oD p pop pb j a k=false->∀i y,(cI k)[i]? = some y->oI p (a+aR pop pb ((j+i:Nat):Int)) y.1 y.2.2=false
 | .nil,_,_,_,i,y,h=>by simp[cI] at h
 | .cons pr n ats k x,j,a,hh,i,y,h=>by
  rw[eJ,Bool.or_eq_false_iff] at hh;rw[iW] at h;cases i with
  | zero =>
   simp only[List.getElem?_cons_zero,Option.some.injEq] at h;subst h;exact hh.1
  | succ i =>
   have:=L0 hh.2 i y (by simpa using h);rw[show j+(i+1)=j+1+i from by omega];exact this
theorem mI {p:Int->Int->Bool} {a:Int} {n:Nd} {k:Fo} (h:oI p a n k=false):(n.op=1->p n.a a=false)/\oD p n.op n.b 0 a k=false:=by
 unfold oI at h;rw[Bool.or_eq_false_iff] at h;refine⟨fun h1 => ?_,h.2⟩;have:=h.1;rw[decide_eq_true h1,Bool.true_and] at this;exact this
def far (a v z:Int):Bool:=decide (z<=v/\v-z<a)
def i5 (u:TT) (a:Int):TT:=(xI a 0 u.1 0,u.2.1,sJ a 0 u.1.op u.1.b 0 0 u.2.2)
structure oH (u:TT):Prop where
 ok:eN u.1=true
 at_:iR u.1 u.2.1
 wf:Wf (ds u.1) u.2.2
theorem oH.one {u:TT} (h:oH u):Wf [false] (.cons [] u.1 u.2.1 u.2.2 .nil):=⟨rfl,h.ok,h.at_,h.wf,trivial⟩
def sA (u:TT) (a:Int) (n:Nd):TT:=if n.a=a then i5 u a else if a<n.a then (⟨n.op,n.a-1,n.b⟩,[],.nil) else (n,[],.nil)
theorem zN (u:TT) (pop pb:Int) : ∀(j:Nat) (a:Int) (F:Fo),RK F->(oL ⟨u.1,u.2.1,u.2.2⟩ 0).E pop pb j a () F=row (vY (sA u) pop pb j a F)
 | _,_,.nil,_=>rfl
 | j,a,.cons p n ats k x,h=>by
  obtain⟨h1,h2,h3⟩:=h;have e:∀s:Unit,s=():=fun _=>rfl;rw[kG,cW.E_cons,cW.E1,e ((oL ⟨u.1,u.2.1,u.2.2⟩ 0).nx () n _),e ((oL ⟨u.1,u.2.1,u.2.2⟩ 0).S1 _ () n k),zN u n.op n.b 0 _ k h2,zN u pop pb (j+1) a x h3];have key:(oL ⟨u.1,u.2.1,u.2.2⟩ 0).em () n (a+aR pop pb j)++(ats++row (vY (sA u) n.op n.b 0 (a+aR pop pb j) k))=aW (AK (sA u) (a+aR pop pb j) (n,ats,k)):=by
   by_cases hv:n.op=1
   · obtain⟨rfl,rfl⟩:=h1 hv;rw[nY (x:=(n,[],.nil)) hv];simp only[oL,sA,vY,row,List.append_nil,Int.zero_add];by_cases h2:n.a=a+aR pop pb j
     · rw[if_pos ⟨hv,h2⟩,if_pos h2,CT];rfl
     rw[if_neg (fun h=>h2 h.2),if_neg h2];by_cases h3:a+aR pop pb j<n.a
     · rw[if_pos ⟨hv,h3⟩,if_pos h3];rfl
     rw[if_neg (fun h=>h3 h.2),if_neg h3];rfl
   rw[jT (x:=(n,ats,k)) hv];simp only[oL];rw[if_neg (fun h=>hv h.1),if_neg (fun h=>hv h.1)];rfl
  rw[key];simp[row,aW]
theorem N0 (u:TT) (a:Int):bI (i5 u a)=bI u:=by
 have h:=sR a 0 u.1.op u.1.b 0 0 u.2.2;rw[sS] at h;unfold i5 bI aW;simp only[List.length_cons,List.length_append,h]
theorem FU (u:TT) (pop pb:Int) : ∀(j:Nat) (a:Int) (F:Fo),RK F->((row (vY (sA u) pop pb j a F)).length:Int)=(row F).length+yR 0 pop pb j a F*((bI u:Int)-1)
 | _,_,.nil,_=>by simp[vY,row,yR]
 | j,a,.cons p n ats k x,h=>by
  obtain⟨h1,h2,h3⟩:=h;have ix:=FU u pop pb (j+1) a x h3;have ik:=FU u n.op n.b 0 (a+aR pop pb j) k h2;rw[kG,e7,e7];simp only[yR];rw[Int.add_mul,Int.add_mul];by_cases hv:n.op=1
  · obtain⟨rfl,rfl⟩:=h1 hv;rw[nY (x:=(n,[],.nil)) hv];simp only;have e1:bI (n,[],Fo.nil)=1:=rfl;have e2:yR 0 n.op n.b 0 (a+aR pop pb j) .nil=0:=rfl;have e3:sA u (a+aR pop pb j) n=if n.a=a+aR pop pb j then i5 u (a+aR pop pb j) else if a+aR pop pb j<n.a then (⟨n.op,n.a-1,n.b⟩,[],.nil) else (n,[],.nil):=rfl;rw[e1,e2,e3];have e4:(row Fo.nil).length=0:=rfl;rw[e4] at ik;clear e1 e2 e3 e4;by_cases h2:n.a=a+aR pop pb j
    · rw[if_pos h2,if_pos ⟨hv,by omega⟩];have:=N0 u (a+aR pop pb j);rw[show ((i5 u (a+aR pop pb j)).1,(i5 u (a+aR pop pb j)).2.1,(i5 u (a+aR pop pb j)).2.2)=i5 u (a+aR pop pb j) from rfl,this]
      push_cast
      omega
    have a0:¬ (n.op=1/\n.a-(a+aR pop pb (j:Int))=0):=aA;rw[if_neg h2,if_neg a0];split
    · have e1:bI (⟨n.op,n.a-1,n.b⟩,[],Fo.nil)=1:=rfl;simp only;rw[e1]
      push_cast
      omega
    have e1:bI (n,[],Fo.nil)=1:=rfl;simp only;rw[e1]
    push_cast
    omega
  · rw[jT (x:=(n,ats,k)) hv,if_neg (fun h=>hv h.1)];simp only;rw[dL,dL]
    push_cast
    omega
theorem sQ {B up:Int} (h0:0<=up) (pop pb:Int) (hp:∀j:Int,0<=aR pop pb j/\aR pop pb j<=4) : ∀(j:Nat) (z:Int) (F:Fo) (dl:List Bool),Wf dl F->oD (fun v z=>decide (B<=v-z)) pop pb j z F=false->B+z+4*((row F).length:Int)+up<=1048577->(jO up 0).G pop pb j z () F=true
 | _,_,.nil,_,_,_,_=>rfl
 | j,z,.cons p n ats k x,[],h,_,_=>h.elim
 | j,z,.cons p n ats k x,d::dr,h,he,hb=>by
  obtain⟨_,a0,_,hk,hx⟩:=h;rw[eJ,Bool.or_eq_false_iff] at he;obtain⟨a2,a1⟩:=he;obtain⟨t1,t2⟩:=mI a2;have hl:((row (.cons p n ats k x)).length:Int)=p.length+(1+ats.length+(row k).length)+(row x).length:=by rw[e7,dL];push_cast;omega
  have ha:=hp (j:Int);rw[cW.G_cons,cW.G1,Bool.and_eq_true,Bool.and_eq_true];refine⟨⟨?_,sQ h0 n.op n.b (eA a0) 0 _ k _ hk t2 aA⟩,sQ h0 pop pb hp (j+1) z x _ hx a1 aA⟩;simp only[jO];split
  · rename_i hh
    have:=t1 hh.1;rw[decide_eq_false_iff_not] at this;rw[decide_eq_true_eq];omega
  · rfl
def QP (u:TT) (M:Int):Prop:=∀a:Int,0<=a->a<=M->(jO a 0).G1 0 () u.1 u.2.2=true
theorem MZ {u:TT} {M:Int} (hu:QP u M) (pop pb:Int) (hp:∀j:Int,0<=aR pop pb j/\aR pop pb j<=4) : ∀(j:Nat) (a:Int) (F:Fo) (dl:List Bool),Wf dl F->0<=a->a+4*((row F).length:Int)<=M->(oL ⟨u.1,u.2.1,u.2.2⟩ 0).D pop pb j a () F
 | _,_,.nil,_,_,_,_=>trivial
 | j,a,.cons p n ats k x,[],h,_,_=>h.elim
 | j,a,.cons p n ats k x,d::dr,h,h0,hb=>by
  obtain⟨_,a0,_,hk,hx⟩:=h;have hl:((row (.cons p n ats k x)).length:Int)=p.length+(1+ats.length+(row k).length)+(row x).length:=by rw[e7,dL];push_cast;omega
  have ha:=hp (j:Int);rw[cW.D_cons,cW.D1];refine⟨⟨fun hh => ?_,MZ hu n.op n.b (eA a0) 0 _ k _ hk aA aA⟩,MZ hu pop pb hp (j+1) a x _ hx h0 aA⟩;rw[Int.zero_add];exact hu _ aA aA
theorem N1 {u:TT} (hu:oH u) {a:Int} (h0:0<=a) (hg:(jO a 0).G1 0 () u.1 u.2.2=true):oH (i5 u a):=by
 rw[cW.G1,Bool.and_eq_true] at hg;have hs:=qB a 0 u.1 0;have a0:ds (xI a 0 u.1 0)=ds u.1:=by simp only[ds,hs.1,hs.2]
 refine⟨M1 hu.ok h0 hg.1,?_,?_⟩
 · have:=hu.at_;show iR (xI a 0 u.1 0) u.2.1;unfold iR at this ⊢;rw[hs.1,hs.2];exact this
 show Wf (ds (xI a 0 u.1 0)) (sJ a 0 u.1.op u.1.b 0 0 u.2.2);rw[a0];exact FE h0 u.1.op u.1.b u.2.2 (ds u.1) 0 0 hu.wf hg.2
theorem NR {u:TT} (hu:oH u) {M:Int} (hM:QP u M) (pop pb:Int) (hp:∀j:Int,0<=aR pop pb j/\aR pop pb j<=4) : ∀(j:Nat) (a:Int) (F:Fo) (dl:List Bool),Wf dl F->0<=a->a+4*((row F).length:Int)<=M->Wf dl (vY (sA u) pop pb j a F)
 | _,_,.nil,_,h,_,_=>h
 | j,a,.cons p n ats k x,[],h,_,_=>h.elim
 | j,a,.cons p n ats k x,d::dr,h,h0,hb=>by
  obtain⟨a2,a0,a1,hk,hx⟩:=h;have hl:((row (.cons p n ats k x)).length:Int)=p.length+(1+ats.length+(row k).length)+(row x).length:=by rw[e7,dL];push_cast;omega
  have ha:=hp (j:Int);have ix:=NR hu hM pop pb hp (j+1) a x dr hx h0 aA;rw[kG];have key:oH (AK (sA u) (a+aR pop pb j) (n,ats,k)):=by
   by_cases hv:n.op=1;rotate_left
   · rw[jT (x:=(n,ats,k)) hv];exact⟨a0,a1,NR hu hM n.op n.b (eA a0) 0 _ k (ds n) hk aA aA⟩
   rw[nY (x:=(n,ats,k)) hv];unfold sA;split
   · exact N1 hu aA (hM _ aA aA)
   obtain⟨rfl,rfl⟩:=(show ats=[]/\k=.nil from (rP (.cons [] n ats k .nil) [false] ⟨rfl,a0,a1,hk,trivial⟩).1 hv);have a3:∀m:Nd,m.op=1->ds m=[]:=fun m h=>GJ h;split
   rotate_left
   · exact⟨a0,a1,hk⟩
   rename_i h1 h2
   simp only at h1 h2;refine⟨?_,?_,?_⟩
   · simp only;simp only[eN,Bool.and_eq_true] at a0;have h3:=aV.1 a0.1.1;have h4:n.b=0/\n.a<=1048576:=aA;rw[hv,h4.1];exact SE aA aA
   · show iR ⟨n.op,n.a-1,n.b⟩ [];unfold iR;rw[if_neg (by simp only;omega)]
   show Wf (ds ⟨n.op,n.a-1,n.b⟩) .nil;rw[a3 ⟨n.op,n.a-1,n.b⟩ hv];trivial
  exact⟨a2,key.ok,key.at_,key.wf,ix⟩
theorem EO {B c:Int} (hB:0<=B) (pop pb:Int) : ∀(j:Nat) (z:Int) (F:Fo),0<=c->oD (fun v z=>decide (B<=v-z)) pop pb j (z+c) (sJ c 0 pop pb j z F)=true->oD (fun v z=>decide (B<=v-z)) pop pb j z F=true
 | _,_,.nil,_,h=>by simp[sJ,oD] at h
 | j,z,.cons p n ats k x,h0,h=>by
  have hs:=qB c 0 n (z+aR pop pb j);simp only[sJ,oD,hs.1,hs.2,Bool.or_eq_true,Bool.and_eq_true,decide_eq_true_eq] at h ⊢;have e:z+c+aR pop pb (j:Int)=z+aR pop pb (j:Int)+c:=aA;rw[e] at h;rcases h with (⟨h1,h2⟩ | h) | h
  · refine .inl (.inl ⟨h1,?_⟩);unfold xI at h2;split at h2
    · simp only at h2;omega
    omega
  · exact .inl (.inr (EO hB n.op n.b 0 _ k h0 h))
  · exact .inr (EO hB pop pb (j+1) z x h0 h)
theorem NQ {u:TT} {B:Int} (hB:0<=B) (hu:oI (fun v z=>decide (B<=v-z)) 0 u.1 u.2.2=false) (pop pb:Int) (hp:∀j:Int,0<=aR pop pb j) : ∀(j:Nat) (a:Int) (F:Fo),RK F->SL F->0<=a->oD (fun v z=>decide (B+1<=v-z)) pop pb j a F=false->oD (fun v z=>decide (B<=v-z)) pop pb j a (vY (sA u) pop pb j a F)=false
 | _,_,.nil,_,_,_,_=>rfl
 | j,a,.cons p n ats k x,hk,hb,h0,he=>by
  obtain⟨k1,k2,k3⟩:=hk;obtain⟨b1,b2,b3⟩:=hb;have ha:=hp (j:Int);rw[eJ,Bool.or_eq_false_iff] at he;obtain⟨t1,t2⟩:=mI he.1;rw[kG,eJ,NQ hB hu pop pb hp (j+1) a x k3 b3 h0 he.2,Bool.or_false];by_cases hv:n.op=1
  · rw[nY (x:=(n,ats,k)) hv];have t3:=t1 hv;rw[decide_eq_false_iff_not] at t3;unfold sA;split
    · cases hh:oI (fun v z=>decide (B<=v-z)) (a+aR pop pb j) (i5 u (a+aR pop pb j)).1 (i5 u (a+aR pop pb j)).2.2 with
      | false=>rfl
      | true =>
       have e1:oD (fun v z=>decide (B<=v-z)) 0 0 0 (0+(a+aR pop pb j)) (sJ (a+aR pop pb j) 0 0 0 0 0 (.cons [] u.1 u.2.1 u.2.2 .nil))=true:=by
        rw[sP,eJ,Int.zero_add];have hz:aR 0 0 ((0:Nat):Int)=0:=by decide
        rw[hz,Int.add_zero,Bool.or_eq_true];exact .inl hh
       have e2:=EO hB 0 0 0 0 _ aA e1;have hz:aR 0 0 ((0:Nat):Int)=0:=by decide
       rw[eJ,hz,Int.add_zero,hu] at e2;simp[oD] at e2
    split
    · simp only[oI,oD,Bool.or_false];rw[decide_eq_true hv,Bool.true_and];exact decide_eq_false (by simp only at *;omega)
    simp only[oI,oD,Bool.or_false];rw[decide_eq_true hv,Bool.true_and];exact decide_eq_false (by simp only at *;omega)
  · rw[jT (x:=(n,ats,k)) hv];simp only[oI];rw[decide_eq_false hv,Bool.false_and,Bool.false_or];exact NQ hB hu n.op n.b (IL b1) 0 _ k k2 b2 aA t2
theorem uV {u:TT} (P:Nd->Prop) (hv:∀m:Nd,m.op=1->P m) (hu:∀m ∈ aW u,P m) (pop pb:Int) : ∀(j:Nat) (a:Int) (F:Fo),(∀m ∈ row F,P m)->∀m ∈ row (vY (sA u) pop pb j a F),P m
 | _,_,.nil,_,m,hm=>by simp[vY,row] at hm
 | j,a,.cons p n ats k x,h,m,hm=>by
  have a1:row (.cons p n ats k x)=p++(aW (n,ats,k)++row x):=by simp[row,aW]
  rw[a1] at h;have a0:∀(y:TT) (F:Fo),row (.cons p y.1 y.2.1 y.2.2 F)=p++(aW y++row F):=fun y F=>by simp[row,aW]
  rw[kG,a0,List.mem_append,List.mem_append] at hm;rcases hm with hm | hm | hm
  · exact h m (by simp[hm])
  · by_cases h1:n.op=1
    · rw[nY (x:=(n,ats,k)) h1] at hm;unfold sA at hm;split at hm
      · have h2:=z9 (up:=a+aR pop pb j) (fr:=0) 0 0 0 0 (.cons [] u.1 u.2.1 u.2.2 .nil) m (by
         rw[sP];simpa[row,aW,i5] using hm)
        rcases h2 with h2 | h2
        · exact hu m (by simpa[row,aW] using h2)
        exact hv m h2
      split at hm
      · simp only[aW,row,List.append_nil,List.mem_singleton] at hm;subst hm;exact hv _ h1
      simp only[aW,row,List.append_nil,List.mem_singleton] at hm;subst hm;exact hv _ h1
    rw[jT (x:=(n,ats,k)) h1] at hm;simp only[aW,List.mem_cons,List.mem_append] at hm;rcases hm with rfl | hm | hm
    · exact h _ (by simp[aW])
    · exact h m (by simp[aW,hm])
    exact uV P hv hu n.op n.b 0 _ k (fun m hm=>h m (by simp[aW,hm])) m hm
  · exact uV P hv hu pop pb (j+1) a x (fun m hm=>h m (by simp[hm])) m hm
theorem EX:∀{F:Fo} {dl:List Bool},Wf dl F->∀{y:TT},y ∈ cI F->oH y
 | .nil,_,_,y,h=>by cases h
 | .cons _ _ _ _ _,[],h,_,_=>h.elim
 | .cons p n a k x,d::dr,h,y,hy=>by
  obtain⟨_,a0,a1,hk,hx⟩:=h;rw[iW] at hy;rcases List.mem_cons.1 hy with rfl | hy
  · exact⟨a0,a1,hk⟩
  · exact EX hx hy
inductive RV where
 | ok (x:TT) (f:Nat)
 | er (e:Int)
def dA (x:TT):Int:=(lW x.2.2).getD x.1.a.toNat 0
def cH (x u:TT):TT×Int:=if 4096<(bI x:Int)+pJ 0 x.1 x.2.2*((bI u:Int)-1) then (x,9) else (AK (sA u) 0 x,0)
def gF (f a:TT):TT:=(⟨6,0,0⟩,[],.cons [] f.1 f.2.1 f.2.2 (.cons [] a.1 a.2.1 a.2.2 .nil))
def eD (h:TT) (i:Nat):TT:=(⟨h.1.op,(i:Int),h.1.b⟩,h.2.1,h.2.2)
structure bR (b:Bk) (free:Int) (x:TT):Prop where
 okt:oH x
 few:bI x<=4096
 low:oI (fun v z=>decide (free<=v-z)) 0 x.1 x.2.2=false
 nod:∀m ∈ aW x,cN b b.entries.length (-1) m=true
theorem bR.rt {b:Bk} {free:Int} {x:TT} (h:bR b free x):II x:=nV h.okt.ok h.okt.at_ h.okt.wf h.few
theorem EP {b:Bk} {free:Int} {l:List Nd} (h:fA b free l=0):l=aW (cP l)/\bR b free (cP l):=by
 obtain⟨hr,hf,a1⟩:=L5 h;obtain⟨hs,a2,a4⟩:=xL a1;obtain⟨n,a,k,a0⟩:=H5 hs;obtain⟨a3,a5,hk⟩:=a0.wf;rw[yD a0];have e:l=aW (n,a,k):=a0.eq;refine⟨e,⟨⟨a3,a5,hk⟩,by have:=a0.few;rw[e] at this;exact this,?_,fun m hm=>a4 m (by rw[e];exact hm)⟩⟩;rw[LF a0,Bool.not_eq_true',show max free 0=free from by omega] at a2;exact a2
theorem bR.mono {b:Bk} {free free':Int} {x:TT} (h:bR b free x) (hf:free<=free'):bR b free' x :=
 ⟨h.okt,h.few,qS (p:=fun v z=>decide (free<=v-z)) (q:=fun v z=>decide (free'<=v-z)) (c:=0) (fun v z hh=>by
  simp only[decide_eq_true_eq] at hh ⊢;omega) (a:=0) h.low,h.nod⟩
theorem bR.kid {b:Bk} {free:Int} {x:TT} (h:bR b free x) {i:Nat} {y:TT} (hy:(cI x.2.2)[i]? = some y):bR b (free+aR x.1.op x.1.b (i:Int)) y:=by
 obtain⟨n,a,k⟩:=x;have a0:y ∈ cI k:=List.mem_of_getElem? hy;have a1:=rN a0;have hf:=h.few;rw[dL] at hf;refine⟨EX h.okt.wf a0,by omega,?_,fun m hm=>h.nod m ?_⟩
 · have e1:=L0 (mI h.low).2 i y hy;rw[Nat.zero_add] at e1;refine qS (p:=fun v z=>decide (free<=v-z)) (fun v z hh => ?_) e1;simp only[decide_eq_true_eq] at hh ⊢;omega
 simp only[aW,List.mem_cons,List.mem_append];exact .inr (.inr (G9 a0 m hm))
theorem bR.kid0 {b:Bk} {free:Int} {x:TT} (h:bR b free x) {i:Nat} {y:TT} (hy:(cI x.2.2)[i]? = some y) (h0:aR x.1.op x.1.b (i:Int)=0):bR b free y:=by
 have:=h.kid hy
 rwa [h0,Int.add_zero] at this
theorem OI {b:Bk} {free:Int} {g a:TT} (hg:bR b free g) (ha:bR b free a) (hs:1+bI g+bI a<=4096):bR b free (gF g a):=by
 have a0:aW (gF g a)=⟨6,0,0⟩::(aW g++aW a):=by simp[gF,aW,row]
 have hz:∀k:Int,aR 6 0 k=0:=lM aE aE aE aE;refine⟨⟨(by show eN ⟨6,0,0⟩=true;decide),rfl,?_⟩,?_,?_,?_⟩
 · show Wf (ds ⟨6,0,0⟩) _;have a1:ds ⟨6,0,0⟩=[false,false]:=rfl;rw[a1];exact⟨rfl,hg.okt.ok,hg.okt.at_,hg.okt.wf,rfl,ha.okt.ok,ha.okt.at_,ha.okt.wf,trivial⟩
 · show (aW (gF g a)).length<=4096;rw[a0];simp only[List.length_cons,List.length_append];simp only[bI] at hs;omega
 · unfold gF oI;simp only;rw[eJ,eJ,hz,hz,Int.add_zero,hg.low,ha.low];rfl
 rw[a0];intro m hm;rcases List.mem_cons.1 hm with rfl | hm
 · rfl
 rcases List.mem_append.1 hm with hm | hm
 · exact hg.nod m hm
 exact ha.nod m hm
theorem yM (g a:TT):bI (gF g a)=1+bI g+bI a:=by
 have a0:aW (gF g a)=⟨6,0,0⟩::(aW g++aW a):=by simp[gF,aW,row]
 unfold bI;rw[a0];simp only[List.length_cons,List.length_append];omega
theorem QY {op na nb i:Int} (h12:op=12) (h:eN ⟨op,na,nb⟩=true) (h0:0<=i) (h1:i<nb):eN ⟨op,i,nb⟩=true:=by
 have h2:cD op na nb=true/\op ≠ 3/\op ≠ 13:=by
  simp only[eN,Bool.and_eq_true,decide_eq_true_eq] at h;exact⟨h.1.1,h.1.2,h.2⟩
 have a0:=h2.1;rw[aV] at a0;have h4:1<=nb/\nb<=4:=aA;clear a0;have h3:cD op i nb=true:=by
  rw[aV];exact .inr (.inr (.inr (.inr (.inr (.inr (.inr (.inl ⟨h12,h4.1,h4.2,h0,h1⟩)))))))
 unfold eN;simp only;rw[h3,decide_eq_true h2.2.1,decide_eq_true h2.2.2];rfl
theorem ML {b:Bk} {known self:Int} {m:Nd} (h:m.op=12):cN b known self m=true:=by
 unfold cN;rw[if_neg aA,if_neg aA,if_neg aA,if_neg aA,if_neg aA]
theorem qU {b:Bk} {free:Int} {h:TT} (hh:bR b free h) (h12:h.1.op=12) {i:Nat} (hi:(i:Int)<h.1.b):bR b free (eD h i):=by
 obtain⟨⟨op,na,nb⟩,a,k⟩:=h;have e:aW (eD (⟨op,na,nb⟩,a,k) i)=⟨op,(i:Int),nb⟩::(a++row k):=rfl;have e0:aW (⟨op,na,nb⟩,a,k)=⟨op,na,nb⟩::(a++row k):=rfl;refine⟨⟨QY h12 hh.okt.ok aA hi,?_,hh.okt.wf⟩,?_,?_,?_⟩
 · have:=hh.okt.at_;unfold iR at this ⊢;exact this
 · have:=hh.few;unfold bI at this ⊢;rw[e];rw[e0] at this;exact this
 · have hl:=(mI hh.low).2;unfold oI;have h1:decide ((eD (⟨op,na,nb⟩,a,k) i).1.op=1)=false:=decide_eq_false (by show ¬ op=1;simp only at h12;omega);rw[h1,Bool.false_and,Bool.false_or];exact hl
 intro m hm;rw[e] at hm;rcases List.mem_cons.1 hm with rfl | hm
 · exact ML h12
 exact hh.nod m (by rw[e0];exact List.mem_cons_of_mem _ hm)
theorem nZ:∀{F:Fo} {dl:List Bool},Wf dl F->(cI F).length=dl.length
 | .nil,[],_=>rfl
 | .nil,_::_,h=>h.elim
 | .cons _ _ _ _ _,[],h=>h.elim
 | .cons p n a k x,d::dr,h=>by
  rw[iW,List.length_cons,List.length_cons,nZ h.2.2.2.2]
theorem hI {x:TT} (hx:oH x) (h12:x.1.op=12):1<=x.1.b/\x.1.b<=4/\0<=x.1.a/\x.1.a<x.1.b/\(cI x.2.2).length=2*x.1.b.toNat:=by
 have a0:=hx.ok;have hl:=nZ hx.wf;rw[qP a0] at hl;simp only[eN,Bool.and_eq_true] at a0;have a1:=aV.1 a0.1.1;refine⟨by omega,by omega,by omega,by omega,?_⟩;rw[hl];unfold cX;rw[h12];simp;omega
theorem R9 {x:TT} (h:oH x) (h12:x.1.op=12):(cO x.2.2).length=x.1.b.toNat/\(∀m ∈ cO x.2.2,0<=m.a/\m.a<16):=by
 have a3:=h.ok;simp only[eN,Bool.and_eq_true] at a3;have a4:ds x.1=(List.replicate x.1.b.toNat [true,false]).flatten:=by unfold ds;rw[if_pos h12]
 have key:∀(B:Nat) (F:Fo),Wf ((List.replicate B [true,false]).flatten) F->(cO F).length=B/\(∀m ∈ cO F,0<=m.a/\m.a<16):=by
  intro B
  induction B with
  | zero =>
   intro F hF;cases F with
   | nil=>exact⟨rfl,fun m hm=>by cases hm⟩
   | cons _ _ _ _ _=>exact hF.elim
  | succ B ih =>
   intro F hF;rw[List.replicate_succ,List.flatten_cons] at hF
   match F,hF with
   | .cons p1 n1 a1 k1 (.cons p2 n2 a2 k2 x),hF =>
    obtain⟨⟨f,rfl,hf⟩,_,_,_,a0,_,_,_,hx⟩:=hF;simp only at a0;subst a0;obtain⟨g1,g2⟩:=ih x hx;simp only[cO,List.nil_append];refine⟨by simp[g1],fun m hm => ?_⟩;simp only[List.singleton_append,List.mem_cons] at hm;rcases hm with rfl | hm
    · simp only[vI,Bool.and_eq_true,decide_eq_true_eq] at hf;have:=aV.1 hf.1;omega
    · exact g2 m hm
   | .cons p1 n1 a1 k1 .nil,hF=>exact hF.2.2.2.2.elim
   | .nil,hF=>exact hF.elim
 exact key _ x.2.2 (a4 ▸ h.wf)
theorem lE {x:TT} (h:oH x) (h12:x.1.op=12):0<=dA x/\dA x<16:=by
 obtain⟨h1,h2⟩:=R9 h h12;obtain⟨_,_,h3,h4,_⟩:=hI h h12;unfold dA lW;have hl:x.1.a.toNat<((cO x.2.2).map (·.a)).length:=by rw[List.length_map,h1];omega
 rw[List.getD_eq_getElem?_getD,List.getElem?_eq_getElem hl];simp only[Option.getD_some,List.getElem_map];exact h2 _ (List.getElem_mem _)
theorem JM {b:Bk} {k k':Int} {m:Nd} (h:cN b k (-1) m=true) (hk:k<=k'):cN b k' (-1) m=true:=by
 have a0:∀e,fG b k e=true->fG b k' e=true:=fun e he=>by
  unfold fG at he ⊢;rw[Bool.and_eq_true,decide_eq_true_eq] at he ⊢;exact⟨by omega,he.2⟩
 unfold cN at h ⊢;split
 · rename_i h3
   rw[if_pos h3] at h;exact h
 rename_i h3
 rw[if_neg h3] at h;split
 · rename_i h8
   rw[if_pos h8,Bool.and_eq_true,decide_eq_true_eq] at h;rw[Bool.and_eq_true,decide_eq_true_eq];exact⟨by omega,h.2⟩
 rename_i h8
 rw[if_neg h8] at h;split
 · rename_i h9
   rw[if_pos h9,Bool.or_eq_true] at h;rw[Bool.or_eq_true];exact h.imp id (a0 _)
 rename_i h9
 rw[if_neg h9] at h;split
 · rename_i h11
   rw[if_pos h11] at h;exact a0 _ h
 rename_i h11
 rw[if_neg h11] at h;split
 · rename_i h10
   rw[if_pos h10,Bool.and_eq_true] at h;rw[Bool.and_eq_true];exact⟨a0 _ h.1,h.2⟩
 rfl
theorem tH {b:Bk} : ∀(L:List En) (i:Nat),dE b i L=0->∀(j:Nat) (x:En),L[j]? = some x->dD b ((i+j:Nat):Int) x=0
 | [],_,_,j,x,h=>by simp at h
 | y::r,i,he,0,x,h=>by
  simp only[List.getElem?_cons_zero,Option.some.injEq] at h;subst h;simp only[dE] at he;split at he
  · rename_i h0;exact absurd he h0
  · rename_i h0;exact Classical.not_not.1 h0
 | y::r,i,he,j+1,x,h=>by
  simp only[dE] at he;split at he
  · rename_i h0;exact absurd he h0
  · have:=tH r (i+1) he j x (by simpa using h)
    rwa [show i+1+j=i+(j+1) from by omega] at this
theorem vU {b:Bk} (h:bP b=0):dE b 0 b.entries=0:=by
 unfold bP at h;split at h
 · rename_i h0;exact absurd h h0
 split at h
 · cases h
 split at h
 · rename_i h0;exact absurd h h0
 rename_i h0;exact Classical.not_not.1 h0
theorem LG {b:Bk} (hr:bP b=0) {e:Int} (h0:0<=e) (h1:e<(b.entries.length:Int)) (h2:(bK b e).kind=2):fA b 0 (bK b e).body=0:=by
 have hl:e.toNat<b.entries.length:=aA;have hx:b.entries[e.toNat]? = some (bK b e):=by
  unfold bK;rw[List.getD_eq_getElem?_getD,List.getElem?_eq_getElem hl];rfl
 have he:=tH _ _ (vU hr) _ _ hx;rw[Nat.zero_add] at he;unfold dD at he;rw[if_neg aA,if_pos h2] at he;split at he
 · cases he
 simp only[cZ] at he;split at he
 · rename_i h3;exact absurd he h3
 split at he
 · rename_i h3;exact absurd he h3
 rename_i h3
 have h4:=Classical.not_not.1 h3;rw[Int.add_zero] at h4;obtain⟨a1,a2,a3⟩:=xL h4;exact O1 hr aA (PP a1 a2 (fun m hm=>JM (a3 m hm) aA))
theorem pV {x:TT} (h:oH x) (h6:x.1.op=6\/x.1.op=5\/x.1.op=4) : ∃p q,cI x.2.2=[p,q]:=by
 have hl:=nZ h.wf;rw[qP h.ok] at hl;unfold cX at hl;generalize cI x.2.2=L at *;have:L.length=2:=by
  rw[hl];rcases h6 with h6 | h6 | h6<;>rw[h6]<;>rfl
 match L,this with
 | [p,q],_=>exact⟨p,q,rfl⟩
theorem lU {x:TT} (h:oH x) (h7:x.1.op=7) : ∃p q r,cI x.2.2=[p,q,r]:=by
 have hl:=nZ h.wf;rw[qP h.ok] at hl;unfold cX at hl;generalize cI x.2.2=L at *;have:L.length=3:=by rw[hl,h7];rfl
 match L,this with
 | [p,q,r],_=>exact⟨p,q,r,rfl⟩
theorem eK {x:TT} (h:oH x) (h11:x.1.op=11) : ∃p q br,cI x.2.2=p::q::br/\(br.length:Int)=x.1.b:=by
 have hl:=nZ h.wf;have a0:=h.ok;rw[qP a0] at hl;simp only[eN,Bool.and_eq_true] at a0;have hb:=(gT a0.1.1).1;unfold cX at hl;generalize cI x.2.2=L at *;have:L.length=2+x.1.b.toNat:=by rw[hl,h11];simp;omega
 match L,this with
 | p::q::br,this=>exact⟨p,q,br,rfl,by simp at this;omega⟩
 | [_],this=>simp at this;omega
 | [],this=>simp at this;omega
theorem yV {x:TT} (h:oH x) (_h10:x.1.op=10):0<=x.1.b:=by
 have a0:=h.ok;simp only[eN,Bool.and_eq_true] at a0;exact (gT a0.1.1).1
end Go.Proofs.YtjoddliplahgkaaGreat
