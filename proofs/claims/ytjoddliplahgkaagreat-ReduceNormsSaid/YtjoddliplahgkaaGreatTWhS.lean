/- Merged: WhR, GoP, WhS. -/
import Derived.Test.YtjoddliplahgkaaGreatTWhQ
namespace Go.Proofs.YtjoddliplahgkaaGreat
set_option maxRecDepth 20000
set_option linter.unusedVariables false
set_option linter.unusedSimpArgs false
open Go.RowKit
variable {b:Bk}{f:Fc}{free room:Int}{cv:aAA}{n:Nat}{p:TT}
section
theorem JO{x:TT}{q:TT}{br:List TT}(h:bH x.2.2=p::q::br):gB x.2.2 q=x.2.2:=by
 obtain⟨n,a,k⟩:=x
 match k,h with
 | .cons pr n1 a1 k1 (.cons qr n2 a2 k2 r),h =>
  simp only[bH,ZI]at h;obtain⟨_,rfl,_⟩:=h;rfl
theorem xS{k:Fo}{q:TT}{br:List TT}(h:bH k=p::q::br)(t:TT):bH (gB k t)=p::t::br:=by
 match k,h with
 | .cons pr n1 a1 k1 (.cons qr n2 a2 k2 r),h =>
  simp only[bH,ZI]at h;obtain⟨rfl,_,rfl⟩:=h;rfl
theorem FR{k:Fo}{q:TT}{br:List TT}(h:bH k=p::q::br)(t u:TT):gB (gB k t) u=gB k u:=by
 match k,h with
 | .cons pr n1 a1 k1 (.cons qr n2 a2 k2 r),h=>rfl
theorem tL(O:dM b free f)(h:cQ f=some p):dW f p=f:=by
 unfold cQ at h;unfold dW;split at h
 . rename_i D
   rw[XP D];injection h with h;obtain⟨u,q,br,F,_⟩:=eT O.head.okt D;have U:eM f.1 1=q:=dO (i:=1) (by rw[F];rfl);rw[<-h,U,JO F]
 split at h
 . rename_i D I
   rw[XN D];split at h
   . rename_i G
     injection h with h;have e:f.2.set (dG f.1).toNat p=f.2:=by
      rw[<-h,YD,YB G];exact List.set_getElem_self G
     rw[e]
   cases h
 cases h
theorem OD(F:dM b free f)(h:cQ f=some p)(q t:TT):dW (dW f q) t=dW f t:=by
 unfold cQ at h;unfold dW;split at h
 . rename_i D
   obtain⟨u,I,br,G,_⟩:=eT F.head.okt D;rw[XP D];simp only;rw[XP D,XP D,FR G]
 rename_i D
 rw[XN D];simp only;rw[XN D,XN D,List.set_set]
theorem NH(I:dM b free f)(h:cQ f=some p)(q:TT):cQ (dW f q)=some q:=by
 unfold cQ at h ⊢;unfold dW;split at h
 . rename_i D
   obtain⟨u,U,br,O,_⟩:=eT I.head.okt D;rw[XP D];simp only;rw[XP D];have:eM (f.1.1,f.1.2.1,gB f.1.2.2 q) 1=q:=dO (i:=1) (by simp only;rw[xS O];rfl);rw[this]
 rename_i D
 rw[XN D];split at h
 . rename_i F
   simp only;rw[XN D,XP F];split at h
   . rename_i G
     rw[List.length_set,XP G,YD,List.getElem?_set_self G];rfl
   cases h
 cases h
theorem JB(F:bT b cv f=true)(h:cQ f=some p):(bX p).1.1.op=10:=by
 unfold cQ at h;unfold bT at F;split at h
 . rename_i D
   injection h with h;rw[XN aA,XN aA,XN aA,XP D,h]at F;unfold fA at F;rw[YC,beq_iff_eq]at F;exact F.1
 split at h
 . rename_i D G
   split at h
   . injection h with h;rw[XN aA,XN aA,XN aA,XN D,XP G,YC,beq_iff_eq,h]at F;exact F.2
   cases h
 cases h
theorem G4(h:f.1.1.op=10):bT b cv f=false/\cQ f=none:=by
 unfold bT cQ;exact⟨by rw[XN aA,XN aA,XN aA,XN aA,XN aA],by rw[XN aA,XN aA]⟩
theorem RO(D:bT b cv f=false)(F:cQ f=none)(g n:Nat)(room:Int):mK b cv (g+1) n f room=.done f n:=by
 unfold mK;rw[F];simp only;rw[XN (by rw[D];simp)]
def yI(b:Bk)(cv:aAA)(g n:Nat)(f:Fc)(room:Int):R4 :=
 if bT b cv f=true then
  if n=0 then .bad 10
  else match jJ b cv f with
   | none=>.bad 9
   | some y=>if room<(dA y:Int) then .bad 9 else mK b cv g (n-1) y room
 else .done f n
theorem pK(h:cQ f=some p)(g n:Nat)(room:Int):mK b cv (g+1) n f room=match mK b cv g n (bX p) (room-dA f+bL p) with
 | .bad e=>.bad e
 | .done y m=>yI b cv g m (dW f (gA y)) room:=by
 conv=>lhs;unfold mK
 rw[h];simp only;cases mK b cv g n (bX p) (room-dA f+bL p)<;>rfl
theorem lM(h:cQ f=none)(g n:Nat)(room:Int):mK b cv (g+1) n f room=yI b cv g n f room:=by
 conv=>lhs;unfold mK
 rw[h];rfl
theorem tK{b:Bk}{cv:aAA}(Y:bU b=0)(O:gG b cv):∀(g n:Nat)(f:Fc)(room:Int),dM b (cv.length:Int) f->(dA f:Int)<=room->room<=4096->∀y m,mK b cv g n f room=.done y m->dM b (cv.length:Int) y/\(dA y:Int)<=room/\m<=n
 | 0,n,f,room,_,_,_,y,m,h=>by cases h
 | g+1,n,f,room,hf,h1,h2,y,m,h=>by
  have key:∀(G:Fc)(I:Nat),dM b (cv.length:Int) G->(dA G:Int)<=room->I<=n->yI b cv g I G room=.done y m->dM b (cv.length:Int) y/\(dA y:Int)<=room/\m<=n:=by
   intro G I F o U D;unfold yI at D;split at D
   . rename_i Z
     split at D
     . cases D
     split at D
     . cases D
     rename_i z hz
     split at D
     . cases D
     obtain⟨s,q2,q3⟩:=tK Y O g (I-1) z room (lJ Y O F Z hz).1 aA h2 y m D;exact⟨s,q2,by omega⟩
   injection D with e1 e2;subst e1 e2;exact⟨F,o,U⟩
  cases hp:cQ f with
  | none =>
   rw[lM hp]at h;exact key f n hf h1 (XU _) h
  | some p =>
   rw[pK hp]at h;obtain⟨p1,p2⟩:=gU hf hp;cases hw:mK b cv g n (bX p) (room-dA f+bL p) with
   | bad e=>rw[hw]at h;cases h
   | done z k =>
    rw[hw]at h;simp only at h;obtain⟨s,q2,q3⟩:=tK Y O g n (bX p) (room-dA f+bL p) (lQ p1) (by rw[eY p1];omega) aA z k hw;have hz:=s.fit aA;have a0:=gM z;obtain⟨r1,r2⟩:=jA hf hp hz aA;exact key _ k r1 aA q3 h
theorem qH{b:Bk}{cv:aAA}(Y:bU b=0)(U:gG b cv):∀(g n:Nat)(f:Fc)(room:Int),dM b (cv.length:Int) f->(dA f:Int)<=room->room<=4096->n*4097+dA f<g->mK b cv g n f room≠.bad 99/\∀k,mK b cv (g+k) n f room=mK b cv g n f room
 | 0,n,f,room,_,_,_,h=>absurd h aA
 | g+1,n,f,room,hf,h1,h2,hg=>by
  have key:∀(O:Fc)(G:Nat),dM b (cv.length:Int) O->G<=n->yI b cv g G O room≠.bad 99/\∀k,yI b cv (g+k) G O room=yI b cv g G O room:=by
   intro O G Z a0;unfold yI;split
   rotate_left
   . exact⟨fun h=>(by cases h),fun _=>rfl⟩
   rename_i o
   split
   . exact⟨fun h=>(by injection h with h;cases h),fun _=>rfl⟩
   cases hz:jJ b cv O with
   | none=>exact⟨fun h=>(by injection h with h;cases h),fun _=>rfl⟩
   | some z =>
    simp only;split
    . exact⟨fun h=>(by injection h with h;cases h),fun _=>rfl⟩
    . have s:=lJ Y U Z o hz;refine qH Y U g (G-1) z room s.1 aA h2 ?_;have:(G-1)*4097+4097<=n*4097:=by
       have:(G-1+1)*4097<=n*4097:=Nat.mul_le_mul_right _ aA;omega
      omega
  cases hp:cQ f with
  | none =>
   refine⟨by rw[lM hp];exact (key f n hf (XU _)).1,fun k=>?_⟩;rw[show g+1+k=(g+k)+1 from by omega,lM hp,lM hp];exact (key f n hf (XU _)).2 k
  | some p =>
   obtain⟨p1,p2⟩:=gU hf hp;have a1:=eY p1;obtain⟨i1,i2⟩:=qH Y U g n (bX p) (room-dA f+bL p) (lQ p1) aA aA aA;have D:∀k,mK b cv (g+k+1) n f room=(match mK b cv g n (bX p) (room-dA f+bL p) with
    | .bad e=>.bad e
    | .done y m=>yI b cv (g+k) m (dW f (gA y)) room):=fun k=>by rw[pK hp,i2 k]
   cases hw:mK b cv g n (bX p) (room-dA f+bL p) with
   | bad e =>
    rw[hw]at i1;refine⟨by have:=D 0;rw[hw]at this;simp only[YF]at this;rw[this];exact i1,fun k=>?_⟩;have I:=D k;have F:=D 0;rw[hw]at I F;simp only[YF]at I F;rw[show g+1+k=g+k+1 from by omega,I,F]
   | done z m =>
    obtain⟨q1,q2,q3⟩:=tK Y U g n (bX p) (room-dA f+bL p) (lQ p1) aA aA z m hw;have hz:=q1.fit aA;have a2:=gM z;obtain⟨r1,r2⟩:=jA hf hp hz aA;obtain⟨k1,k2⟩:=key _ m r1 q3;have F:=D 0;rw[hw]at F;simp only[YF]at F;refine⟨by rw[F];exact k1,fun k=>?_⟩;have I:=D k;rw[hw]at I;simp only at I;rw[show g+1+k=g+k+1 from by omega,I,F];exact k2 k
theorem VA(Y:bU b=0)(O:gG b cv){g D:Nat}(U:dM b (cv.length:Int) f)(G:(dA f:Int)<=room)(I:room<=4096)(Z:n*4097+dA f<g)(F:n*4097+dA f<D):mK b cv g n f room=mK b cv D n f room:=by
 rcases Nat.le_total g D with h|h
 . rw[<-(qH Y O g n f room U G I Z).2 (D-g),show g+(D-g)=D from by omega]
 rw[<-(qH Y O D n f room U G I F).2 (g-D),show D+(g-D)=g from by omega]
def kI(b:Bk)(cv:aAA)(n:Nat)(f:Fc)(room:Int):R4:=mK b cv (n*4097+dA f+1) n f room
theorem RJ(U:bU b=0)(G:gG b cv){g:Nat}(I:dM b (cv.length:Int) f)(D:(dA f:Int)<=room)(F:room<=4096)(O:n*4097+dA f<g):mK b cv g n f room=kI b cv n f room:=VA U G I D F O aA
def DL(b:Bk)(cv:aAA)(n:Nat)(f:Fc)(room:Int):R4 :=
 if bT b cv f=true then
  if n=0 then .bad 10
  else match jJ b cv f with
   | none=>.bad 9
   | some y=>if room<(dA y:Int) then .bad 9 else kI b cv (n-1) y room
 else .done f n
theorem UB(I:bU b=0)(G:gG b cv){g:Nat}(U:dM b (cv.length:Int) f)(O:room<=4096)(Y:n*4097<=g):yI b cv g n f room=DL b cv n f room:=by
 unfold yI DL;split
 . rename_i D
   split
   . rfl
   cases hz:jJ b cv f with
   | none=>rfl
   | some z =>
    simp only;split
    . rfl
    . have F:=lJ I G U D hz;refine RJ I G F.1 aA O ?_;have:(n-1+1)*4097<=n*4097:=Nat.mul_le_mul_right _ aA;omega
 rfl
theorem oM(I:bU b=0)(F:gG b cv)(G:dM b (cv.length:Int) f)(D:room<=4096)(h:cQ f=none):kI b cv n f room=DL b cv n f room:=by
 unfold kI;rw[lM h];exact UB I F G D aA
theorem iJ(F:bU b=0)(D:gG b cv)(I:dM b (cv.length:Int) f)(s:(dA f:Int)<=room)(O:room<=4096)(h:cQ f=some p):kI b cv n f room=match kI b cv n (bX p) (room-dA f+bL p) with
 | .bad e=>.bad e
 | .done y m=>DL b cv m (dW f (gA y)) room:=by
 obtain⟨G,p2⟩:=gU I h;have U:=eY G;have e:mK b cv (n*4097+dA f) n (bX p) (room-dA f+bL p)=kI b cv n (bX p) (room-dA f+bL p):=RJ F D (lQ G) aA aA aA
 conv=>lhs;unfold kI
 rw[pK h,e];cases hw:kI b cv n (bX p) (room-dA f+bL p) with
 | bad e=>rfl
 | done z m =>
  simp only;obtain⟨Z,q2,o⟩:=tK F D _ n (bX p) (room-dA f+bL p) (lQ G) aA aA z m hw;have hz:=Z.fit aA;have Y:=gM z;obtain⟨r1,r2⟩:=jA I h hz aA;refine UB F D r1 O ?_;have:m*4097<=n*4097:=Nat.mul_le_mul_right _ o;omega
theorem rZ(O:bU b=0)(G:gG b cv){m:Nat}{y:Fc}(I:dM b (cv.length:Int) f)(D:(dA f:Int)<=room)(F:room<=4096)(h:kI b cv n f room=.done y m):dM b (cv.length:Int) y/\(dA y:Int)<=room/\m<=n:=tK O G _ n f room I D F y m h
def VS(b:Bk)(cv:aAA)(f:Fc)(room:Int):VE->Prop
 | .no=>∀n,kI b cv n f room=.done f n
 | .big=>kI b cv 0 f room=.bad 10/\∀n,kI b cv (n+1) f room=.bad 9
 | .yes y=>dM b (cv.length:Int) y/\(dA y:Int)<=room/\kI b cv 0 f room=.bad 10/\∀n,kI b cv (n+1) f room=kI b cv n y room
theorem vB{b:Bk}{cv:aAA}(O:bU b=0)(I:gG b cv):∀(g:Nat)(f:Fc)(room:Int),dM b (cv.length:Int) f->(dA f:Int)<=room->room<=4096->dA f<g->VS b cv f room (qJ b cv g f room)
 | 0,f,room,_,_,_,h=>absurd h aA
 | g+1,f,room,hf,Z,U,hg=>by
  by_cases D:bT b cv f=true
  . have F:∀n,kI b cv n f room=DL b cv n f room:=by
     intro n;cases hp:cQ f with
     | none=>exact oM O I hf U hp
     | some p =>
      obtain⟨o,p2⟩:=gU hf hp;obtain⟨s1,s2⟩:=G4 (b:=b) (cv:=cv) (JB D hp);have e:kI b cv n (bX p) (room-dA f+bL p)=.done (bX p) n:=by unfold kI;exact RO s1 s2 _ _ _
      rw[iJ O I hf Z U hp,e];simp only;rw[oS o,tL hf hp]
    unfold qJ;rw[XP D];cases hz:jJ b cv f with
    | none =>
     refine⟨?_,fun n=>?_⟩
     . rw[F];unfold DL;rw[XP D,XP rfl]
     . rw[F];unfold DL;rw[XP D,XN aA,hz]
    | some z =>
     simp only;by_cases G:room<(dA z:Int)
     . rw[XP G];refine⟨?_,fun n=>?_⟩
       . rw[F];unfold DL;rw[XP D,XP rfl]
       rw[F];unfold DL;rw[XP D,XN aA,hz];simp only;rw[XP G]
     . rw[XN G];refine⟨(lJ O I hf D hz).1,by omega,?_,fun n=>?_⟩
       . rw[F];unfold DL;rw[XP D,XP rfl]
       rw[F];unfold DL;rw[XP D,XN aA,hz];simp only;rw[XN G];rfl
  . unfold qJ;rw[XN D];cases hp:cQ f with
    | none =>
     intro n;rw[oM O I hf U hp];unfold DL;rw[XN D]
    | some p =>
     simp only;obtain⟨o,p2⟩:=gU hf hp;have a1:=eY o;have ih:=vB O I g (bX p) (room-dA f+bL p) (lQ o) aA aA aA;cases hs:qJ b cv g (bX p) (room-dA f+bL p) with
     | no =>
      rw[hs]at ih;intro n;rw[iJ O I hf Z U hp,ih n];simp only;rw[oS o,tL hf hp];unfold DL;rw[XN D]
     | big =>
      rw[hs]at ih;obtain⟨s,i2⟩:=ih;exact⟨by rw[iJ O I hf Z U hp,s],fun n=>by rw[iJ O I hf Z U hp,i2 n]⟩
     | yes z =>
      rw[hs]at ih;obtain⟨s,i2,i3,i4⟩:=ih;have hz:=s.fit aA;have a2:=gM z;obtain⟨r1,r2⟩:=jA hf hp hz aA;refine⟨r1,by omega,by rw[iJ O I hf Z U hp,i3],fun n=>?_⟩;have a0:=NH hf hp (gA z);rw[iJ O I hf Z U hp,i4 n,iJ O I r1 aA U a0,vY s.ne];have Y:room-(dA (dW f (gA z)):Int)+bL (gA z)=room-dA f+bL p:=aA;rw[Y];cases kI b cv n z (room-dA f+bL p) with
      | bad e=>rfl
      | done y m=>simp only;rw[OD hf hp]
end
def lA(b:Bk)(cv:aAA)(f:Fc):Option (TT×List TT) :=
 if f.1.1.op=5 then (if (cI (eM f.1 1) (f.2.getD 0 (default,[],.nil))).2=0 then some ((cI (eM f.1 1) (f.2.getD 0 (default,[],.nil))).1,f.2.drop 1) else none)
 else if f.1.1.op=7 then (if (cI (eM f.1 2) (eM f.1 1)).2=0 then some ((cI (eM f.1 2) (eM f.1 1)).1,f.2) else none)
 else if f.1.1.op=1 then some (jD (cT (jZ cv f.1.1.a)) (f.1.1.a+1),f.2)
 else if f.1.1.op=8 then some (cT (bP b f.1.1.a).body,f.2)
 else if f.1.1.op=11 then some (eM f.1 (2+(bX (eM f.1 1)).1.1.b.toNat),(bX (eM f.1 1)).2.drop (bP b f.1.1.a).params.length++f.2)
 else match rW f.1 with
  | none=>none
  | some y=>some (y,f.2)
theorem V8(b:Bk)(cv:aAA)(f:Fc):jJ b cv f=match lA b cv f with
 | none=>none
 | some q=>gS q.1 q.2:=by
 unfold jJ lA;by_cases c5:f.1.1.op=5
 . rw[XP c5,XP c5];by_cases h:(cI (eM f.1 1) (f.2.getD 0 (default,[],.nil))).2=0
   . rw[XP h,XP h]
   rw[XN h,XN h]
 rw[XN c5,XN c5];by_cases F:f.1.1.op=7
 . rw[XP F,XP F];by_cases h:(cI (eM f.1 2) (eM f.1 1)).2=0
   . rw[XP h,XP h]
   rw[XN h,XN h]
 rw[XN F,XN F];by_cases c1:f.1.1.op=1
 . rw[XP c1,XP c1]
 rw[XN c1,XN c1];by_cases G:f.1.1.op=8
 . rw[XP G,XP G]
 rw[XN G,XN G];by_cases D:f.1.1.op=11
 . rw[XP D,XP D]
 rw[XN D,XN D];cases rW f.1<;>rfl
theorem FN(hr:bU b=0)(hc:gG b cv){y:TT×List TT}(F:dM b (cv.length:Int) f)(D:bT b cv f=true)(h:lA b cv f=some y):bO b (cv.length:Int) y.1/\(∀a∈y.2,bO b (cv.length:Int) a)/\cB y.2<=dA f:=by
 have a1:=hc.few;have a4:dA f=bL f.1+cB f.2:=rfl;unfold bT at D;unfold lA at h;by_cases c5:f.1.1.op=5
 . rw[XP c5]at D h;rw[YJ]at D;obtain⟨p,q,G⟩:=kQ F.head.okt (.inr (.inl c5));have Y:=F.head.kid (i:=1) (by rw[G];rfl);rw[dO (i:=1) (by rw[G];rfl)]at h;have U:aR f.1.1.op f.1.1.b ((1:Nat):Int)=1:=jF (.inl ⟨c5,rfl⟩);rw[U]at Y;have ha:=F.args _ (iD D (default,[],.nil));split at h
   . rename_i h9
     injection h with h;subst h;exact⟨vC aA aA Y ha h9,fun a ha=>F.args a (List.mem_of_mem_drop ha),by have:=pW f.2 1;simp only;omega⟩
   cases h
 rw[XN c5]at D h;by_cases o:f.1.1.op=7
 . rw[XP o]at h;obtain⟨p,q,r,G⟩:=mU F.head.okt o;have Y:=F.head.kid0 (i:=1) (by rw[G];rfl) (eQ (.inr (.inl ⟨o,by decide⟩)));have s:=F.head.kid (i:=2) (by rw[G];rfl);have U:aR f.1.1.op f.1.1.b ((2:Nat):Int)=1:=jF (.inr ⟨o,rfl⟩);rw[U]at s;rw[dO (i:=1) (by rw[G];rfl),dO (i:=2) (by rw[G];rfl)]at h;split at h
   . rename_i h9
     injection h with h;subst h;exact⟨vC aA aA s Y h9,F.args,by simp only;omega⟩
   cases h
 rw[XN o]at h;by_cases c8:f.1.1.op=8
 . rw[XN aA,XP c8]at h;obtain⟨_,_,_,O⟩:=mP hr aA F.head c8;injection h with h;subst h;exact⟨O,F.args,by simp only;omega⟩
 rw[XN aA]at D;by_cases c1:f.1.1.op=1
 . rw[XP c1]at D h;rw[YJ]at D;obtain⟨v1,v2,_⟩:=rX F.head c1;obtain⟨x,_,ex,_,O,_⟩:=vG hc v1 v2 D;rw[ex]at h;injection h with h;subst h;exact⟨O,F.args,by simp only;omega⟩
 rw[XN c1,XN c8]at h;rw[XN c1]at D;by_cases I:f.1.1.op=11
 . rw[XP I]at D h;obtain⟨p,q,br,G,a2⟩:=eT F.head.okt I;have Y:=F.head.kid0 (i:=1) (by rw[G];rfl) (eQ (.inr (.inr I)));rw[dO (i:=1) (by rw[G];rfl)]at D h;unfold fA at D;simp only[YC,beq_iff_eq,YJ]at D;obtain⟨m1,_,m3,_⟩:=D;have s:=lQ Y;have a3:=CA s.head.okt m1;have a0:=F.head.kid0 (jR (x:=f.1) (i:=2+(bX q).1.1.b.toNat) (by rw[G];simp only[YA];omega)) (eQ (.inr (.inr I)));have a5:cB (bX q).2<=bL f.1:=by
    have h1:=eY Y;have h2:=oH (show q∈bH f.1.2.2 by rw[G];simp);have e:bL f.1=1+f.1.2.1.length+(row f.1.2.2).length:=cS f.1.1 f.1.2.1 f.1.2.2;have h3:dA (bX q)=bL (bX q).1+cB (bX q).2:=rfl;omega
   injection h with h;subst h;refine⟨a0,fun a ha=>?_,?_⟩
   . rcases YW.1 ha with ha|ha
     . exact s.args a (List.mem_of_mem_drop ha)
     exact F.args a ha
   simp only;rw[oO];have:=pW (bX q).2 (bP b f.1.1.a).params.length;omega
 rw[XN I]at D h;by_cases Z:f.1.1.op=12
 . cases hu:rW f.1 with
   | none=>rw[hu]at h;cases h
   | some z =>
    rw[hu]at h;injection h with h;subst h;exact⟨x9 F.head Z aA aA hu,F.args,by simp only;omega⟩
 rw[XN Z]at D;cases D
inductive vK
 | no
 | bad
 | yes (x:TT)
def nS(b:Bk)(cv:aAA):Nat->Fc->vK
 | 0,_=>.bad
 | g+1,f =>
  if bT b cv f=true then
   match lA b cv f with
   | none=>.bad
   | some q=>.yes (dP q.1 q.2)
  else match cQ f with
   | none=>.no
   | some p=>match nS b cv g (bX p) with
    | .no=>.no
    | .bad=>.bad
    | .yes y=>.yes (gA (dW f y))
theorem i5{D:Nat}{s:Fc}(h:bT b cv s=true):nS b cv (D+1) s=match lA b cv s with|none=>.bad|some q=>.yes (dP q.1 q.2):=by
 conv=>lhs;unfold nS
 rw[XP h]
theorem oT{D:Nat}{s:Fc}(h:¬ bT b cv s=true)(F:cQ s=none):nS b cv (D+1) s=.no:=by
 conv=>lhs;unfold nS
 rw[XN h,F]
theorem qV{D:Nat}{s:Fc}(h:¬ bT b cv s=true)(F:cQ s=some p):nS b cv (D+1) s=match nS b cv D (bX p) with | .no=>.no | .bad=>.bad | .yes y=>.yes (gA (dW s y)):=by
 conv=>lhs;unfold nS
 rw[XN h,F]
theorem BL(z:dM b free f)(h:cQ f=some p)(F:TT):dA (dW f F)+bL p=dA f+bL F:=by
 unfold cQ at h;unfold dW;split at h
 . rename_i D
   rw[XP D];injection h with h;subst h;obtain⟨⟨n,a,k⟩,args⟩:=f;obtain⟨u,q,br,I,s⟩:=eT z.head.okt D;have O:eM (n,a,k) 1=q:=dO (i:=1) (by rw[I];rfl);simp only at O D;rw[O]
   match k,I with
   | .cons pr n1 a1 k1 (.cons qr n2 a2 k2 r),I =>
    simp only[bH,ZI]at I;obtain⟨_,rfl,_⟩:=I;have Y:bL (n,a,gB (.cons pr n1 a1 k1 (.cons qr n2 a2 k2 r)) F)+bL (n2,a2,k2)=bL (n,a,.cons pr n1 a1 k1 (.cons qr n2 a2 k2 r))+bL F:=by
     have Z:bL (n,a,gB (.cons pr n1 a1 k1 (.cons qr n2 a2 k2 r)) F)=1+a.length+(pr.length+bL (n1,a1,k1)+(qr.length+bL F+(row r).length)):=by
      rw[mH,cS,eG,eG]
     have o:bL (n,a,.cons pr n1 a1 k1 (.cons qr n2 a2 k2 r))=1+a.length+(pr.length+bL (n1,a1,k1)+(qr.length+bL (n2,a2,k2)+(row r).length)):=by
      rw[cS,eG,eG]
     rw[Z,o];omega
    have U:dA ((n,a,.cons pr n1 a1 k1 (.cons qr n2 a2 k2 r)),args)=bL (n,a,.cons pr n1 a1 k1 (.cons qr n2 a2 k2 r))+cB args:=rfl;have G:dA ((n,a,gB (.cons pr n1 a1 k1 (.cons qr n2 a2 k2 r)) F),args)=bL (n,a,gB (.cons pr n1 a1 k1 (.cons qr n2 a2 k2 r)) F)+cB args:=rfl;simp only at U G ⊢;omega
 rename_i D
 rw[XN D];split at h
 . split at h
   . rename_i hl
     injection h with h;subst h;have:=sB f.2 (dG f.1).toNat F (default,[],.nil) hl;show bL f.1+cB (f.2.set (dG f.1).toNat F)+bL (f.2.getD (dG f.1).toNat (default,[],.nil))=bL f.1+cB f.2+bL F;omega
   cases h
 cases h
theorem CJ{b:Bk}{cv:aAA}(I:bU b=0)(G:gG b cv):∀(g:Nat)(f:Fc)(y:TT),dM b (cv.length:Int) f->nS b cv g f=.yes y->bL y<=dA f+4096/\(bL y<=4096->bO b (cv.length:Int) y)
 | 0,_,_,_,h=>by cases h
 | g+1,f,y,hf,h=>by
  by_cases D:bT b cv f=true
  . rw[i5 D]at h;cases ho:lA b cv f with
    | none=>rw[ho]at h;cases h
    | some q =>
     rw[ho]at h;injection h with h;subst h;obtain⟨r1,r2,s⟩:=FN I G hf D ho;have:=r1.few;have F:bL q.1<=4096:=r1.few;rw[qP];exact⟨by omega,fun h=>lW _ _ r1 r2 h⟩
  . cases hp:cQ f with
    | none=>rw[oT D hp]at h;cases h
    | some p =>
     rw[qV D hp]at h;obtain⟨O,o⟩:=gU hf hp;cases hg:nS b cv g (bX p) with
     | no=>rw[hg]at h;cases h
     | bad=>rw[hg]at h;cases h
     | yes z =>
      rw[hg]at h;injection h with h;subst h;obtain⟨U,Y⟩:=CJ I G g (bX p) z (lQ O) hg;rw[eY O]at U;have Z:=BL hf hp z;rw[gM];refine⟨by omega,fun F=>?_⟩;exact (jA hf hp (Y aA) aA).1.fit F
theorem PK{b:Bk}{cv:aAA}(I:bU b=0)(G:gG b cv):∀(g:Nat)(f:Fc)(room:Int),dM b (cv.length:Int) f->(dA f:Int)<=room->room<=4096->qJ b cv g f room=match nS b cv g f with
      | .no=>.no
      | .bad=>.big
      | .yes y=>if room<(bL y:Int) then .big else .yes (bX y)
 | 0,_,_,_,_,_=>rfl
 | g+1,f,room,hf,h,o=>by
  by_cases D:bT b cv f=true
  . rw[i5 D];have e:qJ b cv (g+1) f room=match jJ b cv f with|none=>.big|some y=>if room<(dA y:Int) then .big else .yes y:=by
     conv=>lhs;unfold qJ
     rw[XP D];rfl
    rw[e,V8];cases ho:lA b cv f with
    | none=>rfl
    | some q =>
     simp only;obtain⟨r1,r2,r3⟩:=FN I G hf D ho;have hz:bL (dP q.1 q.2)=bL q.1+cB q.2:=qP _ _;cases hon:gS q.1 q.2 with
     | none =>
      unfold gS at hon;split at hon
      . simp only;rw[XP aA]
      . cases hon
     | some y =>
      obtain⟨_,Y,o3,Z⟩:=kS r1 r2 hon;simp only;rw[Y,hz,Z]
  . cases hp:cQ f with
    | none =>
     rw[oT D hp]
     conv=>lhs;unfold qJ
     rw[XN D,hp]
    | some p =>
     rw[qV D hp];obtain⟨O,p2⟩:=gU hf hp;have U:=eY O;have e:qJ b cv (g+1) f room=match qJ b cv g (bX p) (room-(dA f:Int)+(bL p:Int)) with | .no=>.no | .big=>.big | .yes y=>.yes (dW f (gA y)):=by
      conv=>lhs;unfold qJ
      rw[XN D,hp];rfl
     rw[e,PK I G g (bX p) _ (lQ O) aA aA];cases hg:nS b cv g (bX p) with
     | no=>rfl
     | bad=>rfl
     | yes z =>
      simp only;have hs:=BL hf hp z;have s:=gM (dW f z);by_cases F:room-(dA f:Int)+(bL p:Int)<(bL z:Int)
      . rw[XP F,XP aA]
      . rw[XN F,XN aA];have hz:=(CJ I G g (bX p) z (lQ O) hg).2 aA;simp only;rw[oS hz,vY (jA hf hp hz aA).1.ne]
section
def TX(F:Nat->R4)(n:Nat)(y:Fc)(m:Nat):Prop:=∀j,(n<=j+m->F j=.done y (j+m-n))/\(j+m<n->F j=.bad 10)
theorem RM{b:Bk}{cv:aAA}(O:bU b=0)(I:gG b cv):∀(G n:Nat)(f:Fc)(room:Int),dM b (cv.length:Int) f->(dA f:Int)<=room->room<=4096->n*4097+dA f<G->∀y m,kI b cv n f room=.done y m->TX (fun j=>kI b cv j f room) n y m
 | 0,n,f,room,_,_,_,h,_,_,_=>absurd h aA
 | G+1,n,f,room,hf,h1,U,hG,y,m,h=>by
  have key:∀(Z:Fc)(Y:Nat),dM b (cv.length:Int) Z->Y<=n->DL b cv Y Z room=.done y m->TX (fun j=>DL b cv j Z room) Y y m:=by
   intro Z Y a0 a5 D j;unfold DL at D ⊢;by_cases F:bT b cv Z=true;rotate_left
   . rw[XN F]at D;simp only[XN F];injection D with e1 e2;subst e1 e2;exact⟨fun _=>by congr 1;omega,fun h=>absurd h aA⟩
   rw[XP F]at D;simp only[XP F];by_cases h0:Y=0
   . rw[XP h0]at D;cases D
   rw[XN h0]at D;cases hz:jJ b cv Z with
   | none=>rw[hz]at D;cases D
   | some z =>
    rw[hz]at D;simp only at D ⊢;by_cases hb:room<(dA z:Int)
    . rw[XP hb]at D;cases D
    rw[XN hb]at D;have o:=lJ O I a0 F hz;have a3:(Y-1+1)*4097<=n*4097:=Nat.mul_le_mul_right _ aA;have ih:=RM O I G (Y-1) z room o.1 aA U aA y m D;by_cases s:j=0
    . subst s;have hm:=(rZ O I o.1 aA U D).2.2;rw[XP rfl];exact⟨fun h=>absurd h aA,fun _=>rfl⟩
    . rw[XN s,XN hb];obtain⟨a1,a2⟩:=ih (j-1);refine⟨fun h=>?_,fun h=>a2 aA⟩;refine (a1 aA).trans ?_
      congr 1
      omega
  intro j;cases hp:cQ f with
  | none =>
   rw[oM O I hf U hp]at h;simp only[oM O I hf U hp];exact key f n hf (XU _) h j
  | some p =>
   obtain⟨p1,p2⟩:=gU hf hp;have a6:=eY p1;rw[iJ O I hf h1 U hp]at h;simp only[iJ O I hf h1 U hp];cases hw:kI b cv n (bX p) (room-dA f+bL p) with
   | bad e=>rw[hw]at h;cases h
   | done z k =>
    rw[hw]at h;simp only at h;have ih:=RM O I G n (bX p) (room-dA f+bL p) (lQ p1) aA aA aA z k hw j;simp only at ih;obtain⟨q1,q2,q3⟩:=rZ O I (lQ p1) aA aA hw;have hz:=q1.fit aA;have a7:=gM z;obtain⟨r1,r2⟩:=jA hf hp hz aA;have hk:=key _ k r1 q3 h;have a4:m<=k:=by
     unfold DL at h;split at h
     . rename_i F
       split at h
       . cases h
       cases hz:jJ b cv (dW f (gA z)) with
       | none=>rw[hz]at h;cases h
       | some z2 =>
        rw[hz]at h;simp only at h;split at h
        . cases h
        . have:=(rZ O I (lJ O I r1 F hz).1 aA U h).2.2;omega
     injection h with e1 e2;omega
    by_cases s:n<=j+k
    . rw[ih.1 s];simp only;obtain⟨a1,a2⟩:=hk (j+k-n);refine⟨fun h=>?_,fun h=>a2 aA⟩;refine (a1 aA).trans ?_
      congr 1
      omega
    . rw[ih.2 aA];exact⟨fun h=>absurd h aA,fun _=>rfl⟩
end
end Go.Proofs.YtjoddliplahgkaaGreat
