/- Merged: WhR, GoP, WhS, WhN, GoW, SenseA. -/
import Derived.Test.YtjoddliplahgkaaGreatPWhQ
namespace Go.Proofs.YtjoddliplahgkaaGreat
set_option linter.unusedVariables false
set_option linter.unusedSimpArgs false
open Go.RowKit
section
theorem FT {x:TT} {p q:TT} {br:List TT} (h:cI x.2.2=p::q::br):fN x.2.2 q=x.2.2:=by
 obtain⟨n,a,k⟩:=x
 match k,h with
 | .cons pr n1 a1 k1 (.cons qr n2 a2 k2 r),h =>
  simp only[cI,List.cons.injEq] at h;obtain⟨_,rfl,_⟩:=h;rfl
theorem uU {k:Fo} {p q:TT} {br:List TT} (h:cI k=p::q::br) (t:TT):cI (fN k t)=p::t::br:=by
 match k,h with
 | .cons pr n1 a1 k1 (.cons qr n2 a2 k2 r),h =>
  simp only[cI,List.cons.injEq] at h;obtain⟨rfl,_,rfl⟩:=h;rfl
theorem C5 {k:Fo} {p q:TT} {br:List TT} (h:cI k=p::q::br) (t u:TT):fN (fN k t) u=fN k u:=by
 match k,h with
 | .cons pr n1 a1 k1 (.cons qr n2 a2 k2 r),h=>rfl
theorem yI {b:Bk} {free:Int} {f:Fc} (hf:eH b free f) {p:TT} (h:cS f=some p):dU f p=f:=by
 unfold cS at h;unfold dU;split at h
 · rename_i c11
   rw[if_pos c11];injection h with h;obtain⟨u,q,br,hk,_⟩:=eK hf.head.okt c11;have hq:eQ f.1 1=q:=dI (i:=1) (by rw[hk];rfl);rw[<-h,hq,FT hk]
 split at h
 · rename_i c11 c12
   rw[if_neg c11];split at h
   · rename_i hl
     injection h with h;have e:f.2.set (dA f.1).toNat p=f.2:=by
      rw[<-h,List.getD_eq_getElem?_getD,List.getElem?_eq_getElem hl];exact List.set_getElem_self hl
     rw[e]
   cases h
 cases h
theorem KT {b:Bk} {free:Int} {f:Fc} (hf:eH b free f) {p:TT} (h:cS f=some p) (q t:TT):dU (dU f q) t=dU f t:=by
 unfold cS at h;unfold dU;split at h
 · rename_i c11
   obtain⟨u,q',br,hk,_⟩:=eK hf.head.okt c11;rw[if_pos c11];simp only;rw[if_pos c11,if_pos c11,C5 hk]
 rename_i c11
 rw[if_neg c11];simp only;rw[if_neg c11,if_neg c11,List.set_set]
theorem JS {b:Bk} {free:Int} {f:Fc} (hf:eH b free f) {p:TT} (h:cS f=some p) (q:TT):cS (dU f q)=some q:=by
 unfold cS at h ⊢;unfold dU;split at h
 · rename_i c11
   obtain⟨u,q',br,hk,_⟩:=eK hf.head.okt c11;rw[if_pos c11];simp only;rw[if_pos c11];have:eQ (f.1.1,f.1.2.1,fN f.1.2.2 q) 1=q:=dI (i:=1) (by simp only;rw[uU hk];rfl);rw[this]
 rename_i c11
 rw[if_neg c11];split at h
 · rename_i c12
   simp only;rw[if_neg c11,if_pos c12];split at h
   · rename_i hl
     rw[List.length_set,if_pos hl,List.getD_eq_getElem?_getD,List.getElem?_set_self hl];rfl
   cases h
 cases h
theorem FI {b:Bk} {cv:List (List Nd)} {f:Fc} {p:TT} (hr:bW b cv f=true) (h:cS f=some p):(bU p).1.1.op=10:=by
 unfold cS at h;unfold bW at hr;split at h
 · rename_i c11
   injection h with h;rw[if_neg aA,if_neg aA,if_neg aA,if_pos c11,h] at hr;unfold eS at hr;rw[Bool.and_eq_true,beq_iff_eq] at hr;exact hr.1
 split at h
 · rename_i c11 c12
   split at h
   · injection h with h;rw[if_neg aA,if_neg aA,if_neg aA,if_neg c11,if_pos c12,Bool.and_eq_true,beq_iff_eq,h] at hr;exact hr.2
   cases h
 cases h
theorem EB {b:Bk} {cv:List (List Nd)} {f:Fc} (h:f.1.1.op=10):bW b cv f=false/\cS f=none:=by
 unfold bW cS;exact⟨by rw[if_neg aA,if_neg aA,if_neg aA,if_neg aA,if_neg aA],by rw[if_neg aA,if_neg aA]⟩
theorem N6 {b:Bk} {cv:List (List Nd)} {f:Fc} (h1:bW b cv f=false) (h2:cS f=none) (g n:Nat) (room:Int):mD b cv (g+1) n f room=.done f n:=by
 unfold mD;rw[h2];simp only;rw[if_neg (by rw[h1];simp)]
def AG (b:Bk) (cv:List (List Nd)) (g n:Nat) (f:Fc) (room:Int):P8 :=
 if bW b cv f=true then
  if n=0 then .bad 10
  else match jD b cv f with
   | none=>.bad 9
   | some y=>if room<(dK y:Int) then .bad 9 else mD b cv g (n-1) y room
 else .done f n
theorem s6 {b:Bk} {cv:List (List Nd)} {f:Fc} {p:TT} (h:cS f=some p) (g n:Nat) (room:Int):mD b cv (g+1) n f room=match mD b cv g n (bU p) (room-dK f+bI p) with
 | .bad e=>.bad e
 | .done y m=>AG b cv g m (dU f (fI y)) room:=by
 conv=>lhs;unfold mD
 rw[h];simp only;cases mD b cv g n (bU p) (room-dK f+bI p)<;>rfl
theorem oB {b:Bk} {cv:List (List Nd)} {f:Fc} (h:cS f=none) (g n:Nat) (room:Int):mD b cv (g+1) n f room=AG b cv g n f room:=by
 conv=>lhs;unfold mD
 rw[h];rfl
theorem rR {b:Bk} {cv:List (List Nd)} (hr:bP b=0) (hc:fR b cv) : ∀(g n:Nat) (f:Fc) (room:Int),eH b (cv.length:Int) f->(dK f:Int)<=room->room<=4096->∀y m,mD b cv g n f room=.done y m->eH b (cv.length:Int) y/\(dK y:Int)<=room/\m<=n
 | 0,n,f,room,_,_,_,y,m,h=>by cases h
 | g+1,n,f,room,hf,h1,h2,y,m,h=>by
  have key:∀(f':Fc) (n':Nat),eH b (cv.length:Int) f'->(dK f':Int)<=room->n'<=n->AG b cv g n' f' room=.done y m->eH b (cv.length:Int) y/\(dK y:Int)<=room/\m<=n:=by
   intro f' n' a0 a1 a2 hh;unfold AG at hh;split at hh
   · rename_i hrd
     split at hh
     · cases hh
     split at hh
     · cases hh
     rename_i z hz
     split at hh
     · cases hh
     obtain⟨q1,q2,q3⟩:=rR hr hc g (n'-1) z room (nL hr hc a0 hrd hz).1 aA h2 y m hh;exact⟨q1,q2,by omega⟩
   injection hh with e1 e2;subst e1 e2;exact⟨a0,a1,a2⟩
  cases hp:cS f with
  | none =>
   rw[oB hp] at h;exact key f n hf h1 (Nat.le_refl _) h
  | some p =>
   rw[s6 hp] at h;obtain⟨p1,p2⟩:=iM hf hp;cases hw:mD b cv g n (bU p) (room-dK f+bI p) with
   | bad e=>rw[hw] at h;cases h
   | done z k =>
    rw[hw] at h;simp only at h;obtain⟨q1,q2,q3⟩:=rR hr hc g n (bU p) (room-dK f+bI p) (kI p1) (by rw[dJ p1];omega) aA z k hw;have hz:=q1.fit aA;have a3:=fY z;obtain⟨r1,r2⟩:=i9 hf hp hz aA;exact key _ k r1 aA q3 h
set_option maxRecDepth 20000 in
theorem vF {b:Bk} {cv:List (List Nd)} (hr:bP b=0) (hc:fR b cv) : ∀(g n:Nat) (f:Fc) (room:Int),eH b (cv.length:Int) f->(dK f:Int)<=room->room<=4096->n*4097+dK f<g->mD b cv g n f room ≠ .bad 99/\∀k,mD b cv (g+k) n f room=mD b cv g n f room
 | 0,n,f,room,_,_,_,h=>absurd h aA
 | g+1,n,f,room,hf,h1,h2,hg=>by
  have key:∀(f':Fc) (n':Nat),eH b (cv.length:Int) f'->n'<=n->AG b cv g n' f' room ≠ .bad 99/\∀k,AG b cv (g+k) n' f' room=AG b cv g n' f' room:=by
   intro f' n' a2 a5;unfold AG;split
   rotate_left
   · exact⟨fun h=>(by cases h),fun _=>rfl⟩
   rename_i hrd
   split
   · exact⟨fun h=>(by injection h with h;cases h),fun _=>rfl⟩
   cases hz:jD b cv f' with
   | none=>exact⟨fun h=>(by injection h with h;cases h),fun _=>rfl⟩
   | some z =>
    simp only;split
    · exact⟨fun h=>(by injection h with h;cases h),fun _=>rfl⟩
    · have a1:=nL hr hc a2 hrd hz;refine vF hr hc g (n'-1) z room a1.1 aA h2 ?_;have:(n'-1)*4097+4097<=n*4097:=by
       have:(n'-1+1)*4097<=n*4097:=Nat.mul_le_mul_right _ aA;omega
      omega
  cases hp:cS f with
  | none =>
   refine⟨by rw[oB hp];exact (key f n hf (Nat.le_refl _)).1,fun k => ?_⟩;rw[show g+1+k=(g+k)+1 from by omega,oB hp,oB hp];exact (key f n hf (Nat.le_refl _)).2 k
  | some p =>
   obtain⟨p1,p2⟩:=iM hf hp;have a4:=dJ p1;obtain⟨i1,i2⟩:=vF hr hc g n (bU p) (room-dK f+bI p) (kI p1) aA aA aA;have a0:∀k,mD b cv (g+k+1) n f room=(match mD b cv g n (bU p) (room-dK f+bI p) with
    | .bad e=>.bad e
    | .done y m=>AG b cv (g+k) m (dU f (fI y)) room):=fun k=>by rw[s6 hp,i2 k]
   cases hw:mD b cv g n (bU p) (room-dK f+bI p) with
   | bad e =>
    rw[hw] at i1;refine⟨by have:=a0 0;rw[hw] at this;simp only[Nat.add_zero] at this;rw[this];exact i1,fun k => ?_⟩;have h3:=a0 k;have h4:=a0 0;rw[hw] at h3 h4;simp only[Nat.add_zero] at h3 h4;rw[show g+1+k=g+k+1 from by omega,h3,h4]
   | done z m =>
    obtain⟨q1,q2,q3⟩:=rR hr hc g n (bU p) (room-dK f+bI p) (kI p1) aA aA z m hw;have hz:=q1.fit aA;have a3:=fY z;obtain⟨r1,r2⟩:=i9 hf hp hz aA;obtain⟨k1,k2⟩:=key _ m r1 q3;have h4:=a0 0;rw[hw] at h4;simp only[Nat.add_zero] at h4;refine⟨by rw[h4];exact k1,fun k => ?_⟩;have h3:=a0 k;rw[hw] at h3;simp only at h3;rw[show g+1+k=g+k+1 from by omega,h3,h4];exact k2 k
theorem RH {b:Bk} {cv:List (List Nd)} (hr:bP b=0) (hc:fR b cv) {g g' n:Nat} {f:Fc} {room:Int} (hf:eH b (cv.length:Int) f) (h1:(dK f:Int)<=room) (h2:room<=4096) (hg:n*4097+dK f<g) (hg':n*4097+dK f<g'):mD b cv g n f room=mD b cv g' n f room:=by
 rcases Nat.le_total g g' with h | h
 · rw[<-(vF hr hc g n f room hf h1 h2 hg).2 (g'-g),show g+(g'-g)=g' from by omega]
 rw[<-(vF hr hc g' n f room hf h1 h2 hg').2 (g-g'),show g'+(g-g')=g from by omega]
def oA (b:Bk) (cv:List (List Nd)) (n:Nat) (f:Fc) (room:Int):P8:=mD b cv (n*4097+dK f+1) n f room
theorem N4 {b:Bk} {cv:List (List Nd)} (hr:bP b=0) (hc:fR b cv) {g n:Nat} {f:Fc} {room:Int} (hf:eH b (cv.length:Int) f) (h1:(dK f:Int)<=room) (h2:room<=4096) (hg:n*4097+dK f<g):mD b cv g n f room=oA b cv n f room:=RH hr hc hf h1 h2 hg aA
def KP (b:Bk) (cv:List (List Nd)) (n:Nat) (f:Fc) (room:Int):P8 :=
 if bW b cv f=true then
  if n=0 then .bad 10
  else match jD b cv f with
   | none=>.bad 9
   | some y=>if room<(dK y:Int) then .bad 9 else oA b cv (n-1) y room
 else .done f n
set_option maxRecDepth 20000 in
theorem QH {b:Bk} {cv:List (List Nd)} (hr:bP b=0) (hc:fR b cv) {g n:Nat} {f:Fc} {room:Int} (hf:eH b (cv.length:Int) f) (h2:room<=4096) (hg:n*4097<=g):AG b cv g n f room=KP b cv n f room:=by
 unfold AG KP;split
 · rename_i hrd
   split
   · rfl
   cases hz:jD b cv f with
   | none=>rfl
   | some z =>
    simp only;split
    · rfl
    · have a0:=nL hr hc hf hrd hz;refine N4 hr hc a0.1 aA h2 ?_;have:(n-1+1)*4097<=n*4097:=Nat.mul_le_mul_right _ aA;omega
 rfl
theorem DL {b:Bk} {cv:List (List Nd)} (hr:bP b=0) (hc:fR b cv) {n:Nat} {f:Fc} {room:Int} (hf:eH b (cv.length:Int) f) (h2:room<=4096) (h:cS f=none):oA b cv n f room=KP b cv n f room:=by
 unfold oA;rw[oB h];exact QH hr hc hf h2 aA
set_option maxRecDepth 20000 in
theorem kH {b:Bk} {cv:List (List Nd)} (hr:bP b=0) (hc:fR b cv) {n:Nat} {f:Fc} {room:Int} (hf:eH b (cv.length:Int) f) (h1:(dK f:Int)<=room) (h2:room<=4096) {p:TT} (h:cS f=some p):oA b cv n f room=match oA b cv n (bU p) (room-dK f+bI p) with
 | .bad e=>.bad e
 | .done y m=>KP b cv m (dU f (fI y)) room:=by
 obtain⟨p1,p2⟩:=iM hf h;have a1:=dJ p1;have e:mD b cv (n*4097+dK f) n (bU p) (room-dK f+bI p)=oA b cv n (bU p) (room-dK f+bI p):=N4 hr hc (kI p1) aA aA aA
 conv=>lhs;unfold oA
 rw[s6 h,e];cases hw:oA b cv n (bU p) (room-dK f+bI p) with
 | bad e=>rfl
 | done z m =>
  simp only;obtain⟨q1,q2,q3⟩:=rR hr hc _ n (bU p) (room-dK f+bI p) (kI p1) aA aA z m hw;have hz:=q1.fit aA;have a0:=fY z;obtain⟨r1,r2⟩:=i9 hf h hz aA;refine QH hr hc r1 h2 ?_;have:m*4097<=n*4097:=Nat.mul_le_mul_right _ q3;omega
theorem ID {b:Bk} {cv:List (List Nd)} (hr:bP b=0) (hc:fR b cv) {n m:Nat} {f y:Fc} {room:Int} (hf:eH b (cv.length:Int) f) (h1:(dK f:Int)<=room) (h2:room<=4096) (h:oA b cv n f room=.done y m):eH b (cv.length:Int) y/\(dK y:Int)<=room/\m<=n:=rR hr hc _ n f room hf h1 h2 y m h
def RY (b:Bk) (cv:List (List Nd)) (f:Fc) (room:Int):RJ->Prop
 | .no=>∀n,oA b cv n f room=.done f n
 | .big=>oA b cv 0 f room=.bad 10/\∀n,oA b cv (n+1) f room=.bad 9
 | .yes y=>eH b (cv.length:Int) y/\(dK y:Int)<=room/\oA b cv 0 f room=.bad 10/\∀n,oA b cv (n+1) f room=oA b cv n y room
set_option maxRecDepth 20000 in
theorem sU {b:Bk} {cv:List (List Nd)} (hr:bP b=0) (hc:fR b cv) : ∀(g:Nat) (f:Fc) (room:Int),eH b (cv.length:Int) f->(dK f:Int)<=room->room<=4096->dK f<g->RY b cv f room (pD b cv g f room)
 | 0,f,room,_,_,_,h=>absurd h aA
 | g+1,f,room,hf,h1,h2,hg=>by
  by_cases hrd:bW b cv f=true
  · have a0:∀n,oA b cv n f room=KP b cv n f room:=by
     intro n;cases hp:cS f with
     | none=>exact DL hr hc hf h2 hp
     | some p =>
      obtain⟨p1,p2⟩:=iM hf hp;obtain⟨s1,s2⟩:=EB (b:=b) (cv:=cv) (FI hrd hp);have e:oA b cv n (bU p) (room-dK f+bI p)=.done (bU p) n:=by unfold oA;exact N6 s1 s2 _ _ _
      rw[kH hr hc hf h1 h2 hp,e];simp only;rw[nH p1,yI hf hp]
    unfold pD;rw[if_pos hrd];cases hz:jD b cv f with
    | none =>
     refine⟨?_,fun n => ?_⟩
     · rw[a0];unfold KP;rw[if_pos hrd,if_pos rfl]
     · rw[a0];unfold KP;rw[if_pos hrd,if_neg aA,hz]
    | some z =>
     simp only;by_cases hbig:room<(dK z:Int)
     · rw[if_pos hbig];refine⟨?_,fun n => ?_⟩
       · rw[a0];unfold KP;rw[if_pos hrd,if_pos rfl]
       rw[a0];unfold KP;rw[if_pos hrd,if_neg aA,hz];simp only;rw[if_pos hbig]
     · rw[if_neg hbig];refine⟨(nL hr hc hf hrd hz).1,by omega,?_,fun n => ?_⟩
       · rw[a0];unfold KP;rw[if_pos hrd,if_pos rfl]
       rw[a0];unfold KP;rw[if_pos hrd,if_neg aA,hz];simp only;rw[if_neg hbig];rfl
  · unfold pD;rw[if_neg hrd];cases hp:cS f with
    | none =>
     intro n;rw[DL hr hc hf h2 hp];unfold KP;rw[if_neg hrd]
    | some p =>
     simp only;obtain⟨p1,p2⟩:=iM hf hp;have a4:=dJ p1;have ih:=sU hr hc g (bU p) (room-dK f+bI p) (kI p1) aA aA aA;cases hs:pD b cv g (bU p) (room-dK f+bI p) with
     | no =>
      rw[hs] at ih;intro n;rw[kH hr hc hf h1 h2 hp,ih n];simp only;rw[nH p1,yI hf hp];unfold KP;rw[if_neg hrd]
     | big =>
      rw[hs] at ih;obtain⟨i1,i2⟩:=ih;exact⟨by rw[kH hr hc hf h1 h2 hp,i1],fun n=>by rw[kH hr hc hf h1 h2 hp,i2 n]⟩
     | yes z =>
      rw[hs] at ih;obtain⟨i1,i2,i3,i4⟩:=ih;have hz:=i1.fit aA;have a3:=fY z;obtain⟨r1,r2⟩:=i9 hf hp hz aA;refine⟨r1,by omega,by rw[kH hr hc hf h1 h2 hp,i3],fun n => ?_⟩;have a2:=JS hf hp (fI z);rw[kH hr hc hf h1 h2 hp,i4 n,kH hr hc r1 aA h2 a2,BV i1.ne];have a1:room-(dK (dU f (fI z)):Int)+bI (fI z)=room-dK f+bI p:=aA;rw[a1];cases oA b cv n z (room-dK f+bI p) with
      | bad e=>rfl
      | done y m=>simp only;rw[KT hf hp]
end
def kD (b:Bk) (cv:List (List Nd)) (f:Fc):Option (TT×List TT) :=
 if f.1.1.op=5 then (if (cH (eQ f.1 1) (f.2.getD 0 (default,[],.nil))).2=0 then some ((cH (eQ f.1 1) (f.2.getD 0 (default,[],.nil))).1,f.2.drop 1) else none)
 else if f.1.1.op=7 then (if (cH (eQ f.1 2) (eQ f.1 1)).2=0 then some ((cH (eQ f.1 2) (eQ f.1 1)).1,f.2) else none)
 else if f.1.1.op=1 then some (i5 (cP (jG cv f.1.1.a)) (f.1.1.a+1),f.2)
 else if f.1.1.op=8 then some (cP (bK b f.1.1.a).body,f.2)
 else if f.1.1.op=11 then some (eQ f.1 (2+(bU (eQ f.1 1)).1.1.b.toNat),(bU (eQ f.1 1)).2.drop (bK b f.1.1.a).params.length++f.2)
 else match qH f.1 with
  | none=>none
  | some y=>some (y,f.2)
theorem SF (b:Bk) (cv:List (List Nd)) (f:Fc):jD b cv f=match kD b cv f with
 | none=>none
 | some q=>gG q.1 q.2:=by
 unfold jD kD;by_cases c5:f.1.1.op=5
 · rw[if_pos c5,if_pos c5];by_cases h:(cH (eQ f.1 1) (f.2.getD 0 (default,[],.nil))).2=0
   · rw[if_pos h,if_pos h]
   rw[if_neg h,if_neg h]
 rw[if_neg c5,if_neg c5];by_cases c7:f.1.1.op=7
 · rw[if_pos c7,if_pos c7];by_cases h:(cH (eQ f.1 2) (eQ f.1 1)).2=0
   · rw[if_pos h,if_pos h]
   rw[if_neg h,if_neg h]
 rw[if_neg c7,if_neg c7];by_cases c1:f.1.1.op=1
 · rw[if_pos c1,if_pos c1]
 rw[if_neg c1,if_neg c1];by_cases c8:f.1.1.op=8
 · rw[if_pos c8,if_pos c8]
 rw[if_neg c8,if_neg c8];by_cases c11:f.1.1.op=11
 · rw[if_pos c11,if_pos c11]
 rw[if_neg c11,if_neg c11];cases qH f.1<;>rfl
theorem C1 {b:Bk} {cv:List (List Nd)} (hr:bP b=0) (hc:fR b cv) {f:Fc} {y:TT×List TT} (hf:eH b (cv.length:Int) f) (hrd:bW b cv f=true) (h:kD b cv f=some y):bR b (cv.length:Int) y.1/\(∀a ∈ y.2,bR b (cv.length:Int) a)/\bT y.2<=dK f:=by
 have a3:=hc.few;have a5:dK f=bI f.1+bT f.2:=rfl;unfold bW at hrd;unfold kD at h;by_cases c5:f.1.1.op=5
 · rw[if_pos c5] at hrd h;rw[decide_eq_true_eq] at hrd;obtain⟨p,q,hk⟩:=pV hf.head.okt (.inr (.inl c5));have hq:=hf.head.kid (i:=1) (by rw[hk];rfl);rw[dI (i:=1) (by rw[hk];rfl)] at h;have a1:aR f.1.1.op f.1.1.b ((1:Nat):Int)=1:=iU (.inl ⟨c5,rfl⟩);rw[a1] at hq;have ha:=hf.args _ (gS hrd (default,[],.nil));split at h
   · rename_i h9
     injection h with h;subst h;exact⟨sV aA aA hq ha h9,fun a ha=>hf.args a (List.mem_of_mem_drop ha),by have:=oQ f.2 1;simp only;omega⟩
   cases h
 rw[if_neg c5] at hrd h;by_cases c7:f.1.1.op=7
 · rw[if_pos c7] at h;obtain⟨p,q,r,hk⟩:=lU hf.head.okt c7;have hq:=hf.head.kid0 (i:=1) (by rw[hk];rfl) (eI (.inr (.inl ⟨c7,by decide⟩)));have hs:=hf.head.kid (i:=2) (by rw[hk];rfl);have a1:aR f.1.1.op f.1.1.b ((2:Nat):Int)=1:=iU (.inr ⟨c7,rfl⟩);rw[a1] at hs;rw[dI (i:=1) (by rw[hk];rfl),dI (i:=2) (by rw[hk];rfl)] at h;split at h
   · rename_i h9
     injection h with h;subst h;exact⟨sV aA aA hs hq h9,hf.args,by simp only;omega⟩
   cases h
 rw[if_neg c7] at h;by_cases c8:f.1.1.op=8
 · rw[if_neg aA,if_pos c8] at h;obtain⟨_,_,_,a0⟩:=lO hr aA hf.head c8;injection h with h;subst h;exact⟨a0,hf.args,by simp only;omega⟩
 rw[if_neg aA] at hrd;by_cases c1:f.1.1.op=1
 · rw[if_pos c1] at hrd h;rw[decide_eq_true_eq] at hrd;obtain⟨v1,v2,_⟩:=qI hf.head c1;obtain⟨x,_,ex,_,a0,_⟩:=sZ hc v1 v2 hrd;rw[ex] at h;injection h with h;subst h;exact⟨a0,hf.args,by simp only;omega⟩
 rw[if_neg c1,if_neg c8] at h;rw[if_neg c1] at hrd;by_cases c11:f.1.1.op=11
 · rw[if_pos c11] at hrd h;obtain⟨p,q,br,hk,a7⟩:=eK hf.head.okt c11;have hq:=hf.head.kid0 (i:=1) (by rw[hk];rfl) (eI (.inr (.inr c11)));rw[dI (i:=1) (by rw[hk];rfl)] at hrd h;unfold eS at hrd;simp only[Bool.and_eq_true,beq_iff_eq,decide_eq_true_eq] at hrd;obtain⟨m1,_,m3,_⟩:=hrd;have hs:=kI hq;have a6:=yV hs.head.okt m1;have a2:=hf.head.kid0 (kY (x:=f.1) (i:=2+(bU q).1.1.b.toNat) (by rw[hk];simp only[List.length_cons];omega)) (eI (.inr (.inr c11)));have a4:bT (bU q).2<=bI f.1:=by
    have h1:=dJ hq;have h2:=rN (show q ∈ cI f.1.2.2 by rw[hk];simp);have e:bI f.1=1+f.1.2.1.length+(row f.1.2.2).length:=dL f.1.1 f.1.2.1 f.1.2.2;have h3:dK (bU q)=bI (bU q).1+bT (bU q).2:=rfl;omega
   injection h with h;subst h;refine⟨a2,fun a ha => ?_,?_⟩
   · rcases List.mem_append.1 ha with ha | ha
     · exact hs.args a (List.mem_of_mem_drop ha)
     exact hf.args a ha
   simp only;rw[nF];have:=oQ (bU q).2 (bK b f.1.1.a).params.length;omega
 rw[if_neg c11] at hrd h;by_cases c12:f.1.1.op=12
 · cases hu:qH f.1 with
   | none=>rw[hu] at h;cases h
   | some z =>
    rw[hu] at h;injection h with h;subst h;exact⟨vA hf.head c12 aA aA hu,hf.args,by simp only;omega⟩
 rw[if_neg c12] at hrd;cases hrd
inductive s9
 | no
 | bad
 | yes (x:TT)
def iF (b:Bk) (cv:List (List Nd)):Nat->Fc->s9
 | 0,_=>.bad
 | g+1,f =>
  if bW b cv f=true then
   match kD b cv f with
   | none=>.bad
   | some q=>.yes (eG q.1 q.2)
  else match cS f with
   | none=>.no
   | some p=>match iF b cv g (bU p) with
    | .no=>.no
    | .bad=>.bad
    | .yes y=>.yes (fI (dU f y))
theorem iL {b:Bk} {cv:List (List Nd)} {gas:Nat} {s:Fc} (h:bW b cv s=true):iF b cv (gas+1) s=match kD b cv s with | none=>.bad | some q=>.yes (eG q.1 q.2):=by
 conv=>lhs;unfold iF
 rw[if_pos h]
theorem nI {b:Bk} {cv:List (List Nd)} {gas:Nat} {s:Fc} (h:¬ bW b cv s=true) (hp:cS s=none):iF b cv (gas+1) s=.no:=by
 conv=>lhs;unfold iF
 rw[if_neg h,hp]
theorem pO {b:Bk} {cv:List (List Nd)} {gas:Nat} {s:Fc} {p:TT} (h:¬ bW b cv s=true) (hp:cS s=some p):iF b cv (gas+1) s=match iF b cv gas (bU p) with | .no=>.no | .bad=>.bad | .yes y=>.yes (fI (dU s y)):=by
 conv=>lhs;unfold iF
 rw[if_neg h,hp]
theorem yJ {b:Bk} {free:Int} {f:Fc} (hf:eH b free f) {p:TT} (h:cS f=some p) (p':TT):dK (dU f p')+bI p=dK f+bI p':=by
 unfold cS at h;unfold dU;split at h
 · rename_i c11
   rw[if_pos c11];injection h with h;subst h;obtain⟨⟨n,a,k⟩,args⟩:=f;obtain⟨u,q,br,hk,a6⟩:=eK hf.head.okt c11;have a3:eQ (n,a,k) 1=q:=dI (i:=1) (by rw[hk];rfl);simp only at a3 c11;rw[a3]
   match k,hk with
   | .cons pr n1 a1 k1 (.cons qr n2 a2 k2 r),hk =>
    simp only[cI,List.cons.injEq] at hk;obtain⟨_,rfl,_⟩:=hk;have a4:bI (n,a,fN (.cons pr n1 a1 k1 (.cons qr n2 a2 k2 r)) p')+bI (n2,a2,k2)=bI (n,a,.cons pr n1 a1 k1 (.cons qr n2 a2 k2 r))+bI p':=by
     have e1:bI (n,a,fN (.cons pr n1 a1 k1 (.cons qr n2 a2 k2 r)) p')=1+a.length+(pr.length+bI (n1,a1,k1)+(qr.length+bI p'+(row r).length)):=by
      rw[lH,dL,e7,e7]
     have e2:bI (n,a,.cons pr n1 a1 k1 (.cons qr n2 a2 k2 r))=1+a.length+(pr.length+bI (n1,a1,k1)+(qr.length+bI (n2,a2,k2)+(row r).length)):=by
      rw[dL,e7,e7]
     rw[e1,e2];omega
    have a5:dK ((n,a,.cons pr n1 a1 k1 (.cons qr n2 a2 k2 r)),args)=bI (n,a,.cons pr n1 a1 k1 (.cons qr n2 a2 k2 r))+bT args:=rfl;have a0:dK ((n,a,fN (.cons pr n1 a1 k1 (.cons qr n2 a2 k2 r)) p'),args)=bI (n,a,fN (.cons pr n1 a1 k1 (.cons qr n2 a2 k2 r)) p')+bT args:=rfl;simp only at a5 a0 ⊢;omega
 rename_i c11
 rw[if_neg c11];split at h
 · split at h
   · rename_i hl
     injection h with h;subst h;have:=qL f.2 (dA f.1).toNat p' (default,[],.nil) hl;show bI f.1+bT (f.2.set (dA f.1).toNat p')+bI (f.2.getD (dA f.1).toNat (default,[],.nil))=bI f.1+bT f.2+bI p';omega
   cases h
 cases h
theorem zB {b:Bk} {cv:List (List Nd)} (hr:bP b=0) (hc:fR b cv) : ∀(g:Nat) (f:Fc) (y:TT),eH b (cv.length:Int) f->iF b cv g f=.yes y->bI y<=dK f+4096/\(bI y<=4096->bR b (cv.length:Int) y)
 | 0,_,_,_,h=>by cases h
 | g+1,f,y,hf,h=>by
  by_cases hrd:bW b cv f=true
  · rw[iL hrd] at h;cases ho:kD b cv f with
    | none=>rw[ho] at h;cases h
    | some q =>
     rw[ho] at h;injection h with h;subst h;obtain⟨r1,r2,r3⟩:=C1 hr hc hf hrd ho;have:=r1.few;have h4:bI q.1<=4096:=r1.few;rw[pH];exact⟨by omega,fun h=>nE _ _ r1 r2 h⟩
  · cases hp:cS f with
    | none=>rw[nI hrd hp] at h;cases h
    | some p =>
     rw[pO hrd hp] at h;obtain⟨p1,p2⟩:=iM hf hp;cases hg:iF b cv g (bU p) with
     | no=>rw[hg] at h;cases h
     | bad=>rw[hg] at h;cases h
     | yes z =>
      rw[hg] at h;injection h with h;subst h;obtain⟨i1,i2⟩:=zB hr hc g (bU p) z (kI p1) hg;rw[dJ p1] at i1;have hs:=yJ hf hp z;rw[fY];refine⟨by omega,fun h4 => ?_⟩;exact (i9 hf hp (i2 aA) aA).1.fit h4
theorem GP {b:Bk} {cv:List (List Nd)} (hr:bP b=0) (hc:fR b cv) : ∀(g:Nat) (f:Fc) (room:Int),eH b (cv.length:Int) f->(dK f:Int)<=room->room<=4096->pD b cv g f room=match iF b cv g f with
      | .no=>.no
      | .bad=>.big
      | .yes y=>if room<(bI y:Int) then .big else .yes (bU y)
 | 0,_,_,_,_,_=>rfl
 | g+1,f,room,hf,h1,h2=>by
  by_cases hrd:bW b cv f=true
  · rw[iL hrd];have e:pD b cv (g+1) f room=match jD b cv f with | none=>.big | some y=>if room<(dK y:Int) then .big else .yes y:=by
     conv=>lhs;unfold pD
     rw[if_pos hrd];rfl
    rw[e,SF];cases ho:kD b cv f with
    | none=>rfl
    | some q =>
     simp only;obtain⟨r1,r2,r3⟩:=C1 hr hc hf hrd ho;have hz:bI (eG q.1 q.2)=bI q.1+bT q.2:=pH _ _;cases hon:gG q.1 q.2 with
     | none =>
      unfold gG at hon;split at hon
      · simp only;rw[if_pos aA]
      · cases hon
     | some y =>
      obtain⟨_,o2,o3,o4⟩:=j7 r1 r2 hon;simp only;rw[o2,hz,o4]
  · cases hp:cS f with
    | none =>
     rw[nI hrd hp]
     conv=>lhs;unfold pD
     rw[if_neg hrd,hp]
    | some p =>
     rw[pO hrd hp];obtain⟨p1,p2⟩:=iM hf hp;have a0:=dJ p1;have e:pD b cv (g+1) f room=match pD b cv g (bU p) (room-(dK f:Int)+(bI p:Int)) with | .no=>.no | .big=>.big | .yes y=>.yes (dU f (fI y)):=by
      conv=>lhs;unfold pD
      rw[if_neg hrd,hp];rfl
     rw[e,GP hr hc g (bU p) _ (kI p1) aA aA];cases hg:iF b cv g (bU p) with
     | no=>rfl
     | bad=>rfl
     | yes z =>
      simp only;have hs:=yJ hf hp z;have hl:=fY (dU f z);by_cases hroom:room-(dK f:Int)+(bI p:Int)<(bI z:Int)
      · rw[if_pos hroom,if_pos aA]
      · rw[if_neg hroom,if_neg aA];have hz:=(zB hr hc g (bU p) z (kI p1) hg).2 aA;simp only;rw[nH hz,BV (i9 hf hp hz aA).1.ne]

inductive RS
 | bad (e:Int)
 | done (y:TT) (n:Nat)
def IE (b:Bk) (cv:List (List Nd)):Nat->TT->RS
 | 0,x=>match iF b cv (bI x+1) (bU x) with
  | .no=>.done x 0
  | .bad=>.bad 10
  | .yes _=>.bad 10
 | n+1,x=>match iF b cv (bI x+1) (bU x) with
  | .no=>.done x (n+1)
  | .bad=>.bad 9
  | .yes y=>if 4096<bI y then .bad 9 else IE b cv n y
def TF:P8->RS
 | .bad e=>.bad e
 | .done f k=>.done (fI f) k
theorem SK {b:Bk} {cv:List (List Nd)} (hr:bP b=0) (hc:fR b cv) : ∀(n:Nat) (x:TT),bR b (cv.length:Int) x->IE b cv n x=TF (oA b cv n (bU x) 4096):=by
 intro n
 induction n with
 | zero =>
  intro x hx;have hs:=dJ hx;have h4:bI x<=4096:=hx.few;have a0:=sU hr hc (bI x+1) (bU x) 4096 (kI hx) aA (Int.le_refl _) aA;rw[GP hr hc (bI x+1) (bU x) 4096 (kI hx) aA (Int.le_refl _)] at a0;unfold IE;cases hg:iF b cv (bI x+1) (bU x) with
  | no =>
   rw[hg] at a0;have h1:oA b cv 0 (bU x) 4096=.done (bU x) 0:=a0 0;rw[h1];show RS.done x 0=.done (fI (bU x)) 0;rw[nH hx]
  | bad =>
   rw[hg] at a0;rw[show oA b cv 0 (bU x) 4096=.bad 10 from a0.1];rfl
  | yes y =>
   rw[hg] at a0;simp only at a0 ⊢;split at a0
   · rw[show oA b cv 0 (bU x) 4096=.bad 10 from a0.1];rfl
   · rw[show oA b cv 0 (bU x) 4096=.bad 10 from a0.2.2.1];rfl
 | succ n ih =>
  intro x hx;have hs:=dJ hx;have h4:bI x<=4096:=hx.few;have a0:=sU hr hc (bI x+1) (bU x) 4096 (kI hx) aA (Int.le_refl _) aA;rw[GP hr hc (bI x+1) (bU x) 4096 (kI hx) aA (Int.le_refl _)] at a0;unfold IE;cases hg:iF b cv (bI x+1) (bU x) with
  | no =>
   rw[hg] at a0;have h1:oA b cv (n+1) (bU x) 4096=.done (bU x) (n+1):=a0 (n+1);rw[h1];show RS.done x (n+1)=.done (fI (bU x)) (n+1);rw[nH hx]
  | bad =>
   rw[hg] at a0;rw[show oA b cv (n+1) (bU x) 4096=.bad 9 from a0.2 n];rfl
  | yes y =>
   rw[hg] at a0;simp only at a0 ⊢;split at a0
   · rename_i h9
     rw[if_pos aA,show oA b cv (n+1) (bU x) 4096=.bad 9 from a0.2 n];rfl
   · rename_i h9
     rw[if_neg aA,show oA b cv (n+1) (bU x) 4096=oA b cv n (bU y) 4096 from a0.2.2.2 n];exact ih y ((zB hr hc _ _ y (kI hx) hg).2 aA)
section
section
variable {A : Option Addr} {n c : Nat} {l : List Nd}
end
end
end Go.Proofs.YtjoddliplahgkaaGreat
