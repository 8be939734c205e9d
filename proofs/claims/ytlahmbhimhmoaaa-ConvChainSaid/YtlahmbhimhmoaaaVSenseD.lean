/- Merged: WhR, WhS, SenseB, SenseV, SenseU, SenseF, SenseC, SenseD. -/
import Derived.Test.YtlahmbhimhmoaaaVWhK
namespace Go.Proofs.Ytlahmbhimhmoaaa
set_option maxRecDepth 100000
set_option linter.unusedVariables false
set_option linter.unusedSimpArgs false
open Go.RowKit
section
theorem yW{x:TT}{p q:TT}{br:List TT}(h:a9 x.2.2=p::q::br):fV x.2.2 q=x.2.2:=by
 obtain⟨n,a,k⟩:=x
 match k,h with
 | .cons pr n1 a1 k1 (.cons qr n2 a2 k2 r),h =>
  simp only[a9,NW]at h;obtain⟨_,rfl,_⟩:=h;rfl
theorem yV{k:Fo}{p q:TT}{br:List TT}(h:a9 k=p::q::br)(t:TT):a9 (fV k t)=p::t::br:=by
 match k,h with
 | .cons pr n1 a1 k1 (.cons qr n2 a2 k2 r),h =>
  simp only[a9,NW]at h;obtain⟨rfl,_,rfl⟩:=h;rfl
theorem DG{b:Bk}{free:Int}{f:Fc}(O:cG b free f){p:TT}(h:cW f=some p):eX f p=f:=by
 unfold cW at h;unfold eX;split at h
 . rename_i D
   rw[LZ D];injection h with h;obtain⟨u,q,br,F,_⟩:=dR O.head.okt D;have U:eP f.1 1=q:=dY (i:=1) (by rw[F];rfl);rw[<-h,U,yW F]
 split at h
 . rename_i D I
   rw[aN D];split at h
   . rename_i G
     injection h with h;have e:f.2.set (dG f.1).toNat p=f.2:=by
      rw[<-h,MK,MI G];exact List.set_getElem_self G
     rw[e]
   cases h
 cases h
def qJ(b:Bk)(cv:OD)(g n:Nat)(f:Fc)(room:Int):IQ :=
 if bX b cv f=true then
  if n=0 then .bad 10
  else match hY b cv f with
   | none=>.bad 9
   | some y=>if room<(cJ y:Int) then .bad 9 else i9 b cv g (n-1) y room
 else .done f n
theorem kC{b:Bk}{cv:OD}{f:Fc}{p:TT}(h:cW f=some p)(g n:Nat)(room:Int):i9 b cv (g+1) n f room=match i9 b cv g n (cV p) (room-cJ f+bZ p) with
 | .bad e=>.bad e
 | .done y m=>qJ b cv g m (eX f (eR y)) room:=by
 conv=>lhs;unfold i9
 rw[h];simp only;cases i9 b cv g n (cV p) (room-cJ f+bZ p)<;>rfl
theorem gX{b:Bk}{cv:OD}{f:Fc}(h:cW f=none)(g n:Nat)(room:Int):i9 b cv (g+1) n f room=qJ b cv g n f room:=by
 conv=>lhs;unfold i9
 rw[h];rfl
theorem nC{b:Bk}{cv:OD}(Y:bD b=0)(O:fA b cv):∀(g n:Nat)(f:Fc)(room:Int),cG b (cv.length:Int) f->(cJ f:Int)<=room->room<=4096->∀y m,i9 b cv g n f room=.done y m->cG b (cv.length:Int) y/\(cJ y:Int)<=room/\m<=n
 | 0,n,f,room,_,_,_,y,m,h=>by cases h
 | g+1,n,f,room,hf,h1,h2,y,m,h=>by
  have key:∀(G:Fc)(I:Nat),cG b (cv.length:Int) G->(cJ G:Int)<=room->I<=n->qJ b cv g I G room=.done y m->cG b (cv.length:Int) y/\(cJ y:Int)<=room/\m<=n:=by
   intro G I F o U D;unfold qJ at D;split at D
   . rename_i Z
     split at D
     . cases D
     split at D
     . cases D
     rename_i z hz
     split at D
     . cases D
     obtain⟨s,q2,q3⟩:=nC Y O g (I-1) z room (jY Y O F Z hz).1 aA h2 y m D;exact⟨s,q2,by omega⟩
   injection D with e1 e2;subst e1 e2;exact⟨F,o,U⟩
  cases hp:cW f with
  | none =>
   rw[gX hp]at h;exact key f n hf h1 (MF _) h
  | some p =>
   rw[kC hp]at h;obtain⟨p1,p2⟩:=iL hf hp;cases hw:i9 b cv g n (cV p) (room-cJ f+bZ p) with
   | bad e=>rw[hw]at h;cases h
   | done z k =>
    rw[hw]at h;simp only at h;obtain⟨s,q2,q3⟩:=nC Y O g n (cV p) (room-cJ f+bZ p) (nK p1) (by rw[eO p1];omega) aA z k hw;have hz:=s.fit aA;have a0:=fT z;obtain⟨r1,r2⟩:=iS hf hp hz aA;exact key _ k r1 aA q3 h
theorem qL{b:Bk}{cv:OD}(Y:bD b=0)(U:fA b cv):∀(g n:Nat)(f:Fc)(room:Int),cG b (cv.length:Int) f->(cJ f:Int)<=room->room<=4096->n*4097+cJ f<g->i9 b cv g n f room≠.bad 99/\∀k,i9 b cv (g+k) n f room=i9 b cv g n f room
 | 0,n,f,room,_,_,_,h=>absurd h aA
 | g+1,n,f,room,hf,h1,h2,hg=>by
  have key:∀(O:Fc)(G:Nat),cG b (cv.length:Int) O->G<=n->qJ b cv g G O room≠.bad 99/\∀k,qJ b cv (g+k) G O room=qJ b cv g G O room:=by
   intro O G Z a0;unfold qJ;split
   rotate_left
   . exact⟨fun h=>(by cases h),fun _=>rfl⟩
   rename_i o
   split
   . exact⟨fun h=>(by injection h with h;cases h),fun _=>rfl⟩
   cases hz:hY b cv O with
   | none=>exact⟨fun h=>(by injection h with h;cases h),fun _=>rfl⟩
   | some z =>
    simp only;split
    . exact⟨fun h=>(by injection h with h;cases h),fun _=>rfl⟩
    . have s:=jY Y U Z o hz;refine qL Y U g (G-1) z room s.1 aA h2 ?_;have:(G-1)*4097+4097<=n*4097:=by
       have:(G-1+1)*4097<=n*4097:=Nat.mul_le_mul_right _ aA;omega
      omega
  cases hp:cW f with
  | none =>
   refine⟨by rw[gX hp];exact (key f n hf (MF _)).1,fun k=>?_⟩;rw[show g+1+k=(g+k)+1 from by omega,gX hp,gX hp];exact (key f n hf (MF _)).2 k
  | some p =>
   obtain⟨p1,p2⟩:=iL hf hp;have a1:=eO p1;obtain⟨i1,i2⟩:=qL Y U g n (cV p) (room-cJ f+bZ p) (nK p1) aA aA aA;have D:∀k,i9 b cv (g+k+1) n f room=(match i9 b cv g n (cV p) (room-cJ f+bZ p) with
    | .bad e=>.bad e
    | .done y m=>qJ b cv (g+k) m (eX f (eR y)) room):=fun k=>by rw[kC hp,i2 k]
   cases hw:i9 b cv g n (cV p) (room-cJ f+bZ p) with
   | bad e =>
    rw[hw]at i1;refine⟨by have:=D 0;rw[hw]at this;simp only[MQ]at this;rw[this];exact i1,fun k=>?_⟩;have I:=D k;have F:=D 0;rw[hw]at I F;simp only[MQ]at I F;rw[show g+1+k=g+k+1 from by omega,I,F]
   | done z m =>
    obtain⟨q1,q2,q3⟩:=nC Y U g n (cV p) (room-cJ f+bZ p) (nK p1) aA aA z m hw;have hz:=q1.fit aA;have a2:=fT z;obtain⟨r1,r2⟩:=iS hf hp hz aA;obtain⟨k1,k2⟩:=key _ m r1 q3;have F:=D 0;rw[hw]at F;simp only[MQ]at F;refine⟨by rw[F];exact k1,fun k=>?_⟩;have I:=D k;rw[hw]at I;simp only at I;rw[show g+1+k=g+k+1 from by omega,I,F];exact k2 k
theorem JY{b:Bk}{cv:OD}(Y:bD b=0)(O:fA b cv){g D n:Nat}{f:Fc}{room:Int}(U:cG b (cv.length:Int) f)(G:(cJ f:Int)<=room)(I:room<=4096)(Z:n*4097+cJ f<g)(F:n*4097+cJ f<D):i9 b cv g n f room=i9 b cv D n f room:=by
 rcases Nat.le_total g D with h|h
 . rw[<-(qL Y O g n f room U G I Z).2 (D-g),show g+(D-g)=D from by omega]
 rw[<-(qL Y O D n f room U G I F).2 (g-D),show D+(g-D)=g from by omega]
def kS(b:Bk)(cv:OD)(n:Nat)(f:Fc)(room:Int):IQ:=i9 b cv (n*4097+cJ f+1) n f room
theorem FV{b:Bk}{cv:OD}(U:bD b=0)(G:fA b cv){g n:Nat}{f:Fc}{room:Int}(I:cG b (cv.length:Int) f)(D:(cJ f:Int)<=room)(F:room<=4096)(O:n*4097+cJ f<g):i9 b cv g n f room=kS b cv n f room:=JY U G I D F O aA
def F8(b:Bk)(cv:OD)(n:Nat)(f:Fc)(room:Int):IQ :=
 if bX b cv f=true then
  if n=0 then .bad 10
  else match hY b cv f with
   | none=>.bad 9
   | some y=>if room<(cJ y:Int) then .bad 9 else kS b cv (n-1) y room
 else .done f n
theorem I5{b:Bk}{cv:OD}(I:bD b=0)(G:fA b cv){g n:Nat}{f:Fc}{room:Int}(U:cG b (cv.length:Int) f)(O:room<=4096)(Y:n*4097<=g):qJ b cv g n f room=F8 b cv n f room:=by
 unfold qJ F8;split
 . rename_i D
   split
   . rfl
   cases hz:hY b cv f with
   | none=>rfl
   | some z =>
    simp only;split
    . rfl
    . have F:=jY I G U D hz;refine FV I G F.1 aA O ?_;have:(n-1+1)*4097<=n*4097:=Nat.mul_le_mul_right _ aA;omega
 rfl
theorem qH{b:Bk}{cv:OD}(I:bD b=0)(F:fA b cv){n:Nat}{f:Fc}{room:Int}(G:cG b (cv.length:Int) f)(D:room<=4096)(h:cW f=none):kS b cv n f room=F8 b cv n f room:=by
 unfold kS;rw[gX h];exact I5 I F G D aA
theorem qI{b:Bk}{cv:OD}(F:bD b=0)(D:fA b cv){n:Nat}{f:Fc}{room:Int}(I:cG b (cv.length:Int) f)(s:(cJ f:Int)<=room)(O:room<=4096){p:TT}(h:cW f=some p):kS b cv n f room=match kS b cv n (cV p) (room-cJ f+bZ p) with
 | .bad e=>.bad e
 | .done y m=>F8 b cv m (eX f (eR y)) room:=by
 obtain⟨G,p2⟩:=iL I h;have U:=eO G;have e:i9 b cv (n*4097+cJ f) n (cV p) (room-cJ f+bZ p)=kS b cv n (cV p) (room-cJ f+bZ p):=FV F D (nK G) aA aA aA
 conv=>lhs;unfold kS
 rw[kC h,e];cases hw:kS b cv n (cV p) (room-cJ f+bZ p) with
 | bad e=>rfl
 | done z m =>
  simp only;obtain⟨Z,q2,o⟩:=nC F D _ n (cV p) (room-cJ f+bZ p) (nK G) aA aA z m hw;have hz:=Z.fit aA;have Y:=fT z;obtain⟨r1,r2⟩:=iS I h hz aA;refine I5 F D r1 O ?_;have:m*4097<=n*4097:=Nat.mul_le_mul_right _ o;omega
theorem lR{b:Bk}{cv:OD}(O:bD b=0)(G:fA b cv){n m:Nat}{f y:Fc}{room:Int}(I:cG b (cv.length:Int) f)(D:(cJ f:Int)<=room)(F:room<=4096)(h:kS b cv n f room=.done y m):cG b (cv.length:Int) y/\(cJ y:Int)<=room/\m<=n:=nC O G _ n f room I D F y m h
end
section
def IM(F:Nat->IQ)(n:Nat)(y:Fc)(m:Nat):Prop:=∀j,(n<=j+m->F j=.done y (j+m-n))/\(j+m<n->F j=.bad 10)
theorem qK{b:Bk}{cv:OD}(O:bD b=0)(I:fA b cv):∀(G n:Nat)(f:Fc)(room:Int),cG b (cv.length:Int) f->(cJ f:Int)<=room->room<=4096->n*4097+cJ f<G->∀y m,kS b cv n f room=.done y m->IM (fun j=>kS b cv j f room) n y m
 | 0,n,f,room,_,_,_,h,_,_,_=>absurd h aA
 | G+1,n,f,room,hf,h1,U,hG,y,m,h=>by
  have key:∀(Z:Fc)(Y:Nat),cG b (cv.length:Int) Z->Y<=n->F8 b cv Y Z room=.done y m->IM (fun j=>F8 b cv j Z room) Y y m:=by
   intro Z Y a0 a5 D j;unfold F8 at D ⊢;by_cases F:bX b cv Z=true;rotate_left
   . rw[aN F]at D;simp only[aN F];injection D with e1 e2;subst e1 e2;exact⟨fun _=>by congr 1;omega,fun h=>absurd h aA⟩
   rw[LZ F]at D;simp only[LZ F];by_cases h0:Y=0
   . rw[LZ h0]at D;cases D
   rw[aN h0]at D;cases hz:hY b cv Z with
   | none=>rw[hz]at D;cases D
   | some z =>
    rw[hz]at D;simp only at D ⊢;by_cases hb:room<(cJ z:Int)
    . rw[LZ hb]at D;cases D
    rw[aN hb]at D;have o:=jY O I a0 F hz;have a3:(Y-1+1)*4097<=n*4097:=Nat.mul_le_mul_right _ aA;have s:=qK O I G (Y-1) z room o.1 aA U aA y m D;by_cases hj:j=0
    . subst hj;have hm:=(lR O I o.1 aA U D).2.2;rw[LZ rfl];exact⟨fun h=>absurd h aA,fun _=>rfl⟩
    . rw[aN hj,aN hb];obtain⟨a1,a2⟩:=s (j-1);refine⟨fun h=>?_,fun h=>a2 aA⟩;refine (a1 aA).trans ?_
      congr 1
      omega
  intro j;cases hp:cW f with
  | none =>
   rw[qH O I hf U hp]at h;simp only[qH O I hf U hp];exact key f n hf (MF _) h j
  | some p =>
   obtain⟨p1,p2⟩:=iL hf hp;have a6:=eO p1;rw[qI O I hf h1 U hp]at h;simp only[qI O I hf h1 U hp];cases hw:kS b cv n (cV p) (room-cJ f+bZ p) with
   | bad e=>rw[hw]at h;cases h
   | done z k =>
    rw[hw]at h;simp only at h;have s:=qK O I G n (cV p) (room-cJ f+bZ p) (nK p1) aA aA aA z k hw j;simp only at s;obtain⟨q1,q2,q3⟩:=lR O I (nK p1) aA aA hw;have hz:=q1.fit aA;have a7:=fT z;obtain⟨r1,r2⟩:=iS hf hp hz aA;have hk:=key _ k r1 q3 h;have a4:m<=k:=by
     unfold F8 at h;split at h
     . rename_i F
       split at h
       . cases h
       cases hz:hY b cv (eX f (eR z)) with
       | none=>rw[hz]at h;cases h
       | some z2 =>
        rw[hz]at h;simp only at h;split at h
        . cases h
        . have:=(lR O I (jY O I r1 F hz).1 aA U h).2.2;omega
     injection h with e1 e2;omega
    by_cases hj:n<=j+k
    . rw[s.1 hj];simp only;obtain⟨a1,a2⟩:=hk (j+k-n);refine⟨fun h=>?_,fun h=>a2 aA⟩;refine (a1 aA).trans ?_
      congr 1
      omega
    . rw[s.2 aA];exact⟨fun h=>absurd h aA,fun _=>rfl⟩
end
theorem iJ{w:OE}{base j d z g:Nat}{e:TypeId}{F:List Value}(h:w.ownsRow base e z (.slice (some ⟨g,0,none⟩) j d) j F){i:Nat}{u:Value}(I:F[i]? = some u):w.cell? ⟨g,i,none⟩=some u:=by
 have D:=World.ownsRow.cells h (g:=g) rfl i u I;have G:(⟨g,0,none⟩:Addr).add i=⟨g,i,none⟩:=by unfold Addr.add;split<;>simp_all
 rw[G]at D;exact D

section
open Go.Lib renaming hid->aB
abbrev GE(w w':OE)(q:Nat):Prop:=w.heap.size<=q/\q<w'.heap.size
def I7(l:List Nd)(w:OE)(e:Ending)(w':OE):Prop:=OB w w'/\∃g c,e=.returned (.slice (some ⟨g,0,none⟩) l.length c)/\bG w' w.heap.size (.slice (some ⟨g,0,none⟩) l.length c) l
set_option maxHeartbeats 1000000 in
theorem xI{A:OC}{n c:Nat}{l:List Nd}{w:OE}(h:aX w A n c l)(h0:0<n):
 Calls Try.prog 45 #[.slice A n c] w (I7 l w):=by
 have a6:∀(w:OE)(a:OC)(n c n' c':Nat),(binOp .eql 29 (.slice a n c) (.slice none n' c')).run Try.prog w=.ok (.bool a.isNone) w:=fun w a n c n' c'=>Lib.run_eql_slice_nil w _ _ a n c n' c' Try.underlying29;cases A with
 | none =>
  have h1:=h.nul rfl;have h2:=h.cap;omega
 | some a =>
  obtain⟨i0,hi,s,z,a0⟩:=info_parts mK;have a1:=aB hi;have a2:=aB s;have a3:=aB z;have a4:=aB a0;clear hi s z a0;have Z:=h.few;have Y:=aQ w (.cells #[] 42);have hm:aX (w.alloc (.cells #[] 42)) (some a) n c l:=h.below Y;have I:bG (w.alloc (.cells #[] 42)) w.heap.size (.slice (some ⟨w.heap.size,0,none⟩) 0 0) []:=World.ownsRow_made w #[] 0 (MF _) (NH _) rfl;have HM:=aB hm;have G:=aB I;have HB:=aB Y;have O:=aB h.len;clear hm I Y h;go_in;go_wp2_with (at_builtin;go_loud (refine bL rfl (cT (.tmp 5) (.tmp 6) 29 29 rfl w.heap.size i0 Try.underlying29 Try.underlying29 a1.o a2.o a3.o a4.o (.slice (some ⟨w.heap.size,0,none⟩) 0 0) [] l rfl G.o rfl HM.o (by simpa using Z) aD ?_));intro A4 c4 w4 D U)
  go_ret;simp only[NJ,ML,MY]at D;have F:bG w4 w.heap.size (.slice A4 l.length c4) l:=by rw[O.o];exact D
  rcases F.2 with⟨_,h2⟩|⟨g,cap',a5,hv,_⟩
  . have:=O.o;omega
  . injection hv with e1 e2 e3;subst e1;exact⟨HB.o.grown U.grown HB.o.size (fun g hg=>(aV G.o hg).1),g,c4,by rw[O.o];simp,F⟩
theorem G7{w:OE}{base g c:Nat}{n0:Nd}{r:List Nd}(h:bG w base (.slice (some ⟨g,0,none⟩) (n0::r).length c) (n0::r))(hf:(n0::r).length<=5864062014805)(z:Int):a6 (fun q=>q=g) (w.setCell ⟨g,1,none⟩ (.int .i64 z)) (some ⟨g,0,none⟩) (n0::r).length c (⟨n0.op,z,n0.b⟩::r):=by
 have O:=h;rcases h.2 with⟨hv,_⟩|⟨g',cap',F,hv,hg,hh,hc,_⟩
 . cases hv
 injection hv with G e2 e3;injection G with G;injection G with G;subst G;have Z:aW w g 42 F:=hh;have o:=Z.set_ 1 (.int .i64 z);refine⟨rfl,by omega,hf,(fun e=>by cases e),fun _=>⟨g,0,rfl,rfl,fun k hk=>?_⟩⟩;obtain⟨x1,x2,x3⟩:=iX (n0::r) k hk;have U:=iJ O x1;have s:=iJ O x2;have Y:=iJ O x3;rw[Z.cell]at U s Y;rw[ML,o.cell,o.cell,o.cell];have D:∀j:Nat,j≠1->(F.setIfInBounds 1 (.int .i64 z))[j]? = F[j]?:=fun j hj=>by
  rw[Array.getElem?_setIfInBounds_ne (Ne.symm hj)]
 have I:1<F.size:=by
  obtain⟨y1,y2,_⟩:=iX (n0::r) 0 aD;have:=iJ O y2;rw[Z.cell]at this;exact (Array.getElem?_eq_some_iff.1 this).1
 cases k with
 | zero =>
  refine⟨by rw[D _ aA];exact U,?_,by rw[D _ aA];exact Y⟩;rw[NE,ML,Array.getElem?_setIfInBounds_self_of_lt I];rfl
 | succ k =>
  refine⟨by rw[D _ aA];exact U,by rw[D _ aA];exact s,by rw[D _ aA];exact Y⟩
end

section
section
variable {w0 w w' w1 : OE}{g f n c : Nat}{v : bA}{b : Bk}{A : OC}{l : List Nd}{r : RV}{e : Ending}
end
end
theorem sM.arg_at{w:OE}{A:OC}{n c:Nat}{cs:List Ct}(h:sM w A n c cs){k:Nat}(U:k<n):∃b off D n1 F,A=some ⟨b,off,none⟩/\b<w.heap.size/\w.cell? ⟨b,off+k*2,none⟩=some (.slice D n1 F)/\(cs.getD k default).args.length=n1:=by
 obtain⟨b,off,e,O,Y⟩:=h.mem aA;obtain⟨D,n1,F,Z,n2,o,G,_,I,_⟩:=Y k U;exact⟨b,off,D,n1,F,e,O,G,I.len⟩
end Go.Proofs.Ytlahmbhimhmoaaa
