/- Merged: WhQ, SenseA. -/
import Derived.Test.YtlahmbhimhmoaaaVWhP
namespace Go.Proofs.Ytlahmbhimhmoaaa
set_option linter.unusedVariables false
set_option linter.unusedSimpArgs false
open Go.RowKit
theorem iO{b:Bk}{free:Int}{x u:TT}(h0:0<=free)(h1:free<=1000000)(hx:bJ b (free+1) x)(hu:bJ b free u):
 qB (aT x) (aT u) (min 0 1048577)/\fL (aT x) (aT u) 0=(if (cM x u).2=0 then aT (cM x u).1 else [],(cM x u).2)/\((cM x u).2=0->bJ b free (cM x u).1):=by
 have hT:=hx.rt;have hU:=hu.rt;have a3:=hu.okt;have hw:=hx.okt.one;have a5:=hx.low;have U:=hu.low;have a6:=hu.nod;have b6:=hx.nod;have b9:=hT.few;have b5:=hU.few;obtain⟨n,a,k⟩:=x;obtain⟨G,O,F⟩:=u;simp only at a5 U hw;have a0:aT (n,a,k)=row (.cons [] n a k .nil):=by simp[row,aT]
 have hm:min (0:Int) 1048577=0:=by decide
 have hz:aR 0 0 ((0:Nat):Int)=0:=by decide
 have a1:∀j:Int,0<=aR 0 0 j/\aR 0 0 j<=4:=fun j=>by
  rw[iV aE aE aE aE];omega
 have a8:JE (G,O,F) 17000:=fun c b0 c0=>by
  have hW:=a3.one;have hl:((row (.cons [] G O F .nil)).length:Int)<=4096:=by
   have:row (.cons [] G O F .nil)=aT (G,O,F):=by simp[row,aT]
   rw[this];omega
  have h2:=oD (B:=free) (up:=c) b0 0 0 a1 0 0 _ _ hW (by
   rw[cR,hz,MV];simp only;rw[U];rfl) (by simp only;omega)
  rw[bT.G_cons,hz,MV,ME]at h2;exact h2.1
 have b4:4*((row (.cons [] n a k .nil)).length:Int)<=17000:=by rw[<-a0];omega
 have hD:(kH ⟨G,O,F⟩ 0).D 0 0 0 0 () (.cons [] n a k .nil):=E9 a8 0 0 a1 0 0 _ _ hw aA aA;have hE:=tF (G,O,F) 0 0 0 0 _ (nA _ _ hw);have e:∀s:Unit,s=():=fun _=>rfl;have a4:nD k:=by
  have:=pP hT.pp;exact this.2.1
 have b2:=D8 (x:=0) hx.okt.ok a4;have c1:=gF k;have b3:1+a.length+(row k).length<=4096:=by have:=hx.few;rwa [cS]at this
 have a7:¬ (0<lU 0 n k/\kU (fun v b=>decide (b<=v)&&decide (1048576<v-b+0+BV 0 n k)) 0 G F=true):=fun hh=>by
  have h2:=mE (p:=fun v z=>decide (free<=v-z)) (q:=fun v b=>decide (b<=v)&&decide (1048576<v-b+0+BV 0 n k)) (c:=0) (fun v z hh=>by
   simp only[ME,MJ]at hh ⊢;simp only at b2;omega) (a:=0) U
  rw[hh.2]at h2;cases h2
 refine⟨?_,?_⟩
 . rw[hm];unfold qB;rw[hT.pp,hU.pp];simp only;rw[bT.D_cons,hz,MV]at hD;exact hD.1
 have hF:(kH ⟨G,O,F⟩ 0).E1 0 () n a k=row (tM (wG (G,O,F)) 0 0 0 0 (.cons [] n a k .nil)):=by
  rw[<-hE,bT.E_cons,hz,MV];simp[bT.E]
 have a2:=FO a3 a8 0 0 a1 0 0 _ _ hw aA aA;have Z:=yX (G,O,F) 0 0 0 0 _ (nA _ _ hw);have b1:wP 0 0 0 0 0 (.cons [] n a k .nil)=lU 0 n k:=by
  simp only[wP,lU,hz,MV,Int.sub_zero]
 rw[b1,<-a0]at Z;have b8:fL (aT (n,a,k)) (aT (G,O,F)) 0=if 4096<(bZ (n,a,k):Int)+lU 0 n k*((bZ (G,O,F):Int)-1) then ([],9) else ((kH ⟨G,O,F⟩ 0).E1 0 () n a k,0):=by
  unfold fL;rw[LZ hT.shape,LZ hU.shape,aN aA,hm];unfold mY;rw[hT.pp,hU.pp];simp only;rw[aN a7]
 rw[b8];unfold cM;simp only;by_cases I:4096<(bZ (n,a,k):Int)+lU 0 n k*((bZ (G,O,F):Int)-1)
 . rw[LZ I,LZ I];exact⟨rfl,fun h=>by cases h⟩
 rw[aN I,aN I];have Y:=FN (u:=(G,O,F)) h0 U 0 0 (fun j=>(a1 j).1) 0 0 _ (nA _ _ hw) (xA _ _ hw) aA (by
  rw[cR,hz,MV,a5];rfl)
 have o:=qA (u:=(G,O,F)) (fun m=>cE b b.entries.length (-1) m=true) (fun m h=>rT h) (fun m hm=>a6 m hm) 0 0 0 0 (.cons [] n a k .nil) (fun m hm=>b6 m (by rw[a0];exact hm));rw[hF];rw[iP]at a2 Y o Z ⊢;rw[hz,MV]at a2 Y o Z ⊢;generalize DH (wG (G,O,F)) 0 (n,a,k)=y at *;have e0:tM (wG (G,O,F)) 0 0 (0+1) 0 .nil=.nil:=rfl;rw[e0]at a2 Y o Z ⊢;have b7:row (.cons [] y.1 y.2.1 y.2.2 .nil)=aT y:=by simp[row,aT]
 rw[b7]at o Z ⊢;refine⟨by simp,fun _=>⟨yA a2 (by simp[a9]),?_,?_,o⟩⟩
 . show (aT y).length<=4096;have e1:bZ (n,a,k)=(aT (n,a,k)).length:=rfl;rw[e1]at I;omega
 rw[cR,hz,MV,NL]at Y;exact Y.1
theorem y9{b:Bk}{free up:Int}{u:TT}(h:bJ b free u)(O:0<=up)(h1:free+up<=1000000):bJ b (free+up) (jB u up)/\eG (aT u) up 0=(aT (jB u up),0):=by
 have F:=h.rt;have I:min (0:Int) 1048577=0:=by decide
 have hz:aR 0 0 ((0:Nat):Int)=0:=by decide
 have Z:(fX up 0).G1 0 () u.1 u.2.2=true:=by
  have hl:((row (.cons [] u.1 u.2.1 u.2.2 .nil)).length:Int)<=4096:=by
   have G:=h.few;have s:row (.cons [] u.1 u.2.1 u.2.2 .nil)=aT u:=by simp[row,aT]
   rw[s];have h4:(aT u).length<=4096:=G;omega
  have G:=oD (B:=free) (up:=up) O 0 0 (fun j=>by rw[iV aE aE aE aE];omega) 0 0 _ _ h.okt.one (by
   rw[cR,hz,MV,h.low];rfl) aA
  rw[bT.G_cons,hz,MV,ME]at G;exact G.1
 have D:row (qO up 0 0 0 0 0 (.cons [] u.1 u.2.1 u.2.2 .nil))=aT (jB u up):=by
  rw[oC];simp[row,aT,jB]
 refine⟨⟨FU h.okt O Z,by rw[FT];exact h.few,?_,fun m I=>?_⟩,?_⟩
 . cases he:kU (fun x z=>decide (free+up<=x-z)) 0 (jB u up).1 (jB u up).2.2 with
   | false=>rfl
   | true =>
    have o:lA (fun x z=>decide (free+up<=x-z)) 0 0 0 0 (qO up 0 0 0 0 0 (.cons [] u.1 u.2.1 u.2.2 .nil))=true:=by
     rw[oC,cR,hz,MV];unfold jB at he;rw[he];rfl
    have Y:=xW 0 0 0 0 _ o O;rw[cR,hz,MV,h.low]at Y;cases Y
 . rw[<-D]at I;rcases tK 0 0 0 0 _ m I with U|U
   . exact h.nod m (by simpa[row,aT] using U)
   exact rT U
 unfold eG;rw[LZ F.shape,aN aA];unfold nN;rw[F.pp,I];simp only;rw[LZ Z,vS];rfl
structure fA (b:Bk) (cv:OD):Prop where
 few:cv.length<=990000
 vals:∀k,k<cv.length->cv.getD k []=[]\/∃x,cv.getD k []=aT x/\bJ b (k:Int) x
theorem kQ{b:Bk}{free:Int}{x:TT}(h:bJ b free x):cI (aT x)=x:=sH h.rt
theorem eJ(x:TT):0<(aT x).length:=by simp[aT]
theorem dY{x:TT}{i:Nat}{y:TT}(h:(a9 x.2.2)[i]? = some y):eP x i=y:=by
 unfold eP;rw[MK,h];rfl
theorem lF{x:TT}{i:Nat}(h:i<(a9 x.2.2).length):(a9 x.2.2)[i]? = some (eP x i):=by
 rw[MI h,dY (MI h)]
theorem lC{α:Type}{L:List α}{i:Nat}(h:i<L.length)(d:α):L.getD i d∈L:=by
 rw[MK,MI h];exact NO h
theorem l7:∀{L:List TT} {a:TT},a∈L->bZ a<cF L
 | x::r,a,h=>by
  simp only[cF];rcases MU.1 h with rfl|h
  . omega
  . have:=l7 h;omega
theorem rC:∀(L:List TT)(i:Nat)(p d:TT),i<L.length->cF (L.set i p)+bZ (L.getD i d)=cF L+bZ p
 | [],i,p,d,h=>absurd h aD
 | x::r,0,p,d,_=>by simp only[List.set_cons_zero,cF,List.getD_cons_zero];omega
 | x::r,i+1,p,d,h=>by
  simp only[List.set_cons_succ,cF,List.getD_cons_succ];have:=rC r i p d (by simpa using h);omega
theorem wK{b:Bk}{free:Int}{h:TT}(G:bJ b free h)(D:h.1.op=12)(I:0<=free)(O:free<=990000):∀(i:Nat)(x y:TT),(i:Int)<=h.1.b->bJ b (free+i) x->y8 h i x=some y->bJ b free y
 | 0,x,y,_,hx,he=>by
  injection he with he;subst he;simpa using hx
 | i+1,x,y,hi,hx,he=>by
  have Y:h.1.b<=4:=by
   have F:=G.okt.ok;simp only[eU,ME]at F;have Z:=bI.1 F.1.1;omega
  have s:=y9 (rK G D (i:=i) aA) (up:=(i:Int)) aA aA;have o:=iO (b:=b) (free:=free+i) (x:=x) (u:=jB (fQ h i) (i:Int)) aA aA (by
   have e:free+((i+1:Nat):Int)=free+i+1:=aA;rw[<-e];exact hx) s.1
  simp only[y8]at he;split at he
  . rename_i U
    exact wK G D I O i _ y aA (o.2.2 U) he
  . cases he
theorem oM{x:TT}(D:x.1.op=12)(i:Nat):aR x.1.op x.1.b ((2*i+1:Nat):Int)=x.1.b:=by
 unfold aR;rw[aN aA,LZ aA]
theorem wL{b:Bk}{free:Int}{h y:TT}(F:bJ b free h)(D:h.1.op=12)(I:0<=free)(O:free<=990000)(he:qZ h=some y):bJ b free y:=by
 obtain⟨U,Y,Z,o,s⟩:=gG F.okt D;have G:=F.kid (lF (x:=h) (i:=2*h.1.a.toNat+1) aA);rw[oM D]at G;unfold qZ at he;exact wK F D I O _ _ y aA (by rw[show ((h.1.b.toNat:Nat):Int)=h.1.b from by omega];exact G) he
theorem oN{n:Nd}{i:Int}(h:(n.op=5/\i=1)\/(n.op=7/\i=2)):aR n.op n.b i=1:=by
 unfold aR;rw[LZ aA]
theorem dP{n:Nd}{i:Int}(h:(n.op=5/\i=0)\/(n.op=7/\i<2)\/n.op=11):aR n.op n.b i=0:=by
 unfold aR;rw[aN aA,aN aA]
theorem AM{b:Bk}{free:Int}{x u:TT}(D:0<=free)(I:free<=990000)(G:bJ b (free+1) x)(F:bJ b free u)(he:(cM x u).2=0):bJ b free (cM x u).1:=(iO D aA G F).2.2 he
theorem tO{b:Bk}{cv:OD}{f:TT}(F:bJ b (cv.length:Int) f)(G:f.1.op=1):0<=f.1.a/\f.1.a.toNat<cv.length/\f.1.a<=1048576:=by
 have I:=(mF F.low).1 G;rw[NY]at I;have D:=F.okt.ok;simp only[eU,ME]at D;have O:=gQ D.1.1;omega
theorem AO{b:Bk}{cv:OD}(G:fA b cv){a:Int}(O:0<=a)(U:a.toNat<cv.length)(D:0<(jT cv a).length):∃x,jT cv a=aT x/\cI (jT cv a)=x/\bJ b ((cv.length-1-a.toNat:Nat):Int) x/\bJ b (cv.length:Int) (jB x (a+1))/\eG (aT x) (a+1) 0=(aT (jB x (a+1)),0):=by
 unfold jT at D ⊢;have I:=G.few;rcases G.vals (cv.length-1-a.toNat) aA with h|⟨x,hx,hfx⟩
 . rw[h]at D;cases D
 have F:=y9 hfx (up:=a+1) aA aA;have e:((cv.length-1-a.toNat:Nat):Int)+(a+1)=(cv.length:Int):=aA;rw[e]at F;exact⟨x,hx,by rw[hx];exact kQ hfx,hfx,F.1,F.2⟩
theorem oR{b:Bk}(Z:bD b=0){free:Int}(U:0<=free){f:TT}(O:bJ b free f)(Y:f.1.op=8):0<=f.1.a/\f.1.a<(b.entries.length:Int)/\(bP b f.1.a).body=aT (cI (bP b f.1.a).body)/\bJ b free (cI (bP b f.1.a).body):=by
 have F:=O.nod f.1 (by simp[aT]);unfold cE at F;rw[aN aA,LZ Y,ME,MJ,beq_iff_eq]at F;have G:=O.okt.ok;simp only[eU,ME]at G;have I:=gQ G.1.1;obtain⟨e,D⟩:=xY (DT Z I.1 F.1 F.2);exact⟨I.1,F.1,e,D.mono U⟩
theorem jY{b:Bk}{cv:OD}(hr:bD b=0)(hc:fA b cv){f y:Fc}(F:cG b (cv.length:Int) f)(D:bX b cv f=true)(h:hY b cv f=some y):cG b (cv.length:Int) y/\cJ y<=4096:=by
 have a1:=hc.few;unfold bX at D;unfold hY at h;by_cases c5:f.1.1.op=5
 . rw[LZ c5]at D h;rw[MJ]at D;obtain⟨p,q,Y⟩:=gO F.head.okt (.inr (.inl c5));have o:=F.head.kid (i:=1) (by rw[Y];rfl);rw[dY (i:=1) (by rw[Y];rfl)]at h;have Z:aR f.1.1.op f.1.1.b ((1:Nat):Int)=1:=oN (.inl ⟨c5,rfl⟩);rw[Z]at o;have ha:=F.args _ (lC D (default,[],.nil));split at h
   . rename_i h9
     obtain⟨I,_,O,_⟩:=iH (AM aA aA o ha h9) (fun a ha=>F.args a (List.mem_of_mem_drop ha)) h;exact⟨I,O⟩
   cases h
 rw[aN c5]at D h;by_cases c7:f.1.1.op=7
 . rw[LZ c7]at h;obtain⟨p,q,r,Y⟩:=pB F.head.okt c7;have o:=F.head.kid0 (i:=1) (by rw[Y];rfl) (dP (.inr (.inl ⟨c7,by decide⟩)));have hs:=F.head.kid (i:=2) (by rw[Y];rfl);have Z:aR f.1.1.op f.1.1.b ((2:Nat):Int)=1:=oN (.inr ⟨c7,rfl⟩);rw[Z]at hs;rw[dY (i:=1) (by rw[Y];rfl),dY (i:=2) (by rw[Y];rfl)]at h;split at h
   . rename_i h9
     obtain⟨I,_,O,_⟩:=iH (AM aA aA hs o h9) F.args h;exact⟨I,O⟩
   cases h
 rw[aN c7]at h;by_cases c8:f.1.1.op=8
 . rw[aN aA,LZ c8]at h;obtain⟨_,_,_,U⟩:=oR hr aA F.head c8;obtain⟨I,_,O,_⟩:=iH U F.args h;exact⟨I,O⟩
 rw[aN aA]at D;by_cases c1:f.1.1.op=1
 . rw[LZ c1]at D h;rw[MJ]at D;obtain⟨v1,v2,_⟩:=tO F.head c1;obtain⟨x,_,ex,_,U,_⟩:=AO hc v1 v2 D;rw[ex]at h;obtain⟨I,_,O,_⟩:=iH U F.args h;exact⟨I,O⟩
 rw[aN c1,aN c8]at h;rw[aN c1]at D;by_cases G:f.1.1.op=11
 . rw[LZ G]at D h;obtain⟨p,q,br,Y,a2⟩:=dR F.head.okt G;have o:=F.head.kid0 (i:=1) (by rw[Y];rfl) (dP (.inr (.inr G)));rw[dY (i:=1) (by rw[Y];rfl)]at D h;unfold i7 at D;simp only[ME,beq_iff_eq,MJ]at D;obtain⟨m1,_,m3,_⟩:=D;have hs:=nK o;have a3:=zR hs.head.okt m1;have a0:=F.head.kid0 (lF (x:=f.1) (i:=2+(cV q).1.1.b.toNat) (by rw[Y];simp only[MN];omega)) (dP (.inr (.inr G)));obtain⟨I,_,O,_⟩:=iH a0 (fun a ha=>by
    rcases MW.1 ha with ha|ha
    . exact hs.args a (List.mem_of_mem_drop ha)
    exact F.args a ha) h
   exact⟨I,O⟩
 rw[aN G]at D h;by_cases s:f.1.1.op=12
 . cases hu:qZ f.1 with
   | none=>rw[hu]at h;cases h
   | some z =>
    rw[hu]at h;obtain⟨I,_,O,_⟩:=iH (wL F.head s aA aA hu) F.args h;exact⟨I,O⟩
 rw[aN s]at D;cases D
theorem iL{b:Bk}{free:Int}{f:Fc}(G:cG b free f){p:TT}(h:cW f=some p):bJ b free p/\bZ p<cJ f:=by
 unfold cW at h;split at h
 . rename_i D
   injection h with h;subst h;obtain⟨p,q,br,I,O⟩:=dR G.head.okt D;have Y:=G.head.kid0 (i:=1) (by rw[I];rfl) (dP (.inr (.inr D)));rw[dY (i:=1) (by rw[I];rfl)];refine⟨Y,?_⟩;have F:q∈a9 f.1.2.2:=by rw[I];simp
   have:=qC F;have e:bZ f.1=1+f.1.2.1.length+(row f.1.2.2).length:=cS f.1.1 f.1.2.1 f.1.2.2;unfold cJ;omega
 split at h
 . split at h
   . rename_i U
     injection h with h;subst h;have F:=lC U (default,[],.nil);refine⟨G.args _ F,?_⟩;have:=l7 F;unfold cJ;omega
   cases h
 cases h
theorem j8{p q:List Nd}{n1 n2:Nd}{a1 a2:List Nd}{k1 k2 r:Fo}(t:TT):fV (.cons p n1 a1 k1 (.cons q n2 a2 k2 r)) t=.cons p n1 a1 k1 (.cons q t.1 t.2.1 t.2.2 r):=rfl
theorem iS{b:Bk}{free:Int}{f:Fc}(I:cG b free f){p G:TT}(h:cW f=some p)(U:bJ b free G)(hs:cJ f+bZ G<=4096+bZ p):cG b free (eX f G)/\cJ (eX f G)+bZ p=cJ f+bZ G:=by
 unfold cW at h;unfold eX;split at h
 rotate_left
 . split at h
   . rename_i F a4
     rw[aN F];split at h
     . rename_i Z
       injection h with h;subst h;have e:=rC f.2 (dG f.1).toNat G (default,[],.nil) Z;refine⟨⟨I.head,I.ne,fun y hy=>?_⟩,?_⟩
       . rcases List.mem_or_eq_of_mem_set hy with hy|rfl
         . exact I.args y hy
         exact U
       unfold cJ;simp only;omega
     cases h
   cases h
 rename_i F
 rw[LZ F];injection h with h;subst h;obtain⟨⟨n,a,k⟩,args⟩:=f;have Y:=I.head.okt.wf;obtain⟨u,q,br,s,a5⟩:=dR I.head.okt F;have z:eP (n,a,k) 1=q:=dY (i:=1) (by rw[s];rfl);simp only at z Y F;rw[z]at hs ⊢
 match k,s with
 | .cons pr n1 a1 k1 (.cons qr n2 a2 k2 r),s =>
  simp only[a9,NW]at s;obtain⟨_,rfl,_⟩:=s;have a3:bZ (n,a,fV (.cons pr n1 a1 k1 (.cons qr n2 a2 k2 r)) G)+bZ (n2,a2,k2)=bZ (n,a,.cons pr n1 a1 k1 (.cons qr n2 a2 k2 r))+bZ G:=by
   have e1:bZ (n,a,fV (.cons pr n1 a1 k1 (.cons qr n2 a2 k2 r)) G)=1+a.length+(pr.length+bZ (n1,a1,k1)+(qr.length+bZ G+(row r).length)):=by
    rw[j8,cS,dB,dB]
   have e2:bZ (n,a,.cons pr n1 a1 k1 (.cons qr n2 a2 k2 r))=1+a.length+(pr.length+bZ (n1,a1,k1)+(qr.length+bZ (n2,a2,k2)+(row r).length)):=by
    rw[cS,dB,dB]
   rw[e1,e2];omega
  have a0:cJ ((n,a,.cons pr n1 a1 k1 (.cons qr n2 a2 k2 r)),args)=bZ (n,a,.cons pr n1 a1 k1 (.cons qr n2 a2 k2 r))+cF args:=rfl;have o:cJ ((n,a,fV (.cons pr n1 a1 k1 (.cons qr n2 a2 k2 r)) G),args)=bZ (n,a,fV (.cons pr n1 a1 k1 (.cons qr n2 a2 k2 r)) G)+cF args:=rfl;refine⟨⟨⟨⟨I.head.okt.ok,I.head.okt.at_,?_⟩,?_,?_,?_⟩,I.ne,I.args⟩,?_⟩
  . simp only at Y ⊢;rw[j8];cases hd:ds n with
    | nil=>rw[hd]at Y;exact Y.elim
    | cons d1 dl =>
     cases dl with
     | nil=>rw[hd]at Y;exact Y.2.2.2.2.elim
     | cons d2 dl =>
      rw[hd]at Y;obtain⟨w1,w2,w3,w4,w5,w6,w7,w8,w9⟩:=Y;exact⟨w1,w2,w3,w4,w5,U.okt.ok,U.okt.at_,U.okt.wf,w9⟩
  . show bZ (n,a,fV (.cons pr n1 a1 k1 (.cons qr n2 a2 k2 r)) G)<=4096;omega
  . have Z:=(mF I.head.low).2;simp only at Z ⊢;rw[j8];unfold kU;rw[show decide (n.op=1)=false from MA aA,Bool.false_and,NK];rw[cR,cR,NL,NL]at Z ⊢;refine⟨Z.1,?_,Z.2.2⟩;have hz:aR n.op n.b ((0+1:Nat):Int)=0:=dP (.inr (.inr F));rw[hz,MV];exact U.low
  . intro m D;have O:=I.head.nod;rw[j8]at D;simp only[aT,row,MU,MW]at D O;rcases D with D|D|D|D|D|D|D|D|D|D|D
    . exact O m (.inl D)
    . exact O m (.inr (.inl D))
    . exact O m (.inr (.inr (.inl D)))
    . exact O m (.inr (.inr (.inr (.inl D))))
    . exact O m (.inr (.inr (.inr (.inr (.inl D)))))
    . exact O m (.inr (.inr (.inr (.inr (.inr (.inl D))))))
    . exact O m (.inr (.inr (.inr (.inr (.inr (.inr (.inl D)))))))
    . exact U.nod m (by simp[aT,D])
    . exact U.nod m (by simp[aT,D])
    . exact U.nod m (by simp[aT,D])
    exact O m (by simp[D])
  . rw[a0,o];omega
section
section
variable {A : OC}{n c : Nat}{l : List Nd}
end
end
end Go.Proofs.Ytlahmbhimhmoaaa
