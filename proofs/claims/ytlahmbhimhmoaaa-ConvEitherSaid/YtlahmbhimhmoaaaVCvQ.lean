/- Whether terms come to the same: either way round, both ways under, and from one to a third (plain). -/
import Derived.Test.YtlahmbhimhmoaaaVCvG
namespace Go.Proofs.Ytlahmbhimhmoaaa
set_option maxRecDepth 20000
set_option linter.unusedVariables false
set_option linter.unusedSimpArgs false
open Go.RowKit
variable {b:Bk}{u u':Bool}{f k:Fc}{cv cv':OD}{m n:Nat}{x y:TT}
def eA(cv:OD)(u:Bool)(f k:Fc)(cv':OD)(u':Bool)(x y:TT):Prop :=
 (∃q:Nat,cv'=cL cv f.1.1 q/\u'=(u&&decide (f.1.1.op=4)&&decide (q=1))/\(a9 f.1.2.2)[q]? = some x/\(a9 k.1.2.2)[q]? = some y)\/(cv'=cv/\u'=false/\∃q:Nat,f.2[q]? = some x/\k.2[q]? = some y)
def IN(b:Bk)(u:Bool)(f k:Fc):Prop:=f.1.1.op=k.1.1.op/\f.2.length=k.2.length/\cD b u f.1 k.1=true
theorem eA.low(h:eA cv u f k cv' u' x y):eA cv false f k cv' false x y:=by
 rcases h with⟨q,D,G,F⟩|⟨D,G,F⟩
 . exact .inl ⟨q,D,by simp,F⟩
 exact .inr ⟨D,rfl,F⟩
theorem eA.flag(h:eA cv false f k cv' u' x y):u'=false:=by
 rcases h with⟨q,F,D,G⟩|⟨F,D,G⟩
 . simpa using D
 exact D
theorem eA.symm{v:Bool}(O:f.1.1.op=k.1.1.op)(U:cD b v f.1 k.1=true)(h:eA cv u f k cv' u' x y):eA cv u k f cv' u' y x:=by
 rcases h with⟨q,D,F,G,I⟩|⟨D,F,q,G,I⟩
 . exact .inl ⟨q,by rw[D,s9 O U],by rw[F,O],I,G⟩
 exact .inr ⟨D,F,q,I,G⟩
theorem eA.up(h:eA cv u f k cv' u' x y):∃u1,eA cv true f k cv' u1 x y:=by
 rcases h with⟨q,D,G,F⟩|⟨D,G,F⟩
 . exact⟨_,.inl ⟨q,D,rfl,F⟩⟩
 exact⟨_,.inr ⟨D,rfl,F⟩⟩
theorem eA.fits{v:Bool}(Z:fA b cv)(o:cG b (cv.length:Int) f)(s:cG b (cv.length:Int) k)(O:bX b cv f=false)(U:bX b cv k=false)(G:nR cv n (cJ f))(I:nR cv n (cJ k))(z:f.1.1.op=k.1.1.op)(hq:cD b v f.1 k.1=true)(h:eA cv u f k cv' u' x y):eZ b cv' n x/\eZ b cv' n y :=
 j5 Z o s O U G I z hq (by
  rcases h with⟨q,D,Y,F⟩|⟨D,Y,F⟩
  . exact .inl ⟨q,D,F⟩
  exact .inr ⟨D,F⟩)
theorem oQ{I:List (List Nd)->Bool->Nat->TT->TT->lV}{D:Nat->List (List Nd)}{us:Nat->Bool}:∀(L M:List TT)(i n:Nat)(z:Bool)(m:Nat),gD I D us i L M n=.done z m->(∀(q:Nat)(x y:TT)(k:Nat),L[q]? = some x->M[q]? = some y->k<=n->∀z l,I (D (i+q)) (us (i+q)) k x y=.done z l->l<=k) →
 m<=n/\(z=true->∀(q:Nat)(x y:TT),L[q]? = some x->M[q]? = some y->∃k l,k<=n/\I (D (i+q)) (us (i+q)) k x y=.done true l)/\(z=false->∃(q:Nat)(x y:TT)(k l:Nat),L[q]? = some x/\M[q]? = some y/\k<=n/\I (D (i+q)) (us (i+q)) k x y=.done false l)
 | [],M,i,n,z,m,h,_=>by
  simp only[gD]at h;injection h with O U;subst O U;exact⟨MF _,fun _ q x y F=>by simp at F,fun h=>by cases h⟩
 | x::r,[],i,n,z,m,h,_=>by
  simp only[gD]at h;injection h with O U;subst O U;exact⟨MF _,fun _ q x y _ G=>by simp at G,fun h=>by cases h⟩
 | x::r,y::s,i,n,z,m,h,H=>by
  simp only[gD]at h;cases Y:I (D i) (us i) n x y with
  | bad e=>rw[Y]at h;cases h
  | done a k =>
   rw[Y]at h;have a1:=H 0 x y n rfl rfl (MF _) a k Y;cases a with
   | false =>
    simp only at h;injection h with O U;subst O U;exact⟨a1,fun h=>(by cases h),fun _=>⟨0,x,y,n,k,rfl,rfl,MF _,Y⟩⟩
   | true =>
    simp only at h;obtain⟨b1,b2,b3⟩:=oQ r s (i+1) k z m h (fun q x' y' Z F G a0 z' o hh=>H (q+1) x' y' Z (by simpa using F) (by simpa using G) aA z' o (by rwa [show i+(q+1)=i+1+q from by omega]));refine⟨by omega,fun hz q x' y' F G=>?_,fun hz=>?_⟩
    . cases q with
      | zero =>
       simp only[List.getElem?_cons_zero,MS]at F G;subst F G;exact⟨n,k,MF _,Y⟩
      | succ q =>
       obtain⟨Z,o,c1,c2⟩:=b2 hz q x' y' (by simpa using F) (by simpa using G);exact⟨Z,o,by omega,by rwa [show i+(q+1)=i+1+q from by omega]⟩
    . obtain⟨q,x',y',Z,o,c1,c2,c3,c4⟩:=b3 hz;exact⟨q+1,x',y',Z,o,by simpa using c1,by simpa using c2,by omega,by rwa [show i+(q+1)=i+1+q from by omega]⟩
theorem DX{I:List (List Nd)->Bool->Nat->TT->TT->lV}{z:Bool}(h:zO I b cv u f k n=.done z m)(Y:IN b u f k->∀(cv':OD)(u':Bool)(x y:TT)(j:Nat),eA cv u f k cv' u' x y->j<=n->∀z l,I cv' u' j x y=.done z l->l<=j):
 (z=true->IN b u f k/\∀(cv':OD)(u':Bool)(x y:TT),eA cv u f k cv' u' x y->∃j l,j<=n/\I cv' u' j x y=.done true l)/\(z=false->¬ IN b u f k\/(IN b u f k/\∃(cv':OD)(u':Bool)(x y:TT)(j l:Nat),eA cv u f k cv' u' x y/\j<=n/\I cv' u' j x y=.done false l)):=by
 unfold zO at h;by_cases F:f.1.1.op=k.1.1.op/\f.2.length=k.2.length/\cD b u f.1 k.1=true;rotate_left
 . rw[aN F]at h;injection h with Z e2;subst Z;exact⟨fun h=>(by cases h),fun _=>.inl F⟩
 rw[LZ F]at h;have Y:=Y F;cases o:gD I (cL cv f.1.1) (fun i=>u&&decide (f.1.1.op=4)&&decide (i=1)) 0 (a9 f.1.2.2) (a9 k.1.2.2) n with
 | bad e=>rw[o]at h;cases h
 | done a n1 =>
  obtain⟨a1,a2,a3⟩:=oQ _ _ _ _ _ _ o (fun q x y j hx hy hj z l U=>by
   rw[ML]at U;exact Y _ _ x y j (.inl ⟨q,rfl,rfl,hx,hy⟩) hj z l U)
  rw[o]at h;cases a with
  | false =>
   simp only at h;injection h with Z e2;subst Z e2;refine⟨fun h=>(by cases h),fun _=>.inr ⟨F,?_⟩⟩;obtain⟨q,x,y,j,l,G,D,c3,O⟩:=a3 rfl;rw[ML]at O;exact⟨_,_,x,y,j,l,.inl ⟨q,rfl,rfl,G,D⟩,c3,O⟩
  | true =>
   simp only at h;obtain⟨b1,b2,b3⟩:=oQ _ _ _ _ _ _ h (fun q x y j hx hy hj z l U=>Y _ _ x y j (.inr ⟨rfl,rfl,q,hx,hy⟩) aA z l U);refine⟨fun hz=>⟨F,fun cv' u' x y hp=>?_⟩,fun hz=>.inr ⟨F,?_⟩⟩
   . rcases hp with⟨q,rfl,rfl,s,h4⟩|⟨rfl,rfl,q,s,h4⟩
     . obtain⟨j,l,G,D⟩:=a2 rfl q x y s h4;rw[ML]at D;exact⟨j,l,G,D⟩
     obtain⟨j,l,G,D⟩:=b2 hz q x y s h4;exact⟨j,l,by omega,D⟩
   . obtain⟨q,x,y,j,l,G,D,c3,O⟩:=b3 hz;exact⟨_,_,x,y,j,l,.inr ⟨rfl,rfl,q,G,D⟩,by omega,O⟩
def GC(b:Bk)(cv:OD)(x:TT)(f:Fc):Prop:=∃n m,eZ b cv n x/\kS b cv n (cV x) 4096=.done f m
theorem fM(I:bD b=0){U:Fc}(h:GC b cv x f)(s:GC b cv x U):f=U:=by
 obtain⟨n,m,D,Z⟩:=h;obtain⟨Y,z,F,G⟩:=s;have sx:=eO D.2.1;have fx:bZ x<=4096:=D.2.1.few;have q:=(iD I D.1 D.2.1 D.2.2 Z).2.2.1;have q':=(iD I F.1 F.2.1 F.2.2 G).2.2.1;have W:=qK I D.1 _ n (cV x) 4096 (nK D.2.1) aA (MR _) (NT _) f m Z (n+Y);have o:=qK I D.1 _ Y (cV x) 4096 (nK D.2.1) aA (MR _) (NT _) U z G (n+Y);have e:=W.1 aA;have O:=o.1 aA;simp only at e O;rw[e]at O;injection O
theorem jW{g:Nat}{a:Bool}(h:dJ b g cv u n x y=.done a m)(he:aT x=aT y):a=true:=by
 match g,n,h with
 | g+1,n+1,h =>
  simp only[dJ]at h;rw[LZ he]at h;injection h with D F;exact D.symm
theorem eK(Y:bD b=0){g:Nat}{z:Bool}(I:eZ b cv n x)(o:eZ b cv n y)(h:dJ b (g+1) cv u n x y=.done z m)(U:aT x≠aT y):
 ∃(f k:Fc)(n2:Nat),GC b cv x f/\GC b cv y k/\cG b (cv.length:Int) f/\cG b (cv.length:Int) k/\bX b cv f=false/\bX b cv k=false/\nR cv n2 (cJ f)/\nR cv n2 (cJ k) ∧
  (z=true->IN b u f k/\∀(cv':OD)(u':Bool)(x y:TT),eA cv u f k cv' u' x y->∃j l,j<=n2/\dJ b g cv' u' j x y=.done true l)/\(z=false->¬ IN b u f k\/(IN b u f k/\∃(cv':OD)(u':Bool)(x y:TT)(j l:Nat),eA cv u f k cv' u' x y/\j<=n2/\dJ b g cv' u' j x y=.done false l)):=by
 have O:=I.1
 match n,I,o,h with
 | n+1,I,o,h =>
  simp only[dJ]at h;rw[aN U]at h;by_cases hl:256<cv.length
  . rw[LZ hl]at h;cases h
  rw[aN hl]at h;cases hw:kS b cv n (cV x) 4096 with
  | bad e=>rw[hw]at h;cases h
  | done f n1 =>
   rw[hw]at h;simp only at h;cases hv:kS b cv n1 (cV y) 4096 with
   | bad e=>rw[hv]at h;cases h
   | done k n2 =>
    rw[hv]at h;simp only at h;have D:=I.mono (Nat.le_succ n);obtain⟨q1,q2,q3,q4,q5,q6⟩:=iD Y O D.2.1 D.2.2 hw;have F:=o.mono (MO q3 (Nat.le_succ n));obtain⟨p1,p2,p3,p4,p5,p6⟩:=iD Y O F.2.1 F.2.2 hv;have G:nR cv n2 (cJ f):=q5.mono p3;refine⟨f,k,n2,⟨n,n1,D,hw⟩,⟨n1,n2,F,hv⟩,q1,p1,q4,p4,G,p5,?_⟩;exact DX h (fun hd cv' u' x' y' j hp hj z' l hh=>by
     obtain⟨Z,s⟩:=hp.fits O q1 p1 q4 p4 G p5 hd.1 hd.2.2;exact Nat.le_of_lt (jE Y g cv' u' j x' y' (Z.mono hj) (s.mono hj) z' l hh).1)
theorem sU(z:bD b=0){g s:Nat}{D:Nat}{a O:Bool}{m':Nat}(Y:eZ b cv n x)(Z:eZ b cv n y)(F:eZ b cv D x)(G:eZ b cv D y)(h:dJ b g cv u n x y=.done a m)(h':dJ b s cv u D x y=.done O m'):a=O:=by
 obtain⟨a1,a2⟩:=jE z g cv u n x y Y Z a m h;obtain⟨b1,o⟩:=jE z s cv u D x y F G O m' h';by_cases hl:n<=D
 . have U:=(a2 (D+1) D F G aA).1 aA;have I:=(o (D+1) D F G aA).1 aA;rw[U]at I;injection I
 have U:=(a2 (n+1) n Y Z aA).1 aA;have I:=(o (n+1) n Y Z aA).1 aA;rw[U]at I;injection I
theorem sV{b:Bk}(O:bD b=0):∀(g:Nat)(cv:OD)(n:Nat)(x y:TT)(a:Bool)(m:Nat),eZ b cv n x->eZ b cv n y->dJ b g cv false n x y=.done a m->∀(g' n':Nat)(Z:Bool)(m':Nat),eZ b cv n' x->eZ b cv n' y->dJ b g' cv false n' y x=.done Z m'->a=Z
 | 0,_,_,_,_,_,_,_,_,h,_,_,_,_,_,_,_=>by cases h
 | _+1,_,_,_,_,_,_,_,_,_,0,_,_,_,_,_,h=>by cases h
 | g+1,cv,n,x,y,a,m,hx,hy,h,g'+1,n',Z,m',hx',hy',h'=>by
  by_cases he:aT x=aT y
  . rw[jW h he,jW h' he.symm]
  obtain⟨f,k,n2,wf,wk,q1,q2,r1,r2,B1,B2,T,F⟩:=eK O hx hy h he;obtain⟨k',f',a2,a1,a0,a4,a3,a6,a5,Y,U,T',F'⟩:=eK O hy' hx' h' (Ne.symm he);obtain rfl:=fM O wf a0;obtain rfl:=fM O wk a1;have z:=hx.1;cases a with
  | true =>
   cases Z with
   | true=>rfl
   | false =>
    exfalso;obtain⟨⟨I,hl,s⟩,hp⟩:=T rfl;rcases F' rfl with hn|⟨hd,cv',u',y',x',j,l,hpart,hj,hcf⟩
    . exact hn ⟨I.symm,hl.symm,mI s I⟩
    . obtain rfl:=hpart.flag;have D:=hpart.symm hd.1 hd.2.2;obtain⟨i,l',o,G⟩:=hp _ _ _ _ D;obtain⟨X1,Y1⟩:=D.fits z q1 q2 r1 r2 B1 B2 I s;obtain⟨X2,Y2⟩:=D.fits z q1 q2 r1 r2 U Y I s;cases sV O g _ _ _ _ _ _ (X1.mono o) (Y1.mono o) G _ _ _ _ (X2.mono hj) (Y2.mono hj) hcf
  | false =>
   cases Z with
   | false=>rfl
   | true =>
    exfalso;obtain⟨⟨I,hl,s⟩,hp⟩:=T' rfl;rcases F rfl with hn|⟨hd,cv',u',x',y',j,l,hpart,hj,hcf⟩
    . exact hn ⟨I.symm,hl.symm,mI s I⟩
    . obtain rfl:=hpart.flag;have D:=hpart.symm hd.1 hd.2.2;obtain⟨i,l',o,G⟩:=hp _ _ _ _ D;obtain⟨X1,Y1⟩:=hpart.fits z q1 q2 r1 r2 B1 B2 hd.1 hd.2.2;obtain⟨X2,Y2⟩:=hpart.fits z q1 q2 r1 r2 U Y hd.1 hd.2.2;cases sV O g _ _ _ _ _ _ (X1.mono hj) (Y1.mono hj) hcf _ _ _ _ (X2.mono o) (Y2.mono o) G
theorem zQ{b:Bk}(D:bD b=0):∀(g:Nat)(cv:OD)(n:Nat)(x y:TT)(m:Nat),eZ b cv n x->eZ b cv n y->dJ b g cv false n x y=.done true m->∀(g' O:Nat)(c:Bool)(m':Nat),eZ b cv O x->eZ b cv O y->dJ b g' cv true O x y=.done c m'->c=true
 | 0,_,_,_,_,_,_,_,h,_,_,_,_,_,_,_=>by cases h
 | _+1,_,_,_,_,_,_,_,_,0,_,_,_,_,_,h=>by cases h
 | g+1,cv,n,x,y,m,hx,hy,h,g'+1,O,c,m',hx',hy',h'=>by
  by_cases he:aT x=aT y
  . exact jW h' he
  obtain⟨f,k,n2,wf,wk,q1,q2,r1,r2,B1,B2,T,F⟩:=eK D hx hy h he;obtain⟨f',k',a0,s,z,a1,a2,a3,a4,U,Y,T',F'⟩:=eK D hx' hy' h' he;obtain rfl:=fM D wf s;obtain rfl:=fM D wk z;have hc:=hx.1;cases c with
  | true=>rfl
  | false =>
   exfalso;obtain⟨⟨Z,hl,o⟩,hp⟩:=T rfl;rcases F' rfl with hn|⟨hd,cv',u',x',y',j,l,hpart,hj,hcf⟩
   . exact hn ⟨Z,hl,rN o⟩
   . obtain⟨i,l',I,G⟩:=hp _ _ _ _ hpart.low;obtain⟨X1,Y1⟩:=hpart.fits hc q1 q2 r1 r2 B1 B2 Z o;obtain⟨X2,Y2⟩:=hpart.fits hc q1 q2 r1 r2 U Y Z o;cases u' with
     | true=>cases zQ D g _ _ _ _ _ (X1.mono I) (Y1.mono I) G _ _ _ _ (X2.mono hj) (Y2.mono hj) hcf
     | false=>cases sU D (X1.mono I) (Y1.mono I) (X2.mono hj) (Y2.mono hj) G hcf
theorem uH{b:Bk}(G:bD b=0):∀(g:Nat)(cv:OD)(n:Nat)(x y:TT)(m:Nat),eZ b cv n x->eZ b cv n y->dJ b g cv false n x y=.done true m->∀(g' Y:Nat)(c:Bool)(m':Nat),eZ b cv Y x->eZ b cv Y y->dJ b g' cv true Y y x=.done c m'->c=true
 | 0,_,_,_,_,_,_,_,h,_,_,_,_,_,_,_=>by cases h
 | _+1,_,_,_,_,_,_,_,_,0,_,_,_,_,_,h=>by cases h
 | g+1,cv,n,x,y,m,hx,hy,h,g'+1,Y,c,m',hx',hy',h'=>by
  by_cases he:aT x=aT y
  . exact jW h' he.symm
  obtain⟨f,k,n2,wf,wk,q1,q2,r1,r2,B1,B2,T,F⟩:=eK G hx hy h he;obtain⟨k',f',a1,a0,z,a3,a2,a5,a4,o,Z,T',F'⟩:=eK G hy' hx' h' (Ne.symm he);obtain rfl:=fM G wf z;obtain rfl:=fM G wk a0;have hc:=hx.1;cases c with
  | true=>rfl
  | false =>
   exfalso;obtain⟨⟨U,hl,s⟩,hp⟩:=T rfl;rcases F' rfl with hn|⟨hd,cv',u',y',x',j,l,hpart,hj,hcf⟩
   . exact hn ⟨U.symm,hl.symm,rN (mI s U)⟩
   . have D:=hpart.symm hd.1 hd.2.2;obtain⟨i,l',O,I⟩:=hp _ _ _ _ D.low;obtain⟨X1,Y1⟩:=D.fits hc q1 q2 r1 r2 B1 B2 U s;obtain⟨X2,Y2⟩:=D.fits hc q1 q2 r1 r2 Z o U s;cases u' with
     | true=>cases uH G g _ _ _ _ _ (X1.mono O) (Y1.mono O) I _ _ _ _ (X2.mono hj) (Y2.mono hj) hcf
     | false=>cases sV G g _ _ _ _ _ _ (X1.mono O) (Y1.mono O) I _ _ _ _ (X2.mono hj) (Y2.mono hj) hcf
theorem zP{b:Bk}(D:bD b=0):∀(g:Nat)(cv:OD)(n:Nat)(x y:TT)(a:Bool)(m:Nat),eZ b cv n x->eZ b cv n y->dJ b g cv false n x y=.done a m->∀(g1 n1 m1:Nat),eZ b cv n1 x->eZ b cv n1 y->dJ b g1 cv true n1 x y=.done true m1->∀(g2 n2 m2:Nat),eZ b cv n2 x->eZ b cv n2 y->dJ b g2 cv true n2 y x=.done true m2->a=true
 | 0,_,_,_,_,_,_,_,_,h,_,_,_,_,_,_,_,_,_,_,_,_=>by cases h
 | _+1,_,_,_,_,_,_,_,_,_,0,_,_,_,_,h,_,_,_,_,_,_=>by cases h
 | _+1,_,_,_,_,_,_,_,_,_,_,_,_,_,_,_,0,_,_,_,_,h=>by cases h
 | g+1,cv,n,x,y,a,m,hx,hy,h,g1+1,n1,m1,hx1,hy1,h1,g2+1,n2,m2,hx2,hy2,h2=>by
  by_cases he:aT x=aT y
  . exact jW h he
  obtain⟨f,k,j0,wf,wk,q1,q2,r1,r2,B1,B2,T,F⟩:=eK D hx hy h he;obtain⟨f',k',j1,G,I,_,_,_,_,C1,C2,T1,_⟩:=eK D hx1 hy1 h1 he;obtain rfl:=fM D wf G;obtain rfl:=fM D wk I;obtain⟨k',f',j2,I,G,_,_,_,_,D2,D1,T2,_⟩:=eK D hy2 hx2 h2 (Ne.symm he);obtain rfl:=fM D wf G;obtain rfl:=fM D wk I;have hc:=hx.1;cases a with
  | true=>rfl
  | false =>
   exfalso;obtain⟨⟨O,hl,o⟩,hp⟩:=T1 rfl;obtain⟨⟨a4,a3,a2⟩,a1⟩:=T2 rfl;rcases F rfl with hn|⟨hd,cv',u',x',y',j,l,hpart,hj,hcf⟩
   . exact hn ⟨O,hl,CE o a2 O⟩
   . obtain rfl:=hpart.flag;obtain⟨u1,s⟩:=hpart.up;have a0:=s.symm O o;obtain⟨i,l',z,U⟩:=hp _ _ _ _ s;obtain⟨i2,l2,Z,Y⟩:=a1 _ _ _ _ a0;obtain⟨X0,Y0⟩:=hpart.fits hc q1 q2 r1 r2 B1 B2 O o;obtain⟨X1,Y1⟩:=hpart.fits hc q1 q2 r1 r2 C1 C2 O o;obtain⟨X2,Y2⟩:=hpart.fits hc q1 q2 r1 r2 D1 D2 O o;cases u1 with
     | true=>cases zP D g _ _ _ _ _ _ (X0.mono hj) (Y0.mono hj) hcf _ _ _ (X1.mono z) (Y1.mono z) U _ _ _ (X2.mono Z) (Y2.mono Z) Y
     | false=>cases sU D (X0.mono hj) (Y0.mono hj) (X1.mono z) (Y1.mono z) hcf U
theorem vW{free:Int}(D:bJ b free x)(F:bJ b free y)(h:aT x=aT y):x=y:=by
 rw[<-kQ D,<-kQ F,h]
theorem CH{free:Int}(I:cG b free f)(O:cG b free k)(o:f.1.1.op=k.1.1.op)(D:cD b u f.1 k.1=true):(a9 f.1.2.2).length=(a9 k.1.2.2).length:=by
 have Z:=fP I.head.okt.wf;have h:=fP O.head.okt.wf;by_cases G:f.1.1.op=4\/f.1.1.op=5
 . obtain⟨p,q,e⟩:=gO I.head.okt aA;obtain⟨s,z,Y⟩:=gO O.head.okt aA;rw[e,Y];rfl
 rw[Z,h];by_cases U:f.1.1.op=2
 . rw[jG I.head.okt.ok,jG O.head.okt.ok,<-o,U];rfl
 have:f.1.1=k.1.1:=by
  unfold cD at D;rw[aN U,aN G]at D;by_cases F:f.1.1.op=12
  . rw[LZ F,ME,MJ]at D;exact D.1
  rw[aN F,MJ]at D;exact D
 rw[this]
theorem eA.mid{free:Int}{e:Fc}{z:TT}(o:cG b free f)(s:cG b free k)(G:IN b u f k)(h:eA cv u f e cv' u' x z):∃y,eA cv u f k cv' u' x y/\eA cv u k e cv' u' y z:=by
 obtain⟨U,hl,Z⟩:=G;rcases h with⟨q,G,I,F,O⟩|⟨G,I,q,F,O⟩
 . have Y:=CH o s U Z;have D:q<(a9 k.1.2.2).length:=by
    rw[NP]at F;obtain⟨F,_⟩:=F;omega
   refine⟨(a9 k.1.2.2)[q],.inl ⟨q,G,I,F,MI D⟩,.inl ⟨q,by rw[G,s9 U Z],by rw[I,U],MI D,O⟩⟩
 have D:q<k.2.length:=by
  rw[NP]at F;obtain⟨F,_⟩:=F;omega
 exact⟨k.2[q],.inr ⟨G,I,q,F,MI D⟩,.inr ⟨G,I,q,MI D,O⟩⟩
theorem uI{b:Bk}(G:bD b=0):∀(g:Nat)(cv:OD)(u:Bool)(n:Nat)(x y z:TT)(m:Nat),eZ b cv n x->eZ b cv n y->dJ b g cv u n x y=.done true m->∀(g1 n1 m1:Nat),eZ b cv n1 y->eZ b cv n1 z->dJ b g1 cv u n1 y z=.done true m1->∀(g2 n2:Nat)(c:Bool)(m2:Nat),eZ b cv n2 x->eZ b cv n2 z->dJ b g2 cv u n2 x z=.done c m2->c=true
 | 0,_,_,_,_,_,_,_,_,_,h,_,_,_,_,_,_,_,_,_,_,_,_,_=>by cases h
 | _+1,_,_,_,_,_,_,_,_,_,_,0,_,_,_,_,h,_,_,_,_,_,_,_=>by cases h
 | _+1,_,_,_,_,_,_,_,_,_,_,_,_,_,_,_,_,0,_,_,_,_,_,h=>by cases h
 | g+1,cv,u,n,x,y,z,m,hx,hy,h,g1+1,n1,m1,hy1,hz1,h1,g2+1,n2,c,m2,hx2,hz2,o=>by
  by_cases Y:aT x=aT z
  . exact jW o Y
  by_cases U:aT x=aT y
  . obtain rfl:=vW hx.2.1 hy.2.1 U;exact (sU G hy1 hz1 hx2 hz2 h1 o).symm
  by_cases Z:aT y=aT z
  . obtain rfl:=vW hy1.2.1 hz1.2.1 Z;exact (sU G hx hy hx2 hz2 h o).symm
  obtain⟨f,k,j0,wf,wk,q1,q2,r1,r2,B1,B2,T,_⟩:=eK G hx hy h U;obtain⟨k',e,j1,a5,we,_,q3,_,r3,C2,C3,T1,_⟩:=eK G hy1 hz1 h1 Z;obtain rfl:=fM G wk a5;obtain⟨f',e',j2,a4,a3,_,_,_,_,D1,D3,_,F2⟩:=eK G hx2 hz2 o Y;obtain rfl:=fM G wf a4;obtain rfl:=fM G we a3;have s:=hx.1;cases c with
  | true=>rfl
  | false =>
   exfalso;obtain⟨D,a1⟩:=T rfl;obtain⟨F,a2⟩:=T1 rfl;rcases F2 rfl with hn|⟨hd,cv',u',x',z',j,l,hpart,hj,hcf⟩
   . exact hn ⟨D.1.trans F.1,D.2.1.trans F.2.1,xZ D.2.2 F.2.2 D.1⟩
   . obtain⟨y',pa,pb⟩:=hpart.mid q1 q2 D;obtain⟨i,l',hi,a0⟩:=a1 _ _ _ _ pa;obtain⟨i1,l1,O,I⟩:=a2 _ _ _ _ pb;obtain⟨X0,Y0⟩:=pa.fits s q1 q2 r1 r2 B1 B2 D.1 D.2.2;obtain⟨Y1,Z1⟩:=pb.fits s q2 q3 r2 r3 C2 C3 F.1 F.2.2;obtain⟨X2,Z2⟩:=hpart.fits s q1 q3 r1 r3 D1 D3 hd.1 hd.2.2;cases uI G g _ _ _ _ _ _ _ (X0.mono hi) (Y0.mono hi) a0 _ _ _ (Y1.mono O) (Z1.mono O) I _ _ _ _ (X2.mono hj) (Z2.mono hj) hcf
end Go.Proofs.Ytlahmbhimhmoaaa
