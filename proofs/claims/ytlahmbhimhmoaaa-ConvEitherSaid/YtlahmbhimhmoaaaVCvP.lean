/- Whether terms come to the same: plain functions, told for any fuel. -/
import Derived.Test.YtlahmbhimhmoaaaVWhO
namespace Go.Proofs.Ytlahmbhimhmoaaa
set_option linter.unusedVariables false
set_option linter.unusedSimpArgs false
open Go.RowKit
variable {b:Bk}
inductive lV
 | bad (e:Int)
 | done (is:Bool) (n:Nat)
def gD(F:List (List Nd)->Bool->Nat->TT->TT->lV)(D:Nat->List (List Nd))(G:Nat->Bool):Nat->List TT->List TT->Nat->lV
 | i,x::r,y::s,n=>match F (D i) (G i) n x y with
  | .bad e=>.bad e
  | .done false m=>.done false m
  | .done true m=>gD F D G (i+1) r s m
 | _,_,_,n=>.done true n
def tQ:Fo->List Int
 | .nil=>[]
 | .cons p _ _ _ x=>p.map (·.a)++tQ x
def cD(b:Bk)(u:Bool)(x y:TT):Bool :=
 if x.1.op=2 then decide (x.1.a=y.1.a)&&mZ b x.2.1 y.2.1&&(u||mZ b y.2.1 x.2.1)
 else if x.1.op=4\/x.1.op=5 then true
 else if x.1.op=12 then decide (x.1=y.1)&&decide (tQ x.2.2=tQ y.2.2)
 else decide (x.1=y.1)
def zO(D:List (List Nd)->Bool->Nat->TT->TT->lV)(b:Bk)(cv:OD)(u:Bool)(f k:Fc)(n:Nat):lV :=
 if f.1.1.op=k.1.1.op/\f.2.length=k.2.length/\cD b u f.1 k.1=true then
  match gD D (cL cv f.1.1) (fun i=>u&&decide (f.1.1.op=4)&&decide (i=1)) 0 (a9 f.1.2.2) (a9 k.1.2.2) n with
  | .bad e=>.bad e
  | .done false m=>.done false m
  | .done true m=>gD D (fun _=>cv) (fun _=>false) 0 f.2 k.2 m
 else .done false n
def dJ(b:Bk):Nat->List (List Nd)->Bool->Nat->TT->TT->lV
 | 0,_,_,_,_,_=>.bad 99
 | _+1,_,_,0,_,_=>.bad 10
 | g+1,cv,u,n+1,x,y=>if aT x=aT y then .done true n else if 256<cv.length then .bad 5 else
  match kS b cv n (cV x) 4096 with
  | .bad e=>.bad e
  | .done f n1=>match kS b cv n1 (cV y) 4096 with
   | .bad e=>.bad e
   | .done k n2=>zO (dJ b g) b cv u f k n2
theorem s9{u:Bool}{f k:Fc}{cv:OD}(I:f.1.1.op=k.1.1.op)(G:cD b u f.1 k.1=true)(i:Nat):cL cv k.1.1 i=cL cv f.1.1 i:=by
 by_cases F:f.1.1.op=12
 . have:f.1.1=k.1.1:=by
    unfold cD at G;rw[aN aA,aN aA,LZ F,ME,MJ]at G;exact G.1
   rw[this]
 have:aR k.1.1.op k.1.1.b (i:Int)=aR f.1.1.op f.1.1.b (i:Int):=by
  unfold aR;rw[<-I];by_cases D:(f.1.1.op=4\/f.1.1.op=5)/\(i:Int)=1\/f.1.1.op=7/\(i:Int)=2
  . rw[LZ D,LZ D]
  rw[aN D,aN D,aN aA,aN aA]
 unfold cL;rw[this]
theorem sS{Z cm':List (List Nd)->Bool->Nat->TT->TT->lV}{D:Nat->List (List Nd)}{F:Nat->Bool}{J:Nat}:∀(L M:List TT)(i n:Nat)(G:Bool)(m:Nat),gD Z D F i L M n=.done G m->(∀(q:Nat)(x y:TT)(k:Nat),L[q]? = some x->M[q]? = some y->k<=n->∀z l,Z (D (i+q)) (F (i+q)) k x y=.done z l->l<=k/\∀j,j<=J->(k<=j+l->cm' (D (i+q)) (F (i+q)) j x y=.done z (j+l-k))/\(j+l<k->cm' (D (i+q)) (F (i+q)) j x y=.bad 10)) →
 m<=n/\∀j,j<=J->(n<=j+m->gD cm' D F i L M j=.done G (j+m-n))/\(j+m<n->gD cm' D F i L M j=.bad 10)
 | [],M,i,n,G,m,h,_=>by
  simp only[gD]at h;injection h with I O;subst I O;exact⟨MF _,fun j _=>⟨fun _=>by simp only[gD];congr 1;omega,fun h=>absurd h aA⟩⟩
 | x::r,[],i,n,G,m,h,_=>by
  simp only[gD]at h;injection h with I O;subst I O;exact⟨MF _,fun j _=>⟨fun _=>by simp only[gD];congr 1;omega,fun h=>absurd h aA⟩⟩
 | x::r,y::s,i,n,G,m,h,H=>by
  simp only[gD]at h;cases o:Z (D i) (F i) n x y with
  | bad e=>rw[o]at h;cases h
  | done z k =>
   rw[o]at h;obtain⟨a1,a2⟩:=H 0 x y n rfl rfl (MF _) z k o;simp only[MQ]at a2;cases z with
   | false =>
    simp only at h;injection h with I O;subst I O;refine⟨a1,fun j hj=>?_⟩;obtain⟨U,Y⟩:=a2 j hj;simp only[gD];exact⟨fun h=>by rw[U h],fun h=>by rw[Y h]⟩
   | true =>
    simp only at h;obtain⟨b1,b2⟩:=sS r s (i+1) k G m h (fun q x' y' k' hx hy a3 z' l' hh=>by
     have:=H (q+1) x' y' k' (by simpa using hx) (by simpa using hy) aA z' l' (by rwa [show i+(q+1)=i+1+q from by omega])
     rwa [show i+(q+1)=i+1+q from by omega]at this)
    refine⟨by omega,fun j hj=>?_⟩;obtain⟨U,Y⟩:=a2 j hj;simp only[gD];by_cases a0:n<=j+k
    . rw[U a0];simp only;obtain⟨d1,d2⟩:=b2 (j+k-n) aA;exact⟨fun h=>by rw[d1 aA];congr 1;omega,fun h=>d2 aA⟩
    . rw[Y aA];exact⟨fun h=>absurd h aA,fun _=>rfl⟩
theorem DW{Y cm':List (List Nd)->Bool->Nat->TT->TT->lV}{cv:OD}{u:Bool}{f k:Fc}{n m J:Nat}{is:Bool}(h:zO Y b cv u f k n=.done is m)
 (HK:f.1.1.op=k.1.1.op->cD b u f.1 k.1=true->∀(D:OD)(u':Bool)(x y:TT)(j:Nat),(∃q,D=cL cv f.1.1 q/\(a9 f.1.2.2)[q]? = some x/\(a9 k.1.2.2)[q]? = some y)\/(D=cv/\∃q:Nat,f.2[q]? = some x/\k.2[q]? = some y)->j<=n->∀z l,Y D u' j x y=.done z l->l<=j/\∀i,i<=J->(j<=i+l->cm' D u' i x y=.done z (i+l-j))/\(i+l<j->cm' D u' i x y=.bad 10)) :
 m<=n/\∀j,j<=J->(n<=j+m->zO cm' b cv u f k j=.done is (j+m-n))/\(j+m<n->zO cm' b cv u f k j=.bad 10):=by
 unfold zO at h ⊢;by_cases F:f.1.1.op=k.1.1.op/\f.2.length=k.2.length/\cD b u f.1 k.1=true;rotate_left
 . rw[aN F]at h;simp only[aN F];injection h with Z o;subst Z o;exact⟨MF _,fun j _=>⟨fun _=>by congr 1;omega,fun h=>absurd h aA⟩⟩
 rw[LZ F]at h;simp only[LZ F];have H:=HK F.1 F.2.2;cases s:gD Y (cL cv f.1.1) (fun i=>u&&decide (f.1.1.op=4)&&decide (i=1)) 0 (a9 f.1.2.2) (a9 k.1.2.2) n with
 | bad e=>rw[s]at h;cases h
 | done z n1 =>
  obtain⟨a1,a2⟩:=sS (cm':=cm') (J:=J) _ _ _ _ _ _ s (fun q x y j hx hy G z l I=>by
   rw[ML]at I ⊢;exact H _ _ x y j (.inl ⟨q,rfl,hx,hy⟩) G z l I)
  rw[s]at h;cases z with
  | false =>
   simp only at h;injection h with Z o;subst Z o;refine⟨a1,fun j G=>?_⟩;obtain⟨O,U⟩:=a2 j G;exact⟨fun h=>by rw[O h],fun h=>by rw[U h]⟩
  | true =>
   simp only at h;obtain⟨b1,b2⟩:=sS (cm':=cm') (J:=J) _ _ _ _ _ _ h (fun q x y j hx hy G z l I=>H _ _ x y j (.inr ⟨rfl,q,hx,hy⟩) aA z l I);refine⟨by omega,fun j G=>?_⟩;obtain⟨O,U⟩:=a2 j G;by_cases a0:n<=j+n1
   . rw[O a0];simp only;obtain⟨d1,d2⟩:=b2 (j+n1-n) aA;exact⟨fun h=>by rw[d1 aA];congr 1;omega,fun h=>d2 aA⟩
   . rw[U aA];exact⟨fun h=>absurd h aA,fun _=>rfl⟩
theorem j5{u:Bool}{cv:OD}(I:fA b cv){f k:Fc}{n:Nat}(h:cG b (cv.length:Int) f)(o:cG b (cv.length:Int) k)(O:bX b cv f=false)(U:bX b cv k=false)(F:nR cv n (cJ f))(G:nR cv n (cJ k))(s:f.1.1.op=k.1.1.op)(hq:cD b u f.1 k.1=true){D:OD}{x y:TT}(z:(∃q,D=cL cv f.1.1 q/\(a9 f.1.2.2)[q]? = some x/\(a9 k.1.2.2)[q]? = some y)\/(D=cv/\∃q:Nat,f.2[q]? = some x/\k.2[q]? = some y)):eZ b D n x/\eZ b D n y:=by
 rcases z with⟨q,rfl,Y,Z⟩|⟨rfl,q,Y,Z⟩
 . refine⟨(IX I h O F Y).1,?_⟩;rw[<-s9 s hq];exact (IX I o U G Z).1
 exact⟨(zL I h F Y).1,(zL I o G Z).1⟩
set_option maxRecDepth 20000 in
theorem jE{b:Bk}(Z:bD b=0):∀(g:Nat)(cv:OD)(u:Bool)(n:Nat)(x y:TT),eZ b cv n x->eZ b cv n y->∀is m,dJ b g cv u n x y=.done is m →
 m<n/\∀(G j:Nat),eZ b cv j x->eZ b cv j y->j<G->(n<=j+m->dJ b G cv u j x y=.done is (j+m-n))/\(j+m<n->dJ b G cv u j x y=.bad 10)
 | 0,_,_,_,_,_,_,_,_,_,h=>by cases h
 | g+1,_,_,0,_,_,_,_,_,_,h=>by cases h
 | g+1,cv,u,n+1,x,y,hx,hy,is,m,h=>by
  simp only[dJ]at h;by_cases he:aT x=aT y
  . rw[LZ he]at h;injection h with e1 e2;subst e1 e2;refine⟨NT _,fun G j _ _ hG=>?_⟩;obtain⟨G,rfl⟩:∃k,G=k+1:=⟨G-1,by omega⟩;cases j with
    | zero=>exact⟨fun h=>absurd h aA,fun _=>rfl⟩
    | succ j =>
     simp only[dJ];rw[LZ he];exact⟨fun _=>by congr 1;omega,fun h=>absurd h aA⟩
  rw[aN he]at h;by_cases hl:256<cv.length
  . rw[LZ hl]at h;cases h
  rw[aN hl]at h;have O:=hx.1;cases hw:kS b cv n (cV x) 4096 with
  | bad e=>rw[hw]at h;cases h
  | done f n1 =>
   rw[hw]at h;simp only at h;cases hv:kS b cv n1 (cV y) 4096 with
   | bad e=>rw[hv]at h;cases h
   | done k n2 =>
    rw[hv]at h;simp only at h;have a3:=hx.mono (Nat.le_succ n);obtain⟨q1,q2,q3,q4,q5,q6⟩:=iD Z O a3.2.1 a3.2.2 hw;have a4:=hy.mono (MO q3 (Nat.le_succ n));obtain⟨p1,p2,p3,p4,p5,p6⟩:=iD Z O a4.2.1 a4.2.2 hv;have sx:=eO hx.2.1;have sy:=eO hy.2.1;have fx:bZ x<=4096:=hx.2.1.few;have fy:bZ y<=4096:=hy.2.1.few;have WX:=qK Z O _ n (cV x) 4096 (nK hx.2.1) aA (MR _) (NT _) f n1 hw;have WY:=qK Z O _ n1 (cV y) 4096 (nK hy.2.1) aA (MR _) (NT _) k n2 hv;have a5:nR cv n2 (cJ f):=q5.mono p3;have key:∀(G j:Nat),nR cv j (cJ f)->nR cv j (cJ k)->j<G->m<=n2/\(n2<=j+m->zO (dJ b G) b cv u f k j=.done is (j+m-n2))/\(j+m<n2->zO (dJ b G) b cv u f k j=.bad 10):=by
     intro G j a6 a7 hG;obtain⟨a1,a2⟩:=DW (cm':=dJ b G) (J:=j) h (fun ho hq a0 u' x' y' i hp hi z l hh=>by
      obtain⟨U,Y⟩:=j5 O q1 p1 q4 p4 a5 p5 ho hq hp;obtain⟨c1,c2⟩:=jE Z g a0 u' i x' y' (U.mono hi) (Y.mono hi) z l hh;refine⟨Nat.le_of_lt c1,fun i' I=>?_⟩;obtain⟨b0,b2⟩:=j5 O q1 p1 q4 p4 a6 a7 ho hq hp;exact c2 G i' (b0.mono I) (b2.mono I) aA)
     exact⟨a1,a2 j (MF _)⟩
    have hm:m<=n2:=by
     obtain⟨a1,_⟩:=DW (cm':=dJ b (n2+1)) (J:=n2) h (fun ho hq a0 u' x' y' i hp hi z l hh=>by
      obtain⟨U,Y⟩:=j5 O q1 p1 q4 p4 a5 p5 ho hq hp;obtain⟨c1,c2⟩:=jE Z g a0 u' i x' y' (U.mono hi) (Y.mono hi) z l hh;exact⟨Nat.le_of_lt c1,fun i' I=>c2 (n2+1) i' (U.mono I) (Y.mono I) aA⟩)
     exact a1
    refine⟨by omega,fun G j b1 b3 hG=>?_⟩;obtain⟨G,rfl⟩:∃k,G=k+1:=⟨G-1,by omega⟩;cases j with
    | zero=>exact⟨fun h=>absurd h aA,fun _=>rfl⟩
    | succ j =>
     simp only[dJ];rw[aN he,aN hl];have o:=b1.mono (Nat.le_succ j);obtain⟨w1,w2⟩:=WX j;by_cases a8:n<=j+n1
     . have F:=w1 a8;simp only at F;rw[F];simp only;obtain⟨_,_,r3,_,r5,_⟩:=iD Z O o.2.1 o.2.2 F;have s:=b3.mono (MO r3 (Nat.le_succ j));obtain⟨v1,v2⟩:=WY (j+n1-n);by_cases a9:n1<=j+n1-n+n2
       . have D:=v1 a9;simp only at D;rw[D];simp only;obtain⟨_,_,t3,_,t5,_⟩:=iD Z O s.2.1 s.2.2 D;obtain⟨_,k1,k2⟩:=key G (j+n1-n+n2-n1) (r5.mono t3) t5 aA;refine⟨fun h=>?_,fun h=>k2 aA⟩;rw[k1 aA]
         congr 1
         omega
       have D:=v2 aA;simp only at D;rw[D];exact⟨fun h=>absurd h aA,fun _=>rfl⟩
     . have F:=w2 aA;simp only at F;rw[F];exact⟨fun h=>absurd h aA,fun _=>rfl⟩
end Go.Proofs.Ytlahmbhimhmoaaa
