/- Merged: GraphP, BellP. -/
import Derived.Test.YtjoddliplahgkaaGreatTLevels
namespace Go.Proofs.YtjoddliplahgkaaGreat
set_option linter.unusedVariables false
set_option linter.unusedSimpArgs false
open Go.RowKit
open Option renaming some → O
section
def Ed(N:Nat)(os:List Nd)(u v w:Int):Prop:=(0<=u/\u<N/\0<=v/\v<N)/\((u=v/\w=0)\/(u=0/\w=0)\/∃o∈os,o.op=u/\o.b=v/\o.a=w)
inductive Wi (N:Nat) (os:List Nd) (m:Int):Int->Int->Int->Prop
 | edge {u v w:Int}:Ed N os u v w->Wi N os m u v w
 | cons {u x v c w:Int}:Ed N os u x c->x<m->Wi N os m x v w->Wi N os m u v (c+w)
section
variable {N : Nat}{os : List Nd}
theorem Ed.src{u v w:Int}(h:Ed N os u v w):0<=u/\u<N:=⟨h.1.1,h.1.2.1⟩
theorem Ed.dst{u v w:Int}(h:Ed N os u v w):0<=v/\v<N:=h.1.2.2
theorem Wi.ends{m u v w:Int}(h:Wi N os m u v w):(0<=u/\u<N)/\0<=v/\v<N:=by
 induction h with
 | edge h=>exact⟨h.src,h.dst⟩
 | cons h _ _ ih=>exact⟨h.src,ih.2⟩
theorem Wi.trans{m u x v w w':Int}(h:Wi N os m u x w)(F:x<m)(D:Wi N os m x v w'):Wi N os m u v (w+w'):=by
 induction h with
 | edge h=>exact .cons h F D
 | cons h G _ ih =>
  rw[Int.add_assoc];exact .cons h G (ih F D)
theorem Wi.split{m u v w:Int}(hd:∀w,Wi N os m m m w->w<=0)(h:Wi N os (m+1) u v w):Wi N os m u v w\/∃F D,Wi N os m u m F/\Wi N os m m v D/\w<=F+D:=by
 induction h with
 | edge h=>exact .inl (.edge h)
 | @cons u x v c w h hx _ ih =>
  by_cases G:x=m
  . subst G;rcases ih with ih|⟨F,D,I,U,Y⟩
    . exact .inr ⟨c,w,.edge h,ih,YI _⟩
    have:=hd _ I;exact .inr ⟨c,D,.edge h,U,by omega⟩
  . rcases ih with ih|⟨F,D,I,U,Y⟩
    . exact .inl (.cons h aA ih)
    exact .inr ⟨c+F,D,.cons h aA I,U,by omega⟩
def GG(g D:GF):Prop:=∀a b w,g a b=O w->∃w',D a b=O w'/\w<=w'
theorem GG.refl(g:GF):GG g g:=fun _ _ w h=>⟨w,h,YI _⟩
theorem GG.trans{g G D:GF}(h:GG g G)(I:GG G D):GG g D:=fun a b w Z=>by
 obtain⟨w',U,o⟩:=h a b w Z;obtain⟨F,Y,s⟩:=I a b w' U;exact⟨F,Y,by omega⟩
theorem T9(g:GF)(l h z:Int):GG g (yN g l h z):=fun a b w D=>by
 unfold yN;cases e:g l h with
 | none =>
  simp only;unfold gQ;split
  . rename_i F;rw[F.1,F.2]at D;rw[D]at e;cases e
  . exact⟨w,D,YI _⟩
 | some o =>
  simp only;split
  . rename_i hz
    unfold gQ;split
    . rename_i F
      rw[F.1,F.2,e]at D;injection D with D;exact⟨z,rfl,by omega⟩
    exact⟨w,D,YI _⟩
  . exact⟨w,D,YI _⟩
theorem T8(g:GF)(l h z:Int):∃w,yN g l h z l h=O w/\z<=w:=by
 unfold yN;cases e:g l h with
 | none=>exact⟨z,by simp[gQ],YI _⟩
 | some o =>
  simp only;split
  . exact⟨z,by simp[gQ],YI _⟩
  . exact⟨o,e,by omega⟩
theorem QQ{g:GF}{l h z a b:Int}(D:¬ (a=l/\b=h)):yN g l h z a b=g a b:=by
 unfold yN;cases g l h with
 | none=>simp only[gQ];rw[XN D]
 | some o =>
  simp only;split
  . simp only[gQ];rw[XN D]
  . rfl
theorem QR{g:GF}{l h z a b w:Int}(D:yN g l h z a b=O w):g a b=O w\/(a=l/\b=h/\w=z):=by
 by_cases F:a=l/\b=h
 . obtain⟨rfl,rfl⟩:=F;unfold yN at D;cases e:g a b with
   | none =>
    rw[e]at D;simp only[gQ,and_self,if_true,YT]at D;exact .inr ⟨rfl,rfl,D.symm⟩
   | some o =>
    rw[e]at D;simp only at D;split at D
    . simp only[gQ,and_self,if_true,YT]at D;exact .inr ⟨rfl,rfl,D.symm⟩
    . exact .inl (e.symm.trans (e.symm ▸ D))
 rw[QQ F]at D;exact .inl D
def Bd(M:Int)(x:Option Int):Prop:=∀w,x=O w->-M<=w/\w<=M
theorem Bd.mono{M D:Int}{x:Option Int}(h:Bd M x)(G:M<=D):Bd D x:=fun w F=>by have:=h w F;omega
theorem nA{z:Int}(D : -9223372036854775808<=z)(F:z<=9223372036854775807):wrap64 z=z:=by
 unfold wrap64;omega
theorem UA(g:GF)(m l h:Int):GG g (DO g m l h):=by
 unfold DO;split
 . exact T9 _ _ _ _
 exact GG.refl _
theorem QY{g:GF}{m l h a b:Int}(D:¬ (a=l/\b=h)):DO g m l h a b=g a b:=by
 unfold DO;cases g l m with
 | none=>rfl
 | some x =>
  cases g m h with
  | none=>rfl
  | some y=>exact QQ D
theorem FZ{g:GF}{m l h a b w:Int}(D:DO g m l h a b=O w):g a b=O w\/(a=l/\b=h/\∃x y,g l m=O x/\g m h=O y/\w=wrap64 (x+y)):=by
 unfold DO at D;cases F:g l m with
 | none=>rw[F]at D;exact .inl D
 | some x =>
  cases G:g m h with
  | none=>rw[F,G]at D;exact .inl D
  | some y =>
   rw[F,G]at D;rcases QR D with h|⟨I,U,Y⟩
   . exact .inl h
   . exact .inr ⟨I,U,x,y,rfl,rfl,Y⟩
theorem WA{g:GF}{m l h x y:Int}(D:g l m=O x)(F:g m h=O y):∃w,DO g m l h l h=O w/\wrap64 (x+y)<=w:=by
 unfold DO;rw[D,F];exact T8 _ _ _ _
theorem jN{m l:Int}:∀(k:Nat)(g:GF)(a b:Int),a≠l->iG m l k g a b=g a b
 | 0,_,_,_,_=>rfl
 | k+1,g,a,b,h=>by
  show DO (iG m l k g) m l k a b=g a b;rw[QY (fun D=>h D.1),jN k g a b h]
theorem pE{m l:Int}:∀(k:Nat)(g:GF)(b:Int),(k:Int)<=b->iG m l k g l b=g l b
 | 0,_,_,_=>rfl
 | k+1,g,b,h=>by
  show DO (iG m l k g) m l k l b=g l b;rw[QY (fun D=>by omega),pE k g b aA]
theorem xK{m l:Int}:∀(k:Nat)(g:GF),GG g (iG m l k g)
 | 0,g=>GG.refl g
 | k+1,g=>(xK k g).trans (UA _ _ _ _)
theorem DD{m l M R:Int}(Y:0<=m)(G:l≠m)(hM:0<=M)(hR:0<=R)(hs:2*(M+2*R)<=9223372036854775807){g:GF}(U:∀b,Bd M (g l b))(o:∀b,Bd R (g m b)):∀(k:Nat),(∀b,Bd (M+2*R) (iG m l k g l b))/\Bd (M+R) (iG m l k g l m)
 | 0=>⟨fun b=>(U b).mono aA,(U m).mono aA⟩
 | k+1=>by
  obtain⟨i1,s⟩:=DD Y G hM hR hs U o k;have I:iG m l k g m k=g m k:=jN k g m k (fun e=>G e.symm);have key:∀x y,iG m l k g l m=O x->iG m l k g m k=O y->wrap64 (x+y)=x+y/\-(M+2*R)<=x+y/\x+y<=M+2*R/\((k:Int)=m->-(M+R)<=x+y/\x+y<=M+R):=by
   intro x y D F;have b1:=s x D;rw[I]at F;have b2:=o _ y F;refine⟨nA aA aA,by omega,by omega,fun hk=>?_⟩;rw[pE k g m aA]at D;have b3:=U _ x D;omega
  refine⟨fun b w Z=>?_,fun w Z=>?_⟩
  . rcases FZ Z with h|⟨_,_,x,y,D,F,rfl⟩
    . exact i1 b w h
    obtain⟨e,z,e2,_⟩:=key x y D F;rw[e];exact⟨z,e2⟩
  . rcases FZ Z with h|⟨_,hb,x,y,D,F,rfl⟩
    . exact s w h
    obtain⟨e,_,_,e3⟩:=key x y D F;rw[e];exact e3 hb.symm
theorem kZ{m M:Int}(hM:0<=M)(s:6*M<=9223372036854775807){g:GF}(G:∀b,Bd M (g m b)):∀(k:Nat),(∀b,Bd (3*M) (iG m m k g m b))/\Bd (2*M) (iG m m k g m m)
 | 0=>⟨fun b=>(G b).mono aA,(G m).mono aA⟩
 | k+1=>by
  obtain⟨z,U⟩:=kZ hM s G k;have key:∀x y,iG m m k g m m=O x->iG m m k g m k=O y->wrap64 (x+y)=x+y/\-(3*M)<=x+y/\x+y<=3*M/\((k:Int)=m->-(2*M)<=x+y/\x+y<=2*M):=by
   intro x y D F;have b1:=U x D;rw[pE k g k (YI _)]at F;have b2:=G _ y F;refine⟨nA aA aA,by omega,by omega,fun hk=>?_⟩;rw[pE k g m aA]at D;have b3:=G _ x D;omega
  refine⟨fun b w I=>?_,fun w I=>?_⟩
  . rcases FZ I with h|⟨_,_,x,y,D,F,rfl⟩
    . exact z b w h
    obtain⟨e,Y,Z,_⟩:=key x y D F;rw[e];exact⟨Y,Z⟩
  . rcases FZ I with h|⟨_,hb,x,y,D,F,rfl⟩
    . exact U w h
    obtain⟨e,_,_,o⟩:=key x y D F;rw[e];exact o hb.symm
theorem CP{N:Nat}{m:Nat}{M:Int}(hM:0<=M)(Z:14*M<=9223372036854775807){g:GF}(G:∀a b,Bd M (g a b)):∀(l:Nat),(∀a b,Bd (7*M) (gX N m l g a b))/\(∀b,Bd (3*M) (gX N m l g m b))/\(∀a b,(l:Int)<=a->gX N m l g a b=g a b)
 | 0=>⟨fun a b=>(G a b).mono aA,fun b=>(G _ b).mono aA,fun _ _ _=>rfl⟩
 | l+1=>by
  obtain⟨o,U,Y⟩:=CP (N:=N) (m:=m) hM Z G l;have e:gX N m (l+1) g=iG m l N (gX N m l g):=rfl;have I:∀b,Bd M (gX N m l g l b):=fun b=>by rw[Y l b (YI _)];exact G _ _
  rw[e];refine⟨fun a b=>?_,fun b=>?_,fun a b h=>?_⟩
  . by_cases ha:a=l
    . subst ha;by_cases D:(l:Int)=m
      . have:=(kZ (m:=(l:Int)) hM aA I N).1 b;rw[D]at this ⊢;exact this.mono aA
      exact ((DD (R:=3*M) aA D hM aA aA I U N).1 b).mono aA
    rw[jN N _ a b ha];exact o a b
  . by_cases D:(m:Int)=l
    . have F:l=m:=aA;subst F;exact (kZ (m:=(l:Int)) hM aA I N).1 b
    rw[jN N _ _ b D];exact U b
  . rw[jN N _ a b aA];exact Y a b aA
theorem wH{N:Nat}{m:Int}:∀(l:Nat)(g:GF),GG g (gX N m l g)
 | 0,g=>GG.refl g
 | l+1,g=>(wH l g).trans (xK N _)
theorem FL{m l M:Int}(o:2*M<=9223372036854775807){g:GF}(F:∀k a b,Bd M (iG m l k g a b)){x:Int}(Z:g l m=O x):∀(k j:Nat)(y:Int),j<k->g m j=O y->∃w,iG m l k g l j=O w/\x+y<=w
 | k+1,j,y,hj,hy=>by
  by_cases G:j=k
  . subst G;obtain⟨s,I,e2⟩:=xK (m:=m) (l:=l) j g l m x Z;obtain⟨z,U,e4⟩:=xK (m:=m) (l:=l) j g m j y hy;obtain⟨w,D,Y⟩:=WA I U;have b1:=F j _ _ s I;have b2:=F j _ _ z U;rw[nA aA aA]at Y;exact⟨w,D,by omega⟩
  . obtain⟨w,D,Y⟩:=FL o F Z k j y aA hy;obtain⟨w',h,h4⟩:=UA (iG m l k g) m l k l j w D;exact⟨w',h,by omega⟩
theorem EY{N:Nat}{m:Nat}{M:Int}(hM:0<=M)(h:14*M<=9223372036854775807){g:GF}(F:∀a b,Bd M (g a b)):∀(l:Nat),∀(j k:Nat)(x y:Int),j<l->k<N->g j m=O x->g m k=O y->∃w,gX N m l g j k=O w/\x+y<=w
 | l+1,j,k,x,y,hj,hk,hx,hy=>by
  have e:gX N m (l+1) g=iG m l N (gX N m l g):=rfl;rw[e];by_cases I:j=l
  . subst I;obtain⟨x',o,e2⟩:=wH (N:=N) (m:=m) j g j m x hx;obtain⟨y',s,e4⟩:=wH (N:=N) (m:=m) j g m k y hy;obtain⟨i1,i2,i3⟩:=CP (N:=N) (m:=m) hM h F j;have Z:∀b,Bd M (gX N m j g j b):=fun b=>by rw[i3 j b (YI _)];exact F _ _
    have hb:∀D a b,Bd (7*M) (iG m j D (gX N m j g) a b):=fun D a b=>by
     by_cases ha:a=j
     . subst ha;by_cases Y:(j:Int)=m
       . have U:j=m:=aA;subst U;exact ((kZ (m:=(j:Int)) hM aA Z D).1 b).mono aA
       exact ((DD (R:=3*M) aA Y hM aA aA Z i2 D).1 b).mono aA
     rw[jN D _ a b ha];exact i1 a b
    obtain⟨w,G,z⟩:=FL (M:=7*M) aA hb o N k y' hk s;exact⟨w,G,by omega⟩
  . obtain⟨w,G,z⟩:=EY hM h F l j k x y aA hk hx hy;obtain⟨w',h5,h6⟩:=xK (m:=m) (l:=l) N (gX N m l g) j k w G;exact⟨w',h5,by omega⟩
def DV(N:Nat)(os:List Nd)(g:GF):Prop:=∀u v w,g u v=O w->Wi N os N u v w
theorem LF{m l M:Int}(U:2*M<=9223372036854775807)(F:0<=m)(I:m<N){g:GF}(G:DV N os g)(D:∀k a b,Bd M (iG m l k g a b)):∀(k:Nat),DV N os (iG m l k g)
 | 0=>G
 | k+1=>fun u v w Y=>by
  have ih:=LF U F I G D k;rcases FZ Y with h|⟨rfl,rfl,x,y,hx,hy,rfl⟩
  . exact ih u v w h
  . have Z:=D k _ _ x hx;have o:=D k _ _ y hy;rw[nA aA aA];exact (ih _ _ _ hx).trans I (ih _ _ _ hy)
theorem KT{m:Nat}{M:Int}(hM:0<=M)(h:14*M<=9223372036854775807)(I:m<N){g:GF}(Y:DV N os g)(D:∀a b,Bd M (g a b)):∀(l:Nat),DV N os (gX N m l g)
 | 0=>Y
 | l+1=>by
  have e:gX N m (l+1) g=iG m l N (gX N m l g):=rfl;rw[e];obtain⟨o,s,z⟩:=CP (N:=N) (m:=m) hM h D l;have Z:∀b,Bd M (gX N m l g l b):=fun b=>by rw[z l b (YI _)];exact D _ _
  refine LF (M:=7*M) aA aA aA (KT hM h I Y D l) (fun U a b=>?_) N;by_cases ha:a=l
  . subst ha;by_cases G:(l:Int)=m
    . have F:l=m:=aA;subst F;exact ((kZ (m:=(l:Int)) hM aA Z U).1 b).mono aA
    exact ((DD (R:=3*M) aA G hM aA aA Z s U).1 b).mono aA
  . rw[jN U _ a b ha];exact o a b
def RU(N:Nat)(os:List Nd)(m:Int)(g:GF):Prop:=∀u v w,Wi N os m u v w->∃y,g u v=O y/\w<=y
theorem sE{g:GF}:∀{n:Nat},nG g n=false->∀v:Nat,v<n->∀w,g v v=O w->w<=0
 | n+1,h,v,hv,w,hw=>by
  simp only[nG,ZG,YM]at h;by_cases D:v=n
  . subst D;have:=h.2;rw[hw]at this;simpa using this
  . exact sE h.1 v aA w hw
theorem EE{g:GF}:∀{n:Nat},nG g n=true->∃v:Nat,v<n/\∃w,g v v=O w/\0<w
 | n+1,h=>by
  simp only[nG,ZJ,YJ]at h;rcases h with h|h
  . obtain⟨v,F,D⟩:=EE h;exact⟨v,by omega,D⟩
  . cases e:g n n with
    | none=>rw[e]at h;simp at h
    | some w=>rw[e]at h;exact⟨n,by omega,w,e,by simpa using h⟩
theorem SV{m:Nat}{M:Int}(hM:0<=M)(hs:14*M<=9223372036854775807)(Y:m<N){g:GF}(F:RU N os m g)(z:∀a b,Bd M (g a b))(hc:nG (gX N m N g) N=false):RU N os ((m:Int)+1) (gX N m N g):=by
 have hd:∀w,Wi N os m m m w->w<=0:=fun w G=>by
  obtain⟨y,I,o⟩:=F _ _ _ G;obtain⟨Z,s,D⟩:=wH (N:=N) (m:=m) N g m m y I;have:=sE hc m Y Z s;omega
 intro u v w G;have he:=G.ends;rcases Wi.split hd G with h|⟨w1,w2,I,o,s⟩
 . obtain⟨y,D,h6⟩:=F _ _ _ h;obtain⟨Z,U,h8⟩:=wH (N:=N) (m:=m) N g u v y D;exact⟨Z,U,by omega⟩
 obtain⟨y1,D,h6⟩:=F _ _ _ I;obtain⟨y2,U,h8⟩:=F _ _ _ o;obtain⟨j,rfl⟩:∃j:Nat,u=j:=⟨u.toNat,by omega⟩;obtain⟨k,rfl⟩:∃k:Nat,v=k:=⟨v.toNat,by omega⟩;obtain⟨y,h9,a0⟩:=EY (N:=N) (m:=m) hM hs z N j k y1 y2 aA aA D U;exact⟨y,h9,by omega⟩
def TY(N:Nat)(os:List Nd):Prop:=∃u w,Wi N os N u u w/\0<w
theorem KU(n:Nat):∀k:Nat,(7:Int) ^ n<=7 ^ (n+k)
 | 0=>YI _
 | k+1=>by
  have D:=KU n k;have F:(7:Int) ^ (n+(k+1))=7 ^ (n+k)*7:=by rw[<-Nat.add_assoc];exact Int.pow_succ ..
  have G:(0:Int)<7 ^ (n+k):=Int.pow_pos aE;omega
theorem LI:∀(r m:Nat)(M:Int)(g:GF),m+r=N->0<=M->14*(7 ^ r*M)<=9223372036854775807->DV N os g->RU N os m g->(∀a b,Bd M (g a b))->(m=N->∀v:Nat,v<N->∀w,g v v=O w->w<=0) →
 (pN N r m g=none->TY N os)/\(∀U,pN N r m g=O U->¬ TY N os)
 | 0,m,M,g,hm,hM,hs,hsnd,hcmp,hb,hd=>by
  refine⟨fun h=>(by cases h),fun U _ ⟨u,w,hw,h0⟩=>?_⟩;have o:m=N:=aA;subst o;have he:=hw.ends;obtain⟨j,rfl⟩:∃j:Nat,u=j:=⟨u.toNat,by omega⟩;obtain⟨y,Y,z⟩:=hcmp _ _ _ hw;have:=hd rfl j aA y Y;omega
 | r+1,m,M,g,hm,hM,hs,hsnd,hcmp,hb,hd=>by
  have hp:(7:Int) ^ (r+1)=7 ^ r*7:=Int.pow_succ ..;have s:(1:Int)<=7 ^ r:=by
   have:(0:Int)<7 ^ r:=Int.pow_pos aE;omega
  have Z:(7:Int) ^ (r+1)*M=7 ^ r*(7*M):=by rw[hp,Int.mul_assoc]
  have a0:7*M<=7 ^ r*(7*M):=by
   have:=Int.mul_le_mul_of_nonneg_right s (show (0:Int)<=7*M by omega);omega
  rw[Z]at hs;have D:14*M<=9223372036854775807:=aA;have I:pN N (r+1) m g=if nG (gX N m N g) N then none else pN N r (m+1) (gX N m N g):=rfl;have F:=KT (m:=m) hM D aA hsnd hb N;rw[I];cases hc:nG (gX N m N g) N with
  | true =>
   obtain⟨v,hv,w,Y,z⟩:=EE hc;exact⟨fun _=>⟨v,w,F _ _ _ Y,z⟩,fun U h=>by simp at h⟩
  | false =>
   have G:=SV (m:=m) hM D aA hcmp hb hc;have:=LI r (m+1) (7*M) (gX N m N g) aA aA hs F (by rw[show ((m+1:Nat):Int)=(m:Int)+1 from by omega];exact G) (CP (N:=N) (m:=m) hM D hb N).1 (fun _=>sE hc);simpa using this
theorem IJ:∀(v:Nat)(a b w:Int),sP v a b=O w->w=0/\0<=a/\a<v/\0<=b/\b<v/\(a=b\/a=0)
 | 0,_,_,_,h=>by cases h
 | v+1,a,b,w,h=>by
  simp only[sP,gQ]at h;split at h
  . rename_i D
    injection h with h;omega
  . split at h
    . rename_i D
      injection h with h;omega
    have:=IJ v a b w h;omega
theorem II:∀(v:Nat)(a b:Int),0<=a->a<v->0<=b->b<v->(a=b\/a=0)->sP v a b=O 0
 | 0,a,_,_,h,_,_,_=>by omega
 | v+1,a,b,D,I,F,U,G=>by
  simp only[sP,gQ];split
  . rfl
  . split
    . rfl
    exact II v a b D aA F aA G
theorem GR{vars:Int}{o:Nd}(h:j7 vars o=false):0<=o.op/\o.op<=vars/\0<=o.b/\o.b<=vars/\-1000<=o.a/\o.a<=1000:=by
 have:=BQ h;omega
theorem P5{vars:Int}(hN:(N:Int)=vars+1):∀(I:List Nd)(g F:GF),(∀o∈I,o∈os)->pM vars I g=O F->DV N os g->(∀a b,Bd 1000 (g a b))->DV N os F/\(∀a b,Bd 1000 (F a b))/\GG g F/\∀o∈I,j7 vars o=false/\∃w,F o.op o.b=O w/\o.a<=w
 | [],g,F,_,h,hs,hb=>by
  simp only[pM,YT]at h;subst h;exact⟨hs,hb,GG.refl _,fun o s=>by cases s⟩
 | o::r,g,F,hin,h,hs,hb=>by
  simp only[pM]at h;split at h
  . cases h
  . rename_i D
    have D:j7 vars o=false:=by simpa using D
    have hv:=GR D;have z:DV N os (yN g o.op o.b o.a):=fun u v w hw=>by
     rcases QR hw with U|⟨rfl,rfl,rfl⟩
     . exact hs _ _ _ U
     exact .edge ⟨by omega,.inr (.inr ⟨o,hin o aD,rfl,rfl,rfl⟩)⟩
    have Z:∀a b,Bd 1000 (yN g o.op o.b o.a a b):=fun a b w hw=>by
     rcases QR hw with U|⟨_,_,rfl⟩
     . exact hb _ _ _ U
     omega
    obtain⟨i1,i2,i3,i4⟩:=P5 hN r _ F (fun o s=>hin o (by simp[s])) h z Z;refine⟨i1,i2,(T9 _ _ _ _).trans i3,fun Y G=>?_⟩;rcases YV.1 G with rfl|G
    . obtain⟨w,U,h2⟩:=T8 g Y.op Y.b Y.a;obtain⟨w',h3,h4⟩:=i3 _ _ w U;exact⟨D,w',h3,by omega⟩
    exact i4 Y G
theorem wM{vars:Int}:∀(D:List Nd)(g:GF),pM vars D g=none ↔ ∃o∈D,j7 vars o=true
 | [],g=>by simp[pM]
 | o::r,g=>by
  simp only[pM];split
  . rename_i h
    exact⟨fun _=>⟨o,by simp,h⟩,fun _=>rfl⟩
  . rename_i h
    rw[wM r];simp[h]
theorem R7(vars:Int)(os:List Nd):(vars<0\/16<vars->(qI vars os).1=1)/\(¬ (vars<0\/16<vars)->64<os.length->(qI vars os).1=5) ∧
 (¬ (vars<0\/16<vars)->¬ 64<os.length->(∃o∈os,j7 vars o=true)->(qI vars os).1=1) ∧
 (¬ (vars<0\/16<vars)->¬ 64<os.length->(∀o∈os,j7 vars o=false)->(TY (vars.toNat+1) os->(qI vars os).1=7)/\(¬ TY (vars.toNat+1) os->(qI vars os).1=0)):=by
 refine⟨fun h=>?_,fun h U=>?_,fun h U h3=>?_,fun h U h3=>?_⟩
 . unfold qI;rw[XP h]
 . unfold qI;rw[XN h,XP U]
 . have:=(wM os (sP (vars.toNat+1))).2 h3;unfold qI;rw[XN h,XN U,this]
 obtain⟨N,hN⟩:=aAJ (vars.toNat+1);have a1:(N:Int)=vars+1:=aA;rw[<-hN];cases ho:pM vars os (sP N) with
 | none =>
  obtain⟨o,Y,D⟩:=(wM os _).1 ho;rw[h3 o Y]at D;cases D
 | some g =>
  obtain⟨i1,i2,i3,i4⟩:=P5 (os:=os) a1 os _ g (fun o h=>h) ho (fun u v w z=>by
   obtain⟨rfl,D⟩:=IJ _ _ _ _ z;exact .edge ⟨by omega,by omega⟩) (fun a b w z=>by
   obtain⟨rfl,D⟩:=IJ _ _ _ _ z;omega)
  have s:RU N os ((0:Nat):Int) g:=by
   intro u v w z;cases z with
   | edge Y =>
    obtain⟨⟨D,h6,h7,h8⟩,Z⟩:=Y;rcases Z with⟨Z,rfl⟩|⟨Z,rfl⟩|⟨o,a2,rfl,rfl,rfl⟩
    . obtain⟨w',G,I⟩:=i3 _ _ _ (II N u v D h6 h7 h8 (.inl Z));exact⟨w',G,I⟩
    . obtain⟨w',G,I⟩:=i3 _ _ _ (II N u v D h6 h7 h8 (.inr Z));exact⟨w',G,I⟩
    . exact (i4 o a2).2
   | cons Y D h6 =>
    have:=Y.dst;omega
  have F:=LI (N:=N) (os:=os) N 0 1000 g aA aA (by
   have a0:=KU N (17-N);rw[show N+(17-N)=17 from by omega]at a0;have:(7:Int) ^ 17=232630513987207:=by decide
   omega) i1 s i2 (fun h=>by omega)
  have e:qI vars os=match pN N N 0 g with
   | none=>(7,fun _ _=>none)
   | some g=>(0,g):=by
   unfold qI;rw[XN h,XN U,<-hN,ho];rfl
  rw[e];cases hr:pN N N 0 g with
  | none=>exact⟨fun _=>rfl,fun h=>absurd (F.1 hr) h⟩
  | some g'=>exact⟨fun h=>absurd h (F.2 g' hr),fun _=>rfl⟩
end
end
section
def cL:Int := -1000000000
def yY(d:List Int)(u v:Nat)(c:Int):List Int:=if d.getD u cL≠cL/\d.getD v cL<d.getD u cL+c then d.set v (d.getD u cL+c) else d
def xH(d:List Int)(u v:Nat)(c:Int):Bool:=decide (d.getD u cL≠cL/\d.getD v cL<d.getD u cL+c)
def t9:List (Nat×Nat×Int)->List Int->Bool->List Int×Bool
 | [],d,t=>(d,t)
 | e::r,d,t=>t9 r (yY d e.1 e.2.1 e.2.2) (t||xH d e.1 e.2.1 e.2.2)
theorem vD:∀(a b:List (Nat×Nat×Int))(d:List Int)(t:Bool),t9 (a++b) d t=t9 b (t9 a d t).1 (t9 a d t).2
 | [],_,_,_=>rfl
 | e::a,b,d,t=>by simp only[ZM,t9];exact vD a b _ _
def mS(N:Nat)(os:List Nd):List (Nat×Nat×Int):=(List.range N).map (fun v=>(0,v,(0:Int)))++os.map fun o=>(o.op.toNat,o.b.toNat,o.a)
def qU(es:List (Nat×Nat×Int)):Nat->List Int->Option (List Int)
 | 0,_=>none
 | r+1,d=>if (t9 es d false).2 then qU es r (t9 es d false).1 else O (t9 es d false).1
def nV(N low:Nat):List Int:=(List.replicate N cL).set low 0
inductive Wl (N:Nat) (os:List Nd):List Int->Int->Int->Int->Prop
 | one {u:Int}:0<=u->u<N->Wl N os [u] u u 0
 | cons {vs:List Int} {u x v c w:Int}:Ed N os u x c->Wl N os vs x v w->Wl N os (u::vs) u v (c+w)
section
variable {N : Nat}{os : List Nd}
theorem Wl.all{F:List Int}{u v w:Int}(h:Wl N os F u v w):∀x∈F,0<=x/\x<N:=by
 induction h with
 | one G I=>intro x D;rw[ZK]at D;subst D;exact⟨G,I⟩
 | cons h _ ih =>
  intro x D;rcases YV.1 D with rfl|D
  . exact h.src
  . exact ih x D
theorem Wl.wi{F:List Int}{u v w:Int}(h:Wl N os F u v w):∀{s c:Int},Ed N os s u c->Wi N os N s v (c+w):=by
 induction h with
 | one _ _=>intro s c D;rw[YQ];exact .edge D
 | cons h _ ih=>intro s c D;exact .cons D (h.src.2) (ih h)
theorem Wl.cut{G:List Int}{u v w:Int}(h:Wl N os G u v w):∀{y:Int},y∈G->∃pre D Y Z,Wl N os (pre++[y]) u y Y/\Wl N os D y v Z/\w=Y+Z/\G=pre++D:=by
 induction h with
 | @one u I U =>
  intro y F;rw[ZK]at F;subst F;exact⟨[],[y],0,0,.one I U,.one I U,rfl,rfl⟩
 | @cons G u x v c w h hw ih =>
  intro y F;rcases YV.1 F with rfl|F
  . exact⟨[],y::G,0,c+w,.one h.src.1 h.src.2,.cons h hw,by omega,rfl⟩
  . obtain⟨pre,D,Y,Z,I,U,s,o⟩:=ih F;exact⟨u::pre,D,c+Y,Z,.cons h I,U,by omega,by rw[o];rfl⟩
theorem Wl.head{D:List Int}{u v w:Int}(h:Wl N os D u v w):∃r,D=u::r:=by
 cases h with
 | one _ _=>exact⟨_,rfl⟩
 | cons _ _=>exact⟨_,rfl⟩
theorem Wl.short(hp:¬ TY N os){o:List Int}{u v w:Int}(h:Wl N os o u v w):∃D w',Wl N os D u v w'/\D.Nodup/\w<=w':=by
 induction h with
 | @one u G F=>exact⟨[u],0,.one G F,by simp,YI _⟩
 | @cons o u x v c w h hw ih =>
  obtain⟨D,w',G,F,h3⟩:=ih;by_cases Z:u∈D
  . obtain⟨pre,U,Y,w2,s,z,h6,h7⟩:=G.cut Z;have hc:c+Y<=0:=by
     rcases Int.lt_or_le 0 (c+Y) with I|I
     . exact absurd ⟨u,c+Y,s.wi h,I⟩ hp
     exact I
    refine⟨U,w2,z,?_,by omega⟩;rw[h7]at F;exact (List.nodup_append.1 F).2.1
  . exact⟨u::D,c+w',.cons h G,List.nodup_cons.2 ⟨Z,F⟩,by omega⟩
theorem sW:∀(n:Nat)(l:List Int),l.Nodup->(∀x∈l,0<=x/\x<n)->l.length<=n
 | 0,[],_,_=>XU _
 | 0,x::l,_,h=>by have:=h x aD;omega
 | n+1,l,hn,h=>by
  by_cases F:(n:Int)∈l
  . have G:=sW n (l.erase n) (hn.erase _) (fun x D=>by
     have I:=h x (List.mem_of_mem_erase D);have U:x≠n:=fun e=>by
      subst e;exact absurd D (by rw[hn.mem_erase_iff];simp)
     omega)
    rw[List.length_erase_of_mem F]at G;have:=List.length_pos_of_mem F;omega
  . have:=sW n l hn (fun x D=>by
     have I:=h x D;have U:x≠n:=fun e=>F (e ▸ D);omega)
    omega
theorem Wl.last{F:List Int}{u v w:Int}(h:Wl N os F u v w):(F.length=1/\u=v/\w=0)\/∃D y w' c,Wl N os D u y w'/\Ed N os y v c/\w=w'+c/\F.length=D.length+1:=by
 induction h with
 | one _ _=>exact .inl ⟨rfl,rfl,rfl⟩
 | @cons F u x v c w h hw ih =>
  rcases ih with⟨G,rfl,rfl⟩|⟨D,y,w',I,G,U,Y,Z⟩
  . exact .inr ⟨[u],u,0,c,.one h.src.1 h.src.2,h,by omega,by simp;omega⟩
  . exact .inr ⟨u::D,y,c+w',I,.cons h G,U,by omega,by simp;omega⟩
theorem Wl.snoc{D:List Int}{u v w:Int}(h:Wl N os D u v w):∀{x c:Int},Ed N os v x c->Wl N os (D++[x]) u x (w+c):=by
 induction h with
 | @one u F G =>
  intro x c he;have:=Wl.cons he (.one he.dst.1 he.dst.2);rw[YQ]at this;rw[Int.zero_add];exact this
 | @cons D u y v c' w h _ ih =>
  intro x c he;rw[Int.add_assoc];exact .cons h (ih he)
abbrev DB(d:List Int)(v:Nat):Int:=d.getD v cL
def UE(N:Nat)(os:List Nd)(es:List (Nat×Nat×Int)):Prop:=(∀e∈es,Ed N os (e.1:Int) (e.2.1:Int) e.2.2/\-1000<=e.2.2/\e.2.2<=1000)/\∀(u v:Nat)(w:Int),Ed N os u v w->(u=v/\w=0)\/(u,v,w)∈es
structure GJ (N:Nat) (os:List Nd) (low:Nat) (B:Int) (d:List Int):Prop where
 len:d.length=N
 way:∀v,v<N->DB d v≠cL->(∃vs,Wl N os vs low v (DB d v))/\-B<=DB d v/\DB d v<=B
theorem kM{d:List Int}{v x:Nat}{z:Int}(hv:v<d.length):DB (d.set v z) x=if x=v then z else DB d x:=by
 unfold DB;rw[YD,YD,List.getElem?_set];split
 . rename_i h;subst h;rw[XP rfl];simp
 rename_i h;rw[XN (fun e=>h e.symm)]
theorem JM{low:Nat}{B:Int}{d:List Int}(h:GJ N os low B d){e:Nat×Nat×Int}(he:Ed N os (e.1:Int) (e.2.1:Int) e.2.2/\-1000<=e.2.2/\e.2.2<=1000):
 GJ N os low (B+1000) (yY d e.1 e.2.1 e.2.2)/\(∀v,v<N->DB d v<=DB (yY d e.1 e.2.1 e.2.2) v)/\(DB d e.1≠cL->DB d e.1+e.2.2<=DB (yY d e.1 e.2.1 e.2.2) e.2.1):=by
 obtain⟨u,v,c⟩:=e;simp only at he ⊢;obtain⟨he,s,z⟩:=he;have hu:=he.src;have hv:=he.dst;have a0:∀x,x<N->DB d x=cL\/-B<=DB d x:=fun x U=>by
  by_cases D:DB d x=cL
  . exact .inl D
  exact .inr (h.way x U D).2.1
 unfold yY;split
 rotate_left
 . rename_i Y
   refine⟨⟨h.len,fun x U D=>?_⟩,fun x U=>YI _,fun D=>?_⟩
   . obtain⟨G,Z,o⟩:=h.way x U D;exact⟨G,by omega,by omega⟩
   rcases Int.lt_or_le (DB d v) (DB d u+c) with G|G
   . exact absurd ⟨D,G⟩ Y
   exact G
 rename_i Y
 obtain⟨c1,c2⟩:DB d u≠cL/\DB d v<DB d u+c:=Y;obtain⟨⟨vs,hw⟩,b1,b2⟩:=h.way u aA c1;have I:v<d.length:=by rw[h.len];omega
 refine⟨⟨by simp[h.len],fun x U D=>?_⟩,fun x U=>?_,fun _=>?_⟩
 . have hz:d.getD u cL=DB d u:=rfl;rw[hz]at D ⊢;rw[kM I]at D ⊢;by_cases F:x=v
   . rw[XP F];subst F;exact⟨⟨_,hw.snoc he⟩,by omega,by omega⟩
   rw[XN F]at D ⊢;obtain⟨G,Z,o⟩:=h.way x U D;exact⟨G,by omega,by omega⟩
 . rw[kM I];split
   . rename_i F
     subst F;exact Int.le_of_lt c2
   exact YI _
 rw[kM I,XP rfl];exact YI _
theorem JR{low:Nat}:∀(es:List (Nat×Nat×Int))(B:Int)(d:List Int)(t:Bool),GJ N os low B d->0<=B->B+1000*es.length<=900000000->(∀e∈es,Ed N os (e.1:Int) (e.2.1:Int) e.2.2/\-1000<=e.2.2/\e.2.2<=1000) →
 GJ N os low (B+1000*es.length) (t9 es d t).1/\(∀v,v<N->DB d v<=DB (t9 es d t).1 v)/\(∀e∈es,DB d e.1≠cL->DB d e.1+e.2.2<=DB (t9 es d t).1 e.2.1)
 | [],B,d,t,h,_,_,_=>⟨by simpa[t9] using h,fun _ _=>YI _,fun e he=>by cases he⟩
 | e::r,B,d,t,h,hB0,hB,hes=>by
  simp only[YA]at hB ⊢;obtain⟨r1,r2,o⟩:=JM h (hes e aD);obtain⟨Y,I,Z⟩:=JR r (B+1000) (yY d e.1 e.2.1 e.2.2) (t||xH d e.1 e.2.1 e.2.2) r1 aA aA (fun e he=>hes e (by simp[he]));simp only[t9];refine⟨by rw[show B+1000*((r.length+1:Nat):Int)=B+1000+1000*r.length from by omega];exact Y,fun v hv=>Int.le_trans (r2 v hv) (I v hv),fun F D G=>?_⟩;rcases YV.1 D with rfl|D
  . have hd:=(hes F aD).1.dst;exact Int.le_trans (o G) (I _ aA)
  . have z:=(hes F (by simp[D])).1.src;have s:=r2 F.1 aA;have U:DB (yY d e.1 e.2.1 e.2.2) F.1≠cL:=by
     have:=(h.way F.1 aA G).2.1;unfold cL;omega
    have:=Z F D U;omega
theorem BB:∀(es:List (Nat×Nat×Int))(d:List Int)(t:Bool),(t9 es d t).2=false->t=false/\(t9 es d t).1=d/\∀e∈es,DB d e.1≠cL->DB d e.1+e.2.2<=DB d e.2.1
 | [],d,t,h=>⟨h,rfl,fun e he=>by cases he⟩
 | e::r,d,t,h=>by
  simp only[t9]at h ⊢;obtain⟨I,Y,Z⟩:=BB r _ _ h;rw[ZG]at I;have F:¬ (DB d e.1≠cL/\DB d e.2.1<DB d e.1+e.2.2):=by
   have:=I.2;unfold xH at this;rw[YM]at this;exact this
  have s:yY d e.1 e.2.1 e.2.2=d:=by
   unfold yY;exact XN F
  rw[s]at Y Z ⊢;refine⟨I.1,Y,fun G D o=>?_⟩;rcases YV.1 D with rfl|D
  . rcases Int.lt_or_le (DB d G.2.1) (DB d G.1+G.2.2) with U|U
    . exact absurd ⟨o,U⟩ F
    exact U
  . exact Z G D o
theorem F6{low:Nat}{B:Int}{G:List Int}(D:∀I (v:Nat) (w:Int),v<N->Wl N os I low v w->w<=DB G v):∀(es:List (Nat×Nat×Int))(d:List Int),GJ N os low B d->(∀v,v<N->DB G v<=DB d v)->(∀e∈es,Ed N os (e.1:Int) (e.2.1:Int) e.2.2)->(t9 es d false).2=false
 | [],d,_,_,_=>rfl
 | e::r,d,h,hle,hes=>by
  have he:=hes e aD;have F:¬ (DB d e.1≠cL/\DB d e.2.1<DB d e.1+e.2.2):=fun⟨U,o⟩=>by
   have hs:=he.src;have hd:=he.dst;obtain⟨I,Z⟩:=(h.way e.1 aA U).1;have s:=D _ e.2.1 _ aA (Z.snoc he);have z:=hle e.2.1 aA;omega
  simp only[t9];have Y:yY d e.1 e.2.1 e.2.2=d:=by
   unfold yY;exact XN F
  have ht:xH d e.1 e.2.1 e.2.2=false:=by
   unfold xH;exact XQ F
  rw[Y,ht];exact F6 D r d h hle (fun e he=>hes e (by simp[he]))
theorem ER{es:List (Nat×Nat×Int)}(F:UE N os es){low:Nat}:∀(r:Nat)(B:Int)(d D:List Int),GJ N os low B d->0<=B->B+1000*es.length*r<=900000000->0<=DB d low->low<N->qU es r d=O D->GJ N os low (B+1000*es.length*r) D/\0<=DB D low/\∀e∈es,DB D e.1≠cL->DB D e.1+e.2.2<=DB D e.2.1
 | r+1,B,d,D,h,hB0,hB,I,hl,hf=>by
  have U:1000*(es.length:Int)*((r+1:Nat):Int)=1000*es.length*r+1000*es.length:=by push_cast;rw[Int.mul_add,Int.mul_one]
  have Z:(0:Int)<=1000*es.length*r:=Int.mul_nonneg aA aA;rw[U]at hB ⊢;obtain⟨G,o,i3⟩:=JR es B d false h hB0 aA F.1;simp only[qU]at hf;split at hf
  . obtain⟨s,z,j3⟩:=ER F r (B+1000*es.length) _ D G aA aA (Int.le_trans I (o low hl)) hl hf;refine⟨?_,z,j3⟩;rw[show B+(1000*(es.length:Int)*r+1000*es.length)=B+1000*es.length+1000*es.length*r from by omega];exact s
  . rename_i ht
    have ht:(t9 es d false).2=false:=by simpa using ht
    obtain⟨_,k2,k3⟩:=BB es d false ht;injection hf with hf;rw[k2]at hf G;subst hf;refine⟨⟨G.len,fun v hv Y=>?_⟩,I,k3⟩;obtain⟨a1,a2,a3⟩:=G.way v hv Y;exact⟨a1,by omega,by omega⟩
theorem EQ(hp:¬ TY N os){es:List (Nat×Nat×Int)}(D:UE N os es){low:Nat}:∀(r k:Nat)(B:Int)(d:List Int),GJ N os low B d->0<=B->B+1000*es.length*r<=900000000->(∀G (v:Nat) (w:Int),v<N->Wl N os G low v w->G.length<=k+1->w<=DB d v/\DB d v≠cL)->N<=k+r->qU es (r+1) d≠none
 | r,k,B,d,h,hB0,hB,hdom,hN=>by
  have Z:(0:Int)<=1000*es.length*r:=Int.mul_nonneg aA aA;simp only[qU];split
  . rename_i ht
    match r,hB,hN,Z with
    | 0,_,hN,_ =>
     have Y:∀G (v:Nat) (w:Int),v<N->Wl N os G low v w->w<=DB d v:=fun G v w hv hw=>by
      obtain⟨F,w',I,U,h3⟩:=hw.short hp;have h4:=sW N F U I.all;have:=(hdom F v w' hv I aA).1;omega
     have:=F6 Y es d h (fun _ _=>YI _) (fun e he=>(D.1 e he).1);rw[this]at ht;cases ht
    | r+1,hB,hN,Z =>
     have hk:1000*(es.length:Int)*((r+1:Nat):Int)=1000*es.length*r+1000*es.length:=by push_cast;rw[Int.mul_add,Int.mul_one]
     have a0:(0:Int)<=1000*es.length*r:=Int.mul_nonneg aA aA;rw[hk]at hB;obtain⟨i1,i2,i3⟩:=JR es B d false h hB0 aA D.1;refine EQ hp D r (k+1) (B+1000*es.length) _ i1 aA aA (fun G v w hv hw hl=>?_) aA;have o:∀x:Nat,x<N->DB d x≠cL->DB (t9 es d false).1 x≠cL:=fun x hx hn=>by
      have a1:=(h.way x hx hn).2.1;have a2:=i2 x hx;unfold cL;omega
     rcases hw.last with⟨I,U,h3⟩|⟨F,y,w',c,I,U,h3,h4⟩
     . have:=hdom G v w hv hw aA;exact⟨Int.le_trans this.1 (i2 v hv),o v hv this.2⟩
     . have hy:=U.src;obtain⟨z,rfl⟩:∃z:Nat,y=z:=⟨y.toNat,by omega⟩;have hd:=hdom F z w' aA I aA;rcases D.2 z v c U with⟨s,e2⟩|s
       . subst s e2;exact⟨by have:=i2 z hv;omega,o z hv hd.2⟩
       have:=i3 _ s hd.2;simp only at this;refine⟨by omega,?_⟩;have a1:=(h.way z aA hd.2).2.1;have a2:=(D.1 _ s).2.1;simp only at a2;unfold cL;omega
  . simp
theorem SM(hv:∀o∈os,j7 ((N:Int)-1) o=false):UE N os (mS N os):=by
 refine⟨fun e he=>?_,fun u v w he=>?_⟩
 . unfold mS at he;rw[YW,List.mem_map,List.mem_map]at he;rcases he with⟨x,U,rfl⟩|⟨o,G,rfl⟩
   . rw[List.mem_range]at U;have D:Ed N os ((0:Nat):Int) ((x:Nat):Int) 0:=⟨by omega,.inr (.inl ⟨rfl,rfl⟩)⟩;exact⟨D,show (-1000:Int)<=0 by decide,show (0:Int)<=1000 by decide⟩
   have:=GR (hv o G);simp only;refine⟨⟨by omega,.inr (.inr ⟨o,G,by omega,by omega,rfl⟩)⟩,by omega,by omega⟩
 obtain⟨Y,D⟩:=he;unfold mS;rw[YW,List.mem_map,List.mem_map];rcases D with⟨D,F⟩|⟨D,F⟩|⟨o,G,D,F,I⟩
 . exact .inl ⟨by omega,F⟩
 . refine .inr (.inl ⟨v,by rw[List.mem_range];omega,?_⟩);rw[F];simp;omega
 refine .inr (.inr ⟨o,G,?_⟩);rw[D,F,I];simp
theorem OP(hN:0<N)(a4:N<=17)(hl:os.length<=64)(hv:∀o∈os,j7 ((N:Int)-1) o=false):(∀low,low<N->qU (mS N os) (N+1) (nV N low)≠none) ↔ ¬ TY N os:=by
 have U:=SM hv;have a5:(mS N os).length<=81:=by unfold mS;simp;omega
 have Z:∀low,low<N->GJ N os low 0 (nV N low)/\DB (nV N low) low=0:=fun low D=>by
  have a0:low<(List.replicate N cL).length:=by simpa using D
  refine⟨⟨by simp[nV],fun v hv G=>?_⟩,?_⟩
  . unfold nV at G ⊢;rw[kM a0]at G ⊢;by_cases Y:v=low
    . subst Y;rw[XP rfl];exact⟨⟨_,.one aA aA⟩,by omega,by omega⟩
    rw[XN Y]at G;exact absurd (by unfold DB;rw[YD,List.getElem?_replicate];split<;>rfl) G
  unfold nV;rw[kM a0,XP rfl]
 constructor
 . intro h ⟨u,w,hw,h0⟩;have he:=hw.ends;obtain⟨low,rfl⟩:∃z:Nat,u=z:=⟨u.toNat,by omega⟩;have D:low<N:=aA;obtain⟨i1,i2⟩:=Z low D;cases hf:qU (mS N os) (N+1) (nV N low) with
   | none=>exact h low D hf
   | some I =>
    have hb:(1000*((mS N os).length:Int)*((N+1:Nat):Int))<=1000*81*18:=by
     refine Int.le_trans (Int.mul_le_mul_of_nonneg_right (show 1000*((mS N os).length:Int)<=1000*81 by omega) aA) ?_;omega
    obtain⟨j1,j2,j3⟩:=ER U (N+1) 0 _ I i1 aA aA aA D hf;have key:∀{m u v w:Int},Wi N os m u v w->DB I u.toNat≠cL->DB I v.toNat≠cL/\DB I u.toNat+w<=DB I v.toNat:=by
     have F:∀{u v c:Int},Ed N os u v c->DB I u.toNat≠cL->DB I v.toNat≠cL/\DB I u.toNat+c<=DB I v.toNat:=fun {u v c} he G=>by
      have hs:=he.src;have hd:=he.dst;have a3:Ed N os ((u.toNat:Nat):Int) ((v.toNat:Nat):Int) c:=by
       rw[show ((u.toNat:Nat):Int)=u from by omega,show ((v.toNat:Nat):Int)=v from by omega];exact he
      rcases U.2 _ _ _ a3 with⟨e1,e2⟩|e1
      . rw[<-e1,e2];exact⟨G,by omega⟩
      have s:=j3 _ e1 G;simp only at s;have a1:=(j1.way u.toNat aA G).2.1;have a2:=(U.1 _ e1).2.1;simp only at a2;refine⟨?_,s⟩;unfold cL;omega
     intro m u v w hw
     induction hw with
     | edge he=>exact F he
     | cons he _ _ ih =>
      intro G;obtain⟨s,h2⟩:=F he G;obtain⟨h3,h4⟩:=ih s;exact⟨h3,by omega⟩
    have:=(key hw (by rw[YG];unfold cL;omega)).2;omega
 intro hp low D;obtain⟨i1,i2⟩:=Z low D;have hb:(1000*((mS N os).length:Int)*(N:Int))<=1000*81*17:=by
  refine Int.le_trans (Int.mul_le_mul_of_nonneg_right (show 1000*((mS N os).length:Int)<=1000*81 by omega) aA) ?_;omega
 refine EQ hp U N 0 0 _ i1 aA aA (fun vs v w hv hw hl=>?_) aA;rcases hw.last with⟨s,h2,h3⟩|⟨a6,y,w',c,s,h2,h3,h4⟩
 . have Y:v=low:=aA;subst Y;rw[i2,h3];exact⟨by omega,by unfold cL;omega⟩
 obtain⟨r,hr⟩:=s.head;rw[hr]at h4;simp at h4;omega
end
end
end Go.Proofs.YtjoddliplahgkaaGreat
