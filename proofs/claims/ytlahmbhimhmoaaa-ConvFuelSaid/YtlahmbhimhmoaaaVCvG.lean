/- Merged: Graphs, CvG. -/
import Derived.Test.YtlahmbhimhmoaaaVCvP
namespace Go.Proofs.Ytlahmbhimhmoaaa
set_option linter.unusedVariables false
set_option linter.unusedSimpArgs false
open Go.RowKit
open Option renaming some → O
section
section
def Ed(N:Nat)(os:List Nd)(u v w:Int):Prop:=(0<=u/\u<N/\0<=v/\v<N)/\((u=v/\w=0)\/(u=0/\w=0)\/∃o∈os,o.op=u/\o.b=v/\o.a=w)
inductive Wi (N:Nat) (os:List Nd) (m:Int):Int->Int->Int->Prop
 | edge {u v w:Int}:Ed N os u v w->Wi N os m u v w
 | cons {u x v c w:Int}:Ed N os u x c->x<m->Wi N os m x v w->Wi N os m u v (c+w)
section
variable {N : Nat}{os : List Nd}
theorem Ed.src{u v w:Int}(h:Ed N os u v w):0<=u/\u<N:=⟨h.1.1,h.1.2.1⟩
theorem Ed.dst{u v w:Int}(h:Ed N os u v w):0<=v/\v<N:=h.1.2.2
theorem Wi.ends{m u v w:Int}(h:Wi N os m u v w):(0<=u/\u<N)/\0<=v/\v<N:=by
 induction h with
 | edge h=>exact⟨h.src,h.dst⟩
 | cons h _ _ D=>exact⟨h.src,D.2⟩
theorem Wi.trans{m u x v w w':Int}(h:Wi N os m u x w)(F:x<m)(D:Wi N os m x v w'):Wi N os m u v (w+w'):=by
 induction h with
 | edge h=>exact .cons h F D
 | cons h G _ I =>
  rw[Int.add_assoc];exact .cons h G (I F D)
theorem Wi.split{m u v w:Int}(hd:∀w,Wi N os m m m w->w<=0)(h:Wi N os (m+1) u v w):Wi N os m u v w\/∃F D,Wi N os m u m F/\Wi N os m m v D/\w<=F+D:=by
 induction h with
 | edge h=>exact .inl (.edge h)
 | @cons u x v c w h hx _ ih =>
  by_cases G:x=m
  . subst G;rcases ih with ih|⟨F,D,I,U,Y⟩
    . exact .inr ⟨c,w,.edge h,ih,MR _⟩
    have:=hd _ I;exact .inr ⟨c,D,.edge h,U,by omega⟩
  . rcases ih with ih|⟨F,D,I,U,Y⟩
    . exact .inl (.cons h aA ih)
    exact .inr ⟨c+F,D,.cons h aA I,U,by omega⟩
def wR(g D:GF):Prop:=∀a b w,g a b=O w->∃w',D a b=O w'/\w<=w'
theorem wR.refl(g:GF):wR g g:=fun _ _ w h=>⟨w,h,MR _⟩
theorem wR.trans{g G D:GF}(h:wR g G)(I:wR G D):wR g D:=fun a b w Z=>by
 obtain⟨w',U,o⟩:=h a b w Z;obtain⟨F,Y,s⟩:=I a b w' U;exact⟨F,Y,by omega⟩
theorem I2(g:GF)(l h z:Int):wR g (qP g l h z):=fun a b w D=>by
 unfold qP;cases e:g l h with
 | none =>
  simp only;unfold eD;split
  . rename_i F;rw[F.1,F.2]at D;rw[D]at e;cases e
  . exact⟨w,D,MR _⟩
 | some o =>
  simp only;split
  . rename_i hz
    unfold eD;split
    . rename_i F
      rw[F.1,F.2,e]at D;injection D with D;exact⟨z,rfl,by omega⟩
    exact⟨w,D,MR _⟩
  . exact⟨w,D,MR _⟩
theorem I0(g:GF)(l h z:Int):∃w,qP g l h z l h=O w/\z<=w:=by
 unfold qP;cases e:g l h with
 | none=>exact⟨z,by simp[eD],MR _⟩
 | some o =>
  simp only;split
  . exact⟨z,by simp[eD],MR _⟩
  . exact⟨o,e,by omega⟩
theorem FG{g:GF}{l h z a b:Int}(D:¬ (a=l/\b=h)):qP g l h z a b=g a b:=by
 unfold qP;cases g l h with
 | none=>simp only[eD];rw[aN D]
 | some o =>
  simp only;split
  . simp only[eD];rw[aN D]
  . rfl
theorem FH{g:GF}{l h z a b w:Int}(D:qP g l h z a b=O w):g a b=O w\/(a=l/\b=h/\w=z):=by
 by_cases F:a=l/\b=h
 . obtain⟨rfl,rfl⟩:=F;unfold qP at D;cases e:g a b with
   | none =>
    rw[e]at D;simp only[eD,and_self,if_true,MS]at D;exact .inr ⟨rfl,rfl,D.symm⟩
   | some o =>
    rw[e]at D;simp only at D;split at D
    . simp only[eD,and_self,if_true,MS]at D;exact .inr ⟨rfl,rfl,D.symm⟩
    . exact .inl (e.symm.trans (e.symm ▸ D))
 rw[FG F]at D;exact .inl D
def Bd(M:Int)(x:Option Int):Prop:=∀w,x=O w->-M<=w/\w<=M
theorem Bd.mono{M D:Int}{x:Option Int}(h:Bd M x)(G:M<=D):Bd D x:=fun w F=>by have:=h w F;omega
theorem i6{z:Int}(D : -9223372036854775808<=z)(F:z<=9223372036854775807):wrap64 z=z:=by
 unfold wrap64;omega
theorem I3(g:GF)(m l h:Int):wR g (tS g m l h):=by
 unfold tS;split
 . exact I2 _ _ _ _
 exact wR.refl _
theorem FM{g:GF}{m l h a b:Int}(D:¬ (a=l/\b=h)):tS g m l h a b=g a b:=by
 unfold tS;cases g l m with
 | none=>rfl
 | some x =>
  cases g m h with
  | none=>rfl
  | some y=>exact FG D
theorem wF{g:GF}{m l h a b w:Int}(D:tS g m l h a b=O w):g a b=O w\/(a=l/\b=h/\∃x y,g l m=O x/\g m h=O y/\w=wrap64 (x+y)):=by
 unfold tS at D;cases F:g l m with
 | none=>rw[F]at D;exact .inl D
 | some x =>
  cases G:g m h with
  | none=>rw[F,G]at D;exact .inl D
  | some y =>
   rw[F,G]at D;rcases FH D with h|⟨I,U,Y⟩
   . exact .inl h
   . exact .inr ⟨I,U,x,y,rfl,rfl,Y⟩
theorem KQ{g:GF}{m l h x y:Int}(D:g l m=O x)(F:g m h=O y):∃w,tS g m l h l h=O w/\wrap64 (x+y)<=w:=by
 unfold tS;rw[D,F];exact I0 _ _ _ _
theorem fK{m l:Int}:∀(k:Nat)(g:GF)(a b:Int),a≠l->eI m l k g a b=g a b
 | 0,_,_,_,_=>rfl
 | k+1,g,a,b,h=>by
  show tS (eI m l k g) m l k a b=g a b;rw[FM (fun D=>h D.1),fK k g a b h]
theorem j6{m l:Int}:∀(k:Nat)(g:GF)(b:Int),(k:Int)<=b->eI m l k g l b=g l b
 | 0,_,_,_=>rfl
 | k+1,g,b,h=>by
  show tS (eI m l k g) m l k l b=g l b;rw[FM (fun D=>by omega),j6 k g b aA]
theorem p8{m l:Int}:∀(k:Nat)(g:GF),wR g (eI m l k g)
 | 0,g=>wR.refl g
 | k+1,g=>(p8 k g).trans (I3 _ _ _ _)
theorem tJ{m l M R:Int}(Y:0<=m)(G:l≠m)(hM:0<=M)(hR:0<=R)(hs:2*(M+2*R)<=9223372036854775807){g:GF}(U:∀b,Bd M (g l b))(o:∀b,Bd R (g m b)):∀(k:Nat),(∀b,Bd (M+2*R) (eI m l k g l b))/\Bd (M+R) (eI m l k g l m)
 | 0=>⟨fun b=>(U b).mono aA,(U m).mono aA⟩
 | k+1=>by
  obtain⟨i1,s⟩:=tJ Y G hM hR hs U o k;have I:eI m l k g m k=g m k:=fK k g m k (fun e=>G e.symm);have key:∀x y,eI m l k g l m=O x->eI m l k g m k=O y->wrap64 (x+y)=x+y/\-(M+2*R)<=x+y/\x+y<=M+2*R/\((k:Int)=m->-(M+R)<=x+y/\x+y<=M+R):=by
   intro x y D F;have b1:=s x D;rw[I]at F;have b2:=o _ y F;refine⟨i6 aA aA,by omega,by omega,fun hk=>?_⟩;rw[j6 k g m aA]at D;have b3:=U _ x D;omega
  refine⟨fun b w Z=>?_,fun w Z=>?_⟩
  . rcases wF Z with h|⟨_,_,x,y,D,F,rfl⟩
    . exact i1 b w h
    obtain⟨e,z,e2,_⟩:=key x y D F;rw[e];exact⟨z,e2⟩
  . rcases wF Z with h|⟨_,hb,x,y,D,F,rfl⟩
    . exact s w h
    obtain⟨e,_,_,e3⟩:=key x y D F;rw[e];exact e3 hb.symm
theorem gU{m M:Int}(hM:0<=M)(s:6*M<=9223372036854775807){g:GF}(G:∀b,Bd M (g m b)):∀(k:Nat),(∀b,Bd (3*M) (eI m m k g m b))/\Bd (2*M) (eI m m k g m m)
 | 0=>⟨fun b=>(G b).mono aA,(G m).mono aA⟩
 | k+1=>by
  obtain⟨z,U⟩:=gU hM s G k;have key:∀x y,eI m m k g m m=O x->eI m m k g m k=O y->wrap64 (x+y)=x+y/\-(3*M)<=x+y/\x+y<=3*M/\((k:Int)=m->-(2*M)<=x+y/\x+y<=2*M):=by
   intro x y D F;have b1:=U x D;rw[j6 k g k (MR _)]at F;have b2:=G _ y F;refine⟨i6 aA aA,by omega,by omega,fun hk=>?_⟩;rw[j6 k g m aA]at D;have b3:=G _ x D;omega
  refine⟨fun b w I=>?_,fun w I=>?_⟩
  . rcases wF I with h|⟨_,_,x,y,D,F,rfl⟩
    . exact z b w h
    obtain⟨e,Y,Z,_⟩:=key x y D F;rw[e];exact⟨Y,Z⟩
  . rcases wF I with h|⟨_,hb,x,y,D,F,rfl⟩
    . exact U w h
    obtain⟨e,_,_,o⟩:=key x y D F;rw[e];exact o hb.symm
theorem tA{N:Nat}{m:Nat}{M:Int}(hM:0<=M)(Z:14*M<=9223372036854775807){g:GF}(G:∀a b,Bd M (g a b)):∀(l:Nat),(∀a b,Bd (7*M) (dZ N m l g a b))/\(∀b,Bd (3*M) (dZ N m l g m b))/\(∀a b,(l:Int)<=a->dZ N m l g a b=g a b)
 | 0=>⟨fun a b=>(G a b).mono aA,fun b=>(G _ b).mono aA,fun _ _ _=>rfl⟩
 | l+1=>by
  obtain⟨o,U,Y⟩:=tA (N:=N) (m:=m) hM Z G l;have e:dZ N m (l+1) g=eI m l N (dZ N m l g):=rfl;have I:∀b,Bd M (dZ N m l g l b):=fun b=>by rw[Y l b (MR _)];exact G _ _
  rw[e];refine⟨fun a b=>?_,fun b=>?_,fun a b h=>?_⟩
  . by_cases ha:a=l
    . subst ha;by_cases D:(l:Int)=m
      . have:=(gU (m:=(l:Int)) hM aA I N).1 b;rw[D]at this ⊢;exact this.mono aA
      exact ((tJ (R:=3*M) aA D hM aA aA I U N).1 b).mono aA
    rw[fK N _ a b ha];exact o a b
  . by_cases D:(m:Int)=l
    . have F:l=m:=aA;subst F;exact (gU (m:=(l:Int)) hM aA I N).1 b
    rw[fK N _ _ b D];exact U b
  . rw[fK N _ a b aA];exact Y a b aA
theorem pI{N:Nat}{m:Int}:∀(l:Nat)(g:GF),wR g (dZ N m l g)
 | 0,g=>wR.refl g
 | l+1,g=>(pI l g).trans (p8 N _)
theorem vX{m l M:Int}(o:2*M<=9223372036854775807){g:GF}(F:∀k a b,Bd M (eI m l k g a b)){x:Int}(Z:g l m=O x):∀(k j:Nat)(y:Int),j<k->g m j=O y->∃w,eI m l k g l j=O w/\x+y<=w
 | k+1,j,y,hj,hy=>by
  by_cases G:j=k
  . subst G;obtain⟨s,I,e2⟩:=p8 (m:=m) (l:=l) j g l m x Z;obtain⟨z,U,e4⟩:=p8 (m:=m) (l:=l) j g m j y hy;obtain⟨w,D,Y⟩:=KQ I U;have b1:=F j _ _ s I;have b2:=F j _ _ z U;rw[i6 aA aA]at Y;exact⟨w,D,by omega⟩
  . obtain⟨w,D,Y⟩:=vX o F Z k j y aA hy;obtain⟨w',h,h4⟩:=I3 (eI m l k g) m l k l j w D;exact⟨w',h,by omega⟩
theorem vH{N:Nat}{m:Nat}{M:Int}(hM:0<=M)(h:14*M<=9223372036854775807){g:GF}(F:∀a b,Bd M (g a b)):∀(l:Nat),∀(j k:Nat)(x y:Int),j<l->k<N->g j m=O x->g m k=O y->∃w,dZ N m l g j k=O w/\x+y<=w
 | l+1,j,k,x,y,hj,hk,hx,hy=>by
  have e:dZ N m (l+1) g=eI m l N (dZ N m l g):=rfl;rw[e];by_cases I:j=l
  . subst I;obtain⟨x',o,e2⟩:=pI (N:=N) (m:=m) j g j m x hx;obtain⟨y',s,e4⟩:=pI (N:=N) (m:=m) j g m k y hy;obtain⟨i1,i2,i3⟩:=tA (N:=N) (m:=m) hM h F j;have Z:∀b,Bd M (dZ N m j g j b):=fun b=>by rw[i3 j b (MR _)];exact F _ _
    have hb:∀D a b,Bd (7*M) (eI m j D (dZ N m j g) a b):=fun D a b=>by
     by_cases ha:a=j
     . subst ha;by_cases Y:(j:Int)=m
       . have U:j=m:=aA;subst U;exact ((gU (m:=(j:Int)) hM aA Z D).1 b).mono aA
       exact ((tJ (R:=3*M) aA Y hM aA aA Z i2 D).1 b).mono aA
     rw[fK D _ a b ha];exact i1 a b
    obtain⟨w,G,z⟩:=vX (M:=7*M) aA hb o N k y' hk s;exact⟨w,G,by omega⟩
  . obtain⟨w,G,z⟩:=vH hM h F l j k x y aA hk hx hy;obtain⟨w',h5,h6⟩:=p8 (m:=m) (l:=l) N (dZ N m l g) j k w G;exact⟨w',h5,by omega⟩
def qQ(N:Nat)(os:List Nd)(g:GF):Prop:=∀u v w,g u v=O w->Wi N os N u v w
theorem AI{m l M:Int}(Y:2*M<=9223372036854775807)(F:0<=m)(U:m<N){g:GF}(I:qQ N os g)(D:∀k a b,Bd M (eI m l k g a b)):∀(k:Nat),qQ N os (eI m l k g)
 | 0=>I
 | k+1=>fun u v w Z=>by
  have G:=AI Y F U I D k;rcases wF Z with h|⟨rfl,rfl,x,y,hx,hy,rfl⟩
  . exact G u v w h
  . have o:=D k _ _ x hx;have s:=D k _ _ y hy;rw[i6 aA aA];exact (G _ _ _ hx).trans U (G _ _ _ hy)
theorem AB{m:Nat}{M:Int}(hM:0<=M)(h:14*M<=9223372036854775807)(I:m<N){g:GF}(Y:qQ N os g)(D:∀a b,Bd M (g a b)):∀(l:Nat),qQ N os (dZ N m l g)
 | 0=>Y
 | l+1=>by
  have e:dZ N m (l+1) g=eI m l N (dZ N m l g):=rfl;rw[e];obtain⟨o,s,z⟩:=tA (N:=N) (m:=m) hM h D l;have Z:∀b,Bd M (dZ N m l g l b):=fun b=>by rw[z l b (MR _)];exact D _ _
  refine AI (M:=7*M) aA aA aA (AB hM h I Y D l) (fun U a b=>?_) N;by_cases ha:a=l
  . subst ha;by_cases G:(l:Int)=m
    . have F:l=m:=aA;subst F;exact ((gU (m:=(l:Int)) hM aA Z U).1 b).mono aA
    exact ((tJ (R:=3*M) aA G hM aA aA Z s U).1 b).mono aA
  . rw[fK U _ a b ha];exact o a b
def AS(N:Nat)(os:List Nd)(m:Int)(g:GF):Prop:=∀u v w,Wi N os m u v w->∃y,g u v=O y/\w<=y
theorem rH{g:GF}:∀{n:Nat},kE g n=false->∀v:Nat,v<n->∀w,g v v=O w->w<=0
 | n+1,h,v,hv,w,hw=>by
  simp only[kE,NL,NY]at h;by_cases D:v=n
  . subst D;have:=h.2;rw[hw]at this;simpa using this
  . exact rH h.1 v aA w hw
theorem G3{m:Nat}{M:Int}(hM:0<=M)(hs:14*M<=9223372036854775807)(Y:m<N){g:GF}(F:AS N os m g)(z:∀a b,Bd M (g a b))(hc:kE (dZ N m N g) N=false):AS N os ((m:Int)+1) (dZ N m N g):=by
 have hd:∀w,Wi N os m m m w->w<=0:=fun w G=>by
  obtain⟨y,I,o⟩:=F _ _ _ G;obtain⟨Z,s,D⟩:=pI (N:=N) (m:=m) N g m m y I;have:=rH hc m Y Z s;omega
 intro u v w G;have he:=G.ends;rcases Wi.split hd G with h|⟨w1,w2,I,o,s⟩
 . obtain⟨y,D,h6⟩:=F _ _ _ h;obtain⟨Z,U,h8⟩:=pI (N:=N) (m:=m) N g u v y D;exact⟨Z,U,by omega⟩
 obtain⟨y1,D,h6⟩:=F _ _ _ I;obtain⟨y2,U,h8⟩:=F _ _ _ o;obtain⟨j,rfl⟩:∃j:Nat,u=j:=⟨u.toNat,by omega⟩;obtain⟨k,rfl⟩:∃k:Nat,v=k:=⟨v.toNat,by omega⟩;obtain⟨y,h9,a0⟩:=vH (N:=N) (m:=m) hM hs z N j k y1 y2 aA aA D U;exact⟨y,h9,by omega⟩
theorem AF(n:Nat):∀k:Nat,(7:Int) ^ n<=7 ^ (n+k)
 | 0=>MR _
 | k+1=>by
  have D:=AF n k;have F:(7:Int) ^ (n+(k+1))=7 ^ (n+k)*7:=by rw[<-Nat.add_assoc];exact Int.pow_succ ..
  have G:(0:Int)<7 ^ (n+k):=Int.pow_pos aE;omega
theorem x8:∀(v:Nat)(a b w:Int),nS v a b=O w->w=0/\0<=a/\a<v/\0<=b/\b<v/\(a=b\/a=0)
 | 0,_,_,_,h=>by cases h
 | v+1,a,b,w,h=>by
  simp only[nS,eD]at h;split at h
  . rename_i D
    injection h with h;omega
  . split at h
    . rename_i D
      injection h with h;omega
    have:=x8 v a b w h;omega
theorem x7:∀(v:Nat)(a b:Int),0<=a->a<v->0<=b->b<v->(a=b\/a=0)->nS v a b=O 0
 | 0,a,_,_,h,_,_,_=>by omega
 | v+1,a,b,D,I,F,U,G=>by
  simp only[nS,eD];split
  . rfl
  . split
    . rfl
    exact x7 v a b D aA F aA G
theorem JF{vars:Int}{o:Nd}(h:qR vars o=false):0<=o.op/\o.op<=vars/\0<=o.b/\o.b<=vars/\-1000<=o.a/\o.a<=1000:=by
 have:=zM h;omega
theorem E3{vars:Int}(hN:(N:Int)=vars+1):∀(I:List Nd)(g F:GF),(∀o∈I,o∈os)->mP vars I g=O F->qQ N os g->(∀a b,Bd 1000 (g a b))->qQ N os F/\(∀a b,Bd 1000 (F a b))/\wR g F/\∀o∈I,qR vars o=false/\∃w,F o.op o.b=O w/\o.a<=w
 | [],g,F,_,h,hs,hb=>by
  simp only[mP,MS]at h;subst h;exact⟨hs,hb,wR.refl _,fun o s=>by cases s⟩
 | o::r,g,F,hin,h,hs,hb=>by
  simp only[mP]at h;split at h
  . cases h
  . rename_i D
    have D:qR vars o=false:=by simpa using D
    have hv:=JF D;have z:qQ N os (qP g o.op o.b o.a):=fun u v w hw=>by
     rcases FH hw with U|⟨rfl,rfl,rfl⟩
     . exact hs _ _ _ U
     exact .edge ⟨by omega,.inr (.inr ⟨o,hin o aD,rfl,rfl,rfl⟩)⟩
    have Z:∀a b,Bd 1000 (qP g o.op o.b o.a a b):=fun a b w hw=>by
     rcases FH hw with U|⟨_,_,rfl⟩
     . exact hb _ _ _ U
     omega
    obtain⟨i1,i2,i3,i4⟩:=E3 hN r _ F (fun o s=>hin o (by simp[s])) h z Z;refine⟨i1,i2,(I2 _ _ _ _).trans i3,fun Y G=>?_⟩;rcases MU.1 G with rfl|G
    . obtain⟨w,U,h2⟩:=I0 g Y.op Y.b Y.a;obtain⟨w',h3,h4⟩:=i3 _ _ w U;exact⟨D,w',h3,by omega⟩
    exact i4 Y G
end
end
section
section
variable {N : Nat}{os : List Nd}
end
end
end
section
section
variable {N : Nat}{os : List Nd}
theorem AK:∀(r m:Nat)(M:Int)(g:GF),m+r=N->0<=M->14*(7 ^ r*M)<=9223372036854775807->qQ N os g->AS N os m g->(∀a b,Bd M (g a b))->∀I,kO N r m g=O I->qQ N os I/\AS N os N I
 | 0,m,M,g,hm,hM,hs,hsnd,hcmp,hb,I,h=>by
  have Z:m=N:=aA;subst Z;simp only[kO,MS]at h;subst h;exact⟨hsnd,hcmp⟩
 | r+1,m,M,g,hm,hM,hs,hsnd,hcmp,hb,I,h=>by
  have z:(7:Int) ^ (r+1)=7 ^ r*7:=Int.pow_succ ..;have o:(1:Int)<=7 ^ r:=by
   have:(0:Int)<7 ^ r:=Int.pow_pos aE;omega
  have Y:(7:Int) ^ (r+1)*M=7 ^ r*(7*M):=by rw[z,Int.mul_assoc]
  have s:7*M<=7 ^ r*(7*M):=by
   have:=Int.mul_le_mul_of_nonneg_right o (show (0:Int)<=7*M by omega);omega
  rw[Y]at hs;have D:14*M<=9223372036854775807:=aA;have U:kO N (r+1) m g=if kE (dZ N m N g) N then none else kO N r (m+1) (dZ N m N g):=rfl;have G:=AB (m:=m) hM D aA hsnd hb N;rw[U]at h;cases hc:kE (dZ N m N g) N with
  | true=>rw[hc]at h;simp at h
  | false =>
   rw[hc]at h;have F:=G3 (m:=m) hM D aA hcmp hb hc;exact AK r (m+1) (7*M) (dZ N m N g) aA aA hs G (by rw[show ((m+1:Nat):Int)=(m:Int)+1 from by omega];exact F) (tA (N:=N) (m:=m) hM D hb N).1 I (by simpa using h)
end
theorem DV{vars:Int}{os:List Nd}(D:(kT vars os).1=0):qQ (vars.toNat+1) os (kT vars os).2/\AS (vars.toNat+1) os ((vars.toNat+1:Nat):Int) (kT vars os).2:=by
 by_cases h:vars<0\/16<vars
 . unfold kT at D;rw[LZ h]at D;cases D
 by_cases h2:64<os.length
 . unfold kT at D;rw[aN h,LZ h2]at D;cases D
 obtain⟨N,hN⟩:=OM (vars.toNat+1);have a0:(N:Int)=vars+1:=aA;unfold kT at D ⊢;rw[aN h,aN h2,<-hN]at D ⊢;cases ho:mP vars os (nS N) with
 | none=>rw[ho]at D;cases D
 | some g =>
  rw[ho]at D;simp only at D ⊢;obtain⟨i1,i2,i3,i4⟩:=E3 (os:=os) a0 os _ g (fun o h=>h) ho (fun u v w Z=>by
   obtain⟨rfl,I⟩:=x8 _ _ _ _ Z;exact .edge ⟨by omega,by omega⟩) (fun a b w Z=>by
   obtain⟨rfl,I⟩:=x8 _ _ _ _ Z;omega)
  have Y:AS N os ((0:Nat):Int) g:=by
   intro u v w Z;cases Z with
   | edge z =>
    obtain⟨⟨I,h6,h7,h8⟩,U⟩:=z;rcases U with⟨U,rfl⟩|⟨U,rfl⟩|⟨o,a1,rfl,rfl,rfl⟩
    . obtain⟨w',F,G⟩:=i3 _ _ _ (x7 N u v I h6 h7 h8 (.inl U));exact⟨w',F,G⟩
    . obtain⟨w',F,G⟩:=i3 _ _ _ (x7 N u v I h6 h7 h8 (.inr U));exact⟨w',F,G⟩
    . exact (i4 o a1).2
   | cons z I h6 =>
    have:=z.dst;omega
  cases hr:kO N N 0 g with
  | none=>rw[hr]at D;cases D
  | some g' =>
   exact AK N 0 1000 g aA aA (by
    have s:=AF N (17-N);rw[show N+(17-N)=17 from by omega]at s;have:(7:Int) ^ 17=232630513987207:=by decide
    omega) i1 Y i2 g' hr
theorem JK{vars:Int}{os:List Nd}(G:(kT vars os).1=0){a x c d e:Int}(I:(kT vars os).2 a x=O d)(U:(kT vars os).2 x c=O e):∃y,(kT vars os).2 a c=O y/\d+e<=y:=by
 obtain⟨D,Y⟩:=DV G;have F:=D _ _ _ I;have Z:=D _ _ _ U;exact Y _ _ _ (F.trans F.ends.2.2 Z)
theorem DP{g:GF}{x:Nd}{m:List Nd}:J0 g x m=true ↔ ∃y∈m,∃d,g x.a y.a=O d/\x.b-y.b<=d:=by
 unfold J0;rw[List.any_eq_true];constructor
 . rintro⟨y,D,h⟩;cases hd:g x.a y.a with
   | none=>rw[hd]at h;cases h
   | some d=>rw[hd]at h;exact⟨y,D,d,hd,by simpa using h⟩
 rintro⟨y,D,d,hd,h⟩;exact⟨y,D,by rw[hd];simpa using h⟩
theorem tN{b:Bk}{l m:List Nd}:mZ b l m=true ↔ (kT b.vars b.orders).1=0/\CZ b.vars l=true/\CZ b.vars m=true/\∀x∈l,∃y∈m,∃d,(kT b.vars b.orders).2 x.a y.a=O d/\x.b-y.b<=d:=by
 unfold mZ;rw[ME,ME,ME,MJ,List.all_eq_true];constructor
 . rintro⟨⟨⟨D,F⟩,G⟩,I⟩;exact⟨D,F,G,fun x U=>DP.1 (I x U)⟩
 rintro⟨D,F,G,I⟩;exact⟨⟨⟨D,F⟩,G⟩,fun x U=>DP.2 (I x U)⟩
theorem sJ{b:Bk}{l m k:List Nd}(Z:mZ b l m=true)(h:mZ b m k=true):mZ b l k=true:=by
 obtain⟨a1,a2,a3,D⟩:=tN.1 Z;obtain⟨_,_,F,G⟩:=tN.1 h;refine tN.2 ⟨a1,a2,F,fun x o=>?_⟩;obtain⟨y,s,d,I,e2⟩:=D x o;obtain⟨z,hz,e,U,f2⟩:=G y s;obtain⟨w,Y,g2⟩:=JK a1 I U;exact⟨z,hz,w,Y,by omega⟩
theorem xZ{b:Bk}{u:Bool}{x y z:TT}(F:cD b u x y=true)(D:cD b u y z=true)(s:x.1.op=y.1.op):cD b u x z=true:=by
 unfold cD at *;rw[<-s]at D;by_cases Y:x.1.op=2
 . rw[LZ Y]at F D ⊢;simp only[ME,NM,MJ]at F D ⊢;obtain⟨⟨a1,a2⟩,G⟩:=F;obtain⟨⟨h,o⟩,I⟩:=D;refine⟨⟨a1.trans h,sJ a2 o⟩,?_⟩;rcases G with G|G
   . exact .inl G
   rcases I with I|I
   . exact .inl I
   exact .inr (sJ I G)
 rw[aN Y]at F D ⊢;by_cases Z:x.1.op=4\/x.1.op=5
 . rw[LZ Z]
 rw[aN Z]at F D ⊢;by_cases U:x.1.op=12
 . rw[LZ U]at F D ⊢;simp only[ME,MJ]at F D ⊢;exact⟨F.1.trans D.1,F.2.trans D.2⟩
 rw[aN U]at F D ⊢;simp only[MJ]at F D ⊢;exact F.trans D
theorem mI{b:Bk}{x y:TT}(h:cD b false x y=true)(I:x.1.op=y.1.op):cD b false y x=true:=by
 unfold cD at *;rw[<-I];by_cases F:x.1.op=2
 . rw[LZ F]at h ⊢;simp only[ME,NK,MJ]at h ⊢;exact⟨⟨h.1.1.symm,h.2⟩,h.1.2⟩
 rw[aN F]at h ⊢;by_cases G:x.1.op=4\/x.1.op=5
 . rw[LZ G]
 rw[aN G]at h ⊢;by_cases D:x.1.op=12
 . rw[LZ D]at h ⊢;simp only[ME,MJ]at h ⊢;exact⟨h.1.symm,h.2.symm⟩
 rw[aN D]at h ⊢;simp only[MJ]at h ⊢;exact h.symm
theorem rN{b:Bk}{x y:TT}(h:cD b false x y=true):cD b true x y=true:=by
 unfold cD at *;by_cases D:x.1.op=2
 . rw[LZ D]at h ⊢;simp only[ME,Bool.true_or,MJ,and_true]at h ⊢;exact h.1
 rw[aN D]at h ⊢;exact h
theorem CE{b:Bk}{x y:TT}(h:cD b true x y=true)(D:cD b true y x=true)(G:x.1.op=y.1.op):cD b false x y=true:=by
 unfold cD at *;rw[<-G]at D;by_cases F:x.1.op=2
 . rw[LZ F]at h D ⊢;simp only[ME,Bool.true_or,NK,MJ,and_true]at h D ⊢;exact⟨h,D.2⟩
 rw[aN F]at h ⊢;exact h
end
end Go.Proofs.Ytlahmbhimhmoaaa
