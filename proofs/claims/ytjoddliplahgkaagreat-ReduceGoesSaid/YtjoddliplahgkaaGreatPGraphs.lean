/- Merged: GraphP, BellP. -/
import Derived.Test.YtjoddliplahgkaaGreatPLevels
namespace Go.Proofs.YtjoddliplahgkaaGreat
set_option linter.unusedVariables false
set_option linter.unusedSimpArgs false
open Go.RowKit
open Option renaming some → O
section
def Ed (N:Nat) (os:List Nd) (u v w:Int):Prop:=(0<=u/\u<N/\0<=v/\v<N)/\((u=v/\w=0)\/(u=0/\w=0)\/∃o ∈ os,o.op=u/\o.b=v/\o.a=w)
inductive Wi (N:Nat) (os:List Nd) (m:Int):Int->Int->Int->Prop
 | edge {u v w:Int}:Ed N os u v w->Wi N os m u v w
 | cons {u x v c w:Int}:Ed N os u x c->x<m->Wi N os m x v w->Wi N os m u v (c+w)
section
variable {N : Nat} {os : List Nd}
theorem Ed.src {u v w:Int} (h:Ed N os u v w):0<=u/\u<N:=⟨h.1.1,h.1.2.1⟩
theorem Ed.dst {u v w:Int} (h:Ed N os u v w):0<=v/\v<N:=h.1.2.2
theorem Wi.ends {m u v w:Int} (h:Wi N os m u v w):(0<=u/\u<N)/\0<=v/\v<N:=by
 induction h with
 | edge h=>exact⟨h.src,h.dst⟩
 | cons h _ _ ih=>exact⟨h.src,ih.2⟩
theorem Wi.trans {m u x v w w':Int} (h:Wi N os m u x w) (hx:x<m) (h':Wi N os m x v w'):Wi N os m u v (w+w'):=by
 induction h with
 | edge h=>exact .cons h hx h'
 | cons h hy _ ih =>
  rw[Int.add_assoc];exact .cons h hy (ih hx h')
theorem Wi.split {m u v w:Int} (hd:∀w,Wi N os m m m w->w<=0) (h:Wi N os (m+1) u v w):Wi N os m u v w\/∃w1 w2,Wi N os m u m w1/\Wi N os m m v w2/\w<=w1+w2:=by
 induction h with
 | edge h=>exact .inl (.edge h)
 | @cons u x v c w h hx _ ih =>
  by_cases hxm:x=m
  · subst hxm;rcases ih with ih | ⟨w1,w2,i1,i2,i3⟩
    · exact .inr ⟨c,w,.edge h,ih,Int.le_refl _⟩
    have:=hd _ i1;exact .inr ⟨c,w2,.edge h,i2,by omega⟩
  · rcases ih with ih | ⟨w1,w2,i1,i2,i3⟩
    · exact .inl (.cons h aA ih)
    exact .inr ⟨c+w1,w2,.cons h aA i1,i2,by omega⟩
def DQ (g g':GF):Prop:=∀a b w,g a b=O w->∃w',g' a b=O w'/\w<=w'
theorem DQ.refl (g:GF):DQ g g:=fun _ _ w h=>⟨w,h,Int.le_refl _⟩
theorem DQ.trans {g g' g'':GF} (h:DQ g g') (h':DQ g' g''):DQ g g'':=fun a b w hw=>by
 obtain⟨w',h1,h2⟩:=h a b w hw;obtain⟨w'',h3,h4⟩:=h' a b w' h1;exact⟨w'',h3,by omega⟩
theorem QF (g:GF) (l h z:Int):DQ g (vJ g l h z):=fun a b w hw=>by
 unfold vJ;cases e:g l h with
 | none =>
  simp only;unfold gB;split
  · rename_i hh;rw[hh.1,hh.2] at hw;rw[hw] at e;cases e
  · exact⟨w,hw,Int.le_refl _⟩
 | some o =>
  simp only;split
  · rename_i hz
    unfold gB;split
    · rename_i hh
      rw[hh.1,hh.2,e] at hw;injection hw with hw;exact⟨z,rfl,by omega⟩
    exact⟨w,hw,Int.le_refl _⟩
  · exact⟨w,hw,Int.le_refl _⟩
theorem QE (g:GF) (l h z:Int) : ∃w,vJ g l h z l h=O w/\z<=w:=by
 unfold vJ;cases e:g l h with
 | none=>exact⟨z,by simp[gB],Int.le_refl _⟩
 | some o =>
  simp only;split
  · exact⟨z,by simp[gB],Int.le_refl _⟩
  · exact⟨o,e,by omega⟩
theorem NE {g:GF} {l h z a b:Int} (hn:¬ (a=l/\b=h)):vJ g l h z a b=g a b:=by
 unfold vJ;cases g l h with
 | none=>simp only[gB];rw[if_neg hn]
 | some o =>
  simp only;split
  · simp only[gB];rw[if_neg hn]
  · rfl
theorem NF {g:GF} {l h z a b w:Int} (hw:vJ g l h z a b=O w):g a b=O w\/(a=l/\b=h/\w=z):=by
 by_cases hn:a=l/\b=h
 · obtain⟨rfl,rfl⟩:=hn;unfold vJ at hw;cases e:g a b with
   | none =>
    rw[e] at hw;simp only[gB,and_self,if_true,Option.some.injEq] at hw;exact .inr ⟨rfl,rfl,hw.symm⟩
   | some o =>
    rw[e] at hw;simp only at hw;split at hw
    · simp only[gB,and_self,if_true,Option.some.injEq] at hw;exact .inr ⟨rfl,rfl,hw.symm⟩
    · exact .inl (e.symm.trans (e.symm ▸ hw))
 rw[NE hn] at hw;exact .inl hw
def Bd (M:Int) (x:Option Int):Prop:=∀w,x=O w->-M<=w/\w<=M
theorem Bd.mono {M M':Int} {x:Option Int} (h:Bd M x) (hm:M<=M'):Bd M' x:=fun w hw=>by have:=h w hw;omega
theorem lY {z:Int} (h1 : -9223372036854775808<=z) (h2:z<=9223372036854775807):wrap64 z=z:=by
 unfold wrap64;omega
theorem QG (g:GF) (m l h:Int):DQ g (AJ g m l h):=by
 unfold AJ;split
 · exact QF _ _ _ _
 exact DQ.refl _
theorem NN {g:GF} {m l h a b:Int} (hn:¬ (a=l/\b=h)):AJ g m l h a b=g a b:=by
 unfold AJ;cases g l m with
 | none=>rfl
 | some x =>
  cases g m h with
  | none=>rfl
  | some y=>exact NE hn
theorem DD {g:GF} {m l h a b w:Int} (hw:AJ g m l h a b=O w):g a b=O w\/(a=l/\b=h/\∃x y,g l m=O x/\g m h=O y/\w=wrap64 (x+y)):=by
 unfold AJ at hw;cases h1:g l m with
 | none=>rw[h1] at hw;exact .inl hw
 | some x =>
  cases h2:g m h with
  | none=>rw[h1,h2] at hw;exact .inl hw
  | some y =>
   rw[h1,h2] at hw;rcases NF hw with h | ⟨h3,h4,h5⟩
   · exact .inl h
   · exact .inr ⟨h3,h4,x,y,rfl,rfl,h5⟩
theorem SH {g:GF} {m l h x y:Int} (h1:g l m=O x) (h2:g m h=O y) : ∃w,AJ g m l h l h=O w/\wrap64 (x+y)<=w:=by
 unfold AJ;rw[h1,h2];exact QE _ _ _ _
theorem iY {m l:Int} : ∀(k:Nat) (g:GF) (a b:Int),a ≠ l->gU m l k g a b=g a b
 | 0,_,_,_,_=>rfl
 | k+1,g,a,b,h=>by
  show AJ (gU m l k g) m l k a b=g a b;rw[NN (fun hh=>h hh.1),iY k g a b h]
theorem nS {m l:Int} : ∀(k:Nat) (g:GF) (b:Int),(k:Int)<=b->gU m l k g l b=g l b
 | 0,_,_,_=>rfl
 | k+1,g,b,h=>by
  show AJ (gU m l k g) m l k l b=g l b;rw[NN (fun hh=>by omega),nS k g b aA]
theorem uO {m l:Int} : ∀(k:Nat) (g:GF),DQ g (gU m l k g)
 | 0,g=>DQ.refl g
 | k+1,g=>(uO k g).trans (QG _ _ _ _)
theorem zZ {m l M R:Int} (hm0:0<=m) (hlm:l ≠ m) (hM:0<=M) (hR:0<=R) (hs:2*(M+2*R)<=9223372036854775807) {g:GF} (h1:∀b,Bd M (g l b)) (h2:∀b,Bd R (g m b)) : ∀(k:Nat),(∀b,Bd (M+2*R) (gU m l k g l b))/\Bd (M+R) (gU m l k g l m)
 | 0=>⟨fun b=>(h1 b).mono aA,(h1 m).mono aA⟩
 | k+1=>by
  obtain⟨i1,i2⟩:=zZ hm0 hlm hM hR hs h1 h2 k;have a0:gU m l k g m k=g m k:=iY k g m k (fun e=>hlm e.symm);have key:∀x y,gU m l k g l m=O x->gU m l k g m k=O y->wrap64 (x+y)=x+y/\-(M+2*R)<=x+y/\x+y<=M+2*R/\((k:Int)=m->-(M+R)<=x+y/\x+y<=M+R):=by
   intro x y hx hy;have b1:=i2 x hx;rw[a0] at hy;have b2:=h2 _ y hy;refine⟨lY aA aA,by omega,by omega,fun hk => ?_⟩;rw[nS k g m aA] at hx;have b3:=h1 _ x hx;omega
  refine⟨fun b w hw => ?_,fun w hw => ?_⟩
  · rcases DD hw with h | ⟨_,_,x,y,hx,hy,rfl⟩
    · exact i1 b w h
    obtain⟨e,e1,e2,_⟩:=key x y hx hy;rw[e];exact⟨e1,e2⟩
  · rcases DD hw with h | ⟨_,hb,x,y,hx,hy,rfl⟩
    · exact i2 w h
    obtain⟨e,_,_,e3⟩:=key x y hx hy;rw[e];exact e3 hb.symm
theorem kC {m M:Int} (hM:0<=M) (hs:6*M<=9223372036854775807) {g:GF} (h1:∀b,Bd M (g m b)) : ∀(k:Nat),(∀b,Bd (3*M) (gU m m k g m b))/\Bd (2*M) (gU m m k g m m)
 | 0=>⟨fun b=>(h1 b).mono aA,(h1 m).mono aA⟩
 | k+1=>by
  obtain⟨i1,i2⟩:=kC hM hs h1 k;have key:∀x y,gU m m k g m m=O x->gU m m k g m k=O y->wrap64 (x+y)=x+y/\-(3*M)<=x+y/\x+y<=3*M/\((k:Int)=m->-(2*M)<=x+y/\x+y<=2*M):=by
   intro x y hx hy;have b1:=i2 x hx;rw[nS k g k (Int.le_refl _)] at hy;have b2:=h1 _ y hy;refine⟨lY aA aA,by omega,by omega,fun hk => ?_⟩;rw[nS k g m aA] at hx;have b3:=h1 _ x hx;omega
  refine⟨fun b w hw => ?_,fun w hw => ?_⟩
  · rcases DD hw with h | ⟨_,_,x,y,hx,hy,rfl⟩
    · exact i1 b w h
    obtain⟨e,e1,e2,_⟩:=key x y hx hy;rw[e];exact⟨e1,e2⟩
  · rcases DD hw with h | ⟨_,hb,x,y,hx,hy,rfl⟩
    · exact i2 w h
    obtain⟨e,_,_,e3⟩:=key x y hx hy;rw[e];exact e3 hb.symm
theorem zI {N:Nat} {m:Nat} {M:Int} (hM:0<=M) (hs:14*M<=9223372036854775807) {g:GF} (h1:∀a b,Bd M (g a b)) : ∀(l:Nat),(∀a b,Bd (7*M) (gL N m l g a b))/\(∀b,Bd (3*M) (gL N m l g m b))/\(∀a b,(l:Int)<=a->gL N m l g a b=g a b)
 | 0=>⟨fun a b=>(h1 a b).mono aA,fun b=>(h1 _ b).mono aA,fun _ _ _=>rfl⟩
 | l+1=>by
  obtain⟨i1,i2,i3⟩:=zI (N:=N) (m:=m) hM hs h1 l;have e:gL N m (l+1) g=gU m l N (gL N m l g):=rfl;have hl:∀b,Bd M (gL N m l g l b):=fun b=>by rw[i3 l b (Int.le_refl _)];exact h1 _ _
  rw[e];refine⟨fun a b => ?_,fun b => ?_,fun a b h => ?_⟩
  · by_cases ha:a=l
    · subst ha;by_cases hlm:(l:Int)=m
      · have:=(kC (m:=(l:Int)) hM aA hl N).1 b;rw[hlm] at this ⊢;exact this.mono aA
      exact ((zZ (R:=3*M) aA hlm hM aA aA hl i2 N).1 b).mono aA
    rw[iY N _ a b ha];exact i1 a b
  · by_cases hlm:(m:Int)=l
    · have a0:l=m:=aA;subst a0;exact (kC (m:=(l:Int)) hM aA hl N).1 b
    rw[iY N _ _ b hlm];exact i2 b
  · rw[iY N _ a b aA];exact i3 a b aA
theorem tW {N:Nat} {m:Int} : ∀(l:Nat) (g:GF),DQ g (gL N m l g)
 | 0,g=>DQ.refl g
 | l+1,g=>(tW l g).trans (uO N _)
theorem CZ {m l M:Int} (hs:2*M<=9223372036854775807) {g:GF} (hb:∀k a b,Bd M (gU m l k g a b)) {x:Int} (hx:g l m=O x) : ∀(k j:Nat) (y:Int),j<k->g m j=O y->∃w,gU m l k g l j=O w/\x+y<=w
 | k+1,j,y,hj,hy=>by
  by_cases hjk:j=k
  · subst hjk;obtain⟨x',e1,e2⟩:=uO (m:=m) (l:=l) j g l m x hx;obtain⟨y',e3,e4⟩:=uO (m:=m) (l:=l) j g m j y hy;obtain⟨w,h1,h2⟩:=SH e1 e3;have b1:=hb j _ _ x' e1;have b2:=hb j _ _ y' e3;rw[lY aA aA] at h2;exact⟨w,h1,by omega⟩
  · obtain⟨w,h1,h2⟩:=CZ hs hb hx k j y aA hy;obtain⟨w',h3,h4⟩:=QG (gU m l k g) m l k l j w h1;exact⟨w',h3,by omega⟩
theorem CE {N:Nat} {m:Nat} {M:Int} (hM:0<=M) (hs:14*M<=9223372036854775807) {g:GF} (h1:∀a b,Bd M (g a b)) : ∀(l:Nat),∀(j k:Nat) (x y:Int),j<l->k<N->g j m=O x->g m k=O y->∃w,gL N m l g j k=O w/\x+y<=w
 | l+1,j,k,x,y,hj,hk,hx,hy=>by
  have e:gL N m (l+1) g=gU m l N (gL N m l g):=rfl;rw[e];by_cases hjl:j=l
  · subst hjl;obtain⟨x',e1,e2⟩:=tW (N:=N) (m:=m) j g j m x hx;obtain⟨y',e3,e4⟩:=tW (N:=N) (m:=m) j g m k y hy;obtain⟨i1,i2,i3⟩:=zI (N:=N) (m:=m) hM hs h1 j;have hl:∀b,Bd M (gL N m j g j b):=fun b=>by rw[i3 j b (Int.le_refl _)];exact h1 _ _
    have hb:∀k' a b,Bd (7*M) (gU m j k' (gL N m j g) a b):=fun k' a b=>by
     by_cases ha:a=j
     · subst ha;by_cases hlm:(j:Int)=m
       · have a0:j=m:=aA;subst a0;exact ((kC (m:=(j:Int)) hM aA hl k').1 b).mono aA
       exact ((zZ (R:=3*M) aA hlm hM aA aA hl i2 k').1 b).mono aA
     rw[iY k' _ a b ha];exact i1 a b
    obtain⟨w,h3,h4⟩:=CZ (M:=7*M) aA hb e1 N k y' hk e3;exact⟨w,h3,by omega⟩
  · obtain⟨w,h3,h4⟩:=CE hM hs h1 l j k x y aA hk hx hy;obtain⟨w',h5,h6⟩:=uO (m:=m) (l:=l) N (gL N m l g) j k w h3;exact⟨w',h5,by omega⟩
def AP (N:Nat) (os:List Nd) (g:GF):Prop:=∀u v w,g u v=O w->Wi N os N u v w
theorem H0 {m l M:Int} (hs:2*M<=9223372036854775807) (hm0:0<=m) (hm:m<N) {g:GF} (hg:AP N os g) (hb:∀k a b,Bd M (gU m l k g a b)) : ∀(k:Nat),AP N os (gU m l k g)
 | 0=>hg
 | k+1=>fun u v w hw=>by
  have ih:=H0 hs hm0 hm hg hb k;rcases DD hw with h | ⟨rfl,rfl,x,y,hx,hy,rfl⟩
  · exact ih u v w h
  · have b1:=hb k _ _ x hx;have b2:=hb k _ _ y hy;rw[lY aA aA];exact (ih _ _ _ hx).trans hm (ih _ _ _ hy)
theorem GX {m:Nat} {M:Int} (hM:0<=M) (hs:14*M<=9223372036854775807) (hmN:m<N) {g:GF} (hg:AP N os g) (h1:∀a b,Bd M (g a b)) : ∀(l:Nat),AP N os (gL N m l g)
 | 0=>hg
 | l+1=>by
  have e:gL N m (l+1) g=gU m l N (gL N m l g):=rfl;rw[e];obtain⟨i1,i2,i3⟩:=zI (N:=N) (m:=m) hM hs h1 l;have hl:∀b,Bd M (gL N m l g l b):=fun b=>by rw[i3 l b (Int.le_refl _)];exact h1 _ _
  refine H0 (M:=7*M) aA aA aA (GX hM hs hmN hg h1 l) (fun k' a b => ?_) N;by_cases ha:a=l
  · subst ha;by_cases hlm:(l:Int)=m
    · have a0:l=m:=aA;subst a0;exact ((kC (m:=(l:Int)) hM aA hl k').1 b).mono aA
    exact ((zZ (R:=3*M) aA hlm hM aA aA hl i2 k').1 b).mono aA
  · rw[iY k' _ a b ha];exact i1 a b
def OC (N:Nat) (os:List Nd) (m:Int) (g:GF):Prop:=∀u v w,Wi N os m u v w->∃y,g u v=O y/\w<=y
theorem qO {g:GF} : ∀{n:Nat},mB g n=false->∀v:Nat,v<n->∀w,g v v=O w->w<=0
 | n+1,h,v,hv,w,hw=>by
  simp only[mB,Bool.or_eq_false_iff,decide_eq_false_iff_not] at h;by_cases hvn:v=n
  · subst hvn;have:=h.2;rw[hw] at this;simpa using this
  · exact qO h.1 v aA w hw
theorem BF {g:GF} : ∀{n:Nat},mB g n=true->∃v:Nat,v<n/\∃w,g v v=O w/\0<w
 | n+1,h=>by
  simp only[mB,Bool.or_eq_true,decide_eq_true_eq] at h;rcases h with h | h
  · obtain⟨v,h1,h2⟩:=BF h;exact⟨v,by omega,h2⟩
  · cases e:g n n with
    | none=>rw[e] at h;simp at h
    | some w=>rw[e] at h;exact⟨n,by omega,w,e,by simpa using h⟩
theorem O5 {m:Nat} {M:Int} (hM:0<=M) (hs:14*M<=9223372036854775807) (hmN:m<N) {g:GF} (hg:OC N os m g) (h1:∀a b,Bd M (g a b)) (hc:mB (gL N m N g) N=false):OC N os ((m:Int)+1) (gL N m N g):=by
 have hd:∀w,Wi N os m m m w->w<=0:=fun w hw=>by
  obtain⟨y,h2,h3⟩:=hg _ _ _ hw;obtain⟨y',h4,h5⟩:=tW (N:=N) (m:=m) N g m m y h2;have:=qO hc m hmN y' h4;omega
 intro u v w hw;have he:=hw.ends;rcases Wi.split hd hw with h | ⟨w1,w2,h2,h3,h4⟩
 · obtain⟨y,h5,h6⟩:=hg _ _ _ h;obtain⟨y',h7,h8⟩:=tW (N:=N) (m:=m) N g u v y h5;exact⟨y',h7,by omega⟩
 obtain⟨y1,h5,h6⟩:=hg _ _ _ h2;obtain⟨y2,h7,h8⟩:=hg _ _ _ h3;obtain⟨j,rfl⟩ : ∃j:Nat,u=j:=⟨u.toNat,by omega⟩;obtain⟨k,rfl⟩ : ∃k:Nat,v=k:=⟨v.toNat,by omega⟩;obtain⟨y,h9,a0⟩:=CE (N:=N) (m:=m) hM hs h1 N j k y1 y2 aA aA h5 h7;exact⟨y,h9,by omega⟩
def P3 (N:Nat) (os:List Nd):Prop:=∃u w,Wi N os N u u w/\0<w
theorem G0 (n:Nat) : ∀k:Nat,(7:Int) ^ n<=7 ^ (n+k)
 | 0=>Int.le_refl _
 | k+1=>by
  have h1:=G0 n k;have h2:(7:Int) ^ (n+(k+1))=7 ^ (n+k)*7:=by rw[<-Nat.add_assoc];exact Int.pow_succ ..
  have h3:(0:Int)<7 ^ (n+k):=Int.pow_pos aE;omega
theorem H6:∀(r m:Nat) (M:Int) (g:GF),m+r=N->0<=M->14*(7 ^ r*M)<=9223372036854775807->AP N os g->OC N os m g->(∀a b,Bd M (g a b))->(m=N->∀v:Nat,v<N->∀w,g v v=O w->w<=0) →
 (oF N r m g=none->P3 N os)/\(∀g',oF N r m g=O g'->¬ P3 N os)
 | 0,m,M,g,hm,hM,hs,hsnd,hcmp,hb,hd=>by
  refine⟨fun h=>(by cases h),fun g' _ ⟨u,w,hw,h0⟩ => ?_⟩;have a5:m=N:=aA;subst a5;have he:=hw.ends;obtain⟨j,rfl⟩ : ∃j:Nat,u=j:=⟨u.toNat,by omega⟩;obtain⟨y,h1,h2⟩:=hcmp _ _ _ hw;have:=hd rfl j aA y h1;omega
 | r+1,m,M,g,hm,hM,hs,hsnd,hcmp,hb,hd=>by
  have hp:(7:Int) ^ (r+1)=7 ^ r*7:=Int.pow_succ ..;have a4:(1:Int)<=7 ^ r:=by
   have:(0:Int)<7 ^ r:=Int.pow_pos aE;omega
  have a6:(7:Int) ^ (r+1)*M=7 ^ r*(7*M):=by rw[hp,Int.mul_assoc]
  have a7:7*M<=7 ^ r*(7*M):=by
   have:=Int.mul_le_mul_of_nonneg_right a4 (show (0:Int)<=7*M by omega);omega
  rw[a6] at hs;have a1:14*M<=9223372036854775807:=aA;have a3:oF N (r+1) m g=if mB (gL N m N g) N then none else oF N r (m+1) (gL N m N g):=rfl;have a0:=GX (m:=m) hM a1 aA hsnd hb N;rw[a3];cases hc:mB (gL N m N g) N with
  | true =>
   obtain⟨v,hv,w,h1,h2⟩:=BF hc;exact⟨fun _=>⟨v,w,a0 _ _ _ h1,h2⟩,fun g' h=>by simp at h⟩
  | false =>
   have a2:=O5 (m:=m) hM a1 aA hcmp hb hc;have:=H6 r (m+1) (7*M) (gL N m N g) aA aA hs a0 (by rw[show ((m+1:Nat):Int)=(m:Int)+1 from by omega];exact a2) (zI (N:=N) (m:=m) hM a1 hb N).1 (fun _=>qO hc);simpa using this
theorem EU:∀(v:Nat) (a b w:Int),qZ v a b=O w->w=0/\0<=a/\a<v/\0<=b/\b<v/\(a=b\/a=0)
 | 0,_,_,_,h=>by cases h
 | v+1,a,b,w,h=>by
  simp only[qZ,gB] at h;split at h
  · rename_i h1
    injection h with h;omega
  · split at h
    · rename_i h1
      injection h with h;omega
    have:=EU v a b w h;omega
theorem ET:∀(v:Nat) (a b:Int),0<=a->a<v->0<=b->b<v->(a=b\/a=0)->qZ v a b=O 0
 | 0,a,_,_,h,_,_,_=>by omega
 | v+1,a,b,h1,h2,h3,h4,h5=>by
  simp only[qZ,gB];split
  · rfl
  · split
    · rfl
    exact ET v a b h1 aA h3 aA h5
theorem DY {vars:Int} {o:Nd} (h:jK vars o=false):0<=o.op/\o.op<=vars/\0<=o.b/\o.b<=vars/\-1000<=o.a/\o.a<=1000:=by
 have:=yO h;omega
theorem MR {vars:Int} (hN:(N:Int)=vars+1) : ∀(os':List Nd) (g g':GF),(∀o ∈ os',o ∈ os)->oE vars os' g=O g'->AP N os g->(∀a b,Bd 1000 (g a b))->AP N os g'/\(∀a b,Bd 1000 (g' a b))/\DQ g g'/\∀o ∈ os',jK vars o=false/\∃w,g' o.op o.b=O w/\o.a<=w
 | [],g,g',_,h,hs,hb=>by
  simp only[oE,Option.some.injEq] at h;subst h;exact⟨hs,hb,DQ.refl _,fun o ho=>by cases ho⟩
 | o::r,g,g',hin,h,hs,hb=>by
  simp only[oE] at h;split at h
  · cases h
  · rename_i a0
    have a0:jK vars o=false:=by simpa using a0
    have hv:=DY a0;have a2:AP N os (vJ g o.op o.b o.a):=fun u v w hw=>by
     rcases NF hw with h1 | ⟨rfl,rfl,rfl⟩
     · exact hs _ _ _ h1
     exact .edge ⟨by omega,.inr (.inr ⟨o,hin o aD,rfl,rfl,rfl⟩)⟩
    have a3:∀a b,Bd 1000 (vJ g o.op o.b o.a a b):=fun a b w hw=>by
     rcases NF hw with h1 | ⟨_,_,rfl⟩
     · exact hb _ _ _ h1
     omega
    obtain⟨i1,i2,i3,i4⟩:=MR hN r _ g' (fun o ho=>hin o (by simp[ho])) h a2 a3;refine⟨i1,i2,(QF _ _ _ _).trans i3,fun o' a1 => ?_⟩;rcases List.mem_cons.1 a1 with rfl | a1
    · obtain⟨w,h1,h2⟩:=QE g o'.op o'.b o'.a;obtain⟨w',h3,h4⟩:=i3 _ _ w h1;exact⟨a0,w',h3,by omega⟩
    exact i4 o' a1
theorem tY {vars:Int} : ∀(os':List Nd) (g:GF),oE vars os' g=none ↔ ∃o ∈ os',jK vars o=true
 | [],g=>by simp[oE]
 | o::r,g=>by
  simp only[oE];split
  · rename_i h
    exact⟨fun _=>⟨o,by simp,h⟩,fun _=>rfl⟩
  · rename_i h
    rw[tY r];simp[h]
theorem OJ (vars:Int) (os:List Nd):(vars<0\/16<vars->(pC vars os).1=1)/\(¬ (vars<0\/16<vars)->64<os.length->(pC vars os).1=5) ∧
 (¬ (vars<0\/16<vars)->¬ 64<os.length->(∃o ∈ os,jK vars o=true)->(pC vars os).1=1) ∧
 (¬ (vars<0\/16<vars)->¬ 64<os.length->(∀o ∈ os,jK vars o=false)->(P3 (vars.toNat+1) os->(pC vars os).1=7)/\(¬ P3 (vars.toNat+1) os->(pC vars os).1=0)):=by
 refine⟨fun h => ?_,fun h h2 => ?_,fun h h2 h3 => ?_,fun h h2 h3 => ?_⟩
 · unfold pC;rw[if_pos h]
 · unfold pC;rw[if_neg h,if_pos h2]
 · have:=(tY os (qZ (vars.toNat+1))).2 h3;unfold pC;rw[if_neg h,if_neg h2,this]
 obtain⟨N,hN⟩ : ∃N,N=vars.toNat+1:=⟨_,rfl⟩;have a5:(N:Int)=vars+1:=aA;rw[<-hN];cases ho:oE vars os (qZ N) with
 | none =>
  obtain⟨o,h4,h5⟩:=(tY os _).1 ho;rw[h3 o h4] at h5;cases h5
 | some g =>
  obtain⟨i1,i2,i3,i4⟩:=MR (os:=os) a5 os _ g (fun o h=>h) ho (fun u v w hw=>by
   obtain⟨rfl,h5⟩:=EU _ _ _ _ hw;exact .edge ⟨by omega,by omega⟩) (fun a b w hw=>by
   obtain⟨rfl,h5⟩:=EU _ _ _ _ hw;omega)
  have a1:OC N os ((0:Nat):Int) g:=by
   intro u v w hw;cases hw with
   | edge h4 =>
    obtain⟨⟨h5,h6,h7,h8⟩,h9⟩:=h4;rcases h9 with⟨h9,rfl⟩ | ⟨h9,rfl⟩ | ⟨o,a4,rfl,rfl,rfl⟩
    · obtain⟨w',a3,a2⟩:=i3 _ _ _ (ET N u v h5 h6 h7 h8 (.inl h9));exact⟨w',a3,a2⟩
    · obtain⟨w',a3,a2⟩:=i3 _ _ _ (ET N u v h5 h6 h7 h8 (.inr h9));exact⟨w',a3,a2⟩
    · exact (i4 o a4).2
   | cons h4 h5 h6 =>
    have:=h4.dst;omega
  have a0:=H6 (N:=N) (os:=os) N 0 1000 g aA aA (by
   have a6:=G0 N (17-N);rw[show N+(17-N)=17 from by omega] at a6;have:(7:Int) ^ 17=232630513987207:=by decide
   omega) i1 a1 i2 (fun h=>by omega)
  have e:pC vars os=match oF N N 0 g with
   | none=>(7,fun _ _=>none)
   | some g=>(0,g):=by
   unfold pC;rw[if_neg h,if_neg h2,<-hN,ho];rfl
  rw[e];cases hr:oF N N 0 g with
  | none=>exact⟨fun _=>rfl,fun h=>absurd (a0.1 hr) h⟩
  | some g'=>exact⟨fun h=>absurd h (a0.2 g' hr),fun _=>rfl⟩
end
end
section
def cK:Int := -1000000000
def vV (d:List Int) (u v:Nat) (c:Int):List Int:=if d.getD u cK ≠ cK/\d.getD v cK<d.getD u cK+c then d.set v (d.getD u cK+c) else d
def uM (d:List Int) (u v:Nat) (c:Int):Bool:=decide (d.getD u cK ≠ cK/\d.getD v cK<d.getD u cK+c)
def sB:List (Nat×Nat×Int)->List Int->Bool->List Int×Bool
 | [],d,t=>(d,t)
 | e::r,d,t=>sB r (vV d e.1 e.2.1 e.2.2) (t||uM d e.1 e.2.1 e.2.2)
theorem sW:∀(a b:List (Nat×Nat×Int)) (d:List Int) (t:Bool),sB (a++b) d t=sB b (sB a d t).1 (sB a d t).2
 | [],_,_,_=>rfl
 | e::a,b,d,t=>by simp only[List.cons_append,sB];exact sW a b _ _
def lS (N:Nat) (os:List Nd):List (Nat×Nat×Int):=(List.range N).map (fun v=>(0,v,(0:Int)))++os.map fun o=>(o.op.toNat,o.b.toNat,o.a)
def pM (es:List (Nat×Nat×Int)):Nat->List Int->Option (List Int)
 | 0,_=>none
 | r+1,d=>if (sB es d false).2 then pM es r (sB es d false).1 else O (sB es d false).1
def mO (N low:Nat):List Int:=(List.replicate N cK).set low 0
inductive Wl (N:Nat) (os:List Nd):List Int->Int->Int->Int->Prop
 | one {u:Int}:0<=u->u<N->Wl N os [u] u u 0
 | cons {vs:List Int} {u x v c w:Int}:Ed N os u x c->Wl N os vs x v w->Wl N os (u::vs) u v (c+w)
section
variable {N : Nat} {os : List Nd}
theorem Wl.all {vs:List Int} {u v w:Int} (h:Wl N os vs u v w) : ∀x ∈ vs,0<=x/\x<N:=by
 induction h with
 | one h1 h2=>intro x hx;rw[List.mem_singleton] at hx;subst hx;exact⟨h1,h2⟩
 | cons h _ ih =>
  intro x hx;rcases List.mem_cons.1 hx with rfl | hx
  · exact h.src
  · exact ih x hx
theorem Wl.wi {vs:List Int} {u v w:Int} (h:Wl N os vs u v w) : ∀{s c:Int},Ed N os s u c->Wi N os N s v (c+w):=by
 induction h with
 | one _ _=>intro s c hs;rw[Int.add_zero];exact .edge hs
 | cons h _ ih=>intro s c hs;exact .cons hs (h.src.2) (ih h)
theorem Wl.cut {vs:List Int} {u v w:Int} (h:Wl N os vs u v w) : ∀{y:Int},y ∈ vs->∃pre vs' w1 w2,Wl N os (pre++[y]) u y w1/\Wl N os vs' y v w2/\w=w1+w2/\vs=pre++vs':=by
 induction h with
 | @one u h1 h2 =>
  intro y hy;rw[List.mem_singleton] at hy;subst hy;exact⟨[],[y],0,0,.one h1 h2,.one h1 h2,rfl,rfl⟩
 | @cons vs u x v c w h hw ih =>
  intro y hy;rcases List.mem_cons.1 hy with rfl | hy
  · exact⟨[],y::vs,0,c+w,.one h.src.1 h.src.2,.cons h hw,by omega,rfl⟩
  · obtain⟨pre,vs',w1,w2,h1,h2,h3,h4⟩:=ih hy;exact⟨u::pre,vs',c+w1,w2,.cons h h1,h2,by omega,by rw[h4];rfl⟩
theorem Wl.head {vs:List Int} {u v w:Int} (h:Wl N os vs u v w) : ∃r,vs=u::r:=by
 cases h with
 | one _ _=>exact⟨_,rfl⟩
 | cons _ _=>exact⟨_,rfl⟩
theorem Wl.short (hp:¬ P3 N os) {vs:List Int} {u v w:Int} (h:Wl N os vs u v w) : ∃vs' w',Wl N os vs' u v w'/\vs'.Nodup/\w<=w':=by
 induction h with
 | @one u h1 h2=>exact⟨[u],0,.one h1 h2,by simp,Int.le_refl _⟩
 | @cons vs u x v c w h hw ih =>
  obtain⟨vs',w',h1,h2,h3⟩:=ih;by_cases hu:u ∈ vs'
  · obtain⟨pre,vs2,w1,w2,h4,h5,h6,h7⟩:=h1.cut hu;have hc:c+w1<=0:=by
     rcases Int.lt_or_le 0 (c+w1) with h8 | h8
     · exact absurd ⟨u,c+w1,h4.wi h,h8⟩ hp
     exact h8
    refine⟨vs2,w2,h5,?_,by omega⟩;rw[h7] at h2;exact (List.nodup_append.1 h2).2.1
  · exact⟨u::vs',c+w',.cons h h1,List.nodup_cons.2 ⟨hu,h2⟩,by omega⟩
theorem q9:∀(n:Nat) (l:List Int),l.Nodup->(∀x ∈ l,0<=x/\x<n)->l.length<=n
 | 0,[],_,_=>Nat.le_refl _
 | 0,x::l,_,h=>by have:=h x aD;omega
 | n+1,l,hn,h=>by
  by_cases hm:(n:Int) ∈ l
  · have h1:=q9 n (l.erase n) (hn.erase _) (fun x hx=>by
     have h2:=h x (List.mem_of_mem_erase hx);have h3:x ≠ n:=fun e=>by
      subst e;exact absurd hx (by rw[hn.mem_erase_iff];simp)
     omega)
    rw[List.length_erase_of_mem hm] at h1;have:=List.length_pos_of_mem hm;omega
  · have:=q9 n l hn (fun x hx=>by
     have h2:=h x hx;have h3:x ≠ n:=fun e=>hm (e ▸ hx);omega)
    omega
theorem Wl.last {vs:List Int} {u v w:Int} (h:Wl N os vs u v w):(vs.length=1/\u=v/\w=0)\/∃vs' y w' c,Wl N os vs' u y w'/\Ed N os y v c/\w=w'+c/\vs.length=vs'.length+1:=by
 induction h with
 | one _ _=>exact .inl ⟨rfl,rfl,rfl⟩
 | @cons vs u x v c w h hw ih =>
  rcases ih with⟨h1,rfl,rfl⟩ | ⟨vs',y,w',c',h1,h2,h3,h4⟩
  · exact .inr ⟨[u],u,0,c,.one h.src.1 h.src.2,h,by omega,by simp;omega⟩
  · exact .inr ⟨u::vs',y,c+w',c',.cons h h1,h2,by omega,by simp;omega⟩
theorem Wl.snoc {vs:List Int} {u v w:Int} (h:Wl N os vs u v w) : ∀{x c:Int},Ed N os v x c->Wl N os (vs++[x]) u x (w+c):=by
 induction h with
 | @one u h1 h2 =>
  intro x c he;have:=Wl.cons he (.one he.dst.1 he.dst.2);rw[Int.add_zero] at this;rw[Int.zero_add];exact this
 | @cons vs u y v c' w h _ ih =>
  intro x c he;rw[Int.add_assoc];exact .cons h (ih he)
abbrev DB (d:List Int) (v:Nat):Int:=d.getD v cK
def QJ (N:Nat) (os:List Nd) (es:List (Nat×Nat×Int)):Prop:=(∀e ∈ es,Ed N os (e.1:Int) (e.2.1:Int) e.2.2/\-1000<=e.2.2/\e.2.2<=1000)/\∀(u v:Nat) (w:Int),Ed N os u v w->(u=v/\w=0)\/(u,v,w) ∈ es
structure DS (N:Nat) (os:List Nd) (low:Nat) (B:Int) (d:List Int):Prop where
 len:d.length=N
 way:∀v,v<N->DB d v ≠ cK->(∃vs,Wl N os vs low v (DB d v))/\-B<=DB d v/\DB d v<=B
theorem jY {d:List Int} {v x:Nat} {z:Int} (hv:v<d.length):DB (d.set v z) x=if x=v then z else DB d x:=by
 unfold DB;rw[List.getD_eq_getElem?_getD,List.getD_eq_getElem?_getD,List.getElem?_set];split
 · rename_i h;subst h;rw[if_pos rfl];simp
 rename_i h;rw[if_neg (fun e=>h e.symm)]
theorem FP {low:Nat} {B:Int} {d:List Int} (h:DS N os low B d) {e:Nat×Nat×Int} (he:Ed N os (e.1:Int) (e.2.1:Int) e.2.2/\-1000<=e.2.2/\e.2.2<=1000) :
 DS N os low (B+1000) (vV d e.1 e.2.1 e.2.2)/\(∀v,v<N->DB d v<=DB (vV d e.1 e.2.1 e.2.2) v)/\(DB d e.1 ≠ cK->DB d e.1+e.2.2<=DB (vV d e.1 e.2.1 e.2.2) e.2.1):=by
 obtain⟨u,v,c⟩:=e;simp only at he ⊢;obtain⟨he,a3,a2⟩:=he;have hu:=he.src;have hv:=he.dst;have a1:∀x,x<N->DB d x=cK\/-B<=DB d x:=fun x hx=>by
  by_cases hn:DB d x=cK
  · exact .inl hn
  exact .inr (h.way x hx hn).2.1
 unfold vV;split
 rotate_left
 · rename_i hc
   refine⟨⟨h.len,fun x hx hn => ?_⟩,fun x hx=>Int.le_refl _,fun hn => ?_⟩
   · obtain⟨h1,h2,h3⟩:=h.way x hx hn;exact⟨h1,by omega,by omega⟩
   rcases Int.lt_or_le (DB d v) (DB d u+c) with h1 | h1
   · exact absurd ⟨hn,h1⟩ hc
   exact h1
 rename_i hc
 obtain⟨c1,c2⟩:DB d u ≠ cK/\DB d v<DB d u+c:=hc;obtain⟨⟨vs,hw⟩,b1,b2⟩:=h.way u aA c1;have a0:v<d.length:=by rw[h.len];omega
 refine⟨⟨by simp[h.len],fun x hx hn => ?_⟩,fun x hx => ?_,fun _ => ?_⟩
 · have hz:d.getD u cK=DB d u:=rfl;rw[hz] at hn ⊢;rw[jY a0] at hn ⊢;by_cases hxv:x=v
   · rw[if_pos hxv];subst hxv;exact⟨⟨_,hw.snoc he⟩,by omega,by omega⟩
   rw[if_neg hxv] at hn ⊢;obtain⟨h1,h2,h3⟩:=h.way x hx hn;exact⟨h1,by omega,by omega⟩
 · rw[jY a0];split
   · rename_i hxv
     subst hxv;exact Int.le_of_lt c2
   exact Int.le_refl _
 rw[jY a0,if_pos rfl];exact Int.le_refl _
theorem FW {low:Nat} : ∀(es:List (Nat×Nat×Int)) (B:Int) (d:List Int) (t:Bool),DS N os low B d->0<=B->B+1000*es.length<=900000000->(∀e ∈ es,Ed N os (e.1:Int) (e.2.1:Int) e.2.2/\-1000<=e.2.2/\e.2.2<=1000) →
 DS N os low (B+1000*es.length) (sB es d t).1/\(∀v,v<N->DB d v<=DB (sB es d t).1 v)/\(∀e ∈ es,DB d e.1 ≠ cK->DB d e.1+e.2.2<=DB (sB es d t).1 e.2.1)
 | [],B,d,t,h,_,_,_=>⟨by simpa[sB] using h,fun _ _=>Int.le_refl _,fun e he=>by cases he⟩
 | e::r,B,d,t,h,hB0,hB,hes=>by
  simp only[List.length_cons] at hB ⊢;obtain⟨r1,r2,r3⟩:=FP h (hes e aD);obtain⟨i1,i2,i3⟩:=FW r (B+1000) (vV d e.1 e.2.1 e.2.2) (t||uM d e.1 e.2.1 e.2.2) r1 aA aA (fun e he=>hes e (by simp[he]));simp only[sB];refine⟨by rw[show B+1000*((r.length+1:Nat):Int)=B+1000+1000*r.length from by omega];exact i1,fun v hv=>Int.le_trans (r2 v hv) (i2 v hv),fun e' a0 hn => ?_⟩;rcases List.mem_cons.1 a0 with rfl | a0
  · have hd:=(hes e' aD).1.dst;exact Int.le_trans (r3 hn) (i2 _ aA)
  · have hs:=(hes e' (by simp[a0])).1.src;have h1:=r2 e'.1 aA;have h2:DB (vV d e.1 e.2.1 e.2.2) e'.1 ≠ cK:=by
     have:=(h.way e'.1 aA hn).2.1;unfold cK;omega
    have:=i3 e' a0 h2;omega
theorem x7:∀(es:List (Nat×Nat×Int)) (d:List Int) (t:Bool),(sB es d t).2=false->t=false/\(sB es d t).1=d/\∀e ∈ es,DB d e.1 ≠ cK->DB d e.1+e.2.2<=DB d e.2.1
 | [],d,t,h=>⟨h,rfl,fun e he=>by cases he⟩
 | e::r,d,t,h=>by
  simp only[sB] at h ⊢;obtain⟨h1,h2,h3⟩:=x7 r _ _ h;rw[Bool.or_eq_false_iff] at h1;have a1:¬ (DB d e.1 ≠ cK/\DB d e.2.1<DB d e.1+e.2.2):=by
   have:=h1.2;unfold uM at this;rw[decide_eq_false_iff_not] at this;exact this
  have hr:vV d e.1 e.2.1 e.2.2=d:=by
   unfold vV;exact if_neg a1
  rw[hr] at h2 h3 ⊢;refine⟨h1.1,h2,fun e' a0 hn => ?_⟩;rcases List.mem_cons.1 a0 with rfl | a0
  · rcases Int.lt_or_le (DB d e'.2.1) (DB d e'.1+e'.2.2) with h4 | h4
    · exact absurd ⟨hn,h4⟩ a1
    exact h4
  · exact h3 e' a0 hn
theorem DG {low:Nat} {B:Int} {d0:List Int} (hdom:∀vs (v:Nat) (w:Int),v<N->Wl N os vs low v w->w<=DB d0 v) : ∀(es:List (Nat×Nat×Int)) (d:List Int),DS N os low B d->(∀v,v<N->DB d0 v<=DB d v)->(∀e ∈ es,Ed N os (e.1:Int) (e.2.1:Int) e.2.2)->(sB es d false).2=false
 | [],d,_,_,_=>rfl
 | e::r,d,h,hle,hes=>by
  have he:=hes e aD;have a0:¬ (DB d e.1 ≠ cK/\DB d e.2.1<DB d e.1+e.2.2):=fun⟨h1,h2⟩=>by
   have hs:=he.src;have hd:=he.dst;obtain⟨vs,hw⟩:=(h.way e.1 aA h1).1;have h3:=hdom _ e.2.1 _ aA (hw.snoc he);have h4:=hle e.2.1 aA;omega
  simp only[sB];have hr:vV d e.1 e.2.1 e.2.2=d:=by
   unfold vV;exact if_neg a0
  have ht:uM d e.1 e.2.1 e.2.2=false:=by
   unfold uM;exact decide_eq_false a0
  rw[hr,ht];exact DG hdom r d h hle (fun e he=>hes e (by simp[he]))
theorem BT {es:List (Nat×Nat×Int)} (hes:QJ N os es) {low:Nat} : ∀(r:Nat) (B:Int) (d d':List Int),DS N os low B d->0<=B->B+1000*es.length*r<=900000000->0<=DB d low->low<N->pM es r d=O d'->DS N os low (B+1000*es.length*r) d'/\0<=DB d' low/\∀e ∈ es,DB d' e.1 ≠ cK->DB d' e.1+e.2.2<=DB d' e.2.1
 | r+1,B,d,d',h,hB0,hB,h0,hl,hf=>by
  have hk:1000*(es.length:Int)*((r+1:Nat):Int)=1000*es.length*r+1000*es.length:=by push_cast;rw[Int.mul_add,Int.mul_one]
  have a0:(0:Int)<=1000*es.length*r:=Int.mul_nonneg aA aA;rw[hk] at hB ⊢;obtain⟨i1,i2,i3⟩:=FW es B d false h hB0 aA hes.1;simp only[pM] at hf;split at hf
  · obtain⟨j1,j2,j3⟩:=BT hes r (B+1000*es.length) _ d' i1 aA aA (Int.le_trans h0 (i2 low hl)) hl hf;refine⟨?_,j2,j3⟩;rw[show B+(1000*(es.length:Int)*r+1000*es.length)=B+1000*es.length+1000*es.length*r from by omega];exact j1
  · rename_i ht
    have ht:(sB es d false).2=false:=by simpa using ht
    obtain⟨_,k2,k3⟩:=x7 es d false ht;injection hf with hf;rw[k2] at hf i1;subst hf;refine⟨⟨i1.len,fun v hv hn => ?_⟩,h0,k3⟩;obtain⟨a1,a2,a3⟩:=i1.way v hv hn;exact⟨a1,by omega,by omega⟩
theorem BS (hp:¬ P3 N os) {es:List (Nat×Nat×Int)} (hes:QJ N os es) {low:Nat} : ∀(r k:Nat) (B:Int) (d:List Int),DS N os low B d->0<=B->B+1000*es.length*r<=900000000->(∀vs (v:Nat) (w:Int),v<N->Wl N os vs low v w->vs.length<=k+1->w<=DB d v/\DB d v ≠ cK)->N<=k+r->pM es (r+1) d ≠ none
 | r,k,B,d,h,hB0,hB,hdom,hN=>by
  have a4:(0:Int)<=1000*es.length*r:=Int.mul_nonneg aA aA;simp only[pM];split
  · rename_i ht
    match r,hB,hN,a4 with
    | 0,_,hN,_ =>
     have a0:∀vs (v:Nat) (w:Int),v<N->Wl N os vs low v w->w<=DB d v:=fun vs v w hv hw=>by
      obtain⟨vs',w',h1,h2,h3⟩:=hw.short hp;have h4:=q9 N vs' h2 h1.all;have:=(hdom vs' v w' hv h1 aA).1;omega
     have:=DG a0 es d h (fun _ _=>Int.le_refl _) (fun e he=>(hes.1 e he).1);rw[this] at ht;cases ht
    | r+1,hB,hN,a4 =>
     have hk:1000*(es.length:Int)*((r+1:Nat):Int)=1000*es.length*r+1000*es.length:=by push_cast;rw[Int.mul_add,Int.mul_one]
     have a5:(0:Int)<=1000*es.length*r:=Int.mul_nonneg aA aA;rw[hk] at hB;obtain⟨i1,i2,i3⟩:=FW es B d false h hB0 aA hes.1;refine BS hp hes r (k+1) (B+1000*es.length) _ i1 aA aA (fun vs v w hv hw hl => ?_) aA;have a3:∀x:Nat,x<N->DB d x ≠ cK->DB (sB es d false).1 x ≠ cK:=fun x hx hn=>by
      have a1:=(h.way x hx hn).2.1;have a2:=i2 x hx;unfold cK;omega
     rcases hw.last with⟨h1,h2,h3⟩ | ⟨vs',y,w',c,h1,h2,h3,h4⟩
     · have:=hdom vs v w hv hw aA;exact⟨Int.le_trans this.1 (i2 v hv),a3 v hv this.2⟩
     · have hy:=h2.src;obtain⟨z,rfl⟩ : ∃z:Nat,y=z:=⟨y.toNat,by omega⟩;have hd:=hdom vs' z w' aA h1 aA;rcases hes.2 z v c h2 with⟨e1,e2⟩ | e1
       · subst e1 e2;exact⟨by have:=i2 z hv;omega,a3 z hv hd.2⟩
       have:=i3 _ e1 hd.2;simp only at this;refine⟨by omega,?_⟩;have a1:=(h.way z aA hd.2).2.1;have a2:=(hes.1 _ e1).2.1;simp only at a2;unfold cK;omega
  · simp
theorem OW (hv:∀o ∈ os,jK ((N:Int)-1) o=false):QJ N os (lS N os):=by
 refine⟨fun e he => ?_,fun u v w he => ?_⟩
 · unfold lS at he;rw[List.mem_append,List.mem_map,List.mem_map] at he;rcases he with⟨x,hx,rfl⟩ | ⟨o,ho,rfl⟩
   · rw[List.mem_range] at hx;have h2:Ed N os ((0:Nat):Int) ((x:Nat):Int) 0:=⟨by omega,.inr (.inl ⟨rfl,rfl⟩)⟩;exact⟨h2,show (-1000:Int)<=0 by decide,show (0:Int)<=1000 by decide⟩
   have:=DY (hv o ho);simp only;refine⟨⟨by omega,.inr (.inr ⟨o,ho,by omega,by omega,rfl⟩)⟩,by omega,by omega⟩
 obtain⟨h1,h2⟩:=he;unfold lS;rw[List.mem_append,List.mem_map,List.mem_map];rcases h2 with⟨h2,h3⟩ | ⟨h2,h3⟩ | ⟨o,ho,h2,h3,h4⟩
 · exact .inl ⟨by omega,h3⟩
 · refine .inr (.inl ⟨v,by rw[List.mem_range];omega,?_⟩);rw[h3];simp;omega
 refine .inr (.inr ⟨o,ho,?_⟩);rw[h2,h3,h4];simp
theorem LE (hN:0<N) (hN2:N<=17) (hl:os.length<=64) (hv:∀o ∈ os,jK ((N:Int)-1) o=false):(∀low,low<N->pM (lS N os) (N+1) (mO N low) ≠ none) ↔ ¬ P3 N os:=by
 have a6:=OW hv;have a9:(lS N os).length<=81:=by unfold lS;simp;omega
 have a4:∀low,low<N->DS N os low 0 (mO N low)/\DB (mO N low) low=0:=fun low a0=>by
  have a7:low<(List.replicate N cK).length:=by simpa using a0
  refine⟨⟨by simp[mO],fun v hv hn => ?_⟩,?_⟩
  · unfold mO at hn ⊢;rw[jY a7] at hn ⊢;by_cases a5:v=low
    · subst a5;rw[if_pos rfl];exact⟨⟨_,.one aA aA⟩,by omega,by omega⟩
    rw[if_neg a5] at hn;exact absurd (by unfold DB;rw[List.getD_eq_getElem?_getD,List.getElem?_replicate];split<;>rfl) hn
  unfold mO;rw[jY a7,if_pos rfl]
 constructor
 · intro h ⟨u,w,hw,h0⟩;have he:=hw.ends;obtain⟨low,rfl⟩ : ∃z:Nat,u=z:=⟨u.toNat,by omega⟩;have a0:low<N:=aA;obtain⟨i1,i2⟩:=a4 low a0;cases hf:pM (lS N os) (N+1) (mO N low) with
   | none=>exact h low a0 hf
   | some d' =>
    have hb:(1000*((lS N os).length:Int)*((N+1:Nat):Int))<=1000*81*18:=by
     refine Int.le_trans (Int.mul_le_mul_of_nonneg_right (show 1000*((lS N os).length:Int)<=1000*81 by omega) aA) ?_;omega
    obtain⟨j1,j2,j3⟩:=BT a6 (N+1) 0 _ d' i1 aA aA aA a0 hf;have key:∀{m u v w:Int},Wi N os m u v w->DB d' u.toNat ≠ cK->DB d' v.toNat ≠ cK/\DB d' u.toNat+w<=DB d' v.toNat:=by
     have a3:∀{u v c:Int},Ed N os u v c->DB d' u.toNat ≠ cK->DB d' v.toNat ≠ cK/\DB d' u.toNat+c<=DB d' v.toNat:=fun {u v c} he hn=>by
      have hs:=he.src;have hd:=he.dst;have a8:Ed N os ((u.toNat:Nat):Int) ((v.toNat:Nat):Int) c:=by
       rw[show ((u.toNat:Nat):Int)=u from by omega,show ((v.toNat:Nat):Int)=v from by omega];exact he
      rcases a6.2 _ _ _ a8 with⟨e1,e2⟩ | e1
      · rw[<-e1,e2];exact⟨hn,by omega⟩
      have h1:=j3 _ e1 hn;simp only at h1;have a1:=(j1.way u.toNat aA hn).2.1;have a2:=(a6.1 _ e1).2.1;simp only at a2;refine⟨?_,h1⟩;unfold cK;omega
     intro m u v w hw
     induction hw with
     | edge he=>exact a3 he
     | cons he _ _ ih =>
      intro hn;obtain⟨h1,h2⟩:=a3 he hn;obtain⟨h3,h4⟩:=ih h1;exact⟨h3,by omega⟩
    have:=(key hw (by rw[Int.toNat_natCast];unfold cK;omega)).2;omega
 intro hp low a0;obtain⟨i1,i2⟩:=a4 low a0;have hb:(1000*((lS N os).length:Int)*(N:Int))<=1000*81*17:=by
  refine Int.le_trans (Int.mul_le_mul_of_nonneg_right (show 1000*((lS N os).length:Int)<=1000*81 by omega) aA) ?_;omega
 refine BS hp a6 N 0 0 _ i1 aA aA (fun vs v w hv hw hl => ?_) aA;rcases hw.last with⟨h1,h2,h3⟩ | ⟨vs',y,w',c,h1,h2,h3,h4⟩
 · have a5:v=low:=aA;subst a5;rw[i2,h3];exact⟨by omega,by unfold cK;omega⟩
 obtain⟨r,hr⟩:=h1.head;rw[hr] at h4;simp at h4;omega
end
end
end Go.Proofs.YtjoddliplahgkaaGreat
