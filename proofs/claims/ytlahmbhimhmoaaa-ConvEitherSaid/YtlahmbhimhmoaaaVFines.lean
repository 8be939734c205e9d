/- Merged: Heads, Match, FineS, FineL, FineT, FineX, Fines. -/
import Derived.Test.YtlahmbhimhmoaaaVEnds
import Derived.Test.YtlahmbhimhmoaaaVShort2
namespace Go.Proofs.Ytlahmbhimhmoaaa
set_option linter.unusedVariables false
set_option linter.unusedSimpArgs false
open Go.RowKit
section
abbrev TT:=Nd×List Nd×Fo
def aT(x:TT):List Nd:=x.1::(x.2.1++row x.2.2)
def JA(x:TT):Prop:=Rt (aT x) x.1 x.2.1 x.2.2
def hd:Nat->TT->TT×List TT
 | m+1,(n,a,.cons p n1 a1 k1 (.cons q n2 a2 k2 r))=>if n.op=6 then ((hd m (n1,a1,k1)).1,(hd m (n1,a1,k1)).2++[(n2,a2,k2)]) else ((n,a,.cons p n1 a1 k1 (.cons q n2 a2 k2 r)),[])
 | _,x=>(x,[])
theorem GZ{m:Nat}{x:TT}(h:x.1.op≠6):hd m x=(x,[]):=by
 obtain⟨n,a,k⟩:=x;cases m with
 | zero=>rfl
 | succ m =>
  match k with
  | .nil=>rfl
  | .cons _ _ _ _ .nil=>rfl
  | .cons _ n1 a1 k1 (.cons _ n2 a2 k2 x)=>simp only[hd];rw[aN h]
theorem vB:(Try.prog.info? 29).map (fun i=>(i.zero,i.size,i.bytes))=some (some (.slice none 0 0),1,24):=by kernel_rfl
def IY:Value->Nat
 | .slice _ n _=>n
 | _=>0
def KJ(D:List Int)(v:Int):Int:=if (D.length:Int)<=v then 0 else D.getD (D.length-1-v.toNat) 0
def KH(D:List Int)(x:TT):Bool:=(hd (aT x).length x).1.1.op==1&&KJ D (hd (aT x).length x).1.1.a==2
def e8(b:Bool)(w:OE)(e:Ending)(w':OE):Prop:=e=.returned (.bool b)/\OB w w'
def a9:Fo->List TT
 | .nil=>[]
 | .cons _ n a k x=>(n,a,k)::a9 x
def zN(D:List Int->TT->Bool):Nat->List Int->TT->Bool
 | 0,zs,y=>D zs y
 | n+1,zs,(nd,a,.cons p n1 a1 k1 (.cons q n2 a2 k2 r))=>if nd.op=5 then D zs (n1,a1,k1)&&zN D n (zs++[2]) (n2,a2,k2) else D zs (nd,a,.cons p n1 a1 k1 (.cons q n2 a2 k2 r))
 | _+1,zs,y=>D zs y
def KC(D:List Int)(x:TT):Bool :=
 let q:=hd (aT x).length x
 let m:=if q.1.1.op=1 then KJ D q.1.1.a else 0
 m==2||(m==1&&q.2.isEmpty)
def rF(D:List Int->TT->Bool)(F:Nat->Nat)(G:List Int):Nat->List TT->Bool
 | _,[]=>true
 | k,y::ys=>zN D (F k) G y&&rF D F G (k+1) ys
def E5(D:List Int->TT->Bool)(F G:List Int):List TT->Bool
 | ty::bd::r=>D F ty&&(D G bd&&E5 D F G r)
 | _=>true
def jI(D:List Int)(F:Int->Nat->Nat):Nat->List Int->TT->Bool
 | 0,_,_=>true
 | f+1,zs,x =>
  let q:=hd (aT x).length x
  let n:=q.1.1
  q.2.all (jI D F f zs) &&
  (if n.op=1 then (if KJ zs n.a<100 then true else (match q.2[(D.getD (KJ zs n.a-100).toNat 0).toNat]? with|some y=>KH zs y|none=>false))
   else if n.op=11 then (match a9 q.1.2.2 with
    | mo::sc::br=>(jI D F f zs mo&&jI D F f zs sc)&&rF (jI D F f) (fun k=>if KC zs sc then F n.a k else 0) zs 0 br
    | _=>true)
   else if n.op=4\/n.op=5 then (match a9 q.1.2.2 with
    | a::b::_=>jI D F f zs a&&jI D F f (zs++[0]) b
    | _=>true)
   else if n.op=7 then (match a9 q.1.2.2 with
    | a::b::c::_=>(jI D F f zs a&&jI D F f zs b)&&jI D F f (zs++[0]) c
    | _=>true)
   else if n.op=12 then E5 (jI D F f) zs (zs++List.replicate n.b.toNat 0) (a9 q.1.2.2)
   else true)


def FQ:Nat->TT->Bool
 | 0,(n,_,.cons _ n1 a1 k1 (.cons _ _ _ _ _))=>if n.op=4 then (hd (aT (n1,a1,k1)).length (n1,a1,k1)).1.1.op==9 else false
 | p+1,(n,_,.cons _ _ _ _ (.cons _ n2 a2 k2 _))=>if n.op=4 then FQ p (n2,a2,k2) else false
 | _,_=>false
def IT(D:List Int->TT->Bool):Nat->List Int->TT->Bool
 | 0,zs,y=>D zs y
 | r+1,zs,(n,_,.cons _ n1 a1 k1 (.cons _ n2 a2 k2 _))=>if n.op=5 then D zs (n1,a1,k1)&&IT D r (zs++[if r=0 then 1 else 0]) (n2,a2,k2) else false
 | _+1,_,_=>false
structure At (t:List Nd) (p:Nat) (dl:List Bool) (F:Fo):Prop where
 wf:Wf dl F
 few:t.length<=4096
 le:p<=t.length
 rest:t.drop p=row F
structure LU (t:List Nd) (p:Nat) (d:Bool) (dr:List Bool) (pre:List Nd) (y:TT) (nx:Fo):Prop where
 plen:pre.length=if d then 1 else 0
 fun_:d=true->∃f,pre=[f]/\yG f=true/\bB t p=f
 rt:JA y
 end_:jH t ((p+pre.length:Nat):Int)=((p+pre.length+(aT y).length:Nat):Int)
 cut:(t.take (p+pre.length+(aT y).length)).drop (p+pre.length)=aT y
 le:p+pre.length+(aT y).length<=t.length
 next:At t (p+pre.length+(aT y).length) dr nx
theorem At.first{n:Nd}{a:List Nd}{k:Fo}(h:JA (n,a,k))(G:n.op≠2):At (aT (n,a,k)) 1 (ds n) k:=by
 obtain⟨_,D,F⟩:=Rt.wf h;simp only at D F;have ha:a=[]:=by
  unfold gI at D
  rwa [aN G]at D
 subst ha;exact⟨F,Rt.few h,by simp[aT],by simp[aT]⟩
theorem qW{t:List Nd}{p:Nat}{f:Nd}{r:List Nd}(h:t.drop p=f::r):bB t p=f:=by
 have:bB (t.drop p) 0=f:=by rw[h];rfl
 rwa [jN,MQ]at this
theorem At.step{t:List Nd}{p:Nat}{d:Bool}{dr:List Bool}{F:Fo}(h:At t p (d::dr) F):∃D n a k nx,F=.cons D n a k nx/\LU t p d dr D (n,a,k) nx:=by
 obtain⟨z,o,a1,hr⟩:=h
 match F,z with
 | .cons D n a k nx,z =>
  obtain⟨Y,U,O,hk,hx⟩:=z;refine⟨D,n,a,k,nx,rfl,?_⟩;have G:t.drop p=D++(aT (n,a,k)++row nx):=by rw[hr];simp[row,aT]
  have hl:=congrArg List.length G;rw[NC,MG,MG]at hl;have I:t.drop (p+D.length)=aT (n,a,k)++row nx:=by rw[<-List.drop_drop,G,List.drop_left]
  have Z:t.drop (p+D.length+(aT (n,a,k)).length)=row nx:=by rw[<-List.drop_drop,I,List.drop_left]
  have a0:0<(aT (n,a,k)).length:=by simp[aT]
  refine⟨?_,?_,?_,?_,?_,by omega,⟨hx,o,by omega,Z⟩⟩
  . cases d with
    | false=>simp only at Y;subst Y;rfl
    | true=>obtain⟨f,rfl,_⟩:=Y;rfl
  . rintro rfl;obtain⟨f,rfl,o⟩:=Y;exact⟨f,rfl,o,qW G⟩
  . exact oG U O hk (by show (aT (n,a,k)).length<=4096;omega)
  . rw[kZ];have s:=iM (.cons [] n a k .nil) [false] (row nx) ⟨rfl,U,O,hk,trivial⟩;unfold ends;rw[I,show aT (n,a,k)=row (.cons [] n a k .nil) from by simp[row,aT],s];simp only[Option.map_some,mO];have e:(row (Fo.cons [] n a k .nil)).length=(aT (n,a,k)).length:=by simp[row,aT]
    rw[e]
    congr 1
    omega
  . rw[List.drop_take,I,show p+D.length+(aT (n,a,k)).length-(p+D.length)=(aT (n,a,k)).length from by omega,List.take_left]
theorem At.done{t:List Nd}{p:Nat}{F:Fo}(h:At t p [] F):F=.nil:=by
 obtain⟨D,_⟩:=h
 match F,D with
 | .nil,_=>rfl
end




def F6:Nat->List Bool
 | 0=>[]
 | r+1=>true::false::F6 r
theorem uP:∀r:Nat,(List.replicate r [true,false]).flatten=F6 r
 | 0=>rfl
 | r+1=>by rw[List.replicate_succ,NS,uP r];rfl
theorem D9{n:Nd}{nb:Nat}(h:n.op=12)(D:n.b=(nb:Int)):ds n=F6 nb:=by
 unfold ds;rw[LZ h,D,NA,uP]
theorem kV:∀(r:Nat){t:List Nd}{p:Nat}{F:Fo},At t p (F6 r) F->p+3*r<=t.length
 | 0,t,p,F,h=>by have:=h.le;omega
 | r+1,t,p,F,h=>by
  obtain⟨D,n1,a1,k1,U,rfl,I⟩:=h.step;obtain⟨G,n2,a2,k2,Y,rfl,O⟩:=I.next.step;have s:=kV r O.next;have Z:D.length=1:=I.plen;have o:G.length=0:=O.plen;have z:0<(aT (n1,a1,k1)).length:=by simp[aT]
  have l2:0<(aT (n2,a2,k2)).length:=by simp[aT]
  omega
section

def KR:List TT->List TT
 | a::_::r=>a::KR r
 | _=>[]
def KB:List TT->List TT
 | _::b::r=>b::KB r
 | _=>[]
def EP(D:List Int->TT->Bool)(F:List Int):List Int->List TT->List TT->Bool
 | p::pl,t::ts,b::bs=>(FQ p.toNat t&&IT D (p.toNat+1) F b)&&EP D F pl ts bs
 | _,_,_=>true
def fO(k:Fo):List Int:=(iN k).map (·.a)
def JS(n:Nat):List Int:=(List.range n).map fun j:Nat=>(100:Int)+(j:Int)
def JQ(D:Int->Nat->Nat)(m:Nat)(x:TT):Bool :=
 EP (jI (fO x.2.2) D m) (JS x.1.b.toNat) (fO x.2.2) (KR (a9 x.2.2)) (KB (a9 x.2.2))
def iT(e:Int)(w:OE)(en:Ending)(w':OE):Prop:=en=.returned (.int .i64 e)/\OB w w'
theorem AH:∀{k:Fo} {y:TT},y∈a9 k->∀m∈aT y,m∈row k
 | .nil,y,h,_,_=>by cases h
 | .cons p n a k x,y,h,m,hm=>by
  rw[show a9 (.cons p n a k x)=(n,a,k)::a9 x from rfl]at h;simp only[row];rcases MU.1 h with rfl|h
  . simp only[aT,MU,MW]at hm ⊢;rcases hm with rfl|hm|hm
    . exact .inr (.inl rfl)
    . exact .inr (.inr (.inl hm))
    exact .inr (.inr (.inr (.inl hm)))
  . have:=AH h m hm;simp only[MU,MW];exact .inr (.inr (.inr (.inr this)))
abbrev tX(w:OE)(base:Nat)(A:OC)(n c:Nat)(zs:List Int):Prop:=w.ownsRow base 3 1 (.slice A n c) n (zs.map (Value.int .i64))
theorem IW:(Try.prog.info? 3).map (fun i=>(i.zero,i.size,i.bytes))=some (some (.int .i64 0),1,8):=by kernel_rfl
theorem tX.ints{w:OE}{base n c:Nat}{A:OC}{F:List Int}(h:tX w base A n c F)(Y:n<=5864062014805):tU (· < w.heap.size) w A n c F:=by
 have Z:F.length=n:=by have:=h.1;simpa using this
 refine⟨Z,Y,fun I=>?_⟩;have G:=h;obtain⟨_,D⟩:=h;rcases D with⟨_,z⟩|⟨g,cap',O,hv,hg,hh,_⟩
 . omega
 injection hv with U o s;subst U;refine⟨g,0,rfl,(aV G rfl).2.1,fun k hk=>?_⟩;rw[ML,G.cellAt k aA];have:k<F.length:=aA;simp[MI this]
end
end Go.Proofs.Ytlahmbhimhmoaaa
