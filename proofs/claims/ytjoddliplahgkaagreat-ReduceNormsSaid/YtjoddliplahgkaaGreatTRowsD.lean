/- Merged: TermL, Heads, Match, FineS, FineL, FineT, FineX, Fines, RowsD. -/
import Derived.Test.YtjoddliplahgkaaGreatTEnds
namespace Go.Proofs.YtjoddliplahgkaaGreat
set_option linter.unusedVariables false
set_option linter.unusedSimpArgs false
open Go.RowKit
variable {c n:Nat}{S:Nat->Prop}{A:ZZ}{w:aAB}
def AK(up fr:Int)(n:Nd)(a:Int):Nd:=if n.op=1/\fr+a<=n.a then ⟨n.op,n.a+up,n.b⟩ else n
def uM(up fr:Int)(D F:Int):Nat->Int->Fo->Fo
 | _,_,.nil=>.nil
 | j,a,.cons p n ats k x=>.cons p (AK up fr n (a+aR D F j)) ats (uM up fr n.op n.b 0 (a+aR D F j) k) (uM up fr D F (j+1) a x)
theorem rM(up fr:Int)(n:Nd)(a:Int):(AK up fr n a).op=n.op/\(AK up fr n a).b=n.b:=by unfold AK;split<;>exact⟨rfl,rfl⟩
theorem QH(up fr:Int)(n:Nd)(a:Int):(jT up fr).em () n a=[AK up fr n a]:=by
 simp only[jT,AK];split<;>rfl
theorem uZ(up fr:Int)(D G:Int):∀(j:Nat)(a:Int)(F:Fo),(jT up fr).E D G j a () F=row (uM up fr D G j a F)
 | _,_,.nil=>rfl
 | j,a,.cons p n ats k x=>by
  have e:∀s:Unit,s=():=fun _=>rfl;rw[cZ.E_cons,cZ.E1,QH,e ((jT up fr).nx () n (a+aR D G j)),e ((jT up fr).S1 (a+aR D G j) () n k),uZ up fr _ _ _ _ k,uZ up fr D G (j+1) a x];simp[uM,row]
theorem FD(up fr:Int)(a:Int)(n:Nd)(D:List Nd)(k:Fo):(jT up fr).E1 a () n D k=AK up fr n a::(D++row (uM up fr n.op n.b 0 a k)):=by
 have e:∀s:Unit,s=():=fun _=>rfl;rw[cZ.E1,QH,e ((jT up fr).nx () n a),uZ];rfl
theorem QF{up fr:Int}{n:Nd}{a:Int}(D:eW n=true)(U:0<=up)(O:(jT up fr).ok () n a=true):eW (AK up fr n a)=true:=by
 unfold AK;split
 . rename_i h
   simp only[jT,XP h,YJ]at O;simp only[eW,YC,YJ]at D ⊢;obtain⟨⟨F,G⟩,I⟩:=D;refine⟨⟨?_,G⟩,I⟩;rw[h.1]at F ⊢;simp only[cD,if_true,YJ]at F ⊢;omega
 exact D
theorem I8{up fr:Int}(Y:0<=up)(D I:Int):∀(F:Fo)(dl:List Bool)(j:Nat)(a:Int),Wf dl F->(jT up fr).G D I j a () F=true->Wf dl (uM up fr D I j a F)
 | .nil,[],_,_,_,_=>trivial
 | .nil,_::_,_,_,h,_=>h.elim
 | .cons _ _ _ _ _,[],_,_,h,_=>h.elim
 | .cons p n ats k x,d::dr,j,a,h,hg=>by
  obtain⟨hp,a0,O,hk,hx⟩:=h;rw[cZ.G_cons,cZ.G1,YC,YC]at hg;obtain⟨⟨o,s⟩,z⟩:=hg;have U:=rM up fr n (a+aR D I j);have Z:ds (AK up fr n (a+aR D I j))=ds n:=by simp only[ds,U.1,U.2]
  refine⟨hp,QF a0 Y o,?_,?_,I8 Y D I x dr (j+1) a hx z⟩
  . unfold iU at O ⊢;rw[U.1,U.2];exact O
  . rw[Z];exact I8 Y n.op n.b k (ds n) 0 (a+aR D I j) hk s
section
abbrev TT:=Nd×List Nd×Fo
def aW(x:TT):List Nd:=x.1::(x.2.1++row x.2.2)
def LV(x:TT):Prop:=Rt (aW x) x.1 x.2.1 x.2.2
def hd:Nat->TT->TT×List TT
 | m+1,(n,a,.cons p n1 a1 k1 (.cons q n2 a2 k2 r))=>if n.op=6 then ((hd m (n1,a1,k1)).1,(hd m (n1,a1,k1)).2++[(n2,a2,k2)]) else ((n,a,.cons p n1 a1 k1 (.cons q n2 a2 k2 r)),[])
 | _,x=>(x,[])
theorem SU{m:Nat}{x:TT}(h:x.1.op≠6):hd m x=(x,[]):=by
 obtain⟨n,a,k⟩:=x;cases m with
 | zero=>rfl
 | succ m =>
  match k with
  | .nil=>rfl
  | .cons _ _ _ _ .nil=>rfl
  | .cons _ n1 a1 k1 (.cons _ n2 a2 k2 x)=>simp only[hd];rw[XN h]
theorem v5:(Tryz.prog.info? 29).map (fun i=>(i.zero,i.size,i.bytes))=some (some (.slice none 0 0),1,24):=by kernel_rfl
def zZ:Value->Nat
 | .slice _ n _=>n
 | _=>0
def V5(D:List Int)(v:Int):Int:=if (D.length:Int)<=v then 0 else D.getD (D.length-1-v.toNat) 0
def V4(D:List Int)(x:TT):Bool:=(hd (aW x).length x).1.1.op==1&&V5 D (hd (aW x).length x).1.1.a==2
def gT(b:Bool)(w:aAB)(e:Ending)(w':aAB):Prop:=e=.returned (.bool b)/\ZY w w'
def bH:Fo->List TT
 | .nil=>[]
 | .cons _ n a k x=>(n,a,k)::bH x
def KC(D:List Int->TT->Bool):Nat->List Int->TT->Bool
 | 0,zs,y=>D zs y
 | n+1,zs,(nd,a,.cons p n1 a1 k1 (.cons q n2 a2 k2 r))=>if nd.op=5 then D zs (n1,a1,k1)&&KC D n (zs++[2]) (n2,a2,k2) else D zs (nd,a,.cons p n1 a1 k1 (.cons q n2 a2 k2 r))
 | _+1,zs,y=>D zs y
def VX(D:List Int)(x:TT):Bool :=
 let q:=hd (aW x).length x
 let m:=if q.1.1.op=1 then V5 D q.1.1.a else 0
 m==2||(m==1&&q.2.isEmpty)
def zJ(D:List Int->TT->Bool)(ca:Nat->Nat)(F:List Int):Nat->List TT->Bool
 | _,[]=>true
 | k,y::ys=>KC D (ca k) F y&&zJ D ca F (k+1) ys
def QA(D:List Int->TT->Bool)(F G:List Int):List TT->Bool
 | ty::bd::r=>D F ty&&(D G bd&&QA D F G r)
 | _=>true
def nP(D:List Int)(ca:Int->Nat->Nat):Nat->List Int->TT->Bool
 | 0,_,_=>true
 | f+1,zs,x =>
  let q:=hd (aW x).length x
  let n:=q.1.1
  q.2.all (nP D ca f zs) &&
  (if n.op=1 then (if V5 zs n.a<100 then true else (match q.2[(D.getD (V5 zs n.a-100).toNat 0).toNat]? with|some y=>V4 zs y|none=>false))
   else if n.op=11 then (match bH q.1.2.2 with
    | mo::sc::br=>(nP D ca f zs mo&&nP D ca f zs sc)&&zJ (nP D ca f) (fun k=>if VX zs sc then ca n.a k else 0) zs 0 br
    | _=>true)
   else if n.op=4\/n.op=5 then (match bH q.1.2.2 with
    | a::b::_=>nP D ca f zs a&&nP D ca f (zs++[0]) b
    | _=>true)
   else if n.op=7 then (match bH q.1.2.2 with
    | a::b::c::_=>(nP D ca f zs a&&nP D ca f zs b)&&nP D ca f (zs++[0]) c
    | _=>true)
   else if n.op=12 then QA (nP D ca f) zs (zs++List.replicate n.b.toNat 0) (bH q.1.2.2)
   else true)

structure WQ (t:List Nd) (n:Nd) (x y:TT):Prop where
 fst:LV x
 snd:LV y
 eq:t=n::(aW x++aW y)
 end_:nH t 1=((1+(aW x).length:Nat):Int)
theorem N9{n:Nd}{a:List Nd}{k:Fo}(h:LV (n,a,k))(F:n.op=4\/n.op=5\/n.op=6):∃n1 a1 k1 n2 a2 k2,k=.cons [] n1 a1 k1 (.cons [] n2 a2 k2 .nil)/\a=[]/\WQ (aW (n,a,k)) n (n1,a1,k1) (n2,a2,k2):=by
 obtain⟨o,D,O⟩:=Rt.wf h;simp only at o D O;have ha:a=[]:=by
  unfold iU at D
  rwa [XN aA]at D
 have Z:ds n=[false,false]:=by
  unfold ds;rw[XN aA];rcases F with F|F|F<;>rw[F]<;>rfl
 rw[Z]at O
 match k,O with
 | .cons p1 n1 a1 k1 (.cons p2 n2 a2 k2 .nil),O =>
  obtain⟨G,z,t1,w1,I,o2,t2,w2,_⟩:=O;simp only at G I;subst G I ha;have Y:aW (n,[],Fo.cons [] n1 a1 k1 (.cons [] n2 a2 k2 .nil))=n::(aW (n1,a1,k1)++aW (n2,a2,k2)):=by simp[row,aW]
  have U:=Rt.few h;rw[Y]at U;simp only[YA,XX]at U;have f1:LV (n1,a1,k1):=pG z t1 w1 (by show (n1::(a1++row k1)).length<=4096;simp only[aW]at U;omega);have f2:LV (n2,a2,k2):=pG o2 t2 w2 (by show (n2::(a2++row k2)).length<=4096;simp only[aW]at U;omega);refine⟨n1,a1,k1,n2,a2,k2,rfl,rfl,f1,f2,Y,?_⟩;have he:=nN (aW (n,[],Fo.cons [] n1 a1 k1 (.cons [] n2 a2 k2 .nil))) 1;rw[show ((1:Nat):Int)=1 from rfl]at he;rw[he];have s:=kV (.cons [] n1 a1 k1 .nil) [false] (aW (n2,a2,k2)) ⟨rfl,z,t1,w1,trivial⟩;have hd:(aW (n,[],Fo.cons [] n1 a1 k1 (.cons [] n2 a2 k2 .nil))).drop 1=row (.cons [] n1 a1 k1 .nil)++aW (n2,a2,k2):=by rw[Y];simp[row,aW]
  unfold ends;rw[hd,s];simp only[Option.map_some,rE];rw[Y];simp only[YA,XX];omega
theorem CV{base:Nat}{e:TypeId}{z:Nat}{I:List Value}(h:w.ownsRow base e z (.slice A n c) n I):A=none->c=0:=by
 intro G;rcases h.2 with⟨hv,_⟩|⟨g,cap,F,hv,_⟩
 . injection hv
 injection hv with D;rw[G]at D;cases D
def Q6:Nat->TT->Bool
 | 0,(n,_,.cons _ n1 a1 k1 (.cons _ _ _ _ _))=>if n.op=4 then (hd (aW (n1,a1,k1)).length (n1,a1,k1)).1.1.op==9 else false
 | p+1,(n,_,.cons _ _ _ _ (.cons _ n2 a2 k2 _))=>if n.op=4 then Q6 p (n2,a2,k2) else false
 | _,_=>false
def T3(D:List Int->TT->Bool):Nat->List Int->TT->Bool
 | 0,zs,y=>D zs y
 | r+1,zs,(n,_,.cons _ n1 a1 k1 (.cons _ n2 a2 k2 _))=>if n.op=5 then D zs (n1,a1,k1)&&T3 D r (zs++[if r=0 then 1 else 0]) (n2,a2,k2) else false
 | _+1,_,_=>false
structure At (t:List Nd) (p:Nat) (dl:List Bool) (F:Fo):Prop where
 wf:Wf dl F
 few:t.length<=4096
 le:p<=t.length
 rest:t.drop p=row F
structure XK (t:List Nd) (p:Nat) (d:Bool) (dr:List Bool) (pre:List Nd) (y:TT) (nx:Fo):Prop where
 plen:pre.length=if d then 1 else 0
 fun_:d=true->∃f,pre=[f]/\yM f=true/\bC t p=f
 rt:LV y
 end_:nH t ((p+pre.length:Nat):Int)=((p+pre.length+(aW y).length:Nat):Int)
 cut:(t.take (p+pre.length+(aW y).length)).drop (p+pre.length)=aW y
 le:p+pre.length+(aW y).length<=t.length
 next:At t (p+pre.length+(aW y).length) dr nx
theorem At.first{n:Nd}{a:List Nd}{k:Fo}(h:LV (n,a,k))(G:n.op≠2):At (aW (n,a,k)) 1 (ds n) k:=by
 obtain⟨_,D,F⟩:=Rt.wf h;simp only at D F;have ha:a=[]:=by
  unfold iU at D
  rwa [XN G]at D
 subst ha;exact⟨F,Rt.few h,by simp[aW],by simp[aW]⟩
theorem yS{t:List Nd}{p:Nat}{f:Nd}{r:List Nd}(h:t.drop p=f::r):bC t p=f:=by
 have:bC (t.drop p) 0=f:=by rw[h];rfl
 rwa [nZ,YF]at this
theorem At.step{t:List Nd}{p:Nat}{d:Bool}{z:List Bool}{F:Fo}(h:At t p (d::z) F):∃pre n a k nx,F=.cons pre n a k nx/\XK t p d z pre (n,a,k) nx:=by
 obtain⟨s,Z,a1,hr⟩:=h
 match F,s with
 | .cons pre n a k nx,s =>
  obtain⟨U,O,I,hk,hx⟩:=s;refine⟨pre,n,a,k,nx,rfl,?_⟩;have D:t.drop p=pre++(aW (n,a,k)++row nx):=by rw[hr];simp[row,aW]
  have hl:=congrArg List.length D;rw[YS,XX,XX]at hl;have G:t.drop (p+pre.length)=aW (n,a,k)++row nx:=by rw[<-List.drop_drop,D,List.drop_left]
  have Y:t.drop (p+pre.length+(aW (n,a,k)).length)=row nx:=by rw[<-List.drop_drop,G,List.drop_left]
  have a0:0<(aW (n,a,k)).length:=by simp[aW]
  refine⟨?_,?_,?_,?_,?_,by omega,⟨hx,Z,by omega,Y⟩⟩
  . cases d with
    | false=>simp only at U;subst U;rfl
    | true=>obtain⟨f,rfl,_⟩:=U;rfl
  . rintro rfl;obtain⟨f,rfl,Z⟩:=U;exact⟨f,rfl,Z,yS D⟩
  . exact pG O I hk (by show (aW (n,a,k)).length<=4096;omega)
  . rw[nN];have o:=kV (.cons [] n a k .nil) [false] (row nx) ⟨rfl,O,I,hk,trivial⟩;unfold ends;rw[G,show aW (n,a,k)=row (.cons [] n a k .nil) from by simp[row,aW],o];simp only[Option.map_some,rE];have e:(row (Fo.cons [] n a k .nil)).length=(aW (n,a,k)).length:=by simp[row,aW]
    rw[e]
    congr 1
    omega
  . rw[List.drop_take,G,show p+pre.length+(aW (n,a,k)).length-(p+pre.length)=(aW (n,a,k)).length from by omega,List.take_left]
theorem At.done{t:List Nd}{p:Nat}{F:Fo}(h:At t p [] F):F=.nil:=by
 obtain⟨D,_⟩:=h
 match F,D with
 | .nil,_=>rfl
end




def O0:Nat->List Bool
 | 0=>[]
 | r+1=>true::false::O0 r
theorem EF:∀r:Nat,(List.replicate r [true,false]).flatten=O0 r
 | 0=>rfl
 | r+1=>by rw[ZX,ZR,EF r];rfl
theorem O1{n:Nd}{nb:Nat}(h:n.op=12)(D:n.b=(nb:Int)):ds n=O0 nb:=by
 unfold ds;rw[XP h,D,YG,EF]
theorem qK:∀(r:Nat){t:List Nd}{p:Nat}{F:Fo},At t p (O0 r) F->p+3*r<=t.length
 | 0,t,p,F,h=>by have:=h.le;omega
 | r+1,t,p,F,h=>by
  obtain⟨D,n1,a1,k1,U,rfl,I⟩:=h.step;obtain⟨G,n2,a2,k2,Y,rfl,O⟩:=I.next.step;have s:=qK r O.next;have Z:D.length=1:=I.plen;have o:G.length=0:=O.plen;have z:0<(aW (n1,a1,k1)).length:=by simp[aW]
  have l2:0<(aW (n2,a2,k2)).length:=by simp[aW]
  omega
section

def WC:List TT->List TT
 | a::_::r=>a::WC r
 | _=>[]
def VV:List TT->List TT
 | _::b::r=>b::VV r
 | _=>[]
def PM(D:List Int->TT->Bool)(F:List Int):List Int->List TT->List TT->Bool
 | p::pl,t::ts,b::bs=>(Q6 p.toNat t&&T3 D (p.toNat+1) F b)&&PM D F pl ts bs
 | _,_,_=>true
def mX(k:Fo):List Int:=(cG k).map (·.a)
def UV(n:Nat):List Int:=(List.range n).map fun j:Nat=>(100:Int)+(j:Int)
def UT(ca:Int->Nat->Nat)(m:Nat)(x:TT):Bool :=
 PM (nP (mX x.2.2) ca m) (UV x.1.b.toNat) (mX x.2.2) (WC (bH x.2.2)) (VV (bH x.2.2))
def iV(e:Int)(w:aAB)(en:Ending)(w':aAB):Prop:=en=.returned (.int .i64 e)/\ZY w w'
theorem LD:∀{k:Fo} {y:TT},y∈bH k->∀m∈aW y,m∈row k
 | .nil,y,h,_,_=>by cases h
 | .cons p n a k x,y,h,m,hm=>by
  rw[show bH (.cons p n a k x)=(n,a,k)::bH x from rfl]at h;simp only[row];rcases YV.1 h with rfl|h
  . simp only[aW,YV,YW]at hm ⊢;rcases hm with rfl|hm|hm
    . exact .inr (.inl rfl)
    . exact .inr (.inr (.inl hm))
    exact .inr (.inr (.inr (.inl hm)))
  . have:=LD h m hm;simp only[YV,YW];exact .inr (.inr (.inr (.inr this)))
theorem T7:(Tryz.prog.info? 3).map (fun i=>(i.zero,i.size,i.bytes))=some (some (.int .i64 0),1,8):=by kernel_rfl
theorem IT(n:Nat):madeCells #[Value.int .i64 0] n=(List.replicate n (Value.int .i64 0)).toArray:=by
 apply Array.ext
 . simp[madeCells]
 intro i D F;simp[madeCells,Nat.mod_one]
end
structure fG (R:Nat->Prop) (w:aAB) (A:ZZ) (n c:Nat) (ls:aAA):Prop where
 len:ls.length=n
 few:n<=5864062014805
 mem:0<n->∃b off,A=some ⟨b,off,none⟩/\R b/\∀k,k<n->∃A' n' c',w.cell? ⟨b,off+k,none⟩=some (.slice A' n' c')/\bF R w A' n' c' (ls.getD k [])
theorem fG.keep{R R':Nat->Prop}{w':aAB}{ls:aAA}(h:fG R w A n c ls)(hR:∀b,R b->R' b/\∀o,w'.cell? ⟨b,o,none⟩=w.cell? ⟨b,o,none⟩):fG R' w' A n c ls:=by
 refine⟨h.len,h.few,fun Y=>?_⟩;obtain⟨b,off,e,F,U⟩:=h.mem Y;refine⟨b,off,e,(hR b F).1,fun k D=>?_⟩;obtain⟨G,Z,I,O,ht⟩:=U k D;exact⟨G,Z,I,by rw[(hR b F).2];exact O,ht.keep hR⟩
def bD(S:Nat->Prop)(w:aAB):List Value->List (List Nd)->Prop
 | [],[]=>True
 | x::xs,l::ls=>(∃A n c,x=.slice A n c/\bF S w A n c l)/\bD S w xs ls
 | _,_=>False
theorem bD.keep{S':Nat->Prop}{w':aAB}(hS:∀b,S b->S' b/\∀o,w'.cell? ⟨b,o,none⟩=w.cell? ⟨b,o,none⟩):∀{D:List Value} {ls:aAA},bD S w D ls->bD S' w' D ls
 | [],[],_=>trivial
 | [],_::_,h=>h.elim
 | _::_,[],h=>h.elim
 | x::D,l::ls,h=>by
  obtain⟨⟨A,n,c,e,ht⟩,F⟩:=h;exact⟨⟨A,n,c,e,ht.keep hS⟩,F.keep hS⟩
theorem bD.add{m:List Nd}(ht:bF S w A n c m):∀{D:List Value} {ls:aAA},bD S w D ls->bD S w (D++[.slice A n c]) (ls++[m])
 | [],[],_=>⟨⟨A,n,c,rfl,ht⟩,trivial⟩
 | [],_::_,h=>h.elim
 | _::_,[],h=>h.elim
 | _::_,_::_,h=>⟨h.1,h.2.add ht⟩
theorem bD.len{S:Nat->Prop}{w:aAB}:∀{D:List Value} {ls:aAA},bD S w D ls->D.length=ls.length
 | [],[],_=>rfl
 | [],_::_,h=>h.elim
 | _::_,[],h=>h.elim
 | x::D,l::ls,h=>by simp[bD.len h.2]
theorem bD.at_{S:Nat->Prop}{w:aAB}:∀{D:List Value} {ls:aAA} (k:Nat),bD S w D ls->k<ls.length->∃A n c,D[k]? = some (.slice A n c)/\bF S w A n c (ls.getD k [])
 | [],[],_,_,hk=>absurd hk aD
 | [],_::_,_,h,_=>h.elim
 | _::_,[],_,h,_=>h.elim
 | x::D,l::ls,0,h,_=>by
  obtain⟨⟨A,n,c,e,ht⟩,_⟩:=h;exact⟨A,n,c,by simp[e],ht⟩
 | x::D,l::ls,k+1,h,hk=>by
  obtain⟨A,n,c,e,ht⟩:=bD.at_ k h.2 (by simpa using hk);exact⟨A,n,c,by simpa using e,by simpa using ht⟩
theorem rH{base:Nat}{I:List Value}{ls:aAA}(h:w.ownsRow base 29 1 (.slice A n c) n I)(z:n=ls.length)(s:n<=5864062014805)(hr:bD S w I ls)(hS:∀b,S b->b<w.heap.size):fG (· < w.heap.size) w A n c ls:=by
 refine⟨z.symm,s,fun G=>?_⟩;have F:=h;obtain⟨_,D⟩:=h;rcases D with⟨_,h2⟩|⟨g,cap',Y,hv,hg,hh,_⟩
 . omega
 injection hv with Z e2 e3;subst Z;refine⟨g,0,rfl,(aS F rfl).2.1,fun k hk=>?_⟩;obtain⟨O,n',U,hx,ht⟩:=hr.at_ k aA;refine⟨O,n',U,?_,ht.keep fun b o=>⟨hS b o,fun _=>rfl⟩⟩;rw[YH,F.cellAt k aA];exact hx
def dT(B:Nat)(w:aAB)(v:Value)(b:Nat):Prop:=B<=b/\b<w.heap.size/\v.ownBlock≠some b
theorem jL{base:Nat}{I:List Value}{ls:aAA}{R:Nat->Prop}(h:w.ownsRow base 29 1 (.slice A n c) n I)(hn:n=ls.length)(z:n<=5864062014805)(hr:bD S w I ls)(hS:∀b,S b->R b)(hv:∀g,(Value.slice A n c).ownBlock=some g->R g):fG R w A n c ls:=by
 refine⟨hn.symm,z,fun G=>?_⟩;have o:=h;obtain⟨_,D⟩:=h;rcases D with⟨_,h2⟩|⟨g,cap',Y,F,hg,hh,_⟩
 . omega
 injection F with Z e2 e3;subst Z;refine⟨g,0,rfl,hv g rfl,fun k hk=>?_⟩;obtain⟨O,n',U,hx,ht⟩:=hr.at_ k aA;refine⟨O,n',U,?_,ht.keep fun b s=>⟨hS b s,fun _=>rfl⟩⟩;rw[YH,o.cellAt k aA];exact hx
end Go.Proofs.YtjoddliplahgkaaGreat
