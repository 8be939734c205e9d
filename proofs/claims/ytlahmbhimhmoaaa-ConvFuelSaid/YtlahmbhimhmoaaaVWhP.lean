/- Merged: Spi, WhP. -/
import Derived.Test.YtlahmbhimhmoaaaVSenseM
namespace Go.Proofs.Ytlahmbhimhmoaaa
set_option linter.unusedVariables false
set_option linter.unusedSimpArgs false
open Go.RowKit
open Go.Value renaming slice → O
variable {b:Bk}{free:Int}{t:List Nd}{x:TT}
section
open Go.Lib renaming hid->aB
def wD:Nat->List Nd->Nd->Fo->List Nd×List (List Nd)
 | 0,t,_,_=>(t,[])
 | m+1,t,n,.cons _ n1 a1 k1 (.cons _ n2 a2 k2 _)=>if n.op=6 then ((wD m (n1::(a1++row k1)) n1 k1).1,(wD m (n1::(a1++row k1)) n1 k1).2++[n2::(a2++row k2)]) else (t,[])
 | _+1,t,_,_=>(t,[])
theorem wE{m:Nat}{n:Nd}{k:Fo}(h:n.op≠6):wD m t n k=(t,[]):=by
 cases m with
 | zero=>rfl
 | succ m =>
  match k with
  | .nil=>rfl
  | .cons _ _ _ _ .nil=>rfl
  | .cons _ n1 a1 k1 (.cons _ n2 a2 k2 x)=>simp only[wD];rw[aN h]
theorem AL{m:Nat}{n n1 n2:Nd}{a1 a2:List Nd}{k1 k2:Fo}(h:n.op=6):wD (m+1) t n (.cons [] n1 a1 k1 (.cons [] n2 a2 k2 .nil))=((wD m (n1::(a1++row k1)) n1 k1).1,(wD m (n1::(a1++row k1)) n1 k1).2++[n2::(a2++row k2)]):=by
 simp only[wD];rw[LZ h]
def jQ(t:List Nd):List Nd×List (List Nd):=if aZ t=0 then wD t.length t (nQ t).1 (nQ t).2 else ([],[])
theorem yU{n:Nd}{a:List Nd}{k:Fo}(h:Rt t n a k):nQ t=(n,k):=by
 unfold nQ;rw[LZ h.shape,h.pp]
def JB(q:List Nd×List (List Nd))(w:OE)(e:Ending)(w':OE):Prop:=OB w w'/\∃A n c B m d D,e=.returned (.tuple #[O A n c,O B m d])/\a6 (e7 w.heap.size w' (O B m d)) w' A n c q.1/\w'.ownsRow w.heap.size 29 1 (O B m d) m D/\a8 (e7 w.heap.size w' (O B m d)) w' D q.2
theorem a8.rev{S:Nat->Prop}{w:OE}:∀{D:List Value} {ls:OD},a8 S w D ls->a8 S w D.reverse ls.reverse
 | [],[],_=>trivial
 | [],_::_,h=>h.elim
 | _::_,[],h=>h.elim
 | x::D,l::ls,h=>by
  obtain⟨⟨A,n,c,rfl,ht⟩,F⟩:=h;rw[List.reverse_cons,List.reverse_cons];exact a8.add ht F.rev
theorem nP{S:Nat->Prop}{w:OE}:∀{F:List Value} {ls:OD},a8 S w F ls->∀x∈F,∃G Z I,x=O G Z I
 | [],[],_=>fun x Y=>by cases Y
 | [],_::_,h=>h.elim
 | _::_,[],h=>h.elim
 | x::F,l::ls,h=>fun y D=>by
  obtain⟨⟨A,n,c,e,_⟩,U⟩:=h;rcases MU.1 D with rfl|D
  . exact⟨A,n,c,e⟩
  . exact nP U y D
set_option maxRecDepth 100000 in
set_option maxHeartbeats 4000000 in
theorem mW{A:OC}{n c:Nat}{w:OE}(h:aX w A n c t):
 Calls Try.prog 26 #[O A n c] w (JB (jQ t) w):=by
 have d1:=aB (bM h);by_cases hs:aZ t=0;rotate_left
 . have HQ:Hid (jQ t=([],[])):=aB (by unfold jQ;rw[aN hs]);have hz:(aZ t != 0)=true:=by simpa using hs
   generalize aZ t=z at *;clear hs h;go_in;go_wp2_with fail;refine (d1.o).mono ?_;rintro e w2 ⟨rfl,b0⟩;have c8:=aB b0;clear b0;go_wp2_with fail;go_ret2;rw[HQ.o];exact⟨c8.o,none,0,0,none,0,0,[],rfl,⟨rfl,MF _,NH _,fun _=>rfl,fun h=>absurd h aE⟩,NR _ _ _ _,trivial⟩
 obtain⟨i1,e6,c3,c6,c7⟩:=info_parts vB;obtain⟨f8,g6,g7,g8⟩:=OI e6 c3 c6 c7;clear e6 c3 c6 c7;obtain⟨n0,a0,k0,s⟩:=AJ hs;have a2:jQ t=wD t.length t n0 k0:=by unfold jQ;rw[LZ hs,yU s]
 obtain⟨m,hm⟩:=OM t.length;have h5:m<=4096:=by rw[hm];exact s.few
 rw[<-hm]at a2;obtain⟨F,L,d3⟩:∃F L,wD m t n0 k0=(F,L):=⟨_,_,rfl⟩;rw[d3]at a2;obtain⟨g3,g2,f7,HM,HT⟩:=OG a2 s d3 hm h;rw[hs]at d1;clear hs s a2 d3 hm h;go_in;go_wp2_with fail;refine (d1.o).mono ?_;rintro e w2 ⟨rfl,b0⟩;have c8:=aB b0;clear b0;have h7:n<=4096:=by have:=HT.o.len;have:=HM.o;omega
 go_wp2_with fail;go_loopw [0,4] (fun tv av wr=>∃(m' n' c' j d:Nat)(A' B:OC)(tc:List Nd)(n1:Nd)(a1:List Nd)(k1:Fo)(xs:List Value)(ls:OD),tv=O A' n' c'/\av=O B j d/\j+n'<=4096/\Hid (Rt tc n1 a1 k1)/\Hid (tc.length<=m')/\Hid ((wD m' tc n1 k1).1=F/\(wD m' tc n1 k1).2++ls.reverse=L)/\Hid (∀w',OB w w'->aX w' A' n' c' tc)/\Hid (wr.ownsRow w.heap.size 29 1 (O B j d) j xs)/\Hid (a8 (e7 w.heap.size wr (O B j d)) wr xs ls)/\Hid (OB w wr)) (fun tv _ _=>IY tv)
 case atStart=>exact⟨m,n,c,0,0,A,none,t,n0,a0,k0,[],[],rfl,rfl,by omega,g2,aB (by rw[HM.o];exact MF _),aB (by rw[f7.o];exact⟨rfl,by simp⟩),aB (fun w' hb=>HT.o.below hb),aB (NR _ _ _ _),aB trivial,c8⟩
 case round =>
  obtain⟨m',n',c',j,d,A',B,tc,n1,a1,k1,xs,ls,rfl,rfl,h4,s,e8,a2,c0,b2,Z,b7⟩:=hrel;have b6:=aB (c0.o _ b7.o);have a7:=b6.o.len;have d5:=s.o.eq;have h0:0<n':=by rw[<-a7,d5];simp
  have e2:=b6.o.cap;obtain⟨b,off,rfl,hb,e1,_,_⟩:=b6.o.at_ h0;rw[NE,MQ,show bB tc 0=n1 from by rw[d5];rfl]at e1;have d9:=b7.o.size;clear d5;by_cases h6:n1.op=6;rotate_left
  . have h3:(n1.op==6)=false:=by simpa using h6
    have HE:Hid (jQ t=(tc,ls.reverse)):=aB (by
     have h1:=a2.o;rw[wE h6]at h1;rw[g3.o,<-h1.1,<-h1.2];simp)
    have f3:∀x∈xs,∃A' n' c',x=O A' n' c':=nP Z.o;have d8:=aB (vV b2.o aA f3);generalize n1.op=op at *;clear h6 f3 a7;go_wp2_with fail;refine (d8.o).mono ?_;rintro e w3 ⟨rfl,e9,b8⟩;have Y:=aB (b7.o.grown b8 d9 (fun g hg=>(aV b2.o hg).1));have c9:Hid (a8 (e7 w.heap.size w3 (O B j d)) w3 xs.reverse ls.reverse):=aB (a8.keep (fun q D=>⟨⟨D.1,MD D.2.1 b8.size,D.2.2⟩,fun o=>aP (b8.block q D.2.1 (fun e=>D.2.2 e.symm)) o⟩) Z.o.rev);have a9:=aB e9;have f5:=aB (l8 (c0.o _ Y.o));clear e9 b8;go_wp2_with fail;refine (f5.o).mono ?_;rintro e w4 ⟨I,A4,n4,c4,rfl,b3⟩;have b4:=bK Y I;have b5:=aB (bY a9.o I);have d0:=aB (a8.keep (S':=e7 w.heap.size w4 (O B j d)) (w':=w4) (fun q D=>⟨⟨D.1,MD D.2.1 I.size,D.2.2⟩,fun o=>I.cell (p:=⟨q,o,none⟩) D.2.1⟩) c9.o);have d2:Hid (a6 (e7 w.heap.size w4 (O B j d)) w4 A4 n4 c4 tc):=aB (b3.keep fun q D=>⟨⟨MO Y.o.size D.1,D.2,fun e=>by have:=(aV a9.o e).2.1;have:=D.1;omega⟩,fun _=>rfl⟩);clear I b3;go_wp2_with fail;go_ret2;rw[HE.o];exact⟨b4.o,A4,n4,c4,B,j,d,xs.reverse,rfl,d2.o,b5.o,d0.o⟩
  obtain⟨nx,ax,kx,ny,ay,ky,rfl,b9⟩:=AV s.o h6;obtain⟨r1,f0⟩:=OM (nx::(ax++row kx));obtain⟨r2,d7⟩:=OM (ny::(ay++row ky));obtain⟨d6,e5,D,a5⟩:=b9;cases m' with
  | zero=>have:=e8.o;rw[D]at this;simp at this
  | succ m' =>
  have U:=a2.o;rw[AL h6]at U;rw[<-f0]at d6 D a5 U;rw[<-d7]at e5 D U;obtain⟨p,hp⟩:∃p,p=1+r1.length:=⟨_,rfl⟩;rw[<-hp]at a5;have h2:n'=p+r2.length:=by rw[<-a7,D,hp];simp;omega
  have f1:0<r2.length:=by rw[d7];simp
  have e4:tc.drop p=r2:=by rw[D,hp,Nat.add_comm,List.drop_succ_cons,List.drop_left]
  have e3:(tc.take p).drop 1=r1:=by rw[D,hp,Nat.add_comm,List.take_succ_cons,List.drop_succ_cons,List.drop_zero,List.take_left]
  obtain⟨A2,g9,a3⟩:=oT (some ⟨b,off,none⟩) n' c' p aA;obtain⟨A3,d4,a4⟩:=sZ (some ⟨b,off,none⟩) n' c' 1 p aA aA e2;rw[show ((1:Nat):Int)=1 from rfl]at d4;have g4:Hid (∀w',OB w w'->aX w' A2 (n'-p) (c'-p) r2):=aB fun w' h=>by
   have:=a3 _ _ _ (c0.o w' h)
   rwa [e4]at this
  have g5:Hid (∀w',OB w w'->aX w' A3 (p-1) (c'-1) r1):=aB fun w' h=>by
   have:=a4 _ _ _ (c0.o w' h)
   rwa [e3]at this
  have c1:=aB (fD b6.o 1);rw[a5]at c1;have f6:=aB d6;have c2:=aB U;have f9:Hid (r1.length<=m'):=aB (by have:=e8.o;rw[D]at this;simp at this;omega);have h8:1<=p:=aA;have h9:p<n':=aA;clear d6 e5 D a5 U f0 d7 hp h2 f1 e3 e4 a3 a4 a7;rw[h6]at e1;clear h6;go_wp2_with fail;refine (c1.o).mono ?_;rintro e w3 ⟨rfl,b1⟩;have Y:=aB (b7.o.trans (b1.mono d9));have a9:=aB (bY b2.o b1);have c9:=aB (a8.keep (S':=e7 w.heap.size w3 (O B j d)) (w':=w3) (fun q D=>⟨⟨D.1,MD D.2.1 b1.size,D.2.2⟩,fun o=>b1.cell (p:=⟨q,o,none⟩) D.2.1⟩) Z.o);clear b1;go_wp2_with fail;refine (l8 (g4.o _ Y.o)).mono ?_;rintro e w4 ⟨I,A4,n4,c4,rfl,b3⟩;have b4:=bK Y I;have b5:=aB (bY a9.o I);have d0:=aB (a8.keep (S':=e7 w.heap.size w4 (O B j d)) (w':=w4) (fun q D=>⟨⟨D.1,MD D.2.1 I.size,D.2.2⟩,fun o=>I.cell (p:=⟨q,o,none⟩) D.2.1⟩) c9.o);have d2:Hid (a6 (e7 w.heap.size w4 (O B j d)) w4 A4 n4 c4 r2):=aB (b3.keep fun q D=>⟨⟨MO Y.o.size D.1,D.2,fun e=>by have:=(aV a9.o e).2.1;have:=D.1;omega⟩,fun _=>rfl⟩);have e0:=b4.o.size;clear I b3;go_wp2_with (at_builtin;go_loud (refine bL rfl (eL (.tmp 16) (.tmp 21) 46 29 rfl w.heap.size i1 _ 24 Try.underlying46 f8.o g6.o g7.o g8.o rfl aE (O B j d) j xs (O A4 n4 c4) rfl w4 rfl rfl b5.o _ rfl rfl aA aA ?_));intro A5 c5 w5 G)
  have f2:=G.grown.size;have g0:=aB G.own;have f4:=aB (b4.o.grown G.grown e0 (fun g hg=>(aV b5.o hg).1));have g1:Hid (a8 (e7 w.heap.size w5 (O A5 (j+1) c5)) w5 (xs++[O A4 n4 c4]) (ls++[r2])):=aB (a8.keep (fun q D=>⟨⟨D.1,MD D.2.1 f2,fun e=>by
   rcases G.new q e with h1|h1
   . exact D.2.2 h1
   have:=D.2.1;omega⟩,fun o=>aP (G.grown.block q D.2.1 (fun e=>D.2.2 e.symm)) o⟩) (a8.add d2.o d0.o))
  clear G f2;go_wp2_with fail;go_roundw
  case rel=>exact⟨m',p-1,c'-1,j+1,c5,A3,A5,r1,nx,ax,kx,xs++[O A4 n4 c4],ls++[r2],rfl,rfl,by omega,f6,f9,aB ⟨c2.o.1,by rw[<-c2.o.2];simp⟩,g5,g0,g1,f4⟩
  case measure=>simp only[IY];omega
end
abbrev Fc:=TT×List TT
def cF:List TT->Nat
 | []=>0
 | a::r=>1+bZ a+cF r
def cJ(f:Fc):Nat:=bZ f.1+cF f.2
def hI(f:TT)(L:List TT):TT:=L.foldl eS f
def eR(f:Fc):TT:=hI f.1 f.2
theorem lZ:∀(L M:List TT),cF (L++M)=cF L+cF M
 | [],M=>by simp[cF]
 | a::r,M=>by simp only[NN,cF,lZ r M];omega
theorem DN(f:TT)(L M:List TT):hI f (L++M)=hI (hI f L) M:=List.foldl_append ..
theorem AX(f:TT)(L:List TT)(a:TT):hI f (L++[a])=eS (hI f L) a:=by rw[DN];rfl
theorem t8:∀(L:List TT)(f:TT),bZ (hI f L)=bZ f+cF L
 | [],f=>rfl
 | a::r,f=>by
  show bZ (hI (eS f a) r)=_;rw[t8 r,sO];simp only[cF];omega
theorem fT(f:Fc):bZ (eR f)=cJ f:=t8 _ _
theorem mH(x a:TT):cV (eS x a)=((cV x).1,(cV x).2++[a]):=GY (n:=⟨6,0,0⟩) rfl
theorem lE:∀(L:List TT)(x:TT),cV (hI x L)=((cV x).1,(cV x).2++L)
 | [],x=>by simp[hI]
 | a::r,x=>by
  show cV (hI (eS x a) r)=_;rw[lE r,mH];simp
theorem vA{f:Fc}(h:f.1.1.op≠6):cV (eR f)=f:=by
 unfold eR;rw[lE,o0 h];rfl
theorem DM(h:bJ b free x)(U:x.1.op=6):∃f a,x=eS f a/\bJ b free f/\bJ b free a/\bZ x=1+bZ f+bZ a:=by
 obtain⟨n,at_,k⟩:=x;have Z:n=⟨6,0,0⟩:=tZ h.okt.ok U;have G:at_=[]:=by
  have F:=h.okt.at_;unfold gI at F;have Y:n.op=6:=U;rw[aN (by show ¬ n.op=2;omega)]at F;exact F
 subst Z G;have D:=h.okt.wf;have I:ds ⟨6,0,0⟩=[false,false]:=rfl;simp only at D;rw[I]at D
 match k,D with
 | .cons p n1 a1 k1 (.cons q n2 a2 k2 .nil),⟨hp,_,_,_,hq,_,_,_,_⟩ =>
  simp only at hp hq;subst hp hq;refine⟨(n1,a1,k1),(n2,a2,k2),rfl,h.kid0 (i:=0) rfl (show aR 6 0 ((0:Nat):Int)=0 by decide),h.kid0 (i:=1) rfl (show aR 6 0 ((1:Nat):Int)=0 by decide),?_⟩;exact sO (n1,a1,k1) (n2,a2,k2)
structure cG (b:Bk) (free:Int) (f:Fc):Prop where
 head:bJ b free f.1
 ne:f.1.1.op≠6
 args:∀a∈f.2,bJ b free a
theorem s6{b:Bk}{free:Int}:∀(s:Nat)(x:TT),bZ x<=s->bJ b free x->cG b free (cV x)/\cJ (cV x)=bZ x/\eR (cV x)=x
 | 0,(n,a,k),h,_=>by rw[cS]at h;omega
 | s+1,x,h,hf=>by
  by_cases G:x.1.op=6
  . obtain⟨f,a,rfl,Y,Z,o⟩:=DM hf G;obtain⟨F,U,I⟩:=s6 s f aA Y;rw[mH];refine⟨⟨F.head,F.ne,fun y D=>?_⟩,?_,?_⟩
    . rcases MW.1 D with D|D
      . exact F.args y D
      rw[List.mem_singleton.1 D];exact Z
    . unfold cJ at U ⊢;simp only[lZ,cF];omega
    unfold eR at I ⊢;simp only;rw[AX,I]
  . rw[o0 G];exact⟨⟨hf,G,fun y D=>by cases D⟩,by simp[cJ,cF],rfl⟩
theorem nK(D:bJ b free x):cG b free (cV x):=(s6 _ x (MF _) D).1
theorem eO(D:bJ b free x):cJ (cV x)=bZ x:=(s6 _ x (MF _) D).2.1
theorem GX(D:bJ b free x):eR (cV x)=x:=(s6 _ x (MF _) D).2.2
theorem lY{b:Bk}{free:Int}:∀(L:List TT)(x:TT),bJ b free x->(∀a∈L,bJ b free a)->bZ x+cF L<=4096->bJ b free (hI x L)
 | [],x,hx,_,_=>hx
 | a::r,x,hx,hL,hs=>by
  simp only[cF]at hs;exact lY r (eS x a) (GI hx (hL a aD) aA) (fun y D=>hL y (by simp[D])) (by rw[sO];omega)
theorem cG.fit{f:Fc}(h:cG b free f)(D:cJ f<=4096):bJ b free (eR f):=lY _ _ h.head h.args D
theorem t9:∀(L:List TT)(x:TT),aT (hI x L)=List.replicate L.length ⟨6,0,0⟩++(aT x++(L.map aT).flatten)
 | [],x=>by simp[hI]
 | a::r,x=>by
  show aT (hI (eS x a) r)=_;rw[t9 r];have D:aT (eS x a)=⟨6,0,0⟩::(aT x++aT a):=by simp[eS,aT,row]
  rw[D,MN,List.replicate_succ'];simp
def eH(t:TT)(L:List TT):Option Fc:=if 4096<bZ t+cF L then none else some ((cV t).1,(cV t).2++L)
theorem iH{t:TT}{L:List TT}{f:Fc}(ht:bJ b free t)(G:∀a∈L,bJ b free a)(h:eH t L=some f):cG b free f/\cJ f=bZ t+cF L/\cJ f<=4096/\f=cV (hI t L):=by
 unfold eH at h;split at h
 . cases h
 injection h with h;subst h;have g:=nK ht;have F:=eO ht;have e:cJ ((cV t).1,(cV t).2++L)=bZ t+cF L:=by
  unfold cJ at F ⊢;simp only[lZ];omega
 refine⟨⟨g.head,g.ne,fun y D=>?_⟩,e,by omega,(lE L t).symm⟩;rcases MW.1 D with D|D
 . exact g.args y D
 exact G y D
def jT(cv:OD)(a:Int):List Nd:=cv.getD (cv.length-1-a.toNat) []
def i7(b:Bk)(n:Nd)(s:Fc):Bool:=s.1.1.op==10&&(s.1.1.a==n.a&&(decide (s.1.1.b<n.b)&&s.2.length==(bP b n.a).params.length+((bP b n.a).ctors.getD s.1.1.b.toNat default).args.length))
def eP(x:TT)(i:Nat):TT:=(a9 x.2.2).getD i (default,[],.nil)
def bX(b:Bk)(cv:OD)(f:Fc):Bool :=
 if f.1.1.op=5 then decide (0<f.2.length)
 else if f.1.1.op=7\/f.1.1.op=8 then true
 else if f.1.1.op=1 then decide (0<(jT cv f.1.1.a).length)
 else if f.1.1.op=11 then i7 b f.1.1 (cV (eP f.1 1))
 else if f.1.1.op=12 then decide ((dG f.1).toNat<f.2.length)&&((cV (f.2.getD (dG f.1).toNat (default,[],.nil))).1.1.op==10)
 else false
def y8(h:TT):Nat->TT->Option TT
 | 0,x=>some x
 | i+1,x=>if (cM x (jB (fQ h i) (i:Int))).2=0 then y8 h i (cM x (jB (fQ h i) (i:Int))).1 else none
def qZ(h:TT):Option TT:=y8 h h.1.b.toNat (eP h (2*h.1.a.toNat+1))
def hY(b:Bk)(cv:OD)(f:Fc):Option Fc :=
 if f.1.1.op=5 then (if (cM (eP f.1 1) (f.2.getD 0 (default,[],.nil))).2=0 then eH (cM (eP f.1 1) (f.2.getD 0 (default,[],.nil))).1 (f.2.drop 1) else none)
 else if f.1.1.op=7 then (if (cM (eP f.1 2) (eP f.1 1)).2=0 then eH (cM (eP f.1 2) (eP f.1 1)).1 f.2 else none)
 else if f.1.1.op=1 then eH (jB (cI (jT cv f.1.1.a)) (f.1.1.a+1)) f.2
 else if f.1.1.op=8 then eH (cI (bP b f.1.1.a).body) f.2
 else if f.1.1.op=11 then eH (eP f.1 (2+(cV (eP f.1 1)).1.1.b.toNat)) ((cV (eP f.1 1)).2.drop (bP b f.1.1.a).params.length++f.2)
 else match qZ f.1 with
  | none=>none
  | some y=>eH y f.2
def cW(f:Fc):Option TT :=
 if f.1.1.op=11 then some (eP f.1 1)
 else if f.1.1.op=12 then (if (dG f.1).toNat<f.2.length then some (f.2.getD (dG f.1).toNat (default,[],.nil)) else none)
 else none
def fV:Fo->TT->Fo
 | .cons p n a k (.cons q _ _ _ r),t=>.cons p n a k (.cons q t.1 t.2.1 t.2.2 r)
 | F,_=>F
def eX(f:Fc)(p:TT):Fc:=if f.1.1.op=11 then ((f.1.1,f.1.2.1,fV f.1.2.2 p),f.2) else (f.1,f.2.set (dG f.1).toNat p)
inductive LX
 | no
 | big
 | yes (f:Fc)
def LY(b:Bk)(cv:OD):Nat->Fc->Int->LX
 | 0,_,_=>.big
 | g+1,f,room =>
  if bX b cv f=true then
   match hY b cv f with
   | none=>.big
   | some y=>if room<(cJ y:Int) then .big else .yes y
  else match cW f with
   | none=>.no
   | some p=>match LY b cv g (cV p) (room-cJ f+bZ p) with
    | .no=>.no
    | .big=>.big
    | .yes y=>.yes (eX f (eR y))
inductive IQ
 | bad (e:Int)
 | done (f:Fc) (n:Nat)
def i9(b:Bk)(cv:OD):Nat->Nat->Fc->Int->IQ
 | 0,_,_,_=>.bad 99
 | g+1,n,f,room =>
  match (match cW f with
   | none=>IQ.done f n
   | some p=>match i9 b cv g n (cV p) (room-cJ f+bZ p) with
    | .bad e=>.bad e
    | .done y m=>.done (eX f (eR y)) m) with
  | .bad e=>.bad e
  | .done f n =>
   if bX b cv f=true then
    if n=0 then .bad 10
    else match hY b cv f with
     | none=>.bad 9
     | some y=>if room<(cJ y:Int) then .bad 9 else i9 b cv g (n-1) y room
   else .done f n
end Go.Proofs.Ytlahmbhimhmoaaa
