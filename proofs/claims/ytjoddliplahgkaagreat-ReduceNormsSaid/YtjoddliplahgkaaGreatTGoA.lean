/- Merged: Spi, WhP, GoA. -/
import Derived.Test.YtjoddliplahgkaaGreatTSenseM
namespace Go.Proofs.YtjoddliplahgkaaGreat
set_option maxHeartbeats 4000000
set_option maxRecDepth 100000
set_option linter.unusedVariables false
set_option linter.unusedSimpArgs false
open Go.RowKit
open Go.Value renaming int → O, slice → Y
open Go.IntKind renaming i64 → X
open Option renaming none → Z
open Go.Obj renaming cells → I
variable {b:Bk}{free:Int}{t:List Nd}{x:TT}{w:aAB}
section
open Go.Lib renaming hid->aB
def yZ:Nat->List Nd->Nd->Fo->List Nd×List (List Nd)
 | 0,t,_,_=>(t,[])
 | m+1,t,n,.cons _ n1 a1 k1 (.cons _ n2 a2 k2 _)=>if n.op=6 then ((yZ m (n1::(a1++row k1)) n1 k1).1,(yZ m (n1::(a1++row k1)) n1 k1).2++[n2::(a2++row k2)]) else (t,[])
 | _+1,t,_,_=>(t,[])
theorem xV{m:Nat}{n:Nd}{k:Fo}(h:n.op≠6):yZ m t n k=(t,[]):=by
 cases m with
 | zero=>rfl
 | succ m =>
  match k with
  | .nil=>rfl
  | .cons _ _ _ _ .nil=>rfl
  | .cons _ n1 a1 k1 (.cons _ n2 a2 k2 x)=>simp only[yZ];rw[XN h]
theorem DF{m:Nat}{n n1 n2:Nd}{a1 a2:List Nd}{k1 k2:Fo}(h:n.op=6):yZ (m+1) t n (.cons [] n1 a1 k1 (.cons [] n2 a2 k2 .nil))=((yZ m (n1::(a1++row k1)) n1 k1).1,(yZ m (n1::(a1++row k1)) n1 k1).2++[n2::(a2++row k2)]):=by
 simp only[yZ];rw[XP h]
def i8(t:List Nd):List Nd×List (List Nd):=if a6 t=0 then yZ t.length t (gC t).1 (gC t).2 else ([],[])
theorem xQ{n:Nd}{a:List Nd}{k:Fo}(h:Rt t n a k):gC t=(n,k):=by
 unfold gC;rw[XP h.shape,h.pp]
def OJ(q:List Nd×List (List Nd))(w:aAB)(e:Ending)(w':aAB):Prop:=ZY w w'/\∃A n c B m d D,e=.returned (.tuple #[Y A n c,Y B m d])/\bF (dT w.heap.size w' (Y B m d)) w' A n c q.1/\w'.ownsRow w.heap.size 29 1 (Y B m d) m D/\bD (dT w.heap.size w' (Y B m d)) w' D q.2
theorem bD.rev{S:Nat->Prop}:∀{D:List Value} {ls:aAA},bD S w D ls->bD S w D.reverse ls.reverse
 | [],[],_=>trivial
 | [],_::_,h=>h.elim
 | _::_,[],h=>h.elim
 | x::D,l::ls,h=>by
  obtain⟨⟨A,n,c,rfl,ht⟩,F⟩:=h;rw[List.reverse_cons,List.reverse_cons];exact bD.add ht F.rev
theorem oE{S:Nat->Prop}{w:aAB}:∀{F:List Value} {ls:aAA},bD S w F ls->∀x∈F,∃G z U,x=Y G z U
 | [],[],_=>fun x s=>by cases s
 | [],_::_,h=>h.elim
 | _::_,[],h=>h.elim
 | x::F,l::ls,h=>fun y D=>by
  obtain⟨⟨A,n,c,e,_⟩,o⟩:=h;rcases YV.1 D with rfl|D
  . exact⟨A,n,c,e⟩
  . exact oE o y D
theorem NZ{A:ZZ}{n c:Nat}(h:aX w A n c t):
 Calls Tryz.prog 75 #[Y A n c] w (OJ (i8 t) w):=by
 have d4:=aB (cR h);by_cases hs:a6 t=0;rotate_left
 . have HQ:Hid (i8 t=([],[])):=aB (by unfold i8;rw[XN hs]);have hz:(a6 t != 0)=true:=by simpa using hs
   generalize a6 t=z at *;clear hs h;go_in;go_wp2_with fail;refine (d4.o).mono ?_;rintro e w2 ⟨rfl,b3⟩;have d1:=aB b3;clear b3;go_wp2_with fail;go_ret2;rw[HQ.o];exact⟨d1.o,Z,0,0,Z,0,0,[],rfl,⟨rfl,XU _,ZA _,fun _=>rfl,fun h=>absurd h aE⟩,ZE _ _ _ _,trivial⟩
 obtain⟨i1,e9,c8,c9,d0⟩:=info_parts v5;obtain⟨g0,g8,g9,h0⟩:=aAE e9 c8 c9 d0;clear e9 c8 c9 d0;obtain⟨n0,a0,k0,a4⟩:=LH hs;have a5:i8 t=yZ t.length t n0 k0:=by unfold i8;rw[XP hs,xQ a4]
 obtain⟨m,hm⟩:=aAJ t.length;have h8:m<=4096:=by rw[hm];exact a4.few
 rw[<-hm]at a5;obtain⟨F,L,d6⟩:∃F L,yZ m t n0 k0=(F,L):=⟨_,_,rfl⟩;rw[d6]at a5;obtain⟨g5,g4,f9,HM,HT⟩:=aAD a5 a4 d6 hm h;rw[hs]at d4;clear hs a4 a5 d6 hm h;go_in;go_wp2_with fail;refine (d4.o).mono ?_;rintro e w2 ⟨rfl,b3⟩;have d1:=aB b3;clear b3;have h9:n<=4096:=by have:=HT.o.len;have:=HM.o;omega
 go_wp2_with fail;go_loopw [0,4] (fun tv av wr=>∃(m' n' c' j d:Nat)(A' B:ZZ)(tc:List Nd)(n1:Nd)(a1:List Nd)(k1:Fo)(xs:List Value)(ls:aAA),tv=Y A' n' c'/\av=Y B j d/\j+n'<=4096/\Hid (Rt tc n1 a1 k1)/\Hid (tc.length<=m')/\Hid ((yZ m' tc n1 k1).1=F/\(yZ m' tc n1 k1).2++ls.reverse=L)/\Hid (∀w',ZY w w'->aX w' A' n' c' tc)/\Hid (wr.ownsRow w.heap.size 29 1 (Y B j d) j xs)/\Hid (bD (dT w.heap.size wr (Y B j d)) wr xs ls)/\Hid (ZY w wr)) (fun tv _ _=>zZ tv)
 case atStart=>exact⟨m,n,c,0,0,A,Z,t,n0,a0,k0,[],[],rfl,rfl,by omega,g4,aB (by rw[HM.o];exact XU _),aB (by rw[f9.o];exact⟨rfl,by simp⟩),aB (fun w' hb=>HT.o.below hb),aB (ZE _ _ _ _),aB trivial,d1⟩
 case round =>
  obtain⟨m',n',c',j,d,A',B,tc,n1,a1,k1,xs,ls,rfl,rfl,h7,a4,f0,a5,c3,b5,a3,c0⟩:=hrel;have b9:=aB (c3.o _ c0.o);have b1:=b9.o.len;have d8:=a4.o.eq;have h3:0<n':=by rw[<-b1,d8];simp
  have e5:=b9.o.cap;obtain⟨b,off,rfl,hb,e4,_,_⟩:=b9.o.at_ h3;rw[YU,YF,show bC tc 0=n1 from by rw[d8];rfl]at e4;have e2:=c0.o.size;clear d8;by_cases h6:n1.op=6;rotate_left
  . have h5:(n1.op==6)=false:=by simpa using h6
    have HE:Hid (i8 t=(tc,ls.reverse)):=aB (by
     have h1:=a5.o;rw[xV h6]at h1;rw[g5.o,<-h1.1,<-h1.2];simp)
    have f5:∀x∈xs,∃A' n' c',x=Y A' n' c':=oE a3.o;have e1:=aB (FJ b5.o aA f5);generalize n1.op=op at *;clear h6 f5 b1;go_wp2_with fail;refine (e1.o).mono ?_;rintro e w3 ⟨rfl,f1,c1⟩;have a2:=aB (c0.o.grown c1 e2 (fun g hg=>(aS b5.o hg).1));have d2:Hid (bD (dT w.heap.size w3 (Y B j d)) w3 xs.reverse ls.reverse):=aB (bD.keep (fun q D=>⟨⟨D.1,XT D.2.1 c1.size,D.2.2⟩,fun o=>aP (c1.block q D.2.1 (fun e=>D.2.2 e.symm)) o⟩) a3.o.rev);have b2:=aB f1;have f7:=aB (sC (c3.o _ a2.o));clear f1 c1;go_wp2_with fail;refine (f7.o).mono ?_;rintro e w4 ⟨U,A4,n4,c4,rfl,b6⟩;have b7:=bY a2 U;have b8:=aB (bI b2.o U);have d3:=aB (bD.keep (S':=dT w.heap.size w4 (Y B j d)) (w':=w4) (fun q D=>⟨⟨D.1,XT D.2.1 U.size,D.2.2⟩,fun o=>U.cell (p:=⟨q,o,Z⟩) D.2.1⟩) d2.o);have d5:Hid (bF (dT w.heap.size w4 (Y B j d)) w4 A4 n4 c4 tc):=aB (b6.keep fun q D=>⟨⟨YE a2.o.size D.1,D.2,fun e=>by have:=(aS b2.o e).2.1;have:=D.1;omega⟩,fun _=>rfl⟩);clear U b6;go_wp2_with fail;go_ret2;rw[HE.o];exact⟨b7.o,A4,n4,c4,B,j,d,xs.reverse,rfl,d5.o,b8.o,d3.o⟩
  obtain⟨nx,ax,kx,ny,ay,ky,rfl,c2⟩:=zE a4.o h6;obtain⟨r1,f2⟩:=aAJ (nx::(ax++row kx));obtain⟨r2,e0⟩:=aAJ (ny::(ay++row ky));obtain⟨d9,e8,D,b0⟩:=c2;cases m' with
  | zero=>have:=f0.o;rw[D]at this;simp at this
  | succ m' =>
  have s:=a5.o;rw[DF h6]at s;rw[<-f2]at d9 D b0 s;rw[<-e0]at e8 D s;obtain⟨p,hp⟩:∃p,p=1+r1.length:=⟨_,rfl⟩;rw[<-hp]at b0;have h4:n'=p+r2.length:=by rw[<-b1,D,hp];simp;omega
  have f3:0<r2.length:=by rw[e0];simp
  have e7:tc.drop p=r2:=by rw[D,hp,Nat.add_comm,List.drop_succ_cons,List.drop_left]
  have e6:(tc.take p).drop 1=r1:=by rw[D,hp,Nat.add_comm,List.take_succ_cons,List.drop_succ_cons,List.drop_zero,List.take_left]
  obtain⟨A2,h2,a7⟩:=lY (some ⟨b,off,Z⟩) n' c' p aA;obtain⟨A3,d7,a9⟩:=CC (some ⟨b,off,Z⟩) n' c' 1 p aA aA e5;rw[show ((1:Nat):Int)=1 from rfl]at d7;have g6:Hid (∀w',ZY w w'->aX w' A2 (n'-p) (c'-p) r2):=aB fun w' h=>by
   have:=a7 _ _ _ (c3.o w' h)
   rwa [e7]at this
  have g7:Hid (∀w',ZY w w'->aX w' A3 (p-1) (c'-1) r1):=aB fun w' h=>by
   have:=a9 _ _ _ (c3.o w' h)
   rwa [e6]at this
  have c6:=aB (iZ b9.o 1);rw[b0]at c6;have f8:=aB d9;have c7:=aB s;have g1:Hid (r1.length<=m'):=aB (by have:=f0.o;rw[D]at this;simp at this;omega);have i0:1<=p:=aA;have i2:p<n':=aA;clear d9 e8 D b0 s f2 e0 hp h4 f3 e6 e7 a7 a9 b1;rw[h6]at e4;clear h6;go_wp2_with fail;refine (c6.o).mono ?_;rintro e w3 ⟨rfl,b4⟩;have a2:=aB (c0.o.trans (b4.mono e2));have b2:=aB (bI b5.o b4);have d2:=aB (bD.keep (S':=dT w.heap.size w3 (Y B j d)) (w':=w3) (fun q D=>⟨⟨D.1,XT D.2.1 b4.size,D.2.2⟩,fun o=>b4.cell (p:=⟨q,o,Z⟩) D.2.1⟩) a3.o);clear b4;go_wp2_with fail;refine (sC (g6.o _ a2.o)).mono ?_;rintro e w4 ⟨U,A4,n4,c4,rfl,b6⟩;have b7:=bY a2 U;have b8:=aB (bI b2.o U);have d3:=aB (bD.keep (S':=dT w.heap.size w4 (Y B j d)) (w':=w4) (fun q D=>⟨⟨D.1,XT D.2.1 U.size,D.2.2⟩,fun o=>U.cell (p:=⟨q,o,Z⟩) D.2.1⟩) d2.o);have d5:Hid (bF (dT w.heap.size w4 (Y B j d)) w4 A4 n4 c4 r2):=aB (b6.keep fun q D=>⟨⟨YE a2.o.size D.1,D.2,fun e=>by have:=(aS b2.o e).2.1;have:=D.1;omega⟩,fun _=>rfl⟩);have e3:=b7.o.size;clear U b6;go_wp2_with (at_builtin;go_loud (refine a8 rfl (iL (.tmp 16) (.tmp 21) 47 29 rfl w.heap.size i1 _ 24 Tryz.underlying47 g0.o g8.o g9.o h0.o rfl aE (Y B j d) j xs (Y A4 n4 c4) rfl w4 rfl rfl b8.o _ rfl rfl aA aA ?_));intro A5 c5 w5 G)
  have f4:=G.grown.size;have g2:=aB G.own;have f6:=aB (b7.o.grown G.grown e3 (fun g hg=>(aS b8.o hg).1));have g3:Hid (bD (dT w.heap.size w5 (Y A5 (j+1) c5)) w5 (xs++[Y A4 n4 c4]) (ls++[r2])):=aB (bD.keep (fun q D=>⟨⟨D.1,XT D.2.1 f4,fun e=>by
   rcases G.new q e with h1|h1
   . exact D.2.2 h1
   have:=D.2.1;omega⟩,fun o=>aP (G.grown.block q D.2.1 (fun e=>D.2.2 e.symm)) o⟩) (bD.add d5.o d3.o))
  clear G f4;go_wp2_with fail;go_roundw
  case rel=>exact⟨m',p-1,c'-1,j+1,c5,A3,A5,r1,nx,ax,kx,xs++[Y A4 n4 c4],ls++[r2],rfl,rfl,by omega,f8,g1,aB ⟨c7.o.1,by rw[<-c7.o.2];simp⟩,g7,g2,g3,f6⟩
  case measure=>simp only[zZ];omega
end
abbrev Fc:=TT×List TT
def cB:List TT->Nat
 | []=>0
 | a::r=>1+bL a+cB r
def dA(f:Fc):Nat:=bL f.1+cB f.2
def dP(f:TT)(L:List TT):TT:=L.foldl gR f
def gA(f:Fc):TT:=dP f.1 f.2
theorem oO:∀(L M:List TT),cB (L++M)=cB L+cB M
 | [],M=>by simp[cB]
 | a::r,M=>by simp only[ZM,cB,oO r M];omega
theorem D0(f:TT)(L M:List TT):dP f (L++M)=dP (dP f L) M:=List.foldl_append ..
theorem zG(f:TT)(L:List TT)(a:TT):dP f (L++[a])=gR (dP f L) a:=by rw[D0];rfl
theorem qP:∀(L:List TT)(f:TT),bL (dP f L)=bL f+cB L
 | [],f=>rfl
 | a::r,f=>by
  show bL (dP (gR f a) r)=_;rw[qP r,BN];simp only[cB];omega
theorem gM(f:Fc):bL (gA f)=dA f:=qP _ _
theorem sN(x a:TT):bX (gR x a)=((bX x).1,(bX x).2++[a]):=KM (n:=⟨6,0,0⟩) rfl
theorem qY:∀(L:List TT)(x:TT),bX (dP x L)=((bX x).1,(bX x).2++L)
 | [],x=>by simp[dP]
 | a::r,x=>by
  show bX (dP (gR x a) r)=_;rw[qY r,sN];simp
theorem vY{f:Fc}(h:f.1.1.op≠6):bX (gA f)=f:=by
 unfold gA;rw[qY,qZ h];rfl
theorem OK(h:bO b free x)(o:x.1.op=6):∃f a,x=gR f a/\bO b free f/\bO b free a/\bL x=1+bL f+bL a:=by
 obtain⟨n,at_,k⟩:=x;have z:n=⟨6,0,0⟩:=DZ h.okt.ok o;have G:at_=[]:=by
  have F:=h.okt.at_;unfold iU at F;have s:n.op=6:=o;rw[XN (by show ¬ n.op=2;omega)]at F;exact F
 subst z G;have D:=h.okt.wf;have U:ds ⟨6,0,0⟩=[false,false]:=rfl;simp only at D;rw[U]at D
 match k,D with
 | .cons p n1 a1 k1 (.cons q n2 a2 k2 .nil),⟨hp,_,_,_,hq,_,_,_,_⟩ =>
  simp only at hp hq;subst hp hq;refine⟨(n1,a1,k1),(n2,a2,k2),rfl,h.kid0 (i:=0) rfl (show aR 6 0 ((0:Nat):Int)=0 by decide),h.kid0 (i:=1) rfl (show aR 6 0 ((1:Nat):Int)=0 by decide),?_⟩;exact BN (n1,a1,k1) (n2,a2,k2)
structure dM (b:Bk) (free:Int) (f:Fc):Prop where
 head:bO b free f.1
 ne:f.1.1.op≠6
 args:∀a∈f.2,bO b free a
theorem CG{b:Bk}{free:Int}:∀(s:Nat)(x:TT),bL x<=s->bO b free x->dM b free (bX x)/\dA (bX x)=bL x/\gA (bX x)=x
 | 0,(n,a,k),h,_=>by rw[cS]at h;omega
 | s+1,x,h,hf=>by
  by_cases F:x.1.op=6
  . obtain⟨f,a,rfl,o,z,h3⟩:=OK hf F;obtain⟨g1,U,G⟩:=CG s f aA o;rw[sN];refine⟨⟨g1.head,g1.ne,fun y D=>?_⟩,?_,?_⟩
    . rcases YW.1 D with D|D
      . exact g1.args y D
      rw[ZK.1 D];exact z
    . unfold dA at U ⊢;simp only[oO,cB];omega
    unfold gA at G ⊢;simp only;rw[zG,G]
  . rw[qZ F];exact⟨⟨hf,F,fun y D=>by cases D⟩,by simp[dA,cB],rfl⟩
theorem lQ(D:bO b free x):dM b free (bX x):=(CG _ x (XU _) D).1
theorem eY(D:bO b free x):dA (bX x)=bL x:=(CG _ x (XU _) D).2.1
theorem oS(D:bO b free x):gA (bX x)=x:=(CG _ x (XU _) D).2.2
theorem lW{b:Bk}{free:Int}:∀(L:List TT)(x:TT),bO b free x->(∀a∈L,bO b free a)->bL x+cB L<=4096->bO b free (dP x L)
 | [],x,hx,_,_=>hx
 | a::r,x,hx,hL,hs=>by
  simp only[cB]at hs;exact lW r (gR x a) (R5 hx (hL a aD) aA) (fun y D=>hL y (by simp[D])) (by rw[BN];omega)
theorem dM.fit{f:Fc}(h:dM b free f)(D:dA f<=4096):bO b free (gA f):=lW _ _ h.head h.args D
theorem D2:∀(L:List TT)(x:TT),aW (dP x L)=List.replicate L.length ⟨6,0,0⟩++(aW x++(L.map aW).flatten)
 | [],x=>by simp[dP]
 | a::r,x=>by
  show aW (dP (gR x a) r)=_;rw[D2 r];have D:aW (gR x a)=⟨6,0,0⟩::(aW x++aW a):=by simp[gR,aW,row]
  rw[D,YA,List.replicate_succ'];simp
def gS(t:TT)(L:List TT):Option Fc:=if 4096<bL t+cB L then Z else some ((bX t).1,(bX t).2++L)
theorem kS{t:TT}{L:List TT}{f:Fc}(ht:bO b free t)(G:∀a∈L,bO b free a)(h:gS t L=some f):dM b free f/\dA f=bL t+cB L/\dA f<=4096/\f=bX (dP t L):=by
 unfold gS at h;split at h
 . cases h
 injection h with h;subst h;have g:=lQ ht;have F:=eY ht;have e:dA ((bX t).1,(bX t).2++L)=bL t+cB L:=by
  unfold dA at F ⊢;simp only[oO];omega
 refine⟨⟨g.head,g.ne,fun y D=>?_⟩,e,by omega,(qY L t).symm⟩;rcases YW.1 D with D|D
 . exact g.args y D
 exact G y D
def jZ(cv:aAA)(a:Int):List Nd:=cv.getD (cv.length-1-a.toNat) []
def fA(b:Bk)(n:Nd)(s:Fc):Bool:=s.1.1.op==10&&(s.1.1.a==n.a&&(decide (s.1.1.b<n.b)&&s.2.length==(bP b n.a).params.length+((bP b n.a).ctors.getD s.1.1.b.toNat default).args.length))
def eM(x:TT)(i:Nat):TT:=(bH x.2.2).getD i (default,[],.nil)
def bT(b:Bk)(cv:aAA)(f:Fc):Bool :=
 if f.1.1.op=5 then decide (0<f.2.length)
 else if f.1.1.op=7\/f.1.1.op=8 then true
 else if f.1.1.op=1 then decide (0<(jZ cv f.1.1.a).length)
 else if f.1.1.op=11 then fA b f.1.1 (bX (eM f.1 1))
 else if f.1.1.op=12 then decide ((dG f.1).toNat<f.2.length)&&((bX (f.2.getD (dG f.1).toNat (default,[],.nil))).1.1.op==10)
 else false
def tG(h:TT):Nat->TT->Option TT
 | 0,x=>some x
 | i+1,x=>if (cI x (jD (eL h i) (i:Int))).2=0 then tG h i (cI x (jD (eL h i) (i:Int))).1 else Z
def rW(h:TT):Option TT:=tG h h.1.b.toNat (eM h (2*h.1.a.toNat+1))
def jJ(b:Bk)(cv:aAA)(f:Fc):Option Fc :=
 if f.1.1.op=5 then (if (cI (eM f.1 1) (f.2.getD 0 (default,[],.nil))).2=0 then gS (cI (eM f.1 1) (f.2.getD 0 (default,[],.nil))).1 (f.2.drop 1) else Z)
 else if f.1.1.op=7 then (if (cI (eM f.1 2) (eM f.1 1)).2=0 then gS (cI (eM f.1 2) (eM f.1 1)).1 f.2 else Z)
 else if f.1.1.op=1 then gS (jD (cT (jZ cv f.1.1.a)) (f.1.1.a+1)) f.2
 else if f.1.1.op=8 then gS (cT (bP b f.1.1.a).body) f.2
 else if f.1.1.op=11 then gS (eM f.1 (2+(bX (eM f.1 1)).1.1.b.toNat)) ((bX (eM f.1 1)).2.drop (bP b f.1.1.a).params.length++f.2)
 else match rW f.1 with
  | none=>Z
  | some y=>gS y f.2
def cQ(f:Fc):Option TT :=
 if f.1.1.op=11 then some (eM f.1 1)
 else if f.1.1.op=12 then (if (dG f.1).toNat<f.2.length then some (f.2.getD (dG f.1).toNat (default,[],.nil)) else Z)
 else Z
def gB:Fo->TT->Fo
 | .cons p n a k (.cons q _ _ _ r),t=>.cons p n a k (.cons q t.1 t.2.1 t.2.2 r)
 | F,_=>F
def dW(f:Fc)(p:TT):Fc:=if f.1.1.op=11 then ((f.1.1,f.1.2.1,gB f.1.2.2 p),f.2) else (f.1,f.2.set (dG f.1).toNat p)
inductive VE
 | no
 | big
 | yes (f:Fc)
def qJ(b:Bk)(cv:aAA):Nat->Fc->Int->VE
 | 0,_,_=>.big
 | g+1,f,room =>
  if bT b cv f=true then
   match jJ b cv f with
   | none=>.big
   | some y=>if room<(dA y:Int) then .big else .yes y
  else match cQ f with
   | none=>.no
   | some p=>match qJ b cv g (bX p) (room-dA f+bL p) with
    | .no=>.no
    | .big=>.big
    | .yes y=>.yes (dW f (gA y))
inductive R4
 | bad (e:Int)
 | done (f:Fc) (n:Nat)
def mK(b:Bk)(cv:aAA):Nat->Nat->Fc->Int->R4
 | 0,_,_,_=>.bad 99
 | g+1,n,f,room =>
  match (match cQ f with
   | none=>R4.done f n
   | some p=>match mK b cv g n (bX p) (room-dA f+bL p) with
    | .bad e=>.bad e
    | .done y m=>.done (dW f (gA y)) m) with
  | .bad e=>.bad e
  | .done f n =>
   if bT b cv f=true then
    if n=0 then .bad 10
    else match jJ b cv f with
     | none=>.bad 9
     | some y=>if room<(dA y:Int) then .bad 9 else mK b cv g (n-1) y room
   else .done f n
section
open Go.Lib renaming hid->aB
theorem UL{R:Nat->Prop}{W:aAB}{tx D:iA}{a:TT}{g:Nat}(hx:fI R W tx x)(ha:fI R W D a)(o:W.heap[g]? = some (I (#[O X x.1.op,O X x.1.a,O X x.1.b,Y tx.Ak tx.nk tx.ck,Y tx.Aa tx.na tx.ca,Y tx.Af tx.nf tx.cf,O X a.1.op,O X a.1.a,O X a.1.b,Y D.Ak D.nk D.ck,Y D.Aa D.na D.ca,Y D.Af D.nf D.cf]) 85))(z:R g):fI R W ⟨some ⟨g,0,Z⟩,2,2,Z,0,0,Z,0,0⟩ (gR x a):=by
 have ho:W.ownsRow g 85 6 (Y (some ⟨g,0,Z⟩) 2 2) (bE (iP [x,a])) [O X x.1.op,O X x.1.a,O X x.1.b,Y tx.Ak tx.nk tx.ck,Y tx.Aa tx.na tx.ca,Y tx.Af tx.nf tx.cf,O X a.1.op,O X a.1.a,O X a.1.b,Y D.Ak D.nk D.ck,Y D.Aa D.na D.ca,Y D.Af D.nf D.cf]:=⟨by simp[iC],.inr ⟨g,2,_,rfl,XU _,o,by rw[iC];simp,by unfold maxLen;omega,rfl,rfl⟩⟩;have s:lO R W (iP [x,a]) [O X x.1.op,O X x.1.a,O X x.1.b,Y tx.Ak tx.nk tx.ck,Y tx.Aa tx.na tx.ca,Y tx.Af tx.nf tx.cf,O X a.1.op,O X a.1.a,O X a.1.b,Y D.Ak D.nk D.ck,Y D.Aa D.na D.ca,Y D.Af D.nf D.cf]:=⟨[_,_,_,_,_,_],[_,_,_,_,_,_],rfl,hx,⟨[_,_,_,_,_,_],[],rfl,ha,rfl⟩⟩;obtain⟨A',n',c',e,hk⟩:=iQ ho s (fun q F=>by injection F with F;rw[<-F];exact z);injection e with G U h;subst G U h;exact⟨_,_,_,rfl,⟨_,_,_,rfl,hk⟩,gE.nil _ _,gE.nil _ _⟩
theorem PQ{L:List TT}{j:Nat}(h:j<L.length):L.take (j+1)=L.take j++[cX (iP L) j]:=by
 have e:cX (iP L) j=L[j]:=by
  unfold cX;rw[wA,YD,YB h];rfl
 rw[e,List.take_add_one,YB h];rfl
theorem yW{g:Nat}{c0 c1 c2 c3 c4 c5:Value}{D:Array Value}(h:aT w g 85 #[c0,c1,c2,c3,c4,c5])(ht:D.getD 4 undef=.pointer (some ⟨g,0,Z⟩)):
 (results Tryz.f81 D).run Tryz.prog w=.ok (.agg #[c0,c1,c2,c3,c4,c5]) w:=by
 have G:=h.cell;have F:D[4]?.getD undef=.pointer (some ⟨g,0,Z⟩):=by rw[<-ht];simp
 simp[results,Tryz.results81,go_sem,F,G]
theorem gZ{R:Nat->Prop}{t:iA}{B:ZZ}{m d:Nat}{L:List TT}(hR:∀b,R b->b<w.heap.size)(ht:fI R w t x)(hk:eX R w B m d (iP L))(hm:m<=1000000):
 Calls Tryz.prog 81 #[.agg (fE t x.1),Y B m d] w (R0 R w (dP x L)):=by
 have a5:m=L.length:=by rw[<-hk.len,iC]
 obtain⟨V0,b7⟩:∃V0:World,V0.heap.size=w.heap.size+2:=⟨(w.alloc (I #[O X 0,O X 0,O X 0,Y Z 0 0,Y Z 0 0,Y Z 0 0] 85)).alloc (I #[O X 0,O X 0,O X 0,Y Z 0 0,Y Z 0 0,Y Z 0 0] 85),by simp⟩;have HR:=aB hR;have HK:=aB hk;have d1:=aB a5;have HV:=aB b7;have b5:Hid (fI (bM R V0 ((w.alloc (I (fE t x.1) 85)).alloc (I #[O X 0,O X 0,O X 0,Y Z 0 0,Y Z 0 0,Y Z 0 0] 85))) ((w.alloc (I (fE t x.1) 85)).alloc (I #[O X 0,O X 0,O X 0,Y Z 0 0,Y Z 0 0,Y Z 0 0] 85)) t x):=aB (ht.keep fun q D=>⟨Or.inl D,fun o=>(bS w (I (fE t x.1) 85) (I #[O X 0,O X 0,O X 0,Y Z 0 0,Y Z 0 0,Y Z 0 0] 85)).cell (p:=⟨q,o,Z⟩) (hR q D)⟩);have HE:Hid (x=dP x (L.take 0)):=aB rfl;obtain⟨y0,b3⟩:=aAJ (dP x L);rw[<-b3];have a2:Hid (y0=dP x (L.take L.length)):=aB (by rw[List.take_length];exact b3);have b4:=aB (bS w (I (fE t x.1) 85) (I #[O X 0,O X 0,O X 0,Y Z 0 0,Y Z 0 0,Y Z 0 0] 85));have a8:Hid (∀j,j<L.length->dP x (L.take (j+1))=gR (dP x (L.take j)) (cX (iP L) j)):=aB (fun j hj=>by rw[PQ hj,zG]);obtain⟨Q,hQ⟩:∃Q:Nat->TT,Q=fun j=>dP x (L.take j):=⟨_,rfl⟩
 replace HE:Hid (x=Q 0):=aB (by rw[hQ];exact HE.o)
 replace a2:Hid (y0=Q m):=aB (by rw[hQ,a5];exact a2.o)
 replace a8:Hid (∀j,j<m->Q (j+1)=gR (Q j) (cX (iP L) j)):=aB (by rw[hQ,a5];exact a8.o)
 clear b3 hQ a5 ht hk b7 hR;obtain⟨⟨xo,xa,xb⟩,c9,xk⟩:=x;obtain⟨Ak,nk,ck,Aa,na,ca,Af,nf,cf⟩:=t;show Calls Tryz.prog 81 #[.agg #[O X xo,O X xa,O X xb,Y Ak nk ck,Y Aa na ca,Y Af nf cf],Y B m d] w _;go_in;go_wp2_with fail;go_loopw [5] (fun iv wr=>∃(j:Nat)(y:TT)(t':iA),iv=O X (j:Int)/\j<=m/\Hid (y=Q j)/\Hid (fI (bM R V0 wr) wr t' y)/\Hid (aT wr w.heap.size 85 (fE t' y.1))/\Hid (aT wr (w.heap.size+1) 85 #[O X 0,O X 0,O X 0,Y Z 0 0,Y Z 0 0,Y Z 0 0])/\Hid (ZY w wr)) (fun iv _=>(((m:Int)-intOf iv)).toNat)
 case atStart=>exact⟨0,((⟨xo,xa,xb⟩:Nd),c9,xk),⟨Ak,nk,ck,Aa,na,ca,Af,nf,cf⟩,rfl,ZA _,HE,b5,aB ((aT.new _ _ _).alloc _),aB (aT.new' aD),b4⟩
 case round =>
  clear HE b5 b4;obtain⟨j,⟨⟨yo,ya,yb⟩,a6,yk⟩,⟨Ck,pk,ek,Ca,pa,ea,Cf,pf,ef⟩,rfl,hj,c1,c0,z,a0,G⟩:=hrel;simp only at z;have a1:=z.o.lt;by_cases b0:j<m;rotate_left
  . have dl:decide ((j:Int)<(m:Int))=false:=XQ aA;obtain rfl:j=m:=aA;have zy:=aT.cell z.o;have zz:=aT.cell a0.o;have zf:=aT.frozen a0.o;clear b0 hj;go_wp2_with fail;refine XW (v:=.agg #[O X yo,O X ya,O X yb,Y Ck pk ek,Y Ca pa ea,Y Cf pf ef]) ?_ rfl ?_
    . exact yW (g:=w.heap.size+1) (cK a0.o _ _ _ _ _ _) aD
    have e:y0=((⟨yo,ya,yb⟩:Nd),a6,yk):=a2.o.trans c1.o.symm;rw[e];exact fF.tt (x:=((⟨yo,ya,yb⟩:Nd),a6,yk)) (rV HR.o aA (by have:=HV.o;omega) G.o c0.o)
  have dl:decide ((j:Int)<(m:Int))=true:=XR aA;have c8:IntKind.i64.wrap ((j:Int)+1)=((j+1:Nat):Int):=by rw[XV];omega
  obtain⟨bk,ok,⟨Dk,rk,gk,Da,ra,ga,Df,rf,gf⟩,rfl,a9,a3,b2⟩:=HK.o.nthR b0;have b1:=a8.o j b0;obtain⟨a,b8⟩:=aAJ (cX (iP L) j);rw[<-b8]at a3 b2 b1;obtain⟨⟨ao,aa,ab⟩,b6,ak⟩:=a;have c2:=aB (XT (HR.o _ a9) G.o.size);have s:bk<wr.heap.size:=c2.o;obtain⟨c7,c4⟩:=aAC b2 b1;obtain⟨q0,q1,q2,q3,q4,q5⟩:=a3.below G.o (HR.o _ a9);have zy:=aT.cell z.o;clear b8 b1 b2 a3 a9;simp only at q0 q1 q2 q3 q4 q5;go_upto_region 4 with fail
  refine gF 8 (fun w'=>ZY wr w') aC ?_ (fun hZ=>?_)
  . (try dsimp only);exact aU (XS _ _) 1
  have F:Hid (ZY wr wr.drew):=aB (aU (XS _ _) 1);generalize wr.drew=W1 at *;refine bA (i:=0) (v:=?_) rfl aC aC aC aC aC (fun _ _ _ h=>h) (Or.inl ⟨by rfl,fun wq hSw=>?_⟩) hZ ?_;rotate_left
  . ((try dsimp only at hSw);go_simp;try with_reducible rfl)
  try simp only[p7]
  refine bA (i:=1) (v:=?_) rfl aC aC aC aC aC (fun _ _ _ h=>h) (Or.inl ⟨by rfl,fun wq hSw=>?_⟩) hZ ?_;rotate_left
  . (have s0:=(hSw.cell (p:=⟨w.heap.size,0,Z⟩) a1).trans (zy 0);have s1:=(hSw.cell (p:=⟨w.heap.size,1,Z⟩) a1).trans (zy 1);have s2:=(hSw.cell (p:=⟨w.heap.size,2,Z⟩) a1).trans (zy 2);have s3:=(hSw.cell (p:=⟨w.heap.size,3,Z⟩) a1).trans (zy 3);have s4:=(hSw.cell (p:=⟨w.heap.size,4,Z⟩) a1).trans (zy 4);have s5:=(hSw.cell (p:=⟨w.heap.size,5,Z⟩) a1).trans (zy 5);go_simp;try with_reducible rfl)
  try simp only[p7]
  refine bA (i:=2) (v:=?_) rfl aC aC aC aC aC (fun _ _ _ h=>h) (Or.inl ⟨by rfl,fun wq hSw=>?_⟩) hZ ?_;rotate_left
  . ((try dsimp only at hSw);go_simp;try with_reducible rfl)
  try simp only[p7]
  refine bA (i:=3) (v:=?_) rfl aC aC aC aC aC (fun _ _ _ h=>h) (Or.inl ⟨by rfl,fun wq hSw=>?_⟩) hZ ?_;rotate_left
  . ((try dsimp only at hSw);go_simp;try with_reducible rfl)
  try simp only[p7]
  refine bA (i:=4) (v:=?_) rfl aC aC aC aC aC (fun _ _ _ h=>h) (Or.inl ⟨by rfl,fun wq hSw=>?_⟩) hZ ?_;rotate_left
  . ((try dsimp only at hSw);go_simp;try with_reducible rfl)
  try simp only[p7]
  refine bA (i:=5) (v:=?_) rfl aC aC aC aC aC (fun _ _ _ h=>h) (Or.inl ⟨by rfl,fun wq hSw=>?_⟩) hZ ?_;rotate_left
  . (have s0:=(hSw.cell (p:=⟨bk,ok+j*6,Z⟩) s).trans q0;have s1:=(hSw.cell (p:=⟨bk,ok+j*6+1,Z⟩) s).trans q1;have s2:=(hSw.cell (p:=⟨bk,ok+j*6+2,Z⟩) s).trans q2;have s3:=(hSw.cell (p:=⟨bk,ok+j*6+3,Z⟩) s).trans q3;have s4:=(hSw.cell (p:=⟨bk,ok+j*6+4,Z⟩) s).trans q4;have s5:=(hSw.cell (p:=⟨bk,ok+j*6+5,Z⟩) s).trans q5;go_simp;try with_reducible rfl)
  try simp only[p7]
  refine bV (i:=6) aC rfl rfl (fun K hK=>?_);go_simp;refine hK.o _ _ (fun _=>?_) ?_
  . (try dsimp only);exact F.o.alloc F.o.size (I #[O X yo,O X ya,O X yb,Y Ck pk ek,Y Ca pa ea,Y Cf pf ef,O X ao,O X aa,O X ab,Y Dk rk gk,Y Da ra ga,Y Df rf gf] 85)
  clear hK K;try simp only[p7]
  replace hZ:=F.o.alloc F.o.size (I #[O X yo,O X ya,O X yb,Y Ck pk ek,Y Ca pa ea,Y Cf pf ef,O X ao,O X aa,O X ab,Y Dk rk gk,Y Da ra ga,Y Df rf gf] 85)
  obtain⟨U,a7,c3⟩:=aAF (F.o.alloc F.o.size (I #[O X yo,O X ya,O X yb,Y Ck pk ek,Y Ca pa ea,Y Cf pf ef,O X ao,O X aa,O X ab,Y Dk rk gk,Y Da ra ga,Y Df rf gf] 85)) ((z.o.below F.o z.o.lt).alloc (I #[O X yo,O X ya,O X yb,Y Ck pk ek,Y Ca pa ea,Y Cf pf ef,O X ao,O X aa,O X ab,Y Dk rk gk,Y Da ra ga,Y Df rf gf] 85)) (aT.new W1 85 #[O X yo,O X ya,O X yb,Y Ck pk ek,Y Ca pa ea,Y Cf pf ef,O X ao,O X aa,O X ab,Y Dk rk gk,Y Da ra ga,Y Df rf gf]);have c6:Hid ((W1.alloc (I #[O X yo,O X ya,O X yb,Y Ck pk ek,Y Ca pa ea,Y Cf pf ef,O X ao,O X aa,O X ab,Y Dk rk gk,Y Da ra ga,Y Df rf gf] 85)).heap.size=W1.heap.size+1):=aB aD;generalize W1.alloc (I #[O X yo,O X ya,O X yb,Y Ck pk ek,Y Ca pa ea,Y Cf pf ef,O X ao,O X aa,O X ab,Y Dk rk gk,Y Da ra ga,Y Df rf gf] 85)=Wa at *;have zs:=aT.cell a7.o;have d0:=aT.frozen a7.o;refine bA (i:=7) (v:=?_) rfl aC aC aC aC aC (fun _ _ _ h=>h) (Or.inl ⟨by rfl,fun wq hSw=>?_⟩) hZ ?_;rotate_left
  . ((try dsimp only at hSw);go_simp;try with_reducible rfl)
  try simp only[p7]
  refine bV (i:=8) aC rfl rfl (fun K hK=>?_);go_simp;refine hK.o _ _ (fun h=>absurd rfl h) ?_;clear hK K;try simp only[p7]
  refine gW aC ?_ _;clear q0 q1 q2 q3 q4 q5 zy;go_wp2_with fail;have b9:=e7 Wa w.heap.size (O X 6) (O X 0) (O X 0) (Y (some ⟨W1.heap.size,0,Z⟩) 2 2) (Y Z 0 0) (Y Z 0 0);obtain⟨a4,c5⟩:=aAC b9 F.o.size;clear b9 zs d0;go_roundw
  case rel =>
   refine⟨j+1,gR ((⟨yo,ya,yb⟩:Nd),a6,yk) ((⟨ao,aa,ab⟩:Nd),b6,ak),⟨some ⟨W1.heap.size,0,Z⟩,2,2,Z,0,0,Z,0,0⟩,by first|rfl|exact congrArg _ c8,by omega,aB (by rw[c4.o,<-c1.o]),aB ?_,aB (cK a7.o _ _ _ _ _ _),aB (((a0.o.below U.o a0.o.lt)).grown a4.o aK),aB ((G.o.trans (U.o.mono G.o.size)).grown a4.o (by have:=G.o.size;have:=U.o.size;omega) (fun q D=>by injection D with D;omega))⟩;have hv:V0.heap.size<=wr.heap.size:=by have:=a0.o.lt;have:=HV.o;omega
   have h1:fI (bM R V0 Wa) Wa ⟨Ck,pk,ek,Ca,pa,ea,Cf,pf,ef⟩ ((⟨yo,ya,yb⟩:Nd),a6,yk):=c0.o.keep fun q D=>⟨D.to (XU _) U.o.size,fun o=>U.o.cell (p:=⟨q,o,Z⟩) (show q<wr.heap.size by
    rcases D with D|D
    . have:=HR.o _ D;omega
    exact D.2)⟩
   have h2:fI (bM R V0 Wa) Wa ⟨Dk,rk,gk,Da,ra,ga,Df,rf,gf⟩ ((⟨ao,aa,ab⟩:Nd),b6,ak):=c7.o.keep fun q D=>⟨Or.inl D,fun o=>(G.o.trans (U.o.mono G.o.size)).cell (p:=⟨q,o,Z⟩) (HR.o _ D)⟩;have h3:=UL h1 h2 c3.o (Or.inr ⟨by have:=c5.o;omega,by have:=c6.o;omega⟩);exact h3.keep fun q D=>⟨D.to (XU _) a4.o.size,fun o=>aP (a4.o.block q (by
    rcases D with D|D
    . have:=HR.o _ D;have:=U.o.size;omega
    . exact D.2) (by
    intro e;injection e with e;rcases D with D|D
    . have:=HR.o _ D;omega
    have:=D.1;have:=HV.o;omega)) o⟩
  case measure=>simp[intOf]<;>omega
end
end Go.Proofs.YtjoddliplahgkaaGreat
