/- Merged: BookV, BookN, BookNode, BookRow. -/
import Derived.Test.YtlahmbhimhmoaaaVLevels
namespace Go.Proofs.Ytlahmbhimhmoaaa
set_option linter.unusedVariables false
set_option linter.unusedSimpArgs false
open Go.RowKit
open Go.Value renaming slice → O
open Option renaming none → X, some → Y
open Go.Obj renaming cells → Z
open Go.Lib renaming hid->aB
set_option maxHeartbeats 8000000
set_option maxRecDepth 100000
variable {c n:Nat}{A:OC}{w w':OE}
structure dO (w:OE) (A:OC) (n c:Nat) (ls:OD):Prop where
 len:ls.length=n
 few:n<=5864062014805
 mem:0<n->∃b off,A=Y ⟨b,off,X⟩/\b<w.heap.size/\∀k,k<n->∃A' n' c',w.cell? ⟨b,off+k,X⟩=Y (O A' n' c')/\aX w A' n' c' (ls.getD k [])
theorem dO.below{ls:OD}(h:dO w A n c ls)(F:OB w w'):dO w' A n c ls :=
 ⟨h.len,h.few,fun hn=>by
  obtain⟨b,off,e,D,z⟩:=h.mem hn;refine⟨b,off,e,MD D F.size,fun k s=>?_⟩;obtain⟨G,n',I,U,o⟩:=z k s;exact⟨G,n',I,(F.cell (p:=⟨b,off+k,X⟩) D).trans U,o.below F⟩⟩
theorem dO.at_{ls:OD}(h:dO w A n c ls){k:Nat}(s:k<n):∃b off D G F,A=Y ⟨b,off,X⟩/\b<w.heap.size/\w.cell? ⟨b,off+k,X⟩=Y (O D G F)/\aX w D G F (ls.getD k []):=by
 obtain⟨b,off,e,o,z⟩:=h.mem aA;obtain⟨D,G,F,I,U⟩:=z k s;exact⟨b,off,D,G,F,e,o,I,U⟩
structure Ct where
 args:List (List Nd)
 outs:List (List Nd)
instance:Inhabited Ct:=⟨⟨[],[]⟩⟩
structure En where
 kind:Int
 sort:List Nd
 params:List (List Nd)
 indices:List (List Nd)
 ctors:List Ct
 type:List Nd
 body:List Nd
instance:Inhabited En:=⟨⟨0,[],[],[],[],[],[]⟩⟩
structure Bk where
 vars:Int
 orders:List Nd
 entries:List En
 nat:Int
 prims:List (Int×Int)
instance:Inhabited Bk:=⟨⟨0,[],[],0,[]⟩⟩
structure sM (w:OE) (A:OC) (n c:Nat) (cs:List Ct):Prop where
 len:cs.length=n
 few:n<=5864062014805
 mem:0<n->∃b off,A=Y ⟨b,off,X⟩/\b<w.heap.size/\∀k,k<n->∃A1 n1 c1 A2 n2 c2,w.cell? ⟨b,off+k*2,X⟩=Y (O A1 n1 c1)/\w.cell? ⟨b,off+k*2+1,X⟩=Y (O A2 n2 c2)/\dO w A1 n1 c1 (cs.getD k default).args/\dO w A2 n2 c2 (cs.getD k default).outs
theorem sM.below{cs:List Ct}(h:sM w A n c cs)(F:OB w w'):sM w' A n c cs :=
 ⟨h.len,h.few,fun hn=>by
  obtain⟨b,off,e,D,hm⟩:=h.mem hn;refine⟨b,off,e,MD D F.size,fun k hk=>?_⟩;obtain⟨G,n1,U,I,n2,o,s,z,h3,h4⟩:=hm k hk;exact⟨G,n1,U,I,n2,o,(F.cell (p:=⟨b,off+k*2,X⟩) D).trans s,(F.cell (p:=⟨b,off+k*2+1,X⟩) D).trans z,h3.below F,h4.below F⟩⟩
structure gC where
 As:Option Addr
 ns:Nat
 cs:Nat
 Ap:Option Addr
 np:Nat
 cp:Nat
 Ai:Option Addr
 ni:Nat
 ci:Nat
 Ac:Option Addr
 nc:Nat
 cc:Nat
 At:Option Addr
 nt:Nat
 ct:Nat
 Ab:Option Addr
 nb:Nat
 cb:Nat
structure tT (w:OE) (v:gC) (x:En):Prop where
 sort:aX w v.As v.ns v.cs x.sort
 params:dO w v.Ap v.np v.cp x.params
 indices:dO w v.Ai v.ni v.ci x.indices
 ctors:sM w v.Ac v.nc v.cc x.ctors
 type:aX w v.At v.nt v.ct x.type
 body:aX w v.Ab v.nb v.cb x.body
theorem tT.below{v:gC}{x:En}(h:tT w v x)(D:OB w w'):tT w' v x :=
 ⟨h.sort.below D,h.params.below D,h.indices.below D,h.ctors.below D,h.type.below D,h.body.below D⟩
structure wQ (w:OE) (A:OC) (n c:Nat) (es:List En):Prop where
 len:es.length=n
 few:n<=5864062014805
 mem:0<n->∃b off,A=Y ⟨b,off,X⟩/\b<w.heap.size/\∀k,k<n->∃v:gC,w.cell? ⟨b,off+k*7,X⟩=Y (.int .i64 (es.getD k default).kind)/\w.cell? ⟨b,off+k*7+1,X⟩=Y (O v.As v.ns v.cs)/\w.cell? ⟨b,off+k*7+2,X⟩=Y (O v.Ap v.np v.cp)/\w.cell? ⟨b,off+k*7+3,X⟩=Y (O v.Ai v.ni v.ci)/\w.cell? ⟨b,off+k*7+4,X⟩=Y (O v.Ac v.nc v.cc)/\w.cell? ⟨b,off+k*7+5,X⟩=Y (O v.At v.nt v.ct)/\w.cell? ⟨b,off+k*7+6,X⟩=Y (O v.Ab v.nb v.cb)/\tT w v (es.getD k default)
theorem wQ.below{es:List En}(h:wQ w A n c es)(F:OB w w'):wQ w' A n c es :=
 ⟨h.len,h.few,fun hn=>by
  obtain⟨b,off,e,D,hm⟩:=h.mem hn;refine⟨b,off,e,MD D F.size,fun k hk=>?_⟩;obtain⟨v,G,I,U,o,s,z,h6,h7⟩:=hm k hk;exact⟨v,(F.cell (p:=⟨b,off+k*7,X⟩) D).trans G,(F.cell (p:=⟨b,off+k*7+1,X⟩) D).trans I,(F.cell (p:=⟨b,off+k*7+2,X⟩) D).trans U,(F.cell (p:=⟨b,off+k*7+3,X⟩) D).trans o,(F.cell (p:=⟨b,off+k*7+4,X⟩) D).trans s,(F.cell (p:=⟨b,off+k*7+5,X⟩) D).trans z,(F.cell (p:=⟨b,off+k*7+6,X⟩) D).trans h6,h7.below F⟩⟩
theorem wQ.at_{es:List En}(h:wQ w A n c es){k:Nat}(G:k<n):∃b off,A=Y ⟨b,off,X⟩/\b<w.heap.size/\∃v:gC,w.cell? ⟨b,off+k*7,X⟩=Y (.int .i64 (es.getD k default).kind)/\w.cell? ⟨b,off+k*7+1,X⟩=Y (O v.As v.ns v.cs)/\w.cell? ⟨b,off+k*7+2,X⟩=Y (O v.Ap v.np v.cp)/\w.cell? ⟨b,off+k*7+3,X⟩=Y (O v.Ai v.ni v.ci)/\w.cell? ⟨b,off+k*7+4,X⟩=Y (O v.Ac v.nc v.cc)/\w.cell? ⟨b,off+k*7+5,X⟩=Y (O v.At v.nt v.ct)/\w.cell? ⟨b,off+k*7+6,X⟩=Y (O v.Ab v.nb v.cb)/\tT w v (es.getD k default):=by
 obtain⟨b,off,e,F,I⟩:=h.mem aA;obtain⟨v,D⟩:=I k G;exact⟨b,off,e,F,v,D⟩
structure lX (w:OE) (A:OC) (n c:Nat) (ps:List (Int×Int)):Prop where
 len:ps.length=n
 few:n<=8796093021952
 mem:0<n->∃b off,A=Y ⟨b,off,X⟩/\b<w.heap.size/\∀k,k<n->w.cell? ⟨b,off+k*2,X⟩=Y (.int .i64 (ps.getD k (0,0)).1)/\w.cell? ⟨b,off+k*2+1,X⟩=Y (.int .i64 (ps.getD k (0,0)).2)
theorem lX.below{G:List (Int×Int)}(h:lX w A n c G)(F:OB w w'):lX w' A n c G :=
 ⟨h.len,h.few,fun z=>by
  obtain⟨b,off,e,D,s⟩:=h.mem z;refine⟨b,off,e,MD D F.size,fun k o=>?_⟩;obtain⟨I,U⟩:=s k o;exact⟨(F.cell (p:=⟨b,off+k*2,X⟩) D).trans I,(F.cell (p:=⟨b,off+k*2+1,X⟩) D).trans U⟩⟩
structure bA where
 Ao:Option Addr
 no:Nat
 co:Nat
 Ae:Option Addr
 ne:Nat
 ce:Nat
 Ap:Option Addr
 np:Nat
 cp:Nat
structure bO (w:OE) (v:bA) (b:Bk):Prop where
 orders:aX w v.Ao v.no v.co b.orders
 entries:wQ w v.Ae v.ne v.ce b.entries
 prims:lX w v.Ap v.np v.cp b.prims
 vars:(Lit.int .i64 b.vars).wf=true
 nat:(Lit.int .i64 b.nat).wf=true
 kinds:∀x∈b.entries,(Lit.int .i64 x.kind).wf=true
 primsw:∀p∈b.prims,(Lit.int .i64 p.1).wf=true/\(Lit.int .i64 p.2).wf=true
theorem bO.below{v:bA}{b:Bk}(h:bO w v b)(D:OB w w'):bO w' v b :=
 ⟨h.orders.below D,h.entries.below D,h.prims.below D,h.vars,h.nat,h.kinds,h.primsw⟩
theorem nG:∀(k:Nat)(D:Int)(l:List Nd)(p:List Nd×List Nd),bE k D l=Y p->∀m∈p.1,bR m.op m.a m.b=true
 | 0,_,_,p,h,m,hm=>by
  simp only[bE,MS]at h;subst h;cases hm
 | k+1,D,[],p,h,m,hm=>by simp[bE]at h
 | k+1,D,x::l,p,h,m,hm=>by
  simp only[bE]at h;split at h
  . rename_i F
    simp only[NQ]at h;obtain⟨q,G,rfl⟩:=h;rcases MU.1 hm with rfl|hm
    . exact F.2.1
    exact nG k x.a l q G m hm
  . cases h
theorem qG:∀(F:Fo)(o:List Bool),Wf o F->∀m∈row F,bR m.op m.a m.b=true
 | .nil,_,_,m,hm=>by cases hm
 | .cons p n a k x,[],h,m,hm=>h.elim
 | .cons p n a k x,d::dr,h,m,hm=>by
  obtain⟨I,G,D,s,z⟩:=h;simp only[row,MW,MU]at hm;simp only[eU,ME]at G;rcases hm with hm|rfl|hm|hm|hm
  . cases d with
    | false=>simp only at I;subst I;cases hm
    | true =>
     obtain⟨f,rfl,U⟩:=I;rw[List.mem_singleton]at hm;subst hm;simp only[yG,ME]at U;exact U.1
  . exact G.1.1
  . unfold gI at D;split at D
    . exact nG _ _ _ _ D m hm
    subst D;cases hm
  . exact qG k _ s m hm
  . exact qG x _ z m hm
theorem v5{l:List Nd}(h:aZ l=0):∀m∈l,bR m.op m.a m.b=true:=by
 obtain⟨n,a,k,F⟩:=AJ h;have G:=jU F.pp;intro m D;refine qG _ _ G m ?_;rw[F.eq]at D;simpa[row] using D
def bP(b:Bk)(e:Int):En:=b.entries.getD e.toNat default
def gN(b:Bk)(D e:Int):Bool:=decide (e<D)&&(bP b e).kind==1
def cE(b:Bk)(D F:Int)(m:Nd):Bool :=
 if m.op=3 then decide (m.a<=b.vars)
 else if m.op=8 then decide (m.a<D)&&(bP b m.a).kind==2
 else if m.op=9 then m.a==F||gN b D m.a
 else if m.op=11 then gN b D m.a
 else if m.op=10 then gN b D m.a&&decide (m.b<((bP b m.a).ctors.length:Int))
 else true
def gT(b:Bk)(D F:Int)(l:List Nd)(below:Int):Int :=
 if aZ l≠0 then aZ l else if fZ l below=false then 8 else if l.all (cE b D F) then 0 else 8
def dH(b:Bk)(D F:Int)(step:Int):List (List Nd)->Int->Int
 | [],_=>0
 | l::r,below=>if gT b D F l below≠0 then gT b D F l below else dH b D F step r (below+step)
def gL(b:Bk)(D:Int)(x:En):List Ct->Int
 | []=>0
 | c::r =>
  if 16<c.args.length then 5
  else if c.outs.length≠x.indices.length then 8
  else if dH b D D 1 c.args x.params.length≠0 then dH b D D 1 c.args x.params.length
  else if dH b D D 0 c.outs ((x.params.length:Int)+c.args.length)≠0 then dH b D D 0 c.outs ((x.params.length:Int)+c.args.length)
  else gL b D x r
def lP(l:List Nd):Int:=if (bB l 0).op≠2 then 8 else 0
def hX:List Int->Int
 | []=>0
 | e::r=>if e≠0 then e else hX r
def dK(b:Bk)(D:Int)(x:En):Int :=
 if x.kind=1 then
  if 0<x.type.length+x.body.length then 8
  else if 16<x.params.length\/16<x.indices.length\/16<x.ctors.length then 5
  else hX [gT b D (-1) x.sort 0,lP x.sort,dH b D (-1) 1 x.params 0,dH b D (-1) 1 x.indices x.params.length,gL b D x x.ctors]
 else if x.kind=2 then
  if 0<x.sort.length+x.params.length+x.indices.length+x.ctors.length then 8
  else dH b D (-1) 0 [x.type,x.body] 0
 else 8
def dC(b:Bk):Nat->List En->Int
 | _,[]=>0
 | i,x::r=>if dK b i x≠0 then dK b i x else dC b (i+1) r
def CM(b:Bk)(e:Int):Bool :=
 if e<0 then false
 else if (b.entries.length:Int)<=e then false
 else if (bP b e).kind≠1 then false
 else if (bP b e).sort.length≠2 then false
 else if (bB (bP b e).sort 0).a≠1 then false
 else if bB (bP b e).sort 1≠⟨3,0,0⟩ then false
 else if 0<(bP b e).params.length+(bP b e).indices.length then false
 else if (bP b e).ctors.length≠2 then false
 else if ((bP b e).ctors.getD 0 default).args.length≠0 then false
 else if ((bP b e).ctors.getD 1 default).args.length≠1 then false
 else if (((bP b e).ctors.getD 1 default).args.getD 0 []).length≠1 then false
 else decide (bB (((bP b e).ctors.getD 1 default).args.getD 0 []) 0=⟨9,e,0⟩)
def jO(b:Bk):List (Int×Int)->GF->Bool
 | [],_=>true
 | p::r,g =>
  if p.1<0 then false
  else if (b.entries.length:Int)<=p.1 then false
  else if (bP b p.1).kind≠2 then false
  else if p.2<1 then false
  else if 3<p.2 then false
  else if 0<(g p.1 (-1)).getD 0+(g (-1) p.2).getD 0 then false
  else jO b r (eD (eD g p.1 (-1) 1) (-1) p.2 1)
def yS(b:Bk):Bool :=
 if b.nat ≠ -1 then (if CM b b.nat then jO b b.prims (fun _ _=>X) else false)
 else if 0<b.prims.length then false else true
def bD(b:Bk):Int :=
 if (kT b.vars b.orders).1≠0 then (kT b.vars b.orders).1
 else if 64<b.entries.length then 5
 else if dC b 0 b.entries≠0 then dC b 0 b.entries
 else if yS b then 0 else 22
def dQ(b:Bk)(free:Int)(l:List Nd):Int :=
 if bD b≠0 then bD b else if free<0 then 1 else gT b b.entries.length (-1) l free
theorem fI{v:bA}{b:Bk}(h:bO w v b)(D I:Int)(hk:D<=b.entries.length)(e:Nat):
 Calls Try.prog 54 #[.agg #[.int .i64 b.vars,O v.Ao v.no v.co,O v.Ae v.ne v.ce,.int .i64 b.nat,O v.Ap v.np v.cp,.int .i64 D,.int .i64 I],.int .i64 (e:Int)] w (e8 (gN b D e) w):=by
 have s:=aB (aQ w (Z #[.int .i64 b.vars,O v.Ao v.no v.co,O v.Ae v.ne v.ce,.int .i64 b.nat,O v.Ap v.np v.cp,.int .i64 D,.int .i64 I] 64));have F:=h.entries.len;by_cases G:(e:Int)<D
 . have U:decide ((e:Int)<D)=true:=MB G;obtain⟨be,oe,hA,a1,ev,a0,_⟩:=h.entries.at_ (k:=e) aA;have z:Hid (gN b D e=((bP b e).kind==1)):=aB (by unfold gN;rw[U,NI]);rw[show b.entries.getD e default=bP b e from by unfold bP;rw[NA]]at a0;obtain⟨Ao,no,co,Ae,ne,ce,Ap,np,cp⟩:=v;simp only at hA F s ⊢;subst hA;have a2:e<ne:=aA;generalize (bP b e).kind=kd at *;generalize b.vars=bv at *;generalize b.nat=bn at *;generalize gN b D e=res at *;clear h F hk G;go_in;go_wp2_with fail;go_ret;rw[z.o];exact⟨rfl,s.o⟩
 have U:decide ((e:Int)<D)=false:=MA G;have z:Hid (gN b D e=false):=aB (by unfold gN;rw[U,Bool.false_and]);generalize b.vars=bv at *;generalize b.nat=bn at *;generalize gN b D e=res at *;clear h F hk G;go_in;go_wp2_with fail;go_ret;rw[z.o];exact⟨rfl,s.o⟩
theorem rI(w:OE)(p:Addr):w.drew.cell? p=w.cell? p:=rfl
theorem CJ{v:bA}{b:Bk}(hb:bO w v b)(D F:Int)(hk:D<=b.entries.length)(m:Nd)(hp:bR m.op m.a m.b=true)(z:m.op=3):
 Calls Try.prog 42 #[.agg #[.int .i64 b.vars,O v.Ao v.no v.co,O v.Ae v.ne v.ce,.int .i64 b.nat,O v.Ap v.np v.cp,.int .i64 D,.int .i64 F],.agg #[.int .i64 m.op,.int .i64 m.a,.int .i64 m.b]] w (e8 (cE b D F m) w):=by
 have a2:=bI.1 hp;have U:=hb.entries.len;obtain⟨ea,a1⟩:∃ea:Nat,m.a=(ea:Int):=⟨m.a.toNat,by omega⟩;obtain⟨s,G⟩:=OF (fun (h:(ea:Int)<D)=>hb.entries.at_ (k:=ea) aA) (fun (w':OE) (h:OB w w')=>fI (hb.below h) D F hk ea);have I:b.entries.getD ea default=bP b m.a:=by rw[a1];unfold bP;rw[NA]
 rw[I]at s;obtain⟨Ao,no,co,Ae,ne,ce,Ap,np,cp⟩:=v;simp only at U s G ⊢;have a4:D<=(ne:Int):=aA;have a0:=aB ((aQ w (Z #[.int .i64 b.vars,O Ao no co,O Ae ne ce,.int .i64 b.nat,O Ap np cp,.int .i64 D,.int .i64 F] 64)).alloc aD (Z #[.int .i64 m.op,.int .i64 m.a,.int .i64 m.b] 42));have HR:Hid (cE b D F m=decide (m.a<=b.vars)):=aB (by unfold cE;rw[LZ z]);rw[z]at a0 ⊢;generalize cE b D F m=res at *;generalize b.vars=bv at *;generalize b.nat=bn at *;generalize m.b=mb at *;generalize m.a=ma at *;generalize a3:decide (ma<=bv)=db at *;clear hb hk hp a2 I a1 s G U z;go_in;go_wp2_with fail;go_ret;rw[HR.o];exact⟨rfl,a0.o⟩
theorem E0{v:bA}{b:Bk}(hb:bO w v b)(D G:Int)(hk:D<=b.entries.length)(m:Nd)(hp:bR m.op m.a m.b=true)(F:m.op≠3/\m.op≠8/\m.op≠9/\m.op≠11/\m.op≠10):
 Calls Try.prog 42 #[.agg #[.int .i64 b.vars,O v.Ao v.no v.co,O v.Ae v.ne v.ce,.int .i64 b.nat,O v.Ap v.np v.cp,.int .i64 D,.int .i64 G],.agg #[.int .i64 m.op,.int .i64 m.a,.int .i64 m.b]] w (e8 (cE b D G m) w):=by
 have a2:=bI.1 hp;have s:=hb.entries.len;obtain⟨ea,a0⟩:∃ea:Nat,m.a=(ea:Int):=⟨m.a.toNat,by omega⟩;obtain⟨z,I⟩:=OF (fun (h:(ea:Int)<D)=>hb.entries.at_ (k:=ea) aA) (fun (w':OE) (h:OB w w')=>fI (hb.below h) D G hk ea);have U:b.entries.getD ea default=bP b m.a:=by rw[a0];unfold bP;rw[NA]
 rw[U]at z;obtain⟨Ao,no,co,Ae,ne,ce,Ap,np,cp⟩:=v;simp only at s z I ⊢;have a3:D<=(ne:Int):=aA;have a1:=aB ((aQ w (Z #[.int .i64 b.vars,O Ao no co,O Ae ne ce,.int .i64 b.nat,O Ap np cp,.int .i64 D,.int .i64 G] 64)).alloc aD (Z #[.int .i64 m.op,.int .i64 m.a,.int .i64 m.b] 42));have HR:Hid (cE b D G m=true):=aB (by unfold cE;rw[aN F.1,aN F.2.1,aN F.2.2.1,aN F.2.2.2.1,aN F.2.2.2.2]);have q1:(m.op==3)=false:=by simpa using F.1
 have q2:(m.op==8)=false:=by simpa using F.2.1
 have q3:(m.op==9)=false:=by simpa using F.2.2.1
 have q4:(m.op==11)=false:=by simpa using F.2.2.2.1
 have q5:(m.op==10)=false:=by simpa using F.2.2.2.2
 clear F hb hk hp a2 U a0 z I s;generalize cE b D G m=res at *;generalize b.vars=bv at *;generalize b.nat=bn at *;generalize m.b=mb at *;generalize m.a=ma at *;generalize m.op=op at *;go_in;go_wp2_with fail;go_ret;rw[HR.o];exact⟨rfl,a1.o⟩
theorem yD{v:bA}{b:Bk}(hb:bO w v b)(D F:Int)(hk:D<=b.entries.length)(m:Nd)(hp:bR m.op m.a m.b=true)(a0:m.op=8):
 Calls Try.prog 42 #[.agg #[.int .i64 b.vars,O v.Ao v.no v.co,O v.Ae v.ne v.ce,.int .i64 b.nat,O v.Ap v.np v.cp,.int .i64 D,.int .i64 F],.agg #[.int .i64 m.op,.int .i64 m.a,.int .i64 m.b]] w (e8 (cE b D F m) w):=by
 have a5:=bI.1 hp;have U:=hb.entries.len;obtain⟨I,z⟩:∃I:Nat,m.a=(I:Int):=⟨m.a.toNat,by omega⟩;obtain⟨G,a4⟩:=OF (fun (h:(I:Int)<D)=>hb.entries.at_ (k:=I) aA) (fun (w':OE) (h:OB w w')=>fI (hb.below h) D F hk I);have a1:b.entries.getD I default=bP b m.a:=by rw[z];unfold bP;rw[NA]
 rw[a1]at G;obtain⟨Ao,no,co,Ae,ne,ce,Ap,np,cp⟩:=v;simp only at U G a4 ⊢;have a8:D<=(ne:Int):=aA;have a2:=aB ((aQ w (Z #[.int .i64 b.vars,O Ao no co,O Ae ne ce,.int .i64 b.nat,O Ap np cp,.int .i64 D,.int .i64 F] 64)).alloc aD (Z #[.int .i64 m.op,.int .i64 m.a,.int .i64 m.b] 42));have HR:Hid (cE b D F m=(decide ((I:Int)<D)&&(bP b m.a).kind==2)):=aB (by unfold cE;rw[aN aA,LZ a0,z]);rw[a0]at a2 ⊢;generalize cE b D F m=res at *;generalize hkd:(bP b m.a).kind=kd at *;generalize hcl:(bP b m.a).ctors.length=cl at *;generalize gN b D m.a=fam at *;generalize b.vars=bv at *;generalize b.nat=bn at *;generalize m.b=mb at *;rw[z]at *;clear hb hk hp a5 a1 z;by_cases s:(I:Int)<D
 . have a3:decide ((I:Int)<D)=true:=MB s;obtain⟨be,oe,rfl,a6,ev,a7,_⟩:=G.o s;have a9:I<ne:=aA;rw[a3,NI]at HR;clear s G U hkd hcl a0;go_in;go_wp2_with fail;go_ret;rw[HR.o];exact⟨rfl,a2.o⟩
 have a3:decide ((I:Int)<D)=false:=MA s;rw[a3,Bool.false_and]at HR;clear s G U hkd hcl a0;go_in;go_wp2_with fail;go_ret;rw[HR.o];exact⟨rfl,a2.o⟩
theorem EZ{v:bA}{b:Bk}(hb:bO w v b)(D F:Int)(hk:D<=b.entries.length)(m:Nd)(hp:bR m.op m.a m.b=true)(a2:m.op=9):
 Calls Try.prog 42 #[.agg #[.int .i64 b.vars,O v.Ao v.no v.co,O v.Ae v.ne v.ce,.int .i64 b.nat,O v.Ap v.np v.cp,.int .i64 D,.int .i64 F],.agg #[.int .i64 m.op,.int .i64 m.a,.int .i64 m.b]] w (e8 (cE b D F m) w):=by
 have a7:=bI.1 hp;have U:=hb.entries.len;obtain⟨s,I⟩:∃s:Nat,m.a=(s:Int):=⟨m.a.toNat,by omega⟩;obtain⟨a0,G⟩:=OF (fun (h:(s:Int)<D)=>hb.entries.at_ (k:=s) aA) (fun (w':OE) (h:OB w w')=>fI (hb.below h) D F hk s);have a3:b.entries.getD s default=bP b m.a:=by rw[I];unfold bP;rw[NA]
 rw[a3]at a0;obtain⟨Ao,no,co,Ae,ne,ce,Ap,np,cp⟩:=v;simp only at U a0 G ⊢;have a8:D<=(ne:Int):=aA;have z:=aB ((aQ w (Z #[.int .i64 b.vars,O Ao no co,O Ae ne ce,.int .i64 b.nat,O Ap np cp,.int .i64 D,.int .i64 F] 64)).alloc aD (Z #[.int .i64 m.op,.int .i64 m.a,.int .i64 m.b] 42));have HR:Hid (cE b D F m=(((s:Int)==F)||gN b D m.a)):=aB (by unfold cE;rw[aN aA,aN aA,LZ a2,I]);rw[<-I]at G;rw[a2]at z ⊢;generalize cE b D F m=res at *;generalize hkd:(bP b m.a).kind=kd at *;generalize hcl:(bP b m.a).ctors.length=cl at *;generalize gN b D m.a=fam at *;generalize b.vars=bv at *;generalize b.nat=bn at *;generalize m.b=mb at *;rw[I]at *;clear hb hk hp a7 a3 I;by_cases a1:(s:Int)=F
 . have a4:((s:Int)==F)=true:=by simp[a1]
   rw[a4,Bool.true_or]at HR;clear a1 a0 U hkd hcl a2;go_in;go_wp2_with fail;go_ret;rw[HR.o];exact⟨rfl,z.o⟩
 have a4:((s:Int)==F)=false:=by simpa using a1
 rw[a4,NK]at HR;clear a1 a0 U hkd hcl a2;go_in;go_wp2_with fail;refine (G.o _ z.o).mono ?_;rintro e w2 ⟨rfl,a5⟩;have a6:=bK z a5;clear a5;go_wp2_with fail;go_ret;rw[HR.o];exact⟨rfl,a6.o⟩
theorem yF{v:bA}{b:Bk}(hb:bO w v b)(D F:Int)(hk:D<=b.entries.length)(m:Nd)(hp:bR m.op m.a m.b=true)(a1:m.op=11):
 Calls Try.prog 42 #[.agg #[.int .i64 b.vars,O v.Ao v.no v.co,O v.Ae v.ne v.ce,.int .i64 b.nat,O v.Ap v.np v.cp,.int .i64 D,.int .i64 F],.agg #[.int .i64 m.op,.int .i64 m.a,.int .i64 m.b]] w (e8 (cE b D F m) w):=by
 have a4:=bI.1 hp;have s:=hb.entries.len;obtain⟨ea,I⟩:∃ea:Nat,m.a=(ea:Int):=⟨m.a.toNat,by omega⟩;obtain⟨a0,G⟩:=OF (fun (h:(ea:Int)<D)=>hb.entries.at_ (k:=ea) aA) (fun (w':OE) (h:OB w w')=>fI (hb.below h) D F hk ea);have U:b.entries.getD ea default=bP b m.a:=by rw[I];unfold bP;rw[NA]
 rw[U]at a0;obtain⟨Ao,no,co,Ae,ne,ce,Ap,np,cp⟩:=v;simp only at s a0 G ⊢;have a5:D<=(ne:Int):=aA;have z:=aB ((aQ w (Z #[.int .i64 b.vars,O Ao no co,O Ae ne ce,.int .i64 b.nat,O Ap np cp,.int .i64 D,.int .i64 F] 64)).alloc aD (Z #[.int .i64 m.op,.int .i64 m.a,.int .i64 m.b] 42));have HR:Hid (cE b D F m=gN b D m.a):=aB (by unfold cE;rw[aN aA,aN aA,aN aA,LZ a1]);rw[<-I]at G;rw[a1]at z ⊢;generalize cE b D F m=res at *;generalize hkd:(bP b m.a).kind=kd at *;generalize hcl:(bP b m.a).ctors.length=cl at *;generalize gN b D m.a=fam at *;generalize b.vars=bv at *;generalize b.nat=bn at *;generalize m.b=mb at *;rw[I]at *;clear hb hk hp a4 U I;clear a0 s hkd hcl a1;go_in;go_wp2_with fail;refine (G.o _ z.o).mono ?_;rintro e w2 ⟨rfl,a2⟩;have a3:=bK z a2;clear a2;go_wp2_with fail;go_ret;rw[HR.o];exact⟨rfl,a3.o⟩
theorem CK{v:bA}{b:Bk}(hb:bO w v b)(D F:Int)(hk:D<=b.entries.length)(m:Nd)(hp:bR m.op m.a m.b=true)(a8:m.op=10):
 Calls Try.prog 42 #[.agg #[.int .i64 b.vars,O v.Ao v.no v.co,O v.Ae v.ne v.ce,.int .i64 b.nat,O v.Ap v.np v.cp,.int .i64 D,.int .i64 F],.agg #[.int .i64 m.op,.int .i64 m.a,.int .i64 m.b]] w (e8 (cE b D F m) w):=by
 have b9:=bI.1 hp;have a6:=hb.entries.len;obtain⟨s,a5⟩:∃s:Nat,m.a=(s:Int):=⟨m.a.toNat,by omega⟩;obtain⟨a4,a2⟩:=OF (fun (h:(s:Int)<D)=>hb.entries.at_ (k:=s) aA) (fun (w':OE) (h:OB w w')=>fI (hb.below h) D F hk s);have a9:b.entries.getD s default=bP b m.a:=by rw[a5];unfold bP;rw[NA]
 rw[a9]at a4;obtain⟨Ao,no,co,Ae,ne,ce,Ap,np,cp⟩:=v;simp only at a6 a4 a2 ⊢;have c3:D<=(ne:Int):=aA;have b4:=aB ((aQ w (Z #[.int .i64 b.vars,O Ao no co,O Ae ne ce,.int .i64 b.nat,O Ap np cp,.int .i64 D,.int .i64 F] 64)).alloc aD (Z #[.int .i64 m.op,.int .i64 m.a,.int .i64 m.b] 42));have HR:Hid (cE b D F m=(gN b D m.a&&decide (m.b<((bP b m.a).ctors.length:Int)))):=aB (by unfold cE;rw[aN aA,aN aA,aN aA,aN aA,LZ a8]);have a7:gN b D m.a=true->(s:Int)<D:=fun h=>by
  unfold gN at h;rw[ME,MJ,a5]at h;exact h.1
 rw[<-a5]at a2;rw[a8]at b4 ⊢;generalize cE b D F m=res at *;generalize hkd:(bP b m.a).kind=kd at *;generalize hcl:(bP b m.a).ctors.length=cl at *;generalize gN b D m.a=fam at *;generalize b.vars=bv at *;generalize b.nat=bn at *;generalize m.b=mb at *;rw[a5]at *;obtain⟨HW,HV⟩:=OF (aW.new w 64 #[.int .i64 bv,O Ao no co,O Ae ne ce,.int .i64 bn,O Ap np cp,.int .i64 D,.int .i64 F]) (aW.new (w.alloc (Z #[.int .i64 bv,O Ao no co,O Ae ne ce,.int .i64 bn,O Ap np cp,.int .i64 D,.int .i64 F] 64)) 42 #[.int .i64 10,.int .i64 (s:Int),.int .i64 mb]);clear hb hk hp b9 a9 a5;have a3:=aB (aU b4.o 1);have I:∀i,(((w.alloc (Z #[.int .i64 bv,O Ao no co,O Ae ne ce,.int .i64 bn,O Ap np cp,.int .i64 D,.int .i64 F] 64)).alloc (Z #[.int .i64 10,.int .i64 (s:Int),.int .i64 mb] 42)).drew).cell? ⟨w.heap.size,i,X⟩=(#[.int .i64 bv,O Ao no co,O Ae ne ce,.int .i64 bn,O Ap np cp,.int .i64 D,.int .i64 F]:Array Value)[i]?:=fun i=>(rI _ _).trans (aW.cell (HW.o.alloc (Z #[.int .i64 10,.int .i64 (s:Int),.int .i64 mb] 42)) i);have a0:∀i,(((w.alloc (Z #[.int .i64 bv,O Ao no co,O Ae ne ce,.int .i64 bn,O Ap np cp,.int .i64 D,.int .i64 F] 64)).alloc (Z #[.int .i64 10,.int .i64 (s:Int),.int .i64 mb] 42)).drew).cell? ⟨w.heap.size+1,i,X⟩=(#[.int .i64 10,.int .i64 (s:Int),.int .i64 mb]:Array Value)[i]?:=by
  have h:=aW.cell HV.o;rw[show (w.alloc (Z #[.int .i64 bv,O Ao no co,O Ae ne ce,.int .i64 bn,O Ap np cp,.int .i64 D,.int .i64 F] 64)).heap.size=w.heap.size+1 from by simp]at h;exact fun i=>(rI _ _).trans (h i)
 cases fam with
 | false =>
  rw[Bool.false_and]at HR;clear a4 a6 hkd hcl a8 a7;go_in;go_wp2_with fail;refine wp_region_held_drew (S:=(fun w'=>w'.cell? ⟨w.heap.size,0,X⟩=Y (.int .i64 bv)/\w'.cell? ⟨w.heap.size,1,X⟩=Y (O Ao no co)/\w'.cell? ⟨w.heap.size,2,X⟩=Y (O Ae ne ce)/\w'.cell? ⟨w.heap.size,3,X⟩=Y (.int .i64 bn)/\w'.cell? ⟨w.heap.size,4,X⟩=Y (O Ap np cp)/\w'.cell? ⟨w.heap.size,5,X⟩=Y (.int .i64 D)/\w'.cell? ⟨w.heap.size,6,X⟩=Y (.int .i64 F)/\w'.cell? ⟨w.heap.size+1,0,X⟩=Y (.int .i64 10)/\w'.cell? ⟨w.heap.size+1,1,X⟩=Y (.int .i64 (s:Int))/\w'.cell? ⟨w.heap.size+1,2,X⟩=Y (.int .i64 mb))) aC ?_ (fun G=>?_)
  . (try dsimp only);exact⟨I 0,I 1,I 2,I 3,I 4,I 5,I 6,a0 0,a0 1,a0 2⟩
  refine aL 0 G ?_;refine aL 1 G ?_;refine aL 2 G ?_;refine r1 3 fun K hK=>?_;go_simp;go_at_call 54
  refine (a2.o _ a3.o).mono ?_;rintro e w2 ⟨rfl,z⟩;have U:=fun i=>(z.cell (p:=⟨w.heap.size,i,X⟩) aG).trans (I i);have a1:=fun i=>(z.cell (p:=⟨w.heap.size+1,i,X⟩) aD).trans (a0 i);go_wp2_with fail;refine hK.o _ _ (by exact⟨U 0,U 1,U 2,U 3,U 4,U 5,U 6,a1 0,a1 1,a1 2⟩) fun G=>?_;clear hK K;try simp only[p7]
  refine aL 4 G ?_;refine aM 5 G ?_;refine aM 6 G ?_;refine aM 7 G ?_;refine aM 8 G ?_;refine aM 9 G ?_;refine aM 10 G ?_;refine aM 11 G ?_;refine aM 12 G ?_;refine aM 13 G ?_;refine aM 14 G ?_;refine aM 15 G ?_;refine aM 16 G ?_;refine aL 17 G ?_;refine aL 18 G ?_;refine wpAnyH_done aC ?_ _;have b0:=bK a3 z;clear z;go_wp2_with fail;go_ret;rw[HR.o];exact⟨rfl,b0.o⟩
 | true =>
  rw[NI]at HR;obtain⟨be,oe,rfl,b8,ev,_,_,_,_,b1,_,_,b6⟩:=a4.o (a7 rfl);have c4:s<ne:=by have:=a7 rfl;omega
  have b2:=b6.ctors.len;rw[hcl]at b2;obtain⟨cA,cn,cC,b3⟩:∃cA cn cC,(Value.slice ev.Ac ev.nc ev.cc)=O cA cn cC/\ev.nc=cn:=⟨_,_,_,rfl,rfl⟩;rw[b3.1]at b1;have b5:cl=cn:=by rw[<-b3.2];exact b2
  have b7:(((w.alloc (Z #[.int .i64 bv,O Ao no co,O (Y ⟨be,oe,X⟩) ne ce,.int .i64 bn,O Ap np cp,.int .i64 D,.int .i64 F] 64)).alloc (Z #[.int .i64 10,.int .i64 (s:Int),.int .i64 mb] 42)).drew).cell? ⟨be,oe+s*7+4,X⟩=Y (O cA cn cC):=(a3.o.cell (p:=⟨be,oe+s*7+4,X⟩) b8).trans b1;rw[b5]at HR;have c1:(0:Int)<=(s:Int):=aA;have c2:(s:Int)<(ne:Int):=aA;clear a4 a6 hkd hcl a8 a7 b3 b5 b2 b1 b6;go_in;go_wp2_with fail;refine wp_region_held_drew (S:=(fun w'=>w'.cell? ⟨w.heap.size,0,X⟩=Y (.int .i64 bv)/\w'.cell? ⟨w.heap.size,1,X⟩=Y (O Ao no co)/\w'.cell? ⟨w.heap.size,2,X⟩=Y (O (Y ⟨be,oe,X⟩) ne ce)/\w'.cell? ⟨w.heap.size,3,X⟩=Y (.int .i64 bn)/\w'.cell? ⟨w.heap.size,4,X⟩=Y (O Ap np cp)/\w'.cell? ⟨w.heap.size,5,X⟩=Y (.int .i64 D)/\w'.cell? ⟨w.heap.size,6,X⟩=Y (.int .i64 F)/\w'.cell? ⟨w.heap.size+1,0,X⟩=Y (.int .i64 10)/\w'.cell? ⟨w.heap.size+1,1,X⟩=Y (.int .i64 (s:Int))/\w'.cell? ⟨w.heap.size+1,2,X⟩=Y (.int .i64 mb)/\w'.cell? ⟨be,oe+s*7+4,X⟩=Y (O cA cn cC))) aC ?_ (fun G=>?_)
  . (try dsimp only);exact⟨I 0,I 1,I 2,I 3,I 4,I 5,I 6,a0 0,a0 1,a0 2,b7⟩
  refine aL 0 G ?_;refine aL 1 G ?_;refine aL 2 G ?_;refine r1 3 fun K hK=>?_;go_simp;go_at_call 54
  refine (a2.o _ a3.o).mono ?_;rintro e w2 ⟨rfl,z⟩;have U:=fun i=>(z.cell (p:=⟨w.heap.size,i,X⟩) aG).trans (I i);have a1:=fun i=>(z.cell (p:=⟨w.heap.size+1,i,X⟩) aD).trans (a0 i);have c0:w2.cell? ⟨be,oe+s*7+4,X⟩=Y (O cA cn cC):=(z.cell (p:=⟨be,oe+s*7+4,X⟩) aG).trans b7;go_wp2_with fail;refine hK.o _ _ (by exact⟨U 0,U 1,U 2,U 3,U 4,U 5,U 6,a1 0,a1 1,a1 2,c0⟩) fun G=>?_;clear hK K;try simp only[p7]
  refine aL 4 G ?_;refine aL 5 G ?_;refine aL 6 G ?_;refine aL 7 G ?_;refine aL 8 G ?_;refine aL 9 G ?_;refine aL 10 G ?_;refine aL 11 G ?_;refine aL 12 G ?_;refine aL 13 G ?_;refine aL 14 G ?_;refine aL 15 G ?_;refine aL 16 G ?_;refine aL 17 G ?_;refine aL 18 G ?_;refine wpAnyH_done aC ?_ _;have b0:=bK a3 z;clear z;go_wp2_with fail;go_ret;rw[HR.o];exact⟨rfl,b0.o⟩
theorem EX{v:bA}{b:Bk}(G:bO w v b)(D F:Int)(I:D<=b.entries.length)(m:Nd)(U:bR m.op m.a m.b=true):
 Calls Try.prog 42 #[.agg #[.int .i64 b.vars,O v.Ao v.no v.co,O v.Ae v.ne v.ce,.int .i64 b.nat,O v.Ap v.np v.cp,.int .i64 D,.int .i64 F],.agg #[.int .i64 m.op,.int .i64 m.a,.int .i64 m.b]] w (e8 (cE b D F m) w):=by
 by_cases h:m.op=3
 . exact CJ G D F I m U h
 by_cases o:m.op=8
 . exact yD G D F I m U o
 by_cases s:m.op=9
 . exact EZ G D F I m U s
 by_cases z:m.op=11
 . exact yF G D F I m U z
 by_cases h5:m.op=10
 . exact CK G D F I m U h5
 exact E0 G D F I m U ⟨h,o,s,z,h5⟩
theorem tI{v:bA}{b:Bk}(hb:bO w v b)(D F:Int)(hk:D<=b.entries.length){l:List Nd}(ht:aX w A n c l)(below:Int):
 Calls Try.prog 23 #[.agg #[.int .i64 b.vars,O v.Ao v.no v.co,O v.Ae v.ne v.ce,.int .i64 b.nat,O v.Ap v.np v.cp,.int .i64 D,.int .i64 F],O A n c,.int .i64 below] w (iT (gT b D F l below) w):=by
 have c9:=ht.len;have c8:=ht.few;obtain⟨HS,a7,HT,b2,a2⟩:=OG (fun (w':OE) (h:OB w w')=>bM (ht.below h)) (fun (w':OE) (h:OB w w')=>BD (ht.below h) below) (fun (w':OE) (h:OB w w')=>ht.below h) (fun (w':OE) (h:OB w w') (m:Nd) (hp:bR m.op m.a m.b=true)=>EX (hb.below h) D F hk m hp) (fun (h:aZ l=0)=>v5 h);have HR:Hid (gT b D F l below=if aZ l≠0 then aZ l else if fZ l below=false then 8 else if l.all (cE b D F) then 0 else 8):=aB rfl;generalize gT b D F l below=res at *;obtain⟨Ao,no,co,Ae,ne,ce,Ap,np,cp⟩:=v;simp only at b2 ⊢;clear ht hb hk;generalize b.vars=bv at *;generalize b.nat=bn at *;obtain⟨U,b7⟩:=OF (aQ w (Z #[.int .i64 bv,O Ao no co,O Ae ne ce,.int .i64 bn,O Ap np cp,.int .i64 D,.int .i64 F] 64)) (aW.new w 64 #[.int .i64 bv,O Ao no co,O Ae ne ce,.int .i64 bn,O Ap np cp,.int .i64 D,.int .i64 F]);obtain⟨sh,b5⟩:=OM (aZ l);rw[<-b5]at HS a2 HR;clear b5;by_cases h0:sh=0;case neg =>
  have d1:(sh != 0)=true:=by simpa using h0
  rw[LZ h0]at HR;clear h0 a2;go_in;go_wp2_with fail;refine (HS.o _ U.o).mono ?_;rintro e w2 ⟨rfl,G⟩;have I:=bK U G;clear G;go_wp2_with fail;go_ret;rw[HR.o];exact⟨rfl,I.o⟩
 subst h0;rw[aN aD]at HR;have c2:=aB (a2.o rfl);clear a2;obtain⟨bb,b3⟩:=OM (fZ l below);rw[<-b3]at a7 HR;clear b3;cases bb with
 | false =>
  rw[LZ rfl]at HR;go_in;go_wp2_with fail;refine (HS.o _ U.o).mono ?_;rintro e w2 ⟨rfl,G⟩;have I:=bK U G;clear G;go_wp2_with fail;refine (a7.o _ I.o).mono ?_;rintro e w3 ⟨rfl,s⟩;have a5:=bK I s;clear s;go_wp2_with fail;go_ret;rw[HR.o];exact⟨rfl,a5.o⟩
 | true =>
  rw[aN aD]at HR;go_in;go_wp2_with fail;refine (HS.o _ U.o).mono ?_;rintro e w2 ⟨rfl,G⟩;have I:=bK U G;have b8:=aB (aW.below b7.o G aD);clear G;go_wp2_with fail;refine (a7.o _ I.o).mono ?_;rintro e w3 ⟨rfl,s⟩;have a5:=bK I s;have b9:=IS b8 s;clear s;go_wp2_with fail;go_loopw [21] (fun iv wr=>∃i:Nat,iv=.int .i64 (i:Int)/\i<=n/\Hid ((l.take i).all (cE b D F)=true)/\Hid (aW wr w.heap.size 64 #[.int .i64 bv,O Ao no co,O Ae ne ce,.int .i64 bn,O Ap np cp,.int .i64 D,.int .i64 F])/\Hid (OB w wr)) (fun i _=>n-(intOf i).toNat)
  case atStart=>exact⟨0,rfl,by omega,aB aD,b9,a5⟩
  case round =>
   obtain⟨i,rfl,hi,a4,a0,a3⟩:=hrel;by_cases c7:i<n;rotate_left
   . have c6:decide ((i:Int)<(n:Int))=false:=MA aA;have a9:Hid (res=0):=aB (by
      have:=a4.o;rw[OA aA]at this;rw[HR.o,LZ this])
     go_wp2_with fail;go_ret;rw[a9.o];exact⟨rfl,a3.o⟩
   have c6:decide ((i:Int)<(n:Int))=true:=MB aA;obtain⟨b',off,rfl,d0,c3,c4,c5⟩:=(HT.o wr a3.o).at_ c7;have b4:i<l.length:=aA;obtain⟨m,hm⟩:=OM (bB l i);have a1:m=l[i]:=by rw[hm,pK b4]
   rw[<-hm]at c3 c4 c5;have b1:l.take (i+1)=l.take i++[m]:=by rw[List.take_succ_eq_append_getElem b4,a1]
   have b0:=c2.o m (by rw[a1];exact NO _);have a8:=aB (a3.o.trans ((aQ wr (Z #[.int .i64 m.op,.int .i64 m.a,.int .i64 m.b] 42)).mono a3.o.size));have c1:=aB (a0.o.alloc (Z #[.int .i64 m.op,.int .i64 m.a,.int .i64 m.b] 42));have zc:=aW.cell a0.o;have d2:=a0.o.lt;have HC:=aB (b2.o _ a8.o m b0);obtain⟨r,hr⟩:=OM (cE b D F m);rw[<-hr]at HC;cases r with
   | false =>
    have a9:Hid (res=8):=aB (by
     rw[HR.o,aN];rw[List.all_eq_true];intro h;have:=h m (by rw[a1];exact NO _);rw[<-hr]at this;cases this)
    clear hr hm a1 b1 b0;generalize m.op=mo at *;generalize m.a=ma at *;generalize m.b=mb at *;go_wp2_with fail;refine (HC.o).mono ?_;rintro e w5 ⟨rfl,z⟩;have a6:=bK a8 z;clear z;go_wp2_with fail;go_ret;rw[a9.o];exact⟨rfl,a6.o⟩
   | true =>
    have b6:Hid ((l.take (i+1)).all (cE b D F)=true):=aB (by rw[b1,List.all_append,a4.o];simp[<-hr]);clear hr hm a1 b1 b0;generalize m.op=mo at *;generalize m.a=ma at *;generalize m.b=mb at *;go_wp2_with fail;refine (HC.o).mono ?_;rintro e w5 ⟨rfl,z⟩;have a6:=bK a8 z;have c0:=IS c1 z;clear z zc;go_wp2_with fail;go_roundw
    case rel=>exact⟨i+1,by go_num,by omega,b6,c0,a6⟩
    case measure=>simp[intOf];omega
theorem lN{v:bA}{b:Bk}(hb:bO w v b)(D F:Int)(hk:D<=b.entries.length){ls:OD}(ht:dO w A n c ls)(below step:Int)(b6:step=0\/step=1)(c6:0<=below)(c5:below<=1000000)(hn:n<=100000):
 Calls Try.prog 35 #[.agg #[.int .i64 b.vars,O v.Ao v.no v.co,O v.Ae v.ne v.ce,.int .i64 b.nat,O v.Ap v.np v.cp,.int .i64 D,.int .i64 F],O A n c,.int .i64 below,.int .i64 step] w (iT (dH b D F step ls below) w):=by
 have c0:=ht.len;have b9:=ht.few;obtain⟨a3,HT⟩:=OF (fun (w':OE) (A':OC) (n' c':Nat) (l:List Nd) (be:Int) (h:OB w w') (h1:aX w' A' n' c' l)=>tI (hb.below h) D F hk h1 be) (fun (w':OE) (h:OB w w')=>ht.below h);obtain⟨a7,a0⟩:=OM (dH b D F step ls below);rw[<-a0];have a2:=aB a0;obtain⟨Ao,no,co,Ae,ne,ce,Ap,np,cp⟩:=v;simp only at a3 ⊢;clear ht hb hk a0;generalize b.vars=bv at *;generalize b.nat=bn at *;obtain⟨a8,a9⟩:=OF (aQ w (Z #[.int .i64 bv,O Ao no co,O Ae ne ce,.int .i64 bn,O Ap np cp,.int .i64 D,.int .i64 F] 64)) (aW.new w 64 #[.int .i64 bv,O Ao no co,O Ae ne ce,.int .i64 bn,O Ap np cp,.int .i64 D,.int .i64 F]);have b5:0<=step/\step<=1:=aA;obtain⟨c7,c8⟩:=b5;clear b6;go_in;go_wp2_with fail;go_loopw [2,14] (fun b2 iv wr=>∃(i:Nat)(be:Int),b2=.int .i64 be/\iv=.int .i64 (i:Int)/\i<=n/\0<=be/\be<=below+i/\Hid (dH b D F step (ls.drop i) be=a7)/\Hid (aW wr w.heap.size 64 #[.int .i64 bv,O Ao no co,O Ae ne ce,.int .i64 bn,O Ap np cp,.int .i64 D,.int .i64 F])/\Hid (OB w wr)) (fun _ i _=>n-(intOf i).toNat)
 case atStart=>exact⟨0,below,rfl,rfl,by omega,by omega,by omega,aB a2.o.symm,a9,a8⟩
 case round =>
  obtain⟨i,be,rfl,rfl,hi,b7,b8,a5,s,z⟩:=hrel;by_cases b4:i<n;rotate_left
  . have b3:decide ((i:Int)<(n:Int))=false:=MA aA;have b1:Hid (a7=0):=aB (by
     have:=a5.o;rw[NB aA]at this;exact this.symm)
    go_wp2_with fail;go_ret;rw[b1.o];exact⟨rfl,z.o⟩
  have b3:decide ((i:Int)<(n:Int))=true:=MB aA;obtain⟨b',off,A',n',c',rfl,c1,c4,a6⟩:=(HT.o wr z.o).at_ b4;have a4:i<ls.length:=aA;have G:=a5.o;rw[MT a4,show ls[i]=ls.getD i [] from by rw[MK,MI a4];rfl]at G;simp only[dH]at G;have HC:=aB (a3.o wr A' n' c' _ be z.o a6);generalize hre:gT b D F (ls.getD i []) be=re at *;have zc:=aW.cell s.o;have c3:=s.o.lt;clear hre a6;by_cases h0:re=0
  . rw[aN (by simp[h0])]at G;have U:=aB G;subst h0;clear G;go_wp2_with fail;refine (HC.o).mono ?_;rintro e w5 ⟨rfl,I⟩;have a1:=bK z I;have b0:=IS s I;clear I zc;go_wp2_with fail;go_roundw
    case rel=>exact⟨i+1,be+step,rfl,by go_num,by omega,by omega,by omega,U,b0,a1⟩
    case measure=>simp[intOf];omega
  rw[LZ h0]at G;have U:=aB G;have c2:(re != 0)=true:=by simpa using h0
  clear G h0;go_wp2_with fail;refine (HC.o).mono ?_;rintro e w5 ⟨rfl,I⟩;have a1:=bK z I;clear I zc;go_wp2_with fail;go_ret;rw[<-U.o];exact⟨rfl,a1.o⟩
end Go.Proofs.Ytlahmbhimhmoaaa
