/- Merged: BookV, BookN, BookNode, BookRow. -/
import Derived.Test.YtjoddliplahgkaaGreatTLevels
namespace Go.Proofs.YtjoddliplahgkaaGreat
set_option linter.unusedVariables false
set_option linter.unusedSimpArgs false
open Go.RowKit
open Go.Value renaming slice → O
open Option renaming none → X, some → Y
open Go.Obj renaming cells → Z
open Go.Lib renaming hid->aB
set_option maxHeartbeats 8000000
set_option maxRecDepth 100000
variable {c n:Nat}{A:ZZ}{w w':aAB}
structure fP (w:aAB) (A:ZZ) (n c:Nat) (ls:aAA):Prop where
 len:ls.length=n
 few:n<=5864062014805
 mem:0<n->∃b off,A=Y ⟨b,off,X⟩/\b<w.heap.size/\∀k,k<n->∃A' n' c',w.cell? ⟨b,off+k,X⟩=Y (O A' n' c')/\aX w A' n' c' (ls.getD k [])
theorem fP.below{ls:aAA}(h:fP w A n c ls)(F:ZY w w'):fP w' A n c ls :=
 ⟨h.len,h.few,fun hn=>by
  obtain⟨b,off,e,D,z⟩:=h.mem hn;refine⟨b,off,e,XT D F.size,fun k s=>?_⟩;obtain⟨G,n',I,U,o⟩:=z k s;exact⟨G,n',I,(F.cell (p:=⟨b,off+k,X⟩) D).trans U,o.below F⟩⟩
theorem fP.at_{ls:aAA}(h:fP w A n c ls){k:Nat}(s:k<n):∃b off D G F,A=Y ⟨b,off,X⟩/\b<w.heap.size/\w.cell? ⟨b,off+k,X⟩=Y (O D G F)/\aX w D G F (ls.getD k []):=by
 obtain⟨b,off,e,o,z⟩:=h.mem aA;obtain⟨D,G,F,I,U⟩:=z k s;exact⟨b,off,D,G,F,e,o,I,U⟩
structure Ct where
 args:List (List Nd)
 outs:List (List Nd)
instance:Inhabited Ct:=⟨⟨[],[]⟩⟩
structure En where
 kind:Int
 sort:List Nd
 params:List (List Nd)
 indices:List (List Nd)
 ctors:List Ct
 type:List Nd
 body:List Nd
instance:Inhabited En:=⟨⟨0,[],[],[],[],[],[]⟩⟩
structure Bk where
 vars:Int
 orders:List Nd
 entries:List En
 nat:Int
 prims:List (Int×Int)
instance:Inhabited Bk:=⟨⟨0,[],[],0,[]⟩⟩
structure vJ (w:aAB) (A:ZZ) (n c:Nat) (cs:List Ct):Prop where
 len:cs.length=n
 few:n<=5864062014805
 mem:0<n->∃b off,A=Y ⟨b,off,X⟩/\b<w.heap.size/\∀k,k<n->∃A1 n1 c1 A2 n2 c2,w.cell? ⟨b,off+k*2,X⟩=Y (O A1 n1 c1)/\w.cell? ⟨b,off+k*2+1,X⟩=Y (O A2 n2 c2)/\fP w A1 n1 c1 (cs.getD k default).args/\fP w A2 n2 c2 (cs.getD k default).outs
theorem vJ.below{cs:List Ct}(h:vJ w A n c cs)(F:ZY w w'):vJ w' A n c cs :=
 ⟨h.len,h.few,fun hn=>by
  obtain⟨b,off,e,D,hm⟩:=h.mem hn;refine⟨b,off,e,XT D F.size,fun k hk=>?_⟩;obtain⟨G,n1,c1,I,n2,c2,U,o,s,z⟩:=hm k hk;exact⟨G,n1,c1,I,n2,c2,(F.cell (p:=⟨b,off+k*2,X⟩) D).trans U,(F.cell (p:=⟨b,off+k*2+1,X⟩) D).trans o,s.below F,z.below F⟩⟩
structure jY where
 As:Option Addr
 ns:Nat
 cs:Nat
 Ap:Option Addr
 np:Nat
 cp:Nat
 Ai:Option Addr
 ni:Nat
 ci:Nat
 Ac:Option Addr
 nc:Nat
 cc:Nat
 At:Option Addr
 nt:Nat
 ct:Nat
 Ab:Option Addr
 nb:Nat
 cb:Nat
structure DQ (w:aAB) (v:jY) (x:En):Prop where
 sort:aX w v.As v.ns v.cs x.sort
 params:fP w v.Ap v.np v.cp x.params
 indices:fP w v.Ai v.ni v.ci x.indices
 ctors:vJ w v.Ac v.nc v.cc x.ctors
 type:aX w v.At v.nt v.ct x.type
 body:aX w v.Ab v.nb v.cb x.body
theorem DQ.below{v:jY}{x:En}(h:DQ w v x)(D:ZY w w'):DQ w' v x :=
 ⟨h.sort.below D,h.params.below D,h.indices.below D,h.ctors.below D,h.type.below D,h.body.below D⟩
structure BM (w:aAB) (A:ZZ) (n c:Nat) (es:List En):Prop where
 len:es.length=n
 few:n<=5864062014805
 mem:0<n->∃b off,A=Y ⟨b,off,X⟩/\b<w.heap.size/\∀k,k<n->∃v:jY,w.cell? ⟨b,off+k*7,X⟩=Y (.int .i64 (es.getD k default).kind)/\w.cell? ⟨b,off+k*7+1,X⟩=Y (O v.As v.ns v.cs)/\w.cell? ⟨b,off+k*7+2,X⟩=Y (O v.Ap v.np v.cp)/\w.cell? ⟨b,off+k*7+3,X⟩=Y (O v.Ai v.ni v.ci)/\w.cell? ⟨b,off+k*7+4,X⟩=Y (O v.Ac v.nc v.cc)/\w.cell? ⟨b,off+k*7+5,X⟩=Y (O v.At v.nt v.ct)/\w.cell? ⟨b,off+k*7+6,X⟩=Y (O v.Ab v.nb v.cb)/\DQ w v (es.getD k default)
theorem BM.below{es:List En}(h:BM w A n c es)(F:ZY w w'):BM w' A n c es :=
 ⟨h.len,h.few,fun hn=>by
  obtain⟨b,off,e,D,hm⟩:=h.mem hn;refine⟨b,off,e,XT D F.size,fun k hk=>?_⟩;obtain⟨v,G,I,U,o,s,z,h6,h7⟩:=hm k hk;exact⟨v,(F.cell (p:=⟨b,off+k*7,X⟩) D).trans G,(F.cell (p:=⟨b,off+k*7+1,X⟩) D).trans I,(F.cell (p:=⟨b,off+k*7+2,X⟩) D).trans U,(F.cell (p:=⟨b,off+k*7+3,X⟩) D).trans o,(F.cell (p:=⟨b,off+k*7+4,X⟩) D).trans s,(F.cell (p:=⟨b,off+k*7+5,X⟩) D).trans z,(F.cell (p:=⟨b,off+k*7+6,X⟩) D).trans h6,h7.below F⟩⟩
theorem BM.at_{es:List En}(h:BM w A n c es){k:Nat}(G:k<n):∃b off,A=Y ⟨b,off,X⟩/\b<w.heap.size/\∃v:jY,w.cell? ⟨b,off+k*7,X⟩=Y (.int .i64 (es.getD k default).kind)/\w.cell? ⟨b,off+k*7+1,X⟩=Y (O v.As v.ns v.cs)/\w.cell? ⟨b,off+k*7+2,X⟩=Y (O v.Ap v.np v.cp)/\w.cell? ⟨b,off+k*7+3,X⟩=Y (O v.Ai v.ni v.ci)/\w.cell? ⟨b,off+k*7+4,X⟩=Y (O v.Ac v.nc v.cc)/\w.cell? ⟨b,off+k*7+5,X⟩=Y (O v.At v.nt v.ct)/\w.cell? ⟨b,off+k*7+6,X⟩=Y (O v.Ab v.nb v.cb)/\DQ w v (es.getD k default):=by
 obtain⟨b,off,e,F,I⟩:=h.mem aA;obtain⟨v,D⟩:=I k G;exact⟨b,off,e,F,v,D⟩
structure GK (w:aAB) (A:ZZ) (n c:Nat) (ps:List (Int×Int)):Prop where
 len:ps.length=n
 few:n<=8796093021952
 mem:0<n->∃b off,A=Y ⟨b,off,X⟩/\b<w.heap.size/\∀k,k<n->w.cell? ⟨b,off+k*2,X⟩=Y (.int .i64 (ps.getD k (0,0)).1)/\w.cell? ⟨b,off+k*2+1,X⟩=Y (.int .i64 (ps.getD k (0,0)).2)
theorem GK.below{ps:List (Int×Int)}(h:GK w A n c ps)(F:ZY w w'):GK w' A n c ps :=
 ⟨h.len,h.few,fun s=>by
  obtain⟨b,off,e,D,o⟩:=h.mem s;refine⟨b,off,e,XT D F.size,fun k U=>?_⟩;obtain⟨G,I⟩:=o k U;exact⟨(F.cell (p:=⟨b,off+k*2,X⟩) D).trans G,(F.cell (p:=⟨b,off+k*2+1,X⟩) D).trans I⟩⟩
structure bR where
 Ao:Option Addr
 no:Nat
 co:Nat
 Ae:Option Addr
 ne:Nat
 ce:Nat
 Ap:Option Addr
 np:Nat
 cp:Nat
structure cE (w:aAB) (v:bR) (b:Bk):Prop where
 orders:aX w v.Ao v.no v.co b.orders
 entries:BM w v.Ae v.ne v.ce b.entries
 prims:GK w v.Ap v.np v.cp b.prims
 vars:(Lit.int .i64 b.vars).wf=true
 nat:(Lit.int .i64 b.nat).wf=true
 kinds:∀x∈b.entries,(Lit.int .i64 x.kind).wf=true
 primsw:∀p∈b.prims,(Lit.int .i64 p.1).wf=true/\(Lit.int .i64 p.2).wf=true
theorem cE.below{v:bR}{b:Bk}(h:cE w v b)(D:ZY w w'):cE w' v b :=
 ⟨h.orders.below D,h.entries.below D,h.prims.below D,h.vars,h.nat,h.kinds,h.primsw⟩
theorem tO:∀(k:Nat)(last:Int)(l:List Nd)(p:List Nd×List Nd),bJ k last l=Y p->∀m∈p.1,cD m.op m.a m.b=true
 | 0,_,_,p,h,m,hm=>by
  simp only[bJ,YT]at h;subst h;cases hm
 | k+1,last,[],p,h,m,hm=>by simp[bJ]at h
 | k+1,last,x::l,p,h,m,hm=>by
  simp only[bJ]at h;split at h
  . rename_i D
    simp only[ZO]at h;obtain⟨q,F,rfl⟩:=h;rcases YV.1 hm with rfl|hm
    . exact D.2.1
    exact tO k x.a l q F m hm
  . cases h
theorem yH:∀(F:Fo)(o:List Bool),Wf o F->∀m∈row F,cD m.op m.a m.b=true
 | .nil,_,_,m,hm=>by cases hm
 | .cons p n a k x,[],h,m,hm=>h.elim
 | .cons p n a k x,d::dr,h,m,hm=>by
  obtain⟨I,G,D,s,z⟩:=h;simp only[row,YW,YV]at hm;simp only[eW,YC]at G;rcases hm with hm|rfl|hm|hm|hm
  . cases d with
    | false=>simp only at I;subst I;cases hm
    | true =>
     obtain⟨f,rfl,U⟩:=I;rw[ZK]at hm;subst hm;simp only[yM,YC]at U;exact U.1
  . exact G.1.1
  . unfold iU at D;split at D
    . exact tO _ _ _ _ D m hm
    subst D;cases hm
  . exact yH k _ s m hm
  . exact yH x _ z m hm
theorem FV{l:List Nd}(h:a6 l=0):∀m∈l,cD m.op m.a m.b=true:=by
 obtain⟨n,a,k,F⟩:=LH h;have G:=i9 F.pp;intro m D;refine yH _ _ G m ?_;rw[F.eq]at D;simpa[row] using D
def bP(b:Bk)(e:Int):En:=b.entries.getD e.toNat default
def fQ(b:Bk)(known e:Int):Bool:=decide (e<known)&&(bP b e).kind==1
def cP(b:Bk)(known self:Int)(m:Nd):Bool :=
 if m.op=3 then decide (m.a<=b.vars)
 else if m.op=8 then decide (m.a<known)&&(bP b m.a).kind==2
 else if m.op=9 then m.a==self||fQ b known m.a
 else if m.op=11 then fQ b known m.a
 else if m.op=10 then fQ b known m.a&&decide (m.b<((bP b m.a).ctors.length:Int))
 else true
def fM(b:Bk)(known self:Int)(l:List Nd)(below:Int):Int :=
 if a6 l≠0 then a6 l else if gH l below=false then 8 else if l.all (cP b known self) then 0 else 8
def dE(b:Bk)(known self:Int)(step:Int):List (List Nd)->Int->Int
 | [],_=>0
 | l::r,below=>if fM b known self l below≠0 then fM b known self l below else dE b known self step r (below+step)
def gI(b:Bk)(known:Int)(x:En):List Ct->Int
 | []=>0
 | c::r =>
  if 16<c.args.length then 5
  else if c.outs.length≠x.indices.length then 8
  else if dE b known known 1 c.args x.params.length≠0 then dE b known known 1 c.args x.params.length
  else if dE b known known 0 c.outs ((x.params.length:Int)+c.args.length)≠0 then dE b known known 0 c.outs ((x.params.length:Int)+c.args.length)
  else gI b known x r
def nE(l:List Nd):Int:=if (bC l 0).op≠2 then 8 else 0
def jW:List Int->Int
 | []=>0
 | e::r=>if e≠0 then e else jW r
def dK(b:Bk)(known:Int)(x:En):Int :=
 if x.kind=1 then
  if 0<x.type.length+x.body.length then 8
  else if 16<x.params.length\/16<x.indices.length\/16<x.ctors.length then 5
  else jW [fM b known (-1) x.sort 0,nE x.sort,dE b known (-1) 1 x.params 0,dE b known (-1) 1 x.indices x.params.length,gI b known x x.ctors]
 else if x.kind=2 then
  if 0<x.sort.length+x.params.length+x.indices.length+x.ctors.length then 8
  else dE b known (-1) 0 [x.type,x.body] 0
 else 8
def dL(b:Bk):Nat->List En->Int
 | _,[]=>0
 | i,x::r=>if dK b i x≠0 then dK b i x else dL b (i+1) r
def CT(b:Bk)(e:Int):Bool :=
 if e<0 then false
 else if (b.entries.length:Int)<=e then false
 else if (bP b e).kind≠1 then false
 else if (bP b e).sort.length≠2 then false
 else if (bC (bP b e).sort 0).a≠1 then false
 else if bC (bP b e).sort 1≠⟨3,0,0⟩ then false
 else if 0<(bP b e).params.length+(bP b e).indices.length then false
 else if (bP b e).ctors.length≠2 then false
 else if ((bP b e).ctors.getD 0 default).args.length≠0 then false
 else if ((bP b e).ctors.getD 1 default).args.length≠1 then false
 else if (((bP b e).ctors.getD 1 default).args.getD 0 []).length≠1 then false
 else decide (bC (((bP b e).ctors.getD 1 default).args.getD 0 []) 0=⟨9,e,0⟩)
def jM(b:Bk):List (Int×Int)->GF->Bool
 | [],_=>true
 | p::r,g =>
  if p.1<0 then false
  else if (b.entries.length:Int)<=p.1 then false
  else if (bP b p.1).kind≠2 then false
  else if p.2<1 then false
  else if 3<p.2 then false
  else if 0<(g p.1 (-1)).getD 0+(g (-1) p.2).getD 0 then false
  else jM b r (gQ (gQ g p.1 (-1) 1) (-1) p.2 1)
def JE(b:Bk):Bool :=
 if b.nat ≠ -1 then (if CT b b.nat then jM b b.prims (fun _ _=>X) else false)
 else if 0<b.prims.length then false else true
def bU(b:Bk):Int :=
 if (qI b.vars b.orders).1≠0 then (qI b.vars b.orders).1
 else if 64<b.entries.length then 5
 else if dL b 0 b.entries≠0 then dL b 0 b.entries
 else if JE b then 0 else 22
def fK(b:Bk)(free:Int)(l:List Nd):Int :=
 if bU b≠0 then bU b else if free<0 then 1 else fM b b.entries.length (-1) l free
theorem jH{v:bR}{b:Bk}(I:cE w v b)(known self:Int)(hk:known<=b.entries.length)(e:Nat):
 Calls Tryz.prog 129 #[.agg #[.int .i64 b.vars,O v.Ao v.no v.co,O v.Ae v.ne v.ce,.int .i64 b.nat,O v.Ap v.np v.cp,.int .i64 known,.int .i64 self],.int .i64 (e:Int)] w (gT (fQ b known e) w):=by
 have U:=aB (aQ w (Z #[.int .i64 b.vars,O v.Ao v.no v.co,O v.Ae v.ne v.ce,.int .i64 b.nat,O v.Ap v.np v.cp,.int .i64 known,.int .i64 self] 94));have D:=I.entries.len;by_cases F:(e:Int)<known
 . have G:decide ((e:Int)<known)=true:=XR F;obtain⟨be,oe,z,a0,ev,s,_⟩:=I.entries.at_ (k:=e) aA;have h:Hid (fQ b known e=((bP b e).kind==1)):=aB (by unfold fQ;rw[G,YZ]);rw[show b.entries.getD e default=bP b e from by unfold bP;rw[YG]]at s;obtain⟨Ao,no,co,Ae,ne,ce,Ap,np,cp⟩:=v;simp only at z D U ⊢;subst z;have a1:e<ne:=aA;generalize (bP b e).kind=kd at *;generalize b.vars=bv at *;generalize b.nat=bn at *;generalize fQ b known e=res at *;clear I D hk F;go_in;go_wp2_with fail;go_ret;rw[h.o];exact⟨rfl,U.o⟩
 have G:decide ((e:Int)<known)=false:=XQ F;have h:Hid (fQ b known e=false):=aB (by unfold fQ;rw[G,Bool.false_and]);generalize b.vars=bv at *;generalize b.nat=bn at *;generalize fQ b known e=res at *;clear I D hk F;go_in;go_wp2_with fail;go_ret;rw[h.o];exact⟨rfl,U.o⟩
theorem zR(w:aAB)(p:Addr):w.drew.cell? p=w.cell? p:=rfl
theorem M4{v:bR}{b:Bk}(hb:cE w v b)(known self:Int)(hk:known<=b.entries.length)(m:Nd)(hp:cD m.op m.a m.b=true)(U:m.op=3):
 Calls Tryz.prog 99 #[.agg #[.int .i64 b.vars,O v.Ao v.no v.co,O v.Ae v.ne v.ce,.int .i64 b.nat,O v.Ap v.np v.cp,.int .i64 known,.int .i64 self],.agg #[.int .i64 m.op,.int .i64 m.a,.int .i64 m.b]] w (gT (cP b known self m) w):=by
 have a1:=aV.1 hp;have G:=hb.entries.len;obtain⟨s,a0⟩:∃s:Nat,m.a=(s:Int):=⟨m.a.toNat,by omega⟩;obtain⟨I,D⟩:=aAC (fun (h:(s:Int)<known)=>hb.entries.at_ (k:=s) aA) (fun (w':aAB) (h:ZY w w')=>jH (hb.below h) known self hk s);have F:b.entries.getD s default=bP b m.a:=by rw[a0];unfold bP;rw[YG]
 rw[F]at I;obtain⟨Ao,no,co,Ae,ne,ce,Ap,np,cp⟩:=v;simp only at G I D ⊢;have z:=aB ((aQ w (Z #[.int .i64 b.vars,O Ao no co,O Ae ne ce,.int .i64 b.nat,O Ap np cp,.int .i64 known,.int .i64 self] 94)).alloc aD (Z #[.int .i64 m.op,.int .i64 m.a,.int .i64 m.b] 46));have HR:Hid (cP b known self m=decide (m.a<=b.vars)):=aB (by unfold cP;rw[XP U]);rw[U]at z ⊢;generalize cP b known self m=res at *;generalize b.vars=bv at *;generalize b.nat=bn at *;generalize m.b=mb at *;generalize m.a=ma at *;generalize a2:decide (ma<=bv)=db at *;clear hb hk hp a1 F a0 I D G U;go_in;go_wp2_with fail;go_ret;rw[HR.o];exact⟨rfl,z.o⟩
theorem P2{v:bR}{b:Bk}(hb:cE w v b)(known self:Int)(hk:known<=b.entries.length)(m:Nd)(hp:cD m.op m.a m.b=true)(D:m.op≠3/\m.op≠8/\m.op≠9/\m.op≠11/\m.op≠10):
 Calls Tryz.prog 99 #[.agg #[.int .i64 b.vars,O v.Ao v.no v.co,O v.Ae v.ne v.ce,.int .i64 b.nat,O v.Ap v.np v.cp,.int .i64 known,.int .i64 self],.agg #[.int .i64 m.op,.int .i64 m.a,.int .i64 m.b]] w (gT (cP b known self m) w):=by
 have a1:=aV.1 hp;have I:=hb.entries.len;obtain⟨s,z⟩:∃s:Nat,m.a=(s:Int):=⟨m.a.toNat,by omega⟩;obtain⟨U,F⟩:=aAC (fun (h:(s:Int)<known)=>hb.entries.at_ (k:=s) aA) (fun (w':aAB) (h:ZY w w')=>jH (hb.below h) known self hk s);have G:b.entries.getD s default=bP b m.a:=by rw[z];unfold bP;rw[YG]
 rw[G]at U;obtain⟨Ao,no,co,Ae,ne,ce,Ap,np,cp⟩:=v;simp only at I U F ⊢;have a0:=aB ((aQ w (Z #[.int .i64 b.vars,O Ao no co,O Ae ne ce,.int .i64 b.nat,O Ap np cp,.int .i64 known,.int .i64 self] 94)).alloc aD (Z #[.int .i64 m.op,.int .i64 m.a,.int .i64 m.b] 46));have HR:Hid (cP b known self m=true):=aB (by unfold cP;rw[XN D.1,XN D.2.1,XN D.2.2.1,XN D.2.2.2.1,XN D.2.2.2.2]);have q1:(m.op==3)=false:=by simpa using D.1
 have q2:(m.op==8)=false:=by simpa using D.2.1
 have q3:(m.op==9)=false:=by simpa using D.2.2.1
 have q4:(m.op==11)=false:=by simpa using D.2.2.2.1
 have q5:(m.op==10)=false:=by simpa using D.2.2.2.2
 clear D hb hk hp a1 G z U F I;generalize cP b known self m=res at *;generalize b.vars=bv at *;generalize b.nat=bn at *;generalize m.b=mb at *;generalize m.a=ma at *;generalize m.op=op at *;go_in;go_wp2_with fail;go_ret;rw[HR.o];exact⟨rfl,a0.o⟩
theorem IV{v:bR}{b:Bk}(hb:cE w v b)(known self:Int)(hk:known<=b.entries.length)(m:Nd)(hp:cD m.op m.a m.b=true)(s:m.op=8):
 Calls Tryz.prog 99 #[.agg #[.int .i64 b.vars,O v.Ao v.no v.co,O v.Ae v.ne v.ce,.int .i64 b.nat,O v.Ap v.np v.cp,.int .i64 known,.int .i64 self],.agg #[.int .i64 m.op,.int .i64 m.a,.int .i64 m.b]] w (gT (cP b known self m) w):=by
 have a3:=aV.1 hp;have G:=hb.entries.len;obtain⟨F,U⟩:∃F:Nat,m.a=(F:Int):=⟨m.a.toNat,by omega⟩;obtain⟨D,a2⟩:=aAC (fun (h:(F:Int)<known)=>hb.entries.at_ (k:=F) aA) (fun (w':aAB) (h:ZY w w')=>jH (hb.below h) known self hk F);have z:b.entries.getD F default=bP b m.a:=by rw[U];unfold bP;rw[YG]
 rw[z]at D;obtain⟨Ao,no,co,Ae,ne,ce,Ap,np,cp⟩:=v;simp only at G D a2 ⊢;have a6:known<=(ne:Int):=aA;have a0:=aB ((aQ w (Z #[.int .i64 b.vars,O Ao no co,O Ae ne ce,.int .i64 b.nat,O Ap np cp,.int .i64 known,.int .i64 self] 94)).alloc aD (Z #[.int .i64 m.op,.int .i64 m.a,.int .i64 m.b] 46));have HR:Hid (cP b known self m=(decide ((F:Int)<known)&&(bP b m.a).kind==2)):=aB (by unfold cP;rw[XN aA,XP s,U]);rw[s]at a0 ⊢;generalize cP b known self m=res at *;generalize hkd:(bP b m.a).kind=kd at *;generalize hcl:(bP b m.a).ctors.length=cl at *;generalize fQ b known m.a=fam at *;generalize b.vars=bv at *;generalize b.nat=bn at *;generalize m.b=mb at *;rw[U]at *;clear hb hk hp a3 z U;by_cases I:(F:Int)<known
 . have a1:decide ((F:Int)<known)=true:=XR I;obtain⟨be,oe,rfl,a4,ev,a5,_⟩:=D.o I;have a7:F<ne:=aA;rw[a1,YZ]at HR;clear I D G hkd hcl s;go_in;go_wp2_with fail;go_ret;rw[HR.o];exact⟨rfl,a0.o⟩
 have a1:decide ((F:Int)<known)=false:=XQ I;rw[a1,Bool.false_and]at HR;clear I D G hkd hcl s;go_in;go_wp2_with fail;go_ret;rw[HR.o];exact⟨rfl,a0.o⟩
theorem P0{v:bR}{b:Bk}(hb:cE w v b)(known self:Int)(hk:known<=b.entries.length)(m:Nd)(hp:cD m.op m.a m.b=true)(a0:m.op=9):
 Calls Tryz.prog 99 #[.agg #[.int .i64 b.vars,O v.Ao v.no v.co,O v.Ae v.ne v.ce,.int .i64 b.nat,O v.Ap v.np v.cp,.int .i64 known,.int .i64 self],.agg #[.int .i64 m.op,.int .i64 m.a,.int .i64 m.b]] w (gT (cP b known self m) w):=by
 have a5:=aV.1 hp;have G:=hb.entries.len;obtain⟨I,F⟩:∃I:Nat,m.a=(I:Int):=⟨m.a.toNat,by omega⟩;obtain⟨s,D⟩:=aAC (fun (h:(I:Int)<known)=>hb.entries.at_ (k:=I) aA) (fun (w':aAB) (h:ZY w w')=>jH (hb.below h) known self hk I);have a1:b.entries.getD I default=bP b m.a:=by rw[F];unfold bP;rw[YG]
 rw[a1]at s;obtain⟨Ao,no,co,Ae,ne,ce,Ap,np,cp⟩:=v;simp only at G s D ⊢;have U:=aB ((aQ w (Z #[.int .i64 b.vars,O Ao no co,O Ae ne ce,.int .i64 b.nat,O Ap np cp,.int .i64 known,.int .i64 self] 94)).alloc aD (Z #[.int .i64 m.op,.int .i64 m.a,.int .i64 m.b] 46));have HR:Hid (cP b known self m=(((I:Int)==self)||fQ b known m.a)):=aB (by unfold cP;rw[XN aA,XN aA,XP a0,F]);rw[<-F]at D;rw[a0]at U ⊢;generalize cP b known self m=res at *;generalize hkd:(bP b m.a).kind=kd at *;generalize hcl:(bP b m.a).ctors.length=cl at *;generalize fQ b known m.a=fam at *;generalize b.vars=bv at *;generalize b.nat=bn at *;generalize m.b=mb at *;rw[F]at *;clear hb hk hp a5 a1 F;by_cases z:(I:Int)=self
 . have a2:((I:Int)==self)=true:=by simp[z]
   rw[a2,Bool.true_or]at HR;clear z s G hkd hcl a0;go_in;go_wp2_with fail;go_ret;rw[HR.o];exact⟨rfl,U.o⟩
 have a2:((I:Int)==self)=false:=by simpa using z
 rw[a2,ZP]at HR;clear z s G hkd hcl a0;go_in;go_wp2_with fail;refine (D.o _ U.o).mono ?_;rintro e w2 ⟨rfl,a3⟩;have a4:=bY U a3;clear a3;go_wp2_with fail;go_ret;rw[HR.o];exact⟨rfl,a4.o⟩
theorem IW{v:bR}{b:Bk}(hb:cE w v b)(known self:Int)(hk:known<=b.entries.length)(m:Nd)(hp:cD m.op m.a m.b=true)(z:m.op=11):
 Calls Tryz.prog 99 #[.agg #[.int .i64 b.vars,O v.Ao v.no v.co,O v.Ae v.ne v.ce,.int .i64 b.nat,O v.Ap v.np v.cp,.int .i64 known,.int .i64 self],.agg #[.int .i64 m.op,.int .i64 m.a,.int .i64 m.b]] w (gT (cP b known self m) w):=by
 have a2:=aV.1 hp;have I:=hb.entries.len;obtain⟨ea,F⟩:∃ea:Nat,m.a=(ea:Int):=⟨m.a.toNat,by omega⟩;obtain⟨s,D⟩:=aAC (fun (h:(ea:Int)<known)=>hb.entries.at_ (k:=ea) aA) (fun (w':aAB) (h:ZY w w')=>jH (hb.below h) known self hk ea);have G:b.entries.getD ea default=bP b m.a:=by rw[F];unfold bP;rw[YG]
 rw[G]at s;obtain⟨Ao,no,co,Ae,ne,ce,Ap,np,cp⟩:=v;simp only at I s D ⊢;have U:=aB ((aQ w (Z #[.int .i64 b.vars,O Ao no co,O Ae ne ce,.int .i64 b.nat,O Ap np cp,.int .i64 known,.int .i64 self] 94)).alloc aD (Z #[.int .i64 m.op,.int .i64 m.a,.int .i64 m.b] 46));have HR:Hid (cP b known self m=fQ b known m.a):=aB (by unfold cP;rw[XN aA,XN aA,XN aA,XP z]);rw[<-F]at D;rw[z]at U ⊢;generalize cP b known self m=res at *;generalize hkd:(bP b m.a).kind=kd at *;generalize hcl:(bP b m.a).ctors.length=cl at *;generalize fQ b known m.a=fam at *;generalize b.vars=bv at *;generalize b.nat=bn at *;generalize m.b=mb at *;rw[F]at *;clear hb hk hp a2 G F;clear s I hkd hcl z;go_in;go_wp2_with fail;refine (D.o _ U.o).mono ?_;rintro e w2 ⟨rfl,a0⟩;have a1:=bY U a0;clear a0;go_wp2_with fail;go_ret;rw[HR.o];exact⟨rfl,a1.o⟩
theorem M5{v:bR}{b:Bk}(hb:cE w v b)(known self:Int)(hk:known<=b.entries.length)(m:Nd)(hp:cD m.op m.a m.b=true)(a6:m.op=10):
 Calls Tryz.prog 99 #[.agg #[.int .i64 b.vars,O v.Ao v.no v.co,O v.Ae v.ne v.ce,.int .i64 b.nat,O v.Ap v.np v.cp,.int .i64 known,.int .i64 self],.agg #[.int .i64 m.op,.int .i64 m.a,.int .i64 m.b]] w (gT (cP b known self m) w):=by
 have b7:=aV.1 hp;have a4:=hb.entries.len;obtain⟨I,a3⟩:∃I:Nat,m.a=(I:Int):=⟨m.a.toNat,by omega⟩;obtain⟨a2,a0⟩:=aAC (fun (h:(I:Int)<known)=>hb.entries.at_ (k:=I) aA) (fun (w':aAB) (h:ZY w w')=>jH (hb.below h) known self hk I);have a7:b.entries.getD I default=bP b m.a:=by rw[a3];unfold bP;rw[YG]
 rw[a7]at a2;obtain⟨Ao,no,co,Ae,ne,ce,Ap,np,cp⟩:=v;simp only at a4 a2 a0 ⊢;have c1:known<=(ne:Int):=aA;have b2:=aB ((aQ w (Z #[.int .i64 b.vars,O Ao no co,O Ae ne ce,.int .i64 b.nat,O Ap np cp,.int .i64 known,.int .i64 self] 94)).alloc aD (Z #[.int .i64 m.op,.int .i64 m.a,.int .i64 m.b] 46));have HR:Hid (cP b known self m=(fQ b known m.a&&decide (m.b<((bP b m.a).ctors.length:Int)))):=aB (by unfold cP;rw[XN aA,XN aA,XN aA,XN aA,XP a6]);have a5:fQ b known m.a=true->(I:Int)<known:=fun h=>by
  unfold fQ at h;rw[YC,YJ,a3]at h;exact h.1
 rw[<-a3]at a0;rw[a6]at b2 ⊢;generalize cP b known self m=res at *;generalize hkd:(bP b m.a).kind=kd at *;generalize hcl:(bP b m.a).ctors.length=cl at *;generalize fQ b known m.a=fam at *;generalize b.vars=bv at *;generalize b.nat=bn at *;generalize m.b=mb at *;rw[a3]at *;obtain⟨HW,HV⟩:=aAC (aT.new w 94 #[.int .i64 bv,O Ao no co,O Ae ne ce,.int .i64 bn,O Ap np cp,.int .i64 known,.int .i64 self]) (aT.new (w.alloc (Z #[.int .i64 bv,O Ao no co,O Ae ne ce,.int .i64 bn,O Ap np cp,.int .i64 known,.int .i64 self] 94)) 46 #[.int .i64 10,.int .i64 (I:Int),.int .i64 mb]);clear hb hk hp b7 a7 a3;have a1:=aB (aU b2.o 1);have F:∀i,(((w.alloc (Z #[.int .i64 bv,O Ao no co,O Ae ne ce,.int .i64 bn,O Ap np cp,.int .i64 known,.int .i64 self] 94)).alloc (Z #[.int .i64 10,.int .i64 (I:Int),.int .i64 mb] 46)).drew).cell? ⟨w.heap.size,i,X⟩=(#[.int .i64 bv,O Ao no co,O Ae ne ce,.int .i64 bn,O Ap np cp,.int .i64 known,.int .i64 self]:Array Value)[i]?:=fun i=>(zR _ _).trans (aT.cell (HW.o.alloc (Z #[.int .i64 10,.int .i64 (I:Int),.int .i64 mb] 46)) i);have s:∀i,(((w.alloc (Z #[.int .i64 bv,O Ao no co,O Ae ne ce,.int .i64 bn,O Ap np cp,.int .i64 known,.int .i64 self] 94)).alloc (Z #[.int .i64 10,.int .i64 (I:Int),.int .i64 mb] 46)).drew).cell? ⟨w.heap.size+1,i,X⟩=(#[.int .i64 10,.int .i64 (I:Int),.int .i64 mb]:Array Value)[i]?:=by
  have h:=aT.cell HV.o;rw[show (w.alloc (Z #[.int .i64 bv,O Ao no co,O Ae ne ce,.int .i64 bn,O Ap np cp,.int .i64 known,.int .i64 self] 94)).heap.size=w.heap.size+1 from by simp]at h;exact fun i=>(zR _ _).trans (h i)
 cases fam with
 | false =>
  rw[Bool.false_and]at HR;clear a2 a4 hkd hcl a6 a5;go_in;go_wp2_with fail;refine wp_region_held_drew (S:=(fun w'=>w'.cell? ⟨w.heap.size,0,X⟩=Y (.int .i64 bv)/\w'.cell? ⟨w.heap.size,1,X⟩=Y (O Ao no co)/\w'.cell? ⟨w.heap.size,2,X⟩=Y (O Ae ne ce)/\w'.cell? ⟨w.heap.size,3,X⟩=Y (.int .i64 bn)/\w'.cell? ⟨w.heap.size,4,X⟩=Y (O Ap np cp)/\w'.cell? ⟨w.heap.size,5,X⟩=Y (.int .i64 known)/\w'.cell? ⟨w.heap.size,6,X⟩=Y (.int .i64 self)/\w'.cell? ⟨w.heap.size+1,0,X⟩=Y (.int .i64 10)/\w'.cell? ⟨w.heap.size+1,1,X⟩=Y (.int .i64 (I:Int))/\w'.cell? ⟨w.heap.size+1,2,X⟩=Y (.int .i64 mb))) aC ?_ (fun D=>?_)
  . (try dsimp only);exact⟨F 0,F 1,F 2,F 3,F 4,F 5,F 6,s 0,s 1,s 2⟩
  refine aL 0 D ?_;refine aL 1 D ?_;refine aL 2 D ?_;refine r1 3 fun K hK=>?_;go_simp;go_at_call 129
  refine (a0.o _ a1.o).mono ?_;rintro e w2 ⟨rfl,U⟩;have G:=fun i=>(U.cell (p:=⟨w.heap.size,i,X⟩) aG).trans (F i);have z:=fun i=>(U.cell (p:=⟨w.heap.size+1,i,X⟩) aD).trans (s i);go_wp2_with fail;refine hK.o _ _ (by exact⟨G 0,G 1,G 2,G 3,G 4,G 5,G 6,z 0,z 1,z 2⟩) fun D=>?_;clear hK K;try simp only[p7]
  refine aL 4 D ?_;refine aM 5 D ?_;refine aM 6 D ?_;refine aM 7 D ?_;refine aM 8 D ?_;refine aM 9 D ?_;refine aM 10 D ?_;refine aM 11 D ?_;refine aM 12 D ?_;refine aM 13 D ?_;refine aM 14 D ?_;refine aM 15 D ?_;refine aM 16 D ?_;refine aL 17 D ?_;refine aL 18 D ?_;refine wpAnyH_done aC ?_ _;have a8:=bY a1 U;clear U;go_wp2_with fail;go_ret;rw[HR.o];exact⟨rfl,a8.o⟩
 | true =>
  rw[YZ]at HR;obtain⟨be,oe,rfl,b6,ev,_,_,_,_,a9,_,_,b4⟩:=a2.o (a5 rfl);have c2:I<ne:=by have:=a5 rfl;omega
  have b0:=b4.ctors.len;rw[hcl]at b0;obtain⟨cA,cn,cC,b1⟩:∃cA cn cC,(Value.slice ev.Ac ev.nc ev.cc)=O cA cn cC/\ev.nc=cn:=⟨_,_,_,rfl,rfl⟩;rw[b1.1]at a9;have b3:cl=cn:=by rw[<-b1.2];exact b0
  have b5:(((w.alloc (Z #[.int .i64 bv,O Ao no co,O (Y ⟨be,oe,X⟩) ne ce,.int .i64 bn,O Ap np cp,.int .i64 known,.int .i64 self] 94)).alloc (Z #[.int .i64 10,.int .i64 (I:Int),.int .i64 mb] 46)).drew).cell? ⟨be,oe+I*7+4,X⟩=Y (O cA cn cC):=(a1.o.cell (p:=⟨be,oe+I*7+4,X⟩) b6).trans a9;rw[b3]at HR;have b9:(0:Int)<=(I:Int):=aA;have c0:(I:Int)<(ne:Int):=aA;clear a2 a4 hkd hcl a6 a5 b1 b3 b0 a9 b4;go_in;go_wp2_with fail;refine wp_region_held_drew (S:=(fun w'=>w'.cell? ⟨w.heap.size,0,X⟩=Y (.int .i64 bv)/\w'.cell? ⟨w.heap.size,1,X⟩=Y (O Ao no co)/\w'.cell? ⟨w.heap.size,2,X⟩=Y (O (Y ⟨be,oe,X⟩) ne ce)/\w'.cell? ⟨w.heap.size,3,X⟩=Y (.int .i64 bn)/\w'.cell? ⟨w.heap.size,4,X⟩=Y (O Ap np cp)/\w'.cell? ⟨w.heap.size,5,X⟩=Y (.int .i64 known)/\w'.cell? ⟨w.heap.size,6,X⟩=Y (.int .i64 self)/\w'.cell? ⟨w.heap.size+1,0,X⟩=Y (.int .i64 10)/\w'.cell? ⟨w.heap.size+1,1,X⟩=Y (.int .i64 (I:Int))/\w'.cell? ⟨w.heap.size+1,2,X⟩=Y (.int .i64 mb)/\w'.cell? ⟨be,oe+I*7+4,X⟩=Y (O cA cn cC))) aC ?_ (fun D=>?_)
  . (try dsimp only);exact⟨F 0,F 1,F 2,F 3,F 4,F 5,F 6,s 0,s 1,s 2,b5⟩
  refine aL 0 D ?_;refine aL 1 D ?_;refine aL 2 D ?_;refine r1 3 fun K hK=>?_;go_simp;go_at_call 129
  refine (a0.o _ a1.o).mono ?_;rintro e w2 ⟨rfl,U⟩;have G:=fun i=>(U.cell (p:=⟨w.heap.size,i,X⟩) aG).trans (F i);have z:=fun i=>(U.cell (p:=⟨w.heap.size+1,i,X⟩) aD).trans (s i);have b8:w2.cell? ⟨be,oe+I*7+4,X⟩=Y (O cA cn cC):=(U.cell (p:=⟨be,oe+I*7+4,X⟩) aG).trans b5;go_wp2_with fail;refine hK.o _ _ (by exact⟨G 0,G 1,G 2,G 3,G 4,G 5,G 6,z 0,z 1,z 2,b8⟩) fun D=>?_;clear hK K;try simp only[p7]
  refine aL 4 D ?_;refine aL 5 D ?_;refine aL 6 D ?_;refine aL 7 D ?_;refine aL 8 D ?_;refine aL 9 D ?_;refine aL 10 D ?_;refine aL 11 D ?_;refine aL 12 D ?_;refine aL 13 D ?_;refine aL 14 D ?_;refine aL 15 D ?_;refine aL 16 D ?_;refine aL 17 D ?_;refine aL 18 D ?_;refine wpAnyH_done aC ?_ _;have a8:=bY a1 U;clear U;go_wp2_with fail;go_ret;rw[HR.o];exact⟨rfl,a8.o⟩
theorem PY{v:bR}{b:Bk}(D:cE w v b)(known self:Int)(F:known<=b.entries.length)(m:Nd)(G:cD m.op m.a m.b=true):
 Calls Tryz.prog 99 #[.agg #[.int .i64 b.vars,O v.Ao v.no v.co,O v.Ae v.ne v.ce,.int .i64 b.nat,O v.Ap v.np v.cp,.int .i64 known,.int .i64 self],.agg #[.int .i64 m.op,.int .i64 m.a,.int .i64 m.b]] w (gT (cP b known self m) w):=by
 by_cases I:m.op=3
 . exact M4 D known self F m G I
 by_cases U:m.op=8
 . exact IV D known self F m G U
 by_cases h:m.op=9
 . exact P0 D known self F m G h
 by_cases o:m.op=11
 . exact IW D known self F m G o
 by_cases s:m.op=10
 . exact M5 D known self F m G s
 exact P2 D known self F m G ⟨I,U,h,o,s⟩
theorem DC{v:bR}{b:Bk}(hb:cE w v b)(known self:Int)(hk:known<=b.entries.length){l:List Nd}(ht:aX w A n c l)(below:Int):
 Calls Tryz.prog 51 #[.agg #[.int .i64 b.vars,O v.Ao v.no v.co,O v.Ae v.ne v.ce,.int .i64 b.nat,O v.Ap v.np v.cp,.int .i64 known,.int .i64 self],O A n c,.int .i64 below] w (iV (fM b known self l below) w):=by
 have c8:=ht.len;have c7:=ht.few;obtain⟨HS,a5,HT,b1,a0⟩:=aAD (fun (w':aAB) (h:ZY w w')=>cR (ht.below h)) (fun (w':aAB) (h:ZY w w')=>L7 (ht.below h) below) (fun (w':aAB) (h:ZY w w')=>ht.below h) (fun (w':aAB) (h:ZY w w') (m:Nd) (hp:cD m.op m.a m.b=true)=>PY (hb.below h) known self hk m hp) (fun (h:a6 l=0)=>FV h);have HR:Hid (fM b known self l below=if a6 l≠0 then a6 l else if gH l below=false then 8 else if l.all (cP b known self) then 0 else 8):=aB rfl;generalize fM b known self l below=res at *;obtain⟨Ao,no,co,Ae,ne,ce,Ap,np,cp⟩:=v;simp only at b1 ⊢;clear ht hb hk;generalize b.vars=bv at *;generalize b.nat=bn at *;obtain⟨G,b6⟩:=aAC (aQ w (Z #[.int .i64 bv,O Ao no co,O Ae ne ce,.int .i64 bn,O Ap np cp,.int .i64 known,.int .i64 self] 94)) (aT.new w 94 #[.int .i64 bv,O Ao no co,O Ae ne ce,.int .i64 bn,O Ap np cp,.int .i64 known,.int .i64 self]);obtain⟨sh,b4⟩:=aAJ (a6 l);rw[<-b4]at HS a0 HR;clear b4;by_cases h0:sh=0;case neg =>
  have d0:(sh != 0)=true:=by simpa using h0
  rw[XP h0]at HR;clear h0 a0;go_in;go_wp2_with fail;refine (HS.o _ G.o).mono ?_;rintro e w2 ⟨rfl,D⟩;have F:=bY G D;clear D;go_wp2_with fail;go_ret;rw[HR.o];exact⟨rfl,F.o⟩
 subst h0;rw[XN aD]at HR;have c1:=aB (a0.o rfl);clear a0;obtain⟨bb,b2⟩:=aAJ (gH l below);rw[<-b2]at a5 HR;clear b2;cases bb with
 | false =>
  rw[XP rfl]at HR;go_in;go_wp2_with fail;refine (HS.o _ G.o).mono ?_;rintro e w2 ⟨rfl,D⟩;have F:=bY G D;clear D;go_wp2_with fail;refine (a5.o _ F.o).mono ?_;rintro e w3 ⟨rfl,I⟩;have a3:=bY F I;clear I;go_wp2_with fail;go_ret;rw[HR.o];exact⟨rfl,a3.o⟩
 | true =>
  rw[XN aD]at HR;go_in;go_wp2_with fail;refine (HS.o _ G.o).mono ?_;rintro e w2 ⟨rfl,D⟩;have F:=bY G D;have b7:=aB (aT.below b6.o D aD);clear D;go_wp2_with fail;refine (a5.o _ F.o).mono ?_;rintro e w3 ⟨rfl,I⟩;have a3:=bY F I;have b8:=j8 b7 I;clear I;go_wp2_with fail;go_loopw [21] (fun iv wr=>∃i:Nat,iv=.int .i64 (i:Int)/\i<=n/\Hid ((l.take i).all (cP b known self)=true)/\Hid (aT wr w.heap.size 94 #[.int .i64 bv,O Ao no co,O Ae ne ce,.int .i64 bn,O Ap np cp,.int .i64 known,.int .i64 self])/\Hid (ZY w wr)) (fun i _=>n-(intOf i).toNat)
  case atStart=>exact⟨0,rfl,by omega,aB aD,b8,a3⟩
  case round =>
   obtain⟨i,rfl,hi,a2,s,a1⟩:=hrel;by_cases c6:i<n;rotate_left
   . have c5:decide ((i:Int)<(n:Int))=false:=XQ aA;have a8:Hid (res=0):=aB (by
      have:=a2.o;rw[ZN aA]at this;rw[HR.o,XP this])
     go_wp2_with fail;go_ret;rw[a8.o];exact⟨rfl,a1.o⟩
   have c5:decide ((i:Int)<(n:Int))=true:=XR aA;obtain⟨b',off,rfl,c9,c2,c3,c4⟩:=(HT.o wr a1.o).at_ c6;have b3:i<l.length:=aA;obtain⟨m,hm⟩:=aAJ (bC l i);have z:m=l[i]:=by rw[hm,lR b3]
   rw[<-hm]at c2 c3 c4;have b0:l.take (i+1)=l.take i++[m]:=by rw[List.take_succ_eq_append_getElem b3,z]
   have a9:=c1.o m (by rw[z];exact ZQ _);have a7:=aB (a1.o.trans ((aQ wr (Z #[.int .i64 m.op,.int .i64 m.a,.int .i64 m.b] 46)).mono a1.o.size));have c0:=aB (s.o.alloc (Z #[.int .i64 m.op,.int .i64 m.a,.int .i64 m.b] 46));have zc:=aT.cell s.o;have d1:=s.o.lt;have HC:=aB (b1.o _ a7.o m a9);obtain⟨r,hr⟩:=aAJ (cP b known self m);rw[<-hr]at HC;cases r with
   | false =>
    have a8:Hid (res=8):=aB (by
     rw[HR.o,XN];rw[List.all_eq_true];intro h;have:=h m (by rw[z];exact ZQ _);rw[<-hr]at this;cases this)
    clear hr hm z b0 a9;generalize m.op=mo at *;generalize m.a=ma at *;generalize m.b=mb at *;go_wp2_with fail;refine (HC.o).mono ?_;rintro e w5 ⟨rfl,U⟩;have a4:=bY a7 U;clear U;go_wp2_with fail;go_ret;rw[a8.o];exact⟨rfl,a4.o⟩
   | true =>
    have b5:Hid ((l.take (i+1)).all (cP b known self)=true):=aB (by rw[b0,List.all_append,a2.o];simp[<-hr]);clear hr hm z b0 a9;generalize m.op=mo at *;generalize m.a=ma at *;generalize m.b=mb at *;go_wp2_with fail;refine (HC.o).mono ?_;rintro e w5 ⟨rfl,U⟩;have a4:=bY a7 U;have b9:=j8 c0 U;clear U zc;go_wp2_with fail;go_roundw
    case rel=>exact⟨i+1,by go_num,by omega,b5,b9,a4⟩
    case measure=>simp[intOf];omega
theorem rQ{v:bR}{b:Bk}(hb:cE w v b)(known self:Int)(hk:known<=b.entries.length){ls:aAA}(ht:fP w A n c ls)(below step:Int)(b4:step=0\/step=1)(c2:0<=below)(c1:below<=1000000)(hn:n<=100000):
 Calls Tryz.prog 92 #[.agg #[.int .i64 b.vars,O v.Ao v.no v.co,O v.Ae v.ne v.ce,.int .i64 b.nat,O v.Ap v.np v.cp,.int .i64 known,.int .i64 self],O A n c,.int .i64 below,.int .i64 step] w (iV (dE b known self step ls below) w):=by
 have b7:=ht.len;obtain⟨a1,HT⟩:=aAC (fun (w':aAB) (A':ZZ) (n' c':Nat) (l:List Nd) (be:Int) (h:ZY w w') (h1:aX w' A' n' c' l)=>DC (hb.below h) known self hk h1 be) (fun (w':aAB) (h:ZY w w')=>ht.below h);obtain⟨a5,U⟩:=aAJ (dE b known self step ls below);rw[<-U];have a0:=aB U;obtain⟨Ao,no,co,Ae,ne,ce,Ap,np,cp⟩:=v;simp only at a1 ⊢;clear ht hb hk U;generalize b.vars=bv at *;generalize b.nat=bn at *;obtain⟨a6,a7⟩:=aAC (aQ w (Z #[.int .i64 bv,O Ao no co,O Ae ne ce,.int .i64 bn,O Ap np cp,.int .i64 known,.int .i64 self] 94)) (aT.new w 94 #[.int .i64 bv,O Ao no co,O Ae ne ce,.int .i64 bn,O Ap np cp,.int .i64 known,.int .i64 self]);have b3:0<=step/\step<=1:=aA;obtain⟨c3,c4⟩:=b3;clear b4;go_in;go_wp2_with fail;go_loopw [2,14] (fun b0 iv wr=>∃(i:Nat)(be:Int),b0=.int .i64 be/\iv=.int .i64 (i:Int)/\i<=n/\0<=be/\be<=below+i/\Hid (dE b known self step (ls.drop i) be=a5)/\Hid (aT wr w.heap.size 94 #[.int .i64 bv,O Ao no co,O Ae ne ce,.int .i64 bn,O Ap np cp,.int .i64 known,.int .i64 self])/\Hid (ZY w wr)) (fun _ i _=>n-(intOf i).toNat)
 case atStart=>exact⟨0,below,rfl,rfl,by omega,by omega,by omega,aB a0.o.symm,a7,a6⟩
 case round =>
  obtain⟨i,be,rfl,rfl,hi,b5,b6,a3,s,I⟩:=hrel;by_cases b2:i<n;rotate_left
  . have b1:decide ((i:Int)<(n:Int))=false:=XQ aA;have a9:Hid (a5=0):=aB (by
     have:=a3.o;rw[YY aA]at this;exact this.symm)
    go_wp2_with fail;go_ret;rw[a9.o];exact⟨rfl,I.o⟩
  have b1:decide ((i:Int)<(n:Int))=true:=XR aA;obtain⟨b',off,A',n',c',rfl,b8,c0,a4⟩:=(HT.o wr I.o).at_ b2;have a2:i<ls.length:=aA;have D:=a3.o;rw[YX a2,show ls[i]=ls.getD i [] from by rw[YD,YB a2];rfl]at D;simp only[dE]at D;have HC:=aB (a1.o wr A' n' c' _ be I.o a4);generalize hre:fM b known self (ls.getD i []) be=re at *;have zc:=aT.cell s.o;clear hre a4;by_cases h0:re=0
  . rw[XN (by simp[h0])]at D;have G:=aB D;subst h0;clear D;go_wp2_with fail;refine (HC.o).mono ?_;rintro e w5 ⟨rfl,F⟩;have z:=bY I F;have a8:=j8 s F;clear F zc;go_wp2_with fail;go_roundw
    case rel=>exact⟨i+1,be+step,rfl,by go_num,by omega,by omega,by omega,G,a8,z⟩
    case measure=>simp[intOf];omega
  rw[XP h0]at D;have G:=aB D;have b9:(re != 0)=true:=by simpa using h0
  clear D h0;go_wp2_with fail;refine (HC.o).mono ?_;rintro e w5 ⟨rfl,F⟩;have z:=bY I F;clear F zc;go_wp2_with fail;go_ret;rw[<-G.o];exact⟨rfl,z.o⟩
end Go.Proofs.YtjoddliplahgkaaGreat
