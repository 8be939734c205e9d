/- Merged: BookV, BookN, BookNode, BookRow. -/
import Derived.Test.YtjoddliplahgkaaGreatPLevels
namespace Go.Proofs.YtjoddliplahgkaaGreat
set_option linter.unusedVariables false
set_option linter.unusedSimpArgs false
open Go.RowKit
open Go.Value renaming slice → O
open Option renaming none → X, some → Y
open Go.Obj renaming cells → Z
open Go.Lib renaming hid->aB
set_option maxHeartbeats 8000000
set_option maxRecDepth 100000
structure fF (w:World) (A:Option Addr) (n c:Nat) (ls:List (List Nd)):Prop where
 len:ls.length=n
 few:n<=5864062014805
 mem:0<n->∃b off,A=Y ⟨b,off,X⟩/\b<w.heap.size/\∀k,k<n->∃A' n' c',w.cell? ⟨b,off+k,X⟩=Y (O A' n' c')/\aY w A' n' c' (ls.getD k [])
theorem fF.below {w w':World} {A:Option Addr} {n c:Nat} {ls:List (List Nd)} (h:fF w A n c ls) (hb:Below w.heap.size w w'):fF w' A n c ls :=
 ⟨h.len,h.few,fun hn=>by
  obtain⟨b,off,e,a0,hm⟩:=h.mem hn;refine⟨b,off,e,Nat.lt_of_lt_of_le a0 hb.size,fun k hk => ?_⟩;obtain⟨A',n',c',h1,h2⟩:=hm k hk;exact⟨A',n',c',(hb.cell (p:=⟨b,off+k,X⟩) a0).trans h1,h2.below hb⟩⟩
theorem fF.at_ {w:World} {A:Option Addr} {n c:Nat} {ls:List (List Nd)} (h:fF w A n c ls) {k:Nat} (hk:k<n) : ∃b off A' n' c',A=Y ⟨b,off,X⟩/\b<w.heap.size/\w.cell? ⟨b,off+k,X⟩=Y (O A' n' c')/\aY w A' n' c' (ls.getD k []):=by
 obtain⟨b,off,e,hb,hm⟩:=h.mem aA;obtain⟨A',n',c',h1,h2⟩:=hm k hk;exact⟨b,off,A',n',c',e,hb,h1,h2⟩
structure Ct where
 args:List (List Nd)
 outs:List (List Nd)
instance:Inhabited Ct:=⟨⟨[],[]⟩⟩
structure En where
 kind:Int
 sort:List Nd
 params:List (List Nd)
 indices:List (List Nd)
 ctors:List Ct
 type:List Nd
 body:List Nd
instance:Inhabited En:=⟨⟨0,[],[],[],[],[],[]⟩⟩
structure Bk where
 vars:Int
 orders:List Nd
 entries:List En
 nat:Int
 prims:List (Int×Int)
instance:Inhabited Bk:=⟨⟨0,[],[],0,[]⟩⟩
structure s8 (w:World) (A:Option Addr) (n c:Nat) (cs:List Ct):Prop where
 len:cs.length=n
 few:n<=5864062014805
 mem:0<n->∃b off,A=Y ⟨b,off,X⟩/\b<w.heap.size/\∀k,k<n->∃A1 n1 c1 A2 n2 c2,w.cell? ⟨b,off+k*2,X⟩=Y (O A1 n1 c1)/\w.cell? ⟨b,off+k*2+1,X⟩=Y (O A2 n2 c2)/\fF w A1 n1 c1 (cs.getD k default).args/\fF w A2 n2 c2 (cs.getD k default).outs
theorem s8.below {w w':World} {A:Option Addr} {n c:Nat} {cs:List Ct} (h:s8 w A n c cs) (hb:Below w.heap.size w w'):s8 w' A n c cs :=
 ⟨h.len,h.few,fun hn=>by
  obtain⟨b,off,e,a0,hm⟩:=h.mem hn;refine⟨b,off,e,Nat.lt_of_lt_of_le a0 hb.size,fun k hk => ?_⟩;obtain⟨A1,n1,c1,A2,n2,c2,h1,h2,h3,h4⟩:=hm k hk;exact⟨A1,n1,c1,A2,n2,c2,(hb.cell (p:=⟨b,off+k*2,X⟩) a0).trans h1,(hb.cell (p:=⟨b,off+k*2+1,X⟩) a0).trans h2,h3.below hb,h4.below hb⟩⟩
structure jF where
 As:Option Addr
 ns:Nat
 cs:Nat
 Ap:Option Addr
 np:Nat
 cp:Nat
 Ai:Option Addr
 ni:Nat
 ci:Nat
 Ac:Option Addr
 nc:Nat
 cc:Nat
 At:Option Addr
 nt:Nat
 ct:Nat
 Ab:Option Addr
 nb:Nat
 cb:Nat
structure AL (w:World) (v:jF) (x:En):Prop where
 sort:aY w v.As v.ns v.cs x.sort
 params:fF w v.Ap v.np v.cp x.params
 indices:fF w v.Ai v.ni v.ci x.indices
 ctors:s8 w v.Ac v.nc v.cc x.ctors
 type:aY w v.At v.nt v.ct x.type
 body:aY w v.Ab v.nb v.cb x.body
theorem AL.below {w w':World} {v:jF} {x:En} (h:AL w v x) (hb:Below w.heap.size w w'):AL w' v x :=
 ⟨h.sort.below hb,h.params.below hb,h.indices.below hb,h.ctors.below hb,h.type.below hb,h.body.below hb⟩
structure yL (w:World) (A:Option Addr) (n c:Nat) (es:List En):Prop where
 len:es.length=n
 few:n<=5864062014805
 mem:0<n->∃b off,A=Y ⟨b,off,X⟩/\b<w.heap.size/\∀k,k<n->∃v:jF,w.cell? ⟨b,off+k*7,X⟩=Y (.int .i64 (es.getD k default).kind)/\w.cell? ⟨b,off+k*7+1,X⟩=Y (O v.As v.ns v.cs)/\w.cell? ⟨b,off+k*7+2,X⟩=Y (O v.Ap v.np v.cp)/\w.cell? ⟨b,off+k*7+3,X⟩=Y (O v.Ai v.ni v.ci)/\w.cell? ⟨b,off+k*7+4,X⟩=Y (O v.Ac v.nc v.cc)/\w.cell? ⟨b,off+k*7+5,X⟩=Y (O v.At v.nt v.ct)/\w.cell? ⟨b,off+k*7+6,X⟩=Y (O v.Ab v.nb v.cb)/\AL w v (es.getD k default)
theorem yL.below {w w':World} {A:Option Addr} {n c:Nat} {es:List En} (h:yL w A n c es) (hb:Below w.heap.size w w'):yL w' A n c es :=
 ⟨h.len,h.few,fun hn=>by
  obtain⟨b,off,e,a0,hm⟩:=h.mem hn;refine⟨b,off,e,Nat.lt_of_lt_of_le a0 hb.size,fun k hk => ?_⟩;obtain⟨v,h0,h1,h2,h3,h4,h5,h6,h7⟩:=hm k hk;exact⟨v,(hb.cell (p:=⟨b,off+k*7,X⟩) a0).trans h0,(hb.cell (p:=⟨b,off+k*7+1,X⟩) a0).trans h1,(hb.cell (p:=⟨b,off+k*7+2,X⟩) a0).trans h2,(hb.cell (p:=⟨b,off+k*7+3,X⟩) a0).trans h3,(hb.cell (p:=⟨b,off+k*7+4,X⟩) a0).trans h4,(hb.cell (p:=⟨b,off+k*7+5,X⟩) a0).trans h5,(hb.cell (p:=⟨b,off+k*7+6,X⟩) a0).trans h6,h7.below hb⟩⟩
theorem yL.at_ {w:World} {A:Option Addr} {n c:Nat} {es:List En} (h:yL w A n c es) {k:Nat} (hk:k<n) : ∃b off,A=Y ⟨b,off,X⟩/\b<w.heap.size/\∃v:jF,w.cell? ⟨b,off+k*7,X⟩=Y (.int .i64 (es.getD k default).kind)/\w.cell? ⟨b,off+k*7+1,X⟩=Y (O v.As v.ns v.cs)/\w.cell? ⟨b,off+k*7+2,X⟩=Y (O v.Ap v.np v.cp)/\w.cell? ⟨b,off+k*7+3,X⟩=Y (O v.Ai v.ni v.ci)/\w.cell? ⟨b,off+k*7+4,X⟩=Y (O v.Ac v.nc v.cc)/\w.cell? ⟨b,off+k*7+5,X⟩=Y (O v.At v.nt v.ct)/\w.cell? ⟨b,off+k*7+6,X⟩=Y (O v.Ab v.nb v.cb)/\AL w v (es.getD k default):=by
 obtain⟨b,off,e,hb,hm⟩:=h.mem aA;obtain⟨v,h0⟩:=hm k hk;exact⟨b,off,e,hb,v,h0⟩
structure DT (w:World) (A:Option Addr) (n c:Nat) (ps:List (Int×Int)):Prop where
 len:ps.length=n
 few:n<=8796093021952
 mem:0<n->∃b off,A=Y ⟨b,off,X⟩/\b<w.heap.size/\∀k,k<n->w.cell? ⟨b,off+k*2,X⟩=Y (.int .i64 (ps.getD k (0,0)).1)/\w.cell? ⟨b,off+k*2+1,X⟩=Y (.int .i64 (ps.getD k (0,0)).2)
theorem DT.below {w w':World} {A:Option Addr} {n c:Nat} {ps:List (Int×Int)} (h:DT w A n c ps) (hb:Below w.heap.size w w'):DT w' A n c ps :=
 ⟨h.len,h.few,fun hn=>by
  obtain⟨b,off,e,a0,hm⟩:=h.mem hn;refine⟨b,off,e,Nat.lt_of_lt_of_le a0 hb.size,fun k hk => ?_⟩;obtain⟨h1,h2⟩:=hm k hk;exact⟨(hb.cell (p:=⟨b,off+k*2,X⟩) a0).trans h1,(hb.cell (p:=⟨b,off+k*2+1,X⟩) a0).trans h2⟩⟩
structure bO where
 Ao:Option Addr
 no:Nat
 co:Nat
 Ae:Option Addr
 ne:Nat
 ce:Nat
 Ap:Option Addr
 np:Nat
 cp:Nat
structure bX (w:World) (v:bO) (b:Bk):Prop where
 orders:aY w v.Ao v.no v.co b.orders
 entries:yL w v.Ae v.ne v.ce b.entries
 prims:DT w v.Ap v.np v.cp b.prims
 vars:(Lit.int .i64 b.vars).wf=true
 nat:(Lit.int .i64 b.nat).wf=true
 kinds:∀x ∈ b.entries,(Lit.int .i64 x.kind).wf=true
 primsw:∀p ∈ b.prims,(Lit.int .i64 p.1).wf=true/\(Lit.int .i64 p.2).wf=true
theorem bX.below {w w':World} {v:bO} {b:Bk} (h:bX w v b) (hb:Below w.heap.size w w'):bX w' v b :=
 ⟨h.orders.below hb,h.entries.below hb,h.prims.below hb,h.vars,h.nat,h.kinds,h.primsw⟩
theorem rT:∀(k:Nat) (last:Int) (l:List Nd) (p:List Nd×List Nd),bG k last l=Y p->∀m ∈ p.1,cD m.op m.a m.b=true
 | 0,_,_,p,h,m,hm=>by
  simp only[bG,Option.some.injEq] at h;subst h;cases hm
 | k+1,last,[],p,h,m,hm=>by simp[bG] at h
 | k+1,last,x::l,p,h,m,hm=>by
  simp only[bG] at h;split at h
  · rename_i hc
    simp only[Option.map_eq_some_iff] at h;obtain⟨q,hq,rfl⟩:=h;rcases List.mem_cons.1 hm with rfl | hm
    · exact hc.2.1
    exact rT k x.a l q hq m hm
  · cases h
theorem vE:∀(F:Fo) (dl:List Bool),Wf dl F->∀m ∈ row F,cD m.op m.a m.b=true
 | .nil,_,_,m,hm=>by cases hm
 | .cons p n a k x,[],h,m,hm=>h.elim
 | .cons p n a k x,d::dr,h,m,hm=>by
  obtain⟨hp,a1,a0,hk,hx⟩:=h;simp only[row,List.mem_append,List.mem_cons] at hm;simp only[eN,Bool.and_eq_true] at a1;rcases hm with hm | rfl | hm | hm | hm
  · cases d with
    | false=>simp only at hp;subst hp;cases hm
    | true =>
     obtain⟨f,rfl,hf⟩:=hp;rw[List.mem_singleton] at hm;subst hm;simp only[vI,Bool.and_eq_true] at hf;exact hf.1
  · exact a1.1.1
  · unfold iR at a0;split at a0
    · exact rT _ _ _ _ a0 m hm
    subst a0;cases hm
  · exact vE k _ hk m hm
  · exact vE x _ hx m hm
theorem C7 {l:List Nd} (h:a8 l=0) : ∀m ∈ l,cD m.op m.a m.b=true:=by
 obtain⟨n,a,k,hr⟩:=H5 h;have h2:=iP hr.pp;intro m hm;refine vE _ _ h2 m ?_;rw[hr.eq] at hm;simpa[row] using hm
def bK (b:Bk) (e:Int):En:=b.entries.getD e.toNat default
def fG (b:Bk) (known e:Int):Bool:=decide (e<known)&&(bK b e).kind==1
def cN (b:Bk) (known self:Int) (m:Nd):Bool :=
 if m.op=3 then decide (m.a<=b.vars)
 else if m.op=8 then decide (m.a<known)&&(bK b m.a).kind==2
 else if m.op=9 then m.a==self||fG b known m.a
 else if m.op=11 then fG b known m.a
 else if m.op=10 then fG b known m.a&&decide (m.b<((bK b m.a).ctors.length:Int))
 else true
def fC (b:Bk) (known self:Int) (l:List Nd) (below:Int):Int :=
 if a8 l ≠ 0 then a8 l else if fS l below=false then 8 else if l.all (cN b known self) then 0 else 8
def cZ (b:Bk) (known self:Int) (step:Int):List (List Nd)->Int->Int
 | [],_=>0
 | l::r,below=>if fC b known self l below ≠ 0 then fC b known self l below else cZ b known self step r (below+step)
def fT (b:Bk) (known:Int) (x:En):List Ct->Int
 | []=>0
 | c::r =>
  if 16<c.args.length then 5
  else if c.outs.length ≠ x.indices.length then 8
  else if cZ b known known 1 c.args x.params.length ≠ 0 then cZ b known known 1 c.args x.params.length
  else if cZ b known known 0 c.outs ((x.params.length:Int)+c.args.length) ≠ 0 then cZ b known known 0 c.outs ((x.params.length:Int)+c.args.length)
  else fT b known x r
def mA (l:List Nd):Int:=if (bD l 0).op ≠ 2 then 8 else 0
def jB:List Int->Int
 | []=>0
 | e::r=>if e ≠ 0 then e else jB r
def dD (b:Bk) (known:Int) (x:En):Int :=
 if x.kind=1 then
  if 0<x.type.length+x.body.length then 8
  else if 16<x.params.length\/16<x.indices.length\/16<x.ctors.length then 5
  else jB [fC b known (-1) x.sort 0,mA x.sort,cZ b known (-1) 1 x.params 0,cZ b known (-1) 1 x.indices x.params.length,fT b known x x.ctors]
 else if x.kind=2 then
  if 0<x.sort.length+x.params.length+x.indices.length+x.ctors.length then 8
  else cZ b known (-1) 0 [x.type,x.body] 0
 else 8
def dE (b:Bk):Nat->List En->Int
 | _,[]=>0
 | i,x::r=>if dD b i x ≠ 0 then dD b i x else dE b (i+1) r
def zJ (b:Bk) (e:Int):Bool :=
 if e<0 then false
 else if (b.entries.length:Int)<=e then false
 else if (bK b e).kind ≠ 1 then false
 else if (bK b e).sort.length ≠ 2 then false
 else if (bD (bK b e).sort 0).a ≠ 1 then false
 else if bD (bK b e).sort 1 ≠ ⟨3,0,0⟩ then false
 else if 0<(bK b e).params.length+(bK b e).indices.length then false
 else if (bK b e).ctors.length ≠ 2 then false
 else if ((bK b e).ctors.getD 0 default).args.length ≠ 0 then false
 else if ((bK b e).ctors.getD 1 default).args.length ≠ 1 then false
 else if (((bK b e).ctors.getD 1 default).args.getD 0 []).length ≠ 1 then false
 else decide (bD (((bK b e).ctors.getD 1 default).args.getD 0 []) 0=⟨9,e,0⟩)
def iX (b:Bk):List (Int×Int)->GF->Bool
 | [],_=>true
 | p::r,g =>
  if p.1<0 then false
  else if (b.entries.length:Int)<=p.1 then false
  else if (bK b p.1).kind ≠ 2 then false
  else if p.2<1 then false
  else if 3<p.2 then false
  else if 0<(g p.1 (-1)).getD 0+(g (-1) p.2).getD 0 then false
  else iX b r (gB (gB g p.1 (-1) 1) (-1) p.2 1)
def FJ (b:Bk):Bool :=
 if b.nat ≠ -1 then (if zJ b b.nat then iX b b.prims (fun _ _=>X) else false)
 else if 0<b.prims.length then false else true
def bP (b:Bk):Int :=
 if (pC b.vars b.orders).1 ≠ 0 then (pC b.vars b.orders).1
 else if 64<b.entries.length then 5
 else if dE b 0 b.entries ≠ 0 then dE b 0 b.entries
 else if FJ b then 0 else 22
def fA (b:Bk) (free:Int) (l:List Nd):Int :=
 if bP b ≠ 0 then bP b else if free<0 then 1 else fC b b.entries.length (-1) l free
theorem iV {w:World} {v:bO} {b:Bk} (hb:bX w v b) (known self:Int) (hk:known<=b.entries.length) (e:Nat) :
 Calls Tryz.prog 129 #[.agg #[.int .i64 b.vars,O v.Ao v.no v.co,O v.Ae v.ne v.ce,.int .i64 b.nat,O v.Ap v.np v.cp,.int .i64 known,.int .i64 self],.int .i64 (e:Int)] w (gC (fG b known e) w):=by
 have HB:=aB (aP w (Z #[.int .i64 b.vars,O v.Ao v.no v.co,O v.Ae v.ne v.ce,.int .i64 b.nat,O v.Ap v.np v.cp,.int .i64 known,.int .i64 self] 94));have a0:=hb.entries.len;by_cases hlt:(e:Int)<known
 · have a1:decide ((e:Int)<known)=true:=decide_eq_true hlt;obtain⟨be,oe,hA,a4,ev,a2,_⟩:=hb.entries.at_ (k:=e) aA;have HR:Hid (fG b known e=((bK b e).kind==1)):=aB (by unfold fG;rw[a1,Bool.true_and]);rw[show b.entries.getD e default=bK b e from by unfold bK;rw[Int.toNat_natCast]] at a2;obtain⟨Ao,no,co,Ae,ne,ce,Ap,np,cp⟩:=v;simp only at hA a0 HB ⊢;subst hA;have a3:e<ne:=aA;generalize (bK b e).kind=kd at *;generalize b.vars=bv at *;generalize b.nat=bn at *;generalize fG b known e=res at *;clear hb a0 hk hlt;go_in;go_wp2_with fail;go_ret;rw[HR.o];exact⟨rfl,HB.o⟩
 have a1:decide ((e:Int)<known)=false:=decide_eq_false hlt;have HR:Hid (fG b known e=false):=aB (by unfold fG;rw[a1,Bool.false_and]);generalize b.vars=bv at *;generalize b.nat=bn at *;generalize fG b known e=res at *;clear hb a0 hk hlt;go_in;go_wp2_with fail;go_ret;rw[HR.o];exact⟨rfl,HB.o⟩
theorem wL (w:World) (p:Addr):w.drew.cell? p=w.cell? p:=rfl
theorem JK {w:World} {v:bO} {b:Bk} (hb:bX w v b) (known self:Int) (hk:known<=b.entries.length) (m:Nd) (hp:cD m.op m.a m.b=true) (hop:m.op=3) :
 Calls Tryz.prog 99 #[.agg #[.int .i64 b.vars,O v.Ao v.no v.co,O v.Ae v.ne v.ce,.int .i64 b.nat,O v.Ap v.np v.cp,.int .i64 known,.int .i64 self],.agg #[.int .i64 m.op,.int .i64 m.a,.int .i64 m.b]] w (gC (cN b known self m) w):=by
 have a6:=aV.1 hp;have a0:=hb.entries.len;obtain⟨ea,a4⟩ : ∃ea:Nat,m.a=(ea:Int):=⟨m.a.toNat,by omega⟩;have a3:=aB (fun (h:(ea:Int)<known)=>hb.entries.at_ (k:=ea) aA);have a2:=aB (fun (w':World) (h:Below w.heap.size w w')=>iV (hb.below h) known self hk ea);have a1:b.entries.getD ea default=bK b m.a:=by rw[a4];unfold bK;rw[Int.toNat_natCast]
 rw[a1] at a3;obtain⟨Ao,no,co,Ae,ne,ce,Ap,np,cp⟩:=v;simp only at a0 a3 a2 ⊢;have a5:=aB ((aP w (Z #[.int .i64 b.vars,O Ao no co,O Ae ne ce,.int .i64 b.nat,O Ap np cp,.int .i64 known,.int .i64 self] 94)).alloc aD (Z #[.int .i64 m.op,.int .i64 m.a,.int .i64 m.b] 46));have HR:Hid (cN b known self m=decide (m.a<=b.vars)):=aB (by unfold cN;rw[if_pos hop]);rw[hop] at a5 ⊢;generalize cN b known self m=res at *;generalize b.vars=bv at *;generalize b.nat=bn at *;generalize m.b=mb at *;generalize m.a=ma at *;generalize hdb:decide (ma<=bv)=db at *;clear hb hk hp a6 a1 a4 a3 a2 a0 hop;go_in;go_wp2_with fail;go_ret;rw[HR.o];exact⟨rfl,a5.o⟩
theorem MN {w:World} {v:bO} {b:Bk} (hb:bX w v b) (known self:Int) (hk:known<=b.entries.length) (m:Nd) (hp:cD m.op m.a m.b=true) (hop:m.op ≠ 3/\m.op ≠ 8/\m.op ≠ 9/\m.op ≠ 11/\m.op ≠ 10) :
 Calls Tryz.prog 99 #[.agg #[.int .i64 b.vars,O v.Ao v.no v.co,O v.Ae v.ne v.ce,.int .i64 b.nat,O v.Ap v.np v.cp,.int .i64 known,.int .i64 self],.agg #[.int .i64 m.op,.int .i64 m.a,.int .i64 m.b]] w (gC (cN b known self m) w):=by
 have a5:=aV.1 hp;have a0:=hb.entries.len;obtain⟨ea,a4⟩ : ∃ea:Nat,m.a=(ea:Int):=⟨m.a.toNat,by omega⟩;have a3:=aB (fun (h:(ea:Int)<known)=>hb.entries.at_ (k:=ea) aA);have a2:=aB (fun (w':World) (h:Below w.heap.size w w')=>iV (hb.below h) known self hk ea);have a1:b.entries.getD ea default=bK b m.a:=by rw[a4];unfold bK;rw[Int.toNat_natCast]
 rw[a1] at a3;obtain⟨Ao,no,co,Ae,ne,ce,Ap,np,cp⟩:=v;simp only at a0 a3 a2 ⊢;have a6:=aB ((aP w (Z #[.int .i64 b.vars,O Ao no co,O Ae ne ce,.int .i64 b.nat,O Ap np cp,.int .i64 known,.int .i64 self] 94)).alloc aD (Z #[.int .i64 m.op,.int .i64 m.a,.int .i64 m.b] 46));have HR:Hid (cN b known self m=true):=aB (by unfold cN;rw[if_neg hop.1,if_neg hop.2.1,if_neg hop.2.2.1,if_neg hop.2.2.2.1,if_neg hop.2.2.2.2]);have q1:(m.op==3)=false:=by simpa using hop.1
 have q2:(m.op==8)=false:=by simpa using hop.2.1
 have q3:(m.op==9)=false:=by simpa using hop.2.2.1
 have q4:(m.op==11)=false:=by simpa using hop.2.2.2.1
 have q5:(m.op==10)=false:=by simpa using hop.2.2.2.2
 clear hop hb hk hp a5 a1 a4 a3 a2 a0;generalize cN b known self m=res at *;generalize b.vars=bv at *;generalize b.nat=bn at *;generalize m.b=mb at *;generalize m.a=ma at *;generalize m.op=op at *;go_in;go_wp2_with fail;go_ret;rw[HR.o];exact⟨rfl,a6.o⟩
theorem E3 {w:World} {v:bO} {b:Bk} (hb:bX w v b) (known self:Int) (hk:known<=b.entries.length) (m:Nd) (hp:cD m.op m.a m.b=true) (hop:m.op=8) :
 Calls Tryz.prog 99 #[.agg #[.int .i64 b.vars,O v.Ao v.no v.co,O v.Ae v.ne v.ce,.int .i64 b.nat,O v.Ap v.np v.cp,.int .i64 known,.int .i64 self],.agg #[.int .i64 m.op,.int .i64 m.a,.int .i64 m.b]] w (gC (cN b known self m) w):=by
 have a7:=aV.1 hp;have a0:=hb.entries.len;obtain⟨ea,a3⟩ : ∃ea:Nat,m.a=(ea:Int):=⟨m.a.toNat,by omega⟩;have a2:=aB (fun (h:(ea:Int)<known)=>hb.entries.at_ (k:=ea) aA);have a5:=aB (fun (w':World) (h:Below w.heap.size w w')=>iV (hb.below h) known self hk ea);have a1:b.entries.getD ea default=bK b m.a:=by rw[a3];unfold bK;rw[Int.toNat_natCast]
 rw[a1] at a2;obtain⟨Ao,no,co,Ae,ne,ce,Ap,np,cp⟩:=v;simp only at a0 a2 a5 ⊢;have a9:known<=(ne:Int):=aA;have a6:=aB ((aP w (Z #[.int .i64 b.vars,O Ao no co,O Ae ne ce,.int .i64 b.nat,O Ap np cp,.int .i64 known,.int .i64 self] 94)).alloc aD (Z #[.int .i64 m.op,.int .i64 m.a,.int .i64 m.b] 46));have HR:Hid (cN b known self m=(decide ((ea:Int)<known)&&(bK b m.a).kind==2)):=aB (by unfold cN;rw[if_neg aA,if_pos hop,a3]);rw[hop] at a6 ⊢;generalize cN b known self m=res at *;generalize hkd:(bK b m.a).kind=kd at *;generalize hcl:(bK b m.a).ctors.length=cl at *;generalize fG b known m.a=fam at *;generalize b.vars=bv at *;generalize b.nat=bn at *;generalize m.b=mb at *;rw[a3] at *;clear hb hk hp a7 a1 a3;by_cases hlt:(ea:Int)<known
 · have a4:decide ((ea:Int)<known)=true:=decide_eq_true hlt;obtain⟨be,oe,rfl,b1,ev,b0,_⟩:=a2.o hlt;have a8:ea<ne:=aA;rw[a4,Bool.true_and] at HR;clear hlt a2 a0 hkd hcl hop;go_in;go_wp2_with fail;go_ret;rw[HR.o];exact⟨rfl,a6.o⟩
 have a4:decide ((ea:Int)<known)=false:=decide_eq_false hlt;rw[a4,Bool.false_and] at HR;clear hlt a2 a0 hkd hcl hop;go_in;go_wp2_with fail;go_ret;rw[HR.o];exact⟨rfl,a6.o⟩
theorem MM {w:World} {v:bO} {b:Bk} (hb:bX w v b) (known self:Int) (hk:known<=b.entries.length) (m:Nd) (hp:cD m.op m.a m.b=true) (hop:m.op=9) :
 Calls Tryz.prog 99 #[.agg #[.int .i64 b.vars,O v.Ao v.no v.co,O v.Ae v.ne v.ce,.int .i64 b.nat,O v.Ap v.np v.cp,.int .i64 known,.int .i64 self],.agg #[.int .i64 m.op,.int .i64 m.a,.int .i64 m.b]] w (gC (cN b known self m) w):=by
 have a8:=aV.1 hp;have a0:=hb.entries.len;obtain⟨ea,a3⟩ : ∃ea:Nat,m.a=(ea:Int):=⟨m.a.toNat,by omega⟩;have a4:=aB (fun (h:(ea:Int)<known)=>hb.entries.at_ (k:=ea) aA);have a1:=aB (fun (w':World) (h:Below w.heap.size w w')=>iV (hb.below h) known self hk ea);have a2:b.entries.getD ea default=bK b m.a:=by rw[a3];unfold bK;rw[Int.toNat_natCast]
 rw[a2] at a4;obtain⟨Ao,no,co,Ae,ne,ce,Ap,np,cp⟩:=v;simp only at a0 a4 a1 ⊢;have a5:=aB ((aP w (Z #[.int .i64 b.vars,O Ao no co,O Ae ne ce,.int .i64 b.nat,O Ap np cp,.int .i64 known,.int .i64 self] 94)).alloc aD (Z #[.int .i64 m.op,.int .i64 m.a,.int .i64 m.b] 46));have HR:Hid (cN b known self m=(((ea:Int)==self)||fG b known m.a)):=aB (by unfold cN;rw[if_neg aA,if_neg aA,if_pos hop,a3]);rw[<-a3] at a1;rw[hop] at a5 ⊢;generalize cN b known self m=res at *;generalize hkd:(bK b m.a).kind=kd at *;generalize hcl:(bK b m.a).ctors.length=cl at *;generalize fG b known m.a=fam at *;generalize b.vars=bv at *;generalize b.nat=bn at *;generalize m.b=mb at *;rw[a3] at *;clear hb hk hp a8 a2 a3;by_cases hlt:(ea:Int)=self
 · have a6:((ea:Int)==self)=true:=by simp[hlt]
   rw[a6,Bool.true_or] at HR;clear hlt a4 a0 hkd hcl hop;go_in;go_wp2_with fail;go_ret;rw[HR.o];exact⟨rfl,a5.o⟩
 have a6:((ea:Int)==self)=false:=by simpa using hlt
 rw[a6,Bool.false_or] at HR;clear hlt a4 a0 hkd hcl hop;go_in;go_wp2_with fail;refine (a1.o _ a5.o).mono ?_;rintro e w2 ⟨rfl,a7⟩;have a9:=bZ a5 a7;clear a7;go_wp2_with fail;go_ret;rw[HR.o];exact⟨rfl,a9.o⟩
theorem E4 {w:World} {v:bO} {b:Bk} (hb:bX w v b) (known self:Int) (hk:known<=b.entries.length) (m:Nd) (hp:cD m.op m.a m.b=true) (hop:m.op=11) :
 Calls Tryz.prog 99 #[.agg #[.int .i64 b.vars,O v.Ao v.no v.co,O v.Ae v.ne v.ce,.int .i64 b.nat,O v.Ap v.np v.cp,.int .i64 known,.int .i64 self],.agg #[.int .i64 m.op,.int .i64 m.a,.int .i64 m.b]] w (gC (cN b known self m) w):=by
 have a7:=aV.1 hp;have a1:=hb.entries.len;obtain⟨ea,a3⟩ : ∃ea:Nat,m.a=(ea:Int):=⟨m.a.toNat,by omega⟩;have a4:=aB (fun (h:(ea:Int)<known)=>hb.entries.at_ (k:=ea) aA);have a0:=aB (fun (w':World) (h:Below w.heap.size w w')=>iV (hb.below h) known self hk ea);have a2:b.entries.getD ea default=bK b m.a:=by rw[a3];unfold bK;rw[Int.toNat_natCast]
 rw[a2] at a4;obtain⟨Ao,no,co,Ae,ne,ce,Ap,np,cp⟩:=v;simp only at a1 a4 a0 ⊢;have a5:=aB ((aP w (Z #[.int .i64 b.vars,O Ao no co,O Ae ne ce,.int .i64 b.nat,O Ap np cp,.int .i64 known,.int .i64 self] 94)).alloc aD (Z #[.int .i64 m.op,.int .i64 m.a,.int .i64 m.b] 46));have HR:Hid (cN b known self m=fG b known m.a):=aB (by unfold cN;rw[if_neg aA,if_neg aA,if_neg aA,if_pos hop]);rw[<-a3] at a0;rw[hop] at a5 ⊢;generalize cN b known self m=res at *;generalize hkd:(bK b m.a).kind=kd at *;generalize hcl:(bK b m.a).ctors.length=cl at *;generalize fG b known m.a=fam at *;generalize b.vars=bv at *;generalize b.nat=bn at *;generalize m.b=mb at *;rw[a3] at *;clear hb hk hp a7 a2 a3;clear a4 a1 hkd hcl hop;go_in;go_wp2_with fail;refine (a0.o _ a5.o).mono ?_;rintro e w2 ⟨rfl,a6⟩;have a8:=bZ a5 a6;clear a6;go_wp2_with fail;go_ret;rw[HR.o];exact⟨rfl,a8.o⟩
theorem JL {w:World} {v:bO} {b:Bk} (hb:bX w v b) (known self:Int) (hk:known<=b.entries.length) (m:Nd) (hp:cD m.op m.a m.b=true) (hop:m.op=10) :
 Calls Tryz.prog 99 #[.agg #[.int .i64 b.vars,O v.Ao v.no v.co,O v.Ae v.ne v.ce,.int .i64 b.nat,O v.Ap v.np v.cp,.int .i64 known,.int .i64 self],.agg #[.int .i64 m.op,.int .i64 m.a,.int .i64 m.b]] w (gC (cN b known self m) w):=by
 have c1:=aV.1 hp;have a6:=hb.entries.len;obtain⟨ea,a8⟩ : ∃ea:Nat,m.a=(ea:Int):=⟨m.a.toNat,by omega⟩;have a9:=aB (fun (h:(ea:Int)<known)=>hb.entries.at_ (k:=ea) aA);have a3:=aB (fun (w':World) (h:Below w.heap.size w w')=>iV (hb.below h) known self hk ea);have a7:b.entries.getD ea default=bK b m.a:=by rw[a8];unfold bK;rw[Int.toNat_natCast]
 rw[a7] at a9;obtain⟨Ao,no,co,Ae,ne,ce,Ap,np,cp⟩:=v;simp only at a6 a9 a3 ⊢;have c4:known<=(ne:Int):=aA;have b9:=aB ((aP w (Z #[.int .i64 b.vars,O Ao no co,O Ae ne ce,.int .i64 b.nat,O Ap np cp,.int .i64 known,.int .i64 self] 94)).alloc aD (Z #[.int .i64 m.op,.int .i64 m.a,.int .i64 m.b] 46));have HR:Hid (cN b known self m=(fG b known m.a&&decide (m.b<((bK b m.a).ctors.length:Int)))):=aB (by unfold cN;rw[if_neg aA,if_neg aA,if_neg aA,if_neg aA,if_pos hop]);have b1:fG b known m.a=true->(ea:Int)<known:=fun h=>by
  unfold fG at h;rw[Bool.and_eq_true,decide_eq_true_eq,a8] at h;exact h.1
 rw[<-a8] at a3;rw[hop] at b9 ⊢;generalize cN b known self m=res at *;generalize hkd:(bK b m.a).kind=kd at *;generalize hcl:(bK b m.a).ctors.length=cl at *;generalize fG b known m.a=fam at *;generalize b.vars=bv at *;generalize b.nat=bn at *;generalize m.b=mb at *;rw[a8] at *;have HW:=aB (aS.new w 94 #[.int .i64 bv,O Ao no co,O Ae ne ce,.int .i64 bn,O Ap np cp,.int .i64 known,.int .i64 self]);have HV:=aB (aS.new (w.alloc (Z #[.int .i64 bv,O Ao no co,O Ae ne ce,.int .i64 bn,O Ap np cp,.int .i64 known,.int .i64 self] 94)) 46 #[.int .i64 10,.int .i64 (ea:Int),.int .i64 mb]);clear hb hk hp c1 a7 a8;have b0:=aB (aT b9.o 1);have a0:∀i,(((w.alloc (Z #[.int .i64 bv,O Ao no co,O Ae ne ce,.int .i64 bn,O Ap np cp,.int .i64 known,.int .i64 self] 94)).alloc (Z #[.int .i64 10,.int .i64 (ea:Int),.int .i64 mb] 46)).drew).cell? ⟨w.heap.size,i,X⟩=(#[.int .i64 bv,O Ao no co,O Ae ne ce,.int .i64 bn,O Ap np cp,.int .i64 known,.int .i64 self]:Array Value)[i]?:=fun i=>(wL _ _).trans (aS.cell (HW.o.alloc (Z #[.int .i64 10,.int .i64 (ea:Int),.int .i64 mb] 46)) i);have a4:∀i,(((w.alloc (Z #[.int .i64 bv,O Ao no co,O Ae ne ce,.int .i64 bn,O Ap np cp,.int .i64 known,.int .i64 self] 94)).alloc (Z #[.int .i64 10,.int .i64 (ea:Int),.int .i64 mb] 46)).drew).cell? ⟨w.heap.size+1,i,X⟩=(#[.int .i64 10,.int .i64 (ea:Int),.int .i64 mb]:Array Value)[i]?:=by
  have h:=aS.cell HV.o;rw[show (w.alloc (Z #[.int .i64 bv,O Ao no co,O Ae ne ce,.int .i64 bn,O Ap np cp,.int .i64 known,.int .i64 self] 94)).heap.size=w.heap.size+1 from by simp] at h;exact fun i=>(wL _ _).trans (h i)
 cases fam with
 | false =>
  rw[Bool.false_and] at HR;clear a9 a6 hkd hcl hop b1;go_in;go_wp2_with fail;refine wp_region_held_drew (S:=(fun w'=>w'.cell? ⟨w.heap.size,0,X⟩=Y (.int .i64 bv)/\w'.cell? ⟨w.heap.size,1,X⟩=Y (O Ao no co)/\w'.cell? ⟨w.heap.size,2,X⟩=Y (O Ae ne ce)/\w'.cell? ⟨w.heap.size,3,X⟩=Y (.int .i64 bn)/\w'.cell? ⟨w.heap.size,4,X⟩=Y (O Ap np cp)/\w'.cell? ⟨w.heap.size,5,X⟩=Y (.int .i64 known)/\w'.cell? ⟨w.heap.size,6,X⟩=Y (.int .i64 self)/\w'.cell? ⟨w.heap.size+1,0,X⟩=Y (.int .i64 10)/\w'.cell? ⟨w.heap.size+1,1,X⟩=Y (.int .i64 (ea:Int))/\w'.cell? ⟨w.heap.size+1,2,X⟩=Y (.int .i64 mb))) aC ?_ (fun hZ => ?_)
  · (try dsimp only);exact⟨a0 0,a0 1,a0 2,a0 3,a0 4,a0 5,a0 6,a4 0,a4 1,a4 2⟩
  refine aL 0 hZ ?_;refine aL 1 hZ ?_;refine aL 2 hZ ?_;refine r1 3 fun K hK => ?_;go_simp;go_at_call 129
  refine (a3.o _ b0.o).mono ?_;rintro e w2 ⟨rfl,a2⟩;have a1:=fun i=>(a2.cell (p:=⟨w.heap.size,i,X⟩) aG).trans (a0 i);have a5:=fun i=>(a2.cell (p:=⟨w.heap.size+1,i,X⟩) aD).trans (a4 i);go_wp2_with fail;refine hK.o _ _ (by exact⟨a1 0,a1 1,a1 2,a1 3,a1 4,a1 5,a1 6,a5 0,a5 1,a5 2⟩) fun hZ => ?_;clear hK K;try simp only[p7]
  refine aL 4 hZ ?_;refine aM 5 hZ ?_;refine aM 6 hZ ?_;refine aM 7 hZ ?_;refine aM 8 hZ ?_;refine aM 9 hZ ?_;refine aM 10 hZ ?_;refine aM 11 hZ ?_;refine aM 12 hZ ?_;refine aM 13 hZ ?_;refine aM 14 hZ ?_;refine aM 15 hZ ?_;refine aM 16 hZ ?_;refine aL 17 hZ ?_;refine aL 18 hZ ?_;refine wpAnyH_done aC ?_ _;have b5:=bZ b0 a2;clear a2;go_wp2_with fail;go_ret;rw[HR.o];exact⟨rfl,b5.o⟩
 | true =>
  rw[Bool.true_and] at HR;obtain⟨be,oe,rfl,c2,ev,_,_,_,_,b4,_,_,b7⟩:=a9.o (b1 rfl);have c3:ea<ne:=by have:=b1 rfl;omega
  have b3:=b7.ctors.len;rw[hcl] at b3;obtain⟨cA,cn,cC,b2⟩ : ∃cA cn cC,(Value.slice ev.Ac ev.nc ev.cc)=O cA cn cC/\ev.nc=cn:=⟨_,_,_,rfl,rfl⟩;rw[b2.1] at b4;have b8:cl=cn:=by rw[<-b2.2];exact b3
  have b6:(((w.alloc (Z #[.int .i64 bv,O Ao no co,O (Y ⟨be,oe,X⟩) ne ce,.int .i64 bn,O Ap np cp,.int .i64 known,.int .i64 self] 94)).alloc (Z #[.int .i64 10,.int .i64 (ea:Int),.int .i64 mb] 46)).drew).cell? ⟨be,oe+ea*7+4,X⟩=Y (O cA cn cC):=(b0.o.cell (p:=⟨be,oe+ea*7+4,X⟩) c2).trans b4;rw[b8] at HR;have c6:(0:Int)<=(ea:Int):=aA;have c5:(ea:Int)<(ne:Int):=aA;clear a9 a6 hkd hcl hop b1 b2 b8 b3 b4 b7;go_in;go_wp2_with fail;refine wp_region_held_drew (S:=(fun w'=>w'.cell? ⟨w.heap.size,0,X⟩=Y (.int .i64 bv)/\w'.cell? ⟨w.heap.size,1,X⟩=Y (O Ao no co)/\w'.cell? ⟨w.heap.size,2,X⟩=Y (O (Y ⟨be,oe,X⟩) ne ce)/\w'.cell? ⟨w.heap.size,3,X⟩=Y (.int .i64 bn)/\w'.cell? ⟨w.heap.size,4,X⟩=Y (O Ap np cp)/\w'.cell? ⟨w.heap.size,5,X⟩=Y (.int .i64 known)/\w'.cell? ⟨w.heap.size,6,X⟩=Y (.int .i64 self)/\w'.cell? ⟨w.heap.size+1,0,X⟩=Y (.int .i64 10)/\w'.cell? ⟨w.heap.size+1,1,X⟩=Y (.int .i64 (ea:Int))/\w'.cell? ⟨w.heap.size+1,2,X⟩=Y (.int .i64 mb)/\w'.cell? ⟨be,oe+ea*7+4,X⟩=Y (O cA cn cC))) aC ?_ (fun hZ => ?_)
  · (try dsimp only);exact⟨a0 0,a0 1,a0 2,a0 3,a0 4,a0 5,a0 6,a4 0,a4 1,a4 2,b6⟩
  refine aL 0 hZ ?_;refine aL 1 hZ ?_;refine aL 2 hZ ?_;refine r1 3 fun K hK => ?_;go_simp;go_at_call 129
  refine (a3.o _ b0.o).mono ?_;rintro e w2 ⟨rfl,a2⟩;have a1:=fun i=>(a2.cell (p:=⟨w.heap.size,i,X⟩) aG).trans (a0 i);have a5:=fun i=>(a2.cell (p:=⟨w.heap.size+1,i,X⟩) aD).trans (a4 i);have c0:w2.cell? ⟨be,oe+ea*7+4,X⟩=Y (O cA cn cC):=(a2.cell (p:=⟨be,oe+ea*7+4,X⟩) aG).trans b6;go_wp2_with fail;refine hK.o _ _ (by exact⟨a1 0,a1 1,a1 2,a1 3,a1 4,a1 5,a1 6,a5 0,a5 1,a5 2,c0⟩) fun hZ => ?_;clear hK K;try simp only[p7]
  refine aL 4 hZ ?_;refine aL 5 hZ ?_;refine aL 6 hZ ?_;refine aL 7 hZ ?_;refine aL 8 hZ ?_;refine aL 9 hZ ?_;refine aL 10 hZ ?_;refine aL 11 hZ ?_;refine aL 12 hZ ?_;refine aL 13 hZ ?_;refine aL 14 hZ ?_;refine aL 15 hZ ?_;refine aL 16 hZ ?_;refine aL 17 hZ ?_;refine aL 18 hZ ?_;refine wpAnyH_done aC ?_ _;have b5:=bZ b0 a2;clear a2;go_wp2_with fail;go_ret;rw[HR.o];exact⟨rfl,b5.o⟩
theorem MK {w:World} {v:bO} {b:Bk} (hb:bX w v b) (known self:Int) (hk:known<=b.entries.length) (m:Nd) (hp:cD m.op m.a m.b=true) :
 Calls Tryz.prog 99 #[.agg #[.int .i64 b.vars,O v.Ao v.no v.co,O v.Ae v.ne v.ce,.int .i64 b.nat,O v.Ap v.np v.cp,.int .i64 known,.int .i64 self],.agg #[.int .i64 m.op,.int .i64 m.a,.int .i64 m.b]] w (gC (cN b known self m) w):=by
 by_cases h1:m.op=3
 · exact JK hb known self hk m hp h1
 by_cases h2:m.op=8
 · exact E3 hb known self hk m hp h2
 by_cases h3:m.op=9
 · exact MM hb known self hk m hp h3
 by_cases h4:m.op=11
 · exact E4 hb known self hk m hp h4
 by_cases h5:m.op=10
 · exact JL hb known self hk m hp h5
 exact MN hb known self hk m hp ⟨h1,h2,h3,h4,h5⟩
theorem zY {w:World} {v:bO} {b:Bk} (hb:bX w v b) (known self:Int) (hk:known<=b.entries.length) {A:Option Addr} {n c:Nat} {l:List Nd} (ht:aY w A n c l) (below:Int) :
 Calls Tryz.prog 51 #[.agg #[.int .i64 b.vars,O v.Ao v.no v.co,O v.Ae v.ne v.ce,.int .i64 b.nat,O v.Ap v.np v.cp,.int .i64 known,.int .i64 self],O A n c,.int .i64 below] w (iG (fC b known self l below) w):=by
 have c2:=ht.len;have c4:=ht.few;have HS:=aB (fun (w':World) (h:Below w.heap.size w w')=>dP (ht.below h));have b5:=aB (fun (w':World) (h:Below w.heap.size w w')=>IQ (ht.below h) below);have HT:=aB (fun (w':World) (h:Below w.heap.size w w')=>ht.below h);have c1:=aB (fun (w':World) (h:Below w.heap.size w w') (m:Nd) (hp:cD m.op m.a m.b=true)=>MK (hb.below h) known self hk m hp);have b0:=aB (fun (h:a8 l=0)=>C7 h);have HR:Hid (fC b known self l below=if a8 l ≠ 0 then a8 l else if fS l below=false then 8 else if l.all (cN b known self) then 0 else 8):=aB rfl;generalize fC b known self l below=res at *;obtain⟨Ao,no,co,Ae,ne,ce,Ap,np,cp⟩:=v;simp only at c1 ⊢;clear ht hb hk;generalize b.vars=bv at *;generalize b.nat=bn at *;have a5:=aB (aP w (Z #[.int .i64 bv,O Ao no co,O Ae ne ce,.int .i64 bn,O Ap np cp,.int .i64 known,.int .i64 self] 94));have d3:=aB (aS.new w 94 #[.int .i64 bv,O Ao no co,O Ae ne ce,.int .i64 bn,O Ap np cp,.int .i64 known,.int .i64 self]);obtain⟨sh,b8⟩ : ∃sh,sh=a8 l:=⟨_,rfl⟩;rw[<-b8] at HS b0 HR;clear b8;by_cases h0:sh=0;case neg =>
  have d6:(sh != 0)=true:=by simpa using h0
  rw[if_pos h0] at HR;clear h0 b0;go_in;go_wp2_with fail;refine (HS.o _ a5.o).mono ?_;rintro e w2 ⟨rfl,a0⟩;have a2:=bZ a5 a0;clear a0;go_wp2_with fail;go_ret;rw[HR.o];exact⟨rfl,a2.o⟩
 subst h0;rw[if_neg aD] at HR;have c8:=aB (b0.o rfl);clear b0;obtain⟨bb,c0⟩ : ∃bb,bb=fS l below:=⟨_,rfl⟩;rw[<-c0] at b5 HR;clear c0;cases bb with
 | false =>
  rw[if_pos rfl] at HR;go_in;go_wp2_with fail;refine (HS.o _ a5.o).mono ?_;rintro e w2 ⟨rfl,a0⟩;have a2:=bZ a5 a0;clear a0;go_wp2_with fail;refine (b5.o _ a2.o).mono ?_;rintro e w3 ⟨rfl,a4⟩;have b7:=bZ a2 a4;clear a4;go_wp2_with fail;go_ret;rw[HR.o];exact⟨rfl,b7.o⟩
 | true =>
  rw[if_neg aD] at HR;go_in;go_wp2_with fail;refine (HS.o _ a5.o).mono ?_;rintro e w2 ⟨rfl,a0⟩;have a2:=bZ a5 a0;have d2:=aB (aS.below d3.o a0 aD);clear a0;go_wp2_with fail;refine (b5.o _ a2.o).mono ?_;rintro e w3 ⟨rfl,a4⟩;have b7:=bZ a2 a4;have d1:=jL d2 a4;clear a4;go_wp2_with fail;go_loopw [21] (fun iv wr=>∃i:Nat,iv=.int .i64 (i:Int)/\i<=n/\Hid ((l.take i).all (cN b known self)=true)/\Hid (aS wr w.heap.size 94 #[.int .i64 bv,O Ao no co,O Ae ne ce,.int .i64 bn,O Ap np cp,.int .i64 known,.int .i64 self])/\Hid (Below w.heap.size w wr)) (fun i _=>n-(intOf i).toNat)
  case atStart=>exact⟨0,rfl,by omega,aB aD,d1,b7⟩
  case round =>
   obtain⟨i,rfl,hi,a7,a1,a9⟩:=hrel;by_cases hlt:i<n;rotate_left
   · have c3:decide ((i:Int)<(n:Int))=false:=decide_eq_false aA;have b3:Hid (res=0):=aB (by
      have:=a7.o;rw[List.take_of_length_le aA] at this;rw[HR.o,if_pos this])
     go_wp2_with fail;go_ret;rw[b3.o];exact⟨rfl,a9.o⟩
   have c3:decide ((i:Int)<(n:Int))=true:=decide_eq_true aA;obtain⟨b',off,rfl,d7,c7,c6,c5⟩:=(HT.o wr a9.o).at_ hlt;have b9:i<l.length:=aA;obtain⟨m,hm⟩ : ∃m,m=bD l i:=⟨_,rfl⟩;have a6:m=l[i]:=by rw[hm,kQ b9]
   rw[<-hm] at c7 c6 c5;have b1:l.take (i+1)=l.take i++[m]:=by rw[List.take_succ_eq_append_getElem b9,a6]
   have b2:=c8.o m (by rw[a6];exact List.getElem_mem _);have b4:=aB (a9.o.trans ((aP wr (Z #[.int .i64 m.op,.int .i64 m.a,.int .i64 m.b] 46)).mono a9.o.size));have c9:=aB (a1.o.alloc (Z #[.int .i64 m.op,.int .i64 m.a,.int .i64 m.b] 46));have zc:=aS.cell a1.o;have d5:=a1.o.lt;have HC:=aB (c1.o _ b4.o m b2);obtain⟨r,hr⟩ : ∃r,r=cN b known self m:=⟨_,rfl⟩;rw[<-hr] at HC;cases r with
   | false =>
    have b3:Hid (res=8):=aB (by
     rw[HR.o,if_neg];rw[List.all_eq_true];intro h;have:=h m (by rw[a6];exact List.getElem_mem _);rw[<-hr] at this;cases this)
    clear hr hm a6 b1 b2;generalize m.op=mo at *;generalize m.a=ma at *;generalize m.b=mb at *;go_wp2_with fail;refine (HC.o).mono ?_;rintro e w5 ⟨rfl,a3⟩;have b6:=bZ b4 a3;clear a3;go_wp2_with fail;go_ret;rw[b3.o];exact⟨rfl,b6.o⟩
   | true =>
    have d4:Hid ((l.take (i+1)).all (cN b known self)=true):=aB (by rw[b1,List.all_append,a7.o];simp[<-hr]);clear hr hm a6 b1 b2;generalize m.op=mo at *;generalize m.a=ma at *;generalize m.b=mb at *;go_wp2_with fail;refine (HC.o).mono ?_;rintro e w5 ⟨rfl,a3⟩;have b6:=bZ b4 a3;have d0:=jL c9 a3;clear a3 zc;go_wp2_with fail;go_roundw
    case rel=>exact⟨i+1,by go_num,by omega,d4,d0,b6⟩
    case measure=>simp[intOf];omega
theorem qD {w:World} {v:bO} {b:Bk} (hb:bX w v b) (known self:Int) (hk:known<=b.entries.length) {A:Option Addr} {n c:Nat} {ls:List (List Nd)} (ht:fF w A n c ls) (below step:Int) (hst:step=0\/step=1) (hlo:0<=below) (hhi:below<=1000000) (hn:n<=100000) :
 Calls Tryz.prog 92 #[.agg #[.int .i64 b.vars,O v.Ao v.no v.co,O v.Ae v.ne v.ce,.int .i64 b.nat,O v.Ap v.np v.cp,.int .i64 known,.int .i64 self],O A n c,.int .i64 below,.int .i64 step] w (iG (cZ b known self step ls below) w):=by
 have b3:=ht.len;have b1:=aB (fun (w':World) (A':Option Addr) (n' c':Nat) (l:List Nd) (be:Int) (h:Below w.heap.size w w') (h1:aY w' A' n' c' l)=>zY (hb.below h) known self hk h1 be);have HT:=aB (fun (w':World) (h:Below w.heap.size w w')=>ht.below h);obtain⟨res,a1⟩ : ∃res,res=cZ b known self step ls below:=⟨_,rfl⟩;rw[<-a1];have a6:=aB a1;obtain⟨Ao,no,co,Ae,ne,ce,Ap,np,cp⟩:=v;simp only at b1 ⊢;clear ht hb hk a1;generalize b.vars=bv at *;generalize b.nat=bn at *;have c0:=aB (aP w (Z #[.int .i64 bv,O Ao no co,O Ae ne ce,.int .i64 bn,O Ap np cp,.int .i64 known,.int .i64 self] 94));have b9:=aB (aS.new w 94 #[.int .i64 bv,O Ao no co,O Ae ne ce,.int .i64 bn,O Ap np cp,.int .i64 known,.int .i64 self]);have b2:0<=step/\step<=1:=aA;obtain⟨c2,c1⟩:=b2;clear hst;go_in;go_wp2_with fail;go_loopw [2,14] (fun bv' iv wr=>∃(i:Nat) (be:Int),bv'=.int .i64 be/\iv=.int .i64 (i:Int)/\i<=n/\0<=be/\be<=below+i/\Hid (cZ b known self step (ls.drop i) be=res)/\Hid (aS wr w.heap.size 94 #[.int .i64 bv,O Ao no co,O Ae ne ce,.int .i64 bn,O Ap np cp,.int .i64 known,.int .i64 self])/\Hid (Below w.heap.size w wr)) (fun _ i _=>n-(intOf i).toNat)
 case atStart=>exact⟨0,below,rfl,rfl,by omega,by omega,by omega,aB a6.o.symm,b9,c0⟩
 case round =>
  obtain⟨i,be,rfl,rfl,hi,b6,b5,a9,a5,a4⟩:=hrel;by_cases hlt:i<n;rotate_left
  · have b4:decide ((i:Int)<(n:Int))=false:=decide_eq_false aA;have b7:Hid (res=0):=aB (by
     have:=a9.o;rw[List.drop_of_length_le aA] at this;exact this.symm)
    go_wp2_with fail;go_ret;rw[b7.o];exact⟨rfl,a4.o⟩
  have b4:decide ((i:Int)<(n:Int))=true:=decide_eq_true aA;obtain⟨b',off,A',n',c',rfl,c5,c3,a8⟩:=(HT.o wr a4.o).at_ hlt;have b0:i<ls.length:=aA;have a0:=a9.o;rw[List.drop_eq_getElem_cons b0,show ls[i]=ls.getD i [] from by rw[List.getD_eq_getElem?_getD,List.getElem?_eq_getElem b0];rfl] at a0;simp only[cZ] at a0;have HC:=aB (b1.o wr A' n' c' _ be a4.o a8);generalize hre:fC b known self (ls.getD i []) be=re at *;have zc:=aS.cell a5.o;clear hre a8;by_cases h0:re=0
  · rw[if_neg (by simp[h0])] at a0;have a2:=aB a0;subst h0;clear a0;go_wp2_with fail;refine (HC.o).mono ?_;rintro e w5 ⟨rfl,a3⟩;have a7:=bZ a4 a3;have b8:=jL a5 a3;clear a3 zc;go_wp2_with fail;go_roundw
    case rel=>exact⟨i+1,be+step,rfl,by go_num,by omega,by omega,by omega,a2,b8,a7⟩
    case measure=>simp[intOf];omega
  rw[if_pos h0] at a0;have a2:=aB a0;have c4:(re != 0)=true:=by simpa using h0
  clear a0 h0;go_wp2_with fail;refine (HC.o).mono ?_;rintro e w5 ⟨rfl,a3⟩;have a7:=bZ a4 a3;clear a3 zc;go_wp2_with fail;go_ret;rw[<-a2.o];exact⟨rfl,a7.o⟩
end Go.Proofs.YtjoddliplahgkaaGreat
