/- Merged: BookV, BookN, BookNode, BookRow. -/
import Derived.Test.YtjllmblbbgojbaaGreatXLevels
namespace Go.Proofs.YtjllmblbbgojbaaGreat
set_option linter.unusedVariables false
set_option linter.unusedSimpArgs false
open Go.RowKit
open Go.Value renaming slice → O
open Option renaming none → X, some → Y
open Go.Obj renaming cells → Z
open Go.Lib renaming hid->aB
set_option maxHeartbeats 8000000
set_option maxRecDepth 100000
structure dO (w:World) (A:Option Addr) (n c:Nat) (ls:List (List Nd)):Prop where
 len:ls.length=n
 few:n<=5864062014805
 mem:0<n->∃b off,A=Y ⟨b,off,X⟩/\b<w.heap.size/\∀k,k<n->∃A' n' c',w.cell? ⟨b,off+k,X⟩=Y (O A' n' c')/\bB w A' n' c' (ls.getD k [])
theorem dO.below {w w':World} {A:Option Addr} {n c:Nat} {ls:List (List Nd)} (h:dO w A n c ls) (hb:Below w.heap.size w w'):dO w' A n c ls :=
 ⟨h.len,h.few,fun hn=>by
  obtain⟨b,off,e,hlt,hm⟩:=h.mem hn;refine⟨b,off,e,Nat.lt_of_lt_of_le hlt hb.size,fun k hk => ?_⟩;obtain⟨A',n',c',h1,h2⟩:=hm k hk;exact⟨A',n',c',(hb.cell (p:=⟨b,off+k,X⟩) hlt).trans h1,h2.below hb⟩⟩
theorem dO.at_ {w:World} {A:Option Addr} {n c:Nat} {ls:List (List Nd)} (h:dO w A n c ls) {k:Nat} (hk:k<n) : ∃b off A' n' c',A=Y ⟨b,off,X⟩/\b<w.heap.size/\w.cell? ⟨b,off+k,X⟩=Y (O A' n' c')/\bB w A' n' c' (ls.getD k []):=by
 obtain⟨b,off,e,hb,hm⟩:=h.mem aA;obtain⟨A',n',c',h1,h2⟩:=hm k hk;exact⟨b,off,A',n',c',e,hb,h1,h2⟩
structure Ct where
 args:List (List Nd)
 outs:List (List Nd)
instance:Inhabited Ct:=⟨⟨[],[]⟩⟩
structure En where
 kind:Int
 sort:List Nd
 params:List (List Nd)
 indices:List (List Nd)
 ctors:List Ct
 type:List Nd
 body:List Nd
instance:Inhabited En:=⟨⟨0,[],[],[],[],[],[]⟩⟩
structure Bk where
 vars:Int
 orders:List Nd
 entries:List En
 nat:Int
 prims:List (Int×Int)
instance:Inhabited Bk:=⟨⟨0,[],[],0,[]⟩⟩
structure lI (w:World) (A:Option Addr) (n c:Nat) (cs:List Ct):Prop where
 len:cs.length=n
 few:n<=5864062014805
 mem:0<n->∃b off,A=Y ⟨b,off,X⟩/\b<w.heap.size/\∀k,k<n->∃A1 n1 c1 A2 n2 c2,w.cell? ⟨b,off+k*2,X⟩=Y (O A1 n1 c1)/\w.cell? ⟨b,off+k*2+1,X⟩=Y (O A2 n2 c2)/\dO w A1 n1 c1 (cs.getD k default).args/\dO w A2 n2 c2 (cs.getD k default).outs
theorem lI.below {w w':World} {A:Option Addr} {n c:Nat} {cs:List Ct} (h:lI w A n c cs) (hb:Below w.heap.size w w'):lI w' A n c cs :=
 ⟨h.len,h.few,fun hn=>by
  obtain⟨b,off,e,hlt,hm⟩:=h.mem hn;refine⟨b,off,e,Nat.lt_of_lt_of_le hlt hb.size,fun k hk => ?_⟩;obtain⟨A1,n1,c1,A2,n2,c2,h1,h2,h3,h4⟩:=hm k hk;exact⟨A1,n1,c1,A2,n2,c2,(hb.cell (p:=⟨b,off+k*2,X⟩) hlt).trans h1,(hb.cell (p:=⟨b,off+k*2+1,X⟩) hlt).trans h2,h3.below hb,h4.below hb⟩⟩
structure eZ where
 As:Option Addr
 ns:Nat
 cs:Nat
 Ap:Option Addr
 np:Nat
 cp:Nat
 Ai:Option Addr
 ni:Nat
 ci:Nat
 Ac:Option Addr
 nc:Nat
 cc:Nat
 At:Option Addr
 nt:Nat
 ct:Nat
 Ab:Option Addr
 nb:Nat
 cb:Nat
structure tU (w:World) (v:eZ) (x:En):Prop where
 sort:bB w v.As v.ns v.cs x.sort
 params:dO w v.Ap v.np v.cp x.params
 indices:dO w v.Ai v.ni v.ci x.indices
 ctors:lI w v.Ac v.nc v.cc x.ctors
 type:bB w v.At v.nt v.ct x.type
 body:bB w v.Ab v.nb v.cb x.body
theorem tU.below {w w':World} {v:eZ} {x:En} (h:tU w v x) (hb:Below w.heap.size w w'):tU w' v x :=
 ⟨h.sort.below hb,h.params.below hb,h.indices.below hb,h.ctors.below hb,h.type.below hb,h.body.below hb⟩
structure rP (w:World) (A:Option Addr) (n c:Nat) (es:List En):Prop where
 len:es.length=n
 few:n<=5864062014805
 mem:0<n->∃b off,A=Y ⟨b,off,X⟩/\b<w.heap.size/\∀k,k<n->∃v:eZ,w.cell? ⟨b,off+k*7,X⟩=Y (.int .i64 (es.getD k default).kind)/\w.cell? ⟨b,off+k*7+1,X⟩=Y (O v.As v.ns v.cs)/\w.cell? ⟨b,off+k*7+2,X⟩=Y (O v.Ap v.np v.cp)/\w.cell? ⟨b,off+k*7+3,X⟩=Y (O v.Ai v.ni v.ci)/\w.cell? ⟨b,off+k*7+4,X⟩=Y (O v.Ac v.nc v.cc)/\w.cell? ⟨b,off+k*7+5,X⟩=Y (O v.At v.nt v.ct)/\w.cell? ⟨b,off+k*7+6,X⟩=Y (O v.Ab v.nb v.cb)/\tU w v (es.getD k default)
theorem rP.below {w w':World} {A:Option Addr} {n c:Nat} {es:List En} (h:rP w A n c es) (hb:Below w.heap.size w w'):rP w' A n c es :=
 ⟨h.len,h.few,fun hn=>by
  obtain⟨b,off,e,hlt,hm⟩:=h.mem hn;refine⟨b,off,e,Nat.lt_of_lt_of_le hlt hb.size,fun k hk => ?_⟩;obtain⟨v,h0,h1,h2,h3,h4,h5,h6,h7⟩:=hm k hk;exact⟨v,(hb.cell (p:=⟨b,off+k*7,X⟩) hlt).trans h0,(hb.cell (p:=⟨b,off+k*7+1,X⟩) hlt).trans h1,(hb.cell (p:=⟨b,off+k*7+2,X⟩) hlt).trans h2,(hb.cell (p:=⟨b,off+k*7+3,X⟩) hlt).trans h3,(hb.cell (p:=⟨b,off+k*7+4,X⟩) hlt).trans h4,(hb.cell (p:=⟨b,off+k*7+5,X⟩) hlt).trans h5,(hb.cell (p:=⟨b,off+k*7+6,X⟩) hlt).trans h6,h7.below hb⟩⟩
theorem rP.at_ {w:World} {A:Option Addr} {n c:Nat} {es:List En} (h:rP w A n c es) {k:Nat} (hk:k<n) : ∃b off,A=Y ⟨b,off,X⟩/\b<w.heap.size/\∃v:eZ,w.cell? ⟨b,off+k*7,X⟩=Y (.int .i64 (es.getD k default).kind)/\w.cell? ⟨b,off+k*7+1,X⟩=Y (O v.As v.ns v.cs)/\w.cell? ⟨b,off+k*7+2,X⟩=Y (O v.Ap v.np v.cp)/\w.cell? ⟨b,off+k*7+3,X⟩=Y (O v.Ai v.ni v.ci)/\w.cell? ⟨b,off+k*7+4,X⟩=Y (O v.Ac v.nc v.cc)/\w.cell? ⟨b,off+k*7+5,X⟩=Y (O v.At v.nt v.ct)/\w.cell? ⟨b,off+k*7+6,X⟩=Y (O v.Ab v.nb v.cb)/\tU w v (es.getD k default):=by
 obtain⟨b,off,e,hb,hm⟩:=h.mem aA;obtain⟨v,h0⟩:=hm k hk;exact⟨b,off,e,hb,v,h0⟩
structure tZ (w:World) (A:Option Addr) (n c:Nat) (ps:List (Int×Int)):Prop where
 len:ps.length=n
 few:n<=8796093021952
 mem:0<n->∃b off,A=Y ⟨b,off,X⟩/\b<w.heap.size/\∀k,k<n->w.cell? ⟨b,off+k*2,X⟩=Y (.int .i64 (ps.getD k (0,0)).1)/\w.cell? ⟨b,off+k*2+1,X⟩=Y (.int .i64 (ps.getD k (0,0)).2)
theorem tZ.below {w w':World} {A:Option Addr} {n c:Nat} {ps:List (Int×Int)} (h:tZ w A n c ps) (hb:Below w.heap.size w w'):tZ w' A n c ps :=
 ⟨h.len,h.few,fun hn=>by
  obtain⟨b,off,e,hlt,hm⟩:=h.mem hn;refine⟨b,off,e,Nat.lt_of_lt_of_le hlt hb.size,fun k hk => ?_⟩;obtain⟨h1,h2⟩:=hm k hk;exact⟨(hb.cell (p:=⟨b,off+k*2,X⟩) hlt).trans h1,(hb.cell (p:=⟨b,off+k*2+1,X⟩) hlt).trans h2⟩⟩
structure bN where
 Ao:Option Addr
 no:Nat
 co:Nat
 Ae:Option Addr
 ne:Nat
 ce:Nat
 Ap:Option Addr
 np:Nat
 cp:Nat
structure bV (w:World) (v:bN) (b:Bk):Prop where
 orders:bB w v.Ao v.no v.co b.orders
 entries:rP w v.Ae v.ne v.ce b.entries
 prims:tZ w v.Ap v.np v.cp b.prims
 vars:(Lit.int .i64 b.vars).wf=true
 nat:(Lit.int .i64 b.nat).wf=true
 kinds:∀x ∈ b.entries,(Lit.int .i64 x.kind).wf=true
 primsw:∀p ∈ b.prims,(Lit.int .i64 p.1).wf=true/\(Lit.int .i64 p.2).wf=true
theorem bV.below {w w':World} {v:bN} {b:Bk} (h:bV w v b) (hb:Below w.heap.size w w'):bV w' v b :=
 ⟨h.orders.below hb,h.entries.below hb,h.prims.below hb,h.vars,h.nat,h.kinds,h.primsw⟩
theorem qL:∀(k:Nat) (last:Int) (l:List Nd) (p:List Nd×List Nd),bI k last l=Y p->∀m ∈ p.1,bW m.op m.a m.b=true
 | 0,_,_,p,h,m,hm=>by
  simp only[bI,Option.some.injEq] at h;subst h;cases hm
 | k+1,last,[],p,h,m,hm=>by simp[bI] at h
 | k+1,last,x::l,p,h,m,hm=>by
  simp only[bI] at h;split at h
  · rename_i hc
    simp only[Option.map_eq_some_iff] at h;obtain⟨q,hq,rfl⟩:=h;rcases List.mem_cons.1 hm with rfl | hm
    · exact hc.2.1
    exact qL k x.a l q hq m hm
  · cases h
theorem tR:∀(F:Fo) (dl:List Bool),Wf dl F->∀m ∈ row F,bW m.op m.a m.b=true
 | .nil,_,_,m,hm=>by cases hm
 | .cons p n a k x,[],h,m,hm=>h.elim
 | .cons p n a k x,d::dr,h,m,hm=>by
  obtain⟨hp,hok,hat,hk,hx⟩:=h;simp only[row,List.mem_append,List.mem_cons] at hm;simp only[eE,Bool.and_eq_true] at hok;rcases hm with hm | rfl | hm | hm | hm
  · cases d with
    | false=>simp only at hp;subst hp;cases hm
    | true =>
     obtain⟨f,rfl,hf⟩:=hp;rw[List.mem_singleton] at hm;subst hm;simp only[tW,Bool.and_eq_true] at hf;exact hf.1
  · exact hok.1.1
  · unfold iY at hat;split at hat
    · exact qL _ _ _ _ hat m hm
    subst hat;cases hm
  · exact tR k _ hk m hm
  · exact tR x _ hx m hm
theorem BD {l:List Nd} (h:bC l=0) : ∀m ∈ l,bW m.op m.a m.b=true:=by
 obtain⟨n,a,k,hr⟩:=LL h;have h2:=iG hr.pp;intro m hm;refine tR _ _ h2 m ?_;rw[hr.eq] at hm;simpa[row] using hm
def bJ (b:Bk) (e:Int):En:=b.entries.getD e.toNat default
def fJ (b:Bk) (known e:Int):Bool:=decide (e<known)&&(bJ b e).kind==1
def bZ (b:Bk) (known self:Int) (m:Nd):Bool :=
 if m.op=3 then decide (m.a<=b.vars)
 else if m.op=8 then decide (m.a<known)&&(bJ b m.a).kind==2
 else if m.op=9 then m.a==self||fJ b known m.a
 else if m.op=11 then fJ b known m.a
 else if m.op=10 then fJ b known m.a&&decide (m.b<((bJ b m.a).ctors.length:Int))
 else true
def fM (b:Bk) (known self:Int) (l:List Nd) (below:Int):Int :=
 if bC l ≠ 0 then bC l else if fZ l below=false then 8 else if l.all (bZ b known self) then 0 else 8
def cZ (b:Bk) (known self:Int) (step:Int):List (List Nd)->Int->Int
 | [],_=>0
 | l::r,below=>if fM b known self l below ≠ 0 then fM b known self l below else cZ b known self step r (below+step)
def fR (b:Bk) (known:Int) (x:En):List Ct->Int
 | []=>0
 | c::r =>
  if 16<c.args.length then 5
  else if c.outs.length ≠ x.indices.length then 8
  else if cZ b known known 1 c.args x.params.length ≠ 0 then cZ b known known 1 c.args x.params.length
  else if cZ b known known 0 c.outs ((x.params.length:Int)+c.args.length) ≠ 0 then cZ b known known 0 c.outs ((x.params.length:Int)+c.args.length)
  else fR b known x r
def lE (l:List Nd):Int:=if (bD l 0).op ≠ 2 then 8 else 0
def iB:List Int->Int
 | []=>0
 | e::r=>if e ≠ 0 then e else iB r
def cO (b:Bk) (known:Int) (x:En):Int :=
 if x.kind=1 then
  if 0<x.type.length+x.body.length then 8
  else if 16<x.params.length\/16<x.indices.length\/16<x.ctors.length then 5
  else iB [fM b known (-1) x.sort 0,lE x.sort,cZ b known (-1) 1 x.params 0,cZ b known (-1) 1 x.indices x.params.length,fR b known x x.ctors]
 else if x.kind=2 then
  if 0<x.sort.length+x.params.length+x.indices.length+x.ctors.length then 8
  else cZ b known (-1) 0 [x.type,x.body] 0
 else 8
def cR (b:Bk):Nat->List En->Int
 | _,[]=>0
 | i,x::r=>if cO b i x ≠ 0 then cO b i x else cR b (i+1) r
def xO (b:Bk) (e:Int):Bool :=
 if e<0 then false
 else if (b.entries.length:Int)<=e then false
 else if (bJ b e).kind ≠ 1 then false
 else if (bJ b e).sort.length ≠ 2 then false
 else if (bD (bJ b e).sort 0).a ≠ 1 then false
 else if bD (bJ b e).sort 1 ≠ ⟨3,0,0⟩ then false
 else if 0<(bJ b e).params.length+(bJ b e).indices.length then false
 else if (bJ b e).ctors.length ≠ 2 then false
 else if ((bJ b e).ctors.getD 0 default).args.length ≠ 0 then false
 else if ((bJ b e).ctors.getD 1 default).args.length ≠ 1 then false
 else if (((bJ b e).ctors.getD 1 default).args.getD 0 []).length ≠ 1 then false
 else decide (bD (((bJ b e).ctors.getD 1 default).args.getD 0 []) 0=⟨9,e,0⟩)
def iQ (b:Bk):List (Int×Int)->GF->Bool
 | [],_=>true
 | p::r,g =>
  if p.1<0 then false
  else if (b.entries.length:Int)<=p.1 then false
  else if (bJ b p.1).kind ≠ 2 then false
  else if p.2<1 then false
  else if 3<p.2 then false
  else if 0<(g p.1 (-1)).getD 0+(g (-1) p.2).getD 0 then false
  else iQ b r (gF (gF g p.1 (-1) 1) (-1) p.2 1)
def DO (b:Bk):Bool :=
 if b.nat ≠ -1 then (if xO b b.nat then iQ b b.prims (fun _ _=>X) else false)
 else if 0<b.prims.length then false else true
def cT (b:Bk):Int :=
 if (nV b.vars b.orders).1 ≠ 0 then (nV b.vars b.orders).1
 else if 64<b.entries.length then 5
 else if cR b 0 b.entries ≠ 0 then cR b 0 b.entries
 else if DO b then 0 else 22
def fT (b:Bk) (free:Int) (l:List Nd):Int :=
 if cT b ≠ 0 then cT b else if free<0 then 1 else fM b b.entries.length (-1) l free
theorem iM {w:World} {v:bN} {b:Bk} (hb:bV w v b) (known self:Int) (hk:known<=b.entries.length) (e:Nat) :
 Calls Tryz.prog 93 #[.agg #[.int .i64 b.vars,O v.Ao v.no v.co,O v.Ae v.ne v.ce,.int .i64 b.nat,O v.Ap v.np v.cp,.int .i64 known,.int .i64 self],.int .i64 (e:Int)] w (fP (fJ b known e) w):=by
 have HB:=aB (aP w (Z #[.int .i64 b.vars,O v.Ao v.no v.co,O v.Ae v.ne v.ce,.int .i64 b.nat,O v.Ap v.np v.cp,.int .i64 known,.int .i64 self] 80));have hlen:=hb.entries.len;by_cases hlt:(e:Int)<known
 · have hlb:decide ((e:Int)<known)=true:=decide_eq_true hlt;obtain⟨be,oe,hA,hbe,ev,hc0,_⟩:=hb.entries.at_ (k:=e) aA;have HR:Hid (fJ b known e=((bJ b e).kind==1)):=aB (by unfold fJ;rw[hlb,Bool.true_and]);rw[show b.entries.getD e default=bJ b e from by unfold bJ;rw[Int.toNat_natCast]] at hc0;obtain⟨Ao,no,co,Ae,ne,ce,Ap,np,cp⟩:=v;simp only at hA hlen HB ⊢;subst hA;have hne:e<ne:=aA;generalize (bJ b e).kind=kd at *;generalize b.vars=bv at *;generalize b.nat=bn at *;generalize fJ b known e=res at *;clear hb hlen hk hlt;go_in;go_wp2_with fail;go_ret;rw[HR.o];exact⟨rfl,HB.o⟩
 have hlb:decide ((e:Int)<known)=false:=decide_eq_false hlt;have HR:Hid (fJ b known e=false):=aB (by unfold fJ;rw[hlb,Bool.false_and]);generalize b.vars=bv at *;generalize b.nat=bn at *;generalize fJ b known e=res at *;clear hb hlen hk hlt;go_in;go_wp2_with fail;go_ret;rw[HR.o];exact⟨rfl,HB.o⟩
theorem vA (w:World) (p:Addr):w.drew.cell? p=w.cell? p:=rfl
theorem G3 {w:World} {v:bN} {b:Bk} (hb:bV w v b) (known self:Int) (hk:known<=b.entries.length) (m:Nd) (hp:bW m.op m.a m.b=true) (hop:m.op=3) :
 Calls Tryz.prog 54 #[.agg #[.int .i64 b.vars,O v.Ao v.no v.co,O v.Ae v.ne v.ce,.int .i64 b.nat,O v.Ap v.np v.cp,.int .i64 known,.int .i64 self],.agg #[.int .i64 m.op,.int .i64 m.a,.int .i64 m.b]] w (fP (bZ b known self m) w):=by
 have hpl:=aT.1 hp;have hlen:=hb.entries.len;obtain⟨ea,hea⟩ : ∃ea:Nat,m.a=(ea:Int):=⟨m.a.toNat,by omega⟩;have HEN:=aB (fun (h:(ea:Int)<known)=>hb.entries.at_ (k:=ea) aA);have HFAM:=aB (fun (w':World) (h:Below w.heap.size w w')=>iM (hb.below h) known self hk ea);have hent:b.entries.getD ea default=bJ b m.a:=by rw[hea];unfold bJ;rw[Int.toNat_natCast]
 rw[hent] at HEN;obtain⟨Ao,no,co,Ae,ne,ce,Ap,np,cp⟩:=v;simp only at hlen HEN HFAM ⊢;have HBE:=aB ((aP w (Z #[.int .i64 b.vars,O Ao no co,O Ae ne ce,.int .i64 b.nat,O Ap np cp,.int .i64 known,.int .i64 self] 80)).alloc aD (Z #[.int .i64 m.op,.int .i64 m.a,.int .i64 m.b] 40));have HR:Hid (bZ b known self m=decide (m.a<=b.vars)):=aB (by unfold bZ;rw[if_pos hop]);rw[hop] at HBE ⊢;generalize bZ b known self m=res at *;generalize b.vars=bv at *;generalize b.nat=bn at *;generalize m.b=mb at *;generalize m.a=ma at *;generalize hdb:decide (ma<=bv)=db at *;clear hb hk hp hpl hent hea HEN HFAM hlen hop;go_in;go_wp2_with fail;go_ret;rw[HR.o];exact⟨rfl,HBE.o⟩
theorem KO {w:World} {v:bN} {b:Bk} (hb:bV w v b) (known self:Int) (hk:known<=b.entries.length) (m:Nd) (hp:bW m.op m.a m.b=true) (hop:m.op ≠ 3/\m.op ≠ 8/\m.op ≠ 9/\m.op ≠ 11/\m.op ≠ 10) :
 Calls Tryz.prog 54 #[.agg #[.int .i64 b.vars,O v.Ao v.no v.co,O v.Ae v.ne v.ce,.int .i64 b.nat,O v.Ap v.np v.cp,.int .i64 known,.int .i64 self],.agg #[.int .i64 m.op,.int .i64 m.a,.int .i64 m.b]] w (fP (bZ b known self m) w):=by
 have hpl:=aT.1 hp;have hlen:=hb.entries.len;obtain⟨ea,hea⟩ : ∃ea:Nat,m.a=(ea:Int):=⟨m.a.toNat,by omega⟩;have HEN:=aB (fun (h:(ea:Int)<known)=>hb.entries.at_ (k:=ea) aA);have HFAM:=aB (fun (w':World) (h:Below w.heap.size w w')=>iM (hb.below h) known self hk ea);have hent:b.entries.getD ea default=bJ b m.a:=by rw[hea];unfold bJ;rw[Int.toNat_natCast]
 rw[hent] at HEN;obtain⟨Ao,no,co,Ae,ne,ce,Ap,np,cp⟩:=v;simp only at hlen HEN HFAM ⊢;have HBE:=aB ((aP w (Z #[.int .i64 b.vars,O Ao no co,O Ae ne ce,.int .i64 b.nat,O Ap np cp,.int .i64 known,.int .i64 self] 80)).alloc aD (Z #[.int .i64 m.op,.int .i64 m.a,.int .i64 m.b] 40));have HR:Hid (bZ b known self m=true):=aB (by unfold bZ;rw[if_neg hop.1,if_neg hop.2.1,if_neg hop.2.2.1,if_neg hop.2.2.2.1,if_neg hop.2.2.2.2]);have q1:(m.op==3)=false:=by simpa using hop.1
 have q2:(m.op==8)=false:=by simpa using hop.2.1
 have q3:(m.op==9)=false:=by simpa using hop.2.2.1
 have q4:(m.op==11)=false:=by simpa using hop.2.2.2.1
 have q5:(m.op==10)=false:=by simpa using hop.2.2.2.2
 clear hop hb hk hp hpl hent hea HEN HFAM hlen;generalize bZ b known self m=res at *;generalize b.vars=bv at *;generalize b.nat=bn at *;generalize m.b=mb at *;generalize m.a=ma at *;generalize m.op=op at *;go_in;go_wp2_with fail;go_ret;rw[HR.o];exact⟨rfl,HBE.o⟩
theorem C8 {w:World} {v:bN} {b:Bk} (hb:bV w v b) (known self:Int) (hk:known<=b.entries.length) (m:Nd) (hp:bW m.op m.a m.b=true) (hop:m.op=8) :
 Calls Tryz.prog 54 #[.agg #[.int .i64 b.vars,O v.Ao v.no v.co,O v.Ae v.ne v.ce,.int .i64 b.nat,O v.Ap v.np v.cp,.int .i64 known,.int .i64 self],.agg #[.int .i64 m.op,.int .i64 m.a,.int .i64 m.b]] w (fP (bZ b known self m) w):=by
 have hpl:=aT.1 hp;have hlen:=hb.entries.len;obtain⟨ea,hea⟩ : ∃ea:Nat,m.a=(ea:Int):=⟨m.a.toNat,by omega⟩;have HEN:=aB (fun (h:(ea:Int)<known)=>hb.entries.at_ (k:=ea) aA);have HFAM:=aB (fun (w':World) (h:Below w.heap.size w w')=>iM (hb.below h) known self hk ea);have hent:b.entries.getD ea default=bJ b m.a:=by rw[hea];unfold bJ;rw[Int.toNat_natCast]
 rw[hent] at HEN;obtain⟨Ao,no,co,Ae,ne,ce,Ap,np,cp⟩:=v;simp only at hlen HEN HFAM ⊢;have hkn:known<=(ne:Int):=aA;have HBE:=aB ((aP w (Z #[.int .i64 b.vars,O Ao no co,O Ae ne ce,.int .i64 b.nat,O Ap np cp,.int .i64 known,.int .i64 self] 80)).alloc aD (Z #[.int .i64 m.op,.int .i64 m.a,.int .i64 m.b] 40));have HR:Hid (bZ b known self m=(decide ((ea:Int)<known)&&(bJ b m.a).kind==2)):=aB (by unfold bZ;rw[if_neg aA,if_pos hop,hea]);rw[hop] at HBE ⊢;generalize bZ b known self m=res at *;generalize hkd:(bJ b m.a).kind=kd at *;generalize hcl:(bJ b m.a).ctors.length=cl at *;generalize fJ b known m.a=fam at *;generalize b.vars=bv at *;generalize b.nat=bn at *;generalize m.b=mb at *;rw[hea] at *;clear hb hk hp hpl hent hea;by_cases hlt:(ea:Int)<known
 · have hlb:decide ((ea:Int)<known)=true:=decide_eq_true hlt;obtain⟨be,oe,rfl,hbe,ev,hc0,_⟩:=HEN.o hlt;have hne:ea<ne:=aA;rw[hlb,Bool.true_and] at HR;clear hlt HEN hlen hkd hcl hop;go_in;go_wp2_with fail;go_ret;rw[HR.o];exact⟨rfl,HBE.o⟩
 have hlb:decide ((ea:Int)<known)=false:=decide_eq_false hlt;rw[hlb,Bool.false_and] at HR;clear hlt HEN hlen hkd hcl hop;go_in;go_wp2_with fail;go_ret;rw[HR.o];exact⟨rfl,HBE.o⟩
theorem KN {w:World} {v:bN} {b:Bk} (hb:bV w v b) (known self:Int) (hk:known<=b.entries.length) (m:Nd) (hp:bW m.op m.a m.b=true) (hop:m.op=9) :
 Calls Tryz.prog 54 #[.agg #[.int .i64 b.vars,O v.Ao v.no v.co,O v.Ae v.ne v.ce,.int .i64 b.nat,O v.Ap v.np v.cp,.int .i64 known,.int .i64 self],.agg #[.int .i64 m.op,.int .i64 m.a,.int .i64 m.b]] w (fP (bZ b known self m) w):=by
 have hpl:=aT.1 hp;have hlen:=hb.entries.len;obtain⟨ea,hea⟩ : ∃ea:Nat,m.a=(ea:Int):=⟨m.a.toNat,by omega⟩;have HEN:=aB (fun (h:(ea:Int)<known)=>hb.entries.at_ (k:=ea) aA);have HFAM:=aB (fun (w':World) (h:Below w.heap.size w w')=>iM (hb.below h) known self hk ea);have hent:b.entries.getD ea default=bJ b m.a:=by rw[hea];unfold bJ;rw[Int.toNat_natCast]
 rw[hent] at HEN;obtain⟨Ao,no,co,Ae,ne,ce,Ap,np,cp⟩:=v;simp only at hlen HEN HFAM ⊢;have HBE:=aB ((aP w (Z #[.int .i64 b.vars,O Ao no co,O Ae ne ce,.int .i64 b.nat,O Ap np cp,.int .i64 known,.int .i64 self] 80)).alloc aD (Z #[.int .i64 m.op,.int .i64 m.a,.int .i64 m.b] 40));have HR:Hid (bZ b known self m=(((ea:Int)==self)||fJ b known m.a)):=aB (by unfold bZ;rw[if_neg aA,if_neg aA,if_pos hop,hea]);rw[<-hea] at HFAM;rw[hop] at HBE ⊢;generalize bZ b known self m=res at *;generalize hkd:(bJ b m.a).kind=kd at *;generalize hcl:(bJ b m.a).ctors.length=cl at *;generalize fJ b known m.a=fam at *;generalize b.vars=bv at *;generalize b.nat=bn at *;generalize m.b=mb at *;rw[hea] at *;clear hb hk hp hpl hent hea;by_cases hlt:(ea:Int)=self
 · have hlb:((ea:Int)==self)=true:=by simp[hlt]
   rw[hlb,Bool.true_or] at HR;clear hlt HEN hlen hkd hcl hop;go_in;go_wp2_with fail;go_ret;rw[HR.o];exact⟨rfl,HBE.o⟩
 have hlb:((ea:Int)==self)=false:=by simpa using hlt
 rw[hlb,Bool.false_or] at HR;clear hlt HEN hlen hkd hcl hop;go_in;go_wp2_with fail;refine (HFAM.o _ HBE.o).mono ?_;rintro e w2 ⟨rfl,hb2⟩;have HB2:=dA HBE hb2;clear hb2;go_wp2_with fail;go_ret;rw[HR.o];exact⟨rfl,HB2.o⟩
theorem C9 {w:World} {v:bN} {b:Bk} (hb:bV w v b) (known self:Int) (hk:known<=b.entries.length) (m:Nd) (hp:bW m.op m.a m.b=true) (hop:m.op=11) :
 Calls Tryz.prog 54 #[.agg #[.int .i64 b.vars,O v.Ao v.no v.co,O v.Ae v.ne v.ce,.int .i64 b.nat,O v.Ap v.np v.cp,.int .i64 known,.int .i64 self],.agg #[.int .i64 m.op,.int .i64 m.a,.int .i64 m.b]] w (fP (bZ b known self m) w):=by
 have hpl:=aT.1 hp;have hlen:=hb.entries.len;obtain⟨ea,hea⟩ : ∃ea:Nat,m.a=(ea:Int):=⟨m.a.toNat,by omega⟩;have HEN:=aB (fun (h:(ea:Int)<known)=>hb.entries.at_ (k:=ea) aA);have HFAM:=aB (fun (w':World) (h:Below w.heap.size w w')=>iM (hb.below h) known self hk ea);have hent:b.entries.getD ea default=bJ b m.a:=by rw[hea];unfold bJ;rw[Int.toNat_natCast]
 rw[hent] at HEN;obtain⟨Ao,no,co,Ae,ne,ce,Ap,np,cp⟩:=v;simp only at hlen HEN HFAM ⊢;have HBE:=aB ((aP w (Z #[.int .i64 b.vars,O Ao no co,O Ae ne ce,.int .i64 b.nat,O Ap np cp,.int .i64 known,.int .i64 self] 80)).alloc aD (Z #[.int .i64 m.op,.int .i64 m.a,.int .i64 m.b] 40));have HR:Hid (bZ b known self m=fJ b known m.a):=aB (by unfold bZ;rw[if_neg aA,if_neg aA,if_neg aA,if_pos hop]);rw[<-hea] at HFAM;rw[hop] at HBE ⊢;generalize bZ b known self m=res at *;generalize hkd:(bJ b m.a).kind=kd at *;generalize hcl:(bJ b m.a).ctors.length=cl at *;generalize fJ b known m.a=fam at *;generalize b.vars=bv at *;generalize b.nat=bn at *;generalize m.b=mb at *;rw[hea] at *;clear hb hk hp hpl hent hea;clear HEN hlen hkd hcl hop;go_in;go_wp2_with fail;refine (HFAM.o _ HBE.o).mono ?_;rintro e w2 ⟨rfl,hb2⟩;have HB2:=dA HBE hb2;clear hb2;go_wp2_with fail;go_ret;rw[HR.o];exact⟨rfl,HB2.o⟩
theorem G4 {w:World} {v:bN} {b:Bk} (hb:bV w v b) (known self:Int) (hk:known<=b.entries.length) (m:Nd) (hp:bW m.op m.a m.b=true) (hop:m.op=10) :
 Calls Tryz.prog 54 #[.agg #[.int .i64 b.vars,O v.Ao v.no v.co,O v.Ae v.ne v.ce,.int .i64 b.nat,O v.Ap v.np v.cp,.int .i64 known,.int .i64 self],.agg #[.int .i64 m.op,.int .i64 m.a,.int .i64 m.b]] w (fP (bZ b known self m) w):=by
 have hpl:=aT.1 hp;have hlen:=hb.entries.len;obtain⟨ea,hea⟩ : ∃ea:Nat,m.a=(ea:Int):=⟨m.a.toNat,by omega⟩;have HEN:=aB (fun (h:(ea:Int)<known)=>hb.entries.at_ (k:=ea) aA);have HFAM:=aB (fun (w':World) (h:Below w.heap.size w w')=>iM (hb.below h) known self hk ea);have hent:b.entries.getD ea default=bJ b m.a:=by rw[hea];unfold bJ;rw[Int.toNat_natCast]
 rw[hent] at HEN;obtain⟨Ao,no,co,Ae,ne,ce,Ap,np,cp⟩:=v;simp only at hlen HEN HFAM ⊢;have hkn:known<=(ne:Int):=aA;have HBE:=aB ((aP w (Z #[.int .i64 b.vars,O Ao no co,O Ae ne ce,.int .i64 b.nat,O Ap np cp,.int .i64 known,.int .i64 self] 80)).alloc aD (Z #[.int .i64 m.op,.int .i64 m.a,.int .i64 m.b] 40));have HR:Hid (bZ b known self m=(fJ b known m.a&&decide (m.b<((bJ b m.a).ctors.length:Int)))):=aB (by unfold bZ;rw[if_neg aA,if_neg aA,if_neg aA,if_neg aA,if_pos hop]);have hfl:fJ b known m.a=true->(ea:Int)<known:=fun h=>by
  unfold fJ at h;rw[Bool.and_eq_true,decide_eq_true_eq,hea] at h;exact h.1
 rw[<-hea] at HFAM;rw[hop] at HBE ⊢;generalize bZ b known self m=res at *;generalize hkd:(bJ b m.a).kind=kd at *;generalize hcl:(bJ b m.a).ctors.length=cl at *;generalize fJ b known m.a=fam at *;generalize b.vars=bv at *;generalize b.nat=bn at *;generalize m.b=mb at *;rw[hea] at *;have HW:=aB (aS.new w 80 #[.int .i64 bv,O Ao no co,O Ae ne ce,.int .i64 bn,O Ap np cp,.int .i64 known,.int .i64 self]);have HV:=aB (aS.new (w.alloc (Z #[.int .i64 bv,O Ao no co,O Ae ne ce,.int .i64 bn,O Ap np cp,.int .i64 known,.int .i64 self] 80)) 40 #[.int .i64 10,.int .i64 (ea:Int),.int .i64 mb]);clear hb hk hp hpl hent hea;have HBD:=aB (aV HBE.o 1);have zc1:∀i,(((w.alloc (Z #[.int .i64 bv,O Ao no co,O Ae ne ce,.int .i64 bn,O Ap np cp,.int .i64 known,.int .i64 self] 80)).alloc (Z #[.int .i64 10,.int .i64 (ea:Int),.int .i64 mb] 40)).drew).cell? ⟨w.heap.size,i,X⟩=(#[.int .i64 bv,O Ao no co,O Ae ne ce,.int .i64 bn,O Ap np cp,.int .i64 known,.int .i64 self]:Array Value)[i]?:=fun i=>(vA _ _).trans (aS.cell (HW.o.alloc (Z #[.int .i64 10,.int .i64 (ea:Int),.int .i64 mb] 40)) i);have zc2:∀i,(((w.alloc (Z #[.int .i64 bv,O Ao no co,O Ae ne ce,.int .i64 bn,O Ap np cp,.int .i64 known,.int .i64 self] 80)).alloc (Z #[.int .i64 10,.int .i64 (ea:Int),.int .i64 mb] 40)).drew).cell? ⟨w.heap.size+1,i,X⟩=(#[.int .i64 10,.int .i64 (ea:Int),.int .i64 mb]:Array Value)[i]?:=by
  have h:=aS.cell HV.o;rw[show (w.alloc (Z #[.int .i64 bv,O Ao no co,O Ae ne ce,.int .i64 bn,O Ap np cp,.int .i64 known,.int .i64 self] 80)).heap.size=w.heap.size+1 from by simp] at h;exact fun i=>(vA _ _).trans (h i)
 cases fam with
 | false =>
  rw[Bool.false_and] at HR;clear HEN hlen hkd hcl hop hfl;go_in;go_wp2_with fail;refine wp_region_held_drew (S:=(fun w'=>w'.cell? ⟨w.heap.size,0,X⟩=Y (.int .i64 bv)/\w'.cell? ⟨w.heap.size,1,X⟩=Y (O Ao no co)/\w'.cell? ⟨w.heap.size,2,X⟩=Y (O Ae ne ce)/\w'.cell? ⟨w.heap.size,3,X⟩=Y (.int .i64 bn)/\w'.cell? ⟨w.heap.size,4,X⟩=Y (O Ap np cp)/\w'.cell? ⟨w.heap.size,5,X⟩=Y (.int .i64 known)/\w'.cell? ⟨w.heap.size,6,X⟩=Y (.int .i64 self)/\w'.cell? ⟨w.heap.size+1,0,X⟩=Y (.int .i64 10)/\w'.cell? ⟨w.heap.size+1,1,X⟩=Y (.int .i64 (ea:Int))/\w'.cell? ⟨w.heap.size+1,2,X⟩=Y (.int .i64 mb))) aC ?_ (fun hZ => ?_)
  · (try dsimp only);exact⟨zc1 0,zc1 1,zc1 2,zc1 3,zc1 4,zc1 5,zc1 6,zc2 0,zc2 1,zc2 2⟩
  refine aL 0 hZ ?_;refine aL 1 hZ ?_;refine aL 2 hZ ?_;refine r1 3 fun K hK => ?_;go_simp;go_at_call 93
  refine (HFAM.o _ HBD.o).mono ?_;rintro e w2 ⟨rfl,hb2⟩;have zd1:=fun i=>(hb2.cell (p:=⟨w.heap.size,i,X⟩) aG).trans (zc1 i);have zd2:=fun i=>(hb2.cell (p:=⟨w.heap.size+1,i,X⟩) aD).trans (zc2 i);go_wp2_with fail;refine hK.o _ _ (by exact⟨zd1 0,zd1 1,zd1 2,zd1 3,zd1 4,zd1 5,zd1 6,zd2 0,zd2 1,zd2 2⟩) fun hZ => ?_;clear hK K;try simp only[p7]
  refine aL 4 hZ ?_;refine aM 5 hZ ?_;refine aM 6 hZ ?_;refine aM 7 hZ ?_;refine aM 8 hZ ?_;refine aM 9 hZ ?_;refine aM 10 hZ ?_;refine aM 11 hZ ?_;refine aM 12 hZ ?_;refine aM 13 hZ ?_;refine aM 14 hZ ?_;refine aM 15 hZ ?_;refine aM 16 hZ ?_;refine aL 17 hZ ?_;refine aL 18 hZ ?_;refine wpAnyH_done aC ?_ _;have HB2:=dA HBD hb2;clear hb2;go_wp2_with fail;go_ret;rw[HR.o];exact⟨rfl,HB2.o⟩
 | true =>
  rw[Bool.true_and] at HR;obtain⟨be,oe,rfl,hbe,ev,_,_,_,_,hc4,_,_,hec⟩:=HEN.o (hfl rfl);have hne:ea<ne:=by have:=hfl rfl;omega
  have hcc:=hec.ctors.len;rw[hcl] at hcc;obtain⟨cA,cn,cC,hce⟩ : ∃cA cn cC,(Value.slice ev.Ac ev.nc ev.cc)=O cA cn cC/\ev.nc=cn:=⟨_,_,_,rfl,rfl⟩;rw[hce.1] at hc4;have hcn:cl=cn:=by rw[<-hce.2];exact hcc
  have zc3:(((w.alloc (Z #[.int .i64 bv,O Ao no co,O (Y ⟨be,oe,X⟩) ne ce,.int .i64 bn,O Ap np cp,.int .i64 known,.int .i64 self] 80)).alloc (Z #[.int .i64 10,.int .i64 (ea:Int),.int .i64 mb] 40)).drew).cell? ⟨be,oe+ea*7+4,X⟩=Y (O cA cn cC):=(HBD.o.cell (p:=⟨be,oe+ea*7+4,X⟩) hbe).trans hc4;rw[hcn] at HR;have hi0:(0:Int)<=(ea:Int):=aA;have hi1:(ea:Int)<(ne:Int):=aA;clear HEN hlen hkd hcl hop hfl hce hcn hcc hc4 hec;go_in;go_wp2_with fail;refine wp_region_held_drew (S:=(fun w'=>w'.cell? ⟨w.heap.size,0,X⟩=Y (.int .i64 bv)/\w'.cell? ⟨w.heap.size,1,X⟩=Y (O Ao no co)/\w'.cell? ⟨w.heap.size,2,X⟩=Y (O (Y ⟨be,oe,X⟩) ne ce)/\w'.cell? ⟨w.heap.size,3,X⟩=Y (.int .i64 bn)/\w'.cell? ⟨w.heap.size,4,X⟩=Y (O Ap np cp)/\w'.cell? ⟨w.heap.size,5,X⟩=Y (.int .i64 known)/\w'.cell? ⟨w.heap.size,6,X⟩=Y (.int .i64 self)/\w'.cell? ⟨w.heap.size+1,0,X⟩=Y (.int .i64 10)/\w'.cell? ⟨w.heap.size+1,1,X⟩=Y (.int .i64 (ea:Int))/\w'.cell? ⟨w.heap.size+1,2,X⟩=Y (.int .i64 mb)/\w'.cell? ⟨be,oe+ea*7+4,X⟩=Y (O cA cn cC))) aC ?_ (fun hZ => ?_)
  · (try dsimp only);exact⟨zc1 0,zc1 1,zc1 2,zc1 3,zc1 4,zc1 5,zc1 6,zc2 0,zc2 1,zc2 2,zc3⟩
  refine aL 0 hZ ?_;refine aL 1 hZ ?_;refine aL 2 hZ ?_;refine r1 3 fun K hK => ?_;go_simp;go_at_call 93
  refine (HFAM.o _ HBD.o).mono ?_;rintro e w2 ⟨rfl,hb2⟩;have zd1:=fun i=>(hb2.cell (p:=⟨w.heap.size,i,X⟩) aG).trans (zc1 i);have zd2:=fun i=>(hb2.cell (p:=⟨w.heap.size+1,i,X⟩) aD).trans (zc2 i);have zd3:w2.cell? ⟨be,oe+ea*7+4,X⟩=Y (O cA cn cC):=(hb2.cell (p:=⟨be,oe+ea*7+4,X⟩) aG).trans zc3;go_wp2_with fail;refine hK.o _ _ (by exact⟨zd1 0,zd1 1,zd1 2,zd1 3,zd1 4,zd1 5,zd1 6,zd2 0,zd2 1,zd2 2,zd3⟩) fun hZ => ?_;clear hK K;try simp only[p7]
  refine aL 4 hZ ?_;refine aL 5 hZ ?_;refine aL 6 hZ ?_;refine aL 7 hZ ?_;refine aL 8 hZ ?_;refine aL 9 hZ ?_;refine aL 10 hZ ?_;refine aL 11 hZ ?_;refine aL 12 hZ ?_;refine aL 13 hZ ?_;refine aL 14 hZ ?_;refine aL 15 hZ ?_;refine aL 16 hZ ?_;refine aL 17 hZ ?_;refine aL 18 hZ ?_;refine wpAnyH_done aC ?_ _;have HB2:=dA HBD hb2;clear hb2;go_wp2_with fail;go_ret;rw[HR.o];exact⟨rfl,HB2.o⟩
theorem KL {w:World} {v:bN} {b:Bk} (hb:bV w v b) (known self:Int) (hk:known<=b.entries.length) (m:Nd) (hp:bW m.op m.a m.b=true) :
 Calls Tryz.prog 54 #[.agg #[.int .i64 b.vars,O v.Ao v.no v.co,O v.Ae v.ne v.ce,.int .i64 b.nat,O v.Ap v.np v.cp,.int .i64 known,.int .i64 self],.agg #[.int .i64 m.op,.int .i64 m.a,.int .i64 m.b]] w (fP (bZ b known self m) w):=by
 by_cases h1:m.op=3
 · exact G3 hb known self hk m hp h1
 by_cases h2:m.op=8
 · exact C8 hb known self hk m hp h2
 by_cases h3:m.op=9
 · exact KN hb known self hk m hp h3
 by_cases h4:m.op=11
 · exact C9 hb known self hk m hp h4
 by_cases h5:m.op=10
 · exact G4 hb known self hk m hp h5
 exact KO hb known self hk m hp ⟨h1,h2,h3,h4,h5⟩
theorem x9 {w:World} {v:bN} {b:Bk} (hb:bV w v b) (known self:Int) (hk:known<=b.entries.length) {A:Option Addr} {n c:Nat} {l:List Nd} (ht:bB w A n c l) (below:Int) :
 Calls Tryz.prog 32 #[.agg #[.int .i64 b.vars,O v.Ao v.no v.co,O v.Ae v.ne v.ce,.int .i64 b.nat,O v.Ap v.np v.cp,.int .i64 known,.int .i64 self],O A n c,.int .i64 below] w (iK (fM b known self l below) w):=by
 have hlen:=ht.len;have hfew:=ht.few;have HS:=aB (fun (w':World) (h:Below w.heap.size w w')=>dM (ht.below h));have HBW:=aB (fun (w':World) (h:Below w.heap.size w w')=>GE (ht.below h) below);have HT:=aB (fun (w':World) (h:Below w.heap.size w w')=>ht.below h);have HND:=aB (fun (w':World) (h:Below w.heap.size w w') (m:Nd) (hp:bW m.op m.a m.b=true)=>KL (hb.below h) known self hk m hp);have HPL:=aB (fun (h:bC l=0)=>BD h);have HR:Hid (fM b known self l below=if bC l ≠ 0 then bC l else if fZ l below=false then 8 else if l.all (bZ b known self) then 0 else 8):=aB rfl;generalize fM b known self l below=res at *;obtain⟨Ao,no,co,Ae,ne,ce,Ap,np,cp⟩:=v;simp only at HND ⊢;clear ht hb hk;generalize b.vars=bv at *;generalize b.nat=bn at *;have HB0:=aB (aP w (Z #[.int .i64 bv,O Ao no co,O Ae ne ce,.int .i64 bn,O Ap np cp,.int .i64 known,.int .i64 self] 80));have HK0:=aB (aS.new w 80 #[.int .i64 bv,O Ao no co,O Ae ne ce,.int .i64 bn,O Ap np cp,.int .i64 known,.int .i64 self]);obtain⟨sh,hsh⟩ : ∃sh,sh=bC l:=⟨_,rfl⟩;rw[<-hsh] at HS HPL HR;clear hsh;by_cases h0:sh=0;case neg =>
  have hb1:(sh != 0)=true:=by simpa using h0
  rw[if_pos h0] at HR;clear h0 HPL;go_in;go_wp2_with fail;refine (HS.o _ HB0.o).mono ?_;rintro e w2 ⟨rfl,hb2⟩;have HB2:=dA HB0 hb2;clear hb2;go_wp2_with fail;go_ret;rw[HR.o];exact⟨rfl,HB2.o⟩
 subst h0;rw[if_neg aD] at HR;have HPN:=aB (HPL.o rfl);clear HPL;obtain⟨bb,hbb⟩ : ∃bb,bb=fZ l below:=⟨_,rfl⟩;rw[<-hbb] at HBW HR;clear hbb;cases bb with
 | false =>
  rw[if_pos rfl] at HR;go_in;go_wp2_with fail;refine (HS.o _ HB0.o).mono ?_;rintro e w2 ⟨rfl,hb2⟩;have HB2:=dA HB0 hb2;clear hb2;go_wp2_with fail;refine (HBW.o _ HB2.o).mono ?_;rintro e w3 ⟨rfl,hb3⟩;have HB3:=dA HB2 hb3;clear hb3;go_wp2_with fail;go_ret;rw[HR.o];exact⟨rfl,HB3.o⟩
 | true =>
  rw[if_neg aD] at HR;go_in;go_wp2_with fail;refine (HS.o _ HB0.o).mono ?_;rintro e w2 ⟨rfl,hb2⟩;have HB2:=dA HB0 hb2;have HK2:=aB (aS.below HK0.o hb2 aD);clear hb2;go_wp2_with fail;refine (HBW.o _ HB2.o).mono ?_;rintro e w3 ⟨rfl,hb3⟩;have HB3:=dA HB2 hb3;have HK3:=gK HK2 hb3;clear hb3;go_wp2_with fail;go_loopw [21] (fun iv wr=>∃i:Nat,iv=.int .i64 (i:Int)/\i<=n/\Hid ((l.take i).all (bZ b known self)=true)/\Hid (aS wr w.heap.size 80 #[.int .i64 bv,O Ao no co,O Ae ne ce,.int .i64 bn,O Ap np cp,.int .i64 known,.int .i64 self])/\Hid (Below w.heap.size w wr)) (fun i _=>n-(intOf i).toNat)
  case atStart=>exact⟨0,rfl,by omega,aB aD,HK3,HB3⟩
  case round =>
   obtain⟨i,rfl,hi,hall,hblk,hbw⟩:=hrel;by_cases hlt:i<n;rotate_left
   · have hib:decide ((i:Int)<(n:Int))=false:=decide_eq_false aA;have HRF:Hid (res=0):=aB (by
      have:=hall.o;rw[List.take_of_length_le aA] at this;rw[HR.o,if_pos this])
     go_wp2_with fail;go_ret;rw[HRF.o];exact⟨rfl,hbw.o⟩
   have hib:decide ((i:Int)<(n:Int))=true:=decide_eq_true aA;obtain⟨b',off,rfl,hb',hc0,hc1,hc2⟩:=(HT.o wr hbw.o).at_ hlt;have hil:i<l.length:=aA;obtain⟨m,hm⟩ : ∃m,m=bD l i:=⟨_,rfl⟩;have hme:m=l[i]:=by rw[hm,jN hil]
   rw[<-hm] at hc0 hc1 hc2;have htk:l.take (i+1)=l.take i++[m]:=by rw[List.take_succ_eq_append_getElem hil,hme]
   have hmp:=HPN.o m (by rw[hme];exact List.getElem_mem _);have HBa:=aB (hbw.o.trans ((aP wr (Z #[.int .i64 m.op,.int .i64 m.a,.int .i64 m.b] 40)).mono hbw.o.size));have HKa:=aB (hblk.o.alloc (Z #[.int .i64 m.op,.int .i64 m.a,.int .i64 m.b] 40));have zc:=aS.cell hblk.o;have hbl:=hblk.o.lt;have HC:=aB (HND.o _ HBa.o m hmp);obtain⟨r,hr⟩ : ∃r,r=bZ b known self m:=⟨_,rfl⟩;rw[<-hr] at HC;cases r with
   | false =>
    have HRF:Hid (res=8):=aB (by
     rw[HR.o,if_neg];rw[List.all_eq_true];intro h;have:=h m (by rw[hme];exact List.getElem_mem _);rw[<-hr] at this;cases this)
    clear hr hm hme htk hmp;generalize m.op=mo at *;generalize m.a=ma at *;generalize m.b=mb at *;go_wp2_with fail;refine (HC.o).mono ?_;rintro e w5 ⟨rfl,hb5⟩;have HB5:=dA HBa hb5;clear hb5;go_wp2_with fail;go_ret;rw[HRF.o];exact⟨rfl,HB5.o⟩
   | true =>
    have HAN:Hid ((l.take (i+1)).all (bZ b known self)=true):=aB (by rw[htk,List.all_append,hall.o];simp[<-hr]);clear hr hm hme htk hmp;generalize m.op=mo at *;generalize m.a=ma at *;generalize m.b=mb at *;go_wp2_with fail;refine (HC.o).mono ?_;rintro e w5 ⟨rfl,hb5⟩;have HB5:=dA HBa hb5;have HK5:=gK HKa hb5;clear hb5 zc;go_wp2_with fail;go_roundw
    case rel=>exact⟨i+1,by go_num,by omega,HAN,HK5,HB5⟩
    case measure=>simp[intOf];omega
theorem oY {w:World} {v:bN} {b:Bk} (hb:bV w v b) (known self:Int) (hk:known<=b.entries.length) {A:Option Addr} {n c:Nat} {ls:List (List Nd)} (ht:dO w A n c ls) (below step:Int) (hst:step=0\/step=1) (hlo:0<=below) (hhi:below<=1000000) (hn:n<=100000) :
 Calls Tryz.prog 87 #[.agg #[.int .i64 b.vars,O v.Ao v.no v.co,O v.Ae v.ne v.ce,.int .i64 b.nat,O v.Ap v.np v.cp,.int .i64 known,.int .i64 self],O A n c,.int .i64 below,.int .i64 step] w (iK (cZ b known self step ls below) w):=by
 have hlen:=ht.len;have HRW:=aB (fun (w':World) (A':Option Addr) (n' c':Nat) (l:List Nd) (be:Int) (h:Below w.heap.size w w') (h1:bB w' A' n' c' l)=>x9 (hb.below h) known self hk h1 be);have HT:=aB (fun (w':World) (h:Below w.heap.size w w')=>ht.below h);obtain⟨res,hres⟩ : ∃res,res=cZ b known self step ls below:=⟨_,rfl⟩;rw[<-hres];have HRES:=aB hres;obtain⟨Ao,no,co,Ae,ne,ce,Ap,np,cp⟩:=v;simp only at HRW ⊢;clear ht hb hk hres;generalize b.vars=bv at *;generalize b.nat=bn at *;have HB0:=aB (aP w (Z #[.int .i64 bv,O Ao no co,O Ae ne ce,.int .i64 bn,O Ap np cp,.int .i64 known,.int .i64 self] 80));have HK0:=aB (aS.new w 80 #[.int .i64 bv,O Ao no co,O Ae ne ce,.int .i64 bn,O Ap np cp,.int .i64 known,.int .i64 self]);have hs0:0<=step/\step<=1:=aA;obtain⟨hs1,hs2⟩:=hs0;clear hst;go_in;go_wp2_with fail;go_loopw [2,14] (fun bv' iv wr=>∃(i:Nat) (be:Int),bv'=.int .i64 be/\iv=.int .i64 (i:Int)/\i<=n/\0<=be/\be<=below+i/\Hid (cZ b known self step (ls.drop i) be=res)/\Hid (aS wr w.heap.size 80 #[.int .i64 bv,O Ao no co,O Ae ne ce,.int .i64 bn,O Ap np cp,.int .i64 known,.int .i64 self])/\Hid (Below w.heap.size w wr)) (fun _ i _=>n-(intOf i).toNat)
 case atStart=>exact⟨0,below,rfl,rfl,by omega,by omega,by omega,aB HRES.o.symm,HK0,HB0⟩
 case round =>
  obtain⟨i,be,rfl,rfl,hi,hbe0,hbe1,hrs,hblk,hbw⟩:=hrel;by_cases hlt:i<n;rotate_left
  · have hib:decide ((i:Int)<(n:Int))=false:=decide_eq_false aA;have HRF:Hid (res=0):=aB (by
     have:=hrs.o;rw[List.drop_of_length_le aA] at this;exact this.symm)
    go_wp2_with fail;go_ret;rw[HRF.o];exact⟨rfl,hbw.o⟩
  have hib:decide ((i:Int)<(n:Int))=true:=decide_eq_true aA;obtain⟨b',off,A',n',c',rfl,hb',hc0,ht'⟩:=(HT.o wr hbw.o).at_ hlt;have hil:i<ls.length:=aA;have hrs2:=hrs.o;rw[List.drop_eq_getElem_cons hil,show ls[i]=ls.getD i [] from by rw[List.getD_eq_getElem?_getD,List.getElem?_eq_getElem hil];rfl] at hrs2;simp only[cZ] at hrs2;have HC:=aB (HRW.o wr A' n' c' _ be hbw.o ht');generalize hre:fM b known self (ls.getD i []) be=re at *;have zc:=aS.cell hblk.o;clear hre ht';by_cases h0:re=0
  · rw[if_neg (by simp[h0])] at hrs2;have HRS2:=aB hrs2;subst h0;clear hrs2;go_wp2_with fail;refine (HC.o).mono ?_;rintro e w5 ⟨rfl,hb5⟩;have HB5:=dA hbw hb5;have HK5:=gK hblk hb5;clear hb5 zc;go_wp2_with fail;go_roundw
    case rel=>exact⟨i+1,be+step,rfl,by go_num,by omega,by omega,by omega,HRS2,HK5,HB5⟩
    case measure=>simp[intOf];omega
  rw[if_pos h0] at hrs2;have HRS2:=aB hrs2;have hb1:(re != 0)=true:=by simpa using h0
  clear hrs2 h0;go_wp2_with fail;refine (HC.o).mono ?_;rintro e w5 ⟨rfl,hb5⟩;have HB5:=dA hbw hb5;clear hb5 zc;go_wp2_with fail;go_ret;rw[<-HRS2.o];exact⟨rfl,HB5.o⟩
end Go.Proofs.YtjllmblbbgojbaaGreat
