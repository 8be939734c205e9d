/- Merged: RowsD, CopyT, CopyD. -/
import Derived.Test.YtplecfbdchmogaaGreatDBase
import Derived.Test.YtplecfbdchmogaaGreatDBooks
import Derived.Test.YtplecfbdchmogaaGreatDLeafs
import Derived.Test.YtplecfbdchmogaaGreatDFines
namespace Go.Proofs.YtplecfbdchmogaaGreat
open Go.Value renaming slice → O
open Option renaming none → X, some → Y
section
open Go.RowKit
structure cW (R:Nat->Prop) (w:World) (A:Option Addr) (n c:Nat) (ls:List (List Nd)):Prop where
 len:ls.length=n
 few:n<=5864062014805
 mem:0<n->∃ b off,A=Y ⟨b,off,X⟩/\R b/\∀ k,k<n->∃ A' n' c',w.cell? ⟨b,off+k,X⟩=Y (O A' n' c')/\bJ R w A' n' c' (ls.getD k [])
theorem cW.keep {R R':Nat->Prop} {w w':World} {A:Option Addr} {n c:Nat} {ls:List (List Nd)} (h:cW R w A n c ls) (hR:∀ b,R b->R' b/\∀ o,w'.cell? ⟨b,o,X⟩=w.cell? ⟨b,o,X⟩):cW R' w' A n c ls:=by
 refine ⟨h.len,h.few,fun hn => ?_⟩;obtain ⟨b,off,e,hb,hk⟩:=h.mem hn;refine ⟨b,off,e,(hR b hb).1,fun k hkn => ?_⟩;obtain ⟨A',n',c',hc,ht⟩:=hk k hkn;exact ⟨A',n',c',by rw [(hR b hb).2];exact hc,ht.keep hR⟩
def cV (S:Nat->Prop) (w:World):List Value->List (List Nd)->Prop
 | [],[]=>True
 | x::xs,l::ls=>(∃ A n c,x=O A n c/\bJ S w A n c l)/\cV S w xs ls
 | _,_=>False
theorem cV.keep {S S':Nat->Prop} {w w':World} (hS:∀ b,S b->S' b/\∀ o,w'.cell? ⟨b,o,X⟩=w.cell? ⟨b,o,X⟩) : ∀ {xs:List Value} {ls:List (List Nd)},cV S w xs ls->cV S' w' xs ls
 | [],[],_=>trivial
 | [],_::_,h=>h.elim
 | _::_,[],h=>h.elim
 | x::xs,l::ls,h=>by
  obtain ⟨⟨A,n,c,e,ht⟩,h2⟩:=h;exact ⟨⟨A,n,c,e,ht.keep hS⟩,h2.keep hS⟩
theorem cV.add {S:Nat->Prop} {w:World} {A:Option Addr} {n c:Nat} {m:List Nd} (ht:bJ S w A n c m) : ∀ {xs:List Value} {ls:List (List Nd)},cV S w xs ls->cV S w (xs++[O A n c]) (ls++[m])
 | [],[],_=>⟨⟨A,n,c,rfl,ht⟩,trivial⟩
 | [],_::_,h=>h.elim
 | _::_,[],h=>h.elim
 | _::_,_::_,h=>⟨h.1,h.2.add ht⟩
theorem cV.at_ {S:Nat->Prop} {w:World} : ∀ {xs:List Value} {ls:List (List Nd)} (k:Nat),cV S w xs ls->k<ls.length->∃ A n c,xs[k]? = Y (O A n c)/\bJ S w A n c (ls.getD k [])
 | [],[],_,_,hk=>absurd hk (by simp)
 | [],_::_,_,h,_=>h.elim
 | _::_,[],_,h,_=>h.elim
 | x::xs,l::ls,0,h,_=>by
  obtain ⟨⟨A,n,c,e,ht⟩,_⟩:=h;exact ⟨A,n,c,by simp [e],ht⟩
 | x::xs,l::ls,k+1,h,hk=>by
  obtain ⟨A,n,c,e,ht⟩:=cV.at_ k h.2 (by simpa using hk);exact ⟨A,n,c,by simpa using e,by simpa using ht⟩
theorem G4 {w:World} {base n c:Nat} {A:Option Addr} {xs:List Value} {ls:List (List Nd)} {S:Nat->Prop} (h:w.ownsRow base 28 1 (O A n c) n xs) (hn:n=ls.length) (hf:n<=5864062014805) (hr:cV S w xs ls) (hS:∀ b,S b->b<w.heap.size):cW (· < w.heap.size) w A n c ls:=by
 refine ⟨hn.symm,hf,fun hpos => ?_⟩;have h0:=h;obtain ⟨_,hcase⟩:=h;rcases hcase with ⟨_,h2⟩ | ⟨g,cap',cur,hv,hg,hh,_⟩
 · omega
 injection hv with e1 e2 e3;subst e1;refine ⟨g,0,rfl,(aC h0 rfl).2.1,fun k hk => ?_⟩;obtain ⟨A',n',c',hx,ht⟩:=hr.at_ k aA;refine ⟨A',n',c',?_,ht.keep fun b hb=>⟨hS b hb,fun _=>rfl⟩⟩;rw [Nat.zero_add,h0.cellAt k aA];exact hx
def dR (B:Nat) (w:World) (v:Value) (b:Nat):Prop:=B<=b/\b<w.heap.size/\v.ownBlock ≠ Y b
theorem pF {w:World} {base n c:Nat} {A:Option Addr} {xs:List Value} {ls:List (List Nd)} {S R:Nat->Prop} (h:w.ownsRow base 28 1 (O A n c) n xs) (hn:n=ls.length) (hf:n<=5864062014805) (hr:cV S w xs ls) (hS:∀ b,S b->R b) (hv:∀ g,(Value.slice A n c).ownBlock=Y g->R g):cW R w A n c ls:=by
 refine ⟨hn.symm,hf,fun hpos => ?_⟩;have h0:=h;obtain ⟨_,hcase⟩:=h;rcases hcase with ⟨_,h2⟩ | ⟨g,cap',cur,hv2,hg,hh,_⟩
 · omega
 injection hv2 with e1 e2 e3;subst e1;refine ⟨g,0,rfl,hv g rfl,fun k hk => ?_⟩;obtain ⟨A',n',c',hx,ht⟩:=hr.at_ k aA;refine ⟨A',n',c',?_,ht.keep fun b hb=>⟨hS b hb,fun _=>rfl⟩⟩;rw [Nat.zero_add,h0.cellAt k aA];exact hx
end
section
open Go.RowKit
end
section
open Go.RowKit
structure oW (R:Nat->Prop) (w:World) (A:Option Addr) (n c:Nat) (cs:List Ct):Prop where
 len:cs.length=n
 few:n<=5864062014805
 mem:0<n->∃ b off,A=Y ⟨b,off,X⟩/\R b/\∀ k,k<n->∃ A1 n1 c1 A2 n2 c2,w.cell? ⟨b,off+k*2,X⟩=Y (O A1 n1 c1)/\w.cell? ⟨b,off+k*2+1,X⟩=Y (O A2 n2 c2)/\cW R w A1 n1 c1 (cs.getD k default).args/\cW R w A2 n2 c2 (cs.getD k default).outs
theorem oW.keep {R R':Nat->Prop} {w w':World} {A:Option Addr} {n c:Nat} {cs:List Ct} (h:oW R w A n c cs) (hR:∀ b,R b->R' b/\∀ o,w'.cell? ⟨b,o,X⟩=w.cell? ⟨b,o,X⟩):oW R' w' A n c cs :=
 ⟨h.len,h.few,fun hn=>by
  obtain ⟨b,off,e,hb,hm⟩:=h.mem hn;refine ⟨b,off,e,(hR b hb).1,fun k hk => ?_⟩;obtain ⟨A1,n1,c1,A2,n2,c2,h1,h2,h3,h4⟩:=hm k hk;exact ⟨A1,n1,c1,A2,n2,c2,((hR b hb).2 _).trans h1,((hR b hb).2 _).trans h2,h3.keep hR,h4.keep hR⟩⟩
structure FA (R:Nat->Prop) (w:World) (v:eQ) (x:En):Prop where
 sort:bJ R w v.As v.ns v.cs x.sort
 params:cW R w v.Ap v.np v.cp x.params
 indices:cW R w v.Ai v.ni v.ci x.indices
 ctors:oW R w v.Ac v.nc v.cc x.ctors
 type:bJ R w v.At v.nt v.ct x.type
 body:bJ R w v.Ab v.nb v.cb x.body
theorem FA.keep {R R':Nat->Prop} {w w':World} {v:eQ} {x:En} (h:FA R w v x) (hR:∀ b,R b->R' b/\∀ o,w'.cell? ⟨b,o,X⟩=w.cell? ⟨b,o,X⟩):FA R' w' v x :=
 ⟨h.sort.keep hR,h.params.keep hR,h.indices.keep hR,h.ctors.keep hR,h.type.keep hR,h.body.keep hR⟩
theorem cW.rowsV {R:Nat->Prop} {w:World} {A:Option Addr} {n c:Nat} {ls:List (List Nd)} (h:cW R w A n c ls) (hR:∀ b,R b->b<w.heap.size):cE w A n c ls:=by
 have h2:=h.keep (R':=(· < w.heap.size)) (w':=w) fun b hb=>⟨hR b hb,fun _=>rfl⟩;exact ⟨h2.len,h2.few,h2.mem⟩
theorem oW.ctsV {R:Nat->Prop} {w:World} {A:Option Addr} {n c:Nat} {cs:List Ct} (h:oW R w A n c cs) (hR:∀ b,R b->b<w.heap.size):nW w A n c cs :=
 ⟨h.len,h.few,fun hn=>by
  obtain ⟨b,off,e,hb,hm⟩:=h.mem hn;refine ⟨b,off,e,hR b hb,fun k hk => ?_⟩;obtain ⟨A1,n1,c1,A2,n2,c2,h1,h2,h3,h4⟩:=hm k hk;exact ⟨A1,n1,c1,A2,n2,c2,h1,h2,h3.rowsV hR,h4.rowsV hR⟩⟩
theorem FA.enC {R:Nat->Prop} {w:World} {v:eQ} {x:En} (h:FA R w v x) (hR:∀ b,R b->b<w.heap.size):p9 w v x :=
 have hk:∀ b,R b->b<w.heap.size/\∀ o,w.cell? ⟨b,o,X⟩=w.cell? ⟨b,o,X⟩:=fun b hb=>⟨hR b hb,fun _=>rfl⟩
 ⟨h.sort.keep hk,h.params.rowsV hR,h.indices.rowsV hR,h.ctors.ctsV hR,h.type.keep hk,h.body.keep hk⟩
def vM (R:Nat->Prop) (w:World):List Value->List Ct->Prop
 | [],[]=>True
 | v1::v2::xs,c::cs=>(∃ A1 n1 c1 A2 n2 c2,v1=O A1 n1 c1/\v2=O A2 n2 c2/\cW R w A1 n1 c1 c.args/\cW R w A2 n2 c2 c.outs)/\vM R w xs cs
 | _,_=>False
theorem vM.keep {R R':Nat->Prop} {w w':World} (hR:∀ b,R b->R' b/\∀ o,w'.cell? ⟨b,o,X⟩=w.cell? ⟨b,o,X⟩) : ∀ {xs:List Value} {cs:List Ct},vM R w xs cs->vM R' w' xs cs
 | [],[],_=>trivial
 | [],_::_,h=>h.elim
 | [_],_,h=>by cases h
 | _::_::_,[],h=>h.elim
 | v1::v2::xs,c::cs,h=>by
  obtain ⟨⟨A1,n1,c1,A2,n2,c2,e1,e2,h1,h2⟩,h3⟩:=h;exact ⟨⟨A1,n1,c1,A2,n2,c2,e1,e2,h1.keep hR,h2.keep hR⟩,h3.keep hR⟩
theorem vM.add {R:Nat->Prop} {w:World} {A1 A2:Option Addr} {n1 c1 n2 c2:Nat} {c:Ct} (h1:cW R w A1 n1 c1 c.args) (h2:cW R w A2 n2 c2 c.outs) : ∀ {xs:List Value} {cs:List Ct},vM R w xs cs->vM R w (xs++[O A1 n1 c1,O A2 n2 c2]) (cs++[c])
 | [],[],_=>⟨⟨A1,n1,c1,A2,n2,c2,rfl,rfl,h1,h2⟩,trivial⟩
 | [],_::_,h=>h.elim
 | [_],_,h=>by cases h
 | _::_::_,[],h=>h.elim
 | _::_::_,_::_,h=>⟨h.1,h.2.add h1 h2⟩
theorem vM.at_ {R:Nat->Prop} {w:World} : ∀ {xs:List Value} {cs:List Ct} (k:Nat),vM R w xs cs->k<cs.length->∃ A1 n1 c1 A2 n2 c2,xs[k*2]? = Y (O A1 n1 c1)/\xs[k*2+1]? = Y (O A2 n2 c2)/\cW R w A1 n1 c1 (cs.getD k default).args/\cW R w A2 n2 c2 (cs.getD k default).outs
 | [],[],_,_,hk=>absurd hk (by simp)
 | [],_::_,_,h,_=>h.elim
 | [_],_,_,h,_=>by cases h
 | _::_::_,[],_,h,_=>h.elim
 | v1::v2::xs,c::cs,0,h,_=>by
  obtain ⟨⟨A1,n1,c1,A2,n2,c2,rfl,rfl,h1,h2⟩,_⟩:=h;exact ⟨A1,n1,c1,A2,n2,c2,by simp,by simp,by simpa using h1,by simpa using h2⟩
 | v1::v2::xs,c::cs,k+1,h,hk=>by
  obtain ⟨A1,n1,c1,A2,n2,c2,e1,e2,h1,h2⟩:=vM.at_ k h.2 (by simpa using hk);rw [show (k+1)*2=k*2+1+1 from by omega];exact ⟨A1,n1,c1,A2,n2,c2,by simpa using e1,by simpa using e2,by simpa using h1,by simpa using h2⟩
theorem dY {w:World} {base j d z g:Nat} {e:TypeId} {xs:List Value} (h:w.ownsRow base e z (O (Y ⟨g,0,X⟩) j d) j xs) {i:Nat} {u:Value} (hu:xs[i]? = Y u):w.cell? ⟨g,0+i,X⟩=Y u:=by
 have h1:=World.ownsRow.cells h (g:=g) rfl i u hu;have ea:(⟨g,0,X⟩:Addr).add i=⟨g,0+i,X⟩:=by unfold Addr.add;split<;>simp_all
 rw [ea] at h1;exact h1
theorem BZ {R S:Nat->Prop} {w:World} {base n c:Nat} {A:Option Addr} {xs:List Value} {cs:List Ct} (h:w.ownsRow base 66 2 (O A n c) n xs) (hn:cs.length=n) (hf:n<=5864062014805) (hr:vM S w xs cs) (hS:∀ b,S b->R b) (hv:∀ g,(Value.slice A n c).ownBlock=Y g->R g):oW R w A n c cs:=by
 refine ⟨hn,hf,fun hpos => ?_⟩;have h0:=h;rcases h.2 with ⟨_,h2⟩ | ⟨g,cap',cur,hv2,hg,hh,_⟩
 · omega
 injection hv2 with e1 e2 e3;subst e1;refine ⟨g,0,rfl,hv g rfl,fun k hk => ?_⟩;obtain ⟨A1,n1,c1,A2,n2,c2,x1,x2,h1,h2⟩:=hr.at_ k aA;have hk2:∀ b,S b->R b/\∀ o,w.cell? ⟨b,o,X⟩=w.cell? ⟨b,o,X⟩:=fun b hb=>⟨hS b hb,fun _=>rfl⟩;exact ⟨A1,n1,c1,A2,n2,c2,dY h0 x1,dY h0 x2,h1.keep hk2,h2.keep hk2⟩
def qA (R:Nat->Prop) (w:World):List En->List Value->Prop
 | [],xs=>xs=[]
 | x::es,xs=>∃ (v:eQ) (ys:List Value),xs=[.int .i64 x.kind,O v.As v.ns v.cs,O v.Ap v.np v.cp,O v.Ai v.ni v.ci,O v.Ac v.nc v.cc,O v.At v.nt v.ct,O v.Ab v.nb v.cb]++ys/\FA R w v x/\qA R w es ys
set_option linter.unusedVariables false in
theorem qA.keep {R R':Nat->Prop} {w w':World} (hR:∀ b,R b->R' b/\∀ o,w'.cell? ⟨b,o,X⟩=w.cell? ⟨b,o,X⟩) : ∀ (es:List En) (xs:List Value),qA R w es xs->qA R' w' es xs
 | [],_,h=>h
 | x::es,xs,⟨v,ys,e,hq,h2⟩=>⟨v,ys,e,hq.keep hR,qA.keep hR es ys h2⟩
theorem qA.add {R:Nat->Prop} {w:World} {v:eQ} {x:En} (hq:FA R w v x) : ∀ (es:List En) (xs:List Value),qA R w es xs->qA R w (es++[x]) (xs++[.int .i64 x.kind,O v.As v.ns v.cs,O v.Ap v.np v.cp,O v.Ai v.ni v.ci,O v.Ac v.nc v.cc,O v.At v.nt v.ct,O v.Ab v.nb v.cb])
 | [],xs,h=>by
  have:xs=[]:=h;subst this;exact ⟨v,[],by simp,hq,rfl⟩
 | y::es,xs,⟨u,ys,e,hq2,h2⟩=>⟨u,ys++[.int .i64 x.kind,O v.As v.ns v.cs,O v.Ap v.np v.cp,O v.Ai v.ni v.ci,O v.Ac v.nc v.cc,O v.At v.nt v.ct,O v.Ab v.nb v.cb],by rw [e,List.append_assoc],hq2,qA.add hq es ys h2⟩
theorem qA.at_ {R:Nat->Prop} {w:World} : ∀ (es:List En) (xs:List Value) (k:Nat),qA R w es xs->k<es.length->∃ v:eQ,xs[k*7]? = Y (.int .i64 (es.getD k default).kind)/\xs[k*7+1]? = Y (O v.As v.ns v.cs)/\xs[k*7+2]? = Y (O v.Ap v.np v.cp)/\xs[k*7+3]? = Y (O v.Ai v.ni v.ci)/\xs[k*7+4]? = Y (O v.Ac v.nc v.cc)/\xs[k*7+5]? = Y (O v.At v.nt v.ct)/\xs[k*7+6]? = Y (O v.Ab v.nb v.cb)/\FA R w v (es.getD k default)
 | [],_,_,_,hk=>absurd hk (by simp)
 | x::es,xs,0,⟨v,ys,e,hq,h2⟩,hk=>by
  subst e;exact ⟨v,by simp,by simp,by simp,by simp,by simp,by simp,by simp,by simpa using hq⟩
 | x::es,xs,k+1,⟨v,ys,e,hq,h2⟩,hk=>by
  obtain ⟨u,e0,e1,e2,e3,e4,e5,e6,hq2⟩:=qA.at_ es ys k h2 (by simpa using hk);subst e;rw [show (k+1)*7=k*7+1+1+1+1+1+1+1 from by omega];exact ⟨u,by simpa using e0,by simpa using e1,by simpa using e2,by simpa using e3,by simpa using e4,by simpa using e5,by simpa using e6,by simpa using hq2⟩
end
end Go.Proofs.YtplecfbdchmogaaGreat
