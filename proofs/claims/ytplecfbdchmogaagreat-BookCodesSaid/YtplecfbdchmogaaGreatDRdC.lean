/- Merged: RdB, ProgP, RdC. -/
import Derived.Test.YtplecfbdchmogaaGreatDOctO
import Derived.Test.YtplecfbdchmogaaGreatDCopyD
import Derived.Test.YtplecfbdchmogaaGreatDRdP
namespace Go.Proofs.YtplecfbdchmogaaGreat
open Go.Value renaming int → O, slice → Z
open Go.IntKind renaming i64 → X
open Option renaming none → Y, some → I
section
open Go.Lib (hid)
set_option maxHeartbeats 2000000
set_option maxRecDepth 100000
open Go.RowKit
structure Rk where
 R:Nat->Prop
 g:Nat
 h:Nat
 n:Nat
 c:Nat
 A:Option Addr
 bs:List Nat
structure kC (w0:World) (κ:Rk) (s:Rd) (w:World):Prop where
 st:∃ k,nG κ.R w0 κ.g κ.A κ.n κ.c κ.bs k s.err w/\s.rest=κ.bs.drop k
 blk:aE w κ.h 90 #[.pointer (I ⟨κ.g,0,Y⟩),.bool s.odd]
 ne:κ.h ≠ κ.g
 ge:w0.heap.size<=κ.h
 off:∀ q,κ.R q->q ≠ κ.h
abbrev nV (κ:Rk) (w w':World):Prop:=aG (fun q=>q=κ.g\/q=κ.h) Y w w'
def kB (w0:World) (κ:Rk) (s:Rd) (w w':World):Prop:=nV κ w w'/\kC w0 κ s w'
section
variable {w0 w w1 w' : World} {κ : Rk} {s q : Rd}
theorem kC.g_lt (h:kC w0 κ s w):κ.g<w.heap.size:=by
 obtain ⟨k,h1,_⟩:=h.st;exact h1.lt
theorem kC.h_lt (h:kC w0 κ s w):κ.h<w.heap.size:=h.blk.lt
theorem kC.size (h:kC w0 κ s w):w0.heap.size<=w.heap.size:=by
 obtain ⟨k,h1,_⟩:=h.st;exact h1.bel.size
theorem kC.R_lt (h:kC w0 κ s w) : ∀ q,κ.R q->q<w.heap.size:=fun q hq=>by
 obtain ⟨k,h1,_⟩:=h.st;exact (h1.off q hq).1
theorem kC.rd (h:kC w0 κ s w) : ∃ k,nG κ.R w0 κ.g κ.A κ.n κ.c κ.bs k s.err w/\s=⟨κ.bs.drop k,s.err,s.odd⟩:=by
 obtain ⟨k,h1,h2⟩:=h.st;exact ⟨k,h1,by rw [<-h2]⟩
theorem kC.below (h:kC w0 κ s w) (hb:Below w.heap.size w w'):kC w0 κ s w':=by
 obtain ⟨k,h1,h2⟩:=h.st;exact ⟨⟨k,h1.below hb,h2⟩,h.blk.below hb h.blk.lt,h.ne,h.ge,h.off⟩
theorem nV.trans_ (h:nV κ w w1) (h2:nV κ w1 w'):nV κ w w':=aG.trans (row':=Y) h h2 (fun _ e=>by cases e)
theorem nV.below (hb:Below w.heap.size w w'):nV κ w w':=aG.of_below hb
theorem LV (h:aG (fun q=>q=κ.g) Y w w'):nV κ w w':=h.mono fun _ e=>Or.inl e
theorem kC.step (h:kC w0 κ s w) (he:KC κ.R w0 κ.g κ.A κ.n κ.c κ.bs q w w') (ho:q.odd=s.odd):kB w0 κ q w w':=by
 obtain ⟨hm,k,z,h1,h2,h3⟩:=he;refine ⟨LV hm,⟨⟨k,by rw [h3];exact h1,h2⟩,?_,h.ne,h.ge,h.off⟩⟩;rw [ho];exact h.blk.moved hm h.ne (by simp)
theorem jB {base sz m:Nat} {e:TypeId} {v:Value} {xs:List Value} (h:w.ownsRow base e sz v m xs) (hm:nV κ w w') (hg:κ.g<base) (hh:κ.h<base):w'.ownsRow base e sz v m xs:=by
 obtain ⟨h1,h2⟩:=h;refine ⟨h1,?_⟩;rcases h2 with h2 | ⟨b,cap,cur,hv,hb,hh2,r⟩
 · exact Or.inl h2
 subst hv;refine Or.inr ⟨b,cap,cur,rfl,hb,(hm.block b (Array.getElem?_eq_some_iff.1 hh2).1 ?_ (by simp)).trans hh2,r⟩;rintro (e | e)<;>omega
theorem kC.grown {base:Nat} {row:Option Nat} (h:kC w0 κ s w) (hg:w.grownBy w' row) (hne:∀ b,row=I b->base<=b) (hR:∀ q,κ.R q->q<base) (h1:κ.g<base) (h2:κ.h<base) (h0:w0.heap.size<=base):kC w0 κ s w':=by
 obtain ⟨k,hk,hr⟩:=h.st;exact ⟨⟨k,hk.grown hg hne hR h1 h0,hr⟩,h.blk.grown hg (fun e=>by have:=hne _ e.symm;omega),h.ne,h.ge,h.off⟩
theorem iP {row:Option Nat} (hm:nV κ w w1) (hg:w1.grownBy w' row) (hne:∀ b,row=I b->w.heap.size<=b):nV κ w w':=aG.trans (row':=row) hm (aG.of_grown hg) (fun b e=>Or.inr (hne b e))
end
def L6 (w0:World) (κ:Rk) (r:Int×Rd) (w:World) (e:Ending) (w':World):Prop:=e=.returned (O X r.1)/\kB w0 κ r.2 w w'
def MB (w0:World) (κ:Rk) (r:List Nd×Rd) (w:World) (e:Ending) (w':World):Prop:=∃ A n c,e=.returned (Z A n c)/\bJ (fresh w w') w' A n c r.1/\kB w0 κ r.2 w w'
theorem oS (s:Rd):(gM s).2.odd=s.odd:=bI _ s
section
variable {w0 w : World} {κ : Rk} {s : Rd}
theorem wV (h:kC w0 κ s w) (most:Nat) (hm:most<=100000000):Calls Tryz.prog 105 #[.pointer (I ⟨κ.g,0,Y⟩),O X (most:Int)] w (L6 w0 κ (aZ most s) w):=by
 obtain ⟨k,h1,h2⟩:=h.rd;have hc:=lZ h1 s.odd most hm;rw [<-h2] at hc;exact hc.mono fun e w' ⟨a,b⟩=>⟨a,h.step b (iU most s)⟩
theorem wW (h:kC w0 κ s w):Calls Tryz.prog 107 #[.pointer (I ⟨κ.g,0,Y⟩)] w (L6 w0 κ (gM s) w):=by
 obtain ⟨k,h1,h2⟩:=h.rd;have hc:=xF h1 s.odd;rw [<-h2] at hc;exact hc.mono fun e w' ⟨a,b⟩=>⟨a,h.step b (oS s)⟩
theorem kM (h:kC w0 κ s w):Calls Tryz.prog 54 #[.pointer (I ⟨κ.g,0,Y⟩)] w (MB w0 κ (bT s) w):=by
 obtain ⟨k,h1,h2⟩:=h.rd;have hc:=D5 h1 s.odd;rw [<-h2] at hc;exact hc.mono fun e w' ⟨a,A',n',c',b,d⟩=>⟨A',n',c',b,d,h.step a (eP s)⟩
theorem oJ (h:kC w0 κ s w):Calls Tryz.prog 55 #[.pointer (I ⟨κ.g,0,Y⟩)] w (fun e w'=>e=.returned (O X s.err)/\w'=w):=by
 obtain ⟨k,h1,h2⟩:=h.rd;exact GY h1
theorem fY (h:kC w0 κ s w):Calls Tryz.prog 47 #[.pointer (I ⟨κ.h,0,Y⟩)] w (L6 w0 κ (aZ 255 s) w):=by
 have HN:=hid (wV h 255 (by decide));have z0:=h.blk.cell 0;obtain ⟨q,hq⟩ : ∃ q,q=aZ 255 s:=⟨_,rfl⟩;rw [<-hq] at HN ⊢;obtain ⟨q1,q2⟩:=q;clear h hq;go_in;go_wp2_with fail
 refine (HN.o).mono ?_;rintro e w1 ⟨rfl,h1⟩;have H1:=hid h1;clear h1;go_wp2_with fail
 go_ret;exact ⟨rfl,H1.o⟩
theorem l8 (h:kC w0 κ s w):Calls Tryz.prog 106 #[.pointer (I ⟨κ.h,0,Y⟩)] w (fun e w'=>e=.returned (.bool (bK s))/\w=w'):=by
 have HN:=hid (oJ h);have z0:=h.blk.cell 0;have z1:=h.blk.cell 1;have HCB:Hid (bK s=(s.odd||s.err != 0)):=hid rfl;obtain ⟨o,ho⟩ : ∃ o,o=s.odd:=⟨_,rfl⟩;obtain ⟨z,hz⟩ : ∃ z,z=s.err:=⟨_,rfl⟩;rw [<-ho] at z1 HCB;rw [<-hz] at HN HCB;rw [HCB.o];clear h ho hz HCB;cases o;all_goals
  go_in;go_wp2_with fail
  first
   | (refine (HN.o).mono ?_;rintro e w1 ⟨rfl,rfl⟩;go_wp2_with fail)
   | skip
  go_ret;exact ⟨rfl,rfl⟩
end
end
section
open Go.RowKit
def bL.guard {α:Type} (d:α) (g:bL α):bL α:=fun s=>if s.odd then (d,s) else g s
theorem cJ.guard {α:Type} {g:bL α} {e:α->List Nat} {P:α->Prop} (hg:cJ g e P) (d:α):cJ (bL.guard d g) e P where
 stays:=⟨fun s h=>by
  unfold bL.guard;split
  · rfl
  · exact hg.stays.err s h,fun s h=>by
  unfold bL.guard;rw [if_pos h];exact h⟩
 form x r hx:=hg.form x r hx
 cut x p hx hp:=hg.cut x p hx hp
 back s hb he ho:=by
  unfold bL.guard at he ho ⊢;by_cases h:s.odd=true
  · rw [if_pos h] at ho;rw [h] at ho;cases ho
  rw [if_neg h] at he ho ⊢;exact hg.back s hb he ho
 bytes:=hg.bytes
structure Pg where
 book:Bk
 main:List Nd
 type:List Nd
def LW:Bk:=⟨0,[],[],0,[]⟩
def fA:Pg:=⟨LW,[],[]⟩
def pJ:bL (Int×List (Int×Int)×List Nd×List Nd) :=
 bL.seq (aZ 255) fun n=>bL.seq (bL.seq (bO bK 255 dF) fun ps=>bL.seq (bL.seq bT fun m=>bL.seq bT fun t=>bL.pure (m,t)) fun q=>bL.pure (ps,q)) fun q=>bL.pure (n,q)
def nP:bL (Int×List Nd×List En) :=
 bL.seq (aZ 255) fun v=>bL.seq (bO bK 255 eC) fun os=>bL.seq (bO bK 255 bW) fun es=>bL.pure (v,os,es)
def dH:bL Pg:=fun s =>
 let q:=(bL.seq nP fun h=>bL.seq (bL.guard (1,[],[],[]) pJ) fun t=>bL.pure (h,t)) s
 (⟨⟨q.1.1.1,q.1.1.2.1,q.1.1.2.2,q.1.2.1-1,q.1.2.2.1⟩,q.1.2.2.2.1,q.1.2.2.2.2⟩,q.2)
def BY (os:List Nd):Prop:=os.length<=255/\∀ o ∈ os,uW o
def wF (es:List En):Prop:=es.length<=255/\∀ x ∈ es,kW x
def LC (ps:List (Int×Int)):Prop:=ps.length<=255/\∀ x ∈ ps,CF x
def oQ (p:Pg):Prop:=((0<=p.book.vars/\p.book.vars<=255)/\BY p.book.orders/\wF p.book.entries)/\(0<=p.book.nat+1/\p.book.nat+1<=255)/\LC p.book.prims/\m5 p.main/\m5 p.type
def jI (p:Pg):List Nat:=rS p.book p.main p.type
theorem lC:cJ dH jI oQ:=by
 have h1:cJ nP _ _:=mB (fP (most:=255) (by decide)) (gV (most:=255) (by decide) pW fB) (gV (most:=255) (by decide) j8 fB) (fun v os es=>(v,os,es)) Prod.fst (fun q=>q.2.1) (fun q=>q.2.2) (fun _ _ _=>rfl) (fun _ _ _=>rfl) (fun _ _ _=>rfl) fun _=>rfl;have h2:cJ (bL.seq bT fun m=>bL.seq bT fun t=>bL.pure (m,t)) _ _:=fQ.two fQ Prod.mk Prod.fst Prod.snd (fun _ _=>rfl) (fun _ _=>rfl) (fun _=>rfl);have h3:cJ (bL.seq (bO bK 255 dF) fun ps=>bL.seq (bL.seq bT fun m=>bL.seq bT fun t=>bL.pure (m,t)) fun q=>bL.pure (ps,q)) _ _:=(gV (most:=255) (by decide) jV fB).two h2 Prod.mk Prod.fst Prod.snd (fun _ _=>rfl) (fun _ _=>rfl) (fun _=>rfl);have h4:cJ pJ _ _:=(fP (most:=255) (by decide)).two h3 Prod.mk Prod.fst Prod.snd (fun _ _=>rfl) (fun _ _=>rfl) (fun _=>rfl);have h5:cJ (bL.seq nP fun h=>bL.seq (bL.guard (1,[],[],[]) pJ) fun t=>bL.pure (h,t)) _ _:=h1.two (h4.guard (1,[],[],[])) Prod.mk Prod.fst Prod.snd (fun _ _=>rfl) (fun _ _=>rfl) (fun _=>rfl);have h6:=h5.map (fun q=>(⟨⟨q.1.1,q.1.2.1,q.1.2.2,q.2.1-1,q.2.2.1⟩,q.2.2.2.1,q.2.2.2.2⟩:Pg)) (fun p=>((p.book.vars,p.book.orders,p.book.entries),(p.book.nat+1,p.book.prims,p.main,p.type)))
  (fun q=>by simp [Int.sub_add_cancel]) oQ (fun p hp=>⟨by
   obtain ⟨⟨v,os,es,n,ps⟩,m,t⟩:=p;simp [Int.add_sub_cancel],hp⟩) (fun q hq=>by
   unfold oQ;simp only [Int.sub_add_cancel];exact hq)
 exact h6.write fun p=>by simp [jI,rS,qX]
def dU (p:Pg):Int:=if cZ p.book ≠ 0 then cZ p.book else if eS p.book 0 p.main ≠ 0 then eS p.book 0 p.main else eS p.book 0 p.type
def eL (p:Pg):List Nat×Int:=if dU p ≠ 0 then ([],dU p) else if 65536<(jI p).length then ([],6) else (jI p,0)
def gP (bs:List Nat):Pg×Int :=
 if 65536<bs.length then (fA,6)
 else if (dH ⟨bs,0,false⟩).2.err ≠ 0 then (fA,(dH ⟨bs,0,false⟩).2.err)
 else if (dH ⟨bs,0,false⟩).2.odd=true\/(dH ⟨bs,0,false⟩).2.rest ≠ [] then (fA,3)
 else if dU (dH ⟨bs,0,false⟩).1 ≠ 0 then (fA,dU (dH ⟨bs,0,false⟩).1)
 else ((dH ⟨bs,0,false⟩).1,0)
theorem vZ {p:Pg} (hw:oQ p) (he:(eL p).2=0):(eL p).1=jI p/\gP (jI p)=(p,0):=by
 unfold eL at he ⊢;by_cases h1:dU p ≠ 0
 · rw [if_pos h1] at he;exact absurd he h1
 rw [if_neg h1] at he ⊢;by_cases h2:65536<(jI p).length
 · rw [if_pos h2] at he;cases he
 rw [if_neg h2];refine ⟨rfl,?_⟩;have h:=lC.form p [] hw;rw [List.append_nil] at h;unfold gP;rw [if_neg h2,h,if_neg (by simp),if_neg (by simp),if_neg (by simpa using h1)]
end
section
open Go.RowKit
def aX (lo hi:Nat) (w w':World):Prop:=∀ q,lo<=q->q<hi->w'.heap[q]? = w.heap[q]?
section
variable {w0 w w1 w' W : World} {κ : Rk} {s s' : Rd} {lo hi b i : Nat} {u : Value}
theorem aX.refl:aX lo hi w w:=fun _ _ _=>rfl
theorem aX.trans (h:aX lo hi w w1) (h2:aX lo hi w1 w'):aX lo hi w w':=fun q a b=>(h2 q a b).trans (h q a b)
theorem aX.set (hb:b<lo\/hi<=b):aX lo hi w (w.setCell ⟨b,i,Y⟩ u):=fun q h1 h2=>Below.heap_setCell w ⟨b,i,Y⟩ u q (by simp only;omega)
theorem aX.cell (h:aX lo hi w w') (q:Nat) (h1:lo<=q) (h2:q<hi) (o:Nat):w'.cell? ⟨q,o,Y⟩=w.cell? ⟨q,o,Y⟩:=aF (h q h1 h2) o
theorem kB.refl (h:kC w0 κ s w):kB w0 κ s w w:=⟨aG.refl _ _ _,h⟩
theorem kB.below (h:kB w0 κ s w W) (hb:Below W.heap.size W w'):kB w0 κ s w w':=⟨h.1.trans_ (nV.below hb),h.2.below hb⟩
theorem kB.call (h:kB w0 κ s w W) (h2:kB w0 κ s' W w'):kB w0 κ s' w w':=⟨h.1.trans_ h2.1,h2.2⟩
theorem kB.set (h:kB w0 κ s w W) (hb:w.heap.size<=b) (hg:κ.g<w.heap.size) (hh:κ.h<w.heap.size) (hR:∀ q,κ.R q->q<w.heap.size) (h0:w0.heap.size<=w.heap.size) (i:Nat) (u:Value):kB w0 κ s w (W.setCell ⟨b,i,Y⟩ u):=by
 have hgr:W.grownBy (W.setCell ⟨b,i,Y⟩ u) (I b):=grown_setK W b i u;exact ⟨iP h.1 hgr (fun q e=>by injection e with e;omega),h.2.grown hgr (fun q e=>by injection e with e;omega) hR hg hh h0⟩
where grown_setK (w:World) (b i:Nat) (u:Value):w.grownBy (w.setCell ⟨b,i,Y⟩ u) (I b):=⟨rfl,rfl,rfl,by simp [World.setCell],fun k _ hr=>Below.heap_setCell w ⟨b,i,Y⟩ u k (fun e=>hr (by rw [e]))⟩
theorem aE.mvk {T:TypeId} {cs:Array Value} (h:aE W b T cs) (hm:nV κ W w') (hg:κ.g<b) (hh:κ.h<b):aE w' b T cs:=h.moved hm (by rintro (e | e)<;>omega) (by simp)
theorem aR (w:World) (b i:Nat) (u:Value):(w.setCell ⟨b,i,Y⟩ u).heap.size=w.heap.size:=by simp [World.setCell]
end
def FG (w0:World) (κ:Rk) (r:List (List Nd)×Rd) (w:World) (e:Ending) (w':World):Prop:=∃ A n c,e=.returned (Z A n c)/\cW (fresh w w') w' A n c r.1/\kB w0 κ r.2 w w'
def L4 (w0:World) (κ:Rk) (r:Ct×Rd) (w:World) (e:Ending) (w':World):Prop:=∃ A1 n1 c1 A2 n2 c2,e=.returned (.agg #[Z A1 n1 c1,Z A2 n2 c2])/\cW (fresh w w') w' A1 n1 c1 r.1.args/\cW (fresh w w') w' A2 n2 c2 r.1.outs/\kB w0 κ r.2 w w'
def LJ (w0:World) (κ:Rk) (r:List Ct×Rd) (w:World) (e:Ending) (w':World):Prop:=∃ A n c,e=.returned (Z A n c)/\oW (fresh w w') w' A n c r.1/\kB w0 κ r.2 w w'
def LL (w0:World) (κ:Rk) (r:Nd×Rd) (w:World) (e:Ending) (w':World):Prop:=e=.returned (.agg #[O X r.1.op,O X r.1.a,O X r.1.b])/\kB w0 κ r.2 w w'
def LM (w0:World) (κ:Rk) (r:(Int×Int)×Rd) (w:World) (e:Ending) (w':World):Prop:=e=.returned (.agg #[O X r.1.1,O X r.1.2])/\kB w0 κ r.2 w w'
structure sL (R:Nat->Prop) (w:World) (A:Option Addr) (n c:Nat) (ps:List (Int×Int)):Prop where
 len:ps.length=n
 few:n<=8796093021952
 mem:0<n->∃ b off,A=I ⟨b,off,Y⟩/\R b/\∀ k,k<n->w.cell? ⟨b,off+k*2,Y⟩=I (O X (ps.getD k (0,0)).1)/\w.cell? ⟨b,off+k*2+1,Y⟩=I (O X (ps.getD k (0,0)).2)
def LN (w0:World) (κ:Rk) (r:List (Int×Int)×Rd) (w:World) (e:Ending) (w':World):Prop:=∃ A n c,e=.returned (Z A n c)/\sL (fresh w w') w' A n c r.1/\(A=Y->c=0)/\kB w0 κ r.2 w w'
def L5 (w0:World) (κ:Rk) (r:En×Rd) (w:World) (e:Ending) (w':World):Prop:=∃ v:eQ,e=.returned (.agg #[O X r.1.kind,Z v.As v.ns v.cs,Z v.Ap v.np v.cp,Z v.Ai v.ni v.ci,Z v.Ac v.nc v.cc,Z v.At v.nt v.ct,Z v.Ab v.nb v.cb])/\FA (fresh w w') w' v r.1/\kB w0 κ r.2 w w'
structure sK (R:Nat->Prop) (w:World) (A:Option Addr) (n c:Nat) (es:List En):Prop where
 len:es.length=n
 few:n<=5864062014805
 mem:0<n->∃ b off,A=I ⟨b,off,Y⟩/\R b/\∀ k,k<n->∃ v:eQ,w.cell? ⟨b,off+k*7,Y⟩=I (O X (es.getD k default).kind)/\w.cell? ⟨b,off+k*7+1,Y⟩=I (Z v.As v.ns v.cs)/\w.cell? ⟨b,off+k*7+2,Y⟩=I (Z v.Ap v.np v.cp)/\w.cell? ⟨b,off+k*7+3,Y⟩=I (Z v.Ai v.ni v.ci)/\w.cell? ⟨b,off+k*7+4,Y⟩=I (Z v.Ac v.nc v.cc)/\w.cell? ⟨b,off+k*7+5,Y⟩=I (Z v.At v.nt v.ct)/\w.cell? ⟨b,off+k*7+6,Y⟩=I (Z v.Ab v.nb v.cb)/\FA R w v (es.getD k default)
def LK (w0:World) (κ:Rk) (r:List En×Rd) (w:World) (e:Ending) (w':World):Prop:=∃ A n c,e=.returned (Z A n c)/\sK (fresh w w') w' A n c r.1/\kB w0 κ r.2 w w'
section
variable {R R' : Nat->Prop} {w w' : World} {A : Option Addr} {n c : Nat}
theorem sL.keep {ps:List (Int×Int)} (h:sL R w A n c ps) (hR:∀ b,R b->R' b/\∀ o,w'.cell? ⟨b,o,Y⟩=w.cell? ⟨b,o,Y⟩):sL R' w' A n c ps :=
 ⟨h.len,h.few,fun hn=>by
  obtain ⟨b,off,e,hb,hm⟩:=h.mem hn;exact ⟨b,off,e,(hR b hb).1,fun k hk=>⟨((hR b hb).2 _).trans (hm k hk).1,((hR b hb).2 _).trans (hm k hk).2⟩⟩⟩
theorem sL.prsV {ps:List (Int×Int)} (h:sL R w A n c ps) (hR:∀ b,R b->b<w.heap.size):sM w A n c ps:=by
 have h2:=h.keep (R':=(· < w.heap.size)) (w':=w) fun b hb=>⟨hR b hb,fun _=>rfl⟩;exact ⟨h2.len,h2.few,h2.mem⟩
theorem sK.keep {es:List En} (h:sK R w A n c es) (hR:∀ b,R b->R' b/\∀ o,w'.cell? ⟨b,o,Y⟩=w.cell? ⟨b,o,Y⟩):sK R' w' A n c es :=
 ⟨h.len,h.few,fun hn=>by
  obtain ⟨b,off,e,hb,hm⟩:=h.mem hn;refine ⟨b,off,e,(hR b hb).1,fun k hk => ?_⟩;obtain ⟨v,h0,h1,h2,h3,h4,h5,h6,h7⟩:=hm k hk;exact ⟨v,((hR b hb).2 _).trans h0,((hR b hb).2 _).trans h1,((hR b hb).2 _).trans h2,((hR b hb).2 _).trans h3,((hR b hb).2 _).trans h4,((hR b hb).2 _).trans h5,((hR b hb).2 _).trans h6,h7.keep hR⟩⟩
theorem sK.ensV {es:List En} (h:sK R w A n c es) (hR:∀ b,R b->b<w.heap.size):qB w A n c es :=
 ⟨h.len,h.few,fun hn=>by
  obtain ⟨b,off,e,hb,hm⟩:=h.mem hn;refine ⟨b,off,e,hR b hb,fun k hk => ?_⟩;obtain ⟨v,h0,h1,h2,h3,h4,h5,h6,h7⟩:=hm k hk;exact ⟨v,h0,h1,h2,h3,h4,h5,h6,h7.enC hR⟩⟩
theorem B0 {base:Nat} {l:List Nd} (h:w.ownsRow base 78 3 (Z A n c) n (gK l)) (hn:l.length=n) (hl:n<=5864062014805) (hv:∀ g,(Value.slice A n c).ownBlock=I g->R g):bJ R w A n c l:=by
 have h0:=h;rcases h.2 with ⟨e,h2⟩ | ⟨g,cap',cur,hv2,hg,hh,hcap,_⟩
 · injection e with e1 e2 e3;subst e1 e3;exact ⟨hn,by omega,by omega,fun _=>rfl,fun hp=>absurd hp aA⟩
 injection hv2 with e1 e2 e3;subst e1 e3;refine ⟨hn,hcap,hl,(fun e=>by cases e),fun _=>⟨g,0,rfl,hv g rfl,fun k hk => ?_⟩⟩;obtain ⟨h1,h2,h3⟩:=oC l k hk;exact ⟨dY h0 h1,dY h0 h2,dY h0 h3⟩
def j5 (l:List (Int×Int)):List Value:=l.flatMap fun p=>[O X p.1,O X p.2]
theorem wK:∀ (l:List (Int×Int)) (k:Nat),k<l.length->(j5 l)[k*2]? = I (O X (l.getD k (0,0)).1)/\(j5 l)[k*2+1]? = I (O X (l.getD k (0,0)).2)
 | [],k,h=>absurd h (by simp)
 | p::l,0,_=>⟨rfl,rfl⟩
 | p::l,k+1,h=>by
  obtain ⟨h1,h2⟩:=wK l k (by simpa using h);rw [show (k+1)*2=k*2+1+1 from by omega];exact ⟨by simpa [j5] using h1,by simpa [j5] using h2⟩
theorem rQ {base:Nat} {l:List (Int×Int)} (h:w.ownsRow base 68 2 (Z A n c) n (j5 l)) (hn:l.length=n) (hl:n<=1000000) (hv:∀ g,(Value.slice A n c).ownBlock=I g->R g):sL R w A n c l:=by
 refine ⟨hn,by omega,fun hpos => ?_⟩;have h0:=h;rcases h.2 with ⟨_,h2⟩ | ⟨g,cap',cur,hv2,hg,hh,_⟩
 · omega
 injection hv2 with e1 e2 e3;subst e1;refine ⟨g,0,rfl,hv g rfl,fun k hk => ?_⟩;obtain ⟨h1,h2⟩:=wK l k aA;exact ⟨dY h0 h1,dY h0 h2⟩
theorem jU {base sz:Nat} {e:TypeId} {xs:List Value} (h:w.ownsRow base e sz (Z A n c) n xs):A=Y->c=0:=fun hA=>by
 rcases h.2 with ⟨e,_⟩ | ⟨g,cap',cur,hv2,_⟩
 · injection e with _ _ e3
 injection hv2 with e1 _ _;rw [hA] at e1;cases e1
theorem rP {S:Nat->Prop} {base:Nat} {xs:List Value} {es:List En} (h:w.ownsRow base 57 7 (Z A n c) n xs) (hn:es.length=n) (hf:n<=5864062014805) (hr:qA S w es xs) (hS:∀ b,S b->R b) (hv:∀ g,(Value.slice A n c).ownBlock=I g->R g):sK R w A n c es:=by
 refine ⟨hn,hf,fun hpos => ?_⟩;have h0:=h;rcases h.2 with ⟨_,h2⟩ | ⟨g,cap',cur,hv2,hg,hh,_⟩
 · omega
 injection hv2 with e1 e2 e3;subst e1;refine ⟨g,0,rfl,hv g rfl,fun k hk => ?_⟩;obtain ⟨v,x0,x1,x2,x3,x4,x5,x6,hq⟩:=qA.at_ es xs k hr aA;exact ⟨v,dY h0 x0,dY h0 x1,dY h0 x2,dY h0 x3,dY h0 x4,dY h0 x5,dY h0 x6,hq.keep fun b hb=>⟨hS b hb,fun _=>rfl⟩⟩
end
section
variable {base i d sz : Nat} {e : TypeId} {w w5 W w8 : World} {v : Value} {A8 : Option Addr} {c8 m : Nat} {ys xs : List Value} {κ : Rk}
theorem qU (hm:nV κ w w5) (hg:κ.g<base) (hh:κ.h<base) : ∀ q,dR base w v q->dR base w5 v q/\∀ o,w5.cell? ⟨q,o,Y⟩=w.cell? ⟨q,o,Y⟩:=fun q hq =>
 ⟨⟨hq.1,Nat.lt_of_lt_of_le hq.2.1 hm.size,hq.2.2⟩,fun o=>aF (hm.block q hq.2.1 (by have:=hq.1;rintro (e | e)<;>omega) (by simp)) o⟩
theorem fU (hb:Below w5.heap.size w5 W) (ha:dQ W w8 base e sz v A8 m c8 ys) : ∀ q,dR base w5 v q->dR base w8 (Z A8 m c8) q/\∀ o,w8.cell? ⟨q,o,Y⟩=w5.cell? ⟨q,o,Y⟩:=fun q hq=>by
 have h1:=hb.size;have h2:=ha.grown.size;have hq2:=hq.2.1;refine ⟨⟨hq.1,by omega,fun e => ?_⟩,fun o=>aF ((ha.grown.block q aA (fun e=>hq.2.2 e.symm)).trans (hb.block q hq2)) o⟩;rcases ha.new q e with h | h
 · exact hq.2.2 h
 omega
theorem lS (ho:w.ownsRow base e sz v m xs) (hb:base<=w.heap.size) : ∀ q,fresh w w5 q->dR base w5 v q:=fun q hq=>by
 refine ⟨Nat.le_trans hb hq.1,hq.2,fun e => ?_⟩;have:=(aC ho e).2.1;have:=hq.1;omega
end
theorem cG {P:Program} {o:Oper} {a:Act} {w:World} {K:Act->World->Prop} {Q:Exit->Act->World->Prop}
 (s x:Operand) (t e:TypeId) (hop:o.op=Op.call { callee:=Callee.builtin Builtin.append,args:=#[s,x],argTypes:=#[t,t] })
 (base:Nat) (i:TypeInfo) (z:Value) (size bytes:Nat) (h1:P.underlying t=I (.slice e)) (h2:P.info? e=I i) (h3:i.zero=I z) (h4:i.size=size) (h5:i.bytes=bytes) (h6:z.cells.size=size) (h7:0<size) (hby:bytes<=200)
 (v:Value) (n:Nat) (xs us:List Value) (hus:us.length=size) (hone:∀ u ∈ us,u.oneCell'=true) (W:World) (hW:w=W.alloc (.cells us.toArray e)) (hs:a.eval s=v) (hown:W.ownsRow base e size v n xs)
 (g:Nat) (hx:a.eval x=Z (I ⟨g,0,Y⟩) 1 1) (hgW:g=W.heap.size) (b1:n+1<=1000000) (b3:base<=W.heap.size)
 (hK:∀ A' c' w',dQ W w' base e size v A' (n+1) c' (xs++us)->K (a.put o.dst (Z A' (n+1) c')) w'):Oper.wp P o a w K Q:=by
 subst hW;subst hgW;refine cR s x t hop base _ i _ size bytes h1 h2 h3 h4 h5 h6 h7 v n xs hs (World.ownsRow.alloc hown _) _ 1 1 us hx aA (fun e=>by cases e) (fun ad e j u' hu => ?_) hone (by unfold maxLen;omega) ?_ (by simp;omega) ?_
 · injection e with e;subst e;have ea:(⟨W.heap.size,0,Y⟩:Addr).add j=⟨W.heap.size,j,Y⟩:=by unfold Addr.add;split<;>simp_all
   rw [ea,World.cell?_alloc_new,<-hu];simp
 · exact Nat.le_trans (Nat.mul_le_mul b1 hby) (by decide)
 intro A' c' w' h;refine hK A' c' w' ⟨h.own,?_,fun g hg=>(h.new g hg).imp id (fun hh=>by simp at hh;omega)⟩;refine ⟨h.grown.os,h.grown.tape,h.grown.output,Nat.le_trans (by simp) h.grown.size,fun k hk hne => ?_⟩;rw [h.grown.block k (by simp;omega) hne];exact Below.heap_alloc _ _ _ hk
end
end Go.Proofs.YtplecfbdchmogaaGreat
