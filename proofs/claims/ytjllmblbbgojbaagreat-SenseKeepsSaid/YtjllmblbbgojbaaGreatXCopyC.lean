/- CopyBook of the reference: what its loops keep. -/
import Derived.Test.YtjllmblbbgojbaaGreatXCopyB
namespace Go.Proofs.YtjllmblbbgojbaaGreat
set_option linter.unusedVariables false
set_option linter.unusedSimpArgs false
open Go.RowKit
open Go.Value renaming int → O, slice → Y
open Go.IntKind renaming i64 → X
open Option renaming none → Z, some → I
theorem ON:(Tryz.prog.info? 68).map (fun i=>(i.zero,i.size,i.bytes))=I (I (.agg #[O X 0,Y Z 0 0,Y Z 0 0,Y Z 0 0,Y Z 0 0,Y Z 0 0,Y Z 0 0]),7,152):=by kernel_rfl
theorem OM:(Tryz.prog.info? 71).map (fun i=>(i.zero,i.size,i.bytes))=I (I (.agg #[Y Z 0 0,Y Z 0 0]),2,48):=by kernel_rfl
abbrev L7:Array Value:=#[O X 0,Y Z 0 0,Y Z 0 0,Y Z 0 0,Y Z 0 0,Y Z 0 0,Y Z 0 0]
def P8 (x:En) (v:eZ):List Value:=[O X x.kind,Y v.As v.ns v.cs,Y v.Ap v.np v.cp,Y v.Ai v.ni v.ci,Y v.Ac v.nc v.cc,Y v.At v.nt v.ct,Y v.Ab v.nb v.cb]
structure BO (w:World) (bk:Array Value) (es:List En) (os:List Nd) (np:Nat) (pv:List Value) (x0 x3:Value) (A1 A2:Option Addr) (c1 c2 gA i:Nat) (Ae:Option Addr) (ce:Nat) (vs:List Value) (W:World):Prop where
 bel:Below w.heap.size w W
 box:aS W w.heap.size 26 bk
 res:aS W (w.heap.size+1) 26 wV
 out:aS W gA 26 #[x0,Y A1 os.length c1,Y Ae i ce,x3,Y A2 np c2]
 ge:w.heap.size+2<=gA
 o:W.ownsRow (w.heap.size+2) 73 3 (Y A1 os.length c1) os.length (fS os)
 p:W.ownsRow (w.heap.size+2) 76 2 (Y A2 np c2) np pv
 e:W.ownsRow (w.heap.size+2) 68 7 (Y Ae i ce) i vs
 oA:(Value.slice A1 os.length c1).ownBlock ≠ I gA
 pA:(Value.slice A2 np c2).ownBlock ≠ I gA
 eA:(Value.slice Ae i ce).ownBlock ≠ I gA
 eo:uV (Y Ae i ce) (Y A1 os.length c1)
 ep:uV (Y Ae i ce) (Y A2 np c2)
 ens:wS (fun q=>w.heap.size+2<=q/\q<W.heap.size/\(Value.slice Ae i ce).ownBlock ≠ I q/\q ≠ gA) W (es.take i) vs
section
variable {w W W' : World} {bk : Array Value} {es : List En} {os : List Nd} {np : Nat} {pv : List Value} {x0 x3 : Value} {A1 A2 Ae : Option Addr} {c1 c2 gA i ce : Nat} {vs : List Value}
theorem PR.cb3 (h:PR w bk os np pv x0 x3 A1 A2 c1 c2 gA W):BO w bk es os np pv x0 x3 A1 A2 c1 c2 gA 0 Z 0 [] W :=
 ⟨h.bel,h.box,h.res,h.out,h.ge,h.o,h.p,World.ownsRow_nil _ _ _ _,h.oA,h.pA,fun e=>(by cases e),fun g e=>(by cases e),fun g e=>(by cases e),rfl⟩
theorem BO.below (h:BO w bk es os np pv x0 x3 A1 A2 c1 c2 gA i Ae ce vs W) (hb:Below W.heap.size W W'):BO w bk es os np pv x0 x3 A1 A2 c1 c2 gA i Ae ce vs W' :=
 ⟨h.bel.trans (hb.mono h.bel.size),h.box.below hb h.box.lt,h.res.below hb h.res.lt,h.out.below hb h.out.lt,h.ge,bL h.o hb,bL h.p hb,bL h.e hb,h.oA,h.pA,h.eA,h.eo,h.ep,
  wS.keep (fun q hq=>⟨⟨hq.1,Nat.lt_of_lt_of_le hq.2.1 hb.size,hq.2.2⟩,fun o=>hb.cell (p:=⟨q,o,Z⟩) hq.2.1⟩) _ _ h.ens⟩
theorem BO.eLt (h:BO w bk es os np pv x0 x3 A1 A2 c1 c2 gA i Ae ce vs W) {g:Nat} (hg:(Value.slice Ae i ce).ownBlock=I g):w.heap.size+2<=g/\g<W.heap.size:=⟨(aR h.e hg).1,(aR h.e hg).2.1⟩
theorem BO.push (h:BO w bk es os np pv x0 x3 A1 A2 c1 c2 gA i Ae ce vs W) {v:eZ} {x:En} (hx:es.take (i+1)=es.take i++[x]) (hq:I6 (fun q=>w.heap.size+2<=q/\q<W.heap.size/\(Value.slice Ae i ce).ownBlock ≠ I q/\q ≠ gA) W v x) {B:Option Addr} {d:Nat}
 (ha:eH W W' (w.heap.size+2) 68 7 (Y Ae i ce) B (i+1) d (vs++P8 x v)):BO w bk es os np pv x0 x3 A1 A2 c1 c2 gA (i+1) B d (vs++P8 x v) (W'.setCell ⟨gA,2,Z⟩ (Y B (i+1) d)):=by
 have hbs:=h.bel.size;have hge:=h.ge;have hol:=h.out.lt;have hnA:∀g,g<w.heap.size+2->I g ≠ (Value.slice Ae i ce).ownBlock:=fun g hg e=>by have:=(h.eLt e.symm).1;omega
 have hA:(Value.slice B (i+1) d).ownBlock ≠ I gA:=fun e=>by
  rcases ha.new _ e with h3 | h3
  · exact h.eA h3
  omega
 have hgA:I gA ≠ (Value.slice Ae i ce).ownBlock:=fun e=>h.eA e.symm;have hg2:=bG W' gA 2 (Y B (i+1) d);have hs0:=ha.grown.size;have b1:Below w.heap.size w W':=h.bel.grown ha.grown aA (fun g e=>by have:=(h.eLt e).1;omega);have hout:=(h.out.grown ha.grown hgA).set_ 2 (Y B (i+1) d);have heo:uV (Y B (i+1) d) (Y A1 os.length c1):=(uV.app h.o h.eo.symm ha).symm;have hep:uV (Y B (i+1) d) (Y A2 np c2):=(uV.app h.p h.ep.symm ha).symm;refine⟨b1.grown hg2 aA (fun g e=>by injection e with e;omega),(h.box.grown ha.grown (hnA _ aA)).grown hg2 aK,(h.res.grown ha.grown (hnA _ aA)).grown hg2 aK,by simpa using hout,h.ge,
  World.ownsRow.kept (j5 h.o ha.grown h.eo.symm) hg2 (.inr h.oA),World.ownsRow.kept (j5 h.p ha.grown h.ep.symm) hg2 (.inr h.pA),World.ownsRow.kept ha.own hg2 (.inr hA),h.oA,h.pA,hA,heo,hep,?_⟩
 rw[hx];have key:∀q,(w.heap.size+2<=q/\q<W.heap.size/\(Value.slice Ae i ce).ownBlock ≠ I q/\q ≠ gA)->(w.heap.size+2<=q/\q<(W'.setCell ⟨gA,2,Z⟩ (Y B (i+1) d)).heap.size/\(Value.slice B (i+1) d).ownBlock ≠ I q/\q ≠ gA)/\∀o,(W'.setCell ⟨gA,2,Z⟩ (Y B (i+1) d)).cell? ⟨q,o,Z⟩=W.cell? ⟨q,o,Z⟩:=fun q hq=>by
  have hs2:=hg2.size;refine⟨⟨hq.1,by omega,fun e => ?_,hq.2.2.2⟩,fun o => ?_⟩
  · rcases ha.new _ e with h3 | h3
    · exact hq.2.2.1 h3
    omega
  rw[aU (hg2.block q aA (by intro e;injection e with e;exact hq.2.2.2 e)) o];exact aU (ha.grown.block q hq.2.1 (fun e=>hq.2.2.1 e.symm)) o
 exact wS.add (hq.keep key) _ _ (wS.keep key _ _ h.ens)
end
abbrev lF (W5:World) (sA g6:Nat) (W:World) (q:Nat):Prop:=W5.heap.size<=q/\q<W.heap.size/\(sA=1->q ≠ g6)
structure lH (W5:World) (c sA g6:Nat) (v:eZ) (x:En) (W:World):Prop where
 bel:Below W5.heap.size W5 W
 al:sA=1->aS W g6 68 L7/\W5.heap.size<=g6
 q1:1<=c->bP (lF W5 sA g6 W) W v.As v.ns v.cs x.sort
 q2:2<=c->dG (lF W5 sA g6 W) W v.Ap v.np v.cp x.params
 q3:3<=c->dG (lF W5 sA g6 W) W v.Ai v.ni v.ci x.indices
 q4:4<=c->bP (lF W5 sA g6 W) W v.At v.nt v.ct x.type
 q5:5<=c->bP (lF W5 sA g6 W) W v.Ab v.nb v.cb x.body
abbrev F0 (W W':World) (q:Nat):Prop:=W.heap.size<=q/\q<W'.heap.size
section
variable {W5 W W' : World} {c sA g6 : Nat} {v : eZ} {x : En}
theorem lH.start (W5:World) (v:eZ) (x:En):lH W5 0 0 0 v x W5 :=
 ⟨Below.refl _ _,(fun e=>by cases e),fun e=>absurd e aA,fun e=>absurd e aA,fun e=>absurd e aA,fun e=>absurd e aA,fun e=>absurd e aA⟩
theorem lH.start' (W5:World) (v:eZ) (x:En):lH W5 0 0 0 v x W5.drew :=
 ⟨aV (Below.refl _ _) 1,(fun e=>by cases e),fun e=>absurd e aA,fun e=>absurd e aA,fun e=>absurd e aA,fun e=>absurd e aA,fun e=>absurd e aA⟩
theorem lH.a (h:lH W5 c 0 g6 v x W):lH W5 c 1 W.heap.size v x (W.alloc (.cells L7 68)):=by
 have hs:=h.bel.size;have key:∀q,lF W5 0 g6 W q->lF W5 1 W.heap.size (W.alloc (.cells L7 68)) q/\∀o,(W.alloc (.cells L7 68)).cell? ⟨q,o,Z⟩=W.cell? ⟨q,o,Z⟩:=fun q hq=>⟨⟨hq.1,by simp;omega,fun _=>by omega⟩,fun o=>(aP W _).cell (p:=⟨q,o,Z⟩) hq.2.1⟩;exact⟨h.bel.alloc hs _,fun _=>⟨aS.new W _ _,hs⟩,fun e=>(h.q1 e).keep key,fun e=>(h.q2 e).keep key,fun e=>(h.q3 e).keep key,fun e=>(h.q4 e).keep key,fun e=>(h.q5 e).keep key⟩
theorem lH.key (_h:lH W5 c sA g6 v x W) (hb:Below W.heap.size W W') : ∀q,lF W5 sA g6 W q->lF W5 sA g6 W' q/\∀o,W'.cell? ⟨q,o,Z⟩=W.cell? ⟨q,o,Z⟩ :=
 fun q hq=>⟨⟨hq.1,Nat.lt_of_lt_of_le hq.2.1 hb.size,hq.2.2⟩,fun o=>hb.cell (p:=⟨q,o,Z⟩) hq.2.1⟩
theorem lH.new (h:lH W5 c sA g6 v x W) : ∀q,F0 W W' q->lF W5 sA g6 W' q/\∀o,W'.cell? ⟨q,o,Z⟩=W'.cell? ⟨q,o,Z⟩ :=
 fun q hq=>⟨⟨Nat.le_trans h.bel.size hq.1,hq.2,fun e=>by have:=(h.al e).1.lt;have:=hq.1;omega⟩,fun _=>rfl⟩
theorem lH.n1 (h:lH W5 0 sA g6 v x W) (hb:Below W.heap.size W W') {A:Option Addr} {n d:Nat} (ht:bP (F0 W W') W' A n d x.sort):lH W5 1 sA g6 { v with As:=A,ns:=n,cs:=d } x W' :=
 ⟨h.bel.trans (hb.mono h.bel.size),fun e=>⟨(h.al e).1.below hb (h.al e).1.lt,(h.al e).2⟩,fun _=>ht.keep h.new,fun e=>absurd e aA,fun e=>absurd e aA,fun e=>absurd e aA,fun e=>absurd e aA⟩
theorem lH.n2 (h:lH W5 1 sA g6 v x W) (hb:Below W.heap.size W W') {A:Option Addr} {n d:Nat} (ht:dG (F0 W W') W' A n d x.params):lH W5 2 sA g6 { v with Ap:=A,np:=n,cp:=d } x W' :=
 ⟨h.bel.trans (hb.mono h.bel.size),fun e=>⟨(h.al e).1.below hb (h.al e).1.lt,(h.al e).2⟩,fun _=>(h.q1 aA).keep (h.key hb),fun _=>ht.keep h.new,fun e=>absurd e aA,fun e=>absurd e aA,fun e=>absurd e aA⟩
theorem lH.n3 (h:lH W5 2 sA g6 v x W) (hb:Below W.heap.size W W') {A:Option Addr} {n d:Nat} (ht:dG (F0 W W') W' A n d x.indices):lH W5 3 sA g6 { v with Ai:=A,ni:=n,ci:=d } x W' :=
 ⟨h.bel.trans (hb.mono h.bel.size),fun e=>⟨(h.al e).1.below hb (h.al e).1.lt,(h.al e).2⟩,fun _=>(h.q1 aA).keep (h.key hb),fun _=>(h.q2 aA).keep (h.key hb),fun _=>ht.keep h.new,fun e=>absurd e aA,fun e=>absurd e aA⟩
theorem lH.n4 (h:lH W5 3 sA g6 v x W) (hb:Below W.heap.size W W') {A:Option Addr} {n d:Nat} (ht:bP (F0 W W') W' A n d x.type):lH W5 4 sA g6 { v with At:=A,nt:=n,ct:=d } x W' :=
 ⟨h.bel.trans (hb.mono h.bel.size),fun e=>⟨(h.al e).1.below hb (h.al e).1.lt,(h.al e).2⟩,fun _=>(h.q1 aA).keep (h.key hb),fun _=>(h.q2 aA).keep (h.key hb),fun _=>(h.q3 aA).keep (h.key hb),fun _=>ht.keep h.new,fun e=>absurd e aA⟩
theorem lH.n5 (h:lH W5 4 sA g6 v x W) (hb:Below W.heap.size W W') {A:Option Addr} {n d:Nat} (ht:bP (F0 W W') W' A n d x.body):lH W5 5 sA g6 { v with Ab:=A,nb:=n,cb:=d } x W' :=
 ⟨h.bel.trans (hb.mono h.bel.size),fun e=>⟨(h.al e).1.below hb (h.al e).1.lt,(h.al e).2⟩,fun _=>(h.q1 aA).keep (h.key hb),fun _=>(h.q2 aA).keep (h.key hb),fun _=>(h.q3 aA).keep (h.key hb),fun _=>(h.q4 aA).keep (h.key hb),fun _=>ht.keep h.new⟩
structure O2 (W5:World) (g6:Nat) (v:eZ) (x:En) (W:World):Prop where
 bel:Below W5.heap.size W5 W
 y:aS W g6 68 #[O X x.kind,Y v.As v.ns v.cs,Y v.Ap v.np v.cp,Y v.Ai v.ni v.ci,Y Z 0 0,Y v.At v.nt v.ct,Y v.Ab v.nb v.cb]
 ge:W5.heap.size<=g6
 q1:bP (lF W5 1 g6 W) W v.As v.ns v.cs x.sort
 q2:dG (lF W5 1 g6 W) W v.Ap v.np v.cp x.params
 q3:dG (lF W5 1 g6 W) W v.Ai v.ni v.ci x.indices
 q4:bP (lF W5 1 g6 W) W v.At v.nt v.ct x.type
 q5:bP (lF W5 1 g6 W) W v.Ab v.nb v.cb x.body
theorem lH.fin (h:lH W5 5 1 g6 v x W):O2 W5 g6 v x (((((((W.setCell ⟨g6,0,Z⟩ (O X x.kind)).setCell ⟨g6,1,Z⟩ (Y v.As v.ns v.cs)).setCell ⟨g6,2,Z⟩ (Y v.Ap v.np v.cp)).setCell ⟨g6,3,Z⟩ (Y v.Ai v.ni v.ci)).setCell ⟨g6,4,Z⟩ (Y Z 0 0)).setCell ⟨g6,5,Z⟩ (Y v.At v.nt v.ct)).setCell ⟨g6,6,Z⟩ (Y v.Ab v.nb v.cb)):=by
 obtain⟨ha,hge⟩:=h.al rfl;have hg:=(((((((bG W g6 0 (O X x.kind)).trans (bG _ g6 1 (Y v.As v.ns v.cs))).trans (bG _ g6 2 (Y v.Ap v.np v.cp))).trans (bG _ g6 3 (Y v.Ai v.ni v.ci))).trans (bG _ g6 4 (Y Z 0 0))).trans (bG _ g6 5 (Y v.At v.nt v.ct))).trans (bG _ g6 6 (Y v.Ab v.nb v.cb)));have hb:=((((((ha.set_ 0 (O X x.kind)).set_ 1 (Y v.As v.ns v.cs)).set_ 2 (Y v.Ap v.np v.cp)).set_ 3 (Y v.Ai v.ni v.ci)).set_ 4 (Y Z 0 0)).set_ 5 (Y v.At v.nt v.ct)).set_ 6 (Y v.Ab v.nb v.cb);generalize (((((((W.setCell ⟨g6,0,Z⟩ (O X x.kind)).setCell ⟨g6,1,Z⟩ (Y v.As v.ns v.cs)).setCell ⟨g6,2,Z⟩ (Y v.Ap v.np v.cp)).setCell ⟨g6,3,Z⟩ (Y v.Ai v.ni v.ci)).setCell ⟨g6,4,Z⟩ (Y Z 0 0)).setCell ⟨g6,5,Z⟩ (Y v.At v.nt v.ct)).setCell ⟨g6,6,Z⟩ (Y v.Ab v.nb v.cb))=Wz at *;have hs:=h.bel.size;have key:∀q,lF W5 1 g6 W q->lF W5 1 g6 Wz q/\∀o,Wz.cell? ⟨q,o,Z⟩=W.cell? ⟨q,o,Z⟩:=fun q hq=>⟨⟨hq.1,Nat.lt_of_lt_of_le hq.2.1 hg.size,hq.2.2⟩,fun o=>aU (hg.block q hq.2.1 (by intro e;injection e with e;exact hq.2.2 rfl e)) o⟩;exact⟨h.bel.grown hg aA (fun g e=>by injection e with e;omega),by simpa using hb,hge,(h.q1 aA).keep key,(h.q2 aA).keep key,(h.q3 aA).keep key,(h.q4 aA).keep key,(h.q5 aA).keep key⟩
end
structure BM (wm:World) (g6:Nat) (v:eZ) (x:En) (k:Nat) (B:Option Addr) (d:Nat) (vs:List Value) (W:World):Prop where
 mv:aW (fun q=>q=g6) Z wm W
 y:aS W g6 68 #[O X x.kind,Y v.As v.ns v.cs,Y v.Ap v.np v.cp,Y v.Ai v.ni v.ci,Y B k d,Y v.At v.nt v.ct,Y v.Ab v.nb v.cb]
 own:W.ownsRow wm.heap.size 71 2 (Y B k d) k vs
 cts:BP (fun q=>wm.heap.size<=q/\q<W.heap.size/\(Value.slice B k d).ownBlock ≠ I q) W vs (x.ctors.take k)
section
variable {W5 wm W W3 W4 : World} {g6 k d : Nat} {v : eZ} {x : En} {B : Option Addr} {vs : List Value}
theorem O2.cb4 (h:O2 W5 g6 v x wm):BM wm g6 v x 0 Z 0 [] wm:=⟨aW.refl _ _ _,h.y,World.ownsRow_nil _ _ _ _,trivial⟩
theorem BM.drew (h:BM wm g6 v x k B d vs W):BM wm g6 v x k B d vs W.drew:=⟨h.mv.drew,h.y.drewN 1,h.own,BP.keep (R:=fun q=>wm.heap.size<=q/\q<W.heap.size/\(Value.slice B k d).ownBlock ≠ I q) (R':=fun q=>wm.heap.size<=q/\q<W.drew.heap.size/\(Value.slice B k d).ownBlock ≠ I q) (w:=W) (w':=W.drew) (fun _ hq=>⟨hq,fun _=>rfl⟩) h.cts⟩
theorem BM.bel (hc:O2 W5 g6 v x wm) (h:BM wm g6 v x k B d vs W):Below W5.heap.size W5 W:=hc.bel.trans (h.mv.to_below hc.bel.size (fun q e=>by subst e;exact hc.ge) (fun g e=>by cases e))
theorem BM.push (h:BM wm g6 v x k B d vs W) (hg:g6<wm.heap.size) {c:Ct} (hx:x.ctors.take (k+1)=x.ctors.take k++[c]) (hb:Below W.heap.size W W3) {B1 B2:Option Addr} {n1 d1 n2 d2:Nat} (h1:dG (F0 W W3) W3 B1 n1 d1 c.args) (h2:dG (F0 W W3) W3 B2 n2 d2 c.outs) {B':Option Addr} {d':Nat}
 (ha:eH W3 W4 wm.heap.size 71 2 (Y B k d) B' (k+1) d' (vs++[Y B1 n1 d1,Y B2 n2 d2])):BM wm g6 v x (k+1) B' d' (vs++[Y B1 n1 d1,Y B2 n2 d2]) (W4.setCell ⟨g6,4,Z⟩ (Y B' (k+1) d')):=by
 have hms:=h.mv.size;have hbs:=hb.size;have hol:∀g,(Value.slice B k d).ownBlock=I g->wm.heap.size<=g/\g<W.heap.size:=fun g e=>⟨(aR h.own e).1,(aR h.own e).2.1⟩;have hg2:=bG W4 g6 4 (Y B' (k+1) d');have hs4:=ha.grown.size;have hs5:=hg2.size;have hn':(Value.slice B' (k+1) d').ownBlock ≠ I g6:=fun e=>by
  rcases ha.new _ e with h3 | h3
  · have:=(hol _ h3).1;omega
  omega
 have hng:I g6 ≠ (Value.slice B k d).ownBlock:=fun e=>by have:=(hol _ e.symm).1;omega
 refine⟨?_,?_,World.ownsRow.kept ha.own hg2 (.inr hn'),?_⟩
 · have m1:aW (fun q=>q=g6) Z wm W3:=h.mv.trans (row':=Z) (aW.of_below hb) (fun _ e=>by cases e);have m2:aW (fun q=>q=g6) Z wm W4:=m1.trans (aW.of_grown ha.grown) (fun g e=>.inr (hol g e).1);exact m2.setCell (p:=⟨g6,4,Z⟩) rfl _
 · have:=((h.y.below hb h.y.lt).grown ha.grown hng).set_ 4 (Y B' (k+1) d');simpa using this
 rw[hx];have key3:∀q,(q<W3.heap.size/\(Value.slice B k d).ownBlock ≠ I q/\q ≠ g6)->q<(W4.setCell ⟨g6,4,Z⟩ (Y B' (k+1) d')).heap.size/\(Value.slice B' (k+1) d').ownBlock ≠ I q/\∀o,(W4.setCell ⟨g6,4,Z⟩ (Y B' (k+1) d')).cell? ⟨q,o,Z⟩=W3.cell? ⟨q,o,Z⟩:=fun q hq=>by
  refine⟨by omega,fun e => ?_,fun o => ?_⟩
  · rcases ha.new _ e with h3 | h3
    · exact hq.2.1 h3
    omega
  rw[aU (hg2.block q aA (by intro e;injection e with e;exact hq.2.2 e)) o];exact aU (ha.grown.block q hq.1 (fun e=>hq.2.1 e.symm)) o
 have keyN:∀q,F0 W W3 q->(wm.heap.size<=q/\q<(W4.setCell ⟨g6,4,Z⟩ (Y B' (k+1) d')).heap.size/\(Value.slice B' (k+1) d').ownBlock ≠ I q)/\∀o,(W4.setCell ⟨g6,4,Z⟩ (Y B' (k+1) d')).cell? ⟨q,o,Z⟩=W3.cell? ⟨q,o,Z⟩:=fun q hq=>by
  have h3:=key3 q ⟨hq.2,fun e=>by have:=(hol _ e).2;have:=hq.1;omega,by have:=hq.1;omega⟩;exact⟨⟨by have:=hq.1;omega,h3.1,h3.2.1⟩,h3.2.2⟩
 refine BP.add (h1.keep keyN) (h2.keep keyN) (BP.keep (fun q hq => ?_) h.cts);have h3:=key3 q ⟨by omega,hq.2.2,by omega⟩;exact⟨⟨hq.1,h3.1,h3.2.1⟩,fun o=>(h3.2.2 o).trans (hb.cell (p:=⟨q,o,Z⟩) hq.2.1)⟩
theorem BM.fin (hc:O2 W5 g6 v x wm) (h:BM wm g6 v x k B d vs W) (hk:x.ctors.length=k) (hf:k<=5864062014805):I6 (F0 W5 W) W { v with Ac:=B,nc:=k,cc:=d } x/\Below W5.heap.size W5 W:=by
 have hs:=hc.bel.size;have hms:=h.mv.size;have key:∀q,lF W5 1 g6 wm q->F0 W5 W q/\∀o,W.cell? ⟨q,o,Z⟩=wm.cell? ⟨q,o,Z⟩:=fun q hq=>⟨⟨hq.1,by omega⟩,fun o=>aU (h.mv.block q hq.2.1 (hq.2.2 rfl) aD) o⟩;refine⟨⟨hc.q1.keep key,hc.q2.keep key,hc.q3.keep key,?_,hc.q4.keep key,hc.q5.keep key⟩,hc.bel.trans (h.mv.to_below hs (fun q e=>by subst e;exact hc.ge) (fun g e=>by cases e))⟩;have hcts:=h.cts;rw[List.take_of_length_le aA] at hcts;exact M6 h.own hk hf hcts (fun q hq=>⟨by omega,hq.2.1⟩) (fun g e=>⟨by have:=(aR h.own e).1;omega,(aR h.own e).2.1⟩)
end
theorem rW {w:World} {g:Nat} {t:TypeId} {l:List Value} (h:aS w g t l.toArray) : ∀ad,I (⟨g,0,Z⟩:Addr)=I ad->∀j u,l[j]? = I u->w.cell? (ad.add j)=I u:=by
 intro ad e j u hu;injection e with e;subst e;have ea:(⟨g,0,Z⟩:Addr).add j=⟨g,j,Z⟩:=by unfold Addr.add;split<;>simp_all
 rw[ea,h.cell];simpa using hu
theorem H5 {w:World} {base:Nat} {e:TypeId} {A:Option Addr} {c:Nat} {l:List Nd} (h:w.ownsRow base e 3 (Y A l.length c) l.length (fS l)) (hl:l.length<=5864062014805) (hcap:l.length<=c) (hnul:A=Z->c=0):bB w A l.length c l:=by
 refine⟨rfl,hcap,hl,hnul,fun hpos => ?_⟩;have h0:=h;rcases h.2 with⟨_,h2⟩ | ⟨g,cap',cur,hv2,hg,hh,_⟩
 · omega
 injection hv2 with e1 e2 e3;subst e1;refine⟨g,0,rfl,(aR h0 rfl).2.1,fun k hk => ?_⟩;obtain⟨x1,x2,x3⟩:=j4 l k hk;exact⟨eT h0 x1,eT h0 x2,eT h0 x3⟩
theorem E0 {w:World} {base z n c:Nat} {e:TypeId} {A:Option Addr} {xs:List Value} (h:w.ownsRow base e z (Y A n c) n xs):n<=c/\(A=Z->c=0):=by
 rcases h.2 with⟨hv,h2⟩ | ⟨g,cap',cur,hv,hg,hh,hc,_⟩
 · injection hv with e1 e2 e3;exact⟨by omega,fun _=>e3⟩
 injection hv with e1 e2 e3;exact⟨by omega,fun e=>by rw[e1] at e;cases e⟩
theorem NA {w:World} {base n c:Nat} {A:Option Addr} {ps:List (Int×Int)} {pv:List Value} (h:w.ownsRow base 76 2 (Y A n c) n pv) (hn:ps.length=n) (hf:n<=8796093021952) (hr:∀k,k<n->pv[k*2]? = I (O X (ps.getD k (0,0)).1)/\pv[k*2+1]? = I (O X (ps.getD k (0,0)).2)):tZ w A n c ps:=by
 refine⟨hn,hf,fun hpos => ?_⟩;have h0:=h;rcases h.2 with⟨_,h2⟩ | ⟨g,cap',cur,hv2,hg,hh,_⟩
 · omega
 injection hv2 with e1 e2 e3;subst e1;exact⟨g,0,rfl,(aR h0 rfl).2.1,fun k hk=>⟨eT h0 (hr k hk).1,eT h0 (hr k hk).2⟩⟩
theorem BO.fin {w W:World} {bk:Array Value} {b:Bk} {np:Nat} {pv:List Value} {x0 x3:Value} {A1 A2 Ae:Option Addr} {c1 c2 gA ce:Nat} {vs:List Value} {v:bN} (h:BO w bk b.entries b.orders np pv x0 x3 A1 A2 c1 c2 gA b.entries.length Ae ce vs W) {W0:World} (hb:bV W0 v b) (hnp:b.prims.length=np)
 (hr:∀k,k<np->pv[k*2]? = I (O X (b.prims.getD k (0,0)).1)/\pv[k*2+1]? = I (O X (b.prims.getD k (0,0)).2)) (y0 y1 y2 y3 y4:Value) :
 bV (((((W.setCell ⟨w.heap.size+1,0,Z⟩ y0).setCell ⟨w.heap.size+1,1,Z⟩ y1).setCell ⟨w.heap.size+1,2,Z⟩ y2).setCell ⟨w.heap.size+1,3,Z⟩ y3).setCell ⟨w.heap.size+1,4,Z⟩ y4) ⟨A1,b.orders.length,c1,Ae,b.entries.length,ce,A2,np,c2⟩ b ∧
 Below w.heap.size w (((((W.setCell ⟨w.heap.size+1,0,Z⟩ y0).setCell ⟨w.heap.size+1,1,Z⟩ y1).setCell ⟨w.heap.size+1,2,Z⟩ y2).setCell ⟨w.heap.size+1,3,Z⟩ y3).setCell ⟨w.heap.size+1,4,Z⟩ y4) ∧
 aS (((((W.setCell ⟨w.heap.size+1,0,Z⟩ y0).setCell ⟨w.heap.size+1,1,Z⟩ y1).setCell ⟨w.heap.size+1,2,Z⟩ y2).setCell ⟨w.heap.size+1,3,Z⟩ y3).setCell ⟨w.heap.size+1,4,Z⟩ y4) (w.heap.size+1) 26 #[y0,y1,y2,y3,y4]:=by
 have hg:=(((((bG W (w.heap.size+1) 0 y0).trans (bG _ (w.heap.size+1) 1 y1)).trans (bG _ (w.heap.size+1) 2 y2)).trans (bG _ (w.heap.size+1) 3 y3)).trans (bG _ (w.heap.size+1) 4 y4));have hbl:=((((h.res.set_ 0 y0).set_ 1 y1).set_ 2 y2).set_ 3 y3).set_ 4 y4;generalize (((((W.setCell ⟨w.heap.size+1,0,Z⟩ y0).setCell ⟨w.heap.size+1,1,Z⟩ y1).setCell ⟨w.heap.size+1,2,Z⟩ y2).setCell ⟨w.heap.size+1,3,Z⟩ y3).setCell ⟨w.heap.size+1,4,Z⟩ y4)=Wz at *;have hbs:=h.bel.size;have no:∀{e:TypeId} {z n:Nat} {u:Value} {xs:List Value},W.ownsRow (w.heap.size+2) e z u n xs->u.ownBlock ≠ I (w.heap.size+1):=fun hh e=>by have:=(aR hh e).1;omega
 have e1:=World.ownsRow.kept h.o hg (.inr (no h.o));have e2:=World.ownsRow.kept h.p hg (.inr (no h.p));have e3:=World.ownsRow.kept h.e hg (.inr (no h.e));refine⟨⟨?_,?_,NA e2 hnp (by rw[<-hnp,hb.prims.len];exact hb.prims.few) hr,hb.vars,hb.nat,hb.kinds,hb.primsw⟩,h.bel.grown hg aA (fun g e=>by injection e with e;omega),by simpa using hbl⟩
 · exact H5 e1 (by have:=hb.orders.few;have:=hb.orders.len;omega) (E0 e1).1 (E0 e1).2
 have hens:=h.ens;rw[List.take_of_length_le (Nat.le_refl _)] at hens;exact M7 (S:=fun q=>q<Wz.heap.size) e3 rfl (by have:=hb.entries.few;have:=hb.entries.len;show b.entries.length<=_;omega) (wS.keep (fun q hq=>⟨Nat.lt_of_lt_of_le hq.2.1 hg.size,fun o=>aU (hg.block q hq.2.1 aK) o⟩) _ _ hens) (fun q hq=>hq)
end Go.Proofs.YtjllmblbbgojbaaGreat
