/- Merged: RvI, CopyT, CopyD, CopyB. -/
import Derived.Test.YtjllmblbbgojbaaGreatXRvF
namespace Go.Proofs.YtjllmblbbgojbaaGreat
set_option linter.unusedVariables false
set_option linter.unusedSimpArgs false
open Go.RowKit
open Go.Value renaming slice → O
open Option renaming none → X, some → Y
theorem FM {w0:World} {g:Nat} {v:bN} {b:Bk} (hr:cT b=0) (hb:bV w0 v b) : ∀d,q8 w0 g v b d/\uD w0 g v b d
 | 0=>⟨fun _ _ _ _ _ h=>absurd h aA,fun _ _ _ _ _ _ _ h=>absurd h aA⟩
 | d+1=>by
  obtain⟨h1,h2⟩:=FM hr hb d;have e1:q8 w0 g v b (d+1):=by
   intro w f R t x hf hf1 hw hR ht fx;cases f with
   | zero =>
    have:fO b (d+1) 0 x=.er 10:=by rw[iV];rfl
    rw[this];exact DP hw hR
   | succ m =>
    have hmd:m<d:=aA;have hm1:m<=100000:=aA;cases hv:dC x with
    | true=>exact IH hr hb h1 h2 hmd hm1 hw hR ht fx hv trivial
    | false =>
     by_cases o8:x.1.op=8
     · exact IF hr hb h1 h2 hmd hm1 hw hR ht fx hv o8
     by_cases o7:x.1.op=7
     · exact IG hr hb h1 h2 hmd hm1 hw hR ht fx hv o7
     by_cases o11:x.1.op=11
     · exact AS hr hb h1 h2 hmd hm1 hw hR ht fx hv o11
     exact IE hr hb h1 h2 hmd hm1 hw hR ht fx hv (BV fx hv o7 o8 o11)
  refine⟨e1,fun w f R t x s a hf hf1 hw hR ht hs ox oa => ?_⟩;by_cases o5:(dL x).1.1.op=5
  · exact IJ hr e1 h2 hf hf1 hw hR ht hs ox oa o5
  by_cases o9:(dL x).1.1.op=9\/(dL x).1.1.op=10
  · exact DQ hr e1 h2 hf hf1 hw hR ht hs ox oa o9
  by_cases o12:(dL x).1.1.op=12
  · exact II hr e1 h2 hf hf1 hw hR ht hs ox oa o12
  exact DR hr e1 h2 hf hf1 hw hR ht hs ox oa ⟨o5,fun h=>o9 (.inl h),fun h=>o9 (.inr h),o12⟩
section
open Go.Lib renaming hid->aB
set_option maxHeartbeats 4000000
set_option maxRecDepth 100000
def O9 (l:List Nd) (w:World) (e:Ending) (w':World):Prop:=Below w.heap.size w w'/\∃A c,e=.returned (O A l.length c)/\bR w' w.heap.size (O A l.length c) l
theorem fI {A:Option Addr} {n c:Nat} {l:List Nd} {w:World} (h:bB w A n c l) :
 Calls Tryz.prog 13 #[O A n c] w (O9 l w):=by
 obtain⟨i0,hi,hy0,hy1,hy2⟩:=info_parts kW;have HI0:=aB hi;have HY0:=aB hy0;have HY1:=aB hy1;have HY2:=aB hy2;clear hi hy0 hy1 hy2;have hfew:=h.few;have hln:=h.len;have hb0:=aP w (.cells #[] 40);have HM:=aB (show bB (w.alloc (.cells #[] 40)) A n c l from h.below hb0);have HOWN:Hid (bR (w.alloc (.cells #[] 40)) w.heap.size (O (Y ⟨w.heap.size,0,X⟩) 0 0) []):=aB (World.ownsRow_made w #[] 0 (Nat.le_refl _) (Nat.zero_le _) rfl);have HB:=aB hb0;clear hb0 h;go_in;go_wp2_with (at_builtin;go_loud (refine bM rfl (cQ (.tmp 3) (.tmp 4) 28 28 rfl w.heap.size i0 Tryz.underlying28 Tryz.underlying28 HI0.o HY0.o HY1.o HY2.o (O (Y ⟨w.heap.size,0,X⟩) 0 0) [] l rfl HOWN.o rfl HM.o (by simpa using hfew) aD ?_));intro A4 c4 w4 hown4 happ4)
 go_ret;simp only[List.length_nil,Nat.zero_add,List.nil_append] at hown4;subst hln;exact⟨HB.o.grown happ4.grown HB.o.size (fun g hg=>(aR HOWN.o hg).1),A4,c4,by simp,hown4⟩
theorem eU {w w':World} {A:Option Addr} {n c:Nat} {l:List Nd} (h:bR w' w.heap.size (O A n c) l) (hl:l.length<=5864062014805):bP (fun g=>w.heap.size<=g/\g<w'.heap.size) w' A n c l:=by
 obtain⟨A',n',c',e,ht⟩:=bR.termS h hl;injection e with e1 e2 e3;subst e1 e2 e3;exact ht.keep fun b hb=>⟨⟨(aR h hb).1,(aR h hb).2.1⟩,fun _=>rfl⟩
def N3 (ls:List (List Nd)) (w:World) (e:Ending) (w':World):Prop:=Below w.heap.size w w'/\∃A n c,e=.returned (O A n c)/\dG (fun g=>w.heap.size<=g/\g<w'.heap.size) w' A n c ls
theorem fC {A:Option Addr} {n c:Nat} {ls:List (List Nd)} {w:World} (h:dO w A n c ls) (hn:n<=1000000) :
 Calls Tryz.prog 28 #[O A n c] w (N3 ls w):=by
 obtain⟨i0,hi,hy0,hy1,hy2⟩:=info_parts vK;have HI0:=aB hi;have HY0:=aB hy0;have HY1:=aB hy1;have HY2:=aB hy2;have HR:=aB h;have HL:=aB h.len;clear hi hy0 hy1 hy2 h;go_in;go_wp2_with fail;go_loopw [3,4] (fun ov iv wr=>∃(i d:Nat) (B:Option Addr) (vs:List Value),ov=O B i d/\iv=.int .i64 (i:Int)/\i<=n/\Hid (wr.ownsRow w.heap.size 28 1 (O B i d) i vs)/\Hid (eL (yQ w.heap.size wr (O B i d)) wr vs (ls.take i))/\Hid (Below w.heap.size w wr)) (fun _ iv _=>n-(intOf iv).toNat)
 case atStart=>exact⟨0,0,X,[],rfl,rfl,by omega,aB (World.ownsRow_nil _ _ _ _),aB trivial,aB (Below.refl _ _)⟩
 case round =>
  obtain⟨i,d,B,vs,rfl,rfl,hi,hown,hrows,hbw⟩:=hrel;have hsz:=hbw.o.size;by_cases hlt:i<n;rotate_left
  · have y1:decide ((i:Int)<(n:Int))=false:=decide_eq_false aA;have y2:decide (i<n)=false:=decide_eq_false hlt;obtain rfl:i=n:=aA;have HF:Hid (dG (fun g=>w.heap.size<=g/\g<wr.heap.size) wr B i d ls):=aB (by
     have h1:=hrows.o;rw[List.take_of_length_le (by rw[HL.o];exact Nat.le_refl _)] at h1;exact mI hown.o HL.o.symm aA h1 (fun q hq=>⟨hq.1,hq.2.1⟩) (fun g hg=>⟨(aR hown.o hg).1,(aR hown.o hg).2.1⟩))
    clear hlt;go_wp2_with fail;go_ret;exact⟨hbw.o,B,i,d,rfl,HF.o⟩
  have y1:decide ((i:Int)<(n:Int))=true:=decide_eq_true aA;have y2:decide (i<n)=true:=decide_eq_true hlt;obtain⟨b,off,A1,n1,c1,rfl,hb,g0,t1⟩:=HR.o.at_ hlt;have g0r:=(hbw.o.cell (p:=⟨b,off+i,X⟩) hb).trans g0;have htk:ls.take (i+1)=ls.take i++[ls.getD i []]:=by
   have hil:i<ls.length:=by rw[HL.o];exact hlt
   rw[List.take_succ_eq_append_getElem hil,List.getD_eq_getElem?_getD,List.getElem?_eq_getElem hil];rfl
  have HTK:=aB htk;have hl4:(ls.getD i []).length<=5864062014805:=by have h1:=t1.len;have h2:=t1.few;omega
  have HC:=aB (fI (t1.below hbw.o));generalize ls.getD i []=l at *;clear g0 htk t1;go_wp2_with fail;refine (HC.o).mono ?_;rintro e w3 ⟨hd3,A3,c3,rfl,ho3⟩;have HB3:=aB (hbw.o.trans (hd3.mono hsz));have HO3:=aB (bL hown.o hd3);have hs3:=hd3.size;have HT3:=aB (eU ho3 hl4);have HR3:Hid (eL (yQ w.heap.size w3 (O B i d)) w3 vs (ls.take i)):=aB (eL.keep (fun q hq=>⟨⟨hq.1,Nat.lt_of_lt_of_le hq.2.1 hd3.size,hq.2.2⟩,fun o=>hd3.cell (p:=⟨q,o,X⟩) hq.2.1⟩) hrows.o);have hnb:∀g,(Value.slice B i d).ownBlock=Y g->g<wr.heap.size:=fun g hg=>(aR hown.o hg).2.1;clear hd3 ho3;go_wp2_with (at_builtin;go_loud (refine bM rfl (eX (.tmp 11) (.tmp 17) 65 28 rfl w.heap.size i0 _ 24 Tryz.underlying65 HI0.o HY0.o HY1.o HY2.o rfl aE (O B i d) i vs (O A3 l.length c3) rfl w3 rfl rfl HO3.o _ rfl rfl aA aA ?_));intro A5 c5 w5 happ5)
  have HB5:=aB (HB3.o.grown happ5.grown aA (fun g hg=>(aR HO3.o hg).1));have HO5:=aB happ5.own;have hs5:=happ5.grown.size;have hnew:∀q,q<w3.heap.size->(Value.slice B i d).ownBlock ≠ Y q->(Value.slice A5 (i+1) c5).ownBlock ≠ Y q:=fun q hq h1 e=>by
   rcases happ5.new q e with h2 | h2
   · exact h1 h2
   omega
  have hcell:∀q,q<w3.heap.size->(Value.slice B i d).ownBlock ≠ Y q->∀o,w5.cell? ⟨q,o,X⟩=w3.cell? ⟨q,o,X⟩:=fun q hq h1 o=>aU (happ5.grown.block q hq (fun e=>h1 e.symm)) o;have HR5:Hid (eL (yQ w.heap.size w5 (O A5 (i+1) c5)) w5 (vs++[O A3 l.length c3]) (ls.take (i+1))):=aB (by
   rw[HTK.o];refine eL.add (HT3.o.keep fun q hq => ?_) (eL.keep (fun q hq=>⟨⟨hq.1,by have:=hq.2.1;omega,hnew q hq.2.1 hq.2.2⟩,hcell q hq.2.1 hq.2.2⟩) HR3.o);have hne:(Value.slice B i d).ownBlock ≠ Y q:=fun e=>by have:=hnb q e;have:=hq.1;omega
   exact⟨⟨by have:=hq.1;omega,by have:=hq.2;omega,hnew q hq.2 hne⟩,hcell q hq.2 hne⟩)
  clear happ5 hnew hcell;go_roundw
  case rel=>exact⟨i+1,c5,A5,vs++[O A3 l.length c3],rfl,by go_num,by omega,HO5,HR5,HB5⟩
  case measure=>simp[intOf];omega
end
section
structure BQ (R:Nat->Prop) (w:World) (A:Option Addr) (n c:Nat) (cs:List Ct):Prop where
 len:cs.length=n
 few:n<=5864062014805
 mem:0<n->∃b off,A=Y ⟨b,off,X⟩/\R b/\∀k,k<n->∃A1 n1 c1 A2 n2 c2,w.cell? ⟨b,off+k*2,X⟩=Y (O A1 n1 c1)/\w.cell? ⟨b,off+k*2+1,X⟩=Y (O A2 n2 c2)/\dG R w A1 n1 c1 (cs.getD k default).args/\dG R w A2 n2 c2 (cs.getD k default).outs
theorem BQ.keep {R R':Nat->Prop} {w w':World} {A:Option Addr} {n c:Nat} {cs:List Ct} (h:BQ R w A n c cs) (hR:∀b,R b->R' b/\∀o,w'.cell? ⟨b,o,X⟩=w.cell? ⟨b,o,X⟩):BQ R' w' A n c cs :=
 ⟨h.len,h.few,fun hn=>by
  obtain⟨b,off,e,hb,hm⟩:=h.mem hn;refine⟨b,off,e,(hR b hb).1,fun k hk => ?_⟩;obtain⟨A1,n1,c1,A2,n2,c2,h1,h2,h3,h4⟩:=hm k hk;exact⟨A1,n1,c1,A2,n2,c2,((hR b hb).2 _).trans h1,((hR b hb).2 _).trans h2,h3.keep hR,h4.keep hR⟩⟩
structure I6 (R:Nat->Prop) (w:World) (v:eZ) (x:En):Prop where
 sort:bP R w v.As v.ns v.cs x.sort
 params:dG R w v.Ap v.np v.cp x.params
 indices:dG R w v.Ai v.ni v.ci x.indices
 ctors:BQ R w v.Ac v.nc v.cc x.ctors
 type:bP R w v.At v.nt v.ct x.type
 body:bP R w v.Ab v.nb v.cb x.body
theorem I6.keep {R R':Nat->Prop} {w w':World} {v:eZ} {x:En} (h:I6 R w v x) (hR:∀b,R b->R' b/\∀o,w'.cell? ⟨b,o,X⟩=w.cell? ⟨b,o,X⟩):I6 R' w' v x :=
 ⟨h.sort.keep hR,h.params.keep hR,h.indices.keep hR,h.ctors.keep hR,h.type.keep hR,h.body.keep hR⟩
theorem dG.rowsV {R:Nat->Prop} {w:World} {A:Option Addr} {n c:Nat} {ls:List (List Nd)} (h:dG R w A n c ls) (hR:∀b,R b->b<w.heap.size):dO w A n c ls:=by
 have h2:=h.keep (R':=(· < w.heap.size)) (w':=w) fun b hb=>⟨hR b hb,fun _=>rfl⟩;exact⟨h2.len,h2.few,h2.mem⟩
theorem BQ.ctsV {R:Nat->Prop} {w:World} {A:Option Addr} {n c:Nat} {cs:List Ct} (h:BQ R w A n c cs) (hR:∀b,R b->b<w.heap.size):lI w A n c cs :=
 ⟨h.len,h.few,fun hn=>by
  obtain⟨b,off,e,hb,hm⟩:=h.mem hn;refine⟨b,off,e,hR b hb,fun k hk => ?_⟩;obtain⟨A1,n1,c1,A2,n2,c2,h1,h2,h3,h4⟩:=hm k hk;exact⟨A1,n1,c1,A2,n2,c2,h1,h2,h3.rowsV hR,h4.rowsV hR⟩⟩
theorem I6.enC {R:Nat->Prop} {w:World} {v:eZ} {x:En} (h:I6 R w v x) (hR:∀b,R b->b<w.heap.size):tU w v x :=
 have hk:∀b,R b->b<w.heap.size/\∀o,w.cell? ⟨b,o,X⟩=w.cell? ⟨b,o,X⟩:=fun b hb=>⟨hR b hb,fun _=>rfl⟩
 ⟨h.sort.keep hk,h.params.rowsV hR,h.indices.rowsV hR,h.ctors.ctsV hR,h.type.keep hk,h.body.keep hk⟩
def BP (R:Nat->Prop) (w:World):List Value->List Ct->Prop
 | [],[]=>True
 | v1::v2::xs,c::cs=>(∃A1 n1 c1 A2 n2 c2,v1=O A1 n1 c1/\v2=O A2 n2 c2/\dG R w A1 n1 c1 c.args/\dG R w A2 n2 c2 c.outs)/\BP R w xs cs
 | _,_=>False
theorem BP.keep {R R':Nat->Prop} {w w':World} (hR:∀b,R b->R' b/\∀o,w'.cell? ⟨b,o,X⟩=w.cell? ⟨b,o,X⟩) : ∀{xs:List Value} {cs:List Ct},BP R w xs cs->BP R' w' xs cs
 | [],[],_=>trivial
 | [],_::_,h=>h.elim
 | [_],_,h=>by cases h
 | _::_::_,[],h=>h.elim
 | v1::v2::xs,c::cs,h=>by
  obtain⟨⟨A1,n1,c1,A2,n2,c2,e1,e2,h1,h2⟩,h3⟩:=h;exact⟨⟨A1,n1,c1,A2,n2,c2,e1,e2,h1.keep hR,h2.keep hR⟩,h3.keep hR⟩
theorem BP.add {R:Nat->Prop} {w:World} {A1 A2:Option Addr} {n1 c1 n2 c2:Nat} {c:Ct} (h1:dG R w A1 n1 c1 c.args) (h2:dG R w A2 n2 c2 c.outs) : ∀{xs:List Value} {cs:List Ct},BP R w xs cs->BP R w (xs++[O A1 n1 c1,O A2 n2 c2]) (cs++[c])
 | [],[],_=>⟨⟨A1,n1,c1,A2,n2,c2,rfl,rfl,h1,h2⟩,trivial⟩
 | [],_::_,h=>h.elim
 | [_],_,h=>by cases h
 | _::_::_,[],h=>h.elim
 | _::_::_,_::_,h=>⟨h.1,h.2.add h1 h2⟩
theorem BP.at_ {R:Nat->Prop} {w:World} : ∀{xs:List Value} {cs:List Ct} (k:Nat),BP R w xs cs->k<cs.length->∃A1 n1 c1 A2 n2 c2,xs[k*2]? = Y (O A1 n1 c1)/\xs[k*2+1]? = Y (O A2 n2 c2)/\dG R w A1 n1 c1 (cs.getD k default).args/\dG R w A2 n2 c2 (cs.getD k default).outs
 | [],[],_,_,hk=>absurd hk aD
 | [],_::_,_,h,_=>h.elim
 | [_],_,_,h,_=>by cases h
 | _::_::_,[],_,h,_=>h.elim
 | v1::v2::xs,c::cs,0,h,_=>by
  obtain⟨⟨A1,n1,c1,A2,n2,c2,rfl,rfl,h1,h2⟩,_⟩:=h;exact⟨A1,n1,c1,A2,n2,c2,by simp,by simp,by simpa using h1,by simpa using h2⟩
 | v1::v2::xs,c::cs,k+1,h,hk=>by
  obtain⟨A1,n1,c1,A2,n2,c2,e1,e2,h1,h2⟩:=BP.at_ k h.2 (by simpa using hk);rw[show (k+1)*2=k*2+1+1 from by omega];exact⟨A1,n1,c1,A2,n2,c2,by simpa using e1,by simpa using e2,by simpa using h1,by simpa using h2⟩
theorem eT {w:World} {base j d z g:Nat} {e:TypeId} {xs:List Value} (h:w.ownsRow base e z (O (Y ⟨g,0,X⟩) j d) j xs) {i:Nat} {u:Value} (hu:xs[i]? = Y u):w.cell? ⟨g,0+i,X⟩=Y u:=by
 have h1:=World.ownsRow.cells h (g:=g) rfl i u hu;have ea:(⟨g,0,X⟩:Addr).add i=⟨g,0+i,X⟩:=by unfold Addr.add;split<;>simp_all
 rw[ea] at h1;exact h1
theorem M6 {R S:Nat->Prop} {w:World} {base n c:Nat} {A:Option Addr} {xs:List Value} {cs:List Ct} (h:w.ownsRow base 71 2 (O A n c) n xs) (hn:cs.length=n) (hf:n<=5864062014805) (hr:BP S w xs cs) (hS:∀b,S b->R b) (hv:∀g,(Value.slice A n c).ownBlock=Y g->R g):BQ R w A n c cs:=by
 refine⟨hn,hf,fun hpos => ?_⟩;have h0:=h;rcases h.2 with⟨_,h2⟩ | ⟨g,cap',cur,hv2,hg,hh,_⟩
 · omega
 injection hv2 with e1 e2 e3;subst e1;refine⟨g,0,rfl,hv g rfl,fun k hk => ?_⟩;obtain⟨A1,n1,c1,A2,n2,c2,x1,x2,h1,h2⟩:=hr.at_ k aA;have hk2:∀b,S b->R b/\∀o,w.cell? ⟨b,o,X⟩=w.cell? ⟨b,o,X⟩:=fun b hb=>⟨hS b hb,fun _=>rfl⟩;exact⟨A1,n1,c1,A2,n2,c2,eT h0 x1,eT h0 x2,h1.keep hk2,h2.keep hk2⟩
def wS (R:Nat->Prop) (w:World):List En->List Value->Prop
 | [],xs=>xs=[]
 | x::es,xs=>∃(v:eZ) (ys:List Value),xs=[.int .i64 x.kind,O v.As v.ns v.cs,O v.Ap v.np v.cp,O v.Ai v.ni v.ci,O v.Ac v.nc v.cc,O v.At v.nt v.ct,O v.Ab v.nb v.cb]++ys/\I6 R w v x/\wS R w es ys
theorem wS.keep {R R':Nat->Prop} {w w':World} (hR:∀b,R b->R' b/\∀o,w'.cell? ⟨b,o,X⟩=w.cell? ⟨b,o,X⟩) : ∀(es:List En) (xs:List Value),wS R w es xs->wS R' w' es xs
 | [],_,h=>h
 | x::es,xs,⟨v,ys,e,hq,h2⟩=>⟨v,ys,e,hq.keep hR,wS.keep hR es ys h2⟩
theorem wS.add {R:Nat->Prop} {w:World} {v:eZ} {x:En} (hq:I6 R w v x) : ∀(es:List En) (xs:List Value),wS R w es xs->wS R w (es++[x]) (xs++[.int .i64 x.kind,O v.As v.ns v.cs,O v.Ap v.np v.cp,O v.Ai v.ni v.ci,O v.Ac v.nc v.cc,O v.At v.nt v.ct,O v.Ab v.nb v.cb])
 | [],xs,h=>by
  have:xs=[]:=h;subst this;exact⟨v,[],by simp,hq,rfl⟩
 | y::es,xs,⟨u,ys,e,hq2,h2⟩=>⟨u,ys++[.int .i64 x.kind,O v.As v.ns v.cs,O v.Ap v.np v.cp,O v.Ai v.ni v.ci,O v.Ac v.nc v.cc,O v.At v.nt v.ct,O v.Ab v.nb v.cb],by rw[e,List.append_assoc],hq2,wS.add hq es ys h2⟩
theorem wS.at_ {R:Nat->Prop} {w:World} : ∀(es:List En) (xs:List Value) (k:Nat),wS R w es xs->k<es.length->∃v:eZ,xs[k*7]? = Y (.int .i64 (es.getD k default).kind)/\xs[k*7+1]? = Y (O v.As v.ns v.cs)/\xs[k*7+2]? = Y (O v.Ap v.np v.cp)/\xs[k*7+3]? = Y (O v.Ai v.ni v.ci)/\xs[k*7+4]? = Y (O v.Ac v.nc v.cc)/\xs[k*7+5]? = Y (O v.At v.nt v.ct)/\xs[k*7+6]? = Y (O v.Ab v.nb v.cb)/\I6 R w v (es.getD k default)
 | [],_,_,_,hk=>absurd hk aD
 | x::es,xs,0,⟨v,ys,e,hq,h2⟩,hk=>by
  subst e;exact⟨v,by simp,by simp,by simp,by simp,by simp,by simp,by simp,by simpa using hq⟩
 | x::es,xs,k+1,⟨v,ys,e,hq,h2⟩,hk=>by
  obtain⟨u,e0,e1,e2,e3,e4,e5,e6,hq2⟩:=wS.at_ es ys k h2 (by simpa using hk);subst e;rw[show (k+1)*7=k*7+1+1+1+1+1+1+1 from by omega];exact⟨u,by simpa using e0,by simpa using e1,by simpa using e2,by simpa using e3,by simpa using e4,by simpa using e5,by simpa using e6,by simpa using hq2⟩
theorem M7 {S:Nat->Prop} {w:World} {base n c:Nat} {A:Option Addr} {xs:List Value} {es:List En} (h:w.ownsRow base 68 7 (O A n c) n xs) (hn:es.length=n) (hf:n<=5864062014805) (hr:wS S w es xs) (hS:∀b,S b->b<w.heap.size):rP w A n c es:=by
 refine⟨hn,hf,fun hpos => ?_⟩;have h0:=h;rcases h.2 with⟨_,h2⟩ | ⟨g,cap',cur,hv2,hg,hh,_⟩
 · omega
 injection hv2 with e1 e2 e3;subst e1;refine⟨g,0,rfl,(aR h0 rfl).2.1,fun k hk => ?_⟩;obtain⟨v,x0,x1,x2,x3,x4,x5,x6,hq⟩:=wS.at_ es xs k hr aA;exact⟨v,eT h0 x0,eT h0 x1,eT h0 x2,eT h0 x3,eT h0 x4,eT h0 x5,eT h0 x6,hq.enC hS⟩
end
section
theorem PG:(Tryz.prog.info? 73).map (fun i=>(i.zero,i.size,i.bytes))=Y (Y (.agg #[.int .i64 0,.int .i64 0,.int .i64 0]),3,24):=by kernel_rfl
theorem PH:(Tryz.prog.info? 76).map (fun i=>(i.zero,i.size,i.bytes))=Y (Y (.agg #[.int .i64 0,.int .i64 0]),2,16):=by kernel_rfl
abbrev wV:Array Value:=#[.int .i64 0,O X 0 0,O X 0 0,.int .i64 0,O X 0 0]
structure gM (w:World) (bk:Array Value) (os:List Nd) (np:Nat) (pv:List Value) (s1 s2 sA:Nat) (v1 v2:Value) (gA:Nat) (W:World):Prop where
 bel:Below w.heap.size w W
 box:aS W w.heap.size 26 bk
 res:aS W (w.heap.size+1) 26 wV
 o1:s1=1->W.ownsRow (w.heap.size+2) 73 3 v1 0 []
 o2:s1=2->W.ownsRow (w.heap.size+2) 73 3 v1 os.length (fS os)
 p1:s2=1->W.ownsRow (w.heap.size+2) 76 2 v2 0 []
 p2:s2=2->W.ownsRow (w.heap.size+2) 76 2 v2 np pv
 n1:s1<=2
 n2:s2<=2
 al:sA=1->aS W gA 26 wV/\w.heap.size+2<=gA
 s12:0<s1->0<s2->uV v1 v2
 s1A:0<s1->sA=1->v1.ownBlock ≠ Y gA
 s2A:0<s2->sA=1->v2.ownBlock ≠ Y gA
section
variable {w W : World} {bk : Array Value} {os : List Nd} {np : Nat} {pv : List Value} {s1 s2 sA : Nat} {v1 v2 : Value} {gA : Nat}
theorem gM.big (h:gM w bk os np pv s1 s2 sA v1 v2 gA W):w.heap.size+2<=W.heap.size:=h.res.lt
theorem gM.lt1 (h:gM w bk os np pv s1 s2 sA v1 v2 gA W) (h1:0<s1) {g:Nat} (hg:v1.ownBlock=Y g):w.heap.size+2<=g/\g<W.heap.size:=by
 have:=h.n1;rcases Nat.lt_or_ge s1 2 with h2 | h2
 · obtain⟨a,b,_⟩:=aR (h.o1 aA) hg;exact⟨a,b⟩
 obtain⟨a,b,_⟩:=aR (h.o2 aA) hg;exact⟨a,b⟩
theorem gM.lt2 (h:gM w bk os np pv s1 s2 sA v1 v2 gA W) (h1:0<s2) {g:Nat} (hg:v2.ownBlock=Y g):w.heap.size+2<=g/\g<W.heap.size:=by
 have:=h.n2;rcases Nat.lt_or_ge s2 2 with h2 | h2
 · obtain⟨a,b,_⟩:=aR (h.p1 aA) hg;exact⟨a,b⟩
 obtain⟨a,b,_⟩:=aR (h.p2 aA) hg;exact⟨a,b⟩
theorem gM.drew (h:gM w bk os np pv s1 s2 sA v1 v2 gA W):gM w bk os np pv s1 s2 sA v1 v2 gA W.drew:=⟨aV h.bel 1,h.box.drewN 1,h.res.drewN 1,h.o1,h.o2,h.p1,h.p2,h.n1,h.n2,fun e=>⟨(h.al e).1.drewN 1,(h.al e).2⟩,h.s12,h.s1A,h.s2A⟩
theorem gM.b1 (h:gM w bk os np pv 0 s2 sA v1 v2 gA W):gM w bk os np pv 1 s2 sA (O (Y ⟨W.heap.size,0,X⟩) 0 0) v2 gA (W.alloc (.cells #[] 73)):=by
 have hb:=h.big;have ho:∀g,(Value.slice (Y ⟨W.heap.size,0,X⟩) 0 0).ownBlock=Y g->g=W.heap.size:=fun g e=>by injection e with e;exact e.symm
 refine⟨h.bel.alloc aA _,h.box.alloc _,h.res.alloc _,fun _=>World.ownsRow_made W #[] 0 aA (Nat.zero_le _) rfl,fun e=>(by cases e),fun e=>World.ownsRow.alloc (h.p1 e) _,fun e=>World.ownsRow.alloc (h.p2 e) _,by omega,h.n2,fun e=>⟨(h.al e).1.alloc _,(h.al e).2⟩,fun _ h2 g e1 e2 => ?_,fun _ h2 e => ?_,h.s2A⟩
 · have:=ho g e1;have:=(h.lt2 h2 e2).2;omega
 have:=ho _ e;have:=(h.al h2).1.lt;omega
theorem gM.b2 (h:gM w bk os np pv s1 0 sA v1 v2 gA W):gM w bk os np pv s1 1 sA v1 (O (Y ⟨W.heap.size,0,X⟩) 0 0) gA (W.alloc (.cells #[] 76)):=by
 have hb:=h.big;have ho:∀g,(Value.slice (Y ⟨W.heap.size,0,X⟩) 0 0).ownBlock=Y g->g=W.heap.size:=fun g e=>by injection e with e;exact e.symm
 refine⟨h.bel.alloc aA _,h.box.alloc _,h.res.alloc _,fun e=>World.ownsRow.alloc (h.o1 e) _,fun e=>World.ownsRow.alloc (h.o2 e) _,fun _=>World.ownsRow_made W #[] 0 aA (Nat.zero_le _) rfl,fun e=>(by cases e),h.n1,by omega,fun e=>⟨(h.al e).1.alloc _,(h.al e).2⟩,fun h1 _ g e1 e2 => ?_,h.s1A,fun _ h2 e => ?_⟩
 · have:=ho g e2;have:=(h.lt1 h1 e1).2;omega
 have:=ho _ e;have:=(h.al h2).1.lt;omega
theorem gM.a (h:gM w bk os np pv s1 s2 0 v1 v2 gA W):gM w bk os np pv s1 s2 1 v1 v2 W.heap.size (W.alloc (.cells wV 26)):=by
 have hb:=h.big;refine⟨h.bel.alloc aA _,h.box.alloc _,h.res.alloc _,fun e=>World.ownsRow.alloc (h.o1 e) _,fun e=>World.ownsRow.alloc (h.o2 e) _,fun e=>World.ownsRow.alloc (h.p1 e) _,fun e=>World.ownsRow.alloc (h.p2 e) _,h.n1,h.n2,fun _=>⟨aS.new W _ _,hb⟩,h.s12,fun h1 _ e => ?_,fun h2 _ e => ?_⟩
 · have:=(h.lt1 h1 e).2;omega
 have:=(h.lt2 h2 e).2;omega
theorem gM.q1 (h:gM w bk os np pv 1 s2 sA v1 v2 gA W) {W':World} {A:Option Addr} {c:Nat} (ha:eH W W' (w.heap.size+2) 73 3 v1 A os.length c (fS os)):gM w bk os np pv 2 s2 sA (O A os.length c) v2 gA W':=by
 have hb:=h.big;have hne:∀g,g<w.heap.size+2->Y g ≠ v1.ownBlock:=fun g hg e=>by have:=(h.lt1 aA e.symm).1;omega
 refine⟨h.bel.grown ha.grown aA (fun g e=>by have:=(h.lt1 aA e).1;omega),h.box.grown ha.grown (hne _ aA),h.res.grown ha.grown (hne _ aA),fun e=>(by cases e),fun _=>ha.own,fun e=>j5 (h.p1 e) ha.grown (uV.symm (h.s12 aA aA)),fun e=>j5 (h.p2 e) ha.grown (uV.symm (h.s12 aA aA)),by omega,h.n2,fun e=>⟨(h.al e).1.grown ha.grown (fun e2=>h.s1A aA e e2.symm),(h.al e).2⟩,fun _ h2 g e1 e2 => ?_,fun _ h2 e => ?_,h.s2A⟩
 · rcases ha.new g e1 with h3 | h3
   · exact h.s12 aA h2 g h3 e2
   have:=(h.lt2 h2 e2).2;omega
 rcases ha.new _ e with h3 | h3
 · exact h.s1A aA h2 h3
 have:=(h.al h2).1.lt;omega
theorem gM.q2 (h:gM w bk os np pv s1 1 sA v1 v2 gA W) {W':World} {A:Option Addr} {c:Nat} (ha:eH W W' (w.heap.size+2) 76 2 v2 A np c pv):gM w bk os np pv s1 2 sA v1 (O A np c) gA W':=by
 have hb:=h.big;have hne:∀g,g<w.heap.size+2->Y g ≠ v2.ownBlock:=fun g hg e=>by have:=(h.lt2 aA e.symm).1;omega
 refine⟨h.bel.grown ha.grown aA (fun g e=>by have:=(h.lt2 aA e).1;omega),h.box.grown ha.grown (hne _ aA),h.res.grown ha.grown (hne _ aA),fun e=>j5 (h.o1 e) ha.grown (h.s12 aA aA),fun e=>j5 (h.o2 e) ha.grown (h.s12 aA aA),fun e=>(by cases e),fun _=>ha.own,h.n1,by omega,fun e=>⟨(h.al e).1.grown ha.grown (fun e2=>h.s2A aA e e2.symm),(h.al e).2⟩,fun h1 _ g e1 e2 => ?_,h.s1A,fun _ h2 e => ?_⟩
 · rcases ha.new g e2 with h3 | h3
   · exact h.s12 h1 aA g e1 h3
   have:=(h.lt1 h1 e1).2;omega
 rcases ha.new _ e with h3 | h3
 · exact h.s2A aA h2 h3
 have:=(h.al h2).1.lt;omega
structure PR (w:World) (bk:Array Value) (os:List Nd) (np:Nat) (pv:List Value) (x0 x3:Value) (A1 A2:Option Addr) (c1 c2 gA:Nat) (W:World):Prop where
 bel:Below w.heap.size w W
 box:aS W w.heap.size 26 bk
 res:aS W (w.heap.size+1) 26 wV
 out:aS W gA 26 #[x0,O A1 os.length c1,O X 0 0,x3,O A2 np c2]
 ge:w.heap.size+2<=gA
 o:W.ownsRow (w.heap.size+2) 73 3 (O A1 os.length c1) os.length (fS os)
 p:W.ownsRow (w.heap.size+2) 76 2 (O A2 np c2) np pv
 oA:(Value.slice A1 os.length c1).ownBlock ≠ Y gA
 pA:(Value.slice A2 np c2).ownBlock ≠ Y gA
theorem gM.fin {A1 A2:Option Addr} {c1 c2:Nat} (h:gM w bk os np pv 2 2 1 (O A1 os.length c1) (O A2 np c2) gA W) (x0 x3:Value):PR w bk os np pv x0 x3 A1 A2 c1 c2 gA (((((W.setCell ⟨gA,0,X⟩ x0).setCell ⟨gA,1,X⟩ (O A1 os.length c1)).setCell ⟨gA,2,X⟩ (O X 0 0)).setCell ⟨gA,3,X⟩ x3).setCell ⟨gA,4,X⟩ (O A2 np c2)):=by
 obtain⟨ha,hge⟩:=h.al rfl;have hg:=(((((bG W gA 0 x0).trans (bG _ gA 1 (O A1 os.length c1))).trans (bG _ gA 2 (O X 0 0))).trans (bG _ gA 3 x3)).trans (bG _ gA 4 (O A2 np c2)));have hb:=((((ha.set_ 0 x0).set_ 1 (O A1 os.length c1)).set_ 2 (O X 0 0)).set_ 3 x3).set_ 4 (O A2 np c2);have hbig:=h.big;refine⟨h.bel.grown hg aA (fun g e=>by injection e with e;omega),h.box.grown hg aK,h.res.grown hg aK,by simpa using hb,hge,?_,?_,h.s1A aA rfl,h.s2A aA rfl⟩
 · exact World.ownsRow.kept (h.o2 rfl) hg (.inr (h.s1A aA rfl))
 exact World.ownsRow.kept (h.p2 rfl) hg (.inr (h.s2A aA rfl))
end
end
end Go.Proofs.YtjllmblbbgojbaaGreat
