/- Merged: RefFs, RvW, RvS, Raise. -/
import Derived.Test.YtjllmblbbgojbaaGreatXRefGd
import Derived.Test.YtjllmblbbgojbaaGreatXReads
namespace Go.Proofs.YtjllmblbbgojbaaGreat
set_option linter.unusedVariables false
set_option linter.unusedSimpArgs false
open Go.RowKit
open Go.Value renaming int → O, slice → Z
open Go.IntKind renaming i64 → X
open Option renaming none → Y, some → I
section

theorem DH {w:World} {base j d z:Nat} {B:Option Addr} {e:TypeId} {xs:List Value} (h:w.ownsRow base e z (Z B j d) j xs) : ∀ad,B=I ad->∀i u,xs[i]? = I u->w.cell? (ad.add i)=I u:=by
 intro ad he i u hu;have h0:=h;rcases h.2 with⟨hv,_⟩ | ⟨g,cap,cur,hv,_⟩
 · injection hv with e1;rw[he] at e1;cases e1
 injection hv with e1;rw[he] at e1;injection e1 with e1;subst e1;subst he;exact World.ownsRow.cells h0 (g:=g) rfl i u hu
theorem H6 {w:World} {base j d z:Nat} {B:Option Addr} {e:TypeId} {xs:List Value} (h:w.ownsRow base e z (Z B j d) j xs):B=Y->j=0:=by
 intro hB;rcases h.2 with⟨_,h2⟩ | ⟨g,cap,cur,hv,_⟩
 · exact h2
 injection hv with e1;rw[hB] at e1;cases e1
theorem xI {R:Nat->Prop} {w:World} : ∀(F:Fo) (xs:List Value),jW R w F xs->∀u ∈ xs,u.oneCell'=true
 | .nil,xs,h,u,hu=>by
  have:xs=[]:=h;subst this;cases hu
 | .cons _ n atoms kids next,xs,h,u,hu=>by
  obtain⟨ys,zs,rfl,⟨sk,sa,sf,rfl,⟨_,_,_,rfl,_⟩,⟨_,_,_,rfl,_⟩,⟨_,_,_,rfl,_⟩⟩,h2⟩:=h;rcases List.mem_append.1 hu with hu | hu
  · simp only[List.mem_cons,List.not_mem_nil,or_false] at hu;rcases hu with rfl | rfl | rfl | rfl | rfl | rfl<;>rfl
  · exact xI next zs h2 u hu
theorem CZ {F:Fo} {i:Nat} (h:i<(cW F).length):(cW F).drop i=dY F i::(cW F).drop (i+1):=by
 rw[List.drop_eq_getElem_cons h];unfold dY;rw[List.getD_eq_getElem?_getD,List.getElem?_eq_getElem h];rfl
end
section
def dJ (R:Nat->Prop) (w:World) (t:iL) (x:TT):Prop:=cJ R w [O X x.1.op,O X x.1.a,O X x.1.b,Z t.Ak t.nk t.ck,Z t.Aa t.na t.ca,Z t.Af t.nf t.cf] x.1 x.2.1 x.2.2
section
variable {R R' : Nat->Prop} {w w' : World} {t : iL} {x : TT}
theorem dJ.keep (h:dJ R w t x) (hk:∀b,R b->R' b/\∀o,w'.cell? ⟨b,o,Y⟩=w.cell? ⟨b,o,Y⟩):dJ R' w' t x:=cJ.keep h hk
theorem dJ.below (h:dJ R w t x) (hR:∀b,R b->b<w.heap.size) (hb:Below w.heap.size w w'):dJ R w' t x:=h.keep fun b hb2=>⟨hb2,fun o=>hb.cell (p:=⟨b,o,Y⟩) (hR b hb2)⟩
theorem dJ.kids (h:dJ R w t x):fN R w t.Ak t.nk t.ck x.2.2:=by
 obtain⟨sk,sa,sf,he,⟨A,n,c,rfl,hk⟩,_,_⟩:=h;simp only[List.cons.injEq,Value.slice.injEq,true_and,and_true] at he;obtain⟨⟨rfl,rfl,rfl⟩,_,_⟩:=he;exact hk
theorem dJ.atoms (h:dJ R w t x):bP R w t.Aa t.na t.ca x.2.1:=by
 obtain⟨sk,sa,sf,he,_,⟨A,n,c,rfl,hk⟩,_⟩:=h;simp only[List.cons.injEq,Value.slice.injEq,true_and,and_true] at he;obtain⟨_,⟨rfl,rfl,rfl⟩,_⟩:=he;exact hk
theorem dJ.funs (h:dJ R w t x):bP R w t.Af t.nf t.cf (cH x.2.2):=by
 obtain⟨sk,sa,sf,he,_,_,⟨A,n,c,rfl,hk⟩⟩:=h;simp only[List.cons.injEq,Value.slice.injEq,true_and,and_true] at he;obtain⟨_,_,⟨rfl,rfl,rfl⟩⟩:=he;exact hk
theorem dJ.nk (h:dJ R w t x):t.nk=(cW x.2.2).length:=by rw[vG,h.kids.len]
theorem fN.nthR {A:Option Addr} {n c:Nat} {F:Fo} (h:fN R w A n c F) {j:Nat} (hj:j<n) : ∃b o t,A=I ⟨b,o,Y⟩/\R b/\I9 w b (o+j*6) t (dY F j).1/\dJ R w t (dY F j):=by
 obtain⟨b,off,e,hr,hf⟩:=h.mem aA;obtain⟨t,h1,h2⟩:=rQ.nth_ F b off j hf (by rw[h.len];exact hj);exact⟨b,off,t,e,hr,h1,h2⟩
theorem dJ.kid (h:dJ R w t x) {j:Nat} (hj:j<t.nk) : ∃b o t',t.Ak=I ⟨b,o,Y⟩/\R b/\I9 w b (o+j*6) t' (dY x.2.2 j).1/\dJ R w t' (dY x.2.2 j):=h.kids.nthR hj
end
def N8 (R:Nat->Prop) (w:World) (x:TT) (e:Ending) (w':World):Prop:=Below w.heap.size w w'/\∃t:iL,e=.returned (.agg (eD t x.1))/\dJ (aZ R w w') w' t x
theorem L3 {R:Nat->Prop} {w:World} {xs:List Value} {x:TT} (h:cJ R w xs x.1 x.2.1 x.2.2) : ∃t:iL,xs.toArray=eD t x.1/\dJ R w t x:=by
 have h0:=h;obtain⟨sk,sa,sf,rfl,⟨A,n,c,rfl,hk⟩,⟨B,m,d,rfl,ha⟩,⟨C,p,e,rfl,hf⟩⟩:=h;exact⟨⟨A,n,c,B,m,d,C,p,e⟩,rfl,h0⟩
theorem fG.tt {R:Nat->Prop} {w w':World} {x:TT} {e:Ending} (h:fG R w x.1 x.2.1 x.2.2 e w'):N8 R w x e w':=by
 obtain⟨hb,ys,he,ht⟩:=h;obtain⟨t,h1,h2⟩:=L3 ht;exact⟨hb,t,by rw[he,h1],h2⟩
def mE:List TT->Fo
 | []=>.nil
 | y::r=>.cons [] y.1 y.2.1 y.2.2 (mE r)
theorem zY:∀L,cW (mE L)=L
 | []=>rfl
 | y::r=>by simp only[mE,cW,zY r]
theorem iW:∀L,bH (mE L)=L.length
 | []=>rfl
 | y::r=>by simp only[mE,bH,iW r,List.length_cons]
theorem kF (L:List TT) (j:Nat):dY (mE L) j=L.getD j P6:=by unfold dY;rw[zY]
theorem aZ.lt {R:Nat->Prop} {w w':World} {b:Nat} (hR:∀b,R b->b<w.heap.size) (hb:Below w.heap.size w w') (h:aZ R w w' b):b<w'.heap.size:=by
 rcases h with h | h
 · have:=hR b h;have:=hb.size;omega
 exact h.2
theorem aZ.to {R:Nat->Prop} {w V w' w2:World} {b:Nat} (h:aZ R V w' b) (h1:w.heap.size<=V.heap.size) (h2:w'.heap.size<=w2.heap.size):aZ R w w2 b:=by
 rcases h with h | h
 · exact .inl h
 exact .inr ⟨by have:=h.1;omega,by have:=h.2;omega⟩
theorem aZ.idem {R:Nat->Prop} {w V w' w2:World} {b:Nat} (h:aZ (aZ R w V) V w' b) (h1:w.heap.size<=V.heap.size) (h3:V.heap.size<=w2.heap.size) (h2:w'.heap.size<=w2.heap.size):aZ R w w2 b:=by
 rcases h with h | h
 · exact h.to (Nat.le_refl _) h3
 exact .inr ⟨by have:=h.1;omega,by have:=h.2;omega⟩
def yG:List TT->Nat
 | []=>0
 | y::r=>cL y+yG r
theorem FP:∀F:Fo,(row F).length=(cH F).length+yG (cW F)
 | .nil=>rfl
 | .cons p n a k x=>by
  have h:=FP x;simp only[row,cH,cW,yG,List.length_append,List.length_cons,eI] at h ⊢;omega
theorem NR (x:TT):cL x=1+x.2.1.length+(cH x.2.2).length+yG (cW x.2.2):=by
 obtain⟨n,a,k⟩:=x;rw[eI,FP];simp only;omega
end
section
open Go.Lib renaming hid->aB
set_option maxRecDepth 100000 in
set_option maxHeartbeats 8000000 in
theorem DV (m:Nat) (ih:∀(w:World) (R:Nat->Prop) (t:iL) (x:TT),(∀b,R b->b<w.heap.size)->dJ R w t x->cL x<m->cL x<=1000000000 →
      Calls Tryz.prog 108 #[.agg (eD t x.1)] w (dZ ((cL x:Nat):Int) w))
 (w:World) (R:Nat->Prop) (t:iL) (x:TT) (hR:∀b,R b->b<w.heap.size) (ht:dJ R w t x) (hm:cL x<=m) (hmax:cL x<=1000000000) :
 Calls Tryz.prog 108 #[.agg (eD t x.1)] w (dZ ((cL x:Nat):Int) w):=by
 have HI:=aB ih;have HR:=aB hR;have HT:=aB ht;have hsum:=NR x;have hla:=ht.atoms.len;have hlf:=ht.funs.len;have hnk:=ht.nk;obtain⟨S,hS⟩ : ∃S,S=cL x:=⟨_,rfl⟩;obtain⟨L,hL⟩ : ∃L,L=cW x.2.2:=⟨_,rfl⟩;rw[<-hS,<-hL,hla,hlf] at hsum;rw[<-hL] at hnk;rw[<-hS] at hm hmax ⊢;have HL:=aB hL;have HSX:=aB hS;have HNK:=aB hnk;have HB1:=aB (aP w (.cells (eD t x.1) 49));have HK1:Hid (aS (w.alloc (.cells (eD t x.1) 49)) w.heap.size 49 (eD t x.1)):=aB (aS.new _ _ _);obtain⟨⟨op,va,vb⟩,ats,k⟩:=x;obtain⟨Ak,nk,ck,Aa,na,ca,Af,nf,cf⟩:=t;simp only at hsum HNK HK1 HB1 HL ⊢;have hLn:L.length=nk:=HNK.o.symm;have hge:∀l:List TT,l.length<=yG l:=by
  intro l
  induction l with
  | nil=>exact Nat.le_refl _
  | cons y r ih2 =>
   simp only[List.length_cons,yG];have h1:1<=cL y:=(by obtain⟨n,a,k⟩:=y;rw[eI];omega);omega
 have hnk4:nk<=1000000000:=by have:=hge L;omega
 have hwr:∀z:Nat,z<=3000000000->IntKind.i64.wrap (z:Int)=(z:Int):=fun z hz=>by rw[IntKind.wrap_i64];omega
 have hw1:IntKind.i64.wrap (1+(na:Int))=((1+na:Nat):Int):=by rw[show (1:Int)+(na:Int)=((1+na:Nat):Int) from by omega];exact hwr _ aA
 have hw2:IntKind.i64.wrap (((1+na:Nat):Int)+(nf:Int))=((1+na+nf:Nat):Int):=by rw[show ((1+na:Nat):Int)+(nf:Int)=((1+na+nf:Nat):Int) from by omega];exact hwr _ aA
 have hbnd:1+na+nf<=1000000000:=aA;have HSM:=aB hsum;have HMX:=aB (And.intro hm hmax);have HWR:=aB hwr;clear hm hmax ih hR ht hsum hla hlf hnk hS hL hge hwr HNK;go_in;go_wp2_with fail;go_loopw [3,4] (fun nv iv wr=>∃(i s:Nat),nv=O X (s:Int)/\iv=O X (i:Int)/\i<=nk/\1<=s/\Hid (s+yG (L.drop i)=S)/\Hid (Below w.heap.size w wr)/\Hid (aS wr w.heap.size 49 #[O X op,O X va,O X vb,Z Ak nk ck,Z Aa na ca,Z Af nf cf])) (fun _ iv _=>nk-(intOf iv).toNat)
 case atStart=>exact⟨0,1+na+nf,by first | rfl | (rw[hw2]) | (rw[hw1,hw2]) | go_num,rfl,Nat.zero_le _,by omega,aB (by rw[List.drop_zero];exact HSM.o.symm),HB1,HK1⟩
 case round =>
  clear HB1 HK1;obtain⟨i,s,rfl,rfl,hi,hs1,hs,hbw,hkb⟩:=hrel;have zc:=aS.cell hkb.o;have zc3:=zc 3;by_cases hlt:i<nk;rotate_left
  · have hd:decide ((i:Int)<(nk:Int))=false:=decide_eq_false aA;have hd2:decide (i<nk)=false:=decide_eq_false hlt;have hs2:=hs.o;rw[List.drop_of_length_le aA] at hs2;simp only[yG,Nat.add_zero] at hs2;subst hs2;clear hlt;go_wp2_with fail;go_ret;exact⟨rfl,hbw.o⟩
  have hd:decide ((i:Int)<(nk:Int))=true:=decide_eq_true aA;have hkid:=dJ.kid HT.o (j:=i) hlt;simp only at hkid;obtain⟨b,o,t',hA,hb0,hc,ht'⟩:=hkid;subst hA;have hc':=hc.below hbw.o (HR.o b hb0);have hdr:L.drop i=dY k i::L.drop (i+1):=by rw[HL.o];exact CZ (by rw[<-HL.o];omega)
  have hsz:=hs.o;rw[hdr] at hsz;simp only[yG] at hsz;have hmx:=HMX.o;have HC:=aB (HI.o wr R t' (dY k i) (fun b' hb'=>Nat.lt_of_lt_of_le (HR.o b' hb') hbw.o.size) (ht'.below HR.o hbw.o) aA aA);generalize dY k i=y at *;obtain⟨z,hz⟩ : ∃z,z=cL y:=⟨_,rfl⟩;rw[<-hz] at HC hsz;have hw3:IntKind.i64.wrap ((s:Int)+(z:Int))=((s+z:Nat):Int):=by rw[show (s:Int)+(z:Int)=((s+z:Nat):Int) from by omega];exact HWR.o _ aA
  obtain⟨⟨yo,ya,yb⟩,yats,yk⟩:=y;obtain⟨Ak1,nk1,ck1,Aa1,na1,ca1,Af1,nf1,cf1⟩:=t';obtain⟨y0,y1,y2,y3,y4,y5⟩:=hc';simp only at y0 y1 y2 y3 y4 y5 HC;have HSZ:=aB hsz;clear hc ht' hdr hsz hmx hz;go_wp2_with fail;refine (HC.o).mono ?_;rintro e w2 ⟨rfl,hb2⟩;have HB2:=dA hbw hb2;have HK2:=aB (hkb.o.below hb2 hkb.o.lt);clear hb2 y0 y1 y2 y3 y4 y5 zc zc3;go_wp2_with fail;go_roundw
  case rel=>exact⟨i+1,s+z,by first | rfl | go_num,by go_num,by omega,by omega,aB (by have:=HSZ.o;omega),HB2,HK2⟩
  case measure=>simp[intOf];omega
theorem v5:∀(m:Nat) (w:World) (R:Nat->Prop) (t:iL) (x:TT),(∀b,R b->b<w.heap.size)->dJ R w t x->cL x<m->cL x<=1000000000 →
      Calls Tryz.prog 108 #[.agg (eD t x.1)] w (dZ ((cL x:Nat):Int) w)
 | 0,_,_,_,_,_,_,h,_=>absurd h (Nat.not_lt_zero _)
 | m+1,w,R,t,x,h1,h2,h3,h4=>DV m (v5 m) w R t x h1 h2 aA h4
theorem qF {w:World} {R:Nat->Prop} {t:iL} {x:TT} (hR:∀b,R b->b<w.heap.size) (ht:dJ R w t x) (h:cL x<=1000000000):Calls Tryz.prog 108 #[.agg (eD t x.1)] w (dZ ((cL x:Nat):Int) w) :=
 v5 _ w R t x hR ht (Nat.lt_succ_self _) h
end
section
open Go.Lib renaming hid->aB
theorem nE {w:World} {g:Nat} {c0 c1 c2 c3 c4 c5:Value} {tmps:Array Value} (h:aS w g 49 #[c0,c1,c2,c3,c4,c5]) (ht:tmps.getD 6 undef=.pointer (I ⟨g,0,Y⟩)) :
 (results Tryz.f110 tmps).run Tryz.prog w=.ok (.agg #[c0,c1,c2,c3,c4,c5]) w:=by
 have hc:=h.cell;have ht':tmps[6]?.getD undef=.pointer (I ⟨g,0,Y⟩):=by rw[<-ht];simp
 simp[results,Tryz.results110,go_sem,ht',hc]
theorem aS.cast {w:World} {g g':Nat} {t:TypeId} {cs:Array Value} (e:g=g') (h:aS w g t cs):aS w g' t cs:=e ▸ h
theorem i7 (w:World) (g:Nat) (a b c d x y:Value):((((((w.setCell ⟨g,0,Y⟩ a).setCell ⟨g,1,Y⟩ b).setCell ⟨g,2,Y⟩ c).setCell ⟨g,3,Y⟩ d).setCell ⟨g,4,Y⟩ x).setCell ⟨g,5,Y⟩ y).heap.size=w.heap.size:=by
 simp[World.setCell]
theorem KG {R:Nat->Prop} {w wr:World} {n:Nd} {ats:List Nd} {G:Fo} {A1:Option Addr} {j k1:Nat} {x y:Value} {xs:List Value} (hR:∀b,R b->b<w.heap.size) (hbw:Below w.heap.size w wr)
 (hown:wr.ownsRow (w.heap.size+3) 49 6 (Z A1 j k1) j xs) (hj:bH G=j) (hfc:jW (mA R (w.heap.size+3) wr (Z A1 j k1)) wr G xs) (hx:gJ R w x ats) (hy:gJ R w y (cH G)) :
 fG R w n ats G (.returned (.agg #[O X n.op,O X n.a,O X n.b,Z A1 j k1,x,y])) ((((((wr.setCell ⟨w.heap.size+1,0,Y⟩ (O X n.op)).setCell ⟨w.heap.size+1,1,Y⟩ (O X n.a)).setCell ⟨w.heap.size+1,2,Y⟩ (O X n.b)).setCell ⟨w.heap.size+1,3,Y⟩ (Z A1 j k1)).setCell ⟨w.heap.size+1,4,Y⟩ x).setCell ⟨w.heap.size+1,5,Y⟩ y):=by
 have hw6:=i7 wr (w.heap.size+1) (O X n.op) (O X n.a) (O X n.b) (Z A1 j k1) x y;have hb6:=eK hbw (Nat.le_succ w.heap.size) (O X n.op) (O X n.a) (O X n.b) (Z A1 j k1) x y;have hO:=rF hown (show w.heap.size+1<w.heap.size+3 by omega) (O X n.op) (O X n.a) (O X n.b) (Z A1 j k1) x y;refine⟨hb6,_,rfl,_,_,_,rfl,?_,?_,?_⟩
 · refine fY (by rw[hj];exact hO) (jW.keep ?_ _ _ hfc) ?_
   · rintro b ⟨hb1,_⟩;have hne:b ≠ w.heap.size+1:=by
      rcases hb1 with h | h
      · have:=hR b h;omega
      omega
     refine⟨?_,fun o=>oC wr hne _ _ _ _ _ _ o⟩;rcases hb1 with h | h
     · exact .inl h
     exact .inr ⟨by omega,by rw[hw6];exact h.2⟩
   intro b hb;have h3:=aR hown hb;exact .inr ⟨by omega,by rw[hw6];exact h3.2.1⟩
 · exact hx.keep fun b hb=>⟨.inl hb,fun o=>hb6.cell (p:=⟨b,o,Y⟩) (hR b hb)⟩
 exact hy.keep fun b hb=>⟨.inl hb,fun o=>hb6.cell (p:=⟨b,o,Y⟩) (hR b hb)⟩
theorem BK (a b c:Int) (x y z:Option Addr×Nat×Nat) : ∀u ∈ [Value.int .i64 a,O X b,O X c,Z x.1 x.2.1 x.2.2,Z y.1 y.2.1 y.2.2,Z z.1 z.2.1 z.2.2],u.oneCell'=true:=by
 intro u hu;simp at hu;rcases hu with rfl | rfl | rfl | rfl | rfl | rfl<;>rfl
theorem wL {R:Nat->Prop} {w:World} (a:Int):cJ R w [O X 1,O X a,O X 0,Z Y 0 0,Z Y 0 0,Z Y 0 0] ⟨1,a,0⟩ [] .nil :=
 ⟨_,_,_,rfl,⟨Y,0,0,rfl,rfl,Nat.le_refl _,fun h=>absurd h aA⟩,gJ.nil R w,gJ.nil R w⟩
set_option maxRecDepth 100000 in
set_option maxHeartbeats 8000000 in
theorem AW (m:Nat) (ih:∀(w:World) (R:Nat->Prop) (xs:List Value) (n:Nd) (atoms:List Nd) (kids:Fo) (up u:Int),(∀b,R b->b<w.heap.size)->cJ R w xs n atoms kids->eE n=true->dD kids->0<=up->up<=1000000000000->0<=u->u+4*a7 kids<=1000000000000->a7 kids<m →
      Calls Tryz.prog 110 #[.agg xs.toArray,O X up,O X u] w (fG R w (jZ up n u) (pY n atoms u) (pZ up n kids u)))
 (w:World) (R:Nat->Prop) (xs:List Value) (n:Nd) (atoms:List Nd) (kids:Fo) (up u:Int) (hR:∀b,R b->b<w.heap.size) (ht:cJ R w xs n atoms kids) (hok:eE n=true) (hall:dD kids) (hup0:0<=up) (hup1:up<=1000000000000) (hu0:0<=u) (hu1:u+4*a7 kids<=1000000000000) (hsz:a7 kids<=m) :
 Calls Tryz.prog 110 #[.agg xs.toArray,O X up,O X u] w (fG R w (jZ up n u) (pY n atoms u) (pZ up n kids u)):=by
 have HI:=aB ih;clear ih;obtain⟨sk,sa,sf,rfl,⟨Ak,nk,ck,rfl,hkk⟩,⟨Aa,na,ca,rfl,haa⟩,⟨Af,nf,cf,rfl,hff⟩⟩:=ht;have hna:=(fK ((by simp only[eE,Bool.and_eq_true] at hok;exact hok.1.1):bW n.op n.a n.b=true));by_cases h1:n.op=1/\u<=n.a
 · have H1:=aB h1;obtain⟨h1,h2⟩:=h1;have h1b:(n.op==1)=true:=by simp[h1]
   clear h1 hu1;obtain⟨hna1,hna2⟩:=hna;go_in;go_wp2_with fail;refine bodyPost_ret (v:=.agg #[O X 1,O X (n.a+up),O X 0,Z Y 0 0,Z Y 0 0,Z Y 0 0]) (nE (aS.new _ _ _) aD) rfl ?_;refine⟨bF w _ _,_,rfl,?_⟩;rw[jZ,pY,pZ,if_pos H1.o,if_pos H1.o,if_pos H1.o];exact wL _
 have H1:Hid (¬ (n.op=1/\u<=n.a)):=h1;have hor:((n.op==1)=false)\/((n.op==1)=true/\decide (u<=n.a)=false):=by
  by_cases h:n.op=1
  · exact .inr ⟨by simp[h],by simp;have:=fun h2=>h1 ⟨h,h2⟩;omega⟩
  exact .inl (by simp[h])
 have HU:=aB hu1;have HSZ:=aB hsz;have HKL:=aB hkk.len;have HOK:=aB hok;have hnk:nk<=1000000000000:=by
  have h1:=fF kids;have h2:=hkk.len;omega
 clear h1 hu1 hsz hok hna;rcases hor with h1b | ⟨h1b,h2b⟩;all_goals
  go_in;go_wp2_with fail;go_loopw [8] (fun i wr=>∃(F1 F2:Fo) (j:Nat) (A1:Option Addr) (k1:Nat) (xs1:List Value),kids=F1.app F2/\bH F1=j/\i=O X (j:Int)/\Below w.heap.size w wr ∧
   aS wr w.heap.size 49 #[O X n.op,O X n.a,O X n.b,Z Ak nk ck,Z Aa na ca,Z Af nf cf] ∧
   aS wr (w.heap.size+1) 49 #[O X 0,O X 0,O X 0,Z Y 0 0,Z Y 0 0,Z Y 0 0] ∧
   aS wr (w.heap.size+1+1) 49 #[O X n.op,O X n.a,O X n.b,Z A1 j k1,Z Aa na ca,Z Af nf cf] ∧
   wr.ownsRow (w.heap.size+3) 49 6 (Z A1 j k1) j xs1/\jW (mA R (w.heap.size+3) wr (Z A1 j k1)) wr (FK n.op n.b up 0 u F1) xs1) (fun i _=>nk-(intOf i).toNat)
  case atStart =>
   refine⟨.nil,kids,0,Y,0,[],rfl,rfl,rfl,(bF w _ _).alloc aH _,((aS.new _ _ _).alloc _).alloc _,?_,?_,World.ownsRow_nil _ _ _ _,rfl⟩
   · exact aS.cast aD ((aS.new _ _ _).alloc _)
   exact aS.cast aD (aS.new _ _ _)
  case round =>
   obtain⟨F1,F2,j,A1,k1,xs1,hk,hj,rfl,hbw,hblk,hblk1,hblk2,hown,hfc⟩:=hrel;have HK:=aB hk;have HJ:=aB hj;have HOWN:=aB hown;have HFC:=aB hfc;have hkkr:=hkk.keep (R':=R) (w':=wr) (fun b hb=>⟨hb,fun o=>hbw.cell (p:=⟨b,o,Y⟩) (hR b hb)⟩);have zc:=aS.cell hblk;have zc1:=aS.cell hblk1;have zf1:=aS.frozen hblk1;have zc2:=aS.cell hblk2;have hszb:w.heap.size+1+1<wr.heap.size:=aS.lt hblk2;cases F2 with
   | nil =>
    have hjn:j=nk:=by rw[<-HKL.o,hk,bS,hj];rfl
    have hjn2:¬ j<nk:=aA;clear hk hj hjn;go_wp2_with fail;have hsrc:kids=F1:=by rw[HK.o,i9]
    refine bodyPost_ret (v:=.agg #[O X n.op,O X n.a,O X n.b,Z A1 j k1,Z Aa na ca,Z Af nf cf]) (nE ((((((hblk1.set_ 0 _).set_ 1 _).set_ 2 _).set_ 3 _).set_ 4 _).set_ 5 _) aD) rfl ?_;rw[jZ,pY,pZ,if_neg H1.o,if_neg H1.o,if_neg H1.o,hsrc];exact KG hR hbw HOWN.o (by rw[zN,HJ.o]) HFC.o ⟨_,_,_,rfl,haa⟩ (by rw[vS,<-hsrc];exact⟨_,_,_,rfl,hff⟩)
   | cons pre nd ats ks F2 =>
    have hjn:j<nk:=by rw[<-HKL.o,hk,bS,hj];simp[bH]
    have hkk2:fN R wr Ak nk ck (F1.app (.cons pre nd ats ks F2)):=by rw[<-hk];exact hkkr
    obtain⟨b,off,sk',sa',sf',rfl,hrb,htree,g0,g1,g2,g3,g4,g5⟩:=hkk2.at_;rw[hj] at g0 g1 g2 g3 g4 g5;obtain⟨_,hok2,hall2,_⟩:=(dD.app F1 _).1 (hk ▸ hall);have hbb:b<w.heap.size:=hR b hrb;clear hk hj hkk2 hkkr;obtain⟨ha1,ha2⟩:=dW HOK.o (j:Int);have hfs:u+4*(a7 F1+(a7 ks+a7 F2+1))<=1000000000000:=by
     have:=HU.o;rw[HK.o,dK] at this;simp only[a7] at this;omega
    have hfs2:a7 ks<m:=by
     have:=HSZ.o;rw[HK.o,dK] at this;simp only[a7] at this;omega
    have hw:IntKind.i64.wrap (u+aQ n.op n.b (j:Int))=u+aQ n.op n.b (j:Int):=IntWalk.i64_in _ aA;have hb1:0<=u+aQ n.op n.b (j:Int):=aA;have hb2:u+aQ n.op n.b (j:Int)+4*a7 ks<=1000000000000:=aA;have HB1:=aB hb1;have HB2:=aB hb2;have HB3:=aB hfs2;have htr:∀W:World,Below wr.heap.size wr W->cJ R W [O X nd.op,O X nd.a,O X nd.b,sk',sa',sf'] nd ats ks:=fun W hW =>
     htree.keep fun b' hb'=>⟨hb',fun o=>hW.cell (p:=⟨b',o,Y⟩) (Nat.lt_of_lt_of_le (hR b' hb') hbw.size)⟩
    have hrl:∀W:World,Below wr.heap.size wr W->∀b',R b'->b'<W.heap.size:=fun W hW b' hb'=>Nat.lt_of_lt_of_le (hR b' hb') (Nat.le_trans hbw.size hW.size);have hkeep:∀W:World,Below wr.heap.size wr W->(W.cell? ⟨w.heap.size,0,Y⟩=I (O X n.op)/\W.cell? ⟨w.heap.size,1,Y⟩=I (O X n.a)/\W.cell? ⟨w.heap.size,2,Y⟩=I (O X n.b)/\W.cell? ⟨w.heap.size,3,Y⟩=I (Z (I ⟨b,off,Y⟩) nk ck) ∧
     W.cell? ⟨b,off+j*6,Y⟩=I (O X nd.op)/\W.cell? ⟨b,off+j*6+1,Y⟩=I (O X nd.a)/\W.cell? ⟨b,off+j*6+2,Y⟩=I (O X nd.b)/\W.cell? ⟨b,off+j*6+3,Y⟩=I sk'/\W.cell? ⟨b,off+j*6+4,Y⟩=I sa'/\W.cell? ⟨b,off+j*6+5,Y⟩=I sf'):=fun W hW=>by
     have hB:∀o,W.cell? ⟨w.heap.size,o,Y⟩=wr.cell? ⟨w.heap.size,o,Y⟩:=fun o=>hW.cell (p:=⟨w.heap.size,o,Y⟩) (show w.heap.size<wr.heap.size by omega);have hC:∀o,W.cell? ⟨b,o,Y⟩=wr.cell? ⟨b,o,Y⟩:=fun o=>hW.cell (p:=⟨b,o,Y⟩) (Nat.lt_of_lt_of_le hbb hbw.size);rw[hB,hB,hB,hB,hC,hC,hC,hC,hC,hC];exact⟨hblk.cell 0,hblk.cell 1,hblk.cell 2,hblk.cell 3,g0,g1,g2,g3,g4,g5⟩
    have hfirst:=hkeep wr (Below.refl _ _);have HTR:=aB htr;have HRL:=aB hrl;have HKEEP:=aB hkeep;obtain⟨i0,hi,hy0,hy1,hy2⟩:=info_parts Tryz.infoT;have HI0:=aB hi;have HY0:=aB hy0;have HY1:=aB hy1;have HY2:=aB hy2;clear hi hy0 hy1 hy2;clear hb1 hb2 hfs hfs2 htr hrl hkeep zc zc1 zf1 g0 g1 g2 g3 g4 g5;obtain⟨g0,g1,g2,g3,g4,g5,g6,g7,g8,g9⟩:=hfirst;go_wp2_with fail;refine wp_region_noPanic ?_;refine cP 18 (fun w'=>w'.cell? ⟨w.heap.size,0,Y⟩=I (O X n.op)/\w'.cell? ⟨w.heap.size,1,Y⟩=I (O X n.a)/\w'.cell? ⟨w.heap.size,2,Y⟩=I (O X n.b)/\w'.cell? ⟨w.heap.size,3,Y⟩=I (Z (I ⟨b,off,Y⟩) nk ck) ∧
     w'.cell? ⟨w.heap.size+1+1,3,Y⟩=I (Z A1 j k1) ∧
     w'.cell? ⟨b,off+j*6,Y⟩=I (O X nd.op)/\w'.cell? ⟨b,off+j*6+1,Y⟩=I (O X nd.a)/\w'.cell? ⟨b,off+j*6+2,Y⟩=I (O X nd.b)/\w'.cell? ⟨b,off+j*6+3,Y⟩=I sk'/\w'.cell? ⟨b,off+j*6+4,Y⟩=I sa'/\w'.cell? ⟨b,off+j*6+5,Y⟩=I sf') aF ⟨g0,g1,g2,g3,zc2 3,g4,g5,g6,g7,g8,g9⟩ (fun hS0 => ?_)
    have hkp:∀W:World,Below wr.heap.size wr W->W.cell? ⟨w.heap.size,0,Y⟩=I (O X n.op)/\W.cell? ⟨w.heap.size,1,Y⟩=I (O X n.a)/\W.cell? ⟨w.heap.size,2,Y⟩=I (O X n.b)/\W.cell? ⟨w.heap.size,3,Y⟩=I (Z (I ⟨b,off,Y⟩) nk ck) ∧
     W.cell? ⟨w.heap.size+1+1,3,Y⟩=I (Z A1 j k1) ∧
     W.cell? ⟨b,off+j*6,Y⟩=I (O X nd.op)/\W.cell? ⟨b,off+j*6+1,Y⟩=I (O X nd.a)/\W.cell? ⟨b,off+j*6+2,Y⟩=I (O X nd.b)/\W.cell? ⟨b,off+j*6+3,Y⟩=I sk'/\W.cell? ⟨b,off+j*6+4,Y⟩=I sa'/\W.cell? ⟨b,off+j*6+5,Y⟩=I sf':=fun W hW=>by
     obtain⟨k0,k1',k2,k3,k4,k5,k6,k7,k8,k9⟩:=HKEEP.o W hW;exact⟨k0,k1',k2,k3,(aS.cell (aS.below hblk2 hW hszb)) 3,k4,k5,k6,k7,k8,k9⟩
    have HKP:=aB hkp;clear hkp zc2;refine dS (i:=0) (v := ?_) rfl rfl aC aC aC aC (fun _ _ _ h=>h) (Or.inl ⟨by rfl,?_⟩) aI ?_;rotate_left
    · (intro w hSw;(try dsimp only at hSw);go_simp);all_goals with_reducible rfl
    try simp only[Act.put,List.setIfInBounds_toArray,List.set_cons_zero,List.set_cons_succ]
    refine dS (i:=1) (v := ?_) rfl rfl aC aC aC aC (fun _ _ _ h=>h) (Or.inl ⟨by rfl,?_⟩) aI ?_;rotate_left
    · (intro w hSw;(try dsimp only at hSw);go_simp);all_goals with_reducible rfl
    try simp only[Act.put,List.setIfInBounds_toArray,List.set_cons_zero,List.set_cons_succ]
    refine dS (i:=2) (v := ?_) rfl rfl aC aC aC aC (fun _ _ _ h=>h) (Or.inl ⟨by rfl,?_⟩) aI ?_;rotate_left
    · (intro w hSw;(try dsimp only at hSw);go_simp);all_goals with_reducible rfl
    try simp only[Act.put,List.setIfInBounds_toArray,List.set_cons_zero,List.set_cons_succ]
    refine dS (i:=3) (v := ?_) rfl rfl aC aC aC aC (fun _ _ _ h=>h) (Or.inl ⟨by rfl,?_⟩) aI ?_;rotate_left
    · (intro w hSw;(try dsimp only at hSw);go_simp);all_goals with_reducible rfl
    try simp only[Act.put,List.setIfInBounds_toArray,List.set_cons_zero,List.set_cons_succ]
    refine dS (i:=4) (v := ?_) rfl rfl aC aC aC aC (fun _ _ _ h=>h) (Or.inl ⟨by rfl,?_⟩) aI ?_;rotate_left
    · (intro w hSw;(try dsimp only at hSw);go_simp);all_goals with_reducible rfl
    try simp only[Act.put,List.setIfInBounds_toArray,List.set_cons_zero,List.set_cons_succ]
    refine dS (i:=5) (v := ?_) rfl rfl aC aC aC aC (fun _ _ _ h=>h) (Or.inl ⟨by rfl,?_⟩) aI ?_;rotate_left
    · (intro w hSw;(try dsimp only at hSw);go_simp);all_goals with_reducible rfl
    try simp only[Act.put,List.setIfInBounds_toArray,List.set_cons_zero,List.set_cons_succ]
    refine dS (i:=6) (v := ?_) rfl rfl aC aC aC aC (fun _ _ _ h=>h) (Or.inl ⟨by rfl,?_⟩) aI ?_;rotate_left
    · (intro w hSw;(try dsimp only at hSw);go_simp);all_goals with_reducible rfl
    try simp only[Act.put,List.setIfInBounds_toArray,List.set_cons_zero,List.set_cons_succ]
    refine dS (i:=7) (v := ?_) rfl rfl aC aC aC aC (fun _ _ _ h=>h) (Or.inl ⟨by rfl,?_⟩) aI ?_;rotate_left
    · (intro w hSw;(try dsimp only at hSw);go_simp);all_goals with_reducible rfl
    try simp only[Act.put,List.setIfInBounds_toArray,List.set_cons_zero,List.set_cons_succ]
    refine dS (i:=8) (v := ?_) rfl rfl aC aC aC aC (fun _ _ _ h=>h) (Or.inl ⟨by rfl,?_⟩) aI ?_;rotate_left
    · (intro w hSw;(try dsimp only at hSw);go_simp);all_goals with_reducible rfl
    try simp only[Act.put,List.setIfInBounds_toArray,List.set_cons_zero,List.set_cons_succ]
    refine dS (i:=9) (v := ?_) rfl rfl aC aC aC aC (fun _ _ _ h=>h) (Or.inl ⟨by rfl,?_⟩) aI ?_;rotate_left
    · (intro w hSw;(try dsimp only at hSw);go_simp);all_goals with_reducible rfl
    try simp only[Act.put,List.setIfInBounds_toArray,List.set_cons_zero,List.set_cons_succ]
    refine dS (i:=10) (v := ?_) rfl rfl aC aC aC aC (fun _ _ _ h=>h) (Or.inl ⟨by rfl,?_⟩) aI ?_;rotate_left
    · (intro w hSw;(try dsimp only at hSw);go_simp);all_goals with_reducible rfl
    try simp only[Act.put,List.setIfInBounds_toArray,List.set_cons_zero,List.set_cons_succ]
    refine dS (i:=11) (v := ?_) rfl rfl aC aC aC aC (fun _ _ _ h=>h) (Or.inl ⟨by rfl,?_⟩) aI ?_;rotate_left
    · (intro w hSw;(try dsimp only at hSw);go_simp);all_goals with_reducible rfl
    try simp only[Act.put,List.setIfInBounds_toArray,List.set_cons_zero,List.set_cons_succ]
    refine bA (i:=12) aC rfl rfl (fun K12 hK12 => ?_);go_simp;go_at_call 112
    refine (jI _ _ _ _ _ aA).mono ?_;rintro e w2 ⟨rfl,rfl⟩;go_wp2_with fail;have hS1:=HKP.o (wr.alloc (.cells #[O X n.op,O X n.a,O X n.b] 40)).drew (((Below.refl _ _).alloc (Nat.le_refl _) _).drew);refine hK12.o _ _ (fun _=>hS1) ?_;refine dS (i:=13) (v := ?_) rfl rfl aC aC aC aC (fun _ _ _ h=>h) (Or.inl ⟨by rfl,?_⟩) aI ?_;rotate_left
    · (intro w hSw;(try dsimp only at hSw);go_simp);all_goals with_reducible rfl
    try simp only[Act.put,List.setIfInBounds_toArray,List.set_cons_zero,List.set_cons_succ]
    refine bA (i:=14) aC rfl rfl (fun K14 hK14 => ?_);go_simp;go_at_call 110
    refine (HI.o _ R [O X nd.op,O X nd.a,O X nd.b,sk',sa',sf'] nd ats ks up _ (HRL.o _ (((Below.refl _ _).alloc (Nat.le_refl _) _).drew)) (HTR.o _ (((Below.refl _ _).alloc (Nat.le_refl _) _).drew)) hok2 hall2 hup0 hup1 HB1.o HB2.o HB3.o).mono ?_;rintro e w3 ⟨hb3,ys,rfl,ht3⟩;have HT3:=aB ht3;obtain⟨sk3,sa3,sf3,rfl,⟨A3,n3,c3,rfl,hk3⟩,⟨A4,n4,c4,rfl,h43⟩,⟨A5,n5,c5,rfl,h53⟩⟩:=ht3;clear hk3 h43 h53;have hb4:Below wr.heap.size wr w3:=kT (((Below.refl _ _).alloc (Nat.le_refl _) _).drew) hb3 (Nat.le_refl _);go_wp2_with fail;have hS2:=HKP.o _ hb4;refine hK14.o _ _ (fun _=>hS2) ?_;refine bA (i:=15) aC rfl rfl (fun K15 hK15 => ?_);go_simp;have hS3:=HKP.o _ (hb4.alloc hb4.size (.cells #[O X (jZ up nd (u+aQ n.op n.b (j:Int))).op,O X (jZ up nd (u+aQ n.op n.b (j:Int))).a,O X (jZ up nd (u+aQ n.op n.b (j:Int))).b,Z A3 n3 c3,Z A4 n4 c4,Z A5 n5 c5] 49));refine hK15.o _ _ (fun _=>hS3) ?_;refine bA (i:=16) aC rfl rfl (fun K16 hK16 => ?_);refine fX (.tmp 42) (.tmp 56) 47 rfl (w.heap.size+3) i0 _ Tryz.underlying47 HI0.o HY0.o HY1.o HY2.o rfl (Z A1 j k1) j xs1 [O X (jZ up nd (u+aQ n.op n.b (j:Int))).op,O X (jZ up nd (u+aQ n.op n.b (j:Int))).a,O X (jZ up nd (u+aQ n.op n.b (j:Int))).b,Z A3 n3 c3,Z A4 n4 c4,Z A5 n5 c5] rfl (BK _ _ _ (A3,n3,c3) (A4,n4,c4) (A5,n5,c5)) w3 rfl rfl (bL HOWN.o hb4) _ rfl rfl aA (by have:=hb4.size;omega) ?_;intro A' c' w' happ;have zb:=aS.grown (aS.below hblk2 hb4 hszb) happ.grown (fE (bL HOWN.o hb4) (Nat.lt_succ_self _));have zc:=zb.cell;have zf:=zb.frozen;have hb5:∀g,g<w.heap.size+3->∀o,w'.cell? ⟨g,o,Y⟩=w3.cell? ⟨g,o,Y⟩:=fun g hg o=>World.cell?_of_block (happ.grown.block g (by have:=hb4.size;omega) (fE (bL HOWN.o hb4) hg));have hb6:∀g o,g ≠ w.heap.size+1+1->(w'.setCell ⟨w.heap.size+1+1,3,Y⟩ (Z A' (j+1) c')).cell? ⟨g,o,Y⟩=w'.cell? ⟨g,o,Y⟩:=fun g o hg=>World.cell?_setCell_other _ _ _ _ (fun hh=>by injection hh with hh;exact hg hh.symm);have hS4:w'.cell? ⟨w.heap.size,0,Y⟩=I (O X n.op)/\w'.cell? ⟨w.heap.size,1,Y⟩=I (O X n.a)/\w'.cell? ⟨w.heap.size,2,Y⟩=I (O X n.b)/\w'.cell? ⟨w.heap.size,3,Y⟩=I (Z (I ⟨b,off,Y⟩) nk ck) ∧
     w'.cell? ⟨w.heap.size+1+1,3,Y⟩=I (Z A1 j k1) ∧
     w'.cell? ⟨b,off+j*6,Y⟩=I (O X nd.op)/\w'.cell? ⟨b,off+j*6+1,Y⟩=I (O X nd.a)/\w'.cell? ⟨b,off+j*6+2,Y⟩=I (O X nd.b)/\w'.cell? ⟨b,off+j*6+3,Y⟩=I sk'/\w'.cell? ⟨b,off+j*6+4,Y⟩=I sa'/\w'.cell? ⟨b,off+j*6+5,Y⟩=I sf':=⟨(hb5 _ aA _).trans (HKP.o _ hb4).1,(hb5 _ aA _).trans (HKP.o _ hb4).2.1,(hb5 _ aA _).trans (HKP.o _ hb4).2.2.1,(hb5 _ aA _).trans (HKP.o _ hb4).2.2.2.1,(hb5 _ aA _).trans (HKP.o _ hb4).2.2.2.2.1,(hb5 _ aA _).trans (HKP.o _ hb4).2.2.2.2.2.1,(hb5 _ aA _).trans (HKP.o _ hb4).2.2.2.2.2.2.1,(hb5 _ aA _).trans (HKP.o _ hb4).2.2.2.2.2.2.2.1,(hb5 _ aA _).trans (HKP.o _ hb4).2.2.2.2.2.2.2.2.1,(hb5 _ aA _).trans (HKP.o _ hb4).2.2.2.2.2.2.2.2.2.1,(hb5 _ aA _).trans (HKP.o _ hb4).2.2.2.2.2.2.2.2.2.2⟩
    refine hK16.o _ _ (fun _=>hS4) ?_;try simp only[Act.put,List.setIfInBounds_toArray,List.set_cons_zero,List.set_cons_succ]
    refine dS (i:=17) (v := ?_) rfl rfl aC aC aC aC (fun _ _ _ h=>h) (Or.inl ⟨by rfl,?_⟩) aI ?_;rotate_left
    · (intro w hSw;(try dsimp only at hSw);go_simp);all_goals with_reducible rfl
    try simp only[Act.put,List.setIfInBounds_toArray,List.set_cons_zero,List.set_cons_succ]
    refine bA (i:=18) aC rfl rfl (fun K18 hK18 => ?_);go_simp;refine hK18.o _ _ (fun h=>absurd rfl h) ?_;refine dE aC (NoPanic.normal ?_) _;all_goals
     have hw5:w.heap.size<=w3.heap.size:=by have:=hb4.size;omega
     have hown3:=bL HOWN.o hb4;have hrb:∀g,g<w.heap.size+3->w.heap.size<=g->True:=fun _ _ _=>trivial;have hbf:Below w.heap.size w (w'.setCell ⟨w.heap.size+1+1,3,Y⟩ (Z A' (j+1) c')):=((hbw.trans (hb4.mono hbw.size)).grown happ.grown hw5 (fun g hg=>by have:=(aR hown3 hg).1;omega)).setCell (p:=⟨w.heap.size+1+1,3,Y⟩) (show w.heap.size<=w.heap.size+1+1 by omega) _;have hz0:=aS.far (aS.grown (aS.below hblk hb4 aA) happ.grown (fE hown3 (show w.heap.size<w.heap.size+3 by omega))) (p:=⟨w.heap.size+1+1,3,Y⟩) (show w.heap.size ≠ w.heap.size+1+1 by omega) (Z A' (j+1) c');have hz1:=aS.far (aS.grown (aS.below hblk1 hb4 aA) happ.grown (fE hown3 (show w.heap.size+1<w.heap.size+3 by omega))) (p:=⟨w.heap.size+1+1,3,Y⟩) (show w.heap.size+1 ≠ w.heap.size+1+1 by omega) (Z A' (j+1) c');have hz2:=zb.set_ 3 (Z A' (j+1) c');have hof:=ownsRow_setCell_below happ.own (a:=⟨w.heap.size+1+1,3,Y⟩) (show w.heap.size+1+1<w.heap.size+3 by omega) (Z A' (j+1) c');have hff:=vI (B0:=w.heap.size) (B:=w.heap.size+3) HFC.o HT3.o (((Below.refl _ _).alloc (Nat.le_refl _) _).drew).size hb4 aA hR aA HOWN.o (Below.refl _ _) happ (wf:=w'.setCell ⟨w.heap.size+1+1,3,Y⟩ (Z A' (j+1) c')) (pre:=pre) (fun g hg o=>hb6 g o aA) (by simp[World.setCell]);have HBF:=aB hbf;have HZ0:=aB hz0;have HZ1:=aB hz1;have HZ2:=aB hz2;have HOF:=aB hof;have HFF:=aB hff;clear hbf hz0 hz1 hz2 hof hff hrb hb5 hb6 zc zf;go_wp2_with fail;go_roundw
     case rel =>
      refine⟨F1.app (.cons pre nd ats ks .nil),F2,j+1,A',c',_,by rw[HK.o,dI];rfl,by rw[bS];simp[bH,HJ.o],by go_num,HBF.o,HZ0.o,HZ1.o,HZ2.o,HOF.o,?_⟩;rw[FL,HJ.o,Nat.zero_add,kK];exact HFF.o
     case measure=>simp[intOf];omega
theorem tE:∀(m:Nat) (w:World) (R:Nat->Prop) (xs:List Value) (n:Nd) (atoms:List Nd) (kids:Fo) (up u:Int),(∀b,R b->b<w.heap.size)->cJ R w xs n atoms kids->eE n=true->dD kids->0<=up->up<=1000000000000->0<=u->u+4*a7 kids<=1000000000000->a7 kids<m →
      Calls Tryz.prog 110 #[.agg xs.toArray,O X up,O X u] w (fG R w (jZ up n u) (pY n atoms u) (pZ up n kids u))
 | 0,_,_,_,_,_,_,_,_,_,_,_,_,_,_,_,_,h=>absurd h aA
 | m+1,w,R,xs,n,atoms,kids,up,u,h1,h2,h3,h4,h5,h6,h7,h8,h9=>AW m (tE m) w R xs n atoms kids up u h1 h2 h3 h4 h5 h6 h7 h8 aA
theorem tF {w:World} {R:Nat->Prop} {xs:List Value} {n:Nd} {atoms:List Nd} {kids:Fo} {up u:Int} (hR:∀b,R b->b<w.heap.size) (ht:cJ R w xs n atoms kids) (hok:eE n=true) (hall:dD kids) (hup0:0<=up) (hup1:up<=1000000000000) (h0:0<=u) (h1:u+4*a7 kids<=1000000000000) :
 Calls Tryz.prog 110 #[.agg xs.toArray,O X up,O X u] w (fG R w (jZ up n u) (pY n atoms u) (pZ up n kids u)) :=
 tE (a7 kids+1) w R xs n atoms kids up u hR ht hok hall hup0 hup1 h0 h1 (Nat.lt_succ_self _)
end
end Go.Proofs.YtjllmblbbgojbaaGreat
