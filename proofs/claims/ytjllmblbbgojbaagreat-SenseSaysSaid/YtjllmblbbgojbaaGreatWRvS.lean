/- Merged: RefFs, RvW, RvS. -/
import Derived.Test.YtjllmblbbgojbaaGreatWRefGd
import Derived.Test.YtjllmblbbgojbaaGreatWReads
import Derived.Test.YtjllmblbbgojbaaGreatWRowsD
import Derived.Test.YtjllmblbbgojbaaGreatWKidss
namespace Go.Proofs.YtjllmblbbgojbaaGreat
section
section
open Go.RowKit
theorem jK.kid {n:Nd} {a:List Nd} {k:Fo} (h:jK (n,a,k)) : ∀ {y:TT},y ∈ cD k->jK y:=by
 obtain ⟨_,_,hw⟩:=Rt.wf h;have hf:(aJ (n,a,k)).length<=4096:=Rt.few h;simp only at hw;have hl:(row k).length<=4096:=by simp only [aJ,List.length_cons,List.length_append] at hf;omega
 clear h hf;have key:∀ (F:Fo) (dl:List Bool),Wf dl F->(row F).length<=4096->∀ y ∈ cD F,jK y:=by
  intro F
  induction F with
  | nil=>intro dl _ _ y hy;cases hy
  | cons p n a k x _ ih =>
   intro dl h hl y hy;cases dl with
   | nil=>exact h.elim
   | cons d dr =>
    obtain ⟨_,h1,h2,h3,h4⟩:=h;rw [fC] at hl;rw [show cD (.cons p n a k x)=(n,a,k)::cD x from rfl] at hy;rcases List.mem_cons.1 hy with rfl | hy
    · exact kC h1 h2 h3 (by
       have:bU (n,a,k)<=4096:=aA;exact this)
    · exact ih dr h4 aA y hy
 intro y hy;exact key k _ hw hl y hy
theorem jK.hd {x:TT} (h:jK x):jK (cP x).1/\∀ y ∈ (cP x).2,jK y:=by
 obtain ⟨h1,_,_,h4,_⟩:=rG _ x h (Nat.le_refl _);exact ⟨h1,fun y hy=>(h4 y hy).1⟩
end
section
open Go.RowKit
theorem B5 {w:World} {base j d z:Nat} {B:Option Addr} {e:TypeId} {xs:List Value} (h:w.ownsRow base e z (.slice B j d) j xs) : ∀ ad,B=some ad->∀ i u,xs[i]? = some u->w.cell? (ad.add i)=some u:=by
 intro ad he i u hu;have h0:=h;rcases h.2 with ⟨hv,_⟩ | ⟨g,cap,cur,hv,_⟩
 · injection hv with e1;rw [he] at e1;cases e1
 injection hv with e1;rw [he] at e1;injection e1 with e1;subst e1;subst he;exact World.ownsRow.cells h0 (g:=g) rfl i u hu
theorem FJ {w:World} {base j d z:Nat} {B:Option Addr} {e:TypeId} {xs:List Value} (h:w.ownsRow base e z (.slice B j d) j xs):B=none->j=0:=by
 intro hB;rcases h.2 with ⟨_,h2⟩ | ⟨g,cap,cur,hv,_⟩
 · exact h2
 injection hv with e1;rw [hB] at e1;cases e1
theorem vS {R:Nat->Prop} {w:World} : ∀ (F:Fo) (xs:List Value),iG R w F xs->∀ u ∈ xs,u.oneCell'=true
 | .nil,xs,h,u,hu=>by
  have:xs=[]:=h;subst this;cases hu
 | .cons _ n atoms kids next,xs,h,u,hu=>by
  obtain ⟨ys,zs,rfl,⟨sk,sa,sf,rfl,⟨_,_,_,rfl,_⟩,⟨_,_,_,rfl,_⟩,⟨_,_,_,rfl,_⟩⟩,h2⟩:=h;rcases List.mem_append.1 hu with hu | hu
  · simp only [List.mem_cons,List.not_mem_nil,or_false] at hu;rcases hu with rfl | rfl | rfl | rfl | rfl | rfl<;>rfl
  · exact vS next zs h2 u hu
theorem BP {F:Fo} {i:Nat} (h:i<(cD F).length):(cD F).drop i=cT F i::(cD F).drop (i+1):=by
 rw [List.drop_eq_getElem_cons h];unfold cT;rw [List.getD_eq_getElem?_getD,List.getElem?_eq_getElem h];rfl
end
end
section
open Go.RowKit
def cQ (R:Nat->Prop) (w:World) (t:fZ) (x:TT):Prop:=bP R w [.int .i64 x.1.op,.int .i64 x.1.a,.int .i64 x.1.b,.slice t.Ak t.nk t.ck,.slice t.Aa t.na t.ca,.slice t.Af t.nf t.cf] x.1 x.2.1 x.2.2
section
variable {R R' : Nat->Prop} {w w' : World} {t : fZ} {x : TT}
theorem cQ.keep (h:cQ R w t x) (hk:∀ b,R b->R' b/\∀ o,w'.cell? ⟨b,o,none⟩=w.cell? ⟨b,o,none⟩):cQ R' w' t x:=bP.keep h hk
theorem cQ.below (h:cQ R w t x) (hR:∀ b,R b->b<w.heap.size) (hb:Below w.heap.size w w'):cQ R w' t x:=h.keep fun b hb2=>⟨hb2,fun o=>hb.cell (p:=⟨b,o,none⟩) (hR b hb2)⟩
theorem cQ.kids (h:cQ R w t x):dR R w t.Ak t.nk t.ck x.2.2:=by
 obtain ⟨sk,sa,sf,he,⟨A,n,c,rfl,hk⟩,_,_⟩:=h;simp only [List.cons.injEq,Value.slice.injEq,true_and,and_true] at he;obtain ⟨⟨rfl,rfl,rfl⟩,_,_⟩:=he;exact hk
theorem cQ.atoms (h:cQ R w t x):bA R w t.Aa t.na t.ca x.2.1:=by
 obtain ⟨sk,sa,sf,he,_,⟨A,n,c,rfl,hk⟩,_⟩:=h;simp only [List.cons.injEq,Value.slice.injEq,true_and,and_true] at he;obtain ⟨_,⟨rfl,rfl,rfl⟩,_⟩:=he;exact hk
theorem cQ.funs (h:cQ R w t x):bA R w t.Af t.nf t.cf (bO x.2.2):=by
 obtain ⟨sk,sa,sf,he,_,_,⟨A,n,c,rfl,hk⟩⟩:=h;simp only [List.cons.injEq,Value.slice.injEq,true_and,and_true] at he;obtain ⟨_,_,⟨rfl,rfl,rfl⟩⟩:=he;exact hk
theorem cQ.nk (h:cQ R w t x):t.nk=(cD x.2.2).length:=by rw [oO,h.kids.len]
theorem dR.nthR {A:Option Addr} {n c:Nat} {F:Fo} (h:dR R w A n c F) {j:Nat} (hj:j<n) : ∃ b o t,A=some ⟨b,o,none⟩/\R b/\EH w b (o+j*6) t (cT F j).1/\cQ R w t (cT F j):=by
 obtain ⟨b,off,e,hr,hf⟩:=h.mem aA;obtain ⟨t,h1,h2⟩:=qF.nth_ F b off j hf (by rw [h.len];exact hj);exact ⟨b,off,t,e,hr,h1,h2⟩
theorem cQ.kid (h:cQ R w t x) {j:Nat} (hj:j<t.nk) : ∃ b o t',t.Ak=some ⟨b,o,none⟩/\R b/\EH w b (o+j*6) t' (cT x.2.2 j).1/\cQ R w t' (cT x.2.2 j):=h.kids.nthR hj
end
def MC (R:Nat->Prop) (w:World) (x:TT) (e:Ending) (w':World):Prop:=Below w.heap.size w w'/\∃ t:fZ,e=.returned (.agg (dE t x.1))/\cQ (aK R w w') w' t x
theorem JW {R:Nat->Prop} {w:World} {xs:List Value} {x:TT} (h:bP R w xs x.1 x.2.1 x.2.2) : ∃ t:fZ,xs.toArray=dE t x.1/\cQ R w t x:=by
 have h0:=h;obtain ⟨sk,sa,sf,rfl,⟨A,n,c,rfl,hk⟩,⟨B,m,d,rfl,ha⟩,⟨C,p,e,rfl,hf⟩⟩:=h;exact ⟨⟨A,n,c,B,m,d,C,p,e⟩,rfl,h0⟩
theorem eK.tt {R:Nat->Prop} {w w':World} {x:TT} {e:Ending} (h:eK R w x.1 x.2.1 x.2.2 e w'):MC R w x e w':=by
 obtain ⟨hb,ys,he,ht⟩:=h;obtain ⟨t,h1,h2⟩:=JW ht;exact ⟨hb,t,by rw [he,h1],h2⟩
def lI:List TT->Fo
 | []=>.nil
 | y::r=>.cons [] y.1 y.2.1 y.2.2 (lI r)
theorem yO:∀ L,cD (lI L)=L
 | []=>rfl
 | y::r=>by simp only [lI,cD,yO r]
theorem hI:∀ L,aT (lI L)=L.length
 | []=>rfl
 | y::r=>by simp only [lI,aT,hI r,List.length_cons]
theorem jO (L:List TT) (j:Nat):cT (lI L) j=L.getD j NZ:=by unfold cT;rw [yO]
theorem dR.below {R:Nat->Prop} {w w':World} {A:Option Addr} {n c:Nat} {F:Fo} (h:dR R w A n c F) (hR:∀ b,R b->b<w.heap.size) (hb:Below w.heap.size w w'):dR R w' A n c F:=h.keep fun b hb2=>⟨hb2,fun o=>hb.cell (p:=⟨b,o,none⟩) (hR b hb2)⟩
theorem aK.lt {R:Nat->Prop} {w w':World} {b:Nat} (hR:∀ b,R b->b<w.heap.size) (hb:Below w.heap.size w w') (h:aK R w w' b):b<w'.heap.size:=by
 rcases h with h | h
 · have:=hR b h;have:=hb.size;omega
 exact h.2
theorem aK.to {R:Nat->Prop} {w V w' w2:World} {b:Nat} (h:aK R V w' b) (h1:w.heap.size<=V.heap.size) (h2:w'.heap.size<=w2.heap.size):aK R w w2 b:=by
 rcases h with h | h
 · exact .inl h
 exact .inr ⟨by have:=h.1;omega,by have:=h.2;omega⟩
theorem aK.idem {R:Nat->Prop} {w V w' w2:World} {b:Nat} (h:aK (aK R w V) V w' b) (h1:w.heap.size<=V.heap.size) (h3:V.heap.size<=w2.heap.size) (h2:w'.heap.size<=w2.heap.size):aK R w w2 b:=by
 rcases h with h | h
 · exact h.to (Nat.le_refl _) h3
 exact .inr ⟨by have:=h.1;omega,by have:=h.2;omega⟩
def wU:List TT->Nat
 | []=>0
 | y::r=>bU y+wU r
theorem D3:∀ F:Fo,(row F).length=(bO F).length+wU (cD F)
 | .nil=>rfl
 | .cons p n a k x=>by
  have h:=D3 x;simp only [row,bO,cD,wU,List.length_append,List.length_cons,dJ] at h ⊢;omega
theorem LS (x:TT):bU x=1+x.2.1.length+(bO x.2.2).length+wU (cD x.2.2):=by
 obtain ⟨n,a,k⟩:=x;rw [dJ,D3];simp only;omega
end
section
open Go.Lib (hid)
open Go.RowKit
set_option linter.unusedSimpArgs false in
set_option linter.unusedVariables false in
set_option maxRecDepth 100000 in
set_option maxHeartbeats 8000000 in
theorem CL (m:Nat) (ih:∀ (w:World) (R:Nat->Prop) (t:fZ) (x:TT),(∀ b,R b->b<w.heap.size)->cQ R w t x->bU x<m->bU x<=1000000000 →
      Calls Tryz.prog 108 #[.agg (dE t x.1)] w (dD ((bU x:Nat):Int) w))
 (w:World) (R:Nat->Prop) (t:fZ) (x:TT) (hR:∀ b,R b->b<w.heap.size) (ht:cQ R w t x) (hm:bU x<=m) (hmax:bU x<=1000000000) :
 Calls Tryz.prog 108 #[.agg (dE t x.1)] w (dD ((bU x:Nat):Int) w):=by
 have HI:=hid ih;have HR:=hid hR;have HT:=hid ht;have hsum:=LS x;have hla:=ht.atoms.len;have hlf:=ht.funs.len;have hnk:=ht.nk;obtain ⟨S,hS⟩ : ∃ S,S=bU x:=⟨_,rfl⟩;obtain ⟨L,hL⟩ : ∃ L,L=cD x.2.2:=⟨_,rfl⟩;rw [<-hS,<-hL,hla,hlf] at hsum;rw [<-hL] at hnk;rw [<-hS] at hm hmax ⊢;have HL:=hid hL;have HSX:=hid hS;have HNK:=hid hnk;have HB1:=hid (aB w (.cells (dE t x.1) 49));have HK1:Hid (aD (w.alloc (.cells (dE t x.1) 49)) w.heap.size 49 (dE t x.1)):=hid (aD.new _ _ _);obtain ⟨⟨op,va,vb⟩,ats,k⟩:=x;obtain ⟨Ak,nk,ck,Aa,na,ca,Af,nf,cf⟩:=t;simp only at hsum HNK HK1 HB1 HL ⊢;have hLn:L.length=nk:=HNK.o.symm;have hge:∀ l:List TT,l.length<=wU l:=by
  intro l
  induction l with
  | nil=>exact Nat.le_refl _
  | cons y r ih2 =>
   simp only [List.length_cons,wU];have h1:1<=bU y:=(by obtain ⟨n,a,k⟩:=y;rw [dJ];omega);omega
 have hnk4:nk<=1000000000:=by have:=hge L;omega
 have hwr:∀ z:Nat,z<=3000000000->IntKind.i64.wrap (z:Int)=(z:Int):=fun z hz=>by rw [IntKind.wrap_i64];omega
 have hw1:IntKind.i64.wrap (1+(na:Int))=((1+na:Nat):Int):=by rw [show (1:Int)+(na:Int)=((1+na:Nat):Int) from by omega];exact hwr _ aA
 have hw2:IntKind.i64.wrap (((1+na:Nat):Int)+(nf:Int))=((1+na+nf:Nat):Int):=by rw [show ((1+na:Nat):Int)+(nf:Int)=((1+na+nf:Nat):Int) from by omega];exact hwr _ aA
 have hbnd:1+na+nf<=1000000000:=aA;have HSM:=hid hsum;have HMX:=hid (And.intro hm hmax);have HWR:=hid hwr;clear hm hmax ih hR ht hsum hla hlf hnk hS hL hge hwr HNK;go_in;go_wp2_with fail
 go_loopw [3,4] (fun nv iv wr=>∃ (i s:Nat),nv=.int .i64 (s:Int)/\iv=.int .i64 (i:Int)/\i<=nk/\1<=s/\Hid (s+wU (L.drop i)=S)/\Hid (Below w.heap.size w wr)/\Hid (aD wr w.heap.size 49 #[.int .i64 op,.int .i64 va,.int .i64 vb,.slice Ak nk ck,.slice Aa na ca,.slice Af nf cf])) (fun _ iv _=>nk-(intOf iv).toNat)
 case atStart=>exact ⟨0,1+na+nf,by first | rfl | (rw [hw2]) | (rw [hw1,hw2]) | go_num,rfl,Nat.zero_le _,by omega,hid (by rw [List.drop_zero];exact HSM.o.symm),HB1,HK1⟩
 case round =>
  clear HB1 HK1;obtain ⟨i,s,rfl,rfl,hi,hs1,hs,hbw,hkb⟩:=hrel;have zc:=aD.cell hkb.o;have zc3:=zc 3;by_cases hlt:i<nk;rotate_left
  · have hd:decide ((i:Int)<(nk:Int))=false:=decide_eq_false aA;have hd2:decide (i<nk)=false:=decide_eq_false hlt;have hs2:=hs.o;rw [List.drop_of_length_le aA] at hs2;simp only [wU,Nat.add_zero] at hs2;subst hs2;clear hlt;go_wp2_with fail
    go_ret;exact ⟨rfl,hbw.o⟩
  have hd:decide ((i:Int)<(nk:Int))=true:=decide_eq_true aA;have hkid:=cQ.kid HT.o (j:=i) hlt;simp only at hkid;obtain ⟨b,o,t',hA,hb0,hc,ht'⟩:=hkid;subst hA;have hc':=hc.below hbw.o (HR.o b hb0);have hdr:L.drop i=cT k i::L.drop (i+1):=by rw [HL.o];exact BP (by rw [<-HL.o];omega)
  have hsz:=hs.o;rw [hdr] at hsz;simp only [wU] at hsz;have hmx:=HMX.o;have HC:=hid (HI.o wr R t' (cT k i) (fun b' hb'=>Nat.lt_of_lt_of_le (HR.o b' hb') hbw.o.size) (ht'.below HR.o hbw.o) aA aA);generalize cT k i=y at *;obtain ⟨z,hz⟩ : ∃ z,z=bU y:=⟨_,rfl⟩;rw [<-hz] at HC hsz;have hw3:IntKind.i64.wrap ((s:Int)+(z:Int))=((s+z:Nat):Int):=by rw [show (s:Int)+(z:Int)=((s+z:Nat):Int) from by omega];exact HWR.o _ aA
  obtain ⟨⟨yo,ya,yb⟩,yats,yk⟩:=y;obtain ⟨Ak1,nk1,ck1,Aa1,na1,ca1,Af1,nf1,cf1⟩:=t';obtain ⟨y0,y1,y2,y3,y4,y5⟩:=hc';simp only at y0 y1 y2 y3 y4 y5 HC;have HSZ:=hid hsz;clear hc ht' hdr hsz hmx hz;go_wp2_with fail
  refine (HC.o).mono ?_;rintro e w2 ⟨rfl,hb2⟩;have HB2:=cO hbw hb2;have HK2:=hid (hkb.o.below hb2 hkb.o.lt);clear hb2 y0 y1 y2 y3 y4 y5 zc zc3;go_wp2_with fail
  go_roundw
  case rel=>exact ⟨i+1,s+z,by first | rfl | go_num,by go_num,by omega,by omega,hid (by have:=HSZ.o;omega),HB2,HK2⟩
  case measure=>simp [intOf];omega
theorem uS:∀ (m:Nat) (w:World) (R:Nat->Prop) (t:fZ) (x:TT),(∀ b,R b->b<w.heap.size)->cQ R w t x->bU x<m->bU x<=1000000000 →
      Calls Tryz.prog 108 #[.agg (dE t x.1)] w (dD ((bU x:Nat):Int) w)
 | 0,_,_,_,_,_,_,h,_=>absurd h (Nat.not_lt_zero _)
 | m+1,w,R,t,x,h1,h2,h3,h4=>CL m (uS m) w R t x h1 h2 aA h4
theorem pK {w:World} {R:Nat->Prop} {t:fZ} {x:TT} (hR:∀ b,R b->b<w.heap.size) (ht:cQ R w t x) (h:bU x<=1000000000):Calls Tryz.prog 108 #[.agg (dE t x.1)] w (dD ((bU x:Nat):Int) w) :=
 uS _ w R t x hR ht (Nat.lt_succ_self _) h
end
end Go.Proofs.YtjllmblbbgojbaaGreat
