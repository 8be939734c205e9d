/- Merged: Guarded, Sub, Rights, RefFs, RvW, RvA, Tr, FixF, LiftG, Err18, Deeps. -/
import Derived.Test.YtjoddliplahgkaaGreatTRegist
import Derived.Test.YtjoddliplahgkaaGreatTRefGd
namespace Go.Proofs.YtjoddliplahgkaaGreat
set_option linter.unusedVariables false
set_option linter.unusedSimpArgs false
open Go.RowKit
open Go.Value renaming int → O, slice → X
open Go.IntKind renaming i64 → S
open Option renaming none → Y
open Go.Obj renaming cells → Z
theorem wR(p:List Nd)(n:Nd)(a:List Nd)(k x:Fo):cG (.cons p n a k x)=p++cG x:=rfl
theorem D7:∀(k:Nat)(last:Int)(l:List Nd)(p:List Nd×List Nd),bJ k last l=some p->∀m∈p.1,m.op=3
 | 0,_,_,p,h,m,hm=>by
  simp only[bJ,YT]at h;subst h;cases hm
 | k+1,last,[],p,h,m,hm=>by simp[bJ]at h
 | k+1,last,x::l,p,h,m,hm=>by
  simp only[bJ]at h;split at h
  . rename_i D
    simp only[ZO]at h;obtain⟨q,F,rfl⟩:=h;rcases YV.1 hm with rfl|hm
    . exact D.1
    exact D7 k x.a l q F m hm
  . cases h
def cT(l:List Nd):TT:=match pp [false] l with
 | some (.cons _ n a k _,_)=>(n,a,k)
 | none=>(default,[],.nil)
 | some (.nil,_)=>(default,[],.nil)
theorem BE{l:List Nd}{n:Nd}{a:List Nd}{k:Fo}(h:Rt l n a k):cT l=(n,a,k):=by
 unfold cT;rw[h.pp]
theorem PF{b:Bk}{free:Int}{l:List Nd}(h:fK b free l=0):bU b=0/\0<=free/\fM b b.entries.length (-1) l free=0:=by
 unfold fK at h;split at h
 . rename_i D;exact absurd h D
 rename_i D
 split at h
 . cases h
 rename_i F
 exact⟨Decidable.not_not.1 D,by omega,h⟩
theorem AO{b:Bk}{known self below:Int}{l:List Nd}(h:fM b known self l below=0):a6 l=0/\gH l below=true/\∀m∈l,cP b known self m=true:=by
 unfold fM at h;split at h
 . rename_i D;exact absurd h D
 rename_i D
 split at h
 . cases h
 rename_i F
 split at h
 . rename_i G
   exact⟨Decidable.not_not.1 D,by simpa using F,List.all_eq_true.1 G⟩
 cases h
section
open Go.Lib renaming hid->aB
set_option maxHeartbeats 4000000
set_option maxRecDepth 100000
theorem yQ{b:Bk}{i:Nat}{x:En}{r:List En}:dL b i (x::r)=if dK b i x≠0 then dK b i x else dL b (i+1) r:=rfl
theorem AN{w:aAB}{v:bR}{b:Bk}(hb:cE w v b):
 Calls Tryz.prog 27 #[.agg #[O S b.vars,X v.Ao v.no v.co,X v.Ae v.ne v.ce,O S b.nat,X v.Ap v.np v.cp]] w (iV (bU b) w):=by
 have a4:=hb.entries.len;have b0:=hb.entries.few;have z:=aB (fun (w':aAB) (h:ZY w w')=>ME hb.vars (hb.orders.below h));have b1:=aB (fun (w':aAB) (h:ZY w w')=>hb.entries.below h);have a3:=aB (fun (w':aAB) (i:Nat) (D:jY) (x:En) (h:ZY w w') (h1:i<=b.entries.length) (h2:DQ w' D x)=>GT (hb.below h) (i:Int) aA h2);have a7:=aB (fun (w':aAB) (h:ZY w w')=>wW (hb.below h));have U:=aB (aQ w (Z #[O S b.vars,X v.Ao v.no v.co,X v.Ae v.ne v.ce,O S b.nat,X v.Ap v.np v.cp] 26));have a8:=aB (aT.new w 26 #[O S b.vars,X v.Ao v.no v.co,X v.Ae v.ne v.ce,O S b.nat,X v.Ap v.np v.cp]);have G:Hid (bU b=if (qI b.vars b.orders).1≠0 then (qI b.vars b.orders).1
 else if 64<b.entries.length then 5
 else if dL b 0 b.entries≠0 then dL b 0 b.entries
 else if JE b then 0 else 22):=aB rfl
 generalize bU b=res at *;generalize (qI b.vars b.orders).1=ck at *;rw[a4]at G a3;have a9:=aB a4;obtain⟨Ao,no,co,Ae,ne,ce,Ap,np,cp⟩:=v;simp only at z b1 a3 a7 U a8 G a9 b0 ⊢;clear hb a4;generalize b.vars=bv at *;generalize b.nat=bn at *;by_cases h1:ck=0;case neg =>
  rw[XP h1]at G;have d1:(ck != 0)=true:=by simpa using h1
  clear h1;go_in;go_wp2_with fail;refine (z.o _ U.o).mono ?_;rintro e w2 ⟨rfl,I⟩;have a2:=bY U I;clear I;go_wp2_with fail;go_ret;rw[G.o];exact⟨rfl,a2.o⟩
 subst h1;rw[XN aD]at G;by_cases h2:64<ne
 . rw[XP h2]at G;have d2:decide ((ne:Int)>64)=true:=XR aA;clear h2;go_in;go_wp2_with fail;refine (z.o _ U.o).mono ?_;rintro e w2 ⟨rfl,I⟩;have a2:=bY U I;have b8:=aT.cell (aT.below a8.o I aD);clear I;go_wp2_with fail;go_ret;rw[G.o];exact⟨rfl,a2.o⟩
 rw[XN h2]at G;have d2:decide ((ne:Int)>64)=false:=XQ aA;clear h2;go_in;go_wp2_with fail;refine (z.o _ U.o).mono ?_;rintro e w2 ⟨rfl,I⟩;have a2:=bY U I;have b2:=aB (aT.below a8.o I aD);have b8:=aT.cell b2.o;clear I;go_wp2_with fail;clear b8;go_loopw [22] (fun iv wr=>∃i:Nat,iv=O S (i:Int)/\i<=ne/\Hid (dL b i (b.entries.drop i)=dL b 0 b.entries)/\Hid (aT wr w.heap.size 26 #[O S bv,X Ao no co,X Ae ne ce,O S bn,X Ap np cp])/\Hid (ZY w wr)) (fun i _=>ne-(intOf i).toNat)
 case atStart=>exact⟨0,rfl,by omega,aB rfl,b2,a2⟩
 case round =>
  obtain⟨i,rfl,hi,b5,a6,a1⟩:=hrel;by_cases b7:i<ne;rotate_left
  . have c6:decide ((i:Int)<(ne:Int))=false:=XQ aA;have hq:=b5.o;rw[YY (by rw[a9.o];omega)]at hq;have a0:Hid (res=if JE b then 0 else 22):=aB (by rw[G.o,<-hq];rfl);have HC:=aB (a7.o wr a1.o);have zk:=aT.cell a6.o;generalize JE b=rb at *;clear hq;cases rb with
    | true =>
     rw[XP rfl]at a0;go_wp2_with fail;refine (HC.o).mono ?_;rintro e w4 ⟨rfl,F⟩;have s:=bY a1 F;clear F zk;go_wp2_with fail;go_ret;rw[a0.o];exact⟨rfl,s.o⟩
    | false =>
     rw[XN aD]at a0;go_wp2_with fail;refine (HC.o).mono ?_;rintro e w4 ⟨rfl,F⟩;have s:=bY a1 F;clear F zk;go_wp2_with fail;go_ret;rw[a0.o];exact⟨rfl,s.o⟩
  have c6:decide ((i:Int)<(ne:Int))=true:=XR aA;obtain⟨be,oe,rfl,c9,D,d4,c0,c1,c2,c3,c4,c5,b4⟩:=(b1.o wr a1.o).at_ b7;have b6:i<b.entries.length:=by rw[a9.o];exact b7
  have hq:=b5.o;rw[YX b6,show b.entries[i]=b.entries.getD i default from by rw[YD,YB b6];rfl,yQ]at hq;generalize b.entries.getD i default=x at *;have a5:=aB (a1.o.trans ((aQ wr (Z #[O S x.kind,X D.As D.ns D.cs,X D.Ap D.np D.cp,X D.Ai D.ni D.ci,X D.Ac D.nc D.cc,X D.At D.nt D.ct,X D.Ab D.nb D.cb] 61)).mono a1.o.size));have b3:=aB (a6.o.alloc (Z #[O S x.kind,X D.As D.ns D.cs,X D.Ap D.np D.cp,X D.Ai D.ni D.ci,X D.Ac D.nc D.cc,X D.At D.nt D.ct,X D.Ab D.nb D.cb] 61));have HC:=aB (a3.o _ i D x a5.o aA (b4.below (aQ wr (Z #[O S x.kind,X D.As D.ns D.cs,X D.Ap D.np D.cp,X D.Ai D.ni D.ci,X D.Ac D.nc D.cc,X D.At D.nt D.ct,X D.Ab D.nb D.cb] 61))));generalize x.kind=kd at *;generalize dK b i x=ee at *;have zk:=aT.cell a6.o;have d0:=a6.o.lt;obtain⟨As,ns,cs,c7,d5,c8,Ai,ni,ci,Ac,nc,cc,At,nt,ct,Ab,nb,cb⟩:=D;simp only at c0 c1 c2 c3 c4 c5 a5 b3 HC;clear b4;by_cases h3:ee=0
  . subst h3;rw[XN aD]at hq;have HQ:=aB hq;clear hq;go_wp2_with fail;refine (HC.o).mono ?_;rintro e w4 ⟨rfl,F⟩;have s:=bY a5 F;have b9:=j8 b3 F;clear F zk;go_wp2_with fail;go_roundw
    case rel=>exact⟨i+1,by go_num,by omega,HQ,b9,s⟩
    case measure=>simp[intOf];omega
  rw[XP h3]at hq;have a0:Hid (res=ee):=aB (by rw[G.o,<-hq,XP h3]);have d3:(ee != 0)=true:=by simpa using h3
  clear hq h3;go_wp2_with fail;refine (HC.o).mono ?_;rintro e w4 ⟨rfl,F⟩;have s:=bY a5 F;clear F zk;go_wp2_with fail;go_ret;rw[a0.o];exact⟨rfl,s.o⟩
theorem PE{w:aAB}{v:bR}{b:Bk}(hb:cE w v b)(free:Int){A:ZZ}{n c:Nat}{l:List Nd}(ht:aX w A n c l):
 Calls Tryz.prog 28 #[.agg #[O S b.vars,X v.Ao v.no v.co,X v.Ae v.ne v.ce,O S b.nat,X v.Ap v.np v.cp],O S free,X A n c] w (iV (fK b free l) w):=by
 have s:=hb.entries.len;obtain⟨U,z,F,a0⟩:=aAE (fun (w':aAB) (h:ZY w w')=>AN (hb.below h)) (fun (w':aAB) (h:ZY w w')=>DC (hb.below h) (b.entries.length:Int) (-1) aA (ht.below h) free) (aQ w (Z #[O S b.vars,X v.Ao v.no v.co,X v.Ae v.ne v.ce,O S b.nat,X v.Ap v.np v.cp] 26)) (aT.new w 26 #[O S b.vars,X v.Ao v.no v.co,X v.Ae v.ne v.ce,O S b.nat,X v.Ap v.np v.cp]);have G:Hid (fK b free l=if bU b≠0 then bU b else if free<0 then 1 else fM b b.entries.length (-1) l free):=aB rfl;generalize fK b free l=res at *;generalize bU b=re at *;generalize fM b b.entries.length (-1) l free=ro at *;rw[s]at z;obtain⟨Ao,no,co,Ae,ne,ce,Ap,np,cp⟩:=v;simp only at U z F a0 ⊢;clear hb ht s;generalize b.vars=bv at *;generalize b.nat=bn at *;by_cases h1:re=0;case neg =>
  rw[XP h1]at G;have d1:(re != 0)=true:=by simpa using h1
  clear h1;go_in;go_wp2_with fail;refine (U.o _ F.o).mono ?_;rintro e w2 ⟨rfl,D⟩;have I:=bY F D;clear D;go_wp2_with fail;go_ret;rw[G.o];exact⟨rfl,I.o⟩
 subst h1;rw[XN aD]at G;by_cases h2:free<0
 . rw[XP h2]at G;have d2:decide (free<0)=true:=XR h2;clear h2;go_in;go_wp2_with fail;refine (U.o _ F.o).mono ?_;rintro e w2 ⟨rfl,D⟩;have I:=bY F D;clear D;go_wp2_with fail;go_ret;rw[G.o];exact⟨rfl,I.o⟩
 rw[XN h2]at G;have d2:decide (free<0)=false:=XQ h2;clear h2;go_in;go_wp2_with fail;refine (U.o _ F.o).mono ?_;rintro e w2 ⟨rfl,D⟩;have I:=bY F D;have a3:=aT.cell (aT.below a0.o D aD);clear D;go_wp2_with fail;refine (z.o _ I.o).mono ?_;rintro e w3 ⟨rfl,a1⟩;have a2:=bY I a1;clear a1 a3;go_wp2_with fail;go_ret;rw[G.o];exact⟨rfl,a2.o⟩

end
section

theorem I4{w:aAB}{base j d z:Nat}{B:ZZ}{e:TypeId}{G:List Value}(h:w.ownsRow base e z (X B j d) j G):∀F,B=some F->∀i u,G[i]? = some u->w.cell? (F.add i)=some u:=by
 intro F he i u o;have U:=h;rcases h.2 with⟨hv,_⟩|⟨g,cap,I,hv,_⟩
 . injection hv with D;rw[he]at D;cases D
 injection hv with D;rw[he]at D;injection D with D;subst D;subst he;exact World.ownsRow.cells U (g:=g) rfl i u o
theorem NG{w:aAB}{base j d z:Nat}{B:ZZ}{e:TypeId}{U:List Value}(h:w.ownsRow base e z (X B j d) j U):B=Y->j=0:=by
 intro I;rcases h.2 with⟨_,G⟩|⟨g,cap,F,hv,_⟩
 . exact G
 injection hv with D;rw[I]at D;cases D
theorem CH{R:Nat->Prop}{w:aAB}:∀(F:Fo)(D:List Value),lO R w F D->∀u∈D,u.oneCell'=true
 | .nil,D,h,u,hu=>by
  have:D=[]:=h;subst this;cases hu
 | .cons _ n atoms kids next,D,h,u,hu=>by
  obtain⟨ys,I,rfl,⟨s,U,o,rfl,⟨_,_,_,rfl,_⟩,⟨_,_,_,rfl,_⟩,⟨_,_,_,rfl,_⟩⟩,G⟩:=h;rcases YW.1 hu with hu|hu
  . simp only[YV,List.not_mem_nil,or_false]at hu;rcases hu with rfl|rfl|rfl|rfl|rfl|rfl<;>rfl
  . exact CH next I G u hu
theorem IL{F:Fo}{i:Nat}(h:i<(bH F).length):(bH F).drop i=cX F i::(bH F).drop (i+1):=by
 rw[YX h];unfold cX;rw[YD,YB h];rfl
end
section
def fI(R:Nat->Prop)(w:aAB)(t:iA)(x:TT):Prop:=cJ R w [O S x.1.op,O S x.1.a,O S x.1.b,X t.Ak t.nk t.ck,X t.Aa t.na t.ca,X t.Af t.nf t.cf] x.1 x.2.1 x.2.2
section
variable {R R' : Nat->Prop}{w w' : aAB}{t : iA}{x : TT}
theorem fI.keep(h:fI R w t x)(D:∀b,R b->R' b/\∀o,w'.cell? ⟨b,o,Y⟩=w.cell? ⟨b,o,Y⟩):fI R' w' t x:=cJ.keep h D
theorem fI.below(h:fI R w t x)(hR:∀b,R b->b<w.heap.size)(F:ZY w w'):fI R w' t x:=h.keep fun b D=>⟨D,fun o=>F.cell (p:=⟨b,o,Y⟩) (hR b D)⟩
theorem fI.kids(h:fI R w t x):eX R w t.Ak t.nk t.ck x.2.2:=by
 obtain⟨I,F,G,he,⟨A,n,c,rfl,D⟩,_,_⟩:=h;simp only[ZI,Value.slice.injEq,true_and,and_true]at he;obtain⟨⟨rfl,rfl,rfl⟩,_,_⟩:=he;exact D
theorem fI.atoms(h:fI R w t x):bF R w t.Aa t.na t.ca x.2.1:=by
 obtain⟨I,F,G,he,_,⟨A,n,c,rfl,D⟩,_⟩:=h;simp only[ZI,Value.slice.injEq,true_and,and_true]at he;obtain⟨_,⟨rfl,rfl,rfl⟩,_⟩:=he;exact D
theorem fI.funs(h:fI R w t x):bF R w t.Af t.nf t.cf (cG x.2.2):=by
 obtain⟨I,F,G,he,_,_,⟨A,n,c,rfl,D⟩⟩:=h;simp only[ZI,Value.slice.injEq,true_and,and_true]at he;obtain⟨_,_,⟨rfl,rfl,rfl⟩⟩:=he;exact D
theorem fI.nk(h:fI R w t x):t.nk=(bH x.2.2).length:=by rw[oR,h.kids.len]
theorem eX.nthR{A:ZZ}{n c:Nat}{F:Fo}(h:eX R w A n c F){j:Nat}(U:j<n):∃b o t,A=some ⟨b,o,Y⟩/\R b/\T0 w b (o+j*6) t (cX F j).1/\fI R w t (cX F j):=by
 obtain⟨b,off,e,s,I⟩:=h.mem aA;obtain⟨t,D,G⟩:=uD.nth_ F b off j I (by rw[h.len];exact U);exact⟨b,off,t,e,s,D,G⟩
theorem fI.kid(h:fI R w t x){j:Nat}(F:j<t.nk):∃b o D,t.Ak=some ⟨b,o,Y⟩/\R b/\T0 w b (o+j*6) D (cX x.2.2 j).1/\fI R w D (cX x.2.2 j):=h.kids.nthR F
end
def R0(R:Nat->Prop)(w:aAB)(x:TT)(e:Ending)(w':aAB):Prop:=ZY w w'/\∃t:iA,e=.returned (.agg (fE t x.1))/\fI (bM R w w') w' t x
theorem RC{R:Nat->Prop}{w:aAB}{D:List Value}{x:TT}(h:cJ R w D x.1 x.2.1 x.2.2):∃t:iA,D.toArray=fE t x.1/\fI R w t x:=by
 have F:=h;obtain⟨s,U,o,rfl,⟨A,n,c,rfl,I⟩,⟨B,m,d,rfl,ha⟩,⟨C,p,e,rfl,G⟩⟩:=h;exact⟨⟨A,n,c,B,m,d,C,p,e⟩,rfl,F⟩
theorem fF.tt{R:Nat->Prop}{w w':aAB}{x:TT}{e:Ending}(h:fF R w x.1 x.2.1 x.2.2 e w'):R0 R w x e w':=by
 obtain⟨G,ys,he,ht⟩:=h;obtain⟨t,D,F⟩:=RC ht;exact⟨G,t,by rw[he,D],F⟩
def iP:List TT->Fo
 | []=>.nil
 | y::r=>.cons [] y.1 y.2.1 y.2.2 (iP r)
theorem wA:∀L,bH (iP L)=L
 | []=>rfl
 | y::r=>by simp only[iP,bH,wA r]
theorem iC:∀L,bE (iP L)=L.length
 | []=>rfl
 | y::r=>by simp only[iP,bE,iC r,YA]
theorem sQ(L:List TT)(j:Nat):cX (iP L) j=L.getD j XH:=by unfold cX;rw[wA]
theorem AG:∀L,cG (iP L)=[]
 | []=>rfl
 | y::r=>by simp only[iP,cG,AG r,YO]
theorem eX.below{R:Nat->Prop}{w w':aAB}{A:ZZ}{n c:Nat}{F:Fo}(h:eX R w A n c F)(hR:∀b,R b->b<w.heap.size)(G:ZY w w'):eX R w' A n c F:=h.keep fun b D=>⟨D,fun o=>G.cell (p:=⟨b,o,Y⟩) (hR b D)⟩
theorem bM.to{R:Nat->Prop}{w V w' D:aAB}{b:Nat}(h:bM R V w' b)(F:w.heap.size<=V.heap.size)(G:w'.heap.size<=D.heap.size):bM R w D b:=by
 rcases h with h|h
 . exact .inl h
 exact .inr ⟨by have:=h.1;omega,by have:=h.2;omega⟩
theorem bM.idem{R:Nat->Prop}{w V w' D:aAB}{b:Nat}(h:bM (bM R w V) V w' b)(G:w.heap.size<=V.heap.size)(F:V.heap.size<=D.heap.size)(I:w'.heap.size<=D.heap.size):bM R w D b:=by
 rcases h with h|h
 . exact h.to (XU _) F
 exact .inr ⟨by have:=h.1;omega,by have:=h.2;omega⟩
def DG:List TT->Nat
 | []=>0
 | y::r=>bL y+DG r
theorem LG:∀F:Fo,(row F).length=(cG F).length+DG (bH F)
 | .nil=>rfl
 | .cons p n a k x=>by
  have h:=LG x;simp only[row,cG,bH,DG,XX,YA,cS]at h ⊢;omega
theorem TR(x:TT):bL x=1+x.2.1.length+(cG x.2.2).length+DG (bH x.2.2):=by
 obtain⟨n,a,k⟩:=x;rw[cS,LG];simp only;omega
end
section
open Go.Lib renaming hid->aB
def VJ(R:Nat->Prop)(w:aAB)(q:TT×List TT)(e:Ending)(w':aAB):Prop:=ZY w w'/\∃(D:iA)(B:ZZ)(d:Nat),e=.returned (.tuple #[.agg (fE D q.1.1),X B q.2.length d])/\fI R w' D q.1/\eX (bM R w w') w' B q.2.length d (iP q.2)/\(B=Y->d=0)
theorem xE{w:aAB}{g:Nat}{c0 c1 c2 c3 c4 c5:Value}{D:Array Value}(h:aT w g 85 #[c0,c1,c2,c3,c4,c5])(ht:D.getD 2 undef=.pointer (some ⟨g,0,Y⟩)):
 (results Tryz.f79 D).run Tryz.prog w=.ok (.tuple #[.agg #[c0,c1,c2,c3,c4,c5],D.getD 3 undef]) w:=by
 have G:=h.cell;have F:D[2]?.getD undef=.pointer (some ⟨g,0,Y⟩):=by rw[<-ht];simp
 simp[results,Tryz.results79,go_sem,F,G]
set_option maxRecDepth 100000 in
set_option maxHeartbeats 8000000 in
theorem kX{w:aAB}{R:Nat->Prop}{t:iA}{x:TT}(hR:∀b,R b->b<w.heap.size)(ht:fI R w t x)(hx:LV x):
 Calls Tryz.prog 79 #[.agg (fE t x.1)] w (VJ R w (bX x)):=by
 obtain⟨Hd,L,e0⟩:∃Hd L,bX x=(Hd,L):=⟨_,_,rfl⟩;obtain⟨HR,g0,f9,f4⟩:=aAE hR ht hx e0;rw[e0];have k6:bL x<=4096:=Rt.few hx;obtain⟨i0,hi,h2,h3,h4⟩:=info_parts Tryz.infoT;obtain⟨i2,j0,j1,j2⟩:=aAE hi h2 h3 h4;obtain⟨⟨op,va,vb⟩,j3,k⟩:=x;obtain⟨Ak,nk,ck,Aa,na,ca,Af,nf,cf⟩:=t;have d8:=aB (aQ w (Z #[O S op,O S va,O S vb,X Ak nk ck,X Aa na ca,X Af nf cf] 85));have f3:=aB (d8.o.alloc d8.o.size (Z #[O S 0,O S 0,O S 0,X Y 0 0,X Y 0 0,X Y 0 0] 85));have f5:Hid (aT ((w.alloc (Z #[O S op,O S va,O S vb,X Ak nk ck,X Aa na ca,X Af nf cf] 85)).alloc (Z #[O S 0,O S 0,O S 0,X Y 0 0,X Y 0 0,X Y 0 0] 85)) w.heap.size 85 #[O S op,O S va,O S vb,X Ak nk ck,X Aa na ca,X Af nf cf]):=aB ((aT.new _ _ _).alloc _);have f6:Hid (aT ((w.alloc (Z #[O S op,O S va,O S vb,X Ak nk ck,X Aa na ca,X Af nf cf] 85)).alloc (Z #[O S 0,O S 0,O S 0,X Y 0 0,X Y 0 0,X Y 0 0] 85)) (w.heap.size+1) 85 #[O S 0,O S 0,O S 0,X Y 0 0,X Y 0 0,X Y 0 0]):=aB (aT.new' aD);clear hi h2 h3 h4 hR ht hx e0;go_in;go_wp2_with fail;go_loopw [4] (fun av wr=>∃(j d:Nat)(B:ZZ)(G:List TT)(vs:List Value)(t':iA)(x':TT),av=X B j d/\bL x'+j<=4096/\G.length=j/\Hid (LV x')/\Hid ((bX x').1=Hd/\(bX x').2++G=L)/\Hid (fI R w t' x')/\Hid (aT wr w.heap.size 85 (fE t' x'.1))/\Hid (aT wr (w.heap.size+1) 85 #[O S 0,O S 0,O S 0,X Y 0 0,X Y 0 0,X Y 0 0])/\Hid (wr.ownsRow (w.heap.size+2) 85 6 (X B j d) j vs)/\Hid (lO R w (iP G) vs)/\Hid (ZY w wr)) (fun av _=>4096-zZ av)
 case atStart=>exact⟨0,0,Y,[],[],⟨Ak,nk,ck,Aa,na,ca,Af,nf,cf⟩,(⟨op,va,vb⟩,j3,k),rfl,by omega,rfl,f9,aB (by rw[f4.o];exact⟨rfl,by simp⟩),g0,f5,f6,aB (ZE _ _ _ _),aB rfl,f3⟩
 case round =>
  clear f5 f6 d8 f3 g0 f9 f4;obtain⟨j,d,B,G,vs,t',x',rfl,h1,j6,e6,d0,c0,b4,b9,F,b7,c9⟩:=hrel;have k4:=b9.o.lt;by_cases h6:x'.1.op=6;rotate_left
  . have b8:=d0.o;rw[qZ h6]at b8;obtain⟨b8,g5⟩:=b8;try simp only[YO]at b8 g5
    subst b8;subst g5;have j5:(x'.1.op==6)=false:=by simpa using h6
    obtain⟨⟨o9,e8,e9⟩,a9,k9⟩:=x';obtain⟨c3,d5,c7,c1,d3,c4,c2,d4,c6⟩:=t';simp only at h6 j5 b4;have zk:=aT.cell b4.o;try simp only at zk
    have zz:=aT.cell b9.o;have zf:=aT.frozen b9.o;subst j6;clear h6 e6 d0 h1;go_wp2_with fail;have b3:=e7 wr (w.heap.size+1) (O S o9) (O S e8) (O S e9) (X c3 d5 c7) (X c1 d3 c4) (X c2 d4 c6);have e4:=c9.o.grown b3 (by have:=c9.o.size;omega) (fun q hq=>by injection hq with hq;omega);have e5:=World.ownsRow.kept F.o b3 (.inr (eF F.o (show w.heap.size+1<w.heap.size+2 by omega)).symm);refine XW (v:=.tuple #[.agg #[O S o9,O S e8,O S e9,X c3 d5 c7,X c1 d3 c4,X c2 d4 c6],X B G.length d]) (xE (cK b9.o _ _ _ _ _ _) aD) rfl ?_;refine⟨e4,⟨c3,d5,c7,c1,d3,c4,c2,d4,c6⟩,B,d,rfl,c0.o.below HR.o e4,?_,fun e=>CV F.o e⟩;obtain⟨A',n',c',e,h⟩:=iQ (by rw[iC];exact e5) (lO.keep (R':=bM R w _) (fun b hb=>⟨Or.inl hb,fun o=>e4.cell (p:=⟨b,o,Y⟩) (HR.o b hb)⟩) _ _ b7.o) (fun g hg=>Or.inr ⟨by have:=(aS e5 hg).1;omega,(aS e5 hg).2.1⟩);injection e with e1 e2 e3;subst e1 e2 e3;exact h
  obtain⟨n9,a9,k9⟩:=x';obtain⟨n1,a1,k1,n2,a2,k2,rfl,rfl,g8,j7,_,_⟩:=N9 e6.o (.inr (.inr h6));have g7:t'.nk=2:=c0.o.nk;obtain⟨b0,o0,t1,hA,c8,b5,d1⟩:=c0.o.kid (j:=0) aA;obtain⟨j4,k0,t2,d9,g4,b6,d2⟩:=c0.o.kid (j:=1) aA;obtain⟨rfl,rfl⟩:b0=j4/\o0=k0:=by rw[hA]at d9;injection d9 with e;injection e with e1 e2;exact⟨e1,e2⟩
  have c8:=HR.o _ c8;clear d9 g4;simp only at b5 d1 b6 d2 hA;rw[show cX (Fo.cons [] n1 a1 k1 (Fo.cons [] n2 a2 k2 Fo.nil)) 0=(n1,a1,k1) from rfl]at b5 d1;rw[show cX (Fo.cons [] n1 a1 k1 (Fo.cons [] n2 a2 k2 Fo.nil)) 1=(n2,a2,k2) from rfl]at b6 d2;rw[YU,YF]at b5;rw[Nat.one_mul]at b6;have h0:bL (n1,a1,k1)<bL (n9,[],Fo.cons [] n1 a1 k1 (Fo.cons [] n2 a2 k2 Fo.nil)):=U7.1;have j8:bL (n1,a1,k1)+(1+j)<=4096:=aA;have k5:j<=4096:=aA;have b1:=d0.o;rw[KM h6]at b1;have i1:Hid ((bX (n1,a1,k1)).1=Hd/\(bX (n1,a1,k1)).2++((n2,a2,k2)::G)=L):=aB ⟨b1.1,by rw[<-b1.2];simp⟩;obtain⟨c3,d5,c7,c1,d3,c4,c2,d4,c6⟩:=t';obtain⟨f2,h8,g3,f0,h5,g1,f1,h7,g2⟩:=t1;obtain⟨s,a6,a3,I,a4,z,U,a5,a0⟩:=t2;simp only at g7 hA h6 b4;subst g7;subst hA;obtain⟨o9,e8,e9⟩:=n9;simp only at h6 b4;subst h6;have h9:=aB (fun (w':aAB) (h:ZY w w')=>b5.below h c8);obtain⟨z0,z1,z2,z3,z4,z5⟩:=b6.below c9.o c8;try simp only at z0 z1 z2 z3 z4 z5
  have zk:=aT.cell b4.o;try simp only at zk
  have a7:Hid ((wr.alloc (Z #[O S n2.op,O S n2.a,O S n2.b,X s a6 a3,X I a4 z,X U a5 a0] 85)).ownsRow (w.heap.size+2) 85 6 (X (some ⟨wr.heap.size,0,Y⟩) 1 1) 1 [O S n2.op,O S n2.a,O S n2.b,X s a6 a3,X I a4 z,X U a5 a0]):=aB ⟨by simp,.inr ⟨wr.heap.size,1,#[O S n2.op,O S n2.a,O S n2.b,X s a6 a3,X I a4 z,X U a5 a0],rfl,by omega,heap_alloc_new wr _,by omega,by unfold maxLen;omega,rfl,rfl⟩⟩;have i4:=aB (World.ownsRow.alloc F.o (Z #[O S n2.op,O S n2.a,O S n2.b,X s a6 a3,X I a4 z,X U a5 a0] 85));have i9:=aB (I4 i4.o);have i8:=aB (CH (iP G) vs b7.o);have i3:Hid (B=Y->j=0/\d=0):=aB fun e=>⟨NG F.o e,CV F.o e⟩;have j9:vs.length=j*6:=F.o.1;have i6:=aB d1;have i7:=aB d2;have i5:=aB g8;have hbase:w.heap.size+2<=wr.heap.size:=aA;clear b5 b6 d1 d2 g8 j7 d0 b1 e6 c0 h0;go_wp2_with (at_builtin;go_loud (refine a8 rfl (bW (.tmp 13) (.tmp 14) 83 rfl (w.heap.size+2) 85 i0 _ 6 96 Tryz.underlying83 i2.o j0.o j1.o j2.o rfl aE (X (some ⟨wr.heap.size,0,Y⟩) 1 1) 1 [O S n2.op,O S n2.a,O S n2.b,X s a6 a3,X I a4 z,X U a5 a0] rfl a7.o B j d vs rfl j9 i3.o i9.o i8.o aJ aA (YE hbase aD) ?_));intro A5 c5 w5 D;go_loud (have d7:=c9.o.alloc (show w.heap.size<=wr.heap.size by omega) (Z #[O S n2.op,O S n2.a,O S n2.b,X s a6 a3,X I a4 z,X U a5 a0] 85));go_loud (have d6:=aB (d7.grown D.grown aG (fun g hg=>by have:=(aS a7.o hg).1;omega)));go_loud (have b2:=aT.grown (b4.o.alloc (Z #[O S n2.op,O S n2.a,O S n2.b,X s a6 a3,X I a4 z,X U a5 a0] 85)) D.grown (eF a7.o (show w.heap.size<w.heap.size+2 by omega)));go_loud (have g6:=aB (aT.grown (b9.o.alloc (Z #[O S n2.op,O S n2.a,O S n2.b,X s a6 a3,X I a4 z,X U a5 a0] 85)) D.grown (eF a7.o (show w.heap.size+1<w.heap.size+2 by omega))));go_loud (have k8:=aT.cell b2);go_loud (have k7:=aT.frozen b2);have f7:=aB b2;obtain⟨y0,y1,y2,y3,y4,y5⟩:=h9.o _ d6.o;(try simp only at y0 y1 y2 y3 y4 y5);clear b2 d7 zk z0 z1 z2 z3 z4 z5)
  have f8:=aB D.own;have g9:=D.grown.size;have k3:w.heap.size+2<=w5.heap.size:=YE hbase (YE aD g9);have b3:=aB (e7 w5 w.heap.size (O S n1.op) (O S n1.a) (O S n1.b) (X f2 h8 g3) (X f0 h5 g1) (X f1 h7 g2));clear D;go_roundw
  case rel =>
   exact⟨1+j,c5,A5,(n2,a2,k2)::G,[O S n2.op,O S n2.a,O S n2.b,X s a6 a3,X I a4 z,X U a5 a0]++vs,⟨f2,h8,g3,f0,h5,g1,f1,h7,g2⟩,(n1,a1,k1),rfl,j8,by simp only[YA];omega,i5,i1,i6,aB (cK f7.o _ _ _ _ _ _),aB (aT.grown g6.o b3.o aK),aB (World.ownsRow.kept f8.o b3.o (.inr (eF f8.o (show w.heap.size<w.heap.size+2 by omega)).symm)),aB ⟨[O S n2.op,O S n2.a,O S n2.b,X s a6 a3,X I a4 z,X U a5 a0],vs,rfl,i7.o,b7.o⟩,aB (d6.o.grown b3.o aA (fun q hq=>by injection hq with hq;omega))⟩
  case measure=>simp only[zZ];omega
end
section
def y8(σ:Int->Nd->TT)(D F:Int):Nat->Int->Fo->Fo
 | _,_,.nil=>.nil
 | j,a,.cons p n ats k x =>
  if n.op=1 then .cons p (σ (a+aR D F j) n).1 (σ (a+aR D F j) n).2.1 (σ (a+aR D F j) n).2.2 (y8 σ D F (j+1) a x)
  else .cons p n ats (y8 σ n.op n.b 0 (a+aR D F j) k) (y8 σ D F (j+1) a x)
def DP(σ:Int->Nd->TT)(a:Int)(x:TT):TT:=if x.1.op=1 then σ a x.1 else (x.1,x.2.1,y8 σ x.1.op x.1.b 0 a x.2.2)
section
variable {σ : Int->Nd->TT}
theorem pJ{a:Int}{x:TT}(h:x.1.op=1):DP σ a x=σ a x.1:=by unfold DP;rw[XP h]
theorem kH{a:Int}{x:TT}(h:x.1.op≠1):DP σ a x=(x.1,x.2.1,y8 σ x.1.op x.1.b 0 a x.2.2):=by unfold DP;rw[XN h]
theorem lC(D G:Int)(j:Nat)(a:Int)(p:List Nd)(n:Nd)(F:List Nd)(k x:Fo):y8 σ D G j a (.cons p n F k x)=.cons p (DP σ (a+aR D G j) (n,F,k)).1 (DP σ (a+aR D G j) (n,F,k)).2.1 (DP σ (a+aR D G j) (n,F,k)).2.2 (y8 σ D G (j+1) a x):=by
 simp only[y8,DP];split<;>rfl
theorem e8(p:List Nd)(n:Nd)(a:List Nd)(k x:Fo):bH (.cons p n a k x)=(n,a,k)::bH x:=rfl
theorem mN{op b:Int}(F:op≠4)(G:op≠5)(I:op≠7)(D:op≠12)(k:Int):aR op b k=0:=by
 unfold aR;rw[XN aA,XN aA]
def WE:Fo->Prop
 | .nil=>True
 | .cons _ n _ k x=>(n.op=12->0<=n.b)/\WE k/\WE x
variable {places : List Int}{ca : Int->Nat->Nat}
end
end
section
def US(ca:Int->Nat->Nat)(x:TT):Bool:=UT ca (bL x) x
section
variable {σ : Int->Nd->TT}{places : List Int}{ca : Int->Nat->Nat}
def VY(ca:Int->Nat->Nat):Fo->Bool
 | .nil=>true
 | .cons _ n a k x=>((if n.op=12 then US ca (n,a,k) else true)&&VY ca k)&&VY ca x
def VF:Fo->Prop
 | .nil=>True
 | .cons _ n D k x=>(n.op=1->D=[]/\k=.nil)/\VF k/\VF x
theorem LZ{op b:Int}(h:op=12->0<=b)(k:Int):0<=aR op b k:=by
 unfold aR;split
 . omega
 split
 . rename_i D;exact h D.1
 omega
end
end
theorem GV:∀(F:Fo)(G:List Bool),Wf G F->WE F
 | .nil,_,_=>trivial
 | .cons _ _ _ _ _,[],h=>h.elim
 | .cons p n a k x,d::dr,h=>by
  obtain⟨_,D,_,U,o⟩:=h;refine⟨fun I=>?_,GV k _ U,GV x _ o⟩;simp only[eW,YC]at D;exact (iF D.1.1).1
theorem KF{n:Nd}(h:n.op=1):ds n=[]:=by simp[ds,dU,h]
theorem tI:∀(F:Fo)(I:List Bool),Wf I F->VF F
 | .nil,_,_=>trivial
 | .cons _ _ _ _ _,[],h=>h.elim
 | .cons p n a k x,d::dr,h=>by
  obtain⟨_,o,D,G,s⟩:=h;refine⟨fun U=>?_,tI k _ G,tI x _ s⟩;rw[KF U]at G;constructor
  . unfold iU at D;rw[XN aA]at D;exact D
  . cases k with
    | nil=>rfl
    | cons _ _ _ _ _=>exact G.elim
theorem uW(up fr:Int)(p:List Nd)(n:Nd)(a:List Nd)(k:Fo):uM up fr 0 0 0 0 (.cons p n a k .nil)=.cons p (AK up fr n 0) a (uM up fr n.op n.b 0 0 k) .nil:=rfl
theorem IA{up fr v:Int}(D G:Int):∀(j:Nat)(a:Int)(F:Fo),oP (fun x z=>decide (v+up<=x-z)) D G j a (uM up fr D G j a F)=true->0<=up->oP (fun x z=>decide (v<=x-z)) D G j a F=true
 | _,_,.nil,h,_=>by simp[uM,oP]at h
 | j,a,.cons p n ats k x,h,U=>by
  have o:=rM up fr n (a+aR D G j);simp only[uM,oP,o.1,o.2,ZJ,YC,YJ]at h ⊢;rcases h with (⟨s,I⟩|h)|h
  . refine .inl (.inl ⟨s,?_⟩);unfold AK at I;split at I
    . simp only at I;omega
    omega
  . exact .inl (.inr (IA n.op n.b 0 _ k h U))
  . exact .inr (IA D G (j+1) a x h U)
theorem DE{up fr:Int}(D G:Int):∀(j:Nat)(a:Int)(F:Fo),∀m∈row (uM up fr D G j a F),m∈row F\/m.op=1
 | _,_,.nil,m,hm=>by simp[uM,row]at hm
 | j,a,.cons p n ats k x,m,hm=>by
  simp only[uM,row,YW,YV]at hm ⊢;rcases hm with hm|rfl|hm|hm|hm
  . exact .inl (.inl hm)
  . unfold AK;split
    . rename_i h;exact .inr h.1
    exact .inl (.inr (.inl rfl))
  . exact .inl (.inr (.inr (.inl hm)))
  . rcases DE n.op n.b 0 _ k m hm with h|h
    . exact .inl (.inr (.inr (.inr (.inl h))))
    exact .inr h
  . rcases DE D G (j+1) a x m hm with h|h
    . exact .inl (.inr (.inr (.inr (.inr h))))
    exact .inr h
theorem AB{b:Bk}{known self:Int}{m:Nd}(h:m.op=1):cP b known self m=true:=by
 unfold cP;rw[XN aA,XN aA,XN aA,XN aA,XN aA]
theorem TK{b:Bk}{known self below:Int}{l:List Nd}(D:a6 l=0)(F:gH l below=true)(G:∀m∈l,cP b known self m=true):fM b known self l below=0:=by
 unfold fM;rw[D,XN aD,F,XN aD,XP (List.all_eq_true.2 G)]
theorem SR{b:Bk}{free:Int}{l:List Nd}(D:bU b=0)(G:0<=free)(F:fM b b.entries.length (-1) l free=0):fK b free l=0:=by
 unfold fK;rw[D,XN aD,XN aA,F]
theorem OQ{l:List Nd}{n:Nd}{a:List Nd}{k:Fo}(h:Rt l n a k)(v:Int):gH l v = !nI (fun x z=>decide (max v 0<=x-z)) 0 n k:=by
 unfold gH VG;rw[h.shape,h.pp];simp

section
theorem V6{v:Int}(D:0<=v)(F:v<=1048576):eW ⟨1,v,0⟩=true:=by
 simp[eW,cD];omega
def pz(x a:Int):Bool:=decide (max 0 0<=x-a)
def PU(l:List Nd):Array Value:=(jC l).toArray
theorem rA{w:aAB}{g:Nat}{l:List Nd}{n c:Nat}(h:aT w g 46 (PU l))(z:l.length=n)(U:n<=c)(o:n<=5864062014805):aX w (some ⟨g,0,Y⟩) n c l:=by
 refine⟨z,U,o,(fun e=>by cases e),fun hn=>⟨g,0,rfl,h.lt,fun k s=>?_⟩⟩;obtain⟨F,G,I⟩:=mT l k s;have D:=h.cell;rw[YH,D,D,D];simp only[PU,List.getElem?_toArray];exact⟨F,G,I⟩
theorem bK.termV{w:aAB}{base:Nat}{A:ZZ}{n c:Nat}{l:List Nd}(h:bK w base (X A n c) l)(U:l.length<=5864062014805):aX w A n c l:=by
 obtain⟨o,z,s,e,ht⟩:=bK.termS h U;injection e with D F G;subst D F G;exact ht.keep fun b I=>⟨(aS h I).2.1,fun _=>rfl⟩

end
end Go.Proofs.YtjoddliplahgkaaGreat
