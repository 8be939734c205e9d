/- Merged: Guarded, Sub, Rights, RefFs, RvW, RvA, Tr, FixF, LiftG, Err18, Deeps. -/
import Derived.Test.YtjoddliplahgkaaGreatPRegist
import Derived.Test.YtjoddliplahgkaaGreatPRefGd
namespace Go.Proofs.YtjoddliplahgkaaGreat
set_option linter.unusedVariables false
set_option linter.unusedSimpArgs false
open Go.RowKit
open Go.Value renaming int → O, slice → X
open Go.IntKind renaming i64 → S
open Option renaming none → Y
open Go.Obj renaming cells → Z
theorem uA (p:List Nd) (n:Nd) (a:List Nd) (k x:Fo):cO (.cons p n a k x)=p++cO x:=rfl
theorem AZ:∀(k:Nat) (last:Int) (l:List Nd) (p:List Nd×List Nd),bG k last l=some p->∀m ∈ p.1,m.op=3
 | 0,_,_,p,h,m,hm=>by
  simp only[bG,Option.some.injEq] at h;subst h;cases hm
 | k+1,last,[],p,h,m,hm=>by simp[bG] at h
 | k+1,last,x::l,p,h,m,hm=>by
  simp only[bG] at h;split at h
  · rename_i hc
    simp only[Option.map_eq_some_iff] at h;obtain⟨q,hq,rfl⟩:=h;rcases List.mem_cons.1 hm with rfl | hm
    · exact hc.1
    exact AZ k x.a l q hq m hm
  · cases h
def cP (l:List Nd):TT:=match pp [false] l with
 | some (.cons _ n a k _,_)=>(n,a,k)
 | none=>(default,[],.nil)
 | some (.nil,_)=>(default,[],.nil)
theorem yD {l:List Nd} {n:Nd} {a:List Nd} {k:Fo} (h:Rt l n a k):cP l=(n,a,k):=by
 unfold cP;rw[h.pp]
theorem L5 {b:Bk} {free:Int} {l:List Nd} (h:fA b free l=0):bP b=0/\0<=free/\fC b b.entries.length (-1) l free=0:=by
 unfold fA at h;split at h
 · rename_i h1;exact absurd h h1
 rename_i h1
 split at h
 · cases h
 rename_i h2
 exact⟨Decidable.not_not.1 h1,by omega,h⟩
theorem xL {b:Bk} {known self below:Int} {l:List Nd} (h:fC b known self l below=0):a8 l=0/\fS l below=true/\∀m ∈ l,cN b known self m=true:=by
 unfold fC at h;split at h
 · rename_i h1;exact absurd h h1
 rename_i h1
 split at h
 · cases h
 rename_i h2
 split at h
 · rename_i h3
   exact⟨Decidable.not_not.1 h1,by simpa using h2,List.all_eq_true.1 h3⟩
 cases h
section
open Go.Lib renaming hid->aB
set_option maxHeartbeats 4000000
set_option maxRecDepth 100000
theorem vM {b:Bk} {i:Nat} {x:En} {r:List En}:dE b i (x::r)=if dD b i x ≠ 0 then dD b i x else dE b (i+1) r:=rfl
theorem xK {w:World} {v:bO} {b:Bk} (hb:bX w v b) :
 Calls Tryz.prog 27 #[.agg #[O S b.vars,X v.Ao v.no v.co,X v.Ae v.ne v.ce,O S b.nat,X v.Ap v.np v.cp]] w (iG (bP b) w):=by
 have a4:=hb.entries.len;have b0:=hb.entries.few;have a3:=aB (fun (w':World) (h:Below w.heap.size w w')=>IX hb.vars (hb.orders.below h));have c3:=aB (fun (w':World) (h:Below w.heap.size w w')=>hb.entries.below h);have a5:=aB (fun (w':World) (i:Nat) (ev:jF) (x:En) (h:Below w.heap.size w w') (h1:i<=b.entries.length) (h2:AL w' ev x)=>D0 (hb.below h) (i:Int) aA h2);have b1:=aB (fun (w':World) (h:Below w.heap.size w w')=>uE (hb.below h));have a7:=aB (aP w (Z #[O S b.vars,X v.Ao v.no v.co,X v.Ae v.ne v.ce,O S b.nat,X v.Ap v.np v.cp] 26));have b6:=aB (aS.new w 26 #[O S b.vars,X v.Ao v.no v.co,X v.Ae v.ne v.ce,O S b.nat,X v.Ap v.np v.cp]);have a2:Hid (bP b=if (pC b.vars b.orders).1 ≠ 0 then (pC b.vars b.orders).1
 else if 64<b.entries.length then 5
 else if dE b 0 b.entries ≠ 0 then dE b 0 b.entries
 else if FJ b then 0 else 22):=aB rfl
 generalize bP b=res at *;generalize (pC b.vars b.orders).1=ck at *;rw[a4] at a2 a5;have b5:=aB a4;obtain⟨Ao,no,co,Ae,ne,ce,Ap,np,cp⟩:=v;simp only at a3 c3 a5 b1 a7 b6 a2 b5 b0 ⊢;clear hb a4;generalize b.vars=bv at *;generalize b.nat=bn at *;by_cases h1:ck=0;case neg =>
  rw[if_pos h1] at a2;have d1:(ck != 0)=true:=by simpa using h1
  clear h1;go_in;go_wp2_with fail;refine (a3.o _ a7.o).mono ?_;rintro e w2 ⟨rfl,a1⟩;have b2:=bZ a7 a1;clear a1;go_wp2_with fail;go_ret;rw[a2.o];exact⟨rfl,b2.o⟩
 subst h1;rw[if_neg aD] at a2;by_cases h2:64<ne
 · rw[if_pos h2] at a2;have d2:decide ((ne:Int)>64)=true:=decide_eq_true aA;clear h2;go_in;go_wp2_with fail;refine (a3.o _ a7.o).mono ?_;rintro e w2 ⟨rfl,a1⟩;have b2:=bZ a7 a1;have b7:=aS.cell (aS.below b6.o a1 aD);clear a1;go_wp2_with fail;go_ret;rw[a2.o];exact⟨rfl,b2.o⟩
 rw[if_neg h2] at a2;have d2:decide ((ne:Int)>64)=false:=decide_eq_false aA;clear h2;go_in;go_wp2_with fail;refine (a3.o _ a7.o).mono ?_;rintro e w2 ⟨rfl,a1⟩;have b2:=bZ a7 a1;have c2:=aB (aS.below b6.o a1 aD);have b7:=aS.cell c2.o;clear a1;go_wp2_with fail;clear b7;go_loopw [22] (fun iv wr=>∃i:Nat,iv=O S (i:Int)/\i<=ne/\Hid (dE b i (b.entries.drop i)=dE b 0 b.entries)/\Hid (aS wr w.heap.size 26 #[O S bv,X Ao no co,X Ae ne ce,O S bn,X Ap np cp])/\Hid (Below w.heap.size w wr)) (fun i _=>ne-(intOf i).toNat)
 case atStart=>exact⟨0,rfl,by omega,aB rfl,c2,b2⟩
 case round =>
  obtain⟨i,rfl,hi,b9,b3,a8⟩:=hrel;by_cases hlt:i<ne;rotate_left
  · have c4:decide ((i:Int)<(ne:Int))=false:=decide_eq_false aA;have hq:=b9.o;rw[List.drop_of_length_le (by rw[b5.o];omega)] at hq;have a9:Hid (res=if FJ b then 0 else 22):=aB (by rw[a2.o,<-hq];rfl);have HC:=aB (b1.o wr a8.o);have zk:=aS.cell b3.o;generalize FJ b=rb at *;clear hq;cases rb with
    | true =>
     rw[if_pos rfl] at a9;go_wp2_with fail;refine (HC.o).mono ?_;rintro e w4 ⟨rfl,a0⟩;have a6:=bZ a8 a0;clear a0 zk;go_wp2_with fail;go_ret;rw[a9.o];exact⟨rfl,a6.o⟩
    | false =>
     rw[if_neg aD] at a9;go_wp2_with fail;refine (HC.o).mono ?_;rintro e w4 ⟨rfl,a0⟩;have a6:=bZ a8 a0;clear a0 zk;go_wp2_with fail;go_ret;rw[a9.o];exact⟨rfl,a6.o⟩
  have c4:decide ((i:Int)<(ne:Int))=true:=decide_eq_true aA;obtain⟨be,oe,rfl,d7,ev,d5,d0,c9,c8,c7,c6,c5,c0⟩:=(c3.o wr a8.o).at_ hlt;have b8:i<b.entries.length:=by rw[b5.o];exact hlt
  have hq:=b9.o;rw[List.drop_eq_getElem_cons b8,show b.entries[i]=b.entries.getD i default from by rw[List.getD_eq_getElem?_getD,List.getElem?_eq_getElem b8];rfl,vM] at hq;generalize b.entries.getD i default=x at *;have b4:=aB (a8.o.trans ((aP wr (Z #[O S x.kind,X ev.As ev.ns ev.cs,X ev.Ap ev.np ev.cp,X ev.Ai ev.ni ev.ci,X ev.Ac ev.nc ev.cc,X ev.At ev.nt ev.ct,X ev.Ab ev.nb ev.cb] 61)).mono a8.o.size));have c1:=aB (b3.o.alloc (Z #[O S x.kind,X ev.As ev.ns ev.cs,X ev.Ap ev.np ev.cp,X ev.Ai ev.ni ev.ci,X ev.Ac ev.nc ev.cc,X ev.At ev.nt ev.ct,X ev.Ab ev.nb ev.cb] 61));have HC:=aB (a5.o _ i ev x b4.o aA (c0.below (aP wr (Z #[O S x.kind,X ev.As ev.ns ev.cs,X ev.Ap ev.np ev.cp,X ev.Ai ev.ni ev.ci,X ev.Ac ev.nc ev.cc,X ev.At ev.nt ev.ct,X ev.Ab ev.nb ev.cb] 61))));generalize x.kind=kd at *;generalize dD b i x=ee at *;have zk:=aS.cell b3.o;have d6:=b3.o.lt;obtain⟨As,ns,cs,Ap2,np2,cp2,Ai,ni,ci,Ac,nc,cc,At,nt,ct,Ab,nb,cb⟩:=ev;simp only at d0 c9 c8 c7 c6 c5 b4 c1 HC;clear c0;by_cases h3:ee=0
  · subst h3;rw[if_neg aD] at hq;have HQ:=aB hq;clear hq;go_wp2_with fail;refine (HC.o).mono ?_;rintro e w4 ⟨rfl,a0⟩;have a6:=bZ b4 a0;have d4:=jL c1 a0;clear a0 zk;go_wp2_with fail;go_roundw
    case rel=>exact⟨i+1,by go_num,by omega,HQ,d4,a6⟩
    case measure=>simp[intOf];omega
  rw[if_pos h3] at hq;have a9:Hid (res=ee):=aB (by rw[a2.o,<-hq,if_pos h3]);have d3:(ee != 0)=true:=by simpa using h3
  clear hq h3;go_wp2_with fail;refine (HC.o).mono ?_;rintro e w4 ⟨rfl,a0⟩;have a6:=bZ b4 a0;clear a0 zk;go_wp2_with fail;go_ret;rw[a9.o];exact⟨rfl,a6.o⟩
theorem L4 {w:World} {v:bO} {b:Bk} (hb:bX w v b) (free:Int) {A:Option Addr} {n c:Nat} {l:List Nd} (ht:aY w A n c l) :
 Calls Tryz.prog 28 #[.agg #[O S b.vars,X v.Ao v.no v.co,X v.Ae v.ne v.ce,O S b.nat,X v.Ap v.np v.cp],O S free,X A n c] w (iG (fA b free l) w):=by
 have a4:=hb.entries.len;have a5:=aB (fun (w':World) (h:Below w.heap.size w w')=>xK (hb.below h));have a6:=aB (fun (w':World) (h:Below w.heap.size w w')=>zY (hb.below h) (b.entries.length:Int) (-1) aA (ht.below h) free);have a2:=aB (aP w (Z #[O S b.vars,X v.Ao v.no v.co,X v.Ae v.ne v.ce,O S b.nat,X v.Ap v.np v.cp] 26));have a8:=aB (aS.new w 26 #[O S b.vars,X v.Ao v.no v.co,X v.Ae v.ne v.ce,O S b.nat,X v.Ap v.np v.cp]);have a1:Hid (fA b free l=if bP b ≠ 0 then bP b else if free<0 then 1 else fC b b.entries.length (-1) l free):=aB rfl;generalize fA b free l=res at *;generalize bP b=re at *;generalize fC b b.entries.length (-1) l free=ro at *;rw[a4] at a6;obtain⟨Ao,no,co,Ae,ne,ce,Ap,np,cp⟩:=v;simp only at a5 a6 a2 a8 ⊢;clear hb ht a4;generalize b.vars=bv at *;generalize b.nat=bn at *;by_cases h1:re=0;case neg =>
  rw[if_pos h1] at a1;have d1:(re != 0)=true:=by simpa using h1
  clear h1;go_in;go_wp2_with fail;refine (a5.o _ a2.o).mono ?_;rintro e w2 ⟨rfl,a0⟩;have a3:=bZ a2 a0;clear a0;go_wp2_with fail;go_ret;rw[a1.o];exact⟨rfl,a3.o⟩
 subst h1;rw[if_neg aD] at a1;by_cases h2:free<0
 · rw[if_pos h2] at a1;have d2:decide (free<0)=true:=decide_eq_true h2;clear h2;go_in;go_wp2_with fail;refine (a5.o _ a2.o).mono ?_;rintro e w2 ⟨rfl,a0⟩;have a3:=bZ a2 a0;clear a0;go_wp2_with fail;go_ret;rw[a1.o];exact⟨rfl,a3.o⟩
 rw[if_neg h2] at a1;have d2:decide (free<0)=false:=decide_eq_false h2;clear h2;go_in;go_wp2_with fail;refine (a5.o _ a2.o).mono ?_;rintro e w2 ⟨rfl,a0⟩;have a3:=bZ a2 a0;have a9:=aS.cell (aS.below a8.o a0 aD);clear a0;go_wp2_with fail;refine (a6.o _ a3.o).mono ?_;rintro e w3 ⟨rfl,a7⟩;have b0:=bZ a3 a7;clear a7 a9;go_wp2_with fail;go_ret;rw[a1.o];exact⟨rfl,b0.o⟩

end
section

theorem FA {w:World} {base j d z:Nat} {B:Option Addr} {e:TypeId} {xs:List Value} (h:w.ownsRow base e z (X B j d) j xs) : ∀ad,B=some ad->∀i u,xs[i]? = some u->w.cell? (ad.add i)=some u:=by
 intro ad he i u hu;have h0:=h;rcases h.2 with⟨hv,_⟩ | ⟨g,cap,cur,hv,_⟩
 · injection hv with e1;rw[he] at e1;cases e1
 injection hv with e1;rw[he] at e1;injection e1 with e1;subst e1;subst he;exact World.ownsRow.cells h0 (g:=g) rfl i u hu
theorem JR {w:World} {base j d z:Nat} {B:Option Addr} {e:TypeId} {xs:List Value} (h:w.ownsRow base e z (X B j d) j xs):B=Y->j=0:=by
 intro hB;rcases h.2 with⟨_,h2⟩ | ⟨g,cap,cur,hv,_⟩
 · exact h2
 injection hv with e1;rw[hB] at e1;cases e1
theorem y9 {R:Nat->Prop} {w:World} : ∀(F:Fo) (xs:List Value),kP R w F xs->∀u ∈ xs,u.oneCell'=true
 | .nil,xs,h,u,hu=>by
  have:xs=[]:=h;subst this;cases hu
 | .cons _ n atoms kids next,xs,h,u,hu=>by
  obtain⟨ys,zs,rfl,⟨sk,sa,sf,rfl,⟨_,_,_,rfl,_⟩,⟨_,_,_,rfl,_⟩,⟨_,_,_,rfl,_⟩⟩,h2⟩:=h;rcases List.mem_append.1 hu with hu | hu
  · simp only[List.mem_cons,List.not_mem_nil,or_false] at hu;rcases hu with rfl | rfl | rfl | rfl | rfl | rfl<;>rfl
  · exact y9 next zs h2 u hu
theorem EW {F:Fo} {i:Nat} (h:i<(cI F).length):(cI F).drop i=cU F i::(cI F).drop (i+1):=by
 rw[List.drop_eq_getElem_cons h];unfold cU;rw[List.getD_eq_getElem?_getD,List.getElem?_eq_getElem h];rfl
end
section
def dX (R:Nat->Prop) (w:World) (t:iE) (x:TT):Prop:=cR R w [O S x.1.op,O S x.1.a,O S x.1.b,X t.Ak t.nk t.ck,X t.Aa t.na t.ca,X t.Af t.nf t.cf] x.1 x.2.1 x.2.2
section
variable {R R' : Nat->Prop} {w w' : World} {t : iE} {x : TT}
theorem dX.keep (h:dX R w t x) (hk:∀b,R b->R' b/\∀o,w'.cell? ⟨b,o,Y⟩=w.cell? ⟨b,o,Y⟩):dX R' w' t x:=cR.keep h hk
theorem dX.below (h:dX R w t x) (hR:∀b,R b->b<w.heap.size) (hb:Below w.heap.size w w'):dX R w' t x:=h.keep fun b hb2=>⟨hb2,fun o=>hb.cell (p:=⟨b,o,Y⟩) (hR b hb2)⟩
theorem dX.kids (h:dX R w t x):dM R w t.Ak t.nk t.ck x.2.2:=by
 obtain⟨sk,sa,sf,he,⟨A,n,c,rfl,hk⟩,_,_⟩:=h;simp only[List.cons.injEq,Value.slice.injEq,true_and,and_true] at he;obtain⟨⟨rfl,rfl,rfl⟩,_,_⟩:=he;exact hk
theorem dX.atoms (h:dX R w t x):bJ R w t.Aa t.na t.ca x.2.1:=by
 obtain⟨sk,sa,sf,he,_,⟨A,n,c,rfl,hk⟩,_⟩:=h;simp only[List.cons.injEq,Value.slice.injEq,true_and,and_true] at he;obtain⟨_,⟨rfl,rfl,rfl⟩,_⟩:=he;exact hk
theorem dX.funs (h:dX R w t x):bJ R w t.Af t.nf t.cf (cO x.2.2):=by
 obtain⟨sk,sa,sf,he,_,_,⟨A,n,c,rfl,hk⟩⟩:=h;simp only[List.cons.injEq,Value.slice.injEq,true_and,and_true] at he;obtain⟨_,_,⟨rfl,rfl,rfl⟩⟩:=he;exact hk
theorem dX.nk (h:dX R w t x):t.nk=(cI x.2.2).length:=by rw[wO,h.kids.len]
theorem dM.nthR {A:Option Addr} {n c:Nat} {F:Fo} (h:dM R w A n c F) {j:Nat} (hj:j<n) : ∃b o t,A=some ⟨b,o,Y⟩/\R b/\P6 w b (o+j*6) t (cU F j).1/\dX R w t (cU F j):=by
 obtain⟨b,off,e,hr,hf⟩:=h.mem aA;obtain⟨t,h1,h2⟩:=sD.nth_ F b off j hf (by rw[h.len];exact hj);exact⟨b,off,t,e,hr,h1,h2⟩
theorem dX.kid (h:dX R w t x) {j:Nat} (hj:j<t.nk) : ∃b o t',t.Ak=some ⟨b,o,Y⟩/\R b/\P6 w b (o+j*6) t' (cU x.2.2 j).1/\dX R w t' (cU x.2.2 j):=h.kids.nthR hj
end
def OH (R:Nat->Prop) (w:World) (x:TT) (e:Ending) (w':World):Prop:=Below w.heap.size w w'/\∃t:iE,e=.returned (.agg (bH t x.1))/\dX (bB R w w') w' t x
theorem NY {R:Nat->Prop} {w:World} {xs:List Value} {x:TT} (h:cR R w xs x.1 x.2.1 x.2.2) : ∃t:iE,xs.toArray=bH t x.1/\dX R w t x:=by
 have h0:=h;obtain⟨sk,sa,sf,rfl,⟨A,n,c,rfl,hk⟩,⟨B,m,d,rfl,ha⟩,⟨C,p,e,rfl,hf⟩⟩:=h;exact⟨⟨A,n,c,B,m,d,C,p,e⟩,rfl,h0⟩
theorem eZ.tt {R:Nat->Prop} {w w':World} {x:TT} {e:Ending} (h:eZ R w x.1 x.2.1 x.2.2 e w'):OH R w x e w':=by
 obtain⟨hb,ys,he,ht⟩:=h;obtain⟨t,h1,h2⟩:=NY ht;exact⟨hb,t,by rw[he,h1],h2⟩
def gH:List TT->Fo
 | []=>.nil
 | y::r=>.cons [] y.1 y.2.1 y.2.2 (gH r)
theorem tP:∀L,cI (gH L)=L
 | []=>rfl
 | y::r=>by simp only[gH,cI,tP r]
theorem gR:∀L,bF (gH L)=L.length
 | []=>rfl
 | y::r=>by simp only[gH,bF,gR r,List.length_cons]
theorem q7 (L:List TT) (j:Nat):cU (gH L) j=L.getD j TA:=by unfold cU;rw[tP]
theorem xE:∀L,cO (gH L)=[]
 | []=>rfl
 | y::r=>by simp only[gH,cO,xE r,List.nil_append]
theorem dM.below {R:Nat->Prop} {w w':World} {A:Option Addr} {n c:Nat} {F:Fo} (h:dM R w A n c F) (hR:∀b,R b->b<w.heap.size) (hb:Below w.heap.size w w'):dM R w' A n c F:=h.keep fun b hb2=>⟨hb2,fun o=>hb.cell (p:=⟨b,o,Y⟩) (hR b hb2)⟩
theorem bB.to {R:Nat->Prop} {w V w' w2:World} {b:Nat} (h:bB R V w' b) (h1:w.heap.size<=V.heap.size) (h2:w'.heap.size<=w2.heap.size):bB R w w2 b:=by
 rcases h with h | h
 · exact .inl h
 exact .inr ⟨by have:=h.1;omega,by have:=h.2;omega⟩
theorem bB.idem {R:Nat->Prop} {w V w' w2:World} {b:Nat} (h:bB (bB R w V) V w' b) (h1:w.heap.size<=V.heap.size) (h3:V.heap.size<=w2.heap.size) (h2:w'.heap.size<=w2.heap.size):bB R w w2 b:=by
 rcases h with h | h
 · exact h.to (Nat.le_refl _) h3
 exact .inr ⟨by have:=h.1;omega,by have:=h.2;omega⟩
def AA:List TT->Nat
 | []=>0
 | y::r=>bI y+AA r
theorem H4:∀F:Fo,(row F).length=(cO F).length+AA (cI F)
 | .nil=>rfl
 | .cons p n a k x=>by
  have h:=H4 x;simp only[row,cO,cI,AA,List.length_append,List.length_cons,dL] at h ⊢;omega
theorem PX (x:TT):bI x=1+x.2.1.length+(cO x.2.2).length+AA (cI x.2.2):=by
 obtain⟨n,a,k⟩:=x;rw[dL,H4];simp only;omega
end
section
open Go.Lib renaming hid->aB
def DM (R:Nat->Prop) (w:World) (q:TT×List TT) (e:Ending) (w':World):Prop:=Below w.heap.size w w'/\∃(t':iE) (B:Option Addr) (d:Nat),e=.returned (.tuple #[.agg (bH t' q.1.1),X B q.2.length d])/\dX R w' t' q.1/\dM (bB R w w') w' B q.2.length d (gH q.2)/\(B=Y->d=0)
theorem uJ {w:World} {g:Nat} {c0 c1 c2 c3 c4 c5:Value} {tmps:Array Value} (h:aS w g 85 #[c0,c1,c2,c3,c4,c5]) (ht:tmps.getD 2 undef=.pointer (some ⟨g,0,Y⟩)) :
 (results Tryz.f79 tmps).run Tryz.prog w=.ok (.tuple #[.agg #[c0,c1,c2,c3,c4,c5],tmps.getD 3 undef]) w:=by
 have hc:=h.cell;have a0:tmps[2]?.getD undef=.pointer (some ⟨g,0,Y⟩):=by rw[<-ht];simp
 simp[results,Tryz.results79,go_sem,a0,hc]
set_option maxRecDepth 100000 in
set_option maxHeartbeats 8000000 in
theorem eC {w:World} {R:Nat->Prop} {t:iE} {x:TT} (hR:∀b,R b->b<w.heap.size) (ht:dX R w t x) (hx:II x) :
 Calls Tryz.prog 79 #[.agg (bH t x.1)] w (DM R w (bU x)):=by
 obtain⟨Hd,L,d4⟩ : ∃Hd L,bU x=(Hd,L):=⟨_,_,rfl⟩;have HR:=aB hR;have e7:=aB ht;have e8:=aB hx;have f2:=aB d4;rw[d4];have h5:bI x<=4096:=Rt.few hx;obtain⟨i0,hi,e0,d9,d8⟩:=info_parts Tryz.infoT;have h0:=aB hi;have g2:=aB e0;have g1:=aB d9;have g0:=aB d8;obtain⟨⟨op,va,vb⟩,ats,k⟩:=x;obtain⟨Ak,nk,ck,Aa,na,ca,Af,nf,cf⟩:=t;have d7:=aB (aP w (Z #[O S op,O S va,O S vb,X Ak nk ck,X Aa na ca,X Af nf cf] 85));have f3:=aB (d7.o.alloc d7.o.size (Z #[O S 0,O S 0,O S 0,X Y 0 0,X Y 0 0,X Y 0 0] 85));have f1:Hid (aS ((w.alloc (Z #[O S op,O S va,O S vb,X Ak nk ck,X Aa na ca,X Af nf cf] 85)).alloc (Z #[O S 0,O S 0,O S 0,X Y 0 0,X Y 0 0,X Y 0 0] 85)) w.heap.size 85 #[O S op,O S va,O S vb,X Ak nk ck,X Aa na ca,X Af nf cf]):=aB ((aS.new _ _ _).alloc _);have f0:Hid (aS ((w.alloc (Z #[O S op,O S va,O S vb,X Ak nk ck,X Aa na ca,X Af nf cf] 85)).alloc (Z #[O S 0,O S 0,O S 0,X Y 0 0,X Y 0 0,X Y 0 0] 85)) (w.heap.size+1) 85 #[O S 0,O S 0,O S 0,X Y 0 0,X Y 0 0,X Y 0 0]):=aB (aS.new' aD);clear hi e0 d9 d8 hR ht hx d4;go_in;go_wp2_with fail;go_loopw [4] (fun av wr=>∃(j d:Nat) (B:Option Addr) (G:List TT) (vs:List Value) (t':iE) (x':TT),av=X B j d/\bI x'+j<=4096/\G.length=j/\Hid (II x')/\Hid ((bU x').1=Hd/\(bU x').2++G=L)/\Hid (dX R w t' x')/\Hid (aS wr w.heap.size 85 (bH t' x'.1))/\Hid (aS wr (w.heap.size+1) 85 #[O S 0,O S 0,O S 0,X Y 0 0,X Y 0 0,X Y 0 0])/\Hid (wr.ownsRow (w.heap.size+2) 85 6 (X B j d) j vs)/\Hid (kP R w (gH G) vs)/\Hid (Below w.heap.size w wr)) (fun av _=>4096-GT av)
 case atStart=>exact⟨0,0,Y,[],[],⟨Ak,nk,ck,Aa,na,ca,Af,nf,cf⟩,(⟨op,va,vb⟩,ats,k),rfl,by omega,rfl,e8,aB (by rw[f2.o];exact⟨rfl,by simp⟩),e7,f1,f0,aB (World.ownsRow_nil _ _ _ _),aB rfl,f3⟩
 case round =>
  clear f1 f0 d7 f3 e7 e8 f2;obtain⟨j,d,B,G,vs,t',x',rfl,c6,f8,c9,c2,b3,b1,b4,a3,a8,c3⟩:=hrel;have h8:=b4.o.lt;by_cases h6:x'.1.op=6;rotate_left
  · have b5:=c2.o;rw[pS h6] at b5;obtain⟨b5,e6⟩:=b5;try simp only[List.nil_append] at b5 e6
    subst b5;subst e6;have f9:(x'.1.op==6)=false:=by simpa using h6
    obtain⟨⟨o9,va9,vb9⟩,a9,k9⟩:=x';obtain⟨Ak9,nk9,ck9,Aa9,na9,ca9,Af9,nf9,cf9⟩:=t';simp only at h6 f9 b1;have zk:=aS.cell b1.o;try simp only at zk
    have zz:=aS.cell b4.o;have zf:=aS.frozen b4.o;subst f8;clear h6 c9 c2 c6;go_wp2_with fail;have b2:=eR wr (w.heap.size+1) (O S o9) (O S va9) (O S vb9) (X Ak9 nk9 ck9) (X Aa9 na9 ca9) (X Af9 nf9 cf9);have d2:=c3.o.grown b2 (by have:=c3.o.size;omega) (fun q hq=>by injection hq with hq;omega);have d0:=World.ownsRow.kept a3.o b2 (.inr (eY a3.o (show w.heap.size+1<w.heap.size+2 by omega)).symm);refine bodyPost_ret (v:=.tuple #[.agg #[O S o9,O S va9,O S vb9,X Ak9 nk9 ck9,X Aa9 na9 ca9,X Af9 nf9 cf9],X B G.length d]) (uJ (cJ b4.o _ _ _ _ _ _) aD) rfl ?_;refine⟨d2,⟨Ak9,nk9,ck9,Aa9,na9,ca9,Af9,nf9,cf9⟩,B,d,rfl,b3.o.below HR.o d2,?_,fun e=>GZ a3.o e⟩;obtain⟨A',n',c',e,h⟩:=hP (by rw[gR];exact d0) (kP.keep (R':=bB R w _) (fun b hb=>⟨Or.inl hb,fun o=>d2.cell (p:=⟨b,o,Y⟩) (HR.o b hb)⟩) _ _ a8.o) (fun g hg=>Or.inr ⟨by have:=(aU d0 hg).1;omega,(aU d0 hg).2.1⟩);injection e with e1 e2 e3;subst e1 e2 e3;exact h
  obtain⟨n9,a9,k9⟩:=x';obtain⟨n1,a1,k1,n2,a2,k2,rfl,rfl,e4,f7,_,_⟩:=KN c9.o (.inr (.inr h6));have e5:t'.nk=2:=b3.o.nk;obtain⟨b0,o0,t1,hA,c4,b7,c1⟩:=b3.o.kid (j:=0) aA;obtain⟨b0',o0',t2,d5,d3,b6,c0⟩:=b3.o.kid (j:=1) aA;obtain⟨rfl,rfl⟩:b0=b0'/\o0=o0':=by rw[hA] at d5;injection d5 with e;injection e with e1 e2;exact⟨e1,e2⟩
  have c4:=HR.o _ c4;clear d5 d3;simp only at b7 c1 b6 c0 hA;rw[show cU (Fo.cons [] n1 a1 k1 (Fo.cons [] n2 a2 k2 Fo.nil)) 0=(n1,a1,k1) from rfl] at b7 c1;rw[show cU (Fo.cons [] n1 a1 k1 (Fo.cons [] n2 a2 k2 Fo.nil)) 1=(n2,a2,k2) from rfl] at b6 c0;rw[Nat.zero_mul,Nat.add_zero] at b7;rw[Nat.one_mul] at b6;have c7:bI (n1,a1,k1)<bI (n9,[],Fo.cons [] n1 a1 k1 (Fo.cons [] n2 a2 k2 Fo.nil)):=RD.1;have f6:bI (n1,a1,k1)+(1+j)<=4096:=aA;have h7:j<=4096:=aA;have a5:=c2.o;rw[GR h6] at a5;have h1:Hid ((bU (n1,a1,k1)).1=Hd/\(bU (n1,a1,k1)).2++((n2,a2,k2)::G)=L):=aB ⟨a5.1,by rw[<-a5.2];simp⟩;obtain⟨Ak9,nk9,ck9,Aa9,na9,ca9,Af9,nf9,cf9⟩:=t';obtain⟨Ak1,nk1,ck1,Aa1,na1,ca1,Af1,nf1,cf1⟩:=t1;obtain⟨Ak2,nk2,ck2,Aa2,na2,ca2,Af2,nf2,cf2⟩:=t2;simp only at e5 hA h6 b1;subst e5;subst hA;obtain⟨o9,va9,vb9⟩:=n9;simp only at h6 b1;subst h6;have h2:=aB (fun (w':World) (h:Below w.heap.size w w')=>b7.below h c4);obtain⟨z0,z1,z2,z3,z4,z5⟩:=b6.below c3.o c4;try simp only at z0 z1 z2 z3 z4 z5
  have zk:=aS.cell b1.o;try simp only at zk
  have a6:Hid ((wr.alloc (Z #[O S n2.op,O S n2.a,O S n2.b,X Ak2 nk2 ck2,X Aa2 na2 ca2,X Af2 nf2 cf2] 85)).ownsRow (w.heap.size+2) 85 6 (X (some ⟨wr.heap.size,0,Y⟩) 1 1) 1 [O S n2.op,O S n2.a,O S n2.b,X Ak2 nk2 ck2,X Aa2 na2 ca2,X Af2 nf2 cf2]):=aB ⟨by simp,.inr ⟨wr.heap.size,1,#[O S n2.op,O S n2.a,O S n2.b,X Ak2 nk2 ck2,X Aa2 na2 ca2,X Af2 nf2 cf2],rfl,by omega,heap_alloc_new wr _,by omega,by unfold maxLen;omega,rfl,rfl⟩⟩;have g8:=aB (World.ownsRow.alloc a3.o (Z #[O S n2.op,O S n2.a,O S n2.b,X Ak2 nk2 ck2,X Aa2 na2 ca2,X Af2 nf2 cf2] 85));have g3:=aB (FA g8.o);have g4:=aB (y9 (gH G) vs a8.o);have g9:Hid (B=Y->j=0/\d=0):=aB fun e=>⟨JR a3.o e,GZ a3.o e⟩;have f4:vs.length=j*6:=a3.o.1;have g6:=aB c1;have g5:=aB c0;have g7:=aB e4;have a7:w.heap.size+2<=wr.heap.size:=aA;clear b7 b6 c1 c0 e4 f7 c2 a5 c9 b3 c7;go_wp2_with (at_builtin;go_loud (refine bL rfl (eE (.tmp 13) (.tmp 14) 83 rfl (w.heap.size+2) 85 i0 _ 6 96 Tryz.underlying83 h0.o g2.o g1.o g0.o rfl aE (X (some ⟨wr.heap.size,0,Y⟩) 1 1) 1 [O S n2.op,O S n2.a,O S n2.b,X Ak2 nk2 ck2,X Aa2 na2 ca2,X Af2 nf2 cf2] rfl a6.o B j d vs rfl f4 g9.o g3.o g4.o aJ aA (Nat.le_trans a7 aD) ?_));intro A5 c5 w5 a0;go_loud (have b8:=c3.o.alloc (show w.heap.size<=wr.heap.size by omega) (Z #[O S n2.op,O S n2.a,O S n2.b,X Ak2 nk2 ck2,X Aa2 na2 ca2,X Af2 nf2 cf2] 85));go_loud (have b9:=aB (b8.grown a0.grown aG (fun g hg=>by have:=(aU a6.o hg).1;omega)));go_loud (have a4:=aS.grown (b1.o.alloc (Z #[O S n2.op,O S n2.a,O S n2.b,X Ak2 nk2 ck2,X Aa2 na2 ca2,X Af2 nf2 cf2] 85)) a0.grown (eY a6.o (show w.heap.size<w.heap.size+2 by omega)));go_loud (have d1:=aB (aS.grown (b4.o.alloc (Z #[O S n2.op,O S n2.a,O S n2.b,X Ak2 nk2 ck2,X Aa2 na2 ca2,X Af2 nf2 cf2] 85)) a0.grown (eY a6.o (show w.heap.size+1<w.heap.size+2 by omega))));go_loud (have h3:=aS.cell a4);go_loud (have h4:=aS.frozen a4);have d6:=aB a4;obtain⟨y0,y1,y2,y3,y4,y5⟩:=h2.o _ b9.o;(try simp only at y0 y1 y2 y3 y4 y5);clear a4 b8 zk z0 z1 z2 z3 z4 z5)
  have e9:=aB a0.own;have c8:=a0.grown.size;have f5:w.heap.size+2<=w5.heap.size:=Nat.le_trans a7 (Nat.le_trans aD c8);have b2:=aB (eR w5 w.heap.size (O S n1.op) (O S n1.a) (O S n1.b) (X Ak1 nk1 ck1) (X Aa1 na1 ca1) (X Af1 nf1 cf1));clear a0;go_roundw
  case rel =>
   exact⟨1+j,c5,A5,(n2,a2,k2)::G,[O S n2.op,O S n2.a,O S n2.b,X Ak2 nk2 ck2,X Aa2 na2 ca2,X Af2 nf2 cf2]++vs,⟨Ak1,nk1,ck1,Aa1,na1,ca1,Af1,nf1,cf1⟩,(n1,a1,k1),rfl,f6,by simp only[List.length_cons];omega,g7,h1,g6,aB (cJ d6.o _ _ _ _ _ _),aB (aS.grown d1.o b2.o aK),aB (World.ownsRow.kept e9.o b2.o (.inr (eY e9.o (show w.heap.size<w.heap.size+2 by omega)).symm)),aB ⟨[O S n2.op,O S n2.a,O S n2.b,X Ak2 nk2 ck2,X Aa2 na2 ca2,X Af2 nf2 cf2],vs,rfl,g5.o,a8.o⟩,aB (b9.o.grown b2.o aA (fun q hq=>by injection hq with hq;omega))⟩
  case measure=>simp only[GT];omega
end
section
def vY (σ:Int->Nd->TT) (pop pb:Int):Nat->Int->Fo->Fo
 | _,_,.nil=>.nil
 | j,a,.cons p n ats k x =>
  if n.op=1 then .cons p (σ (a+aR pop pb j) n).1 (σ (a+aR pop pb j) n).2.1 (σ (a+aR pop pb j) n).2.2 (vY σ pop pb (j+1) a x)
  else .cons p n ats (vY σ n.op n.b 0 (a+aR pop pb j) k) (vY σ pop pb (j+1) a x)
def AK (σ:Int->Nd->TT) (a:Int) (x:TT):TT:=if x.1.op=1 then σ a x.1 else (x.1,x.2.1,vY σ x.1.op x.1.b 0 a x.2.2)
section
variable {σ : Int->Nd->TT}
theorem nY {a:Int} {x:TT} (h:x.1.op=1):AK σ a x=σ a x.1:=by unfold AK;rw[if_pos h]
theorem jT {a:Int} {x:TT} (h:x.1.op ≠ 1):AK σ a x=(x.1,x.2.1,vY σ x.1.op x.1.b 0 a x.2.2):=by unfold AK;rw[if_neg h]
theorem kG (pop pb:Int) (j:Nat) (a:Int) (p:List Nd) (n:Nd) (ats:List Nd) (k x:Fo):vY σ pop pb j a (.cons p n ats k x)=.cons p (AK σ (a+aR pop pb j) (n,ats,k)).1 (AK σ (a+aR pop pb j) (n,ats,k)).2.1 (AK σ (a+aR pop pb j) (n,ats,k)).2.2 (vY σ pop pb (j+1) a x):=by
 simp only[vY,AK];split<;>rfl
theorem iW (p:List Nd) (n:Nd) (a:List Nd) (k x:Fo):cI (.cons p n a k x)=(n,a,k)::cI x:=rfl
theorem lM {op b:Int} (h4:op ≠ 4) (h5:op ≠ 5) (h7:op ≠ 7) (h12:op ≠ 12) (k:Int):aR op b k=0:=by
 unfold aR;rw[if_neg aA,if_neg aA]
def SL:Fo->Prop
 | .nil=>True
 | .cons _ n _ k x=>(n.op=12->0<=n.b)/\SL k/\SL x
variable {places : List Int} {ca : Int->Nat->Nat}
end
end
section
def QZ (ca:Int->Nat->Nat) (x:TT):Bool:=Q0 ca (bI x) x
section
variable {σ : Int->Nd->TT} {places : List Int} {ca : Int->Nat->Nat}
def R8 (ca:Int->Nat->Nat):Fo->Bool
 | .nil=>true
 | .cons _ n a k x=>((if n.op=12 then QZ ca (n,a,k) else true)&&R8 ca k)&&R8 ca x
def RK:Fo->Prop
 | .nil=>True
 | .cons _ n ats k x=>(n.op=1->ats=[]/\k=.nil)/\RK k/\RK x
theorem IL {op b:Int} (h:op=12->0<=b) (k:Int):0<=aR op b k:=by
 unfold aR;split
 · omega
 split
 · rename_i h2;exact h h2.1
 omega
end
end
theorem D3:∀(F:Fo) (dl:List Bool),Wf dl F->SL F
 | .nil,_,_=>trivial
 | .cons _ _ _ _ _,[],h=>h.elim
 | .cons p n a k x,d::dr,h=>by
  obtain⟨_,a0,_,hk,hx⟩:=h;refine⟨fun h12 => ?_,D3 k _ hk,D3 x _ hx⟩;simp only[eN,Bool.and_eq_true] at a0;exact (gT a0.1.1).1
theorem GJ {n:Nd} (h:n.op=1):ds n=[]:=by simp[ds,dY,h]
theorem rP:∀(F:Fo) (dl:List Bool),Wf dl F->RK F
 | .nil,_,_=>trivial
 | .cons _ _ _ _ _,[],h=>h.elim
 | .cons p n a k x,d::dr,h=>by
  obtain⟨_,a1,a0,hk,hx⟩:=h;refine⟨fun h1 => ?_,rP k _ hk,rP x _ hx⟩;rw[GJ h1] at hk;constructor
  · unfold iR at a0;rw[if_neg aA] at a0;exact a0
  · cases k with
    | nil=>rfl
    | cons _ _ _ _ _=>exact hk.elim
theorem sP (up fr:Int) (p:List Nd) (n:Nd) (a:List Nd) (k:Fo):sJ up fr 0 0 0 0 (.cons p n a k .nil)=.cons p (xI up fr n 0) a (sJ up fr n.op n.b 0 0 k) .nil:=rfl
theorem EN {up fr v:Int} (pop pb:Int) : ∀(j:Nat) (a:Int) (F:Fo),oD (fun x z=>decide (v+up<=x-z)) pop pb j a (sJ up fr pop pb j a F)=true->0<=up->oD (fun x z=>decide (v<=x-z)) pop pb j a F=true
 | _,_,.nil,h,_=>by simp[sJ,oD] at h
 | j,a,.cons p n ats k x,h,h0=>by
  have hs:=qB up fr n (a+aR pop pb j);simp only[sJ,oD,hs.1,hs.2,Bool.or_eq_true,Bool.and_eq_true,decide_eq_true_eq] at h ⊢;rcases h with (⟨h1,h2⟩ | h) | h
  · refine .inl (.inl ⟨h1,?_⟩);unfold xI at h2;split at h2
    · simp only at h2;omega
    omega
  · exact .inl (.inr (EN n.op n.b 0 _ k h h0))
  · exact .inr (EN pop pb (j+1) a x h h0)
theorem z9 {up fr:Int} (pop pb:Int) : ∀(j:Nat) (a:Int) (F:Fo),∀m ∈ row (sJ up fr pop pb j a F),m ∈ row F\/m.op=1
 | _,_,.nil,m,hm=>by simp[sJ,row] at hm
 | j,a,.cons p n ats k x,m,hm=>by
  simp only[sJ,row,List.mem_append,List.mem_cons] at hm ⊢;rcases hm with hm | rfl | hm | hm | hm
  · exact .inl (.inl hm)
  · unfold xI;split
    · rename_i h;exact .inr h.1
    exact .inl (.inr (.inl rfl))
  · exact .inl (.inr (.inr (.inl hm)))
  · rcases z9 n.op n.b 0 _ k m hm with h | h
    · exact .inl (.inr (.inr (.inr (.inl h))))
    exact .inr h
  · rcases z9 pop pb (j+1) a x m hm with h | h
    · exact .inl (.inr (.inr (.inr (.inr h))))
    exact .inr h
theorem wV {b:Bk} {known self:Int} {m:Nd} (h:m.op=1):cN b known self m=true:=by
 unfold cN;rw[if_neg aA,if_neg aA,if_neg aA,if_neg aA,if_neg aA]
theorem PP {b:Bk} {known self below:Int} {l:List Nd} (h1:a8 l=0) (h2:fS l below=true) (h3:∀m ∈ l,cN b known self m=true):fC b known self l below=0:=by
 unfold fC;rw[h1,if_neg aD,h2,if_neg aD,if_pos (List.all_eq_true.2 h3)]
theorem O1 {b:Bk} {free:Int} {l:List Nd} (h1:bP b=0) (h2:0<=free) (h3:fC b b.entries.length (-1) l free=0):fA b free l=0:=by
 unfold fA;rw[h1,if_neg aD,if_neg aA,h3]
theorem LF {l:List Nd} {n:Nd} {a:List Nd} {k:Fo} (h:Rt l n a k) (v:Int):fS l v = !oI (fun x z=>decide (max v 0<=x-z)) 0 n k:=by
 unfold fS RM;rw[h.shape,h.pp];simp

section
theorem SE {v:Int} (h0:0<=v) (h1:v<=1048576):eN ⟨1,v,0⟩=true:=by
 simp[eN,cD];omega
def pz (x a:Int):Bool:=decide (max 0 0<=x-a)
def O4 (l:List Nd):Array Value:=(i6 l).toArray
theorem tV {w:World} {g:Nat} {l:List Nd} {n c:Nat} (h:aS w g 46 (O4 l)) (hl:l.length=n) (hc:n<=c) (hf:n<=5864062014805):aY w (some ⟨g,0,Y⟩) n c l:=by
 refine⟨hl,hc,hf,(fun e=>by cases e),fun hn=>⟨g,0,rfl,h.lt,fun k hk => ?_⟩⟩;obtain⟨h1,h2,h3⟩:=lT l k hk;have a0:=h.cell;rw[Nat.zero_add,a0,a0,a0];simp only[O4,List.getElem?_toArray];exact⟨h1,h2,h3⟩
theorem bN.termV {w:World} {base:Nat} {A:Option Addr} {n c:Nat} {l:List Nd} (h:bN w base (X A n c) l) (hl:l.length<=5864062014805):aY w A n c l:=by
 obtain⟨A',n',c',e,ht⟩:=bN.termS h hl;injection e with e1 e2 e3;subst e1 e2 e3;exact ht.keep fun b hb=>⟨(aU h hb).2.1,fun _=>rfl⟩

end
end Go.Proofs.YtjoddliplahgkaaGreat
