/- Merged: SenseM, SenseB. -/
import Derived.Test.YtjllmblbbgojbaaGreatXSenseL
namespace Go.Proofs.YtjllmblbbgojbaaGreat
set_option linter.unusedVariables false
set_option linter.unusedSimpArgs false
open Go.RowKit
theorem OJ {x:TT} (h:mW x) (h12:x.1.op=12):(cH x.2.2).length=x.1.b.toNat/\(∀m ∈ cH x.2.2,0<=m.a/\m.a<16):=by
 have hok:=h.ok;simp only[eE,Bool.and_eq_true] at hok;have hds:ds x.1=(List.replicate x.1.b.toNat [true,false]).flatten:=by unfold ds;rw[if_pos h12]
 have key:∀(B:Nat) (F:Fo),Wf ((List.replicate B [true,false]).flatten) F->(cH F).length=B/\(∀m ∈ cH F,0<=m.a/\m.a<16):=by
  intro B
  induction B with
  | zero =>
   intro F hF;cases F with
   | nil=>exact⟨rfl,fun m hm=>by cases hm⟩
   | cons _ _ _ _ _=>exact hF.elim
  | succ B ih =>
   intro F hF;rw[List.replicate_succ,List.flatten_cons] at hF
   match F,hF with
   | .cons p1 n1 a1 k1 (.cons p2 n2 a2 k2 x),hF =>
    obtain⟨⟨f,rfl,hf⟩,_,_,_,hp2,_,_,_,hx⟩:=hF;simp only at hp2;subst hp2;obtain⟨g1,g2⟩:=ih x hx;simp only[cH,List.nil_append];refine⟨by simp[g1],fun m hm => ?_⟩;simp only[List.singleton_append,List.mem_cons] at hm;rcases hm with rfl | hm
    · simp only[tW,Bool.and_eq_true,decide_eq_true_eq] at hf;have:=aT.1 hf.1;omega
    · exact g2 m hm
   | .cons p1 n1 a1 k1 .nil,hF=>exact hF.2.2.2.2.elim
   | .nil,hF=>exact hF.elim
 exact key _ x.2.2 (hds ▸ h.wf)
theorem lW {x:TT} (h:mW x) (h12:x.1.op=12):0<=dX x/\dX x<16:=by
 obtain⟨h1,h2⟩:=OJ h h12;obtain⟨_,_,h3,h4,_⟩:=gN h h12;unfold dX iC;have hl:x.1.a.toNat<((cH x.2.2).map (·.a)).length:=by rw[List.length_map,h1];omega
 rw[List.getD_eq_getElem?_getD,List.getElem?_eq_getElem hl];simp only[Option.getD_some,List.getElem_map];exact h2 _ (List.getElem_mem _)
theorem wP:∀(m m':Nat) (x:TT),cL x<=m->cL x<=m'->uQ m x=uQ m' x
 | 0,_,(n,a,k),h,_=>by rw[eI] at h;omega
 | _+1,0,(n,a,k),_,h=>by rw[eI] at h;omega
 | m+1,m'+1,x,h,h'=>by
  have hall:(dL x).2.all (uQ m)=(dL x).2.all (uQ m'):=nJ (fun y hy=>by
   have:=(zS x).2 y hy;exact wP m m' y aA aA)
  simp only[uQ];rw[hall]
theorem wQ {m:Nat} {x:TT} (h:cL x<=m):uQ m x=dC x:=wP _ _ _ h (Nat.le_refl _)
theorem mV (x:TT):dC x=if (dL x).1.1.op=5\/(dL x).1.1.op=4\/(dL x).1.1.op=2 then (dL x).2.isEmpty else if (dL x).1.1.op=12 then decide (((dL x).2.length:Int)<=dX (dL x).1)&&(dL x).2.all dC else if (dL x).1.1.op=9\/(dL x).1.1.op=10 then (dL x).2.all dC else false:=by
 have hs:0<cL x:=by obtain⟨n,a,k⟩:=x;rw[eI];omega
 have hall:(dL x).2.all (uQ (cL x-1))=(dL x).2.all dC:=nJ (fun y hy=>by
  have:=(zS x).2 y hy;exact wQ aA)
 rw[<-hall,<-wQ (m:=cL x-1+1) (x:=x) aA];rfl
theorem M2 {x:TT} (h:(dL x).2=[]):(dL x).1=x:=by
 by_cases h6:x.1.op=6
 · obtain⟨n,a,k⟩:=x
   match k,h with
   | .nil,_=>rw[mF (by simp[cW])]
   | .cons p n1 a1 k1 .nil,_=>rw[mF (by simp[cW])]
   | .cons p n1 a1 k1 (.cons q n2 a2 k2 r),h =>
    rw[oN h6] at h;simp at h
 rw[lQ h6]
theorem J9 (g a:TT):dL (eS g a)=((dL g).1,(dL g).2++[a]):=oN rfl
theorem jV {x:TT} (hv:dC x=true) (h:(dL x).1.1.op=9\/(dL x).1.1.op=10\/(dL x).1.1.op=12) : ∀y ∈ (dL x).2,dC y=true:=by
 rw[mV,if_neg aA] at hv;split at hv
 · rw[Bool.and_eq_true] at hv;exact fun y hy=>List.all_eq_true.1 hv.2 y hy
 rw[if_pos aA] at hv;exact fun y hy=>List.all_eq_true.1 hv y hy
theorem FY {g a:TT} (hg:dC g=true) (ha:dC a=true) (h:(dL g).1.1.op=9\/(dL g).1.1.op=10\/((dL g).1.1.op=12/\(((dL g).2++[a]).length:Int)<=dX (dL g).1)):dC (eS g a)=true:=by
 have hargs:=jV hg aA;have hall:((dL g).2++[a]).all dC=true:=by
  rw[List.all_eq_true];intro y hy;rcases List.mem_append.1 hy with hy | hy
  · exact hargs y hy
  rw[List.mem_singleton] at hy;subst hy;exact ha
 rw[mV,J9];simp only;rw[if_neg aA];split
 · rw[hall,Bool.and_true,decide_eq_true_eq];omega
 rw[if_pos aA];exact hall
theorem yK {x:TT} (hv:dC x=true) (h:(dL x).1.1.op=5):(dL x).2=[]/\(dL x).1=x:=by
 rw[mV,if_pos (.inl h)] at hv;have:=List.isEmpty_iff.1 hv;exact⟨this,M2 this⟩
theorem BV {b:Bk} {x:TT} (hx:cM b 0 x) (hv:dC x=false) (h7:x.1.op ≠ 7) (h8:x.1.op ≠ 8) (h11:x.1.op ≠ 11):x.1.op=6:=by
 apply Classical.byContradiction;intro h6;have h1:=hx.closed_op;have hok:=hx.okt.ok;simp only[eE,Bool.and_eq_true,decide_eq_true_eq] at hok;have hop:=H8 hok.1.1;have h3:=hok.1.2;have h13:=hok.2;rw[mV,lQ h6] at hv;simp only[List.isEmpty_nil,List.all_nil,List.length_nil,Bool.and_true] at hv;split at hv
 · cases hv
 rename_i hz
 split at hv
 · rename_i h12
   have:=(lW hx.okt h12).1;rw[decide_eq_false_iff_not] at hv;omega
 split at hv
 · cases hv
 omega
theorem G5 {b:Bk} {k k':Int} {m:Nd} (h:bZ b k (-1) m=true) (hk:k<=k'):bZ b k' (-1) m=true:=by
 have fam:∀e,fJ b k e=true->fJ b k' e=true:=fun e he=>by
  unfold fJ at he ⊢;rw[Bool.and_eq_true,decide_eq_true_eq] at he ⊢;exact⟨by omega,he.2⟩
 unfold bZ at h ⊢;split
 · rename_i h3
   rw[if_pos h3] at h;exact h
 rename_i h3
 rw[if_neg h3] at h;split
 · rename_i h8
   rw[if_pos h8,Bool.and_eq_true,decide_eq_true_eq] at h;rw[Bool.and_eq_true,decide_eq_true_eq];exact⟨by omega,h.2⟩
 rename_i h8
 rw[if_neg h8] at h;split
 · rename_i h9
   rw[if_pos h9,Bool.or_eq_true] at h;rw[Bool.or_eq_true];exact h.imp id (fam _)
 rename_i h9
 rw[if_neg h9] at h;split
 · rename_i h11
   rw[if_pos h11] at h;exact fam _ h
 rename_i h11
 rw[if_neg h11] at h;split
 · rename_i h10
   rw[if_pos h10,Bool.and_eq_true] at h;rw[Bool.and_eq_true];exact⟨fam _ h.1,h.2⟩
 rfl
theorem nK {b:Bk} : ∀(L:List En) (i:Nat),cR b i L=0->∀(j:Nat) (x:En),L[j]? = some x->cO b ((i+j:Nat):Int) x=0
 | [],_,_,j,x,h=>by simp at h
 | y::r,i,he,0,x,h=>by
  simp only[List.getElem?_cons_zero,Option.some.injEq] at h;subst h;simp only[cR] at he;split at he
  · rename_i h0;exact absurd he h0
  · rename_i h0;exact Classical.not_not.1 h0
 | y::r,i,he,j+1,x,h=>by
  simp only[cR] at he;split at he
  · rename_i h0;exact absurd he h0
  · have:=nK r (i+1) he j x (by simpa using h)
    rwa [show i+1+j=i+(j+1) from by omega] at this
theorem nG {b:Bk} (h:cT b=0):cR b 0 b.entries=0:=by
 unfold cT at h;split at h
 · rename_i h0;exact absurd h h0
 split at h
 · cases h
 split at h
 · rename_i h0;exact absurd h h0
 rename_i h0;exact Classical.not_not.1 h0
theorem rY {b:Bk} (hr:cT b=0) {e:Int} (h0:0<=e) (h1:e<(b.entries.length:Int)) (h2:(bJ b e).kind=2):fT b 0 (bJ b e).body=0:=by
 have hl:e.toNat<b.entries.length:=aA;have hx:b.entries[e.toNat]? = some (bJ b e):=by
  unfold bJ;rw[List.getD_eq_getElem?_getD,List.getElem?_eq_getElem hl];rfl
 have he:=nK _ _ (nG hr) _ _ hx;rw[Nat.zero_add] at he;unfold cO at he;rw[if_neg aA,if_pos h2] at he;split at he
 · cases he
 simp only[cZ] at he;split at he
 · rename_i h3;exact absurd he h3
 split at he
 · rename_i h3;exact absurd he h3
 rename_i h3
 have h4:=Classical.not_not.1 h3;rw[Int.add_zero] at h4;obtain⟨a1,a2,a3⟩:=vW h4;exact M0 hr aA (NK a1 a2 (fun m hm=>G5 (a3 m hm) aA))
theorem RV.bind_ok {r:RV} {k:TT->Nat->RV} {v:TT} {f:Nat} (h:r.bind k=.ok v f) : ∃u f1,r=.ok u f1/\k u f1=.ok v f:=by
 cases r with
 | ok u f1=>exact⟨u,f1,rfl,h⟩
 | er e=>cases h
def kQ (b:Bk) (v:TT):Prop:=cM b 0 v/\dC v=true
theorem nL {b:Bk} {gv:Nat->TT->TT->RV} {F:Nat} (H:∀f g a v f',f<=F->kQ b g->kQ b a->gv f g a=.ok v f'->kQ b v/\f'<=f) : ∀(l:List TT) (g:TT) (f:Nat) (v:TT) (f':Nat),f<=F->(∀y ∈ l,kQ b y)->kQ b g->cS gv l g f=.ok v f'->kQ b v/\f'<=f
 | [],g,f,v,f',_,_,hg,h=>by
  simp only[cS,RV.ok.injEq] at h;obtain⟨rfl,rfl⟩:=h;exact⟨hg,Nat.le_refl _⟩
 | a::r,g,f,v,f',hf,hl,hg,h=>by
  simp only[cS] at h;obtain⟨u,f1,h1,h2⟩:=RV.bind_ok h;obtain⟨a1,a2⟩:=H f g a u f1 hf hg (hl a aD) h1;obtain⟨b1,b2⟩:=nL H r u f1 v f' aA (fun y hy=>hl y (by simp[hy])) a1 h2;exact⟨b1,by omega⟩
theorem kG {x:TT} (h:mW x) (h6:x.1.op=6\/x.1.op=5\/x.1.op=4) : ∃p q,cW x.2.2=[p,q]:=by
 have hl:=o6 h.wf;rw[r7 h.ok] at hl;unfold cX at hl;generalize cW x.2.2=L at *;have:L.length=2:=by
  rw[hl];rcases h6 with h6 | h6 | h6<;>rw[h6]<;>rfl
 match L,this with
 | [p,q],_=>exact⟨p,q,rfl⟩
theorem nN {x:TT} (h:mW x) (h7:x.1.op=7) : ∃p q r,cW x.2.2=[p,q,r]:=by
 have hl:=o6 h.wf;rw[r7 h.ok] at hl;unfold cX at hl;generalize cW x.2.2=L at *;have:L.length=3:=by rw[hl,h7];rfl
 match L,this with
 | [p,q,r],_=>exact⟨p,q,r,rfl⟩
theorem nM {x:TT} (h:mW x) (h11:x.1.op=11) : ∃p q br,cW x.2.2=p::q::br/\(br.length:Int)=x.1.b:=by
 have hl:=o6 h.wf;have hok:=h.ok;rw[r7 hok] at hl;simp only[eE,Bool.and_eq_true] at hok;have hb:=(iX hok.1.1).1;unfold cX at hl;generalize cW x.2.2=L at *;have:L.length=2+x.1.b.toNat:=by rw[hl,h11];simp;omega
 match L,this with
 | p::q::br,this=>exact⟨p,q,br,rfl,by simp at this;omega⟩
 | [_],this=>simp at this;omega
 | [],this=>simp at this;omega
theorem MQ {x:TT} (h:mW x) (_h10:x.1.op=10):0<=x.1.b:=by
 have hok:=h.ok;simp only[eE,Bool.and_eq_true] at hok;exact (iX hok.1.1).1
theorem i6 {b:Bk} (hr:cT b=0) : ∀d,(∀f x v f',cM b 0 x->fO b d f x=.ok v f'->kQ b v/\f'<f)/\(∀f g a v f',kQ b g->kQ b a->gH b d f g a=.ok v f'->kQ b v/\f'<=f)
 | 0=>⟨fun f x v f' _ h=>(by cases h),fun f g a v f' _ _ h=>(by cases h)⟩
 | d+1=>by
  obtain⟨i1,i2⟩:=i6 hr d;have e1:∀f x v f',cM b 0 x->fO b (d+1) f x=.ok v f'->kQ b v/\f'<f:=by
   intro f x v f' hx h;rw[iV] at h;cases f with
   | zero=>cases h
   | succ f =>
   simp only[i5] at h;split at h
   · rename_i hv
     simp only[RV.ok.injEq] at h;obtain⟨rfl,rfl⟩:=h;exact⟨⟨hx,hv⟩,by omega⟩
   rename_i hv
   split at h
   · rename_i h8
     have hn:=hx.nod x.1 (by simp[aY]);have ha:0<=x.1.a:=by have hok:=hx.okt.ok;simp only[eE,Bool.and_eq_true] at hok;exact (fK hok.1.1).1
     unfold bZ at hn;rw[if_neg aA,if_pos h8,Bool.and_eq_true,decide_eq_true_eq,beq_iff_eq] at hn;obtain⟨r1,r2⟩:=i1 _ _ _ _ (lO (rY hr ha hn.1 hn.2)).2 h;exact⟨r1,by omega⟩
   split at h
   · rename_i h7
     obtain⟨p,q,r,hk⟩:=nN hx.okt h7;rw[hk] at h;simp only at h;obtain⟨u,f1,h1,h2⟩:=RV.bind_ok h;have hq:cM b 0 q:=hx.kid0 (i:=1) (by rw[hk];rfl) (by rw[h7];simp[aQ]);have hrr:cM b (0+1) r:=by
      have:=hx.kid (i:=2) (y:=r) (by rw[hk];rfl)
      rwa [show aQ x.1.op x.1.b ((2:Nat):Int)=1 from by rw[h7];simp[aQ]] at this
     obtain⟨a1,a2⟩:=i1 _ _ _ _ hq h1;have hs:=(iT aA aA hrr a1.1).2.2;split at h2
     · rename_i h0
       obtain⟨b1,b2⟩:=i1 _ _ _ _ (hs h0) h2;exact⟨b1,by omega⟩
     cases h2
   split at h
   · rename_i h11
     obtain⟨p,q,br,hk,hbr⟩:=nM hx.okt h11;have hz:∀k:Int,aQ x.1.op x.1.b k=0:=eO aA aA aA aA;rw[hk] at h;simp only at h;obtain⟨u,f1,h1,h2⟩:=RV.bind_ok h;have hq:cM b 0 q:=hx.kid0 (i:=1) (by rw[hk];rfl) (hz _);obtain⟨a1,a2⟩:=i1 _ _ _ _ hq h1;split at h2
     · rename_i hc
       have hh:=a1.1.hd;have hc0:=MQ hh.1.okt hc.1;have hlt:(dL u).1.1.b.toNat<br.length:=aA;have hbk:cM b 0 (br.getD (dL u).1.1.b.toNat (⟨0,0,0⟩,[],.nil)):=by
        rw[List.getD_eq_getElem?_getD,List.getElem?_eq_getElem hlt];exact hx.kid0 (i:=(dL u).1.1.b.toNat+2) (by rw[hk];simp[List.getElem?_eq_getElem hlt]) (hz _)
       obtain⟨g,f2,h3,h4⟩:=RV.bind_ok h2;obtain⟨b1,b2⟩:=i1 _ _ _ _ hbk h3;have hva:=jV a1.2 (.inr (.inl hc.1));obtain⟨c1,c2⟩:=nL (F:=f2) (fun f g a v f' _ hg ha hh=>i2 f g a v f' hg ha hh) _ g f2 v f' (Nat.le_refl _) (fun y hy=>⟨hh.2 y (List.mem_of_mem_drop hy),hva y (List.mem_of_mem_drop hy)⟩) b1 h4;exact⟨c1,by omega⟩
     cases h2
   rename_i h8 h7 h11
   have h6:=BV hx (Bool.not_eq_true _ ▸ hv) h7 h8 h11;obtain⟨p,q,hk⟩:=kG hx.okt (.inl h6);have hz:∀k:Int,aQ x.1.op x.1.b k=0:=eO aA aA aA aA;rw[hk] at h;simp only at h;obtain⟨g,f1,h1,h2⟩:=RV.bind_ok h;obtain⟨u,f2,h3,h4⟩:=RV.bind_ok h2;obtain⟨a1,a2⟩:=i1 _ _ _ _ (hx.kid0 (i:=0) (y:=p) (by rw[hk];rfl) (hz _)) h1;obtain⟨b1,b2⟩:=i1 _ _ _ _ (hx.kid0 (i:=1) (y:=q) (by rw[hk];rfl) (hz _)) h3;obtain⟨c1,c2⟩:=i2 _ _ _ _ _ a1 b1 h4;exact⟨c1,by omega⟩
  refine⟨e1,fun f g a v f' hg ha h => ?_⟩;rw[kE] at h;simp only[iN] at h;have hh:=hg.1.hd;split at h
  · rename_i h5
    obtain⟨hl1,hl2⟩:=yK hg.2 h5;rw[hl2] at h5;obtain⟨p,q,hk⟩:=kG hg.1.okt (.inr (.inl h5));rw[hk] at h;simp only at h;have hq:cM b (0+1) q:=by
     have:=hg.1.kid (i:=1) (y:=q) (by rw[hk];rfl)
     rwa [show aQ g.1.op g.1.b ((1:Nat):Int)=1 from by rw[h5];simp[aQ]] at this
    split at h
    · rename_i h0
      obtain⟨b1,b2⟩:=e1 _ _ _ _ ((iT aA aA hq ha.1).2.2 h0) h;exact⟨b1,by omega⟩
    cases h
  split at h
  · rename_i h9
    split at h
    · cases h
    rename_i hs
    simp only[RV.ok.injEq] at h;obtain⟨rfl,rfl⟩:=h;exact⟨⟨EI hg.1 ha.1 aA,FY hg.2 ha.2 aA⟩,Nat.le_refl _⟩
  split at h
  · rename_i h12
    split at h
    · rename_i hle
      split at h
      · cases h
      rename_i hs
      simp only[RV.ok.injEq] at h;obtain⟨rfl,rfl⟩:=h;exact⟨⟨EI hg.1 ha.1 aA,FY hg.2 ha.2 (.inr (.inr ⟨h12,hle⟩))⟩,Nat.le_refl _⟩
    split at h
    · split at h
      · rename_i h0
        obtain⟨g',f1,h1,h2⟩:=RV.bind_ok h;obtain⟨b1,b2⟩:=e1 _ _ _ _ (tN hh.1 h12 h0) h1;have hva:=jV hg.2 (.inr (.inr h12));obtain⟨c1,c2⟩:=nL (F:=f1) (fun f g a v f' _ hg ha hh=>i2 f g a v f' hg ha hh) _ g' f1 v f' (Nat.le_refl _) (fun y hy=>by
         rcases List.mem_append.1 hy with hy | hy
         · exact⟨hh.2 y hy,hva y hy⟩
         rw[List.mem_singleton] at hy;subst hy;exact ha) b1 h2
        exact⟨c1,by omega⟩
      cases h
    cases h
  · cases h
section
open Go.Lib renaming hid->aB
set_option maxHeartbeats 4000000
set_option maxRecDepth 100000
def I3 (t:List Nd) (n:Nat):List Int->List TT->Prop
 | [],[]=>True
 | z::zs,y::ys=>(∃g1 g2:Nat,z=(g1:Int)/\jX t (g1:Int)=(g2:Int)/\g1<=g2/\g2<=n/\(t.take g2).drop g1=aY y)/\I3 t n zs ys
 | _,_=>False
theorem I3.add {t:List Nd} {n g1 g2:Nat} {y:TT} (h1:jX t (g1:Int)=(g2:Int)) (h2:g1<=g2) (h3:g2<=n) (h4:(t.take g2).drop g1=aY y) : ∀{zs:List Int} {ys:List TT},I3 t n zs ys->I3 t n (zs++[(g1:Int)]) (ys++[y])
 | [],[],_=>⟨⟨g1,g2,rfl,h1,h2,h3,h4⟩,trivial⟩
 | [],_::_,h=>h.elim
 | _::_,[],h=>h.elim
 | _::_,_::_,h=>⟨h.1,h.2.add h1 h2 h3 h4⟩
theorem I3.at_ {t:List Nd} {n:Nat} : ∀{zs:List Int} {ys:List TT} (j:Nat) (y:TT),I3 t n zs ys->ys[j]? = some y->∃g1 g2:Nat,zs[j]? = some (g1:Int)/\jX t (g1:Int)=(g2:Int)/\g1<=g2/\g2<=n/\(t.take g2).drop g1=aY y
 | [],[],j,y,_,h=>by simp at h
 | [],_::_,_,_,h,_=>h.elim
 | _::_,[],_,_,h,_=>h.elim
 | z::zs,x::ys,0,y,hb,h=>by
  simp only[List.getElem?_cons_zero,Option.some.injEq] at h;subst h;obtain⟨g1,g2,rfl,h1⟩:=hb.1;exact⟨g1,g2,rfl,h1⟩
 | z::zs,x::ys,j+1,y,hb,h=>by
  obtain⟨g1,g2,e,h1⟩:=I3.at_ j y hb.2 (by simpa using h);exact⟨g1,g2,by simpa using e,h1⟩
def EH (x:TT) (n nb:Nat) (w:World) (e:Ending) (w':World):Prop:=Below w.heap.size w w'/\∃A1 c1 A2 c2 bq,e=.returned (.tuple #[.slice A1 nb c1,.slice A2 nb c2])/\q7 w' w.heap.size A1 nb c1 (iC x.2.2)/\q7 w' w.heap.size A2 nb c2 bq/\I3 (aY x) n bq (kS (cW x.2.2))
structure P3 (tt:List Nd) (kk:Fo) (nb n q p:Nat) (dF:Fo) (L:List TT) (zq bq:List Int):Prop where
 at_:At tt p (OD (nb-q)) dF
 pl:zq++(cH dF).map (·.a)=iC kk
 bd:L++kS (cW dF)=kS (cW kk)
 bp:I3 tt n bq L
theorem qV {A:Option Addr} {n c nb:Nat} {x:TT} {w:World} (ht:bB w A n c (aY x)) (hy:mB x) (h12:x.1.op=12) (hnb:x.1.b=(nb:Int)) :
 Calls Tryz.prog 56 #[.slice A n c] w (EH x n nb w):=by
 have hok:=(Rt.wf hy).1;have hpl:=aT.1 (by simp only[eE,Bool.and_eq_true] at hok;exact hok.1.1);have hb1:1<=nb/\nb<=4:=aA;have hat:At (aY x) 1 (ds x.1) x.2.2:=At.first (n:=x.1) (a:=x.2.1) (k:=x.2.2) hy aA;rw[OE h12 hnb] at hat;have hlenF:=ht.len;have hn4:n<=4096:=by rw[<-hlenF];exact Rt.few hy
 have hn0:0<n:=by rw[<-hlenF];simp[aY]
 obtain⟨bf,off,rfl,hbf,hc0,hc1,hc2⟩:=ht.at_ hn0;simp only[Nat.zero_mul,Nat.add_zero] at hc2;rw[show bD (aY x) 0=x.1 from rfl,hnb] at hc2;have HTF:=aB (fun (w':World) (h:Below w.heap.size w w')=>ht.below h);unfold EH;obtain⟨tt,htt⟩ : ∃tt,tt=aY x:=⟨_,rfl⟩;rw[<-htt] at hat hlenF HTF ⊢;have HAT:=aB hat;have HLN:=aB hlenF;obtain⟨nd,a,kk⟩:=x;simp only at HAT ⊢;obtain⟨i0,hi,hz0,hz1,hz2⟩:=info_parts KD;have HI0:=aB hi;have HY0:=aB hz0;have HY1:=aB hz1;have HY2:=aB hz2;clear hi hz0 hz1 hz2 hok hpl hat htt ht hy h12 hnb hc0 hc1 hlenF;go_in;go_wp2_with fail;go_loopw [2,3,4,10] (fun ov bv av iv wr=>∃(q p:Nat) (dF:Fo) (L:List TT) (zq bq:List Int) (A1 A2:Option Addr) (c1 c2:Nat),ov=.slice A1 q c1/\bv=.slice A2 q c2/\av=.int .i64 (p:Int)/\iv=.int .i64 (q:Int)/\q<=nb/\1+3*q<=p/\p<=n/\Hid (P3 tt kk nb n q p dF L zq bq)/\Hid (q7 wr w.heap.size A1 q c1 zq)/\Hid (q7 wr w.heap.size A2 q c2 bq)/\Hid (uV (.slice A1 q c1) (.slice A2 q c2))/\Hid (Below w.heap.size w wr)) (fun _ _ _ i _=>nb-(intOf i).toNat)
 case atStart=>exact⟨0,1,kk,[],[],[],none,none,0,0,rfl,rfl,rfl,rfl,by omega,by omega,by omega,aB ⟨HAT.o,rfl,rfl,trivial⟩,aB (World.ownsRow_nil _ _ _ _),aB (World.ownsRow_nil _ _ _ _),aB (fun g hg=>by cases hg),aB (Below.refl _ _)⟩
 case round =>
  obtain⟨q,p,dF,L,zq,bq,A1,A2,c1,c2,rfl,rfl,rfl,rfl,hqb,hp3,hpn,hs,ho1,ho2,hsep,hbw⟩:=hrel;obtain⟨hAt,hZ,hD,hB⟩:=hs.o;by_cases hlt:q<nb;rotate_left
  · have y1':decide ((q:Int)<(nb:Int))=false:=decide_eq_false aA;obtain rfl:q=nb:=aA;have hdn:dF=.nil:=by
     rw[Nat.sub_self] at hAt;exact hAt.done
    subst hdn;have HZ:Hid (zq=iC kk):=aB (by simpa[cH] using hZ);have HD:Hid (L=kS (cW kk)):=aB (by simpa[cW,kS] using hD);have HB:=aB hB;clear hlt hZ hD hB hAt hs;go_wp2_with fail;go_ret2;refine⟨hbw.o,A1,c1,A2,c2,bq,rfl,?_,ho2.o,?_⟩
    · rw[<-HZ.o];exact ho1.o
    rw[<-HD.o];exact HB.o
  have hfl:=wR _ hAt;obtain⟨r,hr⟩ : ∃r,nb-q=r+1:=⟨nb-q-1,by omega⟩;rw[hr] at hAt hfl;rw[show OD (r+1)=true::false::OD r from rfl] at hAt;obtain⟨pre1,n1,a1,k1,nx1,rfl,s1⟩:=hAt.step;obtain⟨pre2,n2',a2,k2,nx2,rfl,s2⟩:=s1.next.step;obtain⟨fd,rfl,hfd,hnf⟩:=s1.fun_ rfl;have hpl2:pre2.length=0:=s2.plen;obtain rfl:=List.eq_nil_of_length_eq_zero hpl2;have hnx:=s2.next;have hfl2:=wR _ hnx;obtain⟨e1,l1⟩:=(⟨s1.end_,s1.le⟩:_/\_);obtain⟨e2,c2',l2⟩:=(⟨s2.end_,s2.cut,s2.le⟩:_/\_/\_);simp only[List.length_cons,List.length_nil,Nat.zero_add,Nat.add_zero] at e1 l1 e2 c2' l2 hnx hfl2;rw[sQ,sQ,List.nil_append,List.singleton_append,List.map_cons] at hZ;rw[show cW (.cons [fd] n1 a1 k1 (.cons [] n2' a2 k2 nx2))=(n1,a1,k1)::(n2',a2,k2)::cW nx2 from rfl] at hD;obtain⟨y1,hy1⟩ : ∃y1,y1=((n1,a1,k1):TT):=⟨_,rfl⟩;obtain⟨y2,hy2⟩ : ∃y2,y2=((n2',a2,k2):TT):=⟨_,rfl⟩;rw[<-hy1] at e1 l1 e2 c2' l2 hnx hD hfl2;rw[<-hy2] at e2 c2' l2 hnx hD hfl2;obtain⟨g1,hg1⟩ : ∃g,g=p+1+(aY y1).length:=⟨_,rfl⟩;obtain⟨g2,hg2⟩ : ∃g,g=g1+(aY y2).length:=⟨_,rfl⟩;rw[<-hg1] at e1 l1 e2 c2' l2 hnx hfl2;rw[<-hg2] at e2 c2' l2 hnx hfl2;rw[HLN.o] at l1 l2 hfl hfl2;have hpos1:0<(aY y1).length:=by simp[aY]
  have hpos2:0<(aY y2).length:=by simp[aY]
  rw[show ((p+1:Nat):Int)=(p:Int)+1 from by omega] at e1;have HEN1:=aB (fun (wr:World) (h:Below w.heap.size w wr)=>iA (HTF.o wr h) ((p:Int)+1));rw[e1] at HEN1;have HEN2:=aB (fun (wr:World) (h:Below w.heap.size w wr)=>iA (HTF.o wr h) (g1:Int));rw[e2] at HEN2;obtain⟨b',o',e',_,_,hcp,_⟩:=bB.at_ (HTF.o w (Below.refl _ _)) (p:=p) aA;injection e' with e';injection e' with e1' e2';subst e1' e2';rw[hnf] at hcp;obtain⟨fa,hfae⟩ : ∃fa,fa=fd.a:=⟨_,rfl⟩;rw[<-hfae] at hcp hZ;have HPS:Hid (P3 tt kk nb n (q+1) g2 nx2 (L++[y2]) (zq++[fa]) (bq++[(g1:Int)])):=aB ⟨by rw[show nb-(q+1)=r from by omega];exact hnx,by rw[List.append_assoc];exact hZ,by rw[List.append_assoc];exact hD,I3.add e2 aA aA c2' hB⟩;have hip:(0:Int)<=(p:Int):=aA;have hipn:(p:Int)<(n:Int):=aA;have y1':decide ((q:Int)<(nb:Int))=true:=decide_eq_true aA;obtain⟨hpg,hgg,hgn,h3g⟩:p+1<=g1/\g1<=g2/\g2<=n/\1+3*(q+1)<=g2:=aA;have hcpr:=(hbw.o.cell (p:=⟨bf,off+p*3+1,none⟩) hbf).trans hcp;have hbs:=hbw.o.size;have hmz:Hid ((zq++[fa]).map (Value.int .i64)=zq.map (Value.int .i64)++[.int .i64 fa]):=aB aD;have hmb:Hid ((bq++[(g1:Int)]).map (Value.int .i64)=bq.map (Value.int .i64)++[.int .i64 (g1:Int)]):=aB aD;clear hAt hfl s1 s2 hpl2 hnx hfl2 e1 l1 e2 c2' l2 hy1 hy2 hg1 hg2 hr hnf hfd hfae hcp hZ hD hB hpos1 hpos2 hs;go_wp2_with (at_builtin;go_loud (refine bM rfl (eX (.tmp 12) (.tmp 18) 106 3 rfl w.heap.size i0 _ 8 Tryz.underlying106 HI0.o HY0.o HY1.o HY2.o rfl aE (.slice A1 q c1) q (zq.map (Value.int .i64)) (.int .i64 fa) rfl wr rfl rfl ho1.o _ rfl rfl aA aA ?_));intro A5 c5 w5 happ5)
  have HB5:=aB (hbw.o.grown happ5.grown hbs (fun g hg=>(aR ho1.o hg).1));have HO5:Hid (q7 w5 w.heap.size A5 (q+1) c5 (zq++[fa])):=aB (by unfold q7;rw[hmz.o];exact happ5.own);have HO6:Hid (q7 w5 w.heap.size A2 q c2 bq):=aB (j5 ho2.o happ5.grown hsep.o.symm);have HS5:=aB (uV.symm (uV.app ho2.o hsep.o.symm happ5));clear happ5 hcpr;go_wp2_with fail;refine (HEN1.o w5 HB5.o).mono ?_;rintro e w6 ⟨rfl,hd6⟩;have HB6:=dA HB5 hd6;have HO7:=aB (bL HO5.o hd6);have HO8:=aB (bL HO6.o hd6);have hb6:=HB6.o.size;clear hd6;go_wp2_with (at_builtin;go_loud (refine bM rfl (eX (.tmp 24) (.tmp 26) 106 3 rfl w.heap.size i0 _ 8 Tryz.underlying106 HI0.o HY0.o HY1.o HY2.o rfl aE (.slice A2 q c2) q (bq.map (Value.int .i64)) (.int .i64 (g1:Int)) rfl w6 rfl rfl HO8.o _ rfl rfl aA aA ?_));intro A9 c9 w9 happ9)
  have HB9:=aB (HB6.o.grown happ9.grown hb6 (fun g hg=>(aR HO8.o hg).1));have HO9:Hid (q7 w9 w.heap.size A9 (q+1) c9 (bq++[(g1:Int)])):=aB (by unfold q7;rw[hmb.o];exact happ9.own);have HO10:Hid (q7 w9 w.heap.size A5 (q+1) c5 (zq++[fa])):=aB (j5 HO7.o happ9.grown HS5.o);have HS9:=aB (uV.app HO7.o HS5.o happ9);clear happ9;go_wp2_with fail;refine (HEN2.o w9 HB9.o).mono ?_;rintro e w10 ⟨rfl,hd10⟩;have HB10:=dA HB9 hd10;have HO11:=aB (bL HO9.o hd10);have HO12:=aB (bL HO10.o hd10);clear hd10;go_wp2_with fail;go_roundw
  case rel=>exact⟨q+1,g2,nx2,L++[y2],zq++[fa],bq++[(g1:Int)],A5,A9,c5,c9,rfl,rfl,rfl,by go_num,by omega,h3g,hgn,HPS,HO12,HO11,HS9,HB10⟩
  case measure=>simp[intOf];omega
theorem iP {w:World} {base j d z g:Nat} {e:TypeId} {xs:List Value} (h:w.ownsRow base e z (.slice (some ⟨g,0,none⟩) j d) j xs) {i:Nat} {u:Value} (hu:xs[i]? = some u):w.cell? ⟨g,i,none⟩=some u:=by
 have h1:=World.ownsRow.cells h (g:=g) rfl i u hu;have ea:(⟨g,0,none⟩:Addr).add i=⟨g,i,none⟩:=by unfold Addr.add;split<;>simp_all
 rw[ea] at h1;exact h1
theorem q7.at_ {w:World} {base n c:Nat} {A:Option Addr} {zs:List Int} (h:q7 w base A n c zs) {i:Nat} {z:Int} (hz:zs[i]? = some z) : ∃g,A=some ⟨g,0,none⟩/\g<w.heap.size/\base<=g/\w.cell? ⟨g,i,none⟩=some (.int .i64 z)/\i<n:=by
 have hl:=h.1;have hi:i<zs.length:=(List.getElem?_eq_some_iff.1 hz).1;rw[List.length_map] at hl;rcases h.2 with⟨_,h2⟩ | ⟨g,cap',cur,hv,hg,hh,_⟩
 · omega
 injection hv with e1 e2 e3;subst e1;have h3:=aR h (g:=g) rfl;have h4:=iP h (i:=i) (u:=.int .i64 z) (by rw[List.getElem?_map,hz];rfl);exact⟨g,rfl,h3.2.1,h3.1,h4,by omega⟩
theorem oZ {A:Option Addr} {n c:Nat} {x:TT} {w:World} (ht:bB w A n c (aY x)) (hy:mB x) (h12:x.1.op=12) :
 Calls Tryz.prog 34 #[.slice A n c] w (fun e w'=>e=.returned (.int .i64 (dX x))/\Below w.heap.size w w'):=by
 have hOk:mW x:=⟨(Rt.wf hy).1,(Rt.wf hy).2.1,(Rt.wf hy).2.2⟩;obtain⟨f1,f2,f3,f4,_⟩:=gN hOk h12;obtain⟨q1,_⟩:=OJ hOk h12;obtain⟨nb,hnb⟩ : ∃nb:Nat,x.1.b=(nb:Int):=⟨x.1.b.toNat,by omega⟩;obtain⟨ia,hia⟩ : ∃ia:Nat,x.1.a=(ia:Int):=⟨x.1.a.toNat,by omega⟩;have hpl:(iC x.2.2)[ia]? = some (dX x):=by
  have hl:ia<(iC x.2.2).length:=by unfold iC;rw[List.length_map,q1];omega
  unfold dX;rw[show x.1.a.toNat=ia from by omega,List.getD_eq_getElem?_getD,List.getElem?_eq_getElem hl];rfl
 have hn0:0<n:=by rw[<-ht.len];simp[aY]
 have HPL:=aB (qV ht hy h12 hnb);obtain⟨bf,off,rfl,hbf,_,hc1,_⟩:=ht.at_ hn0;simp only[Nat.zero_mul,Nat.add_zero] at hc1;rw[show bD (aY x) 0=x.1 from rfl,hia] at hc1;have hin:ia<nb:=aA;have HP:=aB hpl;generalize dX x=pz at *;clear ht hy h12 hOk f1 f2 f3 f4 q1 hpl hia hnb;go_in;go_wp2_with fail;refine (HPL.o).mono ?_;rintro e w2 ⟨hd,A1,c1,A2,c2,bq,rfl,ho1,ho2,_⟩;obtain⟨g,rfl,hg,_,hcg,_⟩:=ho1.at_ HP.o;have hca:=(hd.cell (p:=⟨bf,off+1,none⟩) hbf).trans hc1;have hi0:(0:Int)<=(ia:Int):=aA;have hi1:(ia:Int)<(nb:Int):=aA;have HD:=aB hd;clear hd ho1 ho2 hc1;go_wp2_with fail;go_ret;exact⟨rfl,HD.o⟩
end
end Go.Proofs.YtjllmblbbgojbaaGreat
