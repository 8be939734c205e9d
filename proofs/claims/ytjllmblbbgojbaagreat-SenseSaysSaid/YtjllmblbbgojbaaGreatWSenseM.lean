/- What closed terms mean: what comes is a value that fits; how fuel counts. Plain laws. -/
import Derived.Test.YtjllmblbbgojbaaGreatWSenseL
namespace Go.Proofs.YtjllmblbbgojbaaGreat
open Go.RowKit
theorem MN {x:TT} (h:kJ x) (h12:x.1.op=12):(bO x.2.2).length=x.1.b.toNat/\(∀ m ∈ bO x.2.2,0<=m.a/\m.a<16):=by
 have hok:=h.ok;simp only [dG,Bool.and_eq_true] at hok;have h2:=aF.1 hok.1.1;have hds:ds x.1=(List.replicate x.1.b.toNat [true,false]).flatten:=by unfold ds;rw [if_pos h12]
 have key:∀ (B:Nat) (F:Fo),Wf ((List.replicate B [true,false]).flatten) F->(bO F).length=B/\(∀ m ∈ bO F,0<=m.a/\m.a<16):=by
  intro B
  induction B with
  | zero =>
   intro F hF;cases F with
   | nil=>exact ⟨rfl,fun m hm=>by cases hm⟩
   | cons _ _ _ _ _=>exact hF.elim
  | succ B ih =>
   intro F hF;rw [List.replicate_succ,List.flatten_cons] at hF
   match F,hF with
   | .cons p1 n1 a1 k1 (.cons p2 n2 a2 k2 x),hF =>
    obtain ⟨⟨f,rfl,hf⟩,_,_,_,hp2,_,_,_,hx⟩:=hF;simp only at hp2;subst hp2;obtain ⟨g1,g2⟩:=ih x hx;simp only [bO,List.nil_append];refine ⟨by simp [g1],fun m hm => ?_⟩;simp only [List.singleton_append,List.mem_cons] at hm;rcases hm with rfl | hm
    · simp only [sX,Bool.and_eq_true,decide_eq_true_eq] at hf;have:=aF.1 hf.1;omega
    · exact g2 m hm
   | .cons p1 n1 a1 k1 .nil,hF=>exact hF.2.2.2.2.elim
   | .nil,hF=>exact hF.elim
 exact key _ x.2.2 (hds ▸ h.wf)
theorem kV {x:TT} (h:kJ x) (h12:x.1.op=12):0<=dC x/\dC x<16:=by
 obtain ⟨h1,h2⟩:=MN h h12;obtain ⟨_,_,h3,h4,_⟩:=fN h h12;unfold dC iJ;have hl:x.1.a.toNat<((bO x.2.2).map (·.a)).length:=by rw [List.length_map,h1];omega
 rw [List.getD_eq_getElem?_getD,List.getElem?_eq_getElem hl];simp only [Option.getD_some,List.getElem_map];exact h2 _ (List.getElem_mem _)
theorem vG:∀ (m m':Nat) (x:TT),bU x<=m->bU x<=m'->tK m x=tK m' x
 | 0,_,(n,a,k),h,_=>by rw [dJ] at h;omega
 | _+1,0,(n,a,k),_,h=>by rw [dJ] at h;omega
 | m+1,m'+1,x,h,h'=>by
  have hall:(cP x).2.all (tK m)=(cP x).2.all (tK m'):=mM (fun y hy=>by
   have:=(yJ x).2 y hy;exact vG m m' y aA aA)
  simp only [tK];rw [hall]
theorem vH {m:Nat} {x:TT} (h:bU x<=m):tK m x=cJ x:=vG _ _ _ h (Nat.le_refl _)
theorem lX (x:TT):cJ x=if (cP x).1.1.op=5\/(cP x).1.1.op=4\/(cP x).1.1.op=2 then (cP x).2.isEmpty else if (cP x).1.1.op=12 then decide (((cP x).2.length:Int)<=dC (cP x).1)&&(cP x).2.all cJ else if (cP x).1.1.op=9\/(cP x).1.1.op=10 then (cP x).2.all cJ else false:=by
 have hs:0<bU x:=by obtain ⟨n,a,k⟩:=x;rw [dJ];omega
 have hall:(cP x).2.all (tK (bU x-1))=(cP x).2.all cJ:=mM (fun y hy=>by
  have:=(yJ x).2 y hy;exact vH aA)
 rw [<-hall,<-vH (m:=bU x-1+1) (x:=x) aA];rfl
theorem KX {x:TT} (h:(cP x).2=[]):(cP x).1=x:=by
 by_cases h6:x.1.op=6
 · obtain ⟨n,a,k⟩:=x
   match k,h with
   | .nil,_=>rw [lJ (by simp [cD])]
   | .cons p n1 a1 k1 .nil,_=>rw [lJ (by simp [cD])]
   | .cons p n1 a1 k1 (.cons q n2 a2 k2 r),h =>
    rw [nO h6] at h;simp at h
 rw [kR h6]
theorem IF (g a:TT):cP (dT g a)=((cP g).1,(cP g).2++[a]):=nO rfl
theorem i6 {x:TT} (hv:cJ x=true) (h:(cP x).1.1.op=9\/(cP x).1.1.op=10\/(cP x).1.1.op=12) : ∀ y ∈ (cP x).2,cJ y=true:=by
 rw [lX,if_neg aA] at hv;split at hv
 · rw [Bool.and_eq_true] at hv;exact fun y hy=>List.all_eq_true.1 hv.2 y hy
 rw [if_pos aA] at hv;exact fun y hy=>List.all_eq_true.1 hv y hy
theorem ED {g a:TT} (hg:cJ g=true) (ha:cJ a=true) (h:(cP g).1.1.op=9\/(cP g).1.1.op=10\/((cP g).1.1.op=12/\(((cP g).2++[a]).length:Int)<=dC (cP g).1)):cJ (dT g a)=true:=by
 have hargs:=i6 hg aA;have hall:((cP g).2++[a]).all cJ=true:=by
  rw [List.all_eq_true];intro y hy;rcases List.mem_append.1 hy with hy | hy
  · exact hargs y hy
  rw [List.mem_singleton] at hy;subst hy;exact ha
 rw [lX,IF];simp only;rw [if_neg aA];split
 · rw [hall,Bool.and_true,decide_eq_true_eq];omega
 rw [if_pos aA];exact hall
theorem wZ {x:TT} (hv:cJ x=true) (h:(cP x).1.1.op=5):(cP x).2=[]/\(cP x).1=x:=by
 rw [lX,if_pos (.inl h)] at hv;have:=List.isEmpty_iff.1 hv;exact ⟨this,KX this⟩
theorem AJ {b:Bk} {x:TT} (hx:bR b 0 x) (hv:cJ x=false) (h7:x.1.op ≠ 7) (h8:x.1.op ≠ 8) (h11:x.1.op ≠ 11):x.1.op=6:=by
 apply Classical.byContradiction;intro h6;have h1:=hx.closed_op;have hok:=hx.okt.ok;simp only [dG,Bool.and_eq_true,decide_eq_true_eq] at hok;have hop:=FL hok.1.1;have h3:=hok.1.2;have h13:=hok.2;rw [lX,kR h6] at hv;simp only [List.isEmpty_nil,List.all_nil,List.length_nil,Bool.and_true] at hv;split at hv
 · cases hv
 rename_i hz
 split at hv
 · rename_i h12
   have:=(kV hx.okt h12).1;rw [decide_eq_false_iff_not] at hv;omega
 split at hv
 · cases hv
 omega
theorem FC {b:Bk} {k k':Int} {m:Nd} (h:bH b k (-1) m=true) (hk:k<=k'):bH b k' (-1) m=true:=by
 have fam:∀ e,eL b k e=true->eL b k' e=true:=fun e he=>by
  unfold eL at he ⊢;rw [Bool.and_eq_true,decide_eq_true_eq] at he ⊢;exact ⟨by omega,he.2⟩
 unfold bH at h ⊢;split
 · rename_i h3
   rw [if_pos h3] at h;exact h
 rename_i h3
 rw [if_neg h3] at h;split
 · rename_i h8
   rw [if_pos h8,Bool.and_eq_true,decide_eq_true_eq] at h;rw [Bool.and_eq_true,decide_eq_true_eq];exact ⟨by omega,h.2⟩
 rename_i h8
 rw [if_neg h8] at h;split
 · rename_i h9
   rw [if_pos h9,Bool.or_eq_true] at h;rw [Bool.or_eq_true];exact h.imp id (fam _)
 rename_i h9
 rw [if_neg h9] at h;split
 · rename_i h11
   rw [if_pos h11] at h;exact fam _ h
 rename_i h11
 rw [if_neg h11] at h;split
 · rename_i h10
   rw [if_pos h10,Bool.and_eq_true] at h;rw [Bool.and_eq_true];exact ⟨fam _ h.1,h.2⟩
 rfl
theorem mO {b:Bk} : ∀ (L:List En) (i:Nat),bZ b i L=0->∀ (j:Nat) (x:En),L[j]? = some x->bX b ((i+j:Nat):Int) x=0
 | [],_,_,j,x,h=>by simp at h
 | y::r,i,he,0,x,h=>by
  simp only [List.getElem?_cons_zero,Option.some.injEq] at h;subst h;simp only [bZ] at he;split at he
  · rename_i h0;exact absurd he h0
  · rename_i h0;exact Classical.not_not.1 h0
 | y::r,i,he,j+1,x,h=>by
  simp only [bZ] at he;split at he
  · rename_i h0;exact absurd he h0
  · have:=mO r (i+1) he j x (by simpa using h)
    rwa [show i+1+j=i+(j+1) from by omega] at this
theorem mJ {b:Bk} (h:bY b=0):bZ b 0 b.entries=0:=by
 unfold bY at h;split at h
 · rename_i h0;exact absurd h h0
 split at h
 · cases h
 split at h
 · rename_i h0;exact absurd h h0
 rename_i h0;exact Classical.not_not.1 h0
theorem q7 {b:Bk} (hr:bY b=0) {e:Int} (h0:0<=e) (h1:e<(b.entries.length:Int)) (h2:(aV b e).kind=2):eM b 0 (aV b e).body=0:=by
 have hl:e.toNat<b.entries.length:=aA;have hx:b.entries[e.toNat]? = some (aV b e):=by
  unfold aV;rw [List.getD_eq_getElem?_getD,List.getElem?_eq_getElem hl];rfl
 have he:=mO _ _ (mJ hr) _ _ hx;rw [Nat.zero_add] at he;unfold bX at he;rw [if_neg aA,if_pos h2] at he;split at he
 · cases he
 simp only [cI] at he;split at he
 · rename_i h3;exact absurd he h3
 split at he
 · rename_i h3;exact absurd he h3
 rename_i h3
 have h4:=Classical.not_not.1 h3;rw [Int.add_zero] at h4;obtain ⟨a1,a2,a3⟩:=uO h4;exact DD hr aA (D0 a1 a2 (fun m hm=>FC (a3 m hm) aA))
theorem RV.bind_ok {r:RV} {k:TT->Nat->RV} {v:TT} {f:Nat} (h:r.bind k=.ok v f) : ∃ u f1,r=.ok u f1/\k u f1=.ok v f:=by
 cases r with
 | ok u f1=>exact ⟨u,f1,rfl,h⟩
 | er e=>cases h
def jZ (b:Bk) (v:TT):Prop:=bR b 0 v/\cJ v=true
theorem mP {b:Bk} {gv:Nat->TT->TT->RV} {F:Nat} (H:∀ f g a v f',f<=F->jZ b g->jZ b a->gv f g a=.ok v f'->jZ b v/\f'<=f) : ∀ (l:List TT) (g:TT) (f:Nat) (v:TT) (f':Nat),f<=F->(∀ y ∈ l,jZ b y)->jZ b g->givens gv l g f=.ok v f'->jZ b v/\f'<=f
 | [],g,f,v,f',_,_,hg,h=>by
  simp only [givens,RV.ok.injEq] at h;obtain ⟨rfl,rfl⟩:=h;exact ⟨hg,Nat.le_refl _⟩
 | a::r,g,f,v,f',hf,hl,hg,h=>by
  simp only [givens] at h;obtain ⟨u,f1,h1,h2⟩:=RV.bind_ok h;obtain ⟨a1,a2⟩:=H f g a u f1 hf hg (hl a (by simp)) h1;obtain ⟨b1,b2⟩:=mP H r u f1 v f' aA (fun y hy=>hl y (by simp [hy])) a1 h2;exact ⟨b1,by omega⟩
theorem jP {x:TT} (h:kJ x) (h6:x.1.op=6\/x.1.op=5\/x.1.op=4) : ∃ p q,cD x.2.2=[p,q]:=by
 have hl:=oC h.wf;rw [q9 h.ok] at hl;unfold cG at hl;generalize cD x.2.2=L at *;have:L.length=2:=by
  rw [hl];rcases h6 with h6 | h6 | h6<;>rw [h6]<;>rfl
 match L,this with
 | [p,q],_=>exact ⟨p,q,rfl⟩
theorem mS {x:TT} (h:kJ x) (h7:x.1.op=7) : ∃ p q r,cD x.2.2=[p,q,r]:=by
 have hl:=oC h.wf;rw [q9 h.ok] at hl;unfold cG at hl;generalize cD x.2.2=L at *;have:L.length=3:=by rw [hl,h7];rfl
 match L,this with
 | [p,q,r],_=>exact ⟨p,q,r,rfl⟩
theorem mR {x:TT} (h:kJ x) (h11:x.1.op=11) : ∃ p q br,cD x.2.2=p::q::br/\(br.length:Int)=x.1.b:=by
 have hl:=oC h.wf;have hok:=h.ok;rw [q9 hok] at hl;simp only [dG,Bool.and_eq_true] at hok;have hb:=(hP hok.1.1).1;unfold cG at hl;generalize cD x.2.2=L at *;have:L.length=2+x.1.b.toNat:=by rw [hl,h11];simp;omega
 match L,this with
 | p::q::br,this=>exact ⟨p,q,br,rfl,by simp at this;omega⟩
 | [_],this=>simp at this;omega
 | [],this=>simp at this;omega
theorem KL {x:TT} (h:kJ x) (_h10:x.1.op=10):0<=x.1.b:=by
 have hok:=h.ok;simp only [dG,Bool.and_eq_true] at hok;exact (hP hok.1.1).1
theorem eW {b:Bk} (hr:bY b=0) : ∀ d,(∀ f x v f',bR b 0 x->eO b d f x=.ok v f'->jZ b v/\f'<f)/\(∀ f g a v f',jZ b g->jZ b a->fB b d f g a=.ok v f'->jZ b v/\f'<=f)
 | 0=>⟨fun f x v f' _ h=>(by cases h),fun f g a v f' _ _ h=>(by cases h)⟩
 | d+1=>by
  obtain ⟨i1,i2⟩:=eW hr d;have e1:∀ f x v f',bR b 0 x->eO b (d+1) f x=.ok v f'->jZ b v/\f'<f:=by
   intro f x v f' hx h;rw [gZ] at h;cases f with
   | zero=>cases h
   | succ f =>
   simp only [iC] at h;split at h
   · rename_i hv
     simp only [RV.ok.injEq] at h;obtain ⟨rfl,rfl⟩:=h;exact ⟨⟨hx,hv⟩,by omega⟩
   rename_i hv
   split at h
   · rename_i h8
     have hn:=hx.nod x.1 (by simp [aJ]);have ha:0<=x.1.a:=by have hok:=hx.okt.ok;simp only [dG,Bool.and_eq_true] at hok;exact (eN hok.1.1).1
     unfold bH at hn;rw [if_neg aA,if_pos h8,Bool.and_eq_true,decide_eq_true_eq,beq_iff_eq] at hn;obtain ⟨r1,r2⟩:=i1 _ _ _ _ (kP (q7 hr ha hn.1 hn.2)).2 h;exact ⟨r1,by omega⟩
   split at h
   · rename_i h7
     obtain ⟨p,q,r,hk⟩:=mS hx.okt h7;rw [hk] at h;simp only at h;obtain ⟨u,f1,h1,h2⟩:=RV.bind_ok h;have hq:bR b 0 q:=hx.kid0 (i:=1) (by rw [hk];rfl) (by rw [h7];simp [aC]);have hrr:bR b (0+1) r:=by
      have:=hx.kid (i:=2) (y:=r) (by rw [hk];rfl)
      rwa [show aC x.1.op x.1.b ((2:Nat):Int)=1 from by rw [h7];simp [aC]] at this
     obtain ⟨a1,a2⟩:=i1 _ _ _ _ hq h1;have hs:=(gV aA aA hrr a1.1).2.2;split at h2
     · rename_i h0
       obtain ⟨b1,b2⟩:=i1 _ _ _ _ (hs h0) h2;exact ⟨b1,by omega⟩
     cases h2
   split at h
   · rename_i h11
     obtain ⟨p,q,br,hk,hbr⟩:=mR hx.okt h11;have hz:∀ k:Int,aC x.1.op x.1.b k=0:=dS aA aA aA aA;rw [hk] at h;simp only at h;obtain ⟨u,f1,h1,h2⟩:=RV.bind_ok h;have hq:bR b 0 q:=hx.kid0 (i:=1) (by rw [hk];rfl) (hz _);obtain ⟨a1,a2⟩:=i1 _ _ _ _ hq h1;split at h2
     · rename_i hc
       have hh:=a1.1.hd;have hc0:=KL hh.1.okt hc.1;have hlt:(cP u).1.1.b.toNat<br.length:=aA;have hbk:bR b 0 (br.getD (cP u).1.1.b.toNat (⟨0,0,0⟩,[],.nil)):=by
        rw [List.getD_eq_getElem?_getD,List.getElem?_eq_getElem hlt];exact hx.kid0 (i:=(cP u).1.1.b.toNat+2) (by rw [hk];simp [List.getElem?_eq_getElem hlt]) (hz _)
       obtain ⟨g,f2,h3,h4⟩:=RV.bind_ok h2;obtain ⟨b1,b2⟩:=i1 _ _ _ _ hbk h3;have hva:=i6 a1.2 (.inr (.inl hc.1));obtain ⟨c1,c2⟩:=mP (F:=f2) (fun f g a v f' _ hg ha hh=>i2 f g a v f' hg ha hh) _ g f2 v f' (Nat.le_refl _) (fun y hy=>⟨hh.2 y (List.mem_of_mem_drop hy),hva y (List.mem_of_mem_drop hy)⟩) b1 h4;exact ⟨c1,by omega⟩
     cases h2
   rename_i h8 h7 h11
   have h6:=AJ hx (Bool.not_eq_true _ ▸ hv) h7 h8 h11;obtain ⟨p,q,hk⟩:=jP hx.okt (.inl h6);have hz:∀ k:Int,aC x.1.op x.1.b k=0:=dS aA aA aA aA;rw [hk] at h;simp only at h;obtain ⟨g,f1,h1,h2⟩:=RV.bind_ok h;obtain ⟨u,f2,h3,h4⟩:=RV.bind_ok h2;obtain ⟨a1,a2⟩:=i1 _ _ _ _ (hx.kid0 (i:=0) (y:=p) (by rw [hk];rfl) (hz _)) h1;obtain ⟨b1,b2⟩:=i1 _ _ _ _ (hx.kid0 (i:=1) (y:=q) (by rw [hk];rfl) (hz _)) h3;obtain ⟨c1,c2⟩:=i2 _ _ _ _ _ a1 b1 h4;exact ⟨c1,by omega⟩
  refine ⟨e1,fun f g a v f' hg ha h => ?_⟩;rw [jN] at h;simp only [gP] at h;have hh:=hg.1.hd;split at h
  · rename_i h5
    obtain ⟨hl1,hl2⟩:=wZ hg.2 h5;rw [hl2] at h5;obtain ⟨p,q,hk⟩:=jP hg.1.okt (.inr (.inl h5));rw [hk] at h;simp only at h;have hq:bR b (0+1) q:=by
     have:=hg.1.kid (i:=1) (y:=q) (by rw [hk];rfl)
     rwa [show aC g.1.op g.1.b ((1:Nat):Int)=1 from by rw [h5];simp [aC]] at this
    split at h
    · rename_i h0
      obtain ⟨b1,b2⟩:=e1 _ _ _ _ ((gV aA aA hq ha.1).2.2 h0) h;exact ⟨b1,by omega⟩
    cases h
  split at h
  · rename_i h9
    split at h
    · cases h
    rename_i hs
    simp only [RV.ok.injEq] at h;obtain ⟨rfl,rfl⟩:=h;exact ⟨⟨C5 hg.1 ha.1 aA,ED hg.2 ha.2 aA⟩,Nat.le_refl _⟩
  split at h
  · rename_i h12
    split at h
    · rename_i hle
      split at h
      · cases h
      rename_i hs
      simp only [RV.ok.injEq] at h;obtain ⟨rfl,rfl⟩:=h;exact ⟨⟨C5 hg.1 ha.1 aA,ED hg.2 ha.2 (.inr (.inr ⟨h12,hle⟩))⟩,Nat.le_refl _⟩
    split at h
    · split at h
      · rename_i h0
        obtain ⟨g',f1,h1,h2⟩:=RV.bind_ok h;obtain ⟨b1,b2⟩:=e1 _ _ _ _ (sQ hh.1 h12 h0) h1;have hva:=i6 hg.2 (.inr (.inr h12));obtain ⟨c1,c2⟩:=mP (F:=f1) (fun f g a v f' _ hg ha hh=>i2 f g a v f' hg ha hh) _ g' f1 v f' (Nat.le_refl _) (fun y hy=>by
         rcases List.mem_append.1 hy with hy | hy
         · exact ⟨hh.2 y hy,hva y hy⟩
         rw [List.mem_singleton] at hy;subst hy;exact ha) b1 h2
        exact ⟨c1,by omega⟩
      cases h
    cases h
  · cases h
end Go.Proofs.YtjllmblbbgojbaaGreat
