/- Merged: PartG, SenseP, SenseL. -/
import Derived.Test.YtjllmblbbgojbaaGreatWSubst1
import Derived.Test.YtjllmblbbgojbaaGreatWRowsD
import Derived.Test.YtjllmblbbgojbaaGreatWKidss
namespace Go.Proofs.YtjllmblbbgojbaaGreat
section
open Go.RowKit
theorem uR:∀ (F:Fo),gM F=(cD F).map aJ
 | .nil=>rfl
 | .cons p n a k x=>by
  rw [lK,List.map_cons,<-uR x];simp [gM,row,aJ]
theorem BQ:∀ {F:Fo} {dl:List Bool},Wf dl F->∀ {y:TT},y ∈ cD F->kJ y
 | .nil,_,_,y,h=>by cases h
 | .cons _ _ _ _ _,[],h,_,_=>h.elim
 | .cons p n a k x,d::dr,h,y,hy=>by
  obtain ⟨_,hok,hat,hk,hx⟩:=h;rw [lK] at hy;rcases List.mem_cons.1 hy with rfl | hy
  · exact ⟨hok,hat,hk⟩
  · exact BQ hx hy
end
section
open Go.RowKit
inductive RV where
 | ok (x:TT) (f:Nat)
 | er (e:Int)
def RV.bind (r:RV) (k:TT->Nat->RV):RV:=match r with
 | .ok x f=>k x f
 | .er e=>.er e
def dC (x:TT):Int:=(iJ x.2.2).getD x.1.a.toNat 0
def tK:Nat->TT->Bool
 | 0,_=>false
 | m+1,x =>
  let q:=cP x
  if q.1.1.op=5\/q.1.1.op=4\/q.1.1.op=2 then q.2.isEmpty
  else if q.1.1.op=12 then decide ((q.2.length:Int)<=dC q.1)&&q.2.all (tK m)
  else if q.1.1.op=9\/q.1.1.op=10 then q.2.all (tK m)
  else false
def cJ (x:TT):Bool:=tK (bU x) x
def bQ (x u:TT):TT×Int:=if 4096<(bU x:Int)+mN 0 x.1 x.2.2*((bU u:Int)-1) then (x,9) else (xI (pX u) 0 x,0)
def dT (f a:TT):TT:=(⟨6,0,0⟩,[],.cons [] f.1 f.2.1 f.2.2 (.cons [] a.1 a.2.1 a.2.2 .nil))
def eV (h:TT) (i:Nat):TT:=(⟨h.1.op,(i:Int),h.1.b⟩,h.2.1,h.2.2)
def m5 (h:TT):Nat->TT->TT×Int
 | 0,x=>(x,0)
 | i+1,x=>let y:=bQ x (eV h i);if y.2=0 then m5 h i y.1 else y
def iN (h:TT):TT×Int:=m5 h h.1.b.toNat ((kH (cD h.2.2)).getD h.1.a.toNat (⟨0,0,0⟩,[],.nil))
def givens (gv:Nat->TT->TT->RV):List TT->TT->Nat->RV
 | [],g,f=>.ok g f
 | a::r,g,f=>(gv f g a).bind fun g' f'=>givens gv r g' f'
def iC (b:Bk) (ev:Nat->TT->RV) (gv:Nat->TT->TT->RV):Nat->TT->RV
 | 0,_=>.er 10
 | f+1,x =>
  if cJ x=true then .ok x f
  else if x.1.op=8 then ev f (dX (aV b x.1.a).body)
  else if x.1.op=7 then (match cD x.2.2 with
   | _::v::bd::_=>(ev f v).bind fun u f'=>if (bQ bd u).2=0 then ev f' (bQ bd u).1 else .er (bQ bd u).2
   | _=>.er 0)
  else if x.1.op=11 then (match cD x.2.2 with
   | _::s::br=>(ev f s).bind fun v f' =>
    let c:=cP v
    if c.1.1.op=10/\c.1.1.a=x.1.a/\c.1.1.b<x.1.b/\c.2.length=(aV b x.1.a).params.length+((aV b x.1.a).ctors.getD c.1.1.b.toNat default).args.length then
     (ev f' (br.getD c.1.1.b.toNat (⟨0,0,0⟩,[],.nil))).bind fun g f2=>givens gv (c.2.drop (aV b x.1.a).params.length) g f2
    else .er 24
   | _=>.er 0)
  else (match cD x.2.2 with
   | p::q::_=>(ev f p).bind fun g f1=>(ev f1 q).bind fun a f2=>gv f2 g a
   | _=>.er 0)
def gP (ev:Nat->TT->RV) (gv:Nat->TT->TT->RV) (f:Nat) (g a:TT):RV :=
 let h:=cP g
 if h.1.1.op=5 then (match cD g.2.2 with
  | _::bd::_=>if (bQ bd a).2=0 then ev f (bQ bd a).1 else .er (bQ bd a).2
  | _=>.er 0)
 else if h.1.1.op=9\/h.1.1.op=10 then (if 4096<1+bU g+bU a then .er 9 else .ok (dT g a) f)
 else if h.1.1.op=12 then
  (if ((h.2++[a]).length:Int)<=dC h.1 then (if 4096<1+bU g+bU a then .er 9 else .ok (dT g a) f)
   else if (cP ((h.2++[a]).getD (dC h.1).toNat (⟨0,0,0⟩,[],.nil))).1.1.op=10 then
    (if (iN h.1).2=0 then (ev f (iN h.1).1).bind fun g' f'=>givens gv (h.2++[a]) g' f' else .er (iN h.1).2)
   else .er 24)
 else .er 24
def ML (b:Bk):Nat->(Nat->TT->RV)×(Nat->TT->TT->RV)
 | 0=>(fun _ _=>.er 10,fun _ _ _=>.er 10)
 | d+1=>(iC b (ML b d).1 (ML b d).2,gP (iC b (ML b d).1 (ML b d).2) (ML b d).2)
def eO (b:Bk) (d:Nat):Nat->TT->RV:=(ML b d).1
def fB (b:Bk) (d:Nat):Nat->TT->TT->RV:=(ML b d).2
theorem gZ (b:Bk) (d:Nat):eO b (d+1)=iC b (eO b d) (fB b d):=rfl
theorem jN (b:Bk) (d:Nat):fB b (d+1)=gP (eO b (d+1)) (fB b d):=rfl
end
section
open Go.RowKit
structure bR (b:Bk) (free:Int) (x:TT):Prop where
 okt:kJ x
 few:bU x<=4096
 low:mB (fun v z=>decide (free<=v-z)) 0 x.1 x.2.2=false
 nod:∀ m ∈ aJ x,bH b b.entries.length (-1) m=true
theorem bR.rt {b:Bk} {free:Int} {x:TT} (h:bR b free x):jK x:=kC h.okt.ok h.okt.at_ h.okt.wf h.few
theorem bR.fits {b:Bk} {free:Int} {x:TT} (h:bR b free x) (hr:bY b=0) (h0:0<=free):eM b free (aJ x)=0:=by
 refine DD hr h0 (D0 h.rt.shape ?_ h.nod);rw [xR h.rt,Bool.not_eq_true',show max free 0=free from by omega];exact h.low
theorem kP {b:Bk} {free:Int} {l:List Nd} (h:eM b free l=0):l=aJ (dX l)/\bR b free (dX l):=by
 obtain ⟨hr,hf,hrow⟩:=rD h;obtain ⟨hs,hbl,hnd⟩:=uO hrow;obtain ⟨n,a,k,hrt⟩:=JF hs;obtain ⟨hok,hat,hk⟩:=hrt.wf;rw [GI hrt];have e:l=aJ (n,a,k):=hrt.eq;refine ⟨e,⟨⟨hok,hat,hk⟩,by have:=hrt.few;rw [e] at this;exact this,?_,fun m hm=>hnd m (by rw [e];exact hm)⟩⟩;rw [xR hrt,Bool.not_eq_true',show max free 0=free from by omega] at hbl;exact hbl
theorem bR.mono {b:Bk} {free free':Int} {x:TT} (h:bR b free x) (hf:free<=free'):bR b free' x :=
 ⟨h.okt,h.few,oK (p:=fun v z=>decide (free<=v-z)) (q:=fun v z=>decide (free'<=v-z)) (c:=0) (fun v z hh=>by
  simp only [decide_eq_true_eq] at hh ⊢;omega) (a:=0) h.low,h.nod⟩
theorem kJ.around {x:TT} (h:kJ x) (i:Int):0<=aC x.1.op x.1.b i/\aC x.1.op x.1.b i<=4:=cV h.ok i
theorem bR.kid {b:Bk} {free:Int} {x:TT} (h:bR b free x) {i:Nat} {y:TT} (hy:(cD x.2.2)[i]? = some y):bR b (free+aC x.1.op x.1.b (i:Int)) y:=by
 obtain ⟨n,a,k⟩:=x;have hmem:y ∈ cD k:=List.mem_of_getElem? hy;have hsz:=JP hmem;have hf:=h.few;rw [dJ] at hf;refine ⟨BQ h.okt.wf hmem,by omega,?_,fun m hm=>h.nod m ?_⟩
 · have e1:=IA (j6 h.low).2 i y hy;rw [Nat.zero_add] at e1;refine oK (p:=fun v z=>decide (free<=v-z)) (fun v z hh => ?_) e1;simp only [decide_eq_true_eq] at hh ⊢;omega
 simp only [aJ,List.mem_cons,List.mem_append];exact .inr (.inr (wQ hmem m hm))
theorem bR.kid0 {b:Bk} {free:Int} {x:TT} (h:bR b free x) {i:Nat} {y:TT} (hy:(cD x.2.2)[i]? = some y) (h0:aC x.1.op x.1.b (i:Int)=0):bR b free y:=by
 have:=h.kid hy
 rwa [h0,Int.add_zero] at this
theorem bR.hd {b:Bk} {free:Int} {x:TT} (h:bR b free x):bR b free (cP x).1/\∀ y ∈ (cP x).2,bR b free y :=
 IG (Q:=bR b free) (fun n a p n1 a1 k1 q n2 a2 k2 r h6 hh=>by
  have hz:∀ k:Int,aC n.op n.b k=0:=dS aA aA aA aA;exact ⟨hh.kid0 (i:=0) rfl (hz _),hh.kid0 (i:=1) rfl (hz _)⟩) _ x (Nat.le_refl _) h
theorem bR.closed_op {b:Bk} {x:TT} (h:bR b 0 x):x.1.op ≠ 1:=fun h1=>by
 have h2:=(j6 h.low).1 h1;have h3:=h.okt.ok;simp only [dG,Bool.and_eq_true] at h3;have h4:=(eN h3.1.1).1;rw [decide_eq_false_iff_not] at h2;omega
theorem mX (up:Int) (pop pb:Int) : ∀ (j:Nat) (z:Int) (F:Fo),lZ (fun v z=>decide (0<=v-z)) pop pb j z F=false->jA up 0 pop pb j z F=F
 | _,_,.nil,_=>rfl
 | j,z,.cons p n a k x,h=>by
  rw [eF,Bool.or_eq_false_iff] at h;obtain ⟨t1,t2⟩:=j6 h.1;simp only [jA];rw [mX up n.op n.b 0 _ k t2,mX up pop pb (j+1) z x h.2];have:iK up 0 n (z+aC pop pb j)=n:=by
   unfold iK;split
   · rename_i hh
     have:=t1 hh.1;rw [decide_eq_false_iff_not] at this;omega
   rfl
  rw [this]
theorem vF {b:Bk} {u:TT} (h:bR b 0 u) (up:Int):AC u up=u:=by
 obtain ⟨n,a,k⟩:=u;have hl:=h.low;simp only at hl;obtain ⟨t1,t2⟩:=j6 hl;unfold AC;simp only;rw [mX up n.op n.b 0 0 k t2];have:iK up 0 n 0=n:=by
  unfold iK;split
  · rename_i hh
    have:=t1 hh.1;rw [decide_eq_false_iff_not] at this;omega
  rfl
 rw [this]
theorem yQ {b:Bk} {u:TT} (h:bR b 0 u) {up:Int} (h0:0<=up) (h1:up<=1000000):eQ (aJ u) up 0=(aJ u,0):=by
 have hrt:=h.rt;have hm:min (0:Int) 1048577=0:=by decide
 have hg:(fJ up 0).G1 0 () u.1 u.2.2=true:=by
  have hl:((row (.cons [] u.1 u.2.1 u.2.2 .nil)).length:Int)<=4096:=by
   have h2:=h.few;have h3:row (.cons [] u.1 u.2.1 u.2.2 .nil)=aJ u:=by simp [row,aJ]
   rw [h3];have h4:(aJ u).length<=4096:=h2;omega
  have hz:aC 0 0 ((0:Nat):Int)=0:=by decide
  have h2:=qN (B:=0) (up:=up) h0 0 0 (fun j=>by rw [dS (by decide) (by decide) (by decide) (by decide)];omega) 0 0 _ _ h.okt.one (by
   rw [eF,hz,Int.add_zero,h.low];rfl) aA
  rw [bV.G_cons,hz,Int.add_zero,Bool.and_eq_true] at h2;exact h2.1
 unfold eQ;rw [if_pos hrt.shape,if_neg aA];unfold rJ;rw [hrt.pp,hm];simp only;rw [if_pos hg,jT];have:=vF h up;unfold AC at this;have e1:iK up 0 u.1 0=u.1:=congrArg (·.1) this;have e2:jA up 0 u.1.op u.1.b 0 0 u.2.2=u.2.2:=congrArg (·.2.2) this;rw [e1,e2];rfl
theorem gV {b:Bk} {free:Int} {x u:TT} (h0:0<=free) (h1:free<=255) (hx:bR b (free+1) x) (hu:bR b free u) :
 mZ (aJ x) (aJ u) (min 0 1048577)/\fY (aJ x) (aJ u) 0=(if (bQ x u).2=0 then aJ (bQ x u).1 else [],(bQ x u).2)/\((bQ x u).2=0->bR b free (bQ x u).1):=by
 have hT:=hx.rt;have hU:=hu.rt;have hOU:=hu.okt;have hw:=hx.okt.one;have hbl:=hx.low;have hblu:=hu.low;have hndu:=hu.nod;have hnd:=hx.nod;have hlen:=hT.few;have hlenu:=hU.few;obtain ⟨n,a,k⟩:=x;obtain ⟨un,ua,uk⟩:=u;simp only at hbl hblu hw;have hrow:aJ (n,a,k)=row (.cons [] n a k .nil):=by simp [row,aJ]
 have hm:min (0:Int) 1048577=0:=by decide
 have hz:aC 0 0 ((0:Nat):Int)=0:=by decide
 have hp0:∀ j:Int,0<=aC 0 0 j/\aC 0 0 j<=4:=fun j=>by
  rw [dS (by decide) (by decide) (by decide) (by decide)];omega
 have hup:MD (un,ua,uk) 17000:=fun c hc0 hc1=>by
  have hW:=hOU.one;have hl:((row (.cons [] un ua uk .nil)).length:Int)<=4096:=by
   have:row (.cons [] un ua uk .nil)=aJ (un,ua,uk):=by simp [row,aJ]
   rw [this];omega
  have h2:=qN (B:=free) (up:=c) hc0 0 0 hp0 0 0 _ _ hW (by
   rw [eF,hz,Int.add_zero];simp only;rw [hblu];rfl) (by simp only;omega)
  rw [bV.G_cons,hz,Int.add_zero,Bool.and_eq_true] at h2;exact h2.1
 have hlen2:4*((row (.cons [] n a k .nil)).length:Int)<=17000:=by rw [<-hrow];omega
 have hD:(i8 ⟨un,ua,uk⟩ 0).D 0 0 0 0 () (.cons [] n a k .nil):=I3 hup 0 0 hp0 0 0 _ _ hw aA aA;have hE:=wD (un,ua,uk) 0 0 0 0 _ (pL _ _ hw);have e:∀ s:Unit,s=():=fun _=>rfl;have hall:cL k:=by
  have:=nU hT.pp;exact this.2.1
 have hdp:=G6 (x:=0) hx.okt.ok hall;have hfs:=eG k;have hfew4:1+a.length+(row k).length<=4096:=by have:=hx.few;rwa [dJ] at this
 have hno6:¬ (0<mN 0 n k/\mB (fun v b=>decide (b<=v)&&decide (1048576<v-b+0+EX 0 n k)) 0 un uk=true):=fun hh=>by
  have h2:=oK (p:=fun v z=>decide (free<=v-z)) (q:=fun v b=>decide (b<=v)&&decide (1048576<v-b+0+EX 0 n k)) (c:=0) (fun v z hh=>by
   simp only [Bool.and_eq_true,decide_eq_true_eq] at hh ⊢;simp only at hdp;omega) (a:=0) hblu
  rw [hh.2] at h2;cases h2
 refine ⟨?_,?_⟩
 · rw [hm];unfold mZ;rw [hT.pp,hU.pp];simp only;rw [bV.D_cons,hz,Int.add_zero] at hD;exact hD.1
 have hF:(i8 ⟨un,ua,uk⟩ 0).E1 0 () n a k=row (tJ (pX (un,ua,uk)) 0 0 0 0 (.cons [] n a k .nil)):=by
  rw [<-hE,bV.E_cons,hz,Int.add_zero];simp [bV.E]
 have hwx:=JO hOU hup 0 0 hp0 0 0 _ _ hw aA aA;have hlx:=CR (un,ua,uk) 0 0 0 0 _ (pL _ _ hw);have hcn:s8 0 0 0 0 0 (.cons [] n a k .nil)=mN 0 n k:=by
  simp only [s8,mN,hz,Int.add_zero,Int.sub_zero]
 rw [hcn,<-hrow] at hlx;have hsr:fY (aJ (n,a,k)) (aJ (un,ua,uk)) 0=if 4096<(bU (n,a,k):Int)+mN 0 n k*((bU (un,ua,uk):Int)-1) then ([],9) else ((i8 ⟨un,ua,uk⟩ 0).E1 0 () n a k,0):=by
  unfold fY;rw [if_pos hT.shape,if_pos hU.shape,if_neg aA,hm];unfold m4;rw [hT.pp,hU.pp];simp only;rw [if_neg hno6]
 rw [hsr];unfold bQ;simp only;by_cases hbig:4096<(bU (n,a,k):Int)+mN 0 n k*((bU (un,ua,uk):Int)-1)
 · rw [if_pos hbig,if_pos hbig];exact ⟨rfl,fun h=>by cases h⟩
 rw [if_neg hbig,if_neg hbig];have hex:=JN (u:=(un,ua,uk)) h0 hblu 0 0 (fun j=>(hp0 j).1) 0 0 _ (pL _ _ hw) (AQ _ _ hw) aA (by
  rw [eF,hz,Int.add_zero,hbl];rfl)
 have hnx:=sM (u:=(un,ua,uk)) (fun m=>bH b b.entries.length (-1) m=true) (fun m h=>E9 h) (fun m hm=>hndu m hm) 0 0 0 0 (.cons [] n a k .nil) (fun m hm=>hnd m (by rw [hrow];exact hm));rw [hF];rw [i5] at hwx hex hnx hlx ⊢;rw [hz,Int.add_zero] at hwx hex hnx hlx ⊢;generalize xI (pX (un,ua,uk)) 0 (n,a,k)=y at *;have e0:tJ (pX (un,ua,uk)) 0 0 (0+1) 0 .nil=.nil:=rfl;rw [e0] at hwx hex hnx hlx ⊢;have hry:row (.cons [] y.1 y.2.1 y.2.2 .nil)=aJ y:=by simp [row,aJ]
 rw [hry] at hnx hlx ⊢;refine ⟨by simp,fun _=>⟨BQ hwx (by simp [cD]),?_,?_,hnx⟩⟩
 · show (aJ y).length<=4096;have e1:bU (n,a,k)=(aJ (n,a,k)).length:=rfl;rw [e1] at hbig;omega
 rw [eF,hz,Int.add_zero,Bool.or_eq_false_iff] at hex;exact hex.1
theorem C5 {b:Bk} {free:Int} {g a:TT} (hg:bR b free g) (ha:bR b free a) (hs:1+bU g+bU a<=4096):bR b free (dT g a):=by
 have hrow:aJ (dT g a)=⟨6,0,0⟩::(aJ g++aJ a):=by simp [dT,aJ,row]
 have hz:∀ k:Int,aC 6 0 k=0:=dS (by decide) (by decide) (by decide) (by decide);refine ⟨⟨(by show dG ⟨6,0,0⟩=true;decide),rfl,?_⟩,?_,?_,?_⟩
 · show Wf (ds ⟨6,0,0⟩) _;have hds:ds ⟨6,0,0⟩=[false,false]:=rfl;rw [hds];exact ⟨rfl,hg.okt.ok,hg.okt.at_,hg.okt.wf,rfl,ha.okt.ok,ha.okt.at_,ha.okt.wf,trivial⟩
 · show (aJ (dT g a)).length<=4096;rw [hrow];simp only [List.length_cons,List.length_append];simp only [bU] at hs;omega
 · unfold dT mB;simp only;rw [eF,eF,hz,hz,Int.add_zero,hg.low,ha.low];rfl
 rw [hrow];intro m hm;rcases List.mem_cons.1 hm with rfl | hm
 · rfl
 rcases List.mem_append.1 hm with hm | hm
 · exact hg.nod m hm
 exact ha.nod m hm
theorem qH (g a:TT):bU (dT g a)=1+bU g+bU a:=by
 have hrow:aJ (dT g a)=⟨6,0,0⟩::(aJ g++aJ a):=by simp [dT,aJ,row]
 unfold bU;rw [hrow];simp only [List.length_cons,List.length_append];omega
theorem MM {op na nb i:Int} (h12:op=12) (h:dG ⟨op,na,nb⟩=true) (h0:0<=i) (h1:i<nb):dG ⟨op,i,nb⟩=true:=by
 have h2:bD op na nb=true/\op ≠ 3/\op ≠ 13:=by
  simp only [dG,Bool.and_eq_true,decide_eq_true_eq] at h;exact ⟨h.1.1,h.1.2,h.2⟩
 have hpl:=h2.1;rw [aF] at hpl;have h4:1<=nb/\nb<=4:=aA;clear hpl;have h3:bD op i nb=true:=by
  rw [aF];exact .inr (.inr (.inr (.inr (.inr (.inr (.inr (.inl ⟨h12,h4.1,h4.2,h0,h1⟩)))))))
 unfold dG;simp only;rw [h3,decide_eq_true h2.2.1,decide_eq_true h2.2.2];rfl
theorem IQ {b:Bk} {known self:Int} {m:Nd} (h:m.op=12):bH b known self m=true:=by
 unfold bH;rw [if_neg aA,if_neg aA,if_neg aA,if_neg aA,if_neg aA]
theorem oM {b:Bk} {free:Int} {h:TT} (hh:bR b free h) (h12:h.1.op=12) {i:Nat} (hi:(i:Int)<h.1.b):bR b free (eV h i):=by
 obtain ⟨⟨op,na,nb⟩,a,k⟩:=h;have e:aJ (eV (⟨op,na,nb⟩,a,k) i)=⟨op,(i:Int),nb⟩::(a++row k):=rfl;have e0:aJ (⟨op,na,nb⟩,a,k)=⟨op,na,nb⟩::(a++row k):=rfl;refine ⟨⟨MM h12 hh.okt.ok aA hi,?_,hh.okt.wf⟩,?_,?_,?_⟩
 · have:=hh.okt.at_;unfold gW at this ⊢;exact this
 · have:=hh.few;unfold bU at this ⊢;rw [e];rw [e0] at this;exact this
 · have hl:=(j6 hh.low).2;unfold mB;have h1:decide ((eV (⟨op,na,nb⟩,a,k) i).1.op=1)=false:=decide_eq_false (by show ¬ op=1;simp only at h12;omega);rw [h1,Bool.false_and,Bool.false_or];exact hl
 intro m hm;rw [e] at hm;rcases List.mem_cons.1 hm with rfl | hm
 · exact IQ h12
 exact hh.nod m (by rw [e0];exact List.mem_cons_of_mem _ hm)
theorem EC {b:Bk} {h:TT} (hh:bR b 0 h) (h12:h.1.op=12) : ∀ (i:Nat) (x:TT),(i:Int)<=h.1.b->bR b (i:Int) x->(m5 h i x).2=0->bR b 0 (m5 h i x).1
 | 0,x,_,hx,_=>hx
 | i+1,x,hi,hx,he=>by
  have hb4:h.1.b<=4:=by
   have hok:=hh.okt.ok;simp only [dG,Bool.and_eq_true] at hok;have hpl:=aF.1 hok.1.1;omega
  have hs:=gV (b:=b) (free:=(i:Int)) (x:=x) (u:=eV h i) aA aA (by simpa using hx) ((oM hh h12 aA).mono aA);simp only [m5] at he ⊢;split at he
  · rename_i h0
    rw [if_pos h0];exact EC hh h12 i _ aA (hs.2.2 h0) he
  · rename_i h0
    exact absurd he h0
theorem AN:∀ (L:List TT) (i:Nat) (y:TT),(kH L)[i]? = some y->L[2*i+1]? = some y
 | [],i,y,h=>by simp [kH] at h
 | [_],i,y,h=>by simp [kH] at h
 | _::z::r,0,y,h=>by simpa [kH] using h
 | _::z::r,i+1,y,h=>by
  have:=AN r i y (by simpa [kH] using h);rw [show 2*(i+1)+1=2*i+1+1+1 from by omega];simpa using this
theorem C7:∀ (L:List TT),(kH L).length=L.length / 2
 | []=>rfl
 | [_]=>by simp [kH]
 | _::_::r=>by
  simp only [kH,List.length_cons,C7 r];omega
theorem oC:∀ {F:Fo} {dl:List Bool},Wf dl F->(cD F).length=dl.length
 | .nil,[],_=>rfl
 | .nil,_::_,h=>h.elim
 | .cons _ _ _ _ _,[],h=>h.elim
 | .cons p n a k x,d::dr,h=>by
  rw [lK,List.length_cons,List.length_cons,oC h.2.2.2.2]
theorem fN {x:TT} (hx:kJ x) (h12:x.1.op=12):1<=x.1.b/\x.1.b<=4/\0<=x.1.a/\x.1.a<x.1.b/\(cD x.2.2).length=2*x.1.b.toNat:=by
 have hok:=hx.ok;have hl:=oC hx.wf;rw [q9 hok] at hl;simp only [dG,Bool.and_eq_true] at hok;have hpl:=aF.1 hok.1.1;refine ⟨by omega,by omega,by omega,by omega,?_⟩;rw [hl];unfold cG;rw [h12];simp;omega
theorem q8 {b:Bk} {h:TT} (hh:bR b 0 h) (h12:h.1.op=12) (d:TT) : ∃ y,(kH (cD h.2.2))[h.1.a.toNat]? = some y/\(kH (cD h.2.2)).getD h.1.a.toNat d=y/\(cD h.2.2)[2*h.1.a.toNat+1]? = some y/\bR b (h.1.b.toNat:Int) y:=by
 obtain ⟨h1,h2,h3,h4,h5⟩:=fN hh.okt h12;have hl:=C7 (cD h.2.2);rw [h5] at hl;have hlt:h.1.a.toNat<(kH (cD h.2.2)).length:=aA;have e:=List.getElem?_eq_getElem hlt;refine ⟨_,e,by rw [List.getD_eq_getElem?_getD,e];rfl,AN _ _ _ e,?_⟩;have:=hh.kid (AN _ _ _ e);have ha:aC h.1.op h.1.b ((2*h.1.a.toNat+1:Nat):Int)=(h.1.b.toNat:Int):=by
  unfold aC;rw [if_neg aA,if_pos aA];omega
 rwa [ha,Int.zero_add] at this
theorem sQ {b:Bk} {h:TT} (hh:bR b 0 h) (h12:h.1.op=12) (he:(iN h).2=0):bR b 0 (iN h).1:=by
 obtain ⟨y,_,h2,_,h4⟩:=q8 hh h12 (⟨0,0,0⟩,[],.nil);have h5:=fN hh.okt h12;unfold iN at he ⊢;rw [h2] at he ⊢;exact EC hh h12 _ _ aA h4 he
end
end Go.Proofs.YtjllmblbbgojbaaGreat
