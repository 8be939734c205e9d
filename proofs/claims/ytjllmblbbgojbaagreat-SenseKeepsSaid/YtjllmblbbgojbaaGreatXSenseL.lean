/- Merged: PartG, SenseP, SenseL. -/
import Derived.Test.YtjllmblbbgojbaaGreatXKidss
namespace Go.Proofs.YtjllmblbbgojbaaGreat
set_option linter.unusedVariables false
set_option linter.unusedSimpArgs false
open Go.RowKit
theorem vZ:∀(F:Fo),iJ F=(cW F).map aY
 | .nil=>rfl
 | .cons p n a k x=>by
  rw[mG,List.map_cons,<-vZ x];simp[iJ,row,aY]
theorem C0:∀{F:Fo} {dl:List Bool},Wf dl F->∀{y:TT},y ∈ cW F->mW y
 | .nil,_,_,y,h=>by cases h
 | .cons _ _ _ _ _,[],h,_,_=>h.elim
 | .cons p n a k x,d::dr,h,y,hy=>by
  obtain⟨_,hok,hat,hk,hx⟩:=h;rw[mG] at hy;rcases List.mem_cons.1 hy with rfl | hy
  · exact⟨hok,hat,hk⟩
  · exact C0 hx hy
inductive RV where
 | ok (x:TT) (f:Nat)
 | er (e:Int)
def RV.bind (r:RV) (k:TT->Nat->RV):RV:=match r with
 | .ok x f=>k x f
 | .er e=>.er e
def dX (x:TT):Int:=(iC x.2.2).getD x.1.a.toNat 0
def uQ:Nat->TT->Bool
 | 0,_=>false
 | m+1,x =>
  let q:=dL x
  if q.1.1.op=5\/q.1.1.op=4\/q.1.1.op=2 then q.2.isEmpty
  else if q.1.1.op=12 then decide ((q.2.length:Int)<=dX q.1)&&q.2.all (uQ m)
  else if q.1.1.op=9\/q.1.1.op=10 then q.2.all (uQ m)
  else false
def dC (x:TT):Bool:=uQ (cL x) x
def cI (x u:TT):TT×Int:=if 4096<(cL x:Int)+oD 0 x.1 x.2.2*((cL u:Int)-1) then (x,9) else (yP (qW u) 0 x,0)
def eS (f a:TT):TT:=(⟨6,0,0⟩,[],.cons [] f.1 f.2.1 f.2.2 (.cons [] a.1 a.2.1 a.2.2 .nil))
def fU (h:TT) (i:Nat):TT:=(⟨h.1.op,(i:Int),h.1.b⟩,h.2.1,h.2.2)
def nT (h:TT):Nat->TT->TT×Int
 | 0,x=>(x,0)
 | i+1,x=>let y:=cI x (fU h i);if y.2=0 then nT h i y.1 else y
def jE (h:TT):TT×Int:=nT h h.1.b.toNat ((kS (cW h.2.2)).getD h.1.a.toNat (⟨0,0,0⟩,[],.nil))
def cS (gv:Nat->TT->TT->RV):List TT->TT->Nat->RV
 | [],g,f=>.ok g f
 | a::r,g,f=>(gv f g a).bind fun g' f'=>cS gv r g' f'
def i5 (b:Bk) (ev:Nat->TT->RV) (gv:Nat->TT->TT->RV):Nat->TT->RV
 | 0,_=>.er 10
 | f+1,x =>
  if dC x=true then .ok x f
  else if x.1.op=8 then ev f (eY (bJ b x.1.a).body)
  else if x.1.op=7 then (match cW x.2.2 with
   | _::v::bd::_=>(ev f v).bind fun u f'=>if (cI bd u).2=0 then ev f' (cI bd u).1 else .er (cI bd u).2
   | _=>.er 0)
  else if x.1.op=11 then (match cW x.2.2 with
   | _::s::br=>(ev f s).bind fun v f' =>
    let c:=dL v
    if c.1.1.op=10/\c.1.1.a=x.1.a/\c.1.1.b<x.1.b/\c.2.length=(bJ b x.1.a).params.length+((bJ b x.1.a).ctors.getD c.1.1.b.toNat default).args.length then
     (ev f' (br.getD c.1.1.b.toNat (⟨0,0,0⟩,[],.nil))).bind fun g f2=>cS gv (c.2.drop (bJ b x.1.a).params.length) g f2
    else .er 24
   | _=>.er 0)
  else (match cW x.2.2 with
   | p::q::_=>(ev f p).bind fun g f1=>(ev f1 q).bind fun a f2=>gv f2 g a
   | _=>.er 0)
def iN (ev:Nat->TT->RV) (gv:Nat->TT->TT->RV) (f:Nat) (g a:TT):RV :=
 let h:=dL g
 if h.1.1.op=5 then (match cW g.2.2 with
  | _::bd::_=>if (cI bd a).2=0 then ev f (cI bd a).1 else .er (cI bd a).2
  | _=>.er 0)
 else if h.1.1.op=9\/h.1.1.op=10 then (if 4096<1+cL g+cL a then .er 9 else .ok (eS g a) f)
 else if h.1.1.op=12 then
  (if ((h.2++[a]).length:Int)<=dX h.1 then (if 4096<1+cL g+cL a then .er 9 else .ok (eS g a) f)
   else if (dL ((h.2++[a]).getD (dX h.1).toNat (⟨0,0,0⟩,[],.nil))).1.1.op=10 then
    (if (jE h.1).2=0 then (ev f (jE h.1).1).bind fun g' f'=>cS gv (h.2++[a]) g' f' else .er (jE h.1).2)
   else .er 24)
 else .er 24
def OH (b:Bk):Nat->(Nat->TT->RV)×(Nat->TT->TT->RV)
 | 0=>(fun _ _=>.er 10,fun _ _ _=>.er 10)
 | d+1=>(i5 b (OH b d).1 (OH b d).2,iN (i5 b (OH b d).1 (OH b d).2) (OH b d).2)
def fO (b:Bk) (d:Nat):Nat->TT->RV:=(OH b d).1
def gH (b:Bk) (d:Nat):Nat->TT->TT->RV:=(OH b d).2
theorem iV (b:Bk) (d:Nat):fO b (d+1)=i5 b (fO b d) (gH b d):=rfl
theorem kE (b:Bk) (d:Nat):gH b (d+1)=iN (fO b (d+1)) (gH b d):=rfl
structure cM (b:Bk) (free:Int) (x:TT):Prop where
 okt:mW x
 few:cL x<=4096
 low:nW (fun v z=>decide (free<=v-z)) 0 x.1 x.2.2=false
 nod:∀m ∈ aY x,bZ b b.entries.length (-1) m=true
theorem cM.rt {b:Bk} {free:Int} {x:TT} (h:cM b free x):mB x:=mQ h.okt.ok h.okt.at_ h.okt.wf h.few
theorem lO {b:Bk} {free:Int} {l:List Nd} (h:fT b free l=0):l=aY (eY l)/\cM b free (eY l):=by
 obtain⟨hr,hf,hrow⟩:=sE h;obtain⟨hs,hbl,hnd⟩:=vW hrow;obtain⟨n,a,k,hrt⟩:=LL hs;obtain⟨hok,hat,hk⟩:=hrt.wf;rw[I0 hrt];have e:l=aY (n,a,k):=hrt.eq;refine⟨e,⟨⟨hok,hat,hk⟩,by have:=hrt.few;rw[e] at this;exact this,?_,fun m hm=>hnd m (by rw[e];exact hm)⟩⟩;rw[JG hrt,Bool.not_eq_true',show max free 0=free from by omega] at hbl;exact hbl
theorem cM.mono {b:Bk} {free free':Int} {x:TT} (h:cM b free x) (hf:free<=free'):cM b free' x :=
 ⟨h.okt,h.few,pJ (p:=fun v z=>decide (free<=v-z)) (q:=fun v z=>decide (free'<=v-z)) (c:=0) (fun v z hh=>by
  simp only[decide_eq_true_eq] at hh ⊢;omega) (a:=0) h.low,h.nod⟩
theorem cM.kid {b:Bk} {free:Int} {x:TT} (h:cM b free x) {i:Nat} {y:TT} (hy:(cW x.2.2)[i]? = some y):cM b (free+aQ x.1.op x.1.b (i:Int)) y:=by
 obtain⟨n,a,k⟩:=x;have hmem:y ∈ cW k:=List.mem_of_getElem? hy;have hsz:=LV hmem;have hf:=h.few;rw[eI] at hf;refine⟨C0 h.okt.wf hmem,by omega,?_,fun m hm=>h.nod m ?_⟩
 · have e1:=J4 (kV h.low).2 i y hy;rw[Nat.zero_add] at e1;refine pJ (p:=fun v z=>decide (free<=v-z)) (fun v z hh => ?_) e1;simp only[decide_eq_true_eq] at hh ⊢;omega
 simp only[aY,List.mem_cons,List.mem_append];exact .inr (.inr (FN hmem m hm))
theorem cM.kid0 {b:Bk} {free:Int} {x:TT} (h:cM b free x) {i:Nat} {y:TT} (hy:(cW x.2.2)[i]? = some y) (h0:aQ x.1.op x.1.b (i:Int)=0):cM b free y:=by
 have:=h.kid hy
 rwa [h0,Int.add_zero] at this
theorem cM.hd {b:Bk} {free:Int} {x:TT} (h:cM b free x):cM b free (dL x).1/\∀y ∈ (dL x).2,cM b free y :=
 KA (Q:=cM b free) (fun n a p n1 a1 k1 q n2 a2 k2 r h6 hh=>by
  have hz:∀k:Int,aQ n.op n.b k=0:=eO aA aA aA aA;exact⟨hh.kid0 (i:=0) rfl (hz _),hh.kid0 (i:=1) rfl (hz _)⟩) _ x (Nat.le_refl _) h
theorem cM.closed_op {b:Bk} {x:TT} (h:cM b 0 x):x.1.op ≠ 1:=fun h1=>by
 have h2:=(kV h.low).1 h1;have h3:=h.okt.ok;simp only[eE,Bool.and_eq_true] at h3;have h4:=(fK h3.1.1).1;rw[decide_eq_false_iff_not] at h2;omega
theorem nR (up:Int) (pop pb:Int) : ∀(j:Nat) (z:Int) (F:Fo),oF (fun v z=>decide (0<=v-z)) pop pb j z F=false->sS up 0 pop pb j z F=F
 | _,_,.nil,_=>rfl
 | j,z,.cons p n a k x,h=>by
  rw[fB,Bool.or_eq_false_iff] at h;obtain⟨t1,t2⟩:=kV h.1;simp only[sS];rw[nR up n.op n.b 0 _ k t2,nR up pop pb (j+1) z x h.2];have:rH up 0 n (z+aQ pop pb j)=n:=by
   unfold rH;split
   · rename_i hh
     have:=t1 hh.1;rw[decide_eq_false_iff_not] at this;omega
   rfl
  rw[this]
theorem wO {b:Bk} {u:TT} (h:cM b 0 u) (up:Int):BN u up=u:=by
 obtain⟨n,a,k⟩:=u;have hl:=h.low;simp only at hl;obtain⟨t1,t2⟩:=kV hl;unfold BN;simp only;rw[nR up n.op n.b 0 0 k t2];have:rH up 0 n 0=n:=by
  unfold rH;split
  · rename_i hh
    have:=t1 hh.1;rw[decide_eq_false_iff_not] at this;omega
  rfl
 rw[this]
theorem z8 {b:Bk} {u:TT} (h:cM b 0 u) {up:Int} (h0:0<=up) (h1:up<=1000000):lT (aY u) up 0=(aY u,0):=by
 have hrt:=h.rt;have hm:min (0:Int) 1048577=0:=by decide
 have hg:(jB up 0).G1 0 () u.1 u.2.2=true:=by
  have hl:((row (.cons [] u.1 u.2.1 u.2.2 .nil)).length:Int)<=4096:=by
   have h2:=h.few;have h3:row (.cons [] u.1 u.2.1 u.2.2 .nil)=aY u:=by simp[row,aY]
   rw[h3];have h4:(aY u).length<=4096:=h2;omega
  have hz:aQ 0 0 ((0:Nat):Int)=0:=by decide
  have h2:=rI (B:=0) (up:=up) h0 0 0 (fun j=>by rw[eO aE aE aE aE];omega) 0 0 _ _ h.okt.one (by
   rw[fB,hz,Int.add_zero,h.low];rfl) aA
  rw[cV.G_cons,hz,Int.add_zero,Bool.and_eq_true] at h2;exact h2.1
 unfold lT;rw[if_pos hrt.shape,if_neg aA];unfold z6;rw[hrt.pp,hm];simp only;rw[if_pos hg,AN];have:=wO h up;unfold BN at this;have e1:rH up 0 u.1 0=u.1:=congrArg (·.1) this;have e2:sS up 0 u.1.op u.1.b 0 0 u.2.2=u.2.2:=congrArg (·.2.2) this;rw[e1,e2];rfl
theorem iT {b:Bk} {free:Int} {x u:TT} (h0:0<=free) (h1:free<=255) (hx:cM b (free+1) x) (hu:cM b free u) :
 tK (aY x) (aY u) (min 0 1048577)/\iS (aY x) (aY u) 0=(if (cI x u).2=0 then aY (cI x u).1 else [],(cI x u).2)/\((cI x u).2=0->cM b free (cI x u).1):=by
 have hT:=hx.rt;have hU:=hu.rt;have hOU:=hu.okt;have hw:=hx.okt.one;have hbl:=hx.low;have hblu:=hu.low;have hndu:=hu.nod;have hnd:=hx.nod;have hlen:=hT.few;have hlenu:=hU.few;obtain⟨n,a,k⟩:=x;obtain⟨un,ua,uk⟩:=u;simp only at hbl hblu hw;have hrow:aY (n,a,k)=row (.cons [] n a k .nil):=by simp[row,aY]
 have hm:min (0:Int) 1048577=0:=by decide
 have hz:aQ 0 0 ((0:Nat):Int)=0:=by decide
 have hp0:∀j:Int,0<=aQ 0 0 j/\aQ 0 0 j<=4:=fun j=>by
  rw[eO aE aE aE aE];omega
 have hup:N9 (un,ua,uk) 17000:=fun c hc0 hc1=>by
  have hW:=hOU.one;have hl:((row (.cons [] un ua uk .nil)).length:Int)<=4096:=by
   have:row (.cons [] un ua uk .nil)=aY (un,ua,uk):=by simp[row,aY]
   rw[this];omega
  have h2:=rI (B:=free) (up:=c) hc0 0 0 hp0 0 0 _ _ hW (by
   rw[fB,hz,Int.add_zero];simp only;rw[hblu];rfl) (by simp only;omega)
  rw[cV.G_cons,hz,Int.add_zero,Bool.and_eq_true] at h2;exact h2.1
 have hlen2:4*((row (.cons [] n a k .nil)).length:Int)<=17000:=by rw[<-hrow];omega
 have hD:(nB ⟨un,ua,uk⟩ 0).D 0 0 0 0 () (.cons [] n a k .nil):=LB hup 0 0 hp0 0 0 _ _ hw aA aA;have hE:=xT (un,ua,uk) 0 0 0 0 _ (qI _ _ hw);have hall:dD k:=by
  have:=oT hT.pp;exact this.2.1
 have hdp:=JQ (x:=0) hx.okt.ok hall;have hfs:=fD k;have hfew4:1+a.length+(row k).length<=4096:=by have:=hx.few;rwa [eI] at this
 have hno6:¬ (0<oD 0 n k/\nW (fun v b=>decide (b<=v)&&decide (1048576<v-b+0+GP 0 n k)) 0 un uk=true):=fun hh=>by
  have h2:=pJ (p:=fun v z=>decide (free<=v-z)) (q:=fun v b=>decide (b<=v)&&decide (1048576<v-b+0+GP 0 n k)) (c:=0) (fun v z hh=>by
   simp only[Bool.and_eq_true,decide_eq_true_eq] at hh ⊢;simp only at hdp;omega) (a:=0) hblu
  rw[hh.2] at h2;cases h2
 refine⟨?_,?_⟩
 · rw[hm];unfold tK;rw[hT.pp,hU.pp];simp only;rw[cV.D_cons,hz,Int.add_zero] at hD;exact hD.1
 have hF:(nB ⟨un,ua,uk⟩ 0).E1 0 () n a k=row (uP (qW (un,ua,uk)) 0 0 0 0 (.cons [] n a k .nil)):=by
  rw[<-hE,cV.E_cons,hz,Int.add_zero];simp[cV.E]
 have hwx:=LU hOU hup 0 0 hp0 0 0 _ _ hw aA aA;have hlx:=D3 (un,ua,uk) 0 0 0 0 _ (qI _ _ hw);have hcn:wZ 0 0 0 0 0 (.cons [] n a k .nil)=oD 0 n k:=by
  simp only[wZ,oD,hz,Int.add_zero,Int.sub_zero]
 rw[hcn,<-hrow] at hlx;have hsr:iS (aY (n,a,k)) (aY (un,ua,uk)) 0=if 4096<(cL (n,a,k):Int)+oD 0 n k*((cL (un,ua,uk):Int)-1) then ([],9) else ((nB ⟨un,ua,uk⟩ 0).E1 0 () n a k,0):=by
  unfold iS;rw[if_pos hT.shape,if_pos hU.shape,if_neg aA,hm];unfold qH;rw[hT.pp,hU.pp];simp only;rw[if_neg hno6]
 rw[hsr];unfold cI;simp only;by_cases hbig:4096<(cL (n,a,k):Int)+oD 0 n k*((cL (un,ua,uk):Int)-1)
 · rw[if_pos hbig,if_pos hbig];exact⟨rfl,fun h=>by cases h⟩
 rw[if_neg hbig,if_neg hbig];have hex:=LT (u:=(un,ua,uk)) h0 hblu 0 0 (fun j=>(hp0 j).1) 0 0 _ (qI _ _ hw) (B7 _ _ hw) aA (by
  rw[fB,hz,Int.add_zero,hbl];rfl)
 have hnx:=tJ (u:=(un,ua,uk)) (fun m=>bZ b b.entries.length (-1) m=true) (fun m h=>G2 h) (fun m hm=>hndu m hm) 0 0 0 0 (.cons [] n a k .nil) (fun m hm=>hnd m (by rw[hrow];exact hm));rw[hF];rw[jU] at hwx hex hnx hlx ⊢;rw[hz,Int.add_zero] at hwx hex hnx hlx ⊢;generalize yP (qW (un,ua,uk)) 0 (n,a,k)=y at *;have e0:uP (qW (un,ua,uk)) 0 0 (0+1) 0 .nil=.nil:=rfl;rw[e0] at hwx hex hnx hlx ⊢;have hry:row (.cons [] y.1 y.2.1 y.2.2 .nil)=aY y:=by simp[row,aY]
 rw[hry] at hnx hlx ⊢;refine⟨by simp,fun _=>⟨C0 hwx (by simp[cW]),?_,?_,hnx⟩⟩
 · show (aY y).length<=4096;have e1:cL (n,a,k)=(aY (n,a,k)).length:=rfl;rw[e1] at hbig;omega
 rw[fB,hz,Int.add_zero,Bool.or_eq_false_iff] at hex;exact hex.1
theorem EI {b:Bk} {free:Int} {g a:TT} (hg:cM b free g) (ha:cM b free a) (hs:1+cL g+cL a<=4096):cM b free (eS g a):=by
 have hrow:aY (eS g a)=⟨6,0,0⟩::(aY g++aY a):=by simp[eS,aY,row]
 have hz:∀k:Int,aQ 6 0 k=0:=eO aE aE aE aE;refine⟨⟨(by show eE ⟨6,0,0⟩=true;decide),rfl,?_⟩,?_,?_,?_⟩
 · show Wf (ds ⟨6,0,0⟩) _;have hds:ds ⟨6,0,0⟩=[false,false]:=rfl;rw[hds];exact⟨rfl,hg.okt.ok,hg.okt.at_,hg.okt.wf,rfl,ha.okt.ok,ha.okt.at_,ha.okt.wf,trivial⟩
 · show (aY (eS g a)).length<=4096;rw[hrow];simp only[List.length_cons,List.length_append];simp only[cL] at hs;omega
 · unfold eS nW;simp only;rw[fB,fB,hz,hz,Int.add_zero,hg.low,ha.low];rfl
 rw[hrow];intro m hm;rcases List.mem_cons.1 hm with rfl | hm
 · rfl
 rcases List.mem_append.1 hm with hm | hm
 · exact hg.nod m hm
 exact ha.nod m hm
theorem rB (g a:TT):cL (eS g a)=1+cL g+cL a:=by
 have hrow:aY (eS g a)=⟨6,0,0⟩::(aY g++aY a):=by simp[eS,aY,row]
 unfold cL;rw[hrow];simp only[List.length_cons,List.length_append];omega
theorem OI {op na nb i:Int} (h12:op=12) (h:eE ⟨op,na,nb⟩=true) (h0:0<=i) (h1:i<nb):eE ⟨op,i,nb⟩=true:=by
 have h2:bW op na nb=true/\op ≠ 3/\op ≠ 13:=by
  simp only[eE,Bool.and_eq_true,decide_eq_true_eq] at h;exact⟨h.1.1,h.1.2,h.2⟩
 have hpl:=h2.1;rw[aT] at hpl;have h4:1<=nb/\nb<=4:=aA;clear hpl;have h3:bW op i nb=true:=by
  rw[aT];exact .inr (.inr (.inr (.inr (.inr (.inr (.inr (.inl ⟨h12,h4.1,h4.2,h0,h1⟩)))))))
 unfold eE;simp only;rw[h3,decide_eq_true h2.2.1,decide_eq_true h2.2.2];rfl
theorem KM {b:Bk} {known self:Int} {m:Nd} (h:m.op=12):bZ b known self m=true:=by
 unfold bZ;rw[if_neg aA,if_neg aA,if_neg aA,if_neg aA,if_neg aA]
theorem pK {b:Bk} {free:Int} {h:TT} (hh:cM b free h) (h12:h.1.op=12) {i:Nat} (hi:(i:Int)<h.1.b):cM b free (fU h i):=by
 obtain⟨⟨op,na,nb⟩,a,k⟩:=h;have e:aY (fU (⟨op,na,nb⟩,a,k) i)=⟨op,(i:Int),nb⟩::(a++row k):=rfl;have e0:aY (⟨op,na,nb⟩,a,k)=⟨op,na,nb⟩::(a++row k):=rfl;refine⟨⟨OI h12 hh.okt.ok aA hi,?_,hh.okt.wf⟩,?_,?_,?_⟩
 · have:=hh.okt.at_;unfold iY at this ⊢;exact this
 · have:=hh.few;unfold cL at this ⊢;rw[e];rw[e0] at this;exact this
 · have hl:=(kV hh.low).2;unfold nW;have h1:decide ((fU (⟨op,na,nb⟩,a,k) i).1.op=1)=false:=decide_eq_false (by show ¬ op=1;simp only at h12;omega);rw[h1,Bool.false_and,Bool.false_or];exact hl
 intro m hm;rw[e] at hm;rcases List.mem_cons.1 hm with rfl | hm
 · exact KM h12
 exact hh.nod m (by rw[e0];exact List.mem_cons_of_mem _ hm)
theorem FX {b:Bk} {h:TT} (hh:cM b 0 h) (h12:h.1.op=12) : ∀(i:Nat) (x:TT),(i:Int)<=h.1.b->cM b (i:Int) x->(nT h i x).2=0->cM b 0 (nT h i x).1
 | 0,x,_,hx,_=>hx
 | i+1,x,hi,hx,he=>by
  have hb4:h.1.b<=4:=by
   have hok:=hh.okt.ok;simp only[eE,Bool.and_eq_true] at hok;have hpl:=aT.1 hok.1.1;omega
  have hs:=iT (b:=b) (free:=(i:Int)) (x:=x) (u:=fU h i) aA aA (by simpa using hx) ((pK hh h12 aA).mono aA);simp only[nT] at he ⊢;split at he
  · rename_i h0
    rw[if_pos h0];exact FX hh h12 i _ aA (hs.2.2 h0) he
  · rename_i h0
    exact absurd he h0
theorem BZ:∀(L:List TT) (i:Nat) (y:TT),(kS L)[i]? = some y->L[2*i+1]? = some y
 | [],i,y,h=>by simp[kS] at h
 | [_],i,y,h=>by simp[kS] at h
 | _::z::r,0,y,h=>by simpa[kS] using h
 | _::z::r,i+1,y,h=>by
  have:=BZ r i y (by simpa[kS] using h);rw[show 2*(i+1)+1=2*i+1+1+1 from by omega];simpa using this
theorem EK:∀(L:List TT),(kS L).length=L.length / 2
 | []=>rfl
 | [_]=>by simp[kS]
 | _::_::r=>by
  simp only[kS,List.length_cons,EK r];omega
theorem o6:∀{F:Fo} {dl:List Bool},Wf dl F->(cW F).length=dl.length
 | .nil,[],_=>rfl
 | .nil,_::_,h=>h.elim
 | .cons _ _ _ _ _,[],h=>h.elim
 | .cons p n a k x,d::dr,h=>by
  rw[mG,List.length_cons,List.length_cons,o6 h.2.2.2.2]
theorem gN {x:TT} (hx:mW x) (h12:x.1.op=12):1<=x.1.b/\x.1.b<=4/\0<=x.1.a/\x.1.a<x.1.b/\(cW x.2.2).length=2*x.1.b.toNat:=by
 have hok:=hx.ok;have hl:=o6 hx.wf;rw[r7 hok] at hl;simp only[eE,Bool.and_eq_true] at hok;have hpl:=aT.1 hok.1.1;refine⟨by omega,by omega,by omega,by omega,?_⟩;rw[hl];unfold cX;rw[h12];simp;omega
theorem rZ {b:Bk} {h:TT} (hh:cM b 0 h) (h12:h.1.op=12) (d:TT) : ∃y,(kS (cW h.2.2))[h.1.a.toNat]? = some y/\(kS (cW h.2.2)).getD h.1.a.toNat d=y/\(cW h.2.2)[2*h.1.a.toNat+1]? = some y/\cM b (h.1.b.toNat:Int) y:=by
 obtain⟨h1,h2,h3,h4,h5⟩:=gN hh.okt h12;have hl:=EK (cW h.2.2);rw[h5] at hl;have hlt:h.1.a.toNat<(kS (cW h.2.2)).length:=aA;have e:=List.getElem?_eq_getElem hlt;refine⟨_,e,by rw[List.getD_eq_getElem?_getD,e];rfl,BZ _ _ _ e,?_⟩;have:=hh.kid (BZ _ _ _ e);have ha:aQ h.1.op h.1.b ((2*h.1.a.toNat+1:Nat):Int)=(h.1.b.toNat:Int):=by
  unfold aQ;rw[if_neg aA,if_pos aA];omega
 rwa [ha,Int.zero_add] at this
theorem tN {b:Bk} {h:TT} (hh:cM b 0 h) (h12:h.1.op=12) (he:(jE h).2=0):cM b 0 (jE h).1:=by
 obtain⟨y,_,h2,_,h4⟩:=rZ hh h12 (⟨0,0,0⟩,[],.nil);have h5:=gN hh.okt h12;unfold jE at he ⊢;rw[h2] at he ⊢;exact FX hh h12 _ _ aA h4 he
end Go.Proofs.YtjllmblbbgojbaaGreat
