/- Merged: PartG, SenseP, SenseL, SenseM. -/
import Derived.Test.YtlahmbhimhmoaaaVKidss
namespace Go.Proofs.Ytlahmbhimhmoaaa
set_option linter.unusedVariables false
set_option linter.unusedSimpArgs false
open Go.RowKit
variable {b:Bk}{free:Int}{x:TT}
theorem yA:∀{F:Fo} {I:List Bool},Wf I F->∀{y:TT},y∈a9 F->tV y
 | .nil,_,_,y,h=>by cases h
 | .cons _ _ _ _ _,[],h,_,_=>h.elim
 | .cons p n a k x,d::dr,h,y,hy=>by
  obtain⟨_,G,D,O,U⟩:=h;rw[dX]at hy;rcases MU.1 hy with rfl|hy
  . exact⟨G,D,O⟩
  . exact yA U hy
inductive RV where
 | ok (x:TT) (f:Nat)
 | er (e:Int)
def dG(x:TT):Int:=(fO x.2.2).getD x.1.a.toNat 0
def cM(x u:TT):TT×Int:=if 4096<(bZ x:Int)+lU 0 x.1 x.2.2*((bZ u:Int)-1) then (x,9) else (DH (wG u) 0 x,0)
def eS(f a:TT):TT:=(⟨6,0,0⟩,[],.cons [] f.1 f.2.1 f.2.2 (.cons [] a.1 a.2.1 a.2.2 .nil))
def fQ(h:TT)(i:Nat):TT:=(⟨h.1.op,(i:Int),h.1.b⟩,h.2.1,h.2.2)
structure bJ (b:Bk) (free:Int) (x:TT):Prop where
 okt:tV x
 few:bZ x<=4096
 low:kU (fun v z=>decide (free<=v-z)) 0 x.1 x.2.2=false
 nod:∀m∈aT x,cE b b.entries.length (-1) m=true
theorem bJ.rt(h:bJ b free x):JA x:=oG h.okt.ok h.okt.at_ h.okt.wf h.few
theorem xY{l:List Nd}(h:dQ b free l=0):l=aT (cI l)/\bJ b free (cI l):=by
 obtain⟨z,s,G⟩:=EM h;obtain⟨o,F,O⟩:=rZ G;obtain⟨n,a,k,D⟩:=AJ o;obtain⟨U,I,Y⟩:=D.wf;rw[sH D];have e:l=aT (n,a,k):=D.eq;refine⟨e,⟨⟨U,I,Y⟩,by have:=D.few;rw[e]at this;exact this,?_,fun m Z=>O m (by rw[e];exact Z)⟩⟩;rw[DS D,Bool.not_eq_true',show max free 0=free from by omega]at F;exact F
theorem bJ.mono{D:Int}(h:bJ b free x)(G:free<=D):bJ b D x :=
 ⟨h.okt,h.few,mE (p:=fun v z=>decide (free<=v-z)) (q:=fun v z=>decide (D<=v-z)) (c:=0) (fun v z F=>by
  simp only[MJ]at F ⊢;omega) (a:=0) h.low,h.nod⟩
theorem tV.around(h:tV x)(i:Int):0<=aR x.1.op x.1.b i/\aR x.1.op x.1.b i<=4:=eN h.ok i
theorem bJ.kid(h:bJ b free x){i:Nat}{y:TT}(G:(a9 x.2.2)[i]? = some y):bJ b (free+aR x.1.op x.1.b (i:Int)) y:=by
 obtain⟨n,a,k⟩:=x;have D:y∈a9 k:=List.mem_of_getElem? G;have Y:=qC D;have I:=h.few;rw[cS]at I;refine⟨yA h.okt.wf D,by omega,?_,fun m U=>h.nod m ?_⟩
 . have F:=EK (mF h.low).2 i y G;rw[ML]at F;refine mE (p:=fun v z=>decide (free<=v-z)) (fun v z O=>?_) F;simp only[MJ]at O ⊢;omega
 simp only[aT,MU,MW];exact .inr (.inr (AH D m U))
theorem bJ.kid0(h:bJ b free x){i:Nat}{y:TT}(F:(a9 x.2.2)[i]? = some y)(D:aR x.1.op x.1.b (i:Int)=0):bJ b free y:=by
 have:=h.kid F
 rwa [D,MV]at this
theorem GI{g a:TT}(G:bJ b free g)(ha:bJ b free a)(O:1+bZ g+bZ a<=4096):bJ b free (eS g a):=by
 have D:aT (eS g a)=⟨6,0,0⟩::(aT g++aT a):=by simp[eS,aT,row]
 have hz:∀k:Int,aR 6 0 k=0:=iV aE aE aE aE;refine⟨⟨(by show eU ⟨6,0,0⟩=true;decide),rfl,?_⟩,?_,?_,?_⟩
 . show Wf (ds ⟨6,0,0⟩) _;have I:ds ⟨6,0,0⟩=[false,false]:=rfl;rw[I];exact⟨rfl,G.okt.ok,G.okt.at_,G.okt.wf,rfl,ha.okt.ok,ha.okt.at_,ha.okt.wf,trivial⟩
 . show (aT (eS g a)).length<=4096;rw[D];simp only[MN,MG];simp only[bZ]at O;omega
 . unfold eS kU;simp only;rw[cR,cR,hz,hz,MV,G.low,ha.low];rfl
 rw[D];intro m F;rcases MU.1 F with rfl|F
 . rfl
 rcases MW.1 F with F|F
 . exact G.nod m F
 exact ha.nod m F
theorem sO(g a:TT):bZ (eS g a)=1+bZ g+bZ a:=by
 have D:aT (eS g a)=⟨6,0,0⟩::(aT g++aT a):=by simp[eS,aT,row]
 unfold bZ;rw[D];simp only[MN,MG];omega
theorem JO{op O nb i:Int}(F:op=12)(h:eU ⟨op,O,nb⟩=true)(U:0<=i)(Y:i<nb):eU ⟨op,i,nb⟩=true:=by
 have G:bR op O nb=true/\op≠3/\op≠13:=by
  simp only[eU,ME,MJ]at h;exact⟨h.1.1,h.1.2,h.2⟩
 have D:=G.1;rw[bI]at D;have I:1<=nb/\nb<=4:=aA;clear D;have Z:bR op i nb=true:=by
  rw[bI];exact .inr (.inr (.inr (.inr (.inr (.inr (.inr (.inl ⟨F,I.1,I.2,U,Y⟩)))))))
 unfold eU;simp only;rw[Z,MB G.2.1,MB G.2.2];rfl
theorem EY{D F:Int}{m:Nd}(h:m.op=12):cE b D F m=true:=by
 unfold cE;rw[aN aA,aN aA,aN aA,aN aA,aN aA]
theorem rK{h:TT}(F:bJ b free h)(D:h.1.op=12){i:Nat}(Y:(i:Int)<h.1.b):bJ b free (fQ h i):=by
 obtain⟨⟨op,I,nb⟩,a,k⟩:=h;have e:aT (fQ (⟨op,I,nb⟩,a,k) i)=⟨op,(i:Int),nb⟩::(a++row k):=rfl;have O:aT (⟨op,I,nb⟩,a,k)=⟨op,I,nb⟩::(a++row k):=rfl;refine⟨⟨JO D F.okt.ok aA Y,?_,F.okt.wf⟩,?_,?_,?_⟩
 . have:=F.okt.at_;unfold gI at this ⊢;exact this
 . have:=F.few;unfold bZ at this ⊢;rw[e];rw[O]at this;exact this
 . have Z:=(mF F.low).2;unfold kU;have U:decide ((fQ (⟨op,I,nb⟩,a,k) i).1.op=1)=false:=MA (by show ¬ op=1;simp only at D;omega);rw[U,Bool.false_and,NK];exact Z
 intro m G;rw[e]at G;rcases MU.1 G with rfl|G
 . exact EY D
 exact F.nod m (by rw[O];exact List.mem_cons_of_mem _ G)
theorem fP:∀{F:Fo} {D:List Bool},Wf D F->(a9 F).length=D.length
 | .nil,[],_=>rfl
 | .nil,_::_,h=>h.elim
 | .cons _ _ _ _ _,[],h=>h.elim
 | .cons p n a k x,d::dr,h=>by
  rw[dX,MN,MN,fP h.2.2.2.2]
theorem gG(I:tV x)(F:x.1.op=12):1<=x.1.b/\x.1.b<=4/\0<=x.1.a/\x.1.a<x.1.b/\(a9 x.2.2).length=2*x.1.b.toNat:=by
 have D:=I.ok;have G:=fP I.wf;rw[jG D]at G;simp only[eU,ME]at D;have O:=bI.1 D.1.1;refine⟨by omega,by omega,by omega,by omega,?_⟩;rw[G];unfold JU;rw[F];simp;omega
theorem LI(h:tV x)(O:x.1.op=12):(iN x.2.2).length=x.1.b.toNat/\(∀m∈iN x.2.2,0<=m.a/\m.a<16):=by
 have G:=h.ok;simp only[eU,ME]at G;have h2:=bI.1 G.1.1;have U:ds x.1=(List.replicate x.1.b.toNat [true,false]).flatten:=by unfold ds;rw[LZ O]
 have key:∀(B:Nat)(F:Fo),Wf ((List.replicate B [true,false]).flatten) F->(iN F).length=B/\(∀m∈iN F,0<=m.a/\m.a<16):=by
  intro B
  induction B with
  | zero =>
   intro F hF;cases F with
   | nil=>exact⟨rfl,fun m D=>by cases D⟩
   | cons _ _ _ _ _=>exact hF.elim
  | succ B z =>
   intro F hF;rw[List.replicate_succ,NS]at hF
   match F,hF with
   | .cons p1 n1 a1 k1 (.cons p2 n2 a2 k2 x),hF =>
    obtain⟨⟨f,rfl,Y⟩,_,_,_,I,_,_,_,s⟩:=hF;simp only at I;subst I;obtain⟨Z,o⟩:=z x s;simp only[iN,MY];refine⟨by simp[Z],fun m D=>?_⟩;simp only[List.singleton_append,MU]at D;rcases D with rfl|D
    . simp only[yG,ME,MJ]at Y;have:=bI.1 Y.1;omega
    . exact o m D
   | .cons p1 n1 a1 k1 .nil,hF=>exact hF.2.2.2.2.elim
   | .nil,hF=>exact hF.elim
 exact key _ x.2.2 (U ▸ h.wf)
theorem pO(h:tV x)(D:x.1.op=12):0<=dG x/\dG x<16:=by
 obtain⟨F,G⟩:=LI h D;obtain⟨_,_,O,U,_⟩:=gG h D;unfold dG fO;have I:x.1.a.toNat<((iN x.2.2).map (·.a)).length:=by rw[MX,F];omega
 rw[MK,MI I];simp only[Option.getD_some,List.getElem_map];exact G _ (NO _)
theorem CL{k Y:Int}{m:Nd}(h:cE b k (-1) m=true)(Z:k<=Y):cE b Y (-1) m=true:=by
 have D:∀e,gN b k e=true->gN b Y e=true:=fun e he=>by
  unfold gN at he ⊢;rw[ME,MJ]at he ⊢;exact⟨by omega,he.2⟩
 unfold cE at h ⊢;split
 . rename_i I
   rw[LZ I]at h;exact h
 rename_i I
 rw[aN I]at h;split
 . rename_i O
   rw[LZ O,ME,MJ]at h;rw[ME,MJ];exact⟨by omega,h.2⟩
 rename_i O
 rw[aN O]at h;split
 . rename_i U
   rw[LZ U,NM]at h;rw[NM];exact h.imp id (D _)
 rename_i U
 rw[aN U]at h;split
 . rename_i F
   rw[LZ F]at h;exact D _ h
 rename_i F
 rw[aN F]at h;split
 . rename_i G
   rw[LZ G,ME]at h;rw[ME];exact⟨D _ h.1,h.2⟩
 rfl
theorem oY{b:Bk}:∀(L:List En)(i:Nat),dC b i L=0->∀(j:Nat)(x:En),L[j]? = some x->dK b ((i+j:Nat):Int) x=0
 | [],_,_,j,x,h=>by simp at h
 | y::r,i,he,0,x,h=>by
  simp only[List.getElem?_cons_zero,MS]at h;subst h;simp only[dC]at he;split at he
  . rename_i D;exact absurd he D
  . rename_i D;exact Classical.not_not.1 D
 | y::r,i,he,j+1,x,h=>by
  simp only[dC]at he;split at he
  . rename_i D;exact absurd he D
  . have:=oY r (i+1) he j x (by simpa using h)
    rwa [show i+1+j=i+(j+1) from by omega]at this
theorem qY(h:bD b=0):dC b 0 b.entries=0:=by
 unfold bD at h;split at h
 . rename_i D;exact absurd h D
 split at h
 . cases h
 split at h
 . rename_i D;exact absurd h D
 rename_i D;exact Classical.not_not.1 D
theorem DT(G:bD b=0){e:Int}(h:0<=e)(o:e<(b.entries.length:Int))(O:(bP b e).kind=2):dQ b 0 (bP b e).body=0:=by
 have U:e.toNat<b.entries.length:=aA;have Z:b.entries[e.toNat]? = some (bP b e):=by
  unfold bP;rw[MK,MI U];rfl
 have he:=oY _ _ (qY G) _ _ Z;rw[ML]at he;unfold dK at he;rw[aN aA,LZ O]at he;split at he
 . cases he
 simp only[dH]at he;split at he
 . rename_i D;exact absurd he D
 split at he
 . rename_i D;exact absurd he D
 rename_i D
 have F:=Classical.not_not.1 D;rw[MV]at F;obtain⟨a1,a2,I⟩:=rZ F;exact GV G aA (II a1 a2 (fun m Y=>CL (I m Y) aA))
theorem gO(h:tV x)(D:x.1.op=6\/x.1.op=5\/x.1.op=4):∃p q,a9 x.2.2=[p,q]:=by
 have F:=fP h.wf;rw[jG h.ok]at F;unfold JU at F;generalize a9 x.2.2=L at *;have:L.length=2:=by
  rw[F];rcases D with D|D|D<;>rw[D]<;>rfl
 match L,this with
 | [p,q],_=>exact⟨p,q,rfl⟩
theorem pB(h:tV x)(F:x.1.op=7):∃p q r,a9 x.2.2=[p,q,r]:=by
 have D:=fP h.wf;rw[jG h.ok]at D;unfold JU at D;generalize a9 x.2.2=L at *;have:L.length=3:=by rw[D,F];rfl
 match L,this with
 | [p,q,r],_=>exact⟨p,q,r,rfl⟩
theorem dR(h:tV x)(F:x.1.op=11):∃p q br,a9 x.2.2=p::q::br/\(br.length:Int)=x.1.b:=by
 have G:=fP h.wf;have D:=h.ok;rw[jG D]at G;simp only[eU,ME]at D;have I:=(fS D.1.1).1;unfold JU at G;generalize a9 x.2.2=L at *;have:L.length=2+x.1.b.toNat:=by rw[G,F];simp;omega
 match L,this with
 | p::q::br,this=>exact⟨p,q,br,rfl,by simp at this;omega⟩
 | [_],this=>simp at this;omega
 | [],this=>simp at this;omega
theorem zR(h:tV x)(_h10:x.1.op=10):0<=x.1.b:=by
 have D:=h.ok;simp only[eU,ME]at D;exact (fS D.1.1).1
end Go.Proofs.Ytlahmbhimhmoaaa
