/- Merged: Heads, FineW. -/
import Derived.Test.YtjllmblbbgojbaaGreatWEnds
import Derived.Test.YtjllmblbbgojbaaGreatWLeafs
import Derived.Test.YtjllmblbbgojbaaGreatWBase
namespace Go.Proofs.YtjllmblbbgojbaaGreat
section
section
open Go.RowKit
abbrev TT:=Nd×List Nd×Fo
def aJ (x:TT):List Nd:=x.1::(x.2.1++row x.2.2)
def jK (x:TT):Prop:=Rt (aJ x) x.1 x.2.1 x.2.2
def hd:Nat->TT->TT×List TT
 | m+1,(n,a,.cons p n1 a1 k1 (.cons q n2 a2 k2 r))=>if n.op=6 then ((hd m (n1,a1,k1)).1,(hd m (n1,a1,k1)).2++[(n2,a2,k2)]) else ((n,a,.cons p n1 a1 k1 (.cons q n2 a2 k2 r)),[])
 | _,x=>(x,[])
theorem qK {m:Nat} {x:TT} (h:x.1.op ≠ 6):hd m x=(x,[]):=by
 obtain ⟨n,a,k⟩:=x;cases m with
 | zero=>rfl
 | succ m =>
  match k with
  | .nil=>rfl
  | .cons _ _ _ _ .nil=>rfl
  | .cons _ n1 a1 k1 (.cons _ n2 a2 k2 x)=>simp only [hd];rw [if_neg h]
theorem BK {m:Nat} {n n1 n2:Nd} {a a1 a2:List Nd} {k1 k2:Fo} (h:n.op=6):hd (m+1) (n,a,.cons [] n1 a1 k1 (.cons [] n2 a2 k2 .nil))=((hd m (n1,a1,k1)).1,(hd m (n1,a1,k1)).2++[(n2,a2,k2)]):=by
 simp only [hd];rw [if_pos h]
theorem rG:∀ (m:Nat) (x:TT),jK x->(aJ x).length<=m->jK (hd m x).1/\(hd m x).1.1.op ≠ 6/\(aJ (hd m x).1).length<=(aJ x).length/\(∀ y ∈ (hd m x).2,jK y/\(aJ y).length<(aJ x).length)/\((hd m x).2 ≠ []->(aJ (hd m x).1).length<(aJ x).length)
 | 0,x,_,hl=>by simp [aJ] at hl
 | m+1,(n,a,k),h,hl=>by
  by_cases h6:n.op=6
  · obtain ⟨n1,a1,k1,n2,a2,k2,rfl,hs⟩:=oG h h6;rw [BK h6];have hr:=congrArg List.length hs.eq;simp only [aJ,List.length_cons,List.length_append] at hr hl;obtain ⟨e1,e2,e3,e4,e5⟩:=rG m (n1,a1,k1) hs.fst (by simp only [aJ,List.length_cons,List.length_append];omega);simp only [aJ,List.length_cons,List.length_append] at e3 e4 e5 ⊢;refine ⟨e1,e2,by omega,fun y hy => ?_,fun _=>by omega⟩;rcases List.mem_append.1 hy with hy | hy
    · have:=e4 y hy;exact ⟨this.1,by omega⟩
    rw [List.mem_singleton] at hy;subst hy;exact ⟨hs.snd,by simp only;omega⟩
  · rw [qK (x:=(n,a,k)) h6];exact ⟨h,h6,Nat.le_refl _,fun y hy=>(by cases hy),fun e=>absurd rfl e⟩
def kK (w:World):List Value->List TT->Prop
 | [],[]=>True
 | v::vs,x::xs=>(∃ A n c,v=.slice A n c/\∀ w',Below w.heap.size w w'->aP w' A n c (aJ x))/\kK w vs xs
 | _,_=>False
theorem kK.len {w:World} : ∀ {vs:List Value} {xs:List TT},kK w vs xs->vs.length=xs.length
 | [],[],_=>rfl
 | [],_::_,h=>h.elim
 | _::_,[],h=>h.elim
 | v::vs,x::xs,h=>by simp [kK.len h.2]
theorem kK.add {w:World} {A:Option Addr} {n c:Nat} {y:TT} (ht:∀ w',Below w.heap.size w w'->aP w' A n c (aJ y)) : ∀ {vs:List Value} {xs:List TT},kK w vs xs->kK w (vs++[.slice A n c]) (xs++[y])
 | [],[],_=>⟨⟨A,n,c,rfl,ht⟩,trivial⟩
 | [],_::_,h=>h.elim
 | _::_,[],h=>h.elim
 | _::_,_::_,h=>⟨h.1,h.2.add ht⟩
theorem kK.rev {w:World} : ∀ {vs:List Value} {xs:List TT},kK w vs xs->kK w vs.reverse xs.reverse
 | [],[],_=>trivial
 | [],_::_,h=>h.elim
 | _::_,[],h=>h.elim
 | v::vs,x::xs,h=>by
  obtain ⟨⟨A,n,c,rfl,ht⟩,h2⟩:=h;rw [List.reverse_cons,List.reverse_cons];exact kK.add ht h2.rev
theorem kK.slices {w:World} : ∀ {vs:List Value} {xs:List TT},kK w vs xs->∀ v ∈ vs,∃ A n c,v=.slice A n c
 | [],[],_=>fun v hv=>by cases hv
 | [],_::_,h=>h.elim
 | _::_,[],h=>h.elim
 | v::vs,x::xs,h=>fun y hy=>by
  obtain ⟨⟨A,n,c,e,_⟩,h2⟩:=h;rcases List.mem_cons.1 hy with rfl | hy
  · exact ⟨A,n,c,e⟩
  · exact kK.slices h2 y hy
theorem kK.at_ {w:World} : ∀ {vs:List Value} {xs:List TT} (k:Nat),kK w vs xs->(hk:k<xs.length)->∃ A n c,vs[k]? = some (.slice A n c)/\∀ w',Below w.heap.size w w'->aP w' A n c (aJ xs[k])
 | [],[],_,_,hk=>absurd hk (by simp)
 | [],_::_,_,h,_=>h.elim
 | _::_,[],_,h,_=>h.elim
 | v::vs,x::xs,0,h,_=>by
  obtain ⟨⟨A,n,c,e,ht⟩,_⟩:=h;exact ⟨A,n,c,by simp [e],ht⟩
 | v::vs,x::xs,k+1,h,hk=>by
  obtain ⟨A,n,c,e,ht⟩:=kK.at_ k h.2 (by simpa using hk);exact ⟨A,n,c,by simpa using e,by simpa using ht⟩
theorem yL:(Tryz.prog.info? 28).map (fun i=>(i.zero,i.size,i.bytes))=some (some (.slice none 0 0),1,24):=by kernel_rfl
def DH:Value->Nat
 | .slice _ n _=>n
 | _=>0
end
section
open Go.RowKit
def M8 (zs:List Int) (v:Int):Int:=if (zs.length:Int)<=v then 0 else zs.getD (zs.length-1-v.toNat) 0
def fH (b:Bool) (w:World) (e:Ending) (w':World):Prop:=e=.returned (.bool b)/\Below w.heap.size w w'
end
section
open Go.RowKit
def cD:Fo->List TT
 | .nil=>[]
 | .cons _ n a k x=>(n,a,k)::cD x
end
section
open Go.RowKit
structure MA (w:World) (A:Option Addr) (n:Nat) (ys:List TT):Prop where
 len:ys.length=n
 few:n<=1000000
 mem:0<n->∃ b off,A=some ⟨b,off,none⟩/\b<w.heap.size/\∀ k (hk:k<ys.length),∃ A' n' c',w.cell? ⟨b,off+k,none⟩=some (.slice A' n' c')/\∀ w',Below w.heap.size w w'->aP w' A' n' c' (aJ ys[k])
theorem MA.below {w w':World} {A:Option Addr} {n:Nat} {ys:List TT} (h:MA w A n ys) (hb:Below w.heap.size w w'):MA w' A n ys :=
 ⟨h.len,h.few,fun hn=>by
  obtain ⟨b,off,e,hlt,hm⟩:=h.mem hn;refine ⟨b,off,e,Nat.lt_of_lt_of_le hlt hb.size,fun k hk => ?_⟩;obtain ⟨A',n',c',h1,h2⟩:=hm k hk;exact ⟨A',n',c',(hb.cell (p:=⟨b,off+k,none⟩) hlt).trans h1,fun w2 h3=>h2 w2 (hb.trans (h3.mono hb.size))⟩⟩
structure LK where
 vars:Int
 nat:Int
 Ao:Option Addr
 no:Nat
 co:Nat
 Ae:Option Addr
 ne:Nat
 ce:Nat
 Ap:Option Addr
 np:Nat
 cp:Nat
 Aq:Option Addr
 nq:Nat
 cq:Nat
end
section
open Go.RowKit
structure NP (t:List Nd) (n:Nd) (x y:TT):Prop where
 fst:jK x
 snd:jK y
 eq:t=n::(aJ x++aJ y)
 end_:i7 t 1=((1+(aJ x).length:Nat):Int)
theorem GJ {n:Nd} {a:List Nd} {k:Fo} (h:jK (n,a,k)) (h6:n.op=4\/n.op=5\/n.op=6) : ∃ n1 a1 k1 n2 a2 k2,k=.cons [] n1 a1 k1 (.cons [] n2 a2 k2 .nil)/\a=[]/\NP (aJ (n,a,k)) n (n1,a1,k1) (n2,a2,k2):=by
 obtain ⟨hok,hat,hw⟩:=Rt.wf h;simp only at hok hat hw;have ha:a=[]:=by
  unfold gW at hat
  rwa [if_neg aA] at hat
 have hds:ds n=[false,false]:=by
  unfold ds;rw [if_neg aA];rcases h6 with h6 | h6 | h6<;>rw [h6]<;>rfl
 rw [hds] at hw
 match k,hw with
 | .cons p1 n1 a1 k1 (.cons p2 n2 a2 k2 .nil),hw =>
  obtain ⟨hp1,o1,t1,w1,hp2,o2,t2,w2,_⟩:=hw;simp only at hp1 hp2;subst hp1 hp2 ha;have hr:aJ (n,[],Fo.cons [] n1 a1 k1 (.cons [] n2 a2 k2 .nil))=n::(aJ (n1,a1,k1)++aJ (n2,a2,k2)):=by simp [row,aJ]
  have hl:=Rt.few h;rw [hr] at hl;simp only [List.length_cons,List.length_append] at hl;have f1:jK (n1,a1,k1):=kC o1 t1 w1 (by show (n1::(a1++row k1)).length<=4096;simp only [aJ] at hl;omega);have f2:jK (n2,a2,k2):=kC o2 t2 w2 (by show (n2::(a2++row k2)).length<=4096;simp only [aJ] at hl;omega);refine ⟨n1,a1,k1,n2,a2,k2,rfl,rfl,f1,f2,hr,?_⟩;have he:=kN (aJ (n,[],Fo.cons [] n1 a1 k1 (.cons [] n2 a2 k2 .nil))) 1;rw [show ((1:Nat):Int)=1 from rfl] at he;rw [he];have hpp:=iA (.cons [] n1 a1 k1 .nil) [false] (aJ (n2,a2,k2)) ⟨rfl,o1,t1,w1,trivial⟩;have hd:(aJ (n,[],Fo.cons [] n1 a1 k1 (.cons [] n2 a2 k2 .nil))).drop 1=row (.cons [] n1 a1 k1 .nil)++aJ (n2,a2,k2):=by rw [hr];simp [row,aJ]
  unfold ends;rw [hd,hpp];simp only [Option.map_some,nS];rw [hr];simp only [List.length_cons,List.length_append];omega
theorem DN {w:World} {base n c:Nat} {A:Option Addr} {e:TypeId} {z:Nat} {xs:List Value} (h:w.ownsRow base e z (.slice A n c) n xs):A=none->c=0:=by
 intro hA;rcases h.2 with ⟨hv,_⟩ | ⟨g,cap,cur,hv,_⟩
 · injection hv
 injection hv with e1;rw [hA] at e1;cases e1
end
section
open Go.RowKit
end
section
open Go.RowKit
end
section
open Go.RowKit
structure At (t:List Nd) (p:Nat) (dl:List Bool) (F:Fo):Prop where
 wf:Wf dl F
 few:t.length<=4096
 le:p<=t.length
 rest:t.drop p=row F
structure N2 (t:List Nd) (p:Nat) (d:Bool) (dr:List Bool) (pre:List Nd) (y:TT) (nx:Fo):Prop where
 plen:pre.length=if d then 1 else 0
 fun_:d=true->∃ f,pre=[f]/\sX f=true/\aQ t p=f
 rt:jK y
 end_:i7 t ((p+pre.length:Nat):Int)=((p+pre.length+(aJ y).length:Nat):Int)
 cut:(t.take (p+pre.length+(aJ y).length)).drop (p+pre.length)=aJ y
 le:p+pre.length+(aJ y).length<=t.length
 next:At t (p+pre.length+(aJ y).length) dr nx
theorem At.first {n:Nd} {a:List Nd} {k:Fo} (h:jK (n,a,k)) (h2:n.op ≠ 2):At (aJ (n,a,k)) 1 (ds n) k:=by
 obtain ⟨_,hat,hw⟩:=Rt.wf h;simp only at hat hw;have ha:a=[]:=by
  unfold gW at hat
  rwa [if_neg h2] at hat
 subst ha;exact ⟨hw,Rt.few h,by simp [aJ],by simp [aJ]⟩
theorem tC {t:List Nd} {p:Nat} {f:Nd} {r:List Nd} (h:t.drop p=f::r):aQ t p=f:=by
 have:aQ (t.drop p) 0=f:=by rw [h];rfl
 rwa [jQ,Nat.add_zero] at this
theorem At.step {t:List Nd} {p:Nat} {d:Bool} {dr:List Bool} {F:Fo} (h:At t p (d::dr) F) : ∃ pre n a k nx,F=.cons pre n a k nx/\N2 t p d dr pre (n,a,k) nx:=by
 obtain ⟨hw,hf,hle,hr⟩:=h
 match F,hw with
 | .cons pre n a k nx,hw =>
  obtain ⟨hp,hok,hat,hk,hx⟩:=hw;refine ⟨pre,n,a,k,nx,rfl,?_⟩;have hrow:t.drop p=pre++(aJ (n,a,k)++row nx):=by rw [hr];simp [row,aJ]
  have hl:=congrArg List.length hrow;rw [List.length_drop,List.length_append,List.length_append] at hl;have hd2:t.drop (p+pre.length)=aJ (n,a,k)++row nx:=by rw [<-List.drop_drop,hrow,List.drop_left]
  have hd3:t.drop (p+pre.length+(aJ (n,a,k)).length)=row nx:=by rw [<-List.drop_drop,hd2,List.drop_left]
  have hpos:0<(aJ (n,a,k)).length:=by simp [aJ]
  refine ⟨?_,?_,?_,?_,?_,by omega,⟨hx,hf,by omega,hd3⟩⟩
  · cases d with
    | false=>simp only at hp;subst hp;rfl
    | true=>obtain ⟨f,rfl,_⟩:=hp;rfl
  · rintro rfl;obtain ⟨f,rfl,hf⟩:=hp;exact ⟨f,rfl,hf,tC hrow⟩
  · exact kC hok hat hk (by show (aJ (n,a,k)).length<=4096;omega)
  · rw [kN];have hpp:=iA (.cons [] n a k .nil) [false] (row nx) ⟨rfl,hok,hat,hk,trivial⟩;unfold ends;rw [hd2,show aJ (n,a,k)=row (.cons [] n a k .nil) from by simp [row,aJ],hpp];simp only [Option.map_some,nS];have e:(row (Fo.cons [] n a k .nil)).length=(aJ (n,a,k)).length:=by simp [row,aJ]
    rw [e]
    congr 1
    omega
  · rw [List.drop_take,hd2,show p+pre.length+(aJ (n,a,k)).length-(p+pre.length)=(aJ (n,a,k)).length from by omega,List.take_left]
theorem At.done {t:List Nd} {p:Nat} {F:Fo} (h:At t p [] F):F=.nil:=by
 obtain ⟨hw,_⟩:=h
 match F,hw with
 | .nil,_=>rfl
theorem At.kids {t:List Nd} {p:Nat} {dl:List Bool} {F:Fo} (h:At t p dl F):(cD F).length=dl.length:=by
 have:∀ (F:Fo) (dl:List Bool),Wf dl F->(cD F).length=dl.length:=by
  intro F
  induction F with
  | nil=>intro dl h;cases dl with
   | nil=>rfl
   | cons _ _=>exact h.elim
  | cons p n a k x _ ih=>intro dl h;cases dl with
   | nil=>exact h.elim
   | cons d dr=>obtain ⟨_,_,_,_,hx⟩:=h;simp only [cD,List.length_cons,ih dr hx]
 exact this F dl h.wf
structure EE (K:LK) (ca:Int->Nat->Nat) (w:World):Prop where
 ent:∀ e:Nat,e<K.ne->∃ b off Ac nc cc,K.Ae=some ⟨b,off,none⟩/\b<w.heap.size/\w.cell? ⟨b,off+e*7+4,none⟩=some (.slice Ac nc cc)/\nc<=100/\(∀ k,k<nc->∃ b2 o2 A c,Ac=some ⟨b2,o2,none⟩/\b2<w.heap.size/\w.cell? ⟨b2,o2+k*2,none⟩=some (.slice A (ca e k) c)/\ca e k<=100)/\∀ k,nc<=k->ca e k=0
end
end
section
open Go.RowKit
abbrev bU (x:TT):Nat:=(aJ x).length
theorem dJ (n:Nd) (a:List Nd) (k:Fo):bU (n,a,k)=1+a.length+(row k).length:=by
 simp only [bU,aJ,List.length_cons,List.length_append];omega
theorem fC (p:List Nd) (n:Nd) (a:List Nd) (k x:Fo):(row (.cons p n a k x)).length=p.length+bU (n,a,k)+(row x).length:=by
 simp only [row,List.length_append,List.length_cons,bU,aJ];omega
theorem JP:∀ {k:Fo} {y:TT},y ∈ cD k->bU y<=(row k).length
 | .nil,y,h=>by cases h
 | .cons p n a k x,y,h=>by
  rw [fC];rw [show cD (.cons p n a k x)=(n,a,k)::cD x from rfl] at h;rcases List.mem_cons.1 h with rfl | h
  · omega
  · have:=JP h;omega
def cP (x:TT):TT×List TT:=hd (bU x) x
theorem DG:∀ (m m':Nat) (x:TT),bU x<=m->bU x<=m'->hd m x=hd m' x
 | 0,_,(n,a,k),h,_=>by rw [dJ] at h;omega
 | _+1,0,(n,a,k),_,h=>by rw [dJ] at h;omega
 | m+1,m'+1,(n,a,.nil),_,_=>rfl
 | m+1,m'+1,(n,a,.cons p n1 a1 k1 .nil),_,_=>rfl
 | m+1,m'+1,(n,a,.cons p n1 a1 k1 (.cons q n2 a2 k2 r)),h,h'=>by
  simp only [hd];rw [dJ,fC] at h h';split
  · rw [DG m m' (n1,a1,k1) aA aA]
  · rfl
theorem nP {m:Nat} {x:TT} (h:bU x<=m):hd m x=cP x:=DG _ _ _ h (Nat.le_refl _)
theorem kR {x:TT} (h:x.1.op ≠ 6):cP x=(x,[]):=qK h
theorem nO {n n1 n2:Nd} {a a1 a2 p q:List Nd} {k1 k2 r:Fo} (h:n.op=6):cP (n,a,.cons p n1 a1 k1 (.cons q n2 a2 k2 r))=((cP (n1,a1,k1)).1,(cP (n1,a1,k1)).2++[(n2,a2,k2)]):=by
 have h0:bU (n,a,.cons p n1 a1 k1 (.cons q n2 a2 k2 r))=1+a.length+(p.length+bU (n1,a1,k1)+(row (.cons q n2 a2 k2 r)).length):=by rw [dJ,fC]
 rw [<-nP (m:=bU (n,a,.cons p n1 a1 k1 (.cons q n2 a2 k2 r))-1+1) (x:=(n,a,.cons p n1 a1 k1 (.cons q n2 a2 k2 r))) aA];simp only [hd];rw [if_pos h,nP aA]
theorem lJ {x:TT} (h:(cD x.2.2).length<2):cP x=(x,[]):=by
 obtain ⟨n,a,k⟩:=x
 match k,h with
 | .nil,_=>rw [<-nP (Nat.le_succ _)];rfl
 | .cons p n1 a1 k1 .nil,_=>rw [<-nP (Nat.le_succ _)];rfl
 | .cons p n1 a1 k1 (.cons q n2 a2 k2 r),h=>simp [cD] at h;omega
theorem yJ:∀ (x:TT),bU (cP x).1<=bU x/\∀ y ∈ (cP x).2,bU y<bU x:=by
 have key:∀ (s:Nat) (x:TT),bU x<=s->bU (cP x).1<=bU x/\∀ y ∈ (cP x).2,bU y<bU x:=by
  intro s
  induction s with
  | zero=>intro x h;obtain ⟨n,a,k⟩:=x;rw [dJ] at h;omega
  | succ s ih =>
   intro x hs;obtain ⟨n,a,k⟩:=x;by_cases h6:n.op=6
   · match k,hs with
     | .nil,_=>rw [lJ (by simp [cD])];exact ⟨Nat.le_refl _,fun y hy=>by cases hy⟩
     | .cons p n1 a1 k1 .nil,_=>rw [lJ (by simp [cD])];exact ⟨Nat.le_refl _,fun y hy=>by cases hy⟩
     | .cons p n1 a1 k1 (.cons q n2 a2 k2 r),hs =>
      rw [nO h6];have h0:bU (n,a,.cons p n1 a1 k1 (.cons q n2 a2 k2 r))=1+a.length+(p.length+bU (n1,a1,k1)+(q.length+bU (n2,a2,k2)+(row r).length)):=by rw [dJ,fC,fC]
      obtain ⟨i1,i2⟩:=ih (n1,a1,k1) aA;refine ⟨by show bU (cP (n1,a1,k1)).1<=_;omega,fun y hy => ?_⟩;rcases List.mem_append.1 hy with hy | hy
      · have:=i2 y hy;omega
      · rw [List.mem_singleton] at hy;subst hy;omega
   · rw [kR h6];exact ⟨Nat.le_refl _,fun y hy=>by cases hy⟩
 exact fun x=>key _ x (Nat.le_refl _)
theorem mM {α:Type} {f g:α->Bool} : ∀ {L:List α},(∀ y ∈ L,f y=g y)->L.all f=L.all g
 | [],_=>rfl
 | x::L,h=>by
  simp only [List.all_cons];rw [h x (by simp),mM (fun y hy=>h y (by simp [hy]))]
end
end Go.Proofs.YtjllmblbbgojbaaGreat
