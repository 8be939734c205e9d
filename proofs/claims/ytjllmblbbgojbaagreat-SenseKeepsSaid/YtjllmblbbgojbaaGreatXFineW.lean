/- Merged: Heads, FineW. -/
import Derived.Test.YtjllmblbbgojbaaGreatXEnds
namespace Go.Proofs.YtjllmblbbgojbaaGreat
set_option linter.unusedVariables false
set_option linter.unusedSimpArgs false
open Go.RowKit
section
abbrev TT:=Nd×List Nd×Fo
def aY (x:TT):List Nd:=x.1::(x.2.1++row x.2.2)
def mB (x:TT):Prop:=Rt (aY x) x.1 x.2.1 x.2.2
def hd:Nat->TT->TT×List TT
 | m+1,(n,a,.cons p n1 a1 k1 (.cons q n2 a2 k2 r))=>if n.op=6 then ((hd m (n1,a1,k1)).1,(hd m (n1,a1,k1)).2++[(n2,a2,k2)]) else ((n,a,.cons p n1 a1 k1 (.cons q n2 a2 k2 r)),[])
 | _,x=>(x,[])
theorem rE {m:Nat} {x:TT} (h:x.1.op ≠ 6):hd m x=(x,[]):=by
 obtain⟨n,a,k⟩:=x;cases m with
 | zero=>rfl
 | succ m =>
  match k with
  | .nil=>rfl
  | .cons _ _ _ _ .nil=>rfl
  | .cons _ n1 a1 k1 (.cons _ n2 a2 k2 x)=>simp only[hd];rw[if_neg h]
theorem CU {m:Nat} {n n1 n2:Nd} {a a1 a2:List Nd} {k1 k2:Fo} (h:n.op=6):hd (m+1) (n,a,.cons [] n1 a1 k1 (.cons [] n2 a2 k2 .nil))=((hd m (n1,a1,k1)).1,(hd m (n1,a1,k1)).2++[(n2,a2,k2)]):=by
 simp only[hd];rw[if_pos h]
theorem zT:∀(m:Nat) (x:TT),mB x->(aY x).length<=m->mB (hd m x).1/\(hd m x).1.1.op ≠ 6/\(aY (hd m x).1).length<=(aY x).length/\(∀y ∈ (hd m x).2,mB y/\(aY y).length<(aY x).length)/\((hd m x).2 ≠ []->(aY (hd m x).1).length<(aY x).length)
 | 0,x,_,hl=>by simp[aY] at hl
 | m+1,(n,a,k),h,hl=>by
  by_cases h6:n.op=6
  · obtain⟨n1,a1,k1,n2,a2,k2,rfl,hs⟩:=pF h h6;rw[CU h6];have hr:=congrArg List.length hs.eq;simp only[aY,List.length_cons,List.length_append] at hr hl;obtain⟨e1,e2,e3,e4,e5⟩:=zT m (n1,a1,k1) hs.fst (by simp only[aY,List.length_cons,List.length_append];omega);simp only[aY,List.length_cons,List.length_append] at e3 e4 e5 ⊢;refine⟨e1,e2,by omega,fun y hy => ?_,fun _=>by omega⟩;rcases List.mem_append.1 hy with hy | hy
    · have:=e4 y hy;exact⟨this.1,by omega⟩
    rw[List.mem_singleton] at hy;subst hy;exact⟨hs.snd,by simp only;omega⟩
  · rw[rE (x:=(n,a,k)) h6];exact⟨h,h6,Nat.le_refl _,fun y hy=>(by cases hy),fun e=>absurd rfl e⟩
theorem vK:(Tryz.prog.info? 28).map (fun i=>(i.zero,i.size,i.bytes))=some (some (.slice none 0 0),1,24):=by kernel_rfl
def EU:Value->Nat
 | .slice _ n _=>n
 | _=>0
def PJ (zs:List Int) (v:Int):Int:=if (zs.length:Int)<=v then 0 else zs.getD (zs.length-1-v.toNat) 0
def PI (zs:List Int) (x:TT):Bool:=(hd (aY x).length x).1.1.op==1&&PJ zs (hd (aY x).length x).1.1.a==2
def fP (b:Bool) (w:World) (e:Ending) (w':World):Prop:=e=.returned (.bool b)/\Below w.heap.size w w'
def cW:Fo->List TT
 | .nil=>[]
 | .cons _ n a k x=>(n,a,k)::cW x
def EM (rec_:List Int->TT->Bool):Nat->List Int->TT->Bool
 | 0,zs,y=>rec_ zs y
 | n+1,zs,(nd,a,.cons p n1 a1 k1 (.cons q n2 a2 k2 r))=>if nd.op=5 then rec_ zs (n1,a1,k1)&&EM rec_ n (zs++[2]) (n2,a2,k2) else rec_ zs (nd,a,.cons p n1 a1 k1 (.cons q n2 a2 k2 r))
 | _+1,zs,y=>rec_ zs y
def PE (zs:List Int) (x:TT):Bool :=
 let q:=hd (aY x).length x
 let m:=if q.1.1.op=1 then PJ zs q.1.1.a else 0
 m==2||(m==1&&q.2.isEmpty)
def uX (rec_:List Int->TT->Bool) (ca:Nat->Nat) (zs:List Int):Nat->List TT->Bool
 | _,[]=>true
 | k,y::ys=>EM rec_ (ca k) zs y&&uX rec_ ca zs (k+1) ys
def KV (rec_:List Int->TT->Bool) (zs zu:List Int):List TT->Bool
 | ty::bd::r=>rec_ zs ty&&(rec_ zu bd&&KV rec_ zs zu r)
 | _=>true
def lM (places:List Int) (ca:Int->Nat->Nat):Nat->List Int->TT->Bool
 | 0,_,_=>true
 | f+1,zs,x =>
  let q:=hd (aY x).length x
  let n:=q.1.1
  q.2.all (lM places ca f zs) &&
  (if n.op=1 then (if PJ zs n.a<100 then true else (match q.2[(places.getD (PJ zs n.a-100).toNat 0).toNat]? with | some y=>PI zs y | none=>false))
   else if n.op=11 then (match cW q.1.2.2 with
    | mo::sc::br=>(lM places ca f zs mo&&lM places ca f zs sc)&&uX (lM places ca f) (fun k=>if PE zs sc then ca n.a k else 0) zs 0 br
    | _=>true)
   else if n.op=4\/n.op=5 then (match cW q.1.2.2 with
    | a::b::_=>lM places ca f zs a&&lM places ca f (zs++[0]) b
    | _=>true)
   else if n.op=7 then (match cW q.1.2.2 with
    | a::b::c::_=>(lM places ca f zs a&&lM places ca f zs b)&&lM places ca f (zs++[0]) c
    | _=>true)
   else if n.op=12 then KV (lM places ca f) zs (zs++List.replicate n.b.toNat 0) (cW q.1.2.2)
   else true)

structure PW (t:List Nd) (n:Nd) (x y:TT):Prop where
 fst:mB x
 snd:mB y
 eq:t=n::(aY x++aY y)
 end_:jX t 1=((1+(aY x).length:Nat):Int)
theorem I2 {n:Nd} {a:List Nd} {k:Fo} (h:mB (n,a,k)) (h6:n.op=4\/n.op=5\/n.op=6) : ∃n1 a1 k1 n2 a2 k2,k=.cons [] n1 a1 k1 (.cons [] n2 a2 k2 .nil)/\a=[]/\PW (aY (n,a,k)) n (n1,a1,k1) (n2,a2,k2):=by
 obtain⟨hok,hat,hw⟩:=Rt.wf h;simp only at hok hat hw;have ha:a=[]:=by
  unfold iY at hat
  rwa [if_neg aA] at hat
 have hds:ds n=[false,false]:=by
  unfold ds;rw[if_neg aA];rcases h6 with h6 | h6 | h6<;>rw[h6]<;>rfl
 rw[hds] at hw
 match k,hw with
 | .cons p1 n1 a1 k1 (.cons p2 n2 a2 k2 .nil),hw =>
  obtain⟨hp1,o1,t1,w1,hp2,o2,t2,w2,_⟩:=hw;simp only at hp1 hp2;subst hp1 hp2 ha;have hr:aY (n,[],Fo.cons [] n1 a1 k1 (.cons [] n2 a2 k2 .nil))=n::(aY (n1,a1,k1)++aY (n2,a2,k2)):=by simp[row,aY]
  have hl:=Rt.few h;rw[hr] at hl;simp only[List.length_cons,List.length_append] at hl;have f1:mB (n1,a1,k1):=mQ o1 t1 w1 (by show (n1::(a1++row k1)).length<=4096;simp only[aY] at hl;omega);have f2:mB (n2,a2,k2):=mQ o2 t2 w2 (by show (n2::(a2++row k2)).length<=4096;simp only[aY] at hl;omega);refine⟨n1,a1,k1,n2,a2,k2,rfl,rfl,f1,f2,hr,?_⟩;have he:=lL (aY (n,[],Fo.cons [] n1 a1 k1 (.cons [] n2 a2 k2 .nil))) 1;rw[show ((1:Nat):Int)=1 from rfl] at he;rw[he];have hpp:=jQ (.cons [] n1 a1 k1 .nil) [false] (aY (n2,a2,k2)) ⟨rfl,o1,t1,w1,trivial⟩;have hd:(aY (n,[],Fo.cons [] n1 a1 k1 (.cons [] n2 a2 k2 .nil))).drop 1=row (.cons [] n1 a1 k1 .nil)++aY (n2,a2,k2):=by rw[hr];simp[row,aY]
  unfold ends;rw[hd,hpp];simp only[Option.map_some,oR];rw[hr];simp only[List.length_cons,List.length_append];omega
theorem FA {w:World} {base n c:Nat} {A:Option Addr} {e:TypeId} {z:Nat} {xs:List Value} (h:w.ownsRow base e z (.slice A n c) n xs):A=none->c=0:=by
 intro hA;rcases h.2 with⟨hv,_⟩ | ⟨g,cap,cur,hv,_⟩
 · injection hv
 injection hv with e1;rw[hA] at e1;cases e1
def LX:Nat->TT->Bool
 | 0,(n,_,.cons _ n1 a1 k1 (.cons _ _ _ _ _))=>if n.op=4 then (hd (aY (n1,a1,k1)).length (n1,a1,k1)).1.1.op==9 else false
 | p+1,(n,_,.cons _ _ _ _ (.cons _ n2 a2 k2 _))=>if n.op=4 then LX p (n2,a2,k2) else false
 | _,_=>false
def NX (rec_:List Int->TT->Bool):Nat->List Int->TT->Bool
 | 0,zs,y=>rec_ zs y
 | r+1,zs,(n,_,.cons _ n1 a1 k1 (.cons _ n2 a2 k2 _))=>if n.op=5 then rec_ zs (n1,a1,k1)&&NX rec_ r (zs++[if r=0 then 1 else 0]) (n2,a2,k2) else false
 | _+1,_,_=>false
structure At (t:List Nd) (p:Nat) (dl:List Bool) (F:Fo):Prop where
 wf:Wf dl F
 few:t.length<=4096
 le:p<=t.length
 rest:t.drop p=row F
structure QA (t:List Nd) (p:Nat) (d:Bool) (dr:List Bool) (pre:List Nd) (y:TT) (nx:Fo):Prop where
 plen:pre.length=if d then 1 else 0
 fun_:d=true->∃f,pre=[f]/\tW f=true/\bD t p=f
 rt:mB y
 end_:jX t ((p+pre.length:Nat):Int)=((p+pre.length+(aY y).length:Nat):Int)
 cut:(t.take (p+pre.length+(aY y).length)).drop (p+pre.length)=aY y
 le:p+pre.length+(aY y).length<=t.length
 next:At t (p+pre.length+(aY y).length) dr nx
theorem At.first {n:Nd} {a:List Nd} {k:Fo} (h:mB (n,a,k)) (h2:n.op ≠ 2):At (aY (n,a,k)) 1 (ds n) k:=by
 obtain⟨_,hat,hw⟩:=Rt.wf h;simp only at hat hw;have ha:a=[]:=by
  unfold iY at hat
  rwa [if_neg h2] at hat
 subst ha;exact⟨hw,Rt.few h,by simp[aY],by simp[aY]⟩
theorem uH {t:List Nd} {p:Nat} {f:Nd} {r:List Nd} (h:t.drop p=f::r):bD t p=f:=by
 have:bD (t.drop p) 0=f:=by rw[h];rfl
 rwa [lV,Nat.add_zero] at this
theorem At.step {t:List Nd} {p:Nat} {d:Bool} {dr:List Bool} {F:Fo} (h:At t p (d::dr) F) : ∃pre n a k nx,F=.cons pre n a k nx/\QA t p d dr pre (n,a,k) nx:=by
 obtain⟨hw,hf,hle,hr⟩:=h
 match F,hw with
 | .cons pre n a k nx,hw =>
  obtain⟨hp,hok,hat,hk,hx⟩:=hw;refine⟨pre,n,a,k,nx,rfl,?_⟩;have hrow:t.drop p=pre++(aY (n,a,k)++row nx):=by rw[hr];simp[row,aY]
  have hl:=congrArg List.length hrow;rw[List.length_drop,List.length_append,List.length_append] at hl;have hd2:t.drop (p+pre.length)=aY (n,a,k)++row nx:=by rw[<-List.drop_drop,hrow,List.drop_left]
  have hd3:t.drop (p+pre.length+(aY (n,a,k)).length)=row nx:=by rw[<-List.drop_drop,hd2,List.drop_left]
  have hpos:0<(aY (n,a,k)).length:=by simp[aY]
  refine⟨?_,?_,?_,?_,?_,by omega,⟨hx,hf,by omega,hd3⟩⟩
  · cases d with
    | false=>simp only at hp;subst hp;rfl
    | true=>obtain⟨f,rfl,_⟩:=hp;rfl
  · rintro rfl;obtain⟨f,rfl,hf⟩:=hp;exact⟨f,rfl,hf,uH hrow⟩
  · exact mQ hok hat hk (by show (aY (n,a,k)).length<=4096;omega)
  · rw[lL];have hpp:=jQ (.cons [] n a k .nil) [false] (row nx) ⟨rfl,hok,hat,hk,trivial⟩;unfold ends;rw[hd2,show aY (n,a,k)=row (.cons [] n a k .nil) from by simp[row,aY],hpp];simp only[Option.map_some,oR];have e:(row (Fo.cons [] n a k .nil)).length=(aY (n,a,k)).length:=by simp[row,aY]
    rw[e]
    congr 1
    omega
  · rw[List.drop_take,hd2,show p+pre.length+(aY (n,a,k)).length-(p+pre.length)=(aY (n,a,k)).length from by omega,List.take_left]
theorem At.done {t:List Nd} {p:Nat} {F:Fo} (h:At t p [] F):F=.nil:=by
 obtain⟨hw,_⟩:=h
 match F,hw with
 | .nil,_=>rfl
end
abbrev cL (x:TT):Nat:=(aY x).length
theorem eI (n:Nd) (a:List Nd) (k:Fo):cL (n,a,k)=1+a.length+(row k).length:=by
 simp only[cL,aY,List.length_cons,List.length_append];omega
theorem gI (p:List Nd) (n:Nd) (a:List Nd) (k x:Fo):(row (.cons p n a k x)).length=p.length+cL (n,a,k)+(row x).length:=by
 simp only[row,List.length_append,List.length_cons,cL,aY];omega
theorem LV:∀{k:Fo} {y:TT},y ∈ cW k->cL y<=(row k).length
 | .nil,y,h=>by cases h
 | .cons p n a k x,y,h=>by
  rw[gI];rw[show cW (.cons p n a k x)=(n,a,k)::cW x from rfl] at h;rcases List.mem_cons.1 h with rfl | h
  · omega
  · have:=LV h;omega
def dL (x:TT):TT×List TT:=hd (cL x) x
theorem ET:∀(m m':Nat) (x:TT),cL x<=m->cL x<=m'->hd m x=hd m' x
 | 0,_,(n,a,k),h,_=>by rw[eI] at h;omega
 | _+1,0,(n,a,k),_,h=>by rw[eI] at h;omega
 | m+1,m'+1,(n,a,.nil),_,_=>rfl
 | m+1,m'+1,(n,a,.cons p n1 a1 k1 .nil),_,_=>rfl
 | m+1,m'+1,(n,a,.cons p n1 a1 k1 (.cons q n2 a2 k2 r)),h,h'=>by
  simp only[hd];rw[eI,gI] at h h';split
  · rw[ET m m' (n1,a1,k1) aA aA]
  · rfl
theorem oO {m:Nat} {x:TT} (h:cL x<=m):hd m x=dL x:=ET _ _ _ h (Nat.le_refl _)
theorem lQ {x:TT} (h:x.1.op ≠ 6):dL x=(x,[]):=rE h
theorem oN {n n1 n2:Nd} {a a1 a2 p q:List Nd} {k1 k2 r:Fo} (h:n.op=6):dL (n,a,.cons p n1 a1 k1 (.cons q n2 a2 k2 r))=((dL (n1,a1,k1)).1,(dL (n1,a1,k1)).2++[(n2,a2,k2)]):=by
 have h0:cL (n,a,.cons p n1 a1 k1 (.cons q n2 a2 k2 r))=1+a.length+(p.length+cL (n1,a1,k1)+(row (.cons q n2 a2 k2 r)).length):=by rw[eI,gI]
 rw[<-oO (m:=cL (n,a,.cons p n1 a1 k1 (.cons q n2 a2 k2 r))-1+1) (x:=(n,a,.cons p n1 a1 k1 (.cons q n2 a2 k2 r))) aA];simp only[hd];rw[if_pos h,oO aA]
theorem mF {x:TT} (h:(cW x.2.2).length<2):dL x=(x,[]):=by
 obtain⟨n,a,k⟩:=x
 match k,h with
 | .nil,_=>rw[<-oO (Nat.le_succ _)];rfl
 | .cons p n1 a1 k1 .nil,_=>rw[<-oO (Nat.le_succ _)];rfl
 | .cons p n1 a1 k1 (.cons q n2 a2 k2 r),h=>simp[cW] at h;omega
theorem zS:∀(x:TT),cL (dL x).1<=cL x/\∀y ∈ (dL x).2,cL y<cL x:=by
 have key:∀(s:Nat) (x:TT),cL x<=s->cL (dL x).1<=cL x/\∀y ∈ (dL x).2,cL y<cL x:=by
  intro s
  induction s with
  | zero=>intro x h;obtain⟨n,a,k⟩:=x;rw[eI] at h;omega
  | succ s ih =>
   intro x hs;obtain⟨n,a,k⟩:=x;by_cases h6:n.op=6
   · match k,hs with
     | .nil,_=>rw[mF (by simp[cW])];exact⟨Nat.le_refl _,fun y hy=>by cases hy⟩
     | .cons p n1 a1 k1 .nil,_=>rw[mF (by simp[cW])];exact⟨Nat.le_refl _,fun y hy=>by cases hy⟩
     | .cons p n1 a1 k1 (.cons q n2 a2 k2 r),hs =>
      rw[oN h6];have h0:cL (n,a,.cons p n1 a1 k1 (.cons q n2 a2 k2 r))=1+a.length+(p.length+cL (n1,a1,k1)+(q.length+cL (n2,a2,k2)+(row r).length)):=by rw[eI,gI,gI]
      obtain⟨i1,i2⟩:=ih (n1,a1,k1) aA;refine⟨by show cL (dL (n1,a1,k1)).1<=_;omega,fun y hy => ?_⟩;rcases List.mem_append.1 hy with hy | hy
      · have:=i2 y hy;omega
      · rw[List.mem_singleton] at hy;subst hy;omega
   · rw[lQ h6];exact⟨Nat.le_refl _,fun y hy=>by cases hy⟩
 exact fun x=>key _ x (Nat.le_refl _)
theorem nJ {α:Type} {f g:α->Bool} : ∀{L:List α},(∀y ∈ L,f y=g y)->L.all f=L.all g
 | [],_=>rfl
 | x::L,h=>by
  simp only[List.all_cons];rw[h x aD,nJ (fun y hy=>h y (by simp[hy]))]
end Go.Proofs.YtjllmblbbgojbaaGreat
