/- Merged: TermL, Heads, Match, FineS, FineL, FineT, FineX, Fines, RowsD. -/
import Derived.Test.YtjoddliplahgkaaGreatPEnds
import Derived.Test.YtjoddliplahgkaaGreatPShort3
namespace Go.Proofs.YtjoddliplahgkaaGreat
set_option linter.unusedVariables false
set_option linter.unusedSimpArgs false
open Go.RowKit
def xI (up fr:Int) (n:Nd) (a:Int):Nd:=if n.op=1/\fr+a<=n.a then ⟨n.op,n.a+up,n.b⟩ else n
def sJ (up fr:Int) (pop pb:Int):Nat->Int->Fo->Fo
 | _,_,.nil=>.nil
 | j,a,.cons p n ats k x=>.cons p (xI up fr n (a+aR pop pb j)) ats (sJ up fr n.op n.b 0 (a+aR pop pb j) k) (sJ up fr pop pb (j+1) a x)
theorem qB (up fr:Int) (n:Nd) (a:Int):(xI up fr n a).op=n.op/\(xI up fr n a).b=n.b:=by unfold xI;split<;>exact⟨rfl,rfl⟩
theorem M3 (up fr:Int) (n:Nd) (a:Int):(jO up fr).em () n a=[xI up fr n a]:=by
 simp only[jO,xI];split<;>rfl
theorem sS (up fr:Int) (pop pb:Int) : ∀(j:Nat) (a:Int) (F:Fo),(jO up fr).E pop pb j a () F=row (sJ up fr pop pb j a F)
 | _,_,.nil=>rfl
 | j,a,.cons p n ats k x=>by
  have e:∀s:Unit,s=():=fun _=>rfl;rw[cW.E_cons,cW.E1,M3,e ((jO up fr).nx () n (a+aR pop pb j)),e ((jO up fr).S1 (a+aR pop pb j) () n k),sS up fr _ _ _ _ k,sS up fr pop pb (j+1) a x];simp[sJ,row]
theorem CT (up fr:Int) (a:Int) (n:Nd) (ats:List Nd) (k:Fo):(jO up fr).E1 a () n ats k=xI up fr n a::(ats++row (sJ up fr n.op n.b 0 a k)):=by
 have e:∀s:Unit,s=():=fun _=>rfl;rw[cW.E1,M3,e ((jO up fr).nx () n a),sS];rfl
theorem M1 {up fr:Int} {n:Nd} {a:Int} (hok:eN n=true) (h0:0<=up) (hg:(jO up fr).ok () n a=true):eN (xI up fr n a)=true:=by
 unfold xI;split
 · rename_i h
   simp only[jO,if_pos h,decide_eq_true_eq] at hg;simp only[eN,Bool.and_eq_true,decide_eq_true_eq] at hok ⊢;obtain⟨⟨h1,h2⟩,h3⟩:=hok;refine⟨⟨?_,h2⟩,h3⟩;rw[h.1] at h1 ⊢;simp only[cD,if_true,decide_eq_true_eq] at h1 ⊢;omega
 exact hok
theorem FE {up fr:Int} (h0:0<=up) (pop pb:Int) : ∀(F:Fo) (dl:List Bool) (j:Nat) (a:Int),Wf dl F->(jO up fr).G pop pb j a () F=true->Wf dl (sJ up fr pop pb j a F)
 | .nil,[],_,_,_,_=>trivial
 | .nil,_::_,_,_,h,_=>h.elim
 | .cons _ _ _ _ _,[],_,_,h,_=>h.elim
 | .cons p n ats k x,d::dr,j,a,h,hg=>by
  obtain⟨hp,a1,a0,hk,hx⟩:=h;rw[cW.G_cons,cW.G1,Bool.and_eq_true,Bool.and_eq_true] at hg;obtain⟨⟨a4,a3⟩,a2⟩:=hg;have hs:=qB up fr n (a+aR pop pb j);have a5:ds (xI up fr n (a+aR pop pb j))=ds n:=by simp only[ds,hs.1,hs.2]
  refine⟨hp,M1 a1 h0 a4,?_,?_,FE h0 pop pb x dr (j+1) a hx a2⟩
  · unfold iR at a0 ⊢;rw[hs.1,hs.2];exact a0
  · rw[a5];exact FE h0 n.op n.b k (ds n) 0 (a+aR pop pb j) hk a3
section
abbrev TT:=Nd×List Nd×Fo
def aW (x:TT):List Nd:=x.1::(x.2.1++row x.2.2)
def II (x:TT):Prop:=Rt (aW x) x.1 x.2.1 x.2.2
def hd:Nat->TT->TT×List TT
 | m+1,(n,a,.cons p n1 a1 k1 (.cons q n2 a2 k2 r))=>if n.op=6 then ((hd m (n1,a1,k1)).1,(hd m (n1,a1,k1)).2++[(n2,a2,k2)]) else ((n,a,.cons p n1 a1 k1 (.cons q n2 a2 k2 r)),[])
 | _,x=>(x,[])
theorem O3 {m:Nat} {x:TT} (h:x.1.op ≠ 6):hd m x=(x,[]):=by
 obtain⟨n,a,k⟩:=x;cases m with
 | zero=>rfl
 | succ m =>
  match k with
  | .nil=>rfl
  | .cons _ _ _ _ .nil=>rfl
  | .cons _ n1 a1 k1 (.cons _ n2 a2 k2 x)=>simp only[hd];rw[if_neg h]
theorem BX:(Tryz.prog.info? 29).map (fun i=>(i.zero,i.size,i.bytes))=some (some (.slice none 0 0),1,24):=by kernel_rfl
def GT:Value->Nat
 | .slice _ n _=>n
 | _=>0
def SD (zs:List Int) (v:Int):Int:=if (zs.length:Int)<=v then 0 else zs.getD (zs.length-1-v.toNat) 0
def SC (zs:List Int) (x:TT):Bool:=(hd (aW x).length x).1.1.op==1&&SD zs (hd (aW x).length x).1.1.a==2
def gC (b:Bool) (w:World) (e:Ending) (w':World):Prop:=e=.returned (.bool b)/\Below w.heap.size w w'
def cI:Fo->List TT
 | .nil=>[]
 | .cons _ n a k x=>(n,a,k)::cI x
def GH (rec_:List Int->TT->Bool):Nat->List Int->TT->Bool
 | 0,zs,y=>rec_ zs y
 | n+1,zs,(nd,a,.cons p n1 a1 k1 (.cons q n2 a2 k2 r))=>if nd.op=5 then rec_ zs (n1,a1,k1)&&GH rec_ n (zs++[2]) (n2,a2,k2) else rec_ zs (nd,a,.cons p n1 a1 k1 (.cons q n2 a2 k2 r))
 | _+1,zs,y=>rec_ zs y
def R7 (zs:List Int) (x:TT):Bool :=
 let q:=hd (aW x).length x
 let m:=if q.1.1.op=1 then SD zs q.1.1.a else 0
 m==2||(m==1&&q.2.isEmpty)
def wF (rec_:List Int->TT->Bool) (ca:Nat->Nat) (zs:List Int):Nat->List TT->Bool
 | _,[]=>true
 | k,y::ys=>GH rec_ (ca k) zs y&&wF rec_ ca zs (k+1) ys
def MV (rec_:List Int->TT->Bool) (zs zu:List Int):List TT->Bool
 | ty::bd::r=>rec_ zs ty&&(rec_ zu bd&&MV rec_ zs zu r)
 | _=>true
def mJ (places:List Int) (ca:Int->Nat->Nat):Nat->List Int->TT->Bool
 | 0,_,_=>true
 | f+1,zs,x =>
  let q:=hd (aW x).length x
  let n:=q.1.1
  q.2.all (mJ places ca f zs) &&
  (if n.op=1 then (if SD zs n.a<100 then true else (match q.2[(places.getD (SD zs n.a-100).toNat 0).toNat]? with | some y=>SC zs y | none=>false))
   else if n.op=11 then (match cI q.1.2.2 with
    | mo::sc::br=>(mJ places ca f zs mo&&mJ places ca f zs sc)&&wF (mJ places ca f) (fun k=>if R7 zs sc then ca n.a k else 0) zs 0 br
    | _=>true)
   else if n.op=4\/n.op=5 then (match cI q.1.2.2 with
    | a::b::_=>mJ places ca f zs a&&mJ places ca f (zs++[0]) b
    | _=>true)
   else if n.op=7 then (match cI q.1.2.2 with
    | a::b::c::_=>(mJ places ca f zs a&&mJ places ca f zs b)&&mJ places ca f (zs++[0]) c
    | _=>true)
   else if n.op=12 then MV (mJ places ca f) zs (zs++List.replicate n.b.toNat 0) (cI q.1.2.2)
   else true)

structure SS (t:List Nd) (n:Nd) (x y:TT):Prop where
 fst:II x
 snd:II y
 eq:t=n::(aW x++aW y)
 end_:mC t 1=((1+(aW x).length:Nat):Int)
theorem KN {n:Nd} {a:List Nd} {k:Fo} (h:II (n,a,k)) (h6:n.op=4\/n.op=5\/n.op=6) : ∃n1 a1 k1 n2 a2 k2,k=.cons [] n1 a1 k1 (.cons [] n2 a2 k2 .nil)/\a=[]/\SS (aW (n,a,k)) n (n1,a1,k1) (n2,a2,k2):=by
 obtain⟨a6,a0,hw⟩:=Rt.wf h;simp only at a6 a0 hw;have ha:a=[]:=by
  unfold iR at a0
  rwa [if_neg aA] at a0
 have a7:ds n=[false,false]:=by
  unfold ds;rw[if_neg aA];rcases h6 with h6 | h6 | h6<;>rw[h6]<;>rfl
 rw[a7] at hw
 match k,hw with
 | .cons p1 n1 a1 k1 (.cons p2 n2 a2 k2 .nil),hw =>
  obtain⟨a4,o1,t1,w1,a3,o2,t2,w2,_⟩:=hw;simp only at a4 a3;subst a4 a3 ha;have hr:aW (n,[],Fo.cons [] n1 a1 k1 (.cons [] n2 a2 k2 .nil))=n::(aW (n1,a1,k1)++aW (n2,a2,k2)):=by simp[row,aW]
  have hl:=Rt.few h;rw[hr] at hl;simp only[List.length_cons,List.length_append] at hl;have f1:II (n1,a1,k1):=nV o1 t1 w1 (by show (n1::(a1++row k1)).length<=4096;simp only[aW] at hl;omega);have f2:II (n2,a2,k2):=nV o2 t2 w2 (by show (n2::(a2++row k2)).length<=4096;simp only[aW] at hl;omega);refine⟨n1,a1,k1,n2,a2,k2,rfl,rfl,f1,f2,hr,?_⟩;have he:=mH (aW (n,[],Fo.cons [] n1 a1 k1 (.cons [] n2 a2 k2 .nil))) 1;rw[show ((1:Nat):Int)=1 from rfl] at he;rw[he];have a5:=kA (.cons [] n1 a1 k1 .nil) [false] (aW (n2,a2,k2)) ⟨rfl,o1,t1,w1,trivial⟩;have hd:(aW (n,[],Fo.cons [] n1 a1 k1 (.cons [] n2 a2 k2 .nil))).drop 1=row (.cons [] n1 a1 k1 .nil)++aW (n2,a2,k2):=by rw[hr];simp[row,aW]
  unfold ends;rw[hd,a5];simp only[Option.map_some,pW];rw[hr];simp only[List.length_cons,List.length_append];omega
theorem GZ {w:World} {base n c:Nat} {A:Option Addr} {e:TypeId} {z:Nat} {xs:List Value} (h:w.ownsRow base e z (.slice A n c) n xs):A=none->c=0:=by
 intro hA;rcases h.2 with⟨hv,_⟩ | ⟨g,cap,cur,hv,_⟩
 · injection hv
 injection hv with e1;rw[hA] at e1;cases e1
def NT:Nat->TT->Bool
 | 0,(n,_,.cons _ n1 a1 k1 (.cons _ _ _ _ _))=>if n.op=4 then (hd (aW (n1,a1,k1)).length (n1,a1,k1)).1.1.op==9 else false
 | p+1,(n,_,.cons _ _ _ _ (.cons _ n2 a2 k2 _))=>if n.op=4 then NT p (n2,a2,k2) else false
 | _,_=>false
def QA (rec_:List Int->TT->Bool):Nat->List Int->TT->Bool
 | 0,zs,y=>rec_ zs y
 | r+1,zs,(n,_,.cons _ n1 a1 k1 (.cons _ n2 a2 k2 _))=>if n.op=5 then rec_ zs (n1,a1,k1)&&QA rec_ r (zs++[if r=0 then 1 else 0]) (n2,a2,k2) else false
 | _+1,_,_=>false
structure At (t:List Nd) (p:Nat) (dl:List Bool) (F:Fo):Prop where
 wf:Wf dl F
 few:t.length<=4096
 le:p<=t.length
 rest:t.drop p=row F
structure TD (t:List Nd) (p:Nat) (d:Bool) (dr:List Bool) (pre:List Nd) (y:TT) (nx:Fo):Prop where
 plen:pre.length=if d then 1 else 0
 fun_:d=true->∃f,pre=[f]/\vI f=true/\bD t p=f
 rt:II y
 end_:mC t ((p+pre.length:Nat):Int)=((p+pre.length+(aW y).length:Nat):Int)
 cut:(t.take (p+pre.length+(aW y).length)).drop (p+pre.length)=aW y
 le:p+pre.length+(aW y).length<=t.length
 next:At t (p+pre.length+(aW y).length) dr nx
theorem At.first {n:Nd} {a:List Nd} {k:Fo} (h:II (n,a,k)) (h2:n.op ≠ 2):At (aW (n,a,k)) 1 (ds n) k:=by
 obtain⟨_,a0,hw⟩:=Rt.wf h;simp only at a0 hw;have ha:a=[]:=by
  unfold iR at a0
  rwa [if_neg h2] at a0
 subst ha;exact⟨hw,Rt.few h,by simp[aW],by simp[aW]⟩
theorem vQ {t:List Nd} {p:Nat} {f:Nd} {r:List Nd} (h:t.drop p=f::r):bD t p=f:=by
 have:bD (t.drop p) 0=f:=by rw[h];rfl
 rwa [mQ,Nat.add_zero] at this
theorem At.step {t:List Nd} {p:Nat} {d:Bool} {dr:List Bool} {F:Fo} (h:At t p (d::dr) F) : ∃pre n a k nx,F=.cons pre n a k nx/\TD t p d dr pre (n,a,k) nx:=by
 obtain⟨hw,hf,a7,hr⟩:=h
 match F,hw with
 | .cons pre n a k nx,hw =>
  obtain⟨hp,a2,a3,hk,hx⟩:=hw;refine⟨pre,n,a,k,nx,rfl,?_⟩;have a0:t.drop p=pre++(aW (n,a,k)++row nx):=by rw[hr];simp[row,aW]
  have hl:=congrArg List.length a0;rw[List.length_drop,List.length_append,List.length_append] at hl;have a1:t.drop (p+pre.length)=aW (n,a,k)++row nx:=by rw[<-List.drop_drop,a0,List.drop_left]
  have a6:t.drop (p+pre.length+(aW (n,a,k)).length)=row nx:=by rw[<-List.drop_drop,a1,List.drop_left]
  have a5:0<(aW (n,a,k)).length:=by simp[aW]
  refine⟨?_,?_,?_,?_,?_,by omega,⟨hx,hf,by omega,a6⟩⟩
  · cases d with
    | false=>simp only at hp;subst hp;rfl
    | true=>obtain⟨f,rfl,_⟩:=hp;rfl
  · rintro rfl;obtain⟨f,rfl,hf⟩:=hp;exact⟨f,rfl,hf,vQ a0⟩
  · exact nV a2 a3 hk (by show (aW (n,a,k)).length<=4096;omega)
  · rw[mH];have a4:=kA (.cons [] n a k .nil) [false] (row nx) ⟨rfl,a2,a3,hk,trivial⟩;unfold ends;rw[a1,show aW (n,a,k)=row (.cons [] n a k .nil) from by simp[row,aW],a4];simp only[Option.map_some,pW];have e:(row (Fo.cons [] n a k .nil)).length=(aW (n,a,k)).length:=by simp[row,aW]
    rw[e]
    congr 1
    omega
  · rw[List.drop_take,a1,show p+pre.length+(aW (n,a,k)).length-(p+pre.length)=(aW (n,a,k)).length from by omega,List.take_left]
theorem At.done {t:List Nd} {p:Nat} {F:Fo} (h:At t p [] F):F=.nil:=by
 obtain⟨hw,_⟩:=h
 match F,hw with
 | .nil,_=>rfl
end




def QU:Nat->List Bool
 | 0=>[]
 | r+1=>true::false::QU r
theorem BG:∀r:Nat,(List.replicate r [true,false]).flatten=QU r
 | 0=>rfl
 | r+1=>by rw[List.replicate_succ,List.flatten_cons,BG r];rfl
theorem QV {n:Nd} {nb:Nat} (h:n.op=12) (hb:n.b=(nb:Int)):ds n=QU nb:=by
 unfold ds;rw[if_pos h,hb,Int.toNat_natCast,BG]
theorem yK:∀(r:Nat) {t:List Nd} {p:Nat} {F:Fo},At t p (QU r) F->p+3*r<=t.length
 | 0,t,p,F,h=>by have:=h.le;omega
 | r+1,t,p,F,h=>by
  obtain⟨pre1,n1,a1,k1,nx1,rfl,s1⟩:=h.step;obtain⟨pre2,n2,a2,k2,nx2,rfl,s2⟩:=s1.next.step;have h1:=yK r s2.next;have e1:pre1.length=1:=s1.plen;have e2:pre2.length=0:=s2.plen;have l1:0<(aW (n1,a1,k1)).length:=by simp[aW]
  have l2:0<(aW (n2,a2,k2)).length:=by simp[aW]
  omega
section

def SJ:List TT->List TT
 | a::_::r=>a::SJ r
 | _=>[]
def R5:List TT->List TT
 | _::b::r=>b::R5 r
 | _=>[]
def MB (rec_:List Int->TT->Bool) (zs:List Int):List Int->List TT->List TT->Bool
 | p::pl,t::ts,b::bs=>(NT p.toNat t&&QA rec_ (p.toNat+1) zs b)&&MB rec_ zs pl ts bs
 | _,_,_=>true
def lW (k:Fo):List Int:=(cO k).map (·.a)
def Q3 (n:Nat):List Int:=(List.range n).map fun j:Nat=>(100:Int)+(j:Int)
def Q0 (ca:Int->Nat->Nat) (m:Nat) (x:TT):Bool :=
 MB (mJ (lW x.2.2) ca m) (Q3 x.1.b.toNat) (lW x.2.2) (SJ (cI x.2.2)) (R5 (cI x.2.2))
def iG (e:Int) (w:World) (en:Ending) (w':World):Prop:=en=.returned (.int .i64 e)/\Below w.heap.size w w'
theorem G9:∀{k:Fo} {y:TT},y ∈ cI k->∀m ∈ aW y,m ∈ row k
 | .nil,y,h,_,_=>by cases h
 | .cons p n a k x,y,h,m,hm=>by
  rw[show cI (.cons p n a k x)=(n,a,k)::cI x from rfl] at h;simp only[row];rcases List.mem_cons.1 h with rfl | h
  · simp only[aW,List.mem_cons,List.mem_append] at hm ⊢;rcases hm with rfl | hm | hm
    · exact .inr (.inl rfl)
    · exact .inr (.inr (.inl hm))
    exact .inr (.inr (.inr (.inl hm)))
  · have:=G9 h m hm;simp only[List.mem_cons,List.mem_append];exact .inr (.inr (.inr (.inr this)))
theorem QD:(Tryz.prog.info? 3).map (fun i=>(i.zero,i.size,i.bytes))=some (some (.int .i64 0),1,8):=by kernel_rfl
theorem E2 (n:Nat):madeCells #[Value.int .i64 0] n=(List.replicate n (Value.int .i64 0)).toArray:=by
 apply Array.ext
 · simp[madeCells]
 intro i h1 h2;simp[madeCells,Nat.mod_one]
end
structure gI (R:Nat->Prop) (w:World) (A:Option Addr) (n c:Nat) (ls:List (List Nd)):Prop where
 len:ls.length=n
 few:n<=5864062014805
 mem:0<n->∃b off,A=some ⟨b,off,none⟩/\R b/\∀k,k<n->∃A' n' c',w.cell? ⟨b,off+k,none⟩=some (.slice A' n' c')/\bJ R w A' n' c' (ls.getD k [])
theorem gI.keep {R R':Nat->Prop} {w w':World} {A:Option Addr} {n c:Nat} {ls:List (List Nd)} (h:gI R w A n c ls) (hR:∀b,R b->R' b/\∀o,w'.cell? ⟨b,o,none⟩=w.cell? ⟨b,o,none⟩):gI R' w' A n c ls:=by
 refine⟨h.len,h.few,fun hn => ?_⟩;obtain⟨b,off,e,hb,hk⟩:=h.mem hn;refine⟨b,off,e,(hR b hb).1,fun k hkn => ?_⟩;obtain⟨A',n',c',hc,ht⟩:=hk k hkn;exact⟨A',n',c',by rw[(hR b hb).2];exact hc,ht.keep hR⟩
def bS (S:Nat->Prop) (w:World):List Value->List (List Nd)->Prop
 | [],[]=>True
 | x::xs,l::ls=>(∃A n c,x=.slice A n c/\bJ S w A n c l)/\bS S w xs ls
 | _,_=>False
theorem bS.keep {S S':Nat->Prop} {w w':World} (hS:∀b,S b->S' b/\∀o,w'.cell? ⟨b,o,none⟩=w.cell? ⟨b,o,none⟩) : ∀{xs:List Value} {ls:List (List Nd)},bS S w xs ls->bS S' w' xs ls
 | [],[],_=>trivial
 | [],_::_,h=>h.elim
 | _::_,[],h=>h.elim
 | x::xs,l::ls,h=>by
  obtain⟨⟨A,n,c,e,ht⟩,h2⟩:=h;exact⟨⟨A,n,c,e,ht.keep hS⟩,h2.keep hS⟩
theorem bS.add {S:Nat->Prop} {w:World} {A:Option Addr} {n c:Nat} {m:List Nd} (ht:bJ S w A n c m) : ∀{xs:List Value} {ls:List (List Nd)},bS S w xs ls->bS S w (xs++[.slice A n c]) (ls++[m])
 | [],[],_=>⟨⟨A,n,c,rfl,ht⟩,trivial⟩
 | [],_::_,h=>h.elim
 | _::_,[],h=>h.elim
 | _::_,_::_,h=>⟨h.1,h.2.add ht⟩
theorem bS.len {S:Nat->Prop} {w:World} : ∀{xs:List Value} {ls:List (List Nd)},bS S w xs ls->xs.length=ls.length
 | [],[],_=>rfl
 | [],_::_,h=>h.elim
 | _::_,[],h=>h.elim
 | x::xs,l::ls,h=>by simp[bS.len h.2]
theorem bS.at_ {S:Nat->Prop} {w:World} : ∀{xs:List Value} {ls:List (List Nd)} (k:Nat),bS S w xs ls->k<ls.length->∃A n c,xs[k]? = some (.slice A n c)/\bJ S w A n c (ls.getD k [])
 | [],[],_,_,hk=>absurd hk aD
 | [],_::_,_,h,_=>h.elim
 | _::_,[],_,h,_=>h.elim
 | x::xs,l::ls,0,h,_=>by
  obtain⟨⟨A,n,c,e,ht⟩,_⟩:=h;exact⟨A,n,c,by simp[e],ht⟩
 | x::xs,l::ls,k+1,h,hk=>by
  obtain⟨A,n,c,e,ht⟩:=bS.at_ k h.2 (by simpa using hk);exact⟨A,n,c,by simpa using e,by simpa using ht⟩
theorem MS {w:World} {base n c:Nat} {A:Option Addr} {xs:List Value} {ls:List (List Nd)} {S:Nat->Prop} (h:w.ownsRow base 29 1 (.slice A n c) n xs) (hn:n=ls.length) (hf:n<=5864062014805) (hr:bS S w xs ls) (hS:∀b,S b->b<w.heap.size):gI (· < w.heap.size) w A n c ls:=by
 refine⟨hn.symm,hf,fun hpos => ?_⟩;have h0:=h;obtain⟨_,a0⟩:=h;rcases a0 with⟨_,h2⟩ | ⟨g,cap',cur,hv,hg,hh,_⟩
 · omega
 injection hv with e1 e2 e3;subst e1;refine⟨g,0,rfl,(aU h0 rfl).2.1,fun k hk => ?_⟩;obtain⟨A',n',c',hx,ht⟩:=hr.at_ k aA;refine⟨A',n',c',?_,ht.keep fun b hb=>⟨hS b hb,fun _=>rfl⟩⟩;rw[Nat.zero_add,h0.cellAt k aA];exact hx
def iS (B:Nat) (w:World) (v:Value) (b:Nat):Prop:=B<=b/\b<w.heap.size/\v.ownBlock ≠ some b
theorem nN {w:World} {base n c:Nat} {A:Option Addr} {xs:List Value} {ls:List (List Nd)} {S R:Nat->Prop} (h:w.ownsRow base 29 1 (.slice A n c) n xs) (hn:n=ls.length) (hf:n<=5864062014805) (hr:bS S w xs ls) (hS:∀b,S b->R b) (hv:∀g,(Value.slice A n c).ownBlock=some g->R g):gI R w A n c ls:=by
 refine⟨hn.symm,hf,fun hpos => ?_⟩;have h0:=h;obtain⟨_,a0⟩:=h;rcases a0 with⟨_,h2⟩ | ⟨g,cap',cur,a1,hg,hh,_⟩
 · omega
 injection a1 with e1 e2 e3;subst e1;refine⟨g,0,rfl,hv g rfl,fun k hk => ?_⟩;obtain⟨A',n',c',hx,ht⟩:=hr.at_ k aA;refine⟨A',n',c',?_,ht.keep fun b hb=>⟨hS b hb,fun _=>rfl⟩⟩;rw[Nat.zero_add,h0.cellAt k aA];exact hx
end Go.Proofs.YtjoddliplahgkaaGreat
