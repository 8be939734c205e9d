/- Merged: LiftP, TermP, TermP2, TermP3, TermP4, Parts0, KidsD, Parts1, Clone, Count, Parts, Kids. -/
import Derived.Test.YtjoddliplahgkaaGreatPSubst
import Derived.Test.YtjoddliplahgkaaGreatPRowsD
namespace Go.Proofs.YtjoddliplahgkaaGreat
set_option linter.unusedVariables false
set_option linter.unusedSimpArgs false
open Go.RowKit
open Go.Value renaming int → O, slice → X
open Go.IntKind renaming i64 → S
open Option renaming none → Y, some → Z
open Go.Obj renaming cells → I
open Go.Lib renaming hid->aB
set_option maxHeartbeats 4000000
set_option maxRecDepth 100000
def kK (up:Int) (n:Nd) (f:Int):Nd:=if n.op=1/\f<=n.a then ⟨1,n.a+up,0⟩ else n
def rG (n:Nd) (a:List Nd) (f:Int):List Nd:=if n.op=1/\f<=n.a then [] else a
def G7 (pop pb up:Int):Nat->Int->Fo->Fo
 | _,_,.nil=>.nil
 | j,f,.cons p n a k x=>.cons p (kK up n (f+aR pop pb j)) (rG n a (f+aR pop pb j)) (if n.op=1/\f+aR pop pb j<=n.a then .nil else G7 n.op n.b up 0 (f+aR pop pb j) k) (G7 pop pb up (j+1) f x)
def rH (up:Int) (n:Nd) (k:Fo) (f:Int):Fo:=if n.op=1/\f<=n.a then .nil else G7 n.op n.b up 0 f k
theorem lF (pop pb up:Int) (j:Nat) (f:Int) (p:List Nd) (n:Nd) (a:List Nd) (k x:Fo):G7 pop pb up j f (.cons p n a k x)=.cons p (kK up n (f+aR pop pb j)) (rG n a (f+aR pop pb j)) (rH up n k (f+aR pop pb j)) (G7 pop pb up (j+1) f x):=rfl
theorem BQ (pop pb up:Int) : ∀(j:Nat) (f:Int) (F:Fo),bF (G7 pop pb up j f F)=bF F
 | _,_,.nil=>rfl
 | j,f,.cons p n a k x=>by rw[lF];simp only[bF,BQ pop pb up (j+1) f x]
theorem xG (pop pb up:Int) : ∀(j:Nat) (f:Int) (F:Fo),cO (G7 pop pb up j f F)=cO F
 | _,_,.nil=>rfl
 | j,f,.cons p n a k x=>by rw[lF];simp only[cO,xG pop pb up (j+1) f x]
theorem G8 (pop pb up:Int) : ∀(j:Nat) (f:Int) (F G:Fo),G7 pop pb up j f (F.app G)=(G7 pop pb up j f F).app (G7 pop pb up (j+bF F) f G)
 | _,_,.nil,G=>by simp[Fo.app,G7,bF]
 | j,f,.cons p n a k x,G=>by
  have:=G8 pop pb up (j+1) f x G;rw[show (Fo.cons p n a k x).app G=.cons p n a k (x.app G) from rfl,lF,lF,this];simp only[Fo.app,bF];rw[show j+1+bF x=j+(bF x+1) from by omega]
def bB (R:Nat->Prop) (w w':World) (b:Nat):Prop:=R b\/fJ w w' b
def eZ (R:Nat->Prop) (w:World) (n:Nd) (ats:List Nd) (ks:Fo) (e:Ending) (w':World):Prop:=Below w.heap.size w w'/\∃ys,e=.returned (.agg ys.toArray)/\cR (bB R w w') w' ys n ats ks
def nD (R:Nat->Prop) (B:Nat) (w:World) (u:Value) (b:Nat):Prop:=(R b\/(B<=b/\b<w.heap.size))/\u.ownBlock ≠ Z b
theorem wQ {R:Nat->Prop} {B0 B:Nat} {wr V w2 W w' wf:World} {e1:TypeId} {s1 n1:Nat} {u:Value} {x1:List Value} {F:Fo} {xs ys:List Value} {nd:Nd} {ats:List Nd} {ks:Fo} {pre:List Nd} {A':Option Addr} {m c':Nat} {zs:List Value}
 (hfc:kP (nD R B wr u) wr F xs) (ht:cR (bB R V w2) w2 ys nd ats ks) (hV:wr.heap.size<=V.heap.size) (hb:Below wr.heap.size wr w2) (hB:B<=wr.heap.size) (hR:∀b,R b->b<B0) (hB0:B0<=B)
 (h1:wr.ownsRow B e1 s1 u n1 x1) (hW:Below w2.heap.size w2 W) (hap:fD W w' B e1 s1 u A' m c' zs)
 (hwf:∀b,b<B0\/B<=b->∀o,wf.cell? ⟨b,o,Y⟩=w'.cell? ⟨b,o,Y⟩) (hws:wf.heap.size=w'.heap.size) :
 kP (nD R B wf (X A' m c')) wf (F.app (.cons pre nd ats ks .nil)) (xs++ys):=by
 have a8:=hW.size;have a7:=hb.size;have a6:=hap.grown.size;have a0:∀b,b<w2.heap.size->(b<B0\/B<=b)->u.ownBlock ≠ Z b->∀o,wf.cell? ⟨b,o,Y⟩=w2.cell? ⟨b,o,Y⟩:=fun b a1 hb2 a4 o=>by
  rw[hwf b hb2 o,World.cell?_of_block (w:=W) (hap.grown.block b aA (fun e=>a4 e.symm)),hW.cell (p:=⟨b,o,Y⟩) a1]
 have a2:∀b,b<w2.heap.size->u.ownBlock ≠ Z b->(Value.slice A' m c').ownBlock ≠ Z b:=fun b a1 hb2 e=>by
  rcases hap.new b e with e | e
  · exact hb2 e
  omega
 refine kP.app F _ xs ys (kP.keep ?_ F xs hfc) ?_
 · rintro b ⟨a1,a4⟩;have a3:b<wr.heap.size:=by
    rcases a1 with h | h
    · have:=hR b h;omega
    exact h.2
   have a5:b<B0\/B<=b:=by
    rcases a1 with h | h
    · exact .inl (hR b h)
    exact .inr h.1
   refine⟨⟨a1.imp id (fun h=>⟨h.1,by omega⟩),a2 b aA a4⟩,fun o => ?_⟩;rw[a0 b aA a5 a4,hb.cell (p:=⟨b,o,Y⟩) a3]
 refine⟨ys,[],by simp,ht.keep ?_,rfl⟩;intro b hm;have hu:u.ownBlock ≠ Z b:=fun e=>by
  have h2:=aU h1 e;rcases hm with h | ⟨h,_⟩
  · have:=hR b h;omega
  omega
 have a3:b<w2.heap.size:=by
  rcases hm with h | ⟨_,h⟩
  · have:=hR b h;omega
  exact h
 have a5:b<B0\/B<=b:=by
  rcases hm with h | ⟨h,_⟩
  · exact .inl (hR b h)
  exact .inr aA
 refine⟨⟨?_,a2 b a3 hu⟩,a0 b a3 a5 hu⟩;rcases hm with h | ⟨h,h'⟩
 · exact .inl h
 exact .inr ⟨by omega,by omega⟩


def Vk:Fo->Prop
 | .nil=>True
 | .cons _ n ats k x=>eN n=true/\(n.op=1->ats=[]/\k=.nil)/\Vk k/\Vk x
theorem QW {n:Nd} (h:n.op=1):ds n=[]:=by simp[ds,dY,h]
theorem AF {n:Nd} {ats:List Nd} {k:Fo} (h1:iR n ats) (h2:Wf (ds n) k) (h:n.op=1):ats=[]/\k=.nil:=by
 rw[QW h] at h2;constructor
 · unfold iR at h1;rw[if_neg aA] at h1;exact h1
 cases k with
 | nil=>rfl
 | cons _ _ _ _ _=>exact h2.elim
theorem qJ:∀(F:Fo) (dl:List Bool),Wf dl F->Vk F
 | .nil,_,_=>trivial
 | .cons _ _ _ _ _,[],h=>h.elim
 | .cons p n ats k x,d::dr,h=>by
  obtain⟨_,a0,a1,hk,hx⟩:=h;exact⟨a0,AF a1 hk,qJ k _ hk,qJ x _ hx⟩
theorem N3 {n:Nd} (hok:eN n=true) (h:n.op=1):0<=n.a/\n.a<=1048576/\n.b=0:=by
 simp only[eN,Bool.and_eq_true] at hok;have:=hok.1.1;rw[h] at this;simpa[cD] using this
theorem zL:∀(F:Fo),(∀m i,i % 2=0->Wf ((List.replicate m [true,false]).flatten) F->gD true i F)/\(∀m i,i % 2=1->Wf (false::(List.replicate m [true,false]).flatten) F->gD true i F)/\(∀m i,Wf (List.replicate m false) F->gD false i F)
 | .nil=>⟨fun _ _ _ _=>trivial,fun _ _ _ _=>trivial,fun _ _ _=>trivial⟩
 | .cons p n ats k x=>by
  have hk:=zL k;have hx:=zL x;have kid:Wf (ds n) k->gD (decide (n.op=12)) 0 k:=fun h=>by
   unfold ds at h;by_cases h12:n.op=12
   · rw[if_pos h12] at h;rw[decide_eq_true h12];exact hk.1 _ 0 rfl h
   rw[if_neg h12] at h;rw[decide_eq_false h12];exact hk.2.2 _ 0 h
  refine⟨fun m i hi h => ?_,fun m i hi h => ?_,fun m i h => ?_⟩
  · cases m with
    | zero=>exact h.elim
    | succ m =>
     simp only[List.replicate_succ,List.flatten_cons,List.cons_append,List.nil_append] at h;obtain⟨⟨f,hp,_⟩,_,_,a1,a0⟩:=h;exact⟨by rw[hp];simp[hi],kid a1,hx.2.1 m (i+1) aA a0⟩
  · obtain⟨hp,_,_,a1,a0⟩:=h;simp only at hp;exact⟨by rw[hp];simp[hi],kid a1,hx.1 m (i+1) aA a0⟩
  · cases m with
    | zero=>exact h.elim
    | succ m =>
     rw[List.replicate_succ] at h;obtain⟨hp,_,_,a1,a0⟩:=h;simp only at hp;exact⟨by rw[hp];simp,kid a1,hx.2.2 m (i+1) a0⟩
theorem xD {n:Nd} {k:Fo} (h:Wf (ds n) k):gD (decide (n.op=12)) 0 k:=by
 have hk:=zL k;unfold ds at h;by_cases h12:n.op=12
 · rw[if_pos h12] at h;rw[decide_eq_true h12];exact hk.1 _ 0 rfl h
 rw[if_neg h12] at h;rw[decide_eq_false h12];exact hk.2.2 _ 0 h
theorem E0 (m x y:Int):decide (m<=max x y)=(decide (m<=x)||decide (m<=y)):=by
 rw[<-Bool.decide_or];exact decide_eq_decide.2 aA
theorem GQ {m a:Int} (hm:0<=m) {n:Nd} {k:Fo} (h1:n.op=1->k=.nil) (ih:decide (m<=JF n.op n.b 0 a k)=oD (fun v z=>decide (m<=v-z)) n.op n.b 0 a k):decide (m<=qX n k a)=oI (fun v z=>decide (m<=v-z)) a n k:=by
 unfold qX oI;by_cases h:n.op=1
 · rw[if_pos h,h1 h,decide_eq_true h];simp only[oD,Bool.or_false,Bool.true_and];exact decide_eq_decide.2 aA
 rw[if_neg h,decide_eq_false h,ih];simp
theorem ES {m:Int} (hm:0<=m) (pop pb:Int) : ∀(j:Nat) (a:Int) (F:Fo),Vk F->decide (m<=JF pop pb j a F)=oD (fun v z=>decide (m<=v-z)) pop pb j a F
 | _,_,.nil,_=>decide_eq_false (by simp only[JF];omega)
 | j,a,.cons p n ats k x,h=>by
  rw[tK,eJ,E0,ES hm pop pb (j+1) a x h.2.2.2,GQ hm (fun q=>(h.2.1 q).2) (ES hm n.op n.b 0 _ k h.2.2.1)]
theorem CU {up fr a:Int} {n:Nd} {ats:List Nd} {k:Fo} (hok:eN n=true) (h1:n.op=1->ats=[]/\k=.nil) (ih:G7 n.op n.b up 0 (fr+a) k=sJ up fr n.op n.b 0 a k):kK up n (fr+a)=xI up fr n a/\rG n ats (fr+a)=ats/\rH up n k (fr+a)=sJ up fr n.op n.b 0 a k:=by
 unfold kK xI rG rH;by_cases h:n.op=1/\fr+a<=n.a
 · rw[if_pos h,if_pos h,if_pos h,if_pos h];have:=N3 hok h.1;refine⟨by rw[h.1,this.2.2],(h1 h.1).1.symm,by rw[(h1 h.1).2];rfl⟩
 rw[if_neg h,if_neg h,if_neg h,if_neg h];exact⟨rfl,rfl,ih⟩
theorem FG (up fr:Int) (pop pb:Int) : ∀(j:Nat) (a:Int) (F:Fo),Vk F->G7 pop pb up j (fr+a) F=sJ up fr pop pb j a F
 | _,_,.nil,_=>rfl
 | j,a,.cons p n ats k x,h=>by
  have h1:=CU (up:=up) (fr:=fr) (a:=a+aR pop pb j) h.1 h.2.1 (FG up fr n.op n.b 0 _ k h.2.2.1);rw[lF,Int.add_assoc,h1.1,h1.2.1,h1.2.2,FG up fr pop pb (j+1) a x h.2.2.2];rfl
section
section
variable {l : List Nd} {n : Nd} {ats : List Nd} {k : Fo}
theorem rK (hs:a8 l=0) (hpp:pp [false] l=Z (.cons [] n ats k .nil,[])):eN n=true/\(n.op=1->ats=[]/\k=.nil)/\Vk k/\dC k/\gD (decide (n.op=12)) 0 k/\l=n::(ats++row k)/\l.length<=4096/\aX k<=4096:=by
 obtain⟨hl,n',ats',k',a0,a1,a3⟩:=fB hs;rw[hpp] at a0;injection a0 with e;injection e with e1 _;injection e1 with _ e2 e3 e4 _;subst e2 e3 e4;have hw:=iP hpp;have a5:=pZ hpp;obtain⟨_,a2,a4,hk,_⟩:=hw;exact⟨a2,AF a4 hk,qJ _ _ hk,a5.2.1,xD hk,a1,hl,a3⟩
theorem DZ (hs:a8 l=0) (hpp:pp [false] l=Z (.cons [] n ats k .nil,[])) (v:Int):fS l v=(decide (qX n k 0<0)||decide (qX n k 0<v)):=by
 obtain⟨a0,hv,hk,_⟩:=rK hs hpp;have h:=GQ (m:=max v 0) (a:=0) aA (fun q=>(hv q).2) (ES aA n.op n.b 0 0 k hk);unfold fS RM;rw[hpp,decide_eq_true hs];simp only;rw[<-h,Bool.true_and,<-Bool.decide_or,<-decide_not];exact decide_eq_decide.2 aA
end
end
theorem tQ {l:List Nd} {p:Nat} {d:Bool} {dr:List Bool} {pre:List Nd} {nd:Nd} {a:List Nd} {ks x:Fo} (hw:Wf (d::dr) (.cons pre nd a ks x)) (hl:l.drop p=row (.cons pre nd a ks x)) (hp:p<=l.length) :
 ∃q,ends [false] l (p+pre.length)=Z q/\l.drop q=row x/\p+pre.length<=q/\q<=l.length/\(l.take q).drop (p+pre.length)=row (.cons [] nd a ks .nil):=by
 obtain⟨_,a4,a5,hk,hx⟩:=hw;have hd:l.drop (p+pre.length)=row (.cons [] nd a ks .nil)++row x:=by
  rw[<-List.drop_drop,hl];simp[row]
 have a2:Wf [false] (.cons [] nd a ks .nil):=⟨rfl,a4,a5,hk,trivial⟩;have a3:=kA _ _ (row x) a2;have a1:=congrArg List.length hl;rw[List.length_drop] at a1;have a0:(row (.cons pre nd a ks x)).length=pre.length+((row (.cons [] nd a ks .nil)).length+(row x).length):=by
  simp[row];omega
 rw[a0] at a1;refine⟨p+pre.length+(row (.cons [] nd a ks .nil)).length,?_,?_,by omega,by omega,?_⟩
 · unfold ends;rw[hd,a3];simp only[Option.map_some]
   congr 1
   omega
 · rw[<-List.drop_drop,hd];simp
 rw[List.drop_take,hd];have:p+pre.length+(row (.cons [] nd a ks .nil)).length-(p+pre.length)=(row (.cons [] nd a ks .nil)).length:=aA;rw[this];simp
def sC (l:List Nd):Nd×Fo:=if a8 l=0 then (match pp [false] l with | some (.cons _ n _ k _,_)=>(n,k) | _=>(⟨0,0,0⟩,.nil)) else (⟨0,0,0⟩,.nil)
def N8 (pop pb:Int):Nat->Fo->List Int
 | _,.nil=>[]
 | j,.cons _ _ _ _ x=>aR pop pb j::N8 pop pb (j+1) x
theorem GC (pop pb:Int) : ∀(j:Nat) (F G:Fo),N8 pop pb j (F.app G)=N8 pop pb j F++N8 pop pb (j+bF F) G
 | _,.nil,G=>by simp[Fo.app,N8,bF]
 | j,.cons p n a k x,G=>by
  simp only[Fo.app,N8,bF,List.cons_append];rw[GC pop pb (j+1) x G,show j+1+bF x=j+(bF x+1) from by omega]
def i7:Fo->List (List Nd)
 | .nil=>[]
 | .cons _ n a k x=>row (.cons [] n a k .nil)::i7 x
theorem xN:∀(F G:Fo),i7 (F.app G)=i7 F++i7 G
 | .nil,G=>rfl
 | .cons p n a k x,G=>by simp only[Fo.app,i7,List.cons_append,xN x G]
theorem xO:∀(F:Fo),(i7 F).length=bF F
 | .nil=>rfl
 | .cons p n a k x=>by simp only[i7,bF,List.length_cons,xO x]
structure KX (g:Nat) (A:Option Addr) (n c p j:Nat) (A1:Option Addr) (k1:Nat) (A2:Option Addr) (k2:Nat) (xs1 xs2:List Value) (w:World):Prop where
 bt:aS w g 29 #[X A n c]
 bo:aS w (g+2) 47 #[X A1 j k1]
 br:aS w (g+3) 144 #[X A2 j k2]
 ba:aS w (g+4) 3 #[O S (p:Int)]
 own1:w.ownsRow (g+5) 29 1 (X A1 j k1) j xs1
 own2:w.ownsRow (g+5) 3 1 (X A2 j k2) j xs2
 off:∀b,(Value.slice A1 j k1).ownBlock=Z b->(Value.slice A2 j k2).ownBlock ≠ Z b
theorem tX {g:Nat} {A:Option Addr} {n c p q j:Nat} {A1:Option Addr} {k1:Nat} {A2:Option Addr} {k2:Nat} {xs1 xs2:List Value} {w:World} {l:List Nd} (h:KX g A n c p j A1 k1 A2 k2 xs1 xs2 w) (ht:bJ (· < g) w A n c l) (hq:ends [false] l p=Z q) (hpq:p<=q) (hqn:q<=n) (hj:j<=10000) (b:Int) :
 Calls Tryz.prog 142 #[O S b,.pointer (Z ⟨g,0,Y⟩),.pointer (Z ⟨g+4,0,Y⟩),.pointer (Z ⟨g+2,0,Y⟩),.pointer (Z ⟨g+3,0,Y⟩)] w fun e w'=>e=.returned (.tuple #[])/\Below g w w'/\w.heap.size<=w'.heap.size/\w'.heap[g+1]? = w.heap[g+1]? ∧
  ∃A1' k1' A2' k2' A',KX g A n c q (j+1) A1' k1' A2' k2' (xs1++[X A' (q-p) (c-p)]) (xs2++[O S b]) w'/\∀(R:Nat->Prop) (w:World),bJ R w A n c l->bJ R w A' (q-p) (c-p) ((l.take q).drop p):=by
 obtain⟨i0,hi,c5,c3,c2⟩:=info_parts BX;have e7:=aB hi;have e1:=aB c5;have d9:=aB c3;have d8:=aB c2;obtain⟨i1,c7,c1,c0,b9⟩:=info_parts QD;have e5:=aB c7;have d7:=aB c1;have d6:=aB c0;have d5:=aB b9;clear hi c5 c3 c2 c7 c1 c0 b9;obtain⟨A',hcut,a7⟩:=yX A n c p q hpq hqn ht.cap;have b3:=aB a7;have f2:=h.ba.lt;have b1:∀w2:World,aY w2 A n c l->Calls Tryz.prog 111 #[X A n c,O S (p:Int)] w2 (eF (q:Int) w2):=fun w2 ht2=>by
  have:=jM ht2 (p:Int)
  rwa [mH,hq] at this
 have b7:=aB (b1 w (ht.keep fun b hb=>⟨by omega,fun _=>rfl⟩));have z0:=h.bt.cell;have z4:=h.ba.cell;have H:=aB h;clear a7 b1 ht hq h;go_in;go_wp2_with fail;refine (b7.o).mono ?_;rintro e w2 ⟨rfl,a8⟩;have h2:KX g A n c p j A1 k1 A2 k2 xs1 xs2 w2:=⟨H.o.bt.below a8 H.o.bt.lt,H.o.bo.below a8 H.o.bo.lt,H.o.br.below a8 H.o.br.lt,H.o.ba.below a8 H.o.ba.lt,cB H.o.own1 a8,cB H.o.own2 a8,H.o.off⟩;have e0:=h2.bt.cell;have e2:=h2.bo.cell;have e4:=h2.ba.cell;have l0:=h2.bt.lt;have l2:=h2.bo.lt;have l3:=h2.br.lt;have l4:=h2.ba.lt;have d0:=e0 0;have d2:=e2 0;have d4:=e4 0;have H2:=aB h2;have b8:=aB a8;clear z0 z4 h2 a8 e0 e2 e4;go_wp2_with fail;refine wp_region_noPanic ?_;refine fQ 7 (fun w'=>w'.cell? ⟨g,0,Y⟩=Z (X A n c)/\w'.cell? ⟨g+2,0,Y⟩=Z (X A1 j k1)/\w'.cell? ⟨g+4,0,Y⟩=Z (O S (p:Int))) aF ⟨d0,d2,d4⟩ (fun hS0 => ?_);refine bA (i:=0) (v := ?_) rfl aC aC aC aC aC (fun _ _ _ h=>h) (Or.inl ⟨by rfl,?_⟩) aI ?_;rotate_left
 · (intro w hSw;(try dsimp only at hSw);go_simp);all_goals with_reducible rfl
 try simp only[Act.put,List.getElem_toArray,List.getElem_cons_zero,List.getElem_cons_succ,List.setIfInBounds_toArray,List.set_cons_zero,List.set_cons_succ]
 refine bA (i:=1) (v := ?_) rfl aC aC aC aC aC (fun _ _ _ h=>h) (Or.inl ⟨by rfl,?_⟩) aI ?_;rotate_left
 · (intro w hSw;(try dsimp only at hSw);go_simp);all_goals with_reducible rfl
 try simp only[Act.put,List.getElem_toArray,List.getElem_cons_zero,List.getElem_cons_succ,List.setIfInBounds_toArray,List.set_cons_zero,List.set_cons_succ]
 refine bA (i:=2) (v := ?_) rfl aC aC aC aC aC (fun _ _ _ h=>h) (Or.inl ⟨by rfl,?_⟩) aI ?_;rotate_left
 · (intro w hSw;(try dsimp only at hSw);go_simp);all_goals with_reducible rfl
 try simp only[Act.put,List.getElem_toArray,List.getElem_cons_zero,List.getElem_cons_succ,List.setIfInBounds_toArray,List.set_cons_zero,List.set_cons_succ]
 refine bA (i:=3) (v := ?_) rfl aC aC aC aC aC (fun _ _ _ h=>h) (Or.inl ⟨by rfl,?_⟩) aI ?_;rotate_left
 · (intro w hSw;(try dsimp only at hSw);go_simp);all_goals with_reducible rfl
 try simp only[Act.put,List.getElem_toArray,List.getElem_cons_zero,List.getElem_cons_succ,List.setIfInBounds_toArray,List.set_cons_zero,List.set_cons_succ]
 refine bA (i:=4) (v := ?_) rfl aC aC aC aC aC (fun _ _ _ h=>h) (Or.inl ⟨by rfl,?_⟩) aI ?_;rotate_left
 · (intro w hSw;(try dsimp only at hSw);go_simp);all_goals with_reducible rfl
 try simp only[Act.put,List.getElem_toArray,List.getElem_cons_zero,List.getElem_cons_succ,List.setIfInBounds_toArray,List.set_cons_zero,List.set_cons_succ]
 refine bQ (i:=5) aC rfl rfl (fun K5 hK5 => ?_);go_simp;have d3:(w2.drew.alloc (I #[X A' (q-p) (c-p)] 29)).cell? ⟨g,0,Y⟩=Z (X A n c)/\(w2.drew.alloc (I #[X A' (q-p) (c-p)] 29)).cell? ⟨g+2,0,Y⟩=Z (X A1 j k1)/\(w2.drew.alloc (I #[X A' (q-p) (c-p)] 29)).cell? ⟨g+4,0,Y⟩=Z (O S (p:Int)):=by
  have hc:∀b o,b<w2.heap.size->(w2.drew.alloc (I #[X A' (q-p) (c-p)] 29)).cell? ⟨b,o,Y⟩=w2.cell? ⟨b,o,Y⟩:=fun b o hb=>(World.cell?_alloc_lt _ _ _ hb);rw[hc _ _ l0,hc _ _ l2,hc _ _ l4];exact⟨d0,d2,d4⟩
 refine hK5.o _ _ (fun _=>d3) ?_;try simp only[Act.put,List.getElem_toArray,List.getElem_cons_zero,List.getElem_cons_succ,List.setIfInBounds_toArray,List.set_cons_zero,List.set_cons_succ]
 refine bQ (i:=6) aC rfl rfl (fun K6 hK6 => ?_);refine jC (.tmp 10) (.tmp 15) 47 29 rfl (g+5) i0 _ 24 Tryz.underlying47 e7.o e1.o d9.o d8.o rfl aE (X A1 j k1) j xs1 (X A' (q-p) (c-p)) rfl w2.drew aF aF (cB H2.o.own1 (aT (Below.refl _ _) 1)) _ aF aD aA aG ?_;intro A4 c4 w4 a1;have a4:∀b,b<w2.heap.size->(Value.slice A1 j k1).ownBlock ≠ Z b->w4.heap[b]? = w2.heap[b]?:=fun b hb hne=>a1.grown.block b hb (fun e=>hne e.symm);have a3:∀b,b<g+5->(Value.slice A1 j k1).ownBlock ≠ Z b:=fun b hb e=>by have:=(aU H2.o.own1 e).1;omega
 have zb:=H2.o.bo.same (a4 _ l2 (a3 _ aA));have zf:=zb.frozen;have zc:=zb.cell;have c8:w4.cell? ⟨g,0,Y⟩=Z (X A n c)/\w4.cell? ⟨g+2,0,Y⟩=Z (X A1 j k1)/\w4.cell? ⟨g+4,0,Y⟩=Z (O S (p:Int)):=by
  rw[aQ (a4 g l0 (a3 _ aA)),aQ (a4 (g+2) l2 (a3 _ aA)),aQ (a4 (g+4) l4 (a3 _ aA))];exact⟨d0,d2,d4⟩
 refine hK6.o _ _ (fun _=>c8) ?_;try simp only[Act.put,List.getElem_toArray,List.getElem_cons_zero,List.getElem_cons_succ,List.setIfInBounds_toArray,List.set_cons_zero,List.set_cons_succ]
 refine bQ (i:=7) aC rfl rfl (fun K7 hK7 => ?_);go_simp;refine hK7.o _ _ (fun h=>absurd rfl h) ?_;refine gK aC (NoPanic.normal ?_) _;have hh:=H2.o;have gr:w2.grownBy w4 (Value.slice A1 j k1).ownBlock:=⟨a1.grown.os,a1.grown.tape,a1.grown.output,a1.grown.size,fun b hb hne=>a1.grown.block b hb hne⟩;have own2a:w4.ownsRow (g+5) 3 1 (X A2 j k2) j xs2:=hh.own2.kept gr (by
  cases e2:(Value.slice A2 j k2).ownBlock with
  | none=>exact .inl rfl
  | some b2=>exact .inr fun e=>hh.off b2 e.symm e2)
 have f1:w2.heap.size<=w4.heap.size:=a1.grown.size;have k0:aS (w4.setCell ⟨g+2,0,Y⟩ (X A4 (j+1) c4)) g 29 #[X A n c]:=(hh.bt.same (a4 g l0 (a3 _ aA))).far aD _;have k2':aS (w4.setCell ⟨g+2,0,Y⟩ (X A4 (j+1) c4)) (g+2) 47 #[X A4 (j+1) c4]:=zb.set_ 0 _;have k3:aS (w4.setCell ⟨g+2,0,Y⟩ (X A4 (j+1) c4)) (g+3) 144 #[X A2 j k2]:=(hh.br.same (a4 (g+3) l3 (a3 _ aA))).far aD _;have k4:aS (w4.setCell ⟨g+2,0,Y⟩ (X A4 (j+1) c4)) (g+4) 3 #[O S (p:Int)]:=(hh.ba.same (a4 (g+4) l4 (a3 _ aA))).far aD _;have k3c:=k3.cell;have own2b:=ownsRow_setCell_below (a:=⟨g+2,0,Y⟩) own2a aD (X A4 (j+1) c4);have a9:(w4.setCell ⟨g+2,0,Y⟩ (X A4 (j+1) c4)).heap.size=w4.heap.size:=by simp[World.setCell]
 have a2:=aB a9;have e9:Hid (g+5<=(w4.setCell ⟨g+2,0,Y⟩ (X A4 (j+1) c4)).heap.size):=aB (by rw[a9];omega);have OWN2B:=aB own2b;have K0:=aB k0;have K2:=aB k2';have K3:=aB k3;have K4:=aB k4;have a5:=aB a1;have e8:=aB a4;have e3:=aB a3;have b6:Z (g+3) ≠ (Value.slice A2 j k2).ownBlock:=eY hh.own2 aA;have b5:Z (g+4) ≠ (Value.slice A2 j k2).ownBlock:=eY hh.own2 aA;clear k0 k2' k3 k4 own2a own2b a1 a4 a3 gr hh zb zf zc c8 a9;go_wp2_with (at_builtin;go_loud (refine bL rfl (jC (.tmp 17) (.tmp 19) 144 3 rfl (g+5) i1 _ 8 Tryz.underlying144 e5.o d7.o d6.o d5.o rfl aE (X A2 j k2) j xs2 (O S b) rfl (w4.setCell ⟨g+2,0,Y⟩ (X A4 (j+1) c4)) rfl rfl OWN2B.o _ rfl a2.o.symm aA e9.o ?_));intro A6 c6 w6 a0;have y3:=K3.o.grown a0.grown b6;have y3f:=y3.frozen;have y4:=(K4.o.grown a0.grown b5).far (p:=⟨g+3,0,Y⟩) aD (X A6 (j+1) c6);have y4f:=y4.frozen;have y3c:=y3.cell;have y4c:=y4.cell)
 have a6:∀b,(Value.slice A4 (j+1) c4).ownBlock=Z b->(Value.slice A2 j k2).ownBlock ≠ Z b:=fun b hb e2=>by
  rcases a5.o.new b hb with h1 | h1
  · exact H2.o.off b h1 e2
  have:=(aU H2.o.own2 e2).2.1;have f3:w2.heap.size<=b:=h1;omega
 have own1b:=ownsRow_setCell_below (a:=⟨g+2,0,Y⟩) a5.o.own aD (X A4 (j+1) c4);have own1c:=own1b.kept a0.grown (by
  cases e4:(Value.slice A4 (j+1) c4).ownBlock with
  | none=>exact .inl rfl
  | some b4=>exact .inr fun e=>a6 b4 e4 e.symm)
 have own1d:=ownsRow_setCell_below (a:=⟨g+4,0,Y⟩) (ownsRow_setCell_below (a:=⟨g+3,0,Y⟩) own1c aD (X A6 (j+1) c6)) aD (O S (q:Int));have own2d:=ownsRow_setCell_below (a:=⟨g+4,0,Y⟩) (ownsRow_setCell_below (a:=⟨g+3,0,Y⟩) a0.own aD (X A6 (j+1) c6)) aD (O S (q:Int));have b0:∀b,b<g+5->Z b ≠ (Value.slice A2 j k2).ownBlock:=fun b hb=>eY H2.o.own2 hb;have q0:=((K0.o.grown a0.grown (b0 g aA)).far (p:=⟨g+3,0,Y⟩) aD (X A6 (j+1) c6)).far (p:=⟨g+4,0,Y⟩) aD (O S (q:Int));have q2:=((K2.o.grown a0.grown (b0 (g+2) aA)).far (p:=⟨g+3,0,Y⟩) aD (X A6 (j+1) c6)).far (p:=⟨g+4,0,Y⟩) aD (O S (q:Int));have q3:=(y3.set_ 0 (X A6 (j+1) c6)).far (p:=⟨g+4,0,Y⟩) aD (O S (q:Int));have q4:=y4.set_ 0 (O S (q:Int));have f0:=a0.grown.size;have c9:w4.heap.size<=w6.heap.size:=by have:=a2.o;omega
 have d1:=b8.o.size;refine bodyPost_end (results_none rfl _ _ _) rfl ⟨rfl,?_,?_,?_,A4,c4,A6,c6,A',⟨q0,q2,q3,q4,own1d,own2d,fun b hb e6 => ?_⟩,fun R w h=>b3.o R w l h⟩
 · refine Below.setCell (Below.setCell (Below.grown (Below.setCell (Below.grown (w:=w2.drew) (aT (b8.o.mono aA) 1) a5.o.grown (by show g<=w2.heap.size;omega) (fun b hb => ?_)) (p:=⟨g+2,0,Y⟩) aD _) a0.grown (by rw[a2.o];omega) (fun b hb => ?_)) (p:=⟨g+3,0,Y⟩) aD _) (p:=⟨g+4,0,Y⟩) aD _
   · have:=(aU H2.o.own1 hb).1;omega
   have:=(aU H2.o.own2 hb).1;omega
 · have e:((w6.setCell ⟨g+3,0,Y⟩ (X A6 (j+1) c6)).setCell ⟨g+4,0,Y⟩ (O S (q:Int))).heap.size=w6.heap.size:=by simp[World.setCell]
   rw[e];omega
 · rw[Below.heap_setCell _ _ _ _ aD,Below.heap_setCell _ _ _ _ aD,a0.grown.block (g+1) (by rw[a2.o];omega) (b0 (g+1) aA),Below.heap_setCell _ _ _ _ aD,e8.o (g+1) aA (e3.o (g+1) aA),b8.o.block (g+1) aA]
 rcases a0.new b e6 with h1 | h1
 · exact a6 b hb h1
 have:=(aU a5.o.own hb).2.1;have:=a2.o;omega
theorem nM {w w':World} {A:Option Addr} {n c:Nat} {l:List Nd} (h:bN w' w.heap.size (X A n c) l) (hl:l.length<=5864062014805):bJ (fJ w w') w' A n c l:=by
 obtain⟨A',n',c',e,ht⟩:=bN.termS h hl;injection e with e1 e2 e3;subst e1 e2 e3;exact ht.keep fun b hb=>⟨⟨(aU h hb).1,(aU h hb).2.1⟩,fun _=>rfl⟩
theorem IY {A:Option Addr} {n c:Nat} {l:List Nd} {w:World} (h:aY w A n c l) :
 Calls Tryz.prog 119 #[X A n c] w (fun e w'=>Below w.heap.size w w'/\∃A n c,e=.returned (X A n c)/\bN w' w.heap.size (X A n c) l/\l.length<=5864062014805):=by
 have q22:∀(w:World) (a:Option Addr) (n c n' c':Nat),(binOp .eql 29 (X a n c) (X Y n' c')).run Tryz.prog w=.ok (.bool a.isNone) w:=fun w a n c n' c'=>Lib.run_eql_slice_nil w _ _ a n c n' c' Tryz.underlying29;cases A with
 | none =>
  obtain rfl:=h.nul rfl;obtain rfl:n=0:=by have:=h.cap;omega
  have hl:l=[]:=List.eq_nil_of_length_eq_zero h.len;subst hl;go_in;go_wp2_with fail;go_ret;exact⟨Below.refl _ _,Y,0,0,rfl,bN.nil _ _,Nat.zero_le _⟩
 | some a =>
  obtain⟨i0,hi,a8,a7,a6⟩:=info_parts mN;have b2:=aB hi;have b1:=aB a8;have b0:=aB a7;have a9:=aB a6;clear hi a8 a7 a6;have a4:=h.few;have a5:=aP w (I #[] 46);have hm:aY (w.alloc (I #[] 46)) (Z a) n c l:=h.below a5;have a1:bN (w.alloc (I #[] 46)) w.heap.size (X (Z ⟨w.heap.size,0,Y⟩) 0 0) []:=World.ownsRow_made w #[] 0 (Nat.le_refl _) (Nat.zero_le _) rfl;have HM:=aB hm;have a3:=aB a1;have HB:=aB a5;clear hm a1 a5 h;go_in;go_wp2_with (at_builtin;go_loud (refine bL rfl (cE (.tmp 5) (.tmp 6) 29 29 rfl w.heap.size i0 Tryz.underlying29 Tryz.underlying29 b2.o b1.o b0.o a9.o (X (Z ⟨w.heap.size,0,Y⟩) 0 0) [] l rfl a3.o rfl HM.o (by simpa using a4) aD ?_));intro A4 c4 w4 a0 a2)
  go_ret;refine⟨HB.o.grown a2.grown HB.o.size (fun g hg=>(aU a3.o hg).1),A4,_,c4,rfl,?_⟩;simp only[List.length_nil,Nat.zero_add,List.nil_append] at a0;exact⟨a0,by have:=HM.o.len;omega⟩
theorem qM {A:Option Addr} {n c:Nat} {l:List Nd} {w:World} (h:aY w A n c l) :
 Calls Tryz.prog 119 #[X A n c] w (lL l w) :=
 (IY h).mono fun _ _ ⟨hb,A,n,c,e,ho,hl⟩=>⟨hb,A,n,c,e,nM ho hl⟩
def eV (n:Nd) (w:World) (e:Ending) (w':World):Prop:=(∃k:Int,e=.returned (.tuple #[O S k,.bool (eN n)])/\(eN n=true->k=cX n.op n.b))/\Below w.heap.size w w'
theorem bM {n:Nd} {w w':World} {k:Int} {b:Bool} (hb:b=eN n) (hk:eN n=true->k=cX n.op n.b) (hw:Below w.heap.size w w'):eV n w (.returned (.tuple #[O S k,.bool b])) w' :=
 ⟨⟨k,by rw[hb],hk⟩,hw⟩
theorem dQ (n lo hi:Int) (w:World) (m:Nat) :
 Calls Tryz.prog 122 #[O S n,O S lo,O S hi] (w.drewN m) fun e w'=>e=.returned (.bool (decide (lo<=n)&&decide (n<=hi)))/\∃k,w'=w.drewN k :=
 (eL n lo hi (w.drewN m)).mono fun _ _ ⟨h1,h2⟩=>⟨h1,m,h2.symm⟩
theorem cM (n lo hi:Int) (w:World) (m:Nat) (h:lo<=n/\n<=hi) :
 Calls Tryz.prog 122 #[O S n,O S lo,O S hi] (w.drewN m) fun e w'=>e=.returned (.bool true)/\∃k,w'=w.drewN k :=
 (dQ n lo hi w m).mono fun _ _ ⟨h1,h2⟩=>⟨by rw[h1];simp[h],h2⟩
theorem cL (n lo hi:Int) (w:World) (m:Nat) (h:¬ (lo<=n/\n<=hi)) :
 Calls Tryz.prog 122 #[O S n,O S lo,O S hi] (w.drewN m) fun e w'=>e=.returned (.bool false)/\∃k,w'=w.drewN k :=
 (dQ n lo hi w m).mono fun _ _ ⟨h1,h2⟩=>⟨by rw[h1,<-Bool.decide_and,decide_eq_false h],h2⟩
theorem aZ (w:World) (o:Obj) (m:Nat):Below w.heap.size w ((w.alloc o).drewN m):=aT (aP w o) m
theorem bC (n:Nd):eN n=true ↔ cD n.op n.a n.b=true/\n.op ≠ 3/\n.op ≠ 13:=by
 simp only[eN,Bool.and_eq_true,decide_eq_true_eq,and_assoc]
theorem oK (n:Nd):eN n=false ↔ ¬ (cD n.op n.a n.b=true/\n.op ≠ 3/\n.op ≠ 13):=by
 rw[<-bC];simp
theorem OK (a b:Int) (w:World) :
 Calls Tryz.prog 121 #[.agg #[O S 1,O S a,O S b]] w (eV ⟨1,a,b⟩ w):=by
 by_cases a0:a=0
 · have a0b:(a==0)=true:=by simp[a0]
   have A0:=aB a0;clear a0;by_cases ht:0<=a/\a<=1048576
   · obtain⟨hl,hh⟩:=ht;go_in;go_wp2_with fail;all_goals
      go_quiet ((go_at_call 122;first | exact cM _ _ _ _ _ aA | exact cL _ _ _ _ _ aA | exact dQ _ _ _ _ _))
      go_wp2_with fail
     all_goals
      have a0:=A0.o;refine bodyPost_ret (results_tmp2 rfl _ _ _) rfl ?_;refine bM ?_ ?_ (by first | exact aP _ _ | exact aZ _ _ _)
      · rw[Bool.eq_iff_iff,bC,aV];first | (simp;done) | (simp;omega) | (simp[IntKind.wrap_i64];omega)
      rw[bC,aV];first | (simp[cX];done) | (simp[cX];omega) | (simp[cX,wrap64];omega) | (simp[cX,IntKind.wrap_i64];omega)
   have a1:(decide ((0:Int)<=a)&&decide (a<=1048576))=false:=by rw[Bool.and_eq_false_iff,decide_eq_false_iff_not,decide_eq_false_iff_not];omega
   go_in;go_wp2_with fail;all_goals
    go_quiet ((go_at_call 122;first | exact cM _ _ _ _ _ aA | exact cL _ _ _ _ _ aA | exact dQ _ _ _ _ _))
    go_wp2_with fail
   all_goals
    have a0:=A0.o;refine bodyPost_ret (results_tmp2 rfl _ _ _) rfl ?_;refine bM ?_ ?_ (by first | exact aP _ _ | exact aZ _ _ _)
    · rw[Bool.eq_iff_iff,bC,aV];first | (simp;done) | (simp;omega) | (simp[IntKind.wrap_i64];omega)
    rw[bC,aV];first | (simp[cX];done) | (simp[cX];omega) | (simp[cX,wrap64];omega) | (simp[cX,IntKind.wrap_i64];omega)
 have a0b:(a==0)=false:=by simp[a0]
 have A0:=aB a0;clear a0;by_cases ht:0<=a/\a<=1048576
 · obtain⟨hl,hh⟩:=ht;go_in;go_wp2_with fail;all_goals
    go_quiet ((go_at_call 122;first | exact cM _ _ _ _ _ aA | exact cL _ _ _ _ _ aA | exact dQ _ _ _ _ _))
    go_wp2_with fail
   all_goals
    have a0:=A0.o;refine bodyPost_ret (results_tmp2 rfl _ _ _) rfl ?_;refine bM ?_ ?_ (by first | exact aP _ _ | exact aZ _ _ _)
    · rw[Bool.eq_iff_iff,bC,aV];first | (simp;done) | (simp;omega) | (simp[IntKind.wrap_i64];omega)
    rw[bC,aV];first | (simp[cX];done) | (simp[cX];omega) | (simp[cX,wrap64];omega) | (simp[cX,IntKind.wrap_i64];omega)
 have a1:(decide ((0:Int)<=a)&&decide (a<=1048576))=false:=by rw[Bool.and_eq_false_iff,decide_eq_false_iff_not,decide_eq_false_iff_not];omega
 go_in;go_wp2_with fail;all_goals
  go_quiet ((go_at_call 122;first | exact cM _ _ _ _ _ aA | exact cL _ _ _ _ _ aA | exact dQ _ _ _ _ _))
  go_wp2_with fail
 all_goals
  have a0:=A0.o;refine bodyPost_ret (results_tmp2 rfl _ _ _) rfl ?_;refine bM ?_ ?_ (by first | exact aP _ _ | exact aZ _ _ _)
  · rw[Bool.eq_iff_iff,bC,aV];first | (simp;done) | (simp;omega) | (simp[IntKind.wrap_i64];omega)
  rw[bC,aV];first | (simp[cX];done) | (simp[cX];omega) | (simp[cX,wrap64];omega) | (simp[cX,IntKind.wrap_i64];omega)
theorem OL (a b:Int) (w:World) :
 Calls Tryz.prog 121 #[.agg #[O S 2,O S a,O S b]] w (eV ⟨2,a,b⟩ w):=by
 by_cases a0:a=0
 · have a0b:(a==0)=true:=by simp[a0]
   have A0:=aB a0;clear a0;by_cases ht:0<=a/\a<=1
   · obtain⟨hl,hh⟩:=ht;go_in;go_wp2_with (go_at_call 122;refine (eL _ _ _ _).mono ?_;rintro e w2 ⟨rfl,rfl⟩)
     all_goals
      have a0:=A0.o;refine bodyPost_ret (results_tmp2 rfl _ _ _) rfl ?_;refine bM ?_ ?_ (by first | exact aP _ _ | exact aZ _ _ _)
      · rw[Bool.eq_iff_iff,bC,aV];first | (simp;done) | (simp;omega) | (simp[IntKind.wrap_i64];omega)
      rw[bC,aV];first | (simp[cX];done) | (simp[cX];omega) | (simp[cX,wrap64];omega) | (simp[cX,IntKind.wrap_i64];omega)
   have a1:(decide ((0:Int)<=a)&&decide (a<=1))=false:=by rw[Bool.and_eq_false_iff,decide_eq_false_iff_not,decide_eq_false_iff_not];omega
   have HT:=aB ht;clear ht;go_in;go_wp2_with (go_at_call 122;refine (eL _ _ _ _).mono ?_;rintro e w2 ⟨rfl,rfl⟩)
   all_goals
    have a0:=A0.o;have ht:=HT.o;refine bodyPost_ret (results_tmp2 rfl _ _ _) rfl ?_;refine bM ?_ ?_ (by first | exact aP _ _ | exact aZ _ _ _)
    · rw[Bool.eq_iff_iff,bC,aV];first | (simp;done) | (simp;omega) | (simp[IntKind.wrap_i64];omega)
    rw[bC,aV];first | (simp[cX];done) | (simp[cX];omega) | (simp[cX,wrap64];omega) | (simp[cX,IntKind.wrap_i64];omega)
 have a0b:(a==0)=false:=by simp[a0]
 have A0:=aB a0;clear a0;by_cases ht:0<=a/\a<=1
 · obtain⟨hl,hh⟩:=ht;go_in;go_wp2_with (go_at_call 122;refine (eL _ _ _ _).mono ?_;rintro e w2 ⟨rfl,rfl⟩)
   all_goals
    have a0:=A0.o;refine bodyPost_ret (results_tmp2 rfl _ _ _) rfl ?_;refine bM ?_ ?_ (by first | exact aP _ _ | exact aZ _ _ _)
    · rw[Bool.eq_iff_iff,bC,aV];first | (simp;done) | (simp;omega) | (simp[IntKind.wrap_i64];omega)
    rw[bC,aV];first | (simp[cX];done) | (simp[cX];omega) | (simp[cX,wrap64];omega) | (simp[cX,IntKind.wrap_i64];omega)
 have a1:(decide ((0:Int)<=a)&&decide (a<=1))=false:=by rw[Bool.and_eq_false_iff,decide_eq_false_iff_not,decide_eq_false_iff_not];omega
 have HT:=aB ht;clear ht;go_in;go_wp2_with (go_at_call 122;refine (eL _ _ _ _).mono ?_;rintro e w2 ⟨rfl,rfl⟩)
 all_goals
  have a0:=A0.o;have ht:=HT.o;refine bodyPost_ret (results_tmp2 rfl _ _ _) rfl ?_;refine bM ?_ ?_ (by first | exact aP _ _ | exact aZ _ _ _)
  · rw[Bool.eq_iff_iff,bC,aV];first | (simp;done) | (simp;omega) | (simp[IntKind.wrap_i64];omega)
  rw[bC,aV];first | (simp[cX];done) | (simp[cX];omega) | (simp[cX,wrap64];omega) | (simp[cX,IntKind.wrap_i64];omega)
theorem OM (a b:Int) (w:World) :
 Calls Tryz.prog 121 #[.agg #[O S 4,O S a,O S b]] w (eV ⟨4,a,b⟩ w):=by
 by_cases h1:a=0
 · have h2:(a==0)=true:=by simp[h1]
   have H1:=aB h1;clear h1;go_in;go_wp2
   all_goals
    have h1:=H1.o;refine bodyPost_ret (results_tmp2 rfl _ _ _) rfl ?_;refine bM ?_ ?_ (by first | exact aP _ _ | exact aZ _ _ _)
    · rw[Bool.eq_iff_iff,bC,aV];first | (simp;done) | (simp;omega) | (simp[IntKind.wrap_i64];omega)
    rw[bC,aV];first | (simp[cX];done) | (simp[cX];omega) | (simp[cX,wrap64];omega) | (simp[cX,IntKind.wrap_i64];omega)
 have h2:(a==0)=false:=by simp[h1]
 have H1:=aB h1;clear h1;go_in;go_wp2
 all_goals
  have h1:=H1.o;refine bodyPost_ret (results_tmp2 rfl _ _ _) rfl ?_;refine bM ?_ ?_ (by first | exact aP _ _ | exact aZ _ _ _)
  · rw[Bool.eq_iff_iff,bC,aV];first | (simp;done) | (simp;omega) | (simp[IntKind.wrap_i64];omega)
  rw[bC,aV];first | (simp[cX];done) | (simp[cX];omega) | (simp[cX,wrap64];omega) | (simp[cX,IntKind.wrap_i64];omega)
theorem ON (a b:Int) (w:World) :
 Calls Tryz.prog 121 #[.agg #[O S 5,O S a,O S b]] w (eV ⟨5,a,b⟩ w):=by
 by_cases h1:a=0
 · have h2:(a==0)=true:=by simp[h1]
   have H1:=aB h1;clear h1;go_in;go_wp2
   all_goals
    have h1:=H1.o;refine bodyPost_ret (results_tmp2 rfl _ _ _) rfl ?_;refine bM ?_ ?_ (by first | exact aP _ _ | exact aZ _ _ _)
    · rw[Bool.eq_iff_iff,bC,aV];first | (simp;done) | (simp;omega) | (simp[IntKind.wrap_i64];omega)
    rw[bC,aV];first | (simp[cX];done) | (simp[cX];omega) | (simp[cX,wrap64];omega) | (simp[cX,IntKind.wrap_i64];omega)
 have h2:(a==0)=false:=by simp[h1]
 have H1:=aB h1;clear h1;go_in;go_wp2
 all_goals
  have h1:=H1.o;refine bodyPost_ret (results_tmp2 rfl _ _ _) rfl ?_;refine bM ?_ ?_ (by first | exact aP _ _ | exact aZ _ _ _)
  · rw[Bool.eq_iff_iff,bC,aV];first | (simp;done) | (simp;omega) | (simp[IntKind.wrap_i64];omega)
  rw[bC,aV];first | (simp[cX];done) | (simp[cX];omega) | (simp[cX,wrap64];omega) | (simp[cX,IntKind.wrap_i64];omega)
theorem OO (a b:Int) (w:World) :
 Calls Tryz.prog 121 #[.agg #[O S 6,O S a,O S b]] w (eV ⟨6,a,b⟩ w):=by
 by_cases h1:a=0
 · have h2:(a==0)=true:=by simp[h1]
   have H1:=aB h1;clear h1;go_in;go_wp2
   all_goals
    have h1:=H1.o;refine bodyPost_ret (results_tmp2 rfl _ _ _) rfl ?_;refine bM ?_ ?_ (by first | exact aP _ _ | exact aZ _ _ _)
    · rw[Bool.eq_iff_iff,bC,aV];first | (simp;done) | (simp;omega) | (simp[IntKind.wrap_i64];omega)
    rw[bC,aV];first | (simp[cX];done) | (simp[cX];omega) | (simp[cX,wrap64];omega) | (simp[cX,IntKind.wrap_i64];omega)
 have h2:(a==0)=false:=by simp[h1]
 have H1:=aB h1;clear h1;go_in;go_wp2
 all_goals
  have h1:=H1.o;refine bodyPost_ret (results_tmp2 rfl _ _ _) rfl ?_;refine bM ?_ ?_ (by first | exact aP _ _ | exact aZ _ _ _)
  · rw[Bool.eq_iff_iff,bC,aV];first | (simp;done) | (simp;omega) | (simp[IntKind.wrap_i64];omega)
  rw[bC,aV];first | (simp[cX];done) | (simp[cX];omega) | (simp[cX,wrap64];omega) | (simp[cX,IntKind.wrap_i64];omega)
theorem OP (a b:Int) (w:World) :
 Calls Tryz.prog 121 #[.agg #[O S 7,O S a,O S b]] w (eV ⟨7,a,b⟩ w):=by
 by_cases h1:a=0
 · have h2:(a==0)=true:=by simp[h1]
   have H1:=aB h1;clear h1;go_in;go_wp2
   all_goals
    have h1:=H1.o;refine bodyPost_ret (results_tmp2 rfl _ _ _) rfl ?_;refine bM ?_ ?_ (by first | exact aP _ _ | exact aZ _ _ _)
    · rw[Bool.eq_iff_iff,bC,aV];first | (simp;done) | (simp;omega) | (simp[IntKind.wrap_i64];omega)
    rw[bC,aV];first | (simp[cX];done) | (simp[cX];omega) | (simp[cX,wrap64];omega) | (simp[cX,IntKind.wrap_i64];omega)
 have h2:(a==0)=false:=by simp[h1]
 have H1:=aB h1;clear h1;go_in;go_wp2
 all_goals
  have h1:=H1.o;refine bodyPost_ret (results_tmp2 rfl _ _ _) rfl ?_;refine bM ?_ ?_ (by first | exact aP _ _ | exact aZ _ _ _)
  · rw[Bool.eq_iff_iff,bC,aV];first | (simp;done) | (simp;omega) | (simp[IntKind.wrap_i64];omega)
  rw[bC,aV];first | (simp[cX];done) | (simp[cX];omega) | (simp[cX,wrap64];omega) | (simp[cX,IntKind.wrap_i64];omega)
theorem OQ (a b:Int) (w:World) :
 Calls Tryz.prog 121 #[.agg #[O S 8,O S a,O S b]] w (eV ⟨8,a,b⟩ w):=by
 by_cases a0:a=0
 · have a0b:(a==0)=true:=by simp[a0]
   have A0:=aB a0;clear a0;by_cases ht:0<=a/\a<=63
   · obtain⟨hl,hh⟩:=ht;go_in;go_wp2_with fail;all_goals
      go_quiet ((go_at_call 122;first | exact cM _ _ _ _ _ aA | exact cL _ _ _ _ _ aA | exact dQ _ _ _ _ _))
      go_wp2_with fail
     all_goals
      have a0:=A0.o;refine bodyPost_ret (results_tmp2 rfl _ _ _) rfl ?_;refine bM ?_ ?_ (by first | exact aP _ _ | exact aZ _ _ _)
      · rw[Bool.eq_iff_iff,bC,aV];first | (simp;done) | (simp;omega) | (simp[IntKind.wrap_i64];omega)
      rw[bC,aV];first | (simp[cX];done) | (simp[cX];omega) | (simp[cX,wrap64];omega) | (simp[cX,IntKind.wrap_i64];omega)
   have a1:(decide ((0:Int)<=a)&&decide (a<=63))=false:=by rw[Bool.and_eq_false_iff,decide_eq_false_iff_not,decide_eq_false_iff_not];omega
   go_in;go_wp2_with fail;all_goals
    go_quiet ((go_at_call 122;first | exact cM _ _ _ _ _ aA | exact cL _ _ _ _ _ aA | exact dQ _ _ _ _ _))
    go_wp2_with fail
   all_goals
    have a0:=A0.o;refine bodyPost_ret (results_tmp2 rfl _ _ _) rfl ?_;refine bM ?_ ?_ (by first | exact aP _ _ | exact aZ _ _ _)
    · rw[Bool.eq_iff_iff,bC,aV];first | (simp;done) | (simp;omega) | (simp[IntKind.wrap_i64];omega)
    rw[bC,aV];first | (simp[cX];done) | (simp[cX];omega) | (simp[cX,wrap64];omega) | (simp[cX,IntKind.wrap_i64];omega)
 have a0b:(a==0)=false:=by simp[a0]
 have A0:=aB a0;clear a0;by_cases ht:0<=a/\a<=63
 · obtain⟨hl,hh⟩:=ht;go_in;go_wp2_with fail;all_goals
    go_quiet ((go_at_call 122;first | exact cM _ _ _ _ _ aA | exact cL _ _ _ _ _ aA | exact dQ _ _ _ _ _))
    go_wp2_with fail
   all_goals
    have a0:=A0.o;refine bodyPost_ret (results_tmp2 rfl _ _ _) rfl ?_;refine bM ?_ ?_ (by first | exact aP _ _ | exact aZ _ _ _)
    · rw[Bool.eq_iff_iff,bC,aV];first | (simp;done) | (simp;omega) | (simp[IntKind.wrap_i64];omega)
    rw[bC,aV];first | (simp[cX];done) | (simp[cX];omega) | (simp[cX,wrap64];omega) | (simp[cX,IntKind.wrap_i64];omega)
 have a1:(decide ((0:Int)<=a)&&decide (a<=63))=false:=by rw[Bool.and_eq_false_iff,decide_eq_false_iff_not,decide_eq_false_iff_not];omega
 go_in;go_wp2_with fail;all_goals
  go_quiet ((go_at_call 122;first | exact cM _ _ _ _ _ aA | exact cL _ _ _ _ _ aA | exact dQ _ _ _ _ _))
  go_wp2_with fail
 all_goals
  have a0:=A0.o;refine bodyPost_ret (results_tmp2 rfl _ _ _) rfl ?_;refine bM ?_ ?_ (by first | exact aP _ _ | exact aZ _ _ _)
  · rw[Bool.eq_iff_iff,bC,aV];first | (simp;done) | (simp;omega) | (simp[IntKind.wrap_i64];omega)
  rw[bC,aV];first | (simp[cX];done) | (simp[cX];omega) | (simp[cX,wrap64];omega) | (simp[cX,IntKind.wrap_i64];omega)
theorem OR (a b:Int) (w:World) :
 Calls Tryz.prog 121 #[.agg #[O S 9,O S a,O S b]] w (eV ⟨9,a,b⟩ w):=by
 by_cases a0:a=0
 · have a0b:(a==0)=true:=by simp[a0]
   have A0:=aB a0;clear a0;by_cases ht:0<=a/\a<=63
   · obtain⟨hl,hh⟩:=ht;go_in;go_wp2_with fail;all_goals
      go_quiet ((go_at_call 122;first | exact cM _ _ _ _ _ aA | exact cL _ _ _ _ _ aA | exact dQ _ _ _ _ _))
      go_wp2_with fail
     all_goals
      have a0:=A0.o;refine bodyPost_ret (results_tmp2 rfl _ _ _) rfl ?_;refine bM ?_ ?_ (by first | exact aP _ _ | exact aZ _ _ _)
      · rw[Bool.eq_iff_iff,bC,aV];first | (simp;done) | (simp;omega) | (simp[IntKind.wrap_i64];omega)
      rw[bC,aV];first | (simp[cX];done) | (simp[cX];omega) | (simp[cX,wrap64];omega) | (simp[cX,IntKind.wrap_i64];omega)
   have a1:(decide ((0:Int)<=a)&&decide (a<=63))=false:=by rw[Bool.and_eq_false_iff,decide_eq_false_iff_not,decide_eq_false_iff_not];omega
   go_in;go_wp2_with fail;all_goals
    go_quiet ((go_at_call 122;first | exact cM _ _ _ _ _ aA | exact cL _ _ _ _ _ aA | exact dQ _ _ _ _ _))
    go_wp2_with fail
   all_goals
    have a0:=A0.o;refine bodyPost_ret (results_tmp2 rfl _ _ _) rfl ?_;refine bM ?_ ?_ (by first | exact aP _ _ | exact aZ _ _ _)
    · rw[Bool.eq_iff_iff,bC,aV];first | (simp;done) | (simp;omega) | (simp[IntKind.wrap_i64];omega)
    rw[bC,aV];first | (simp[cX];done) | (simp[cX];omega) | (simp[cX,wrap64];omega) | (simp[cX,IntKind.wrap_i64];omega)
 have a0b:(a==0)=false:=by simp[a0]
 have A0:=aB a0;clear a0;by_cases ht:0<=a/\a<=63
 · obtain⟨hl,hh⟩:=ht;go_in;go_wp2_with fail;all_goals
    go_quiet ((go_at_call 122;first | exact cM _ _ _ _ _ aA | exact cL _ _ _ _ _ aA | exact dQ _ _ _ _ _))
    go_wp2_with fail
   all_goals
    have a0:=A0.o;refine bodyPost_ret (results_tmp2 rfl _ _ _) rfl ?_;refine bM ?_ ?_ (by first | exact aP _ _ | exact aZ _ _ _)
    · rw[Bool.eq_iff_iff,bC,aV];first | (simp;done) | (simp;omega) | (simp[IntKind.wrap_i64];omega)
    rw[bC,aV];first | (simp[cX];done) | (simp[cX];omega) | (simp[cX,wrap64];omega) | (simp[cX,IntKind.wrap_i64];omega)
 have a1:(decide ((0:Int)<=a)&&decide (a<=63))=false:=by rw[Bool.and_eq_false_iff,decide_eq_false_iff_not,decide_eq_false_iff_not];omega
 go_in;go_wp2_with fail;all_goals
  go_quiet ((go_at_call 122;first | exact cM _ _ _ _ _ aA | exact cL _ _ _ _ _ aA | exact dQ _ _ _ _ _))
  go_wp2_with fail
 all_goals
  have a0:=A0.o;refine bodyPost_ret (results_tmp2 rfl _ _ _) rfl ?_;refine bM ?_ ?_ (by first | exact aP _ _ | exact aZ _ _ _)
  · rw[Bool.eq_iff_iff,bC,aV];first | (simp;done) | (simp;omega) | (simp[IntKind.wrap_i64];omega)
  rw[bC,aV];first | (simp[cX];done) | (simp[cX];omega) | (simp[cX,wrap64];omega) | (simp[cX,IntKind.wrap_i64];omega)
theorem LI (a b:Int) (w:World) :
 Calls Tryz.prog 121 #[.agg #[O S 10,O S a,O S b]] w (eV ⟨10,a,b⟩ w):=by
 by_cases a0:a=0
 · have a0b:(a==0)=true:=by simp[a0]
   have A0:=aB a0;clear a0;by_cases ht:0<=a/\a<=63
   · obtain⟨hl,hh⟩:=ht;go_in;go_wp2_with (go_at_call 122;refine (eL _ _ _ _).mono ?_;rintro e w2 ⟨rfl,rfl⟩)
     all_goals
      have a0:=A0.o;refine bodyPost_ret (results_tmp2 rfl _ _ _) rfl ?_;refine bM ?_ ?_ (by first | exact aP _ _ | exact aZ _ _ _)
      · rw[Bool.eq_iff_iff,bC,aV];first | (simp;done) | (simp;omega) | (simp[IntKind.wrap_i64];omega)
      rw[bC,aV];first | (simp[cX];done) | (simp[cX];omega) | (simp[cX,wrap64];omega) | (simp[cX,IntKind.wrap_i64];omega)
   have a1:(decide ((0:Int)<=a)&&decide (a<=63))=false:=by rw[Bool.and_eq_false_iff,decide_eq_false_iff_not,decide_eq_false_iff_not];omega
   have HT:=aB ht;clear ht;go_in;go_wp2_with (go_at_call 122;refine (eL _ _ _ _).mono ?_;rintro e w2 ⟨rfl,rfl⟩)
   all_goals
    have a0:=A0.o;have ht:=HT.o;refine bodyPost_ret (results_tmp2 rfl _ _ _) rfl ?_;refine bM ?_ ?_ (by first | exact aP _ _ | exact aZ _ _ _)
    · rw[Bool.eq_iff_iff,bC,aV];first | (simp;done) | (simp;omega) | (simp[IntKind.wrap_i64];omega)
    rw[bC,aV];first | (simp[cX];done) | (simp[cX];omega) | (simp[cX,wrap64];omega) | (simp[cX,IntKind.wrap_i64];omega)
 have a0b:(a==0)=false:=by simp[a0]
 have A0:=aB a0;clear a0;by_cases ht:0<=a/\a<=63
 · obtain⟨hl,hh⟩:=ht;go_in;go_wp2_with (go_at_call 122;refine (eL _ _ _ _).mono ?_;rintro e w2 ⟨rfl,rfl⟩)
   all_goals
    have a0:=A0.o;refine bodyPost_ret (results_tmp2 rfl _ _ _) rfl ?_;refine bM ?_ ?_ (by first | exact aP _ _ | exact aZ _ _ _)
    · rw[Bool.eq_iff_iff,bC,aV];first | (simp;done) | (simp;omega) | (simp[IntKind.wrap_i64];omega)
    rw[bC,aV];first | (simp[cX];done) | (simp[cX];omega) | (simp[cX,wrap64];omega) | (simp[cX,IntKind.wrap_i64];omega)
 have a1:(decide ((0:Int)<=a)&&decide (a<=63))=false:=by rw[Bool.and_eq_false_iff,decide_eq_false_iff_not,decide_eq_false_iff_not];omega
 have HT:=aB ht;clear ht;go_in;go_wp2_with (go_at_call 122;refine (eL _ _ _ _).mono ?_;rintro e w2 ⟨rfl,rfl⟩)
 all_goals
  have a0:=A0.o;have ht:=HT.o;refine bodyPost_ret (results_tmp2 rfl _ _ _) rfl ?_;refine bM ?_ ?_ (by first | exact aP _ _ | exact aZ _ _ _)
  · rw[Bool.eq_iff_iff,bC,aV];first | (simp;done) | (simp;omega) | (simp[IntKind.wrap_i64];omega)
  rw[bC,aV];first | (simp[cX];done) | (simp[cX];omega) | (simp[cX,wrap64];omega) | (simp[cX,IntKind.wrap_i64];omega)
theorem LJ (a b:Int) (w:World) :
 Calls Tryz.prog 121 #[.agg #[O S 11,O S a,O S b]] w (eV ⟨11,a,b⟩ w):=by
 by_cases a0:a=0
 · have a0b:(a==0)=true:=by simp[a0]
   have A0:=aB a0;clear a0;by_cases ht:0<=a/\a<=63
   · obtain⟨hl,hh⟩:=ht;go_in;go_wp2_with fail;all_goals
      go_quiet ((go_at_call 122;first | exact cM _ _ _ _ _ aA | exact cL _ _ _ _ _ aA | exact dQ _ _ _ _ _))
      go_wp2_with fail
     all_goals
      have a0:=A0.o;refine bodyPost_ret (results_tmp2 rfl _ _ _) rfl ?_;refine bM ?_ ?_ (by first | exact aP _ _ | exact aZ _ _ _)
      · rw[Bool.eq_iff_iff,bC,aV];first | (simp;done) | (simp;omega) | (simp[IntKind.wrap_i64];omega)
      rw[bC,aV];first | (simp[cX];done) | (simp[cX];omega) | (simp[cX,wrap64];omega) | (simp[cX,IntKind.wrap_i64];omega)
   have a1:(decide ((0:Int)<=a)&&decide (a<=63))=false:=by rw[Bool.and_eq_false_iff,decide_eq_false_iff_not,decide_eq_false_iff_not];omega
   go_in;go_wp2_with fail;all_goals
    go_quiet ((go_at_call 122;first | exact cM _ _ _ _ _ aA | exact cL _ _ _ _ _ aA | exact dQ _ _ _ _ _))
    go_wp2_with fail
   all_goals
    have a0:=A0.o;refine bodyPost_ret (results_tmp2 rfl _ _ _) rfl ?_;refine bM ?_ ?_ (by first | exact aP _ _ | exact aZ _ _ _)
    · rw[Bool.eq_iff_iff,bC,aV];first | (simp;done) | (simp;omega) | (simp[IntKind.wrap_i64];omega)
    rw[bC,aV];first | (simp[cX];done) | (simp[cX];omega) | (simp[cX,wrap64];omega) | (simp[cX,IntKind.wrap_i64];omega)
 have a0b:(a==0)=false:=by simp[a0]
 have A0:=aB a0;clear a0;by_cases ht:0<=a/\a<=63
 · obtain⟨hl,hh⟩:=ht;go_in;go_wp2_with fail;all_goals
    go_quiet ((go_at_call 122;first | exact cM _ _ _ _ _ aA | exact cL _ _ _ _ _ aA | exact dQ _ _ _ _ _))
    go_wp2_with fail
   all_goals
    have a0:=A0.o;refine bodyPost_ret (results_tmp2 rfl _ _ _) rfl ?_;refine bM ?_ ?_ (by first | exact aP _ _ | exact aZ _ _ _)
    · rw[Bool.eq_iff_iff,bC,aV];first | (simp;done) | (simp;omega) | (simp[IntKind.wrap_i64];omega)
    rw[bC,aV];first | (simp[cX];done) | (simp[cX];omega) | (simp[cX,wrap64];omega) | (simp[cX,IntKind.wrap_i64];omega)
 have a1:(decide ((0:Int)<=a)&&decide (a<=63))=false:=by rw[Bool.and_eq_false_iff,decide_eq_false_iff_not,decide_eq_false_iff_not];omega
 go_in;go_wp2_with fail;all_goals
  go_quiet ((go_at_call 122;first | exact cM _ _ _ _ _ aA | exact cL _ _ _ _ _ aA | exact dQ _ _ _ _ _))
  go_wp2_with fail
 all_goals
  have a0:=A0.o;refine bodyPost_ret (results_tmp2 rfl _ _ _) rfl ?_;refine bM ?_ ?_ (by first | exact aP _ _ | exact aZ _ _ _)
  · rw[Bool.eq_iff_iff,bC,aV];first | (simp;done) | (simp;omega) | (simp[IntKind.wrap_i64];omega)
  rw[bC,aV];first | (simp[cX];done) | (simp[cX];omega) | (simp[cX,wrap64];omega) | (simp[cX,IntKind.wrap_i64];omega)
theorem LK (a b:Int) (w:World) :
 Calls Tryz.prog 121 #[.agg #[O S 12,O S a,O S b]] w (eV ⟨12,a,b⟩ w):=by
 by_cases a0:a=0
 · have a0b:(a==0)=true:=by simp[a0]
   have A0:=aB a0;clear a0;by_cases ht:1<=b/\b<=4
   · obtain⟨hl,hh⟩:=ht;go_in;go_wp2_with fail;all_goals
      go_quiet ((go_at_call 122;first | exact cM _ _ _ _ _ aA | exact cL _ _ _ _ _ aA | exact dQ _ _ _ _ _))
      go_wp2_with fail
     all_goals
      have a0:=A0.o;refine bodyPost_ret (results_tmp2 rfl _ _ _) rfl ?_;refine bM ?_ ?_ (by first | exact aP _ _ | exact aZ _ _ _)
      · rw[Bool.eq_iff_iff,bC,aV];first | (simp;done) | (simp;omega) | (simp[IntKind.wrap_i64];omega)
      rw[bC,aV];first | (simp[cX];done) | (simp[cX];omega) | (simp[cX,wrap64];omega) | (simp[cX,IntKind.wrap_i64];omega)
   have a1:(decide ((1:Int)<=b)&&decide (b<=4))=false:=by rw[Bool.and_eq_false_iff,decide_eq_false_iff_not,decide_eq_false_iff_not];omega
   go_in;go_wp2_with fail;all_goals
    go_quiet ((go_at_call 122;first | exact cM _ _ _ _ _ aA | exact cL _ _ _ _ _ aA | exact dQ _ _ _ _ _))
    go_wp2_with fail
   all_goals
    have a0:=A0.o;refine bodyPost_ret (results_tmp2 rfl _ _ _) rfl ?_;refine bM ?_ ?_ (by first | exact aP _ _ | exact aZ _ _ _)
    · rw[Bool.eq_iff_iff,bC,aV];first | (simp;done) | (simp;omega) | (simp[IntKind.wrap_i64];omega)
    rw[bC,aV];first | (simp[cX];done) | (simp[cX];omega) | (simp[cX,wrap64];omega) | (simp[cX,IntKind.wrap_i64];omega)
 have a0b:(a==0)=false:=by simp[a0]
 have A0:=aB a0;clear a0;by_cases ht:1<=b/\b<=4
 · obtain⟨hl,hh⟩:=ht;go_in;go_wp2_with fail;all_goals
    go_quiet ((go_at_call 122;first | exact cM _ _ _ _ _ aA | exact cL _ _ _ _ _ aA | exact dQ _ _ _ _ _))
    go_wp2_with fail
   all_goals
    have a0:=A0.o;refine bodyPost_ret (results_tmp2 rfl _ _ _) rfl ?_;refine bM ?_ ?_ (by first | exact aP _ _ | exact aZ _ _ _)
    · rw[Bool.eq_iff_iff,bC,aV];first | (simp;done) | (simp;omega) | (simp[IntKind.wrap_i64];omega)
    rw[bC,aV];first | (simp[cX];done) | (simp[cX];omega) | (simp[cX,wrap64];omega) | (simp[cX,IntKind.wrap_i64];omega)
 have a1:(decide ((1:Int)<=b)&&decide (b<=4))=false:=by rw[Bool.and_eq_false_iff,decide_eq_false_iff_not,decide_eq_false_iff_not];omega
 go_in;go_wp2_with fail;all_goals
  go_quiet ((go_at_call 122;first | exact cM _ _ _ _ _ aA | exact cL _ _ _ _ _ aA | exact dQ _ _ _ _ _))
  go_wp2_with fail
 all_goals
  have a0:=A0.o;refine bodyPost_ret (results_tmp2 rfl _ _ _) rfl ?_;refine bM ?_ ?_ (by first | exact aP _ _ | exact aZ _ _ _)
  · rw[Bool.eq_iff_iff,bC,aV];first | (simp;done) | (simp;omega) | (simp[IntKind.wrap_i64];omega)
  rw[bC,aV];first | (simp[cX];done) | (simp[cX];omega) | (simp[cX,wrap64];omega) | (simp[cX,IntKind.wrap_i64];omega)
theorem IZ (op a b:Int) (w:World) (hop:¬ (1<=op/\op<=12/\op ≠ 3)) :
 Calls Tryz.prog 121 #[.agg #[O S op,O S a,O S b]] w (eV ⟨op,a,b⟩ w):=by
 have b1:(op==1)=false:=beq_eq_false_iff_ne.2 aA;have b2:(op==2)=false:=beq_eq_false_iff_ne.2 aA;have b4:(op==4)=false:=beq_eq_false_iff_ne.2 aA;have b5:(op==5)=false:=beq_eq_false_iff_ne.2 aA;have b6:(op==6)=false:=beq_eq_false_iff_ne.2 aA;have b7:(op==7)=false:=beq_eq_false_iff_ne.2 aA;have b8:(op==8)=false:=beq_eq_false_iff_ne.2 aA;have b9:(op==9)=false:=beq_eq_false_iff_ne.2 aA;have b10:(op==10)=false:=beq_eq_false_iff_ne.2 aA;have b11:(op==11)=false:=beq_eq_false_iff_ne.2 aA;have b12:(op==12)=false:=beq_eq_false_iff_ne.2 aA;have a1:=aB hop;clear hop;by_cases a0:a=0
 · have a0b:(a==0)=true:=by simp[a0]
   clear a0;go_in;go_wp2_with fail;all_goals
    refine bodyPost_ret (results_tmp2 rfl _ _ _) rfl ?_;refine bM ?_ ?_ (aP _ _)
    · have hop:=a1.o;symm;rw[oK,aV];dsimp only;omega
    have hop:=a1.o;rw[bC,aV];dsimp only;omega
 have a0b:(a==0)=false:=by simp[a0]
 clear a0;go_in;go_wp2_with fail;all_goals
  refine bodyPost_ret (results_tmp2 rfl _ _ _) rfl ?_;refine bM ?_ ?_ (aP _ _)
  · have hop:=a1.o;symm;rw[oK,aV];dsimp only;omega
  have hop:=a1.o;rw[bC,aV];dsimp only;omega
theorem wG (op a b:Int) (w:World) :
 Calls Tryz.prog 121 #[.agg #[O S op,O S a,O S b]] w (eV ⟨op,a,b⟩ w):=by
 by_cases hop:1<=op/\op<=12/\op ≠ 3
 · have:op=1\/op=2\/op=4\/op=5\/op=6\/op=7\/op=8\/op=9\/op=10\/op=11\/op=12:=aA;rcases this with rfl | rfl | rfl | rfl | rfl | rfl | rfl | rfl | rfl | rfl | rfl
   · exact OK a b w
   · exact OL a b w
   · exact OM a b w
   · exact ON a b w
   · exact OO a b w
   · exact OP a b w
   · exact OQ a b w
   · exact OR a b w
   · exact LI a b w
   · exact LJ a b w
   exact LK a b w
 exact IZ op a b w hop
theorem wH (op a b:Int) (w:World) (h:eN ⟨op,a,b⟩=true) :
 Calls Tryz.prog 121 #[.agg #[O S op,O S a,O S b]] w fun e w'=>e=.returned (.tuple #[O S (cX op b),.bool true])/\Below w.heap.size w w' :=
 (wG op a b w).mono fun _ _ ⟨⟨k,h1,h2⟩,h3⟩=>⟨by rw[h1,h,h2 h],h3⟩
theorem LL (op a b:Int) (w:World) (h:eN ⟨op,a,b⟩=false) :
 Calls Tryz.prog 121 #[.agg #[O S op,O S a,O S b]] w fun e w'=>(∃k:Int,e=.returned (.tuple #[O S k,.bool false]))/\Below w.heap.size w w' :=
 (wG op a b w).mono fun _ _ ⟨⟨k,h1,_⟩,h3⟩=>⟨⟨k,by rw[h1,h]⟩,h3⟩
theorem DW (n:Nd) (F1:Fo) (pre:List Nd) (nd:Nd) (a:List Nd) (ks:Fo):N8 n.op n.b 0 (F1.app (.cons pre nd a ks .nil))=N8 n.op n.b 0 F1++[aR n.op n.b (bF F1)]:=by
 rw[GC,Nat.zero_add];rfl
theorem nT (F1:Fo) (pre:List Nd) (nd:Nd) (a:List Nd) (ks:Fo):i7 (F1.app (.cons pre nd a ks .nil))=i7 F1++[row (.cons [] nd a ks .nil)]:=by
 rw[xN];rfl
theorem tC {op b k:Int} (h:op ≠ 12):aR op b k=eO op k:=by
 simp[aR,eO,h]
theorem KX.setAt {g:Nat} {A:Option Addr} {n c p j:Nat} {A1:Option Addr} {k1:Nat} {A2:Option Addr} {k2:Nat} {xs1 xs2:List Value} {w:World} (h:KX g A n c p j A1 k1 A2 k2 xs1 xs2 w) (p':Nat) :
 KX g A n c p' j A1 k1 A2 k2 xs1 xs2 (w.setCell ⟨g+4,0,Y⟩ (O S (p':Int))) :=
 ⟨h.bt.far aD _,h.bo.far aD _,h.br.far aD _,h.ba.set_ 0 _,ownsRow_setCell_below (a:=⟨g+4,0,Y⟩) h.own1 aD _,ownsRow_setCell_below (a:=⟨g+4,0,Y⟩) h.own2 aD _,h.off⟩
theorem KX.alloc {g:Nat} {A:Option Addr} {n c p j:Nat} {A1:Option Addr} {k1:Nat} {A2:Option Addr} {k2:Nat} {xs1 xs2:List Value} {w:World} (h:KX g A n c p j A1 k1 A2 k2 xs1 xs2 w) (o:Obj) :
 KX g A n c p j A1 k1 A2 k2 xs1 xs2 (w.alloc o) :=
 ⟨h.bt.alloc _,h.bo.alloc _,h.br.alloc _,h.ba.alloc _,h.own1.alloc _,h.own2.alloc _,h.off⟩
def wA (A:Nd) (k:Fo) (w:World) (e:Ending) (w':World):Prop:=Below w.heap.size w w'/\∃A1 k1 A2 k2 xs1,e=.returned (.tuple #[X A1 (bF k) k1,X A2 (bF k) k2]) ∧
 w'.ownsRow (w.heap.size+5) 29 1 (X A1 (bF k) k1) (bF k) xs1/\w'.ownsRow (w.heap.size+5) 3 1 (X A2 (bF k) k2) (bF k) ((N8 A.op A.b 0 k).map (Value.int .i64))/\bS (· < w.heap.size) w xs1 (i7 k)
theorem JU {A:Option Addr} {nn c:Nat} {l:List Nd} {w:World} {n:Nd} {ats:List Nd} {k:Fo} (h:aY w A nn c l) (hs:a8 l=0) (hpp:pp [false] l=Z (.cons [] n ats k .nil,[])) :
 Calls Tryz.prog 130 #[X A nn c] w (wA n k w):=by
 obtain⟨g7,j1,j0,i2,h8,c0,j4,j7⟩:=rK hs hpp;have f2:=h.len;have f0:0<nn:=by rw[<-f2,c0];simp
 have h9:bD l 0=n:=by rw[c0];rfl
 obtain⟨tb,toff,rfl,j2,g0,g1,g2⟩:=h.at_ f0;simp only[Nat.zero_mul,Nat.add_zero] at g0 g1 g2;rw[h9] at g0 g1 g2;have H:=aB h;clear h;go_in;go_wp2_with fail;have i1 : -1000<=n.b/\n.b<=1000:=by
  have h1:=(bC n).1 g7;have h2:=aV.1 h1.1;omega
 refine (pT n.op n.a n.b _ i1).mono ?_;rintro e w6 ⟨rfl,e1⟩;have c7:Below w.heap.size w (((((w.alloc (I #[X (Z ⟨tb,toff,Y⟩) nn c] 29)).alloc (I #[O S n.op,O S n.a,O S n.b] 46)).alloc (I #[X Y 0 0] 47)).alloc (I #[X Y 0 0] 144)).alloc (I #[O S 1] 3)) :=
  ((((aP w _).alloc aD _).alloc aH _).alloc aH _).alloc aH _
 have h4:=c7.alloc c7.size (I #[O S n.op,O S n.a,O S n.b] 46);rw[e1] at h4;have b4:KX w.heap.size (Z ⟨tb,toff,Y⟩) nn c 1 0 Y 0 Y 0 [] [] w6:=by
  subst e1;refine⟨?_,?_,?_,?_,World.ownsRow_nil _ _ _ _,World.ownsRow_nil _ _ _ _,fun b h=>by simp[Value.ownBlock] at h⟩
  · exact (((((aS.new _ _ _).alloc _).alloc _).alloc _).alloc _).alloc _
  · exact (((aS.new' aD).alloc _).alloc _).alloc _
  · exact ((aS.new' aD).alloc _).alloc _
  exact (aS.new' aD).alloc _
 have d4:aS w6 (w.heap.size+1) 46 #[O S n.op,O S n.a,O S n.b]:=by
  subst e1;exact ((((aS.new' aD).alloc _).alloc _).alloc _).alloc _
 clear e1 c7;go_wp2_with fail;have f3:Wf (ds n) k:=(iP hpp).2.2.2.1;have f5:n.op ≠ 2->ats=[]:=fun h2=>by
  have h3:=(iP hpp).2.2.1;unfold iR at h3;rw[if_neg h2] at h3;exact h3
 go_loopw [16] (fun i wr=>∃(F1 F2:Fo) (j p:Nat) (A1:Option Addr) (k1:Nat) (A2:Option Addr) (k2:Nat) (xs1 xs2:List Value),Hid (k=F1.app F2)/\Hid (bF F1=if n.op=12 then 2*j else j)/\(j:Int)<=dY n.op n.b/\i=O S (j:Int) ∧
  Hid (F2=.nil\/l.drop p=row F2)/\p<=l.length/\Hid (Wf (gY n j) F2)/\Hid (KX w.heap.size (Z ⟨tb,toff,Y⟩) nn c p (bF F1) A1 k1 A2 k2 xs1 xs2 wr) ∧
  Hid (aS wr (w.heap.size+1) 46 #[O S n.op,O S n.a,O S n.b])/\Hid (Below w.heap.size w wr)/\Hid (bS (· < w.heap.size) w xs1 (i7 F1))/\Hid (xs2=(N8 n.op n.b 0 F1).map (Value.int .i64))) (fun i _=>(dY n.op n.b).toNat-(intOf i).toNat)
 case atStart =>
  refine⟨.nil,k,0,1,Y,0,Y,0,[],[],aB rfl,aB (by simp[bF]),?_,by go_num,aB ?_,by omega,aB (by rw[rI];exact f3),aB b4,aB d4,aB h4,aB trivial,aB rfl⟩
  · have h1:=(bC n).1 g7;have h2:=aV.1 h1.1;simp only[dY]
    repeat' split
    all_goals omega
  by_cases h2:n.op=2
  · left;have h3:ds n=[]:=by simp[ds,dY,h2]
    rw[h3] at f3;cases k with
    | nil=>rfl
    | cons _ _ _ _ _=>exact f3.elim
  right;rw[c0,f5 h2];rfl
 case round =>
  obtain⟨F1,F2,j,p,A1,k1,A2,k2,xs1,xs2,hk,e4,j5,rfl,b7,hp,c9,b4,d4,e5,a5,b0⟩:=hrel;have zn:=(d4.o).cell;have z2:wr.cell? ⟨w.heap.size+1+1,0,Y⟩=Z (X A1 (bF F1) k1):=b4.o.bo.cell 0;have z3:wr.cell? ⟨w.heap.size+1+1+1,0,Y⟩=Z (X A2 (bF F1) k2):=b4.o.br.cell 0;have j6:(j:Int)<=1002:=by
   have h1:dY n.op n.b<=1002:=by
    simp only[dY]
    repeat' split
    all_goals omega
   omega
  by_cases hlt:(j:Int)<dY n.op n.b;rotate_left
  · have e3:Hid (k=F1):=by
     have b3:=c9.o;rw[uF n aA] at b3
     match F2,b3,hk with
     | .nil,_,hk=>exact aB (hk.o.trans (jJ F1))
    go_wp2_with fail;go_quiet (fail)
    go_wp2_with fail;go_ret2;refine⟨aT e5.o _,A1,k1,A2,k2,xs1,by rw[e3.o];rfl,?_,?_,?_⟩
    · rw[e3.o];exact b4.o.own1
    · rw[e3.o,<-b0.o];exact b4.o.own2
    rw[e3.o];exact a5.o
  by_cases h12:n.op=12
  · have c12:(n.op==12)=true:=beq_iff_eq.2 h12;have b5:=aB h12;have z4:wr.cell? ⟨w.heap.size+1+1+1+1,0,Y⟩=Z (O S (p:Int)):=b4.o.ba.cell 0;have h6:wr.frozen? ⟨w.heap.size+1+1+1+1,0,Y⟩=false:=b4.o.ba.frozen 0;clear h12;have g8:dY n.op n.b=n.b:=by simp[dY,b5.o]
    have b3:=c9.o;rw[uG b5.o aA] at b3
    match F2,b3,hk,b7 with
    | .cons pre nd a ks F3,hw3,hk,b7 =>
    obtain⟨f,rfl,_⟩:=hw3.1
    match F3,hw3,hk,b7 with
    | .cons pre2 nd2 a2 ks2 F4,hw3,hk,b7 =>
    have e2:=hw3.2.2.2.2;have f1:pre2=[]:=e2.1;subst f1;have d5:=b7.o.resolve_left aD;obtain⟨q1,c1,d7,a6,e9,b9⟩:=tQ hw3 d5 hp;obtain⟨q2,f4,h0,d1,h7,e7⟩:=tQ e2 d7 e9;simp only[List.length_cons,List.length_nil,Nat.zero_add,Nat.add_zero] at c1 a6 b9 f4 d1 e7;have g4:=aB c1;have f7:=aB b9;have i5:=aB f4;have i3:=aB e7;have i6:=aB h0;have f6:=aB e2.2.2.2.2;have i4:=aB g8;have e6:Hid (∀w1,Below w.heap.size w w1->bJ (· < w.heap.size) w1 (Z ⟨tb,toff,Y⟩) nn c l):=aB fun w1 hb=>H.o.keep fun b hb'=>⟨hb',fun o=>aQ (hb.block b hb') o⟩;have a4:=b4.o.setAt (p+1);have c2:Below w.heap.size w (wr.setCell ⟨w.heap.size+4,0,Y⟩ (O S ((p+1:Nat):Int))):=e5.o.setCell aD _;have b8:Hid (bF F1=2*j):=aB (by have:=e4.o;rwa [if_pos b5.o] at this);have i0:bF F1<=2004:=by have:=b8.o;omega
    have a9:aS (wr.setCell ⟨w.heap.size+4,0,Y⟩ (O S ((p+1:Nat):Int))) (w.heap.size+1) 46 #[O S n.op,O S n.a,O S n.b]:=d4.o.far aD _;have a0:=tX a4 (e6.o _ c2) g4.o a6 aA aA 0;have b2:=aB a0;have g6:=aB c2;have c5:=aB a9;clear g8 b3 hw3 e2 d5 c1 d7 b9 f4 h0 e7 a4 c2 a0 c9 e4 a9;go_wp2_with fail;have b6:((p:Int)+1)=((p+1:Nat):Int):=aA;rw[b6];refine (b2.o).mono ?_;rintro e w3 ⟨rfl,d9,e8,d6,A1',k1',A2',k2',A',a1,a7⟩;have a3:aS w3 (w.heap.size+1) 46 #[O S n.op,O S n.a,O S n.b]:=d6.trans c5.o;have c8:=g6.o.trans d9;have b1:=tX a1 (e6.o _ c8) i5.o d1 aA aA n.b;have c6:=aB b1;have h5:=a3.cell;have c4:=aB a3;have g5:=aB c8;have e0:=aB a1;have c3:=aB a7;clear b1 a1 d6 d9 c8 a3 z2 z3 z4 h6 zn e8 b6 a7;go_wp2_with fail;refine (c6.o).mono ?_;rintro e w5 ⟨rfl,c7,j3,g9,A1'',k1'',A2'',k2'',A'',d0,d2⟩;have d3:=g9.trans c4.o;have d8:=g5.o.trans c7;have g3:=aB d3;have i9:=aB d8;have f8:=aB d0;have f9:=aB d2;clear d3 d8 d0 d2 g9 c7 h5;go_wp2_with fail;go_roundw
    case rel =>
     refine⟨(F1.app (.cons [f] nd a ks .nil)).app (.cons [] nd2 a2 ks2 .nil),F4,j+1,q2,A1'',k1'',A2'',k2'',(xs1++[X A' (q1-(p+1)) (c-(p+1))])++[X A'' (q2-q1) (c-q1)],(xs2++[O S 0])++[O S n.b],aB ?_,aB ?_,by omega,by go_num,aB (.inr i6.o),h7,f6,?_,g3,i9,aB ?_,aB ?_⟩;rotate_left 2
     · have e:bF ((F1.app (.cons [f] nd a ks .nil)).app (.cons [] nd2 a2 ks2 .nil))=bF F1+1+1:=by simp[bV,bF]
       rw[e];exact f8
     · rw[nT,nT];refine bS.add ?_ (bS.add ?_ a5.o)
       · rw[<-i3.o];exact f9.o _ _ H.o
       rw[<-f7.o];exact c3.o _ _ H.o
     · rw[DW,DW,b0.o];have e:bF (F1.app (.cons [f] nd a ks .nil))=2*j+1:=by have:=b8.o;simp[bV,bF,this]
       rw[e,b8.o];simp[aR,b5.o]
     · rw[hk.o,dG,dG];rfl
     rw[if_pos b5.o];have:=b8.o;simp[bV,bF];omega
    case measure =>
     have:=i4.o;simp[intOf];omega
  have c12:(n.op==12)=false:=beq_eq_false_iff_ne.2 h12;have b5:=aB h12;clear h12;have b3:=c9.o;rw[uH b5.o hlt] at b3
  match F2,b3,hk,b7 with
  | .cons pre nd a ks F3,hw3,hk,b7 =>
  have f1:pre=[]:=hw3.1;subst f1;have d5:=b7.o.resolve_left aD;obtain⟨q1,c1,d7,a6,e9,b9⟩:=tQ hw3 d5 hp;simp only[List.length_nil,Nat.add_zero] at c1 a6 b9;have g4:=aB c1;have f7:=aB b9;have i8:=aB d7;have f6:=aB hw3.2.2.2.2;have e6:Hid (∀w1,Below w.heap.size w w1->bJ (· < w.heap.size) w1 (Z ⟨tb,toff,Y⟩) nn c l):=aB fun w1 hb=>H.o.keep fun b hb'=>⟨hb',fun o=>aQ (hb.block b hb') o⟩;have a4:=b4.o.alloc (I #[O S n.op,O S n.a,O S n.b] 46);have c2:Below w.heap.size w (wr.alloc (I #[O S n.op,O S n.a,O S n.b] 46)):=e5.o.alloc e5.o.size _;have b8:Hid (bF F1=j):=aB (by have:=e4.o;rwa [if_neg b5.o] at this);have i0:bF F1<=2004:=by have:=b8.o;omega
  have a9:aS (wr.alloc (I #[O S n.op,O S n.a,O S n.b] 46)) (w.heap.size+1) 46 #[O S n.op,O S n.a,O S n.b]:=d4.o.alloc _;have a0:=tX a4 (e6.o _ c2) g4.o a6 aA aA (eO n.op (j:Int));have b2:=aB a0;have g6:=aB c2;have c5:=aB a9;clear b3 hw3 d5 c1 d7 b9 a4 c2 a0 c9 e4 a9;go_wp2_with (go_at_call 143;refine (rU _ _ _ _ _).mono ?_;rintro e w3 ⟨rfl,rfl⟩)
  refine (b2.o).mono ?_;rintro e w3 ⟨rfl,d9,e8,d6,A1',k1',A2',k2',A',a1,a7⟩;have a3:aS w3 (w.heap.size+1) 46 #[O S n.op,O S n.a,O S n.b]:=d6.trans c5.o;have c8:=g6.o.trans d9;have c4:=aB a3;have g5:=aB c8;have e0:=aB a1;have c3:=aB a7;clear a1 d6 d9 c8 a3 z2 z3 zn e8 a7;go_wp2_with fail;go_roundw
  case rel =>
   refine⟨F1.app (.cons [] nd a ks .nil),F3,j+1,q1,A1',k1',A2',k2',xs1++[X A' (q1-p) (c-p)],xs2++[O S (eO n.op (j:Int))],aB ?_,aB ?_,by omega,by go_num,aB (.inr i8.o),e9,f6,?_,c4,g5,aB ?_,aB ?_⟩;rotate_left 2
   · have e:bF (F1.app (.cons [] nd a ks .nil))=bF F1+1:=by simp[bV,bF]
     rw[e];exact e0
   · rw[nT];refine bS.add ?_ a5.o;rw[<-f7.o];exact c3.o _ _ H.o
   · rw[DW,b0.o,b8.o,tC b5.o];simp
   · rw[hk.o,dG];rfl
   rw[if_neg b5.o];have:=b8.o;simp[bV,bF];omega
  case measure=>simp[intOf];omega
theorem PE {w:World} {base g n c:Nat} {e:TypeId} {xs:List Value} (h:w.ownsRow base e 1 (X (Z ⟨g,0,Y⟩) n c) n xs) (i:Nat) (u:Value):(w.setCell ⟨g,i,Y⟩ u).ownsRow base e 1 (X (Z ⟨g,0,Y⟩) n c) n (xs.set i u):=by
 obtain⟨hl,hc⟩:=h;refine⟨by simpa using hl,.inr ?_⟩;rcases hc with⟨h1,_⟩ | ⟨g',cap,cur,hv,hg,hh,h1,h2,h3,h4⟩
 · cases h1
 injection hv with e1 e2 e3;injection e1 with e1;injection e1 with e1;subst e1 e3;refine⟨g,c,cur.setIfInBounds i u,rfl,hg,?_,h1,h2,by simpa using h3,?_⟩
 · have hb:aS w g e cur:=hh;exact hb.set_ i u
 rw[Array.toList_setIfInBounds,List.take_set,h4]
end Go.Proofs.YtjoddliplahgkaaGreat
