/- Merged: LiftP, TermP, TermP2, TermP3, TermP4, Parts0, KidsD, Parts1, Clone, Count, Parts, Kids. -/
import Derived.Test.YtjllmblbbgojbaaGreatXRowsD
namespace Go.Proofs.YtjllmblbbgojbaaGreat
set_option linter.unusedVariables false
set_option linter.unusedSimpArgs false
open Go.RowKit
open Go.Value renaming int → O, slice → X
open Go.IntKind renaming i64 → S
open Option renaming none → Y, some → Z
open Go.Obj renaming cells → I
open Go.Lib renaming hid->aB
set_option maxHeartbeats 4000000
set_option maxRecDepth 100000
def jZ (up:Int) (n:Nd) (f:Int):Nd:=if n.op=1/\f<=n.a then ⟨1,n.a+up,0⟩ else n
def pY (n:Nd) (a:List Nd) (f:Int):List Nd:=if n.op=1/\f<=n.a then [] else a
def FK (pop pb up:Int):Nat->Int->Fo->Fo
 | _,_,.nil=>.nil
 | j,f,.cons p n a k x=>.cons p (jZ up n (f+aQ pop pb j)) (pY n a (f+aQ pop pb j)) (if n.op=1/\f+aQ pop pb j<=n.a then .nil else FK n.op n.b up 0 (f+aQ pop pb j) k) (FK pop pb up (j+1) f x)
def pZ (up:Int) (n:Nd) (k:Fo) (f:Int):Fo:=if n.op=1/\f<=n.a then .nil else FK n.op n.b up 0 f k
theorem kK (pop pb up:Int) (j:Nat) (f:Int) (p:List Nd) (n:Nd) (a:List Nd) (k x:Fo):FK pop pb up j f (.cons p n a k x)=.cons p (jZ up n (f+aQ pop pb j)) (pY n a (f+aQ pop pb j)) (pZ up n k (f+aQ pop pb j)) (FK pop pb up (j+1) f x):=rfl
theorem zN (pop pb up:Int) : ∀(j:Nat) (f:Int) (F:Fo),bH (FK pop pb up j f F)=bH F
 | _,_,.nil=>rfl
 | j,f,.cons p n a k x=>by rw[kK];simp only[bH,zN pop pb up (j+1) f x]
theorem vS (pop pb up:Int) : ∀(j:Nat) (f:Int) (F:Fo),cH (FK pop pb up j f F)=cH F
 | _,_,.nil=>rfl
 | j,f,.cons p n a k x=>by rw[kK];simp only[cH,vS pop pb up (j+1) f x]
theorem FL (pop pb up:Int) : ∀(j:Nat) (f:Int) (F G:Fo),FK pop pb up j f (F.app G)=(FK pop pb up j f F).app (FK pop pb up (j+bH F) f G)
 | _,_,.nil,G=>by simp[Fo.app,FK,bH]
 | j,f,.cons p n a k x,G=>by
  have:=FL pop pb up (j+1) f x G;rw[show (Fo.cons p n a k x).app G=.cons p n a k (x.app G) from rfl,kK,kK,this];simp only[Fo.app,bH];rw[show j+1+bH x=j+(bH x+1) from by omega]
def aZ (R:Nat->Prop) (w w':World) (b:Nat):Prop:=R b\/kD w w' b
def fG (R:Nat->Prop) (w:World) (n:Nd) (ats:List Nd) (ks:Fo) (e:Ending) (w':World):Prop:=Below w.heap.size w w'/\∃ys,e=.returned (.agg ys.toArray)/\cJ (aZ R w w') w' ys n ats ks
def mA (R:Nat->Prop) (B:Nat) (w:World) (u:Value) (b:Nat):Prop:=(R b\/(B<=b/\b<w.heap.size))/\u.ownBlock ≠ Z b
theorem vI {R:Nat->Prop} {B0 B:Nat} {wr V w2 W w' wf:World} {e1:TypeId} {s1 n1:Nat} {u:Value} {x1:List Value} {F:Fo} {xs ys:List Value} {nd:Nd} {ats:List Nd} {ks:Fo} {pre:List Nd} {A':Option Addr} {m c':Nat} {zs:List Value}
 (hfc:jW (mA R B wr u) wr F xs) (ht:cJ (aZ R V w2) w2 ys nd ats ks) (hV:wr.heap.size<=V.heap.size) (hb:Below wr.heap.size wr w2) (hB:B<=wr.heap.size) (hR:∀b,R b->b<B0) (hB0:B0<=B)
 (h1:wr.ownsRow B e1 s1 u n1 x1) (hW:Below w2.heap.size w2 W) (hap:eH W w' B e1 s1 u A' m c' zs)
 (hwf:∀b,b<B0\/B<=b->∀o,wf.cell? ⟨b,o,Y⟩=w'.cell? ⟨b,o,Y⟩) (hws:wf.heap.size=w'.heap.size) :
 jW (mA R B wf (X A' m c')) wf (F.app (.cons pre nd ats ks .nil)) (xs++ys):=by
 have hWs:=hW.size;have hbs:=hb.size;have hgs:=hap.grown.size;have hcell:∀b,b<w2.heap.size->(b<B0\/B<=b)->u.ownBlock ≠ Z b->∀o,wf.cell? ⟨b,o,Y⟩=w2.cell? ⟨b,o,Y⟩:=fun b hb1 hb2 hb3 o=>by
  rw[hwf b hb2 o,World.cell?_of_block (w:=W) (hap.grown.block b aA (fun e=>hb3 e.symm)),hW.cell (p:=⟨b,o,Y⟩) hb1]
 have hnew:∀b,b<w2.heap.size->u.ownBlock ≠ Z b->(Value.slice A' m c').ownBlock ≠ Z b:=fun b hb1 hb2 e=>by
  rcases hap.new b e with e | e
  · exact hb2 e
  omega
 refine jW.app F _ xs ys (jW.keep ?_ F xs hfc) ?_
 · rintro b ⟨hb1,hb3⟩;have hlt:b<wr.heap.size:=by
    rcases hb1 with h | h
    · have:=hR b h;omega
    exact h.2
   have hor:b<B0\/B<=b:=by
    rcases hb1 with h | h
    · exact .inl (hR b h)
    exact .inr h.1
   refine⟨⟨hb1.imp id (fun h=>⟨h.1,by omega⟩),hnew b aA hb3⟩,fun o => ?_⟩;rw[hcell b aA hor hb3,hb.cell (p:=⟨b,o,Y⟩) hlt]
 refine⟨ys,[],by simp,ht.keep ?_,rfl⟩;intro b hm;have hu:u.ownBlock ≠ Z b:=fun e=>by
  have h2:=aR h1 e;rcases hm with h | ⟨h,_⟩
  · have:=hR b h;omega
  omega
 have hlt:b<w2.heap.size:=by
  rcases hm with h | ⟨_,h⟩
  · have:=hR b h;omega
  exact h
 have hor:b<B0\/B<=b:=by
  rcases hm with h | ⟨h,_⟩
  · exact .inl (hR b h)
  exact .inr aA
 refine⟨⟨?_,hnew b hlt hu⟩,hcell b hlt hor hu⟩;rcases hm with h | ⟨h,h'⟩
 · exact .inl h
 exact .inr ⟨by omega,by omega⟩


def Vk:Fo->Prop
 | .nil=>True
 | .cons _ n ats k x=>eE n=true/\(n.op=1->ats=[]/\k=.nil)/\Vk k/\Vk x
theorem OF {n:Nd} (h:n.op=1):ds n=[]:=by simp[ds,dU,h]
theorem yL {n:Nd} {ats:List Nd} {k:Fo} (h1:iY n ats) (h2:Wf (ds n) k) (h:n.op=1):ats=[]/\k=.nil:=by
 rw[OF h] at h2;constructor
 · unfold iY at h1;rw[if_neg aA] at h1;exact h1
 cases k with
 | nil=>rfl
 | cons _ _ _ _ _=>exact h2.elim
theorem o4:∀(F:Fo) (dl:List Bool),Wf dl F->Vk F
 | .nil,_,_=>trivial
 | .cons _ _ _ _ _,[],h=>h.elim
 | .cons p n ats k x,d::dr,h=>by
  obtain⟨_,hok,hat,hk,hx⟩:=h;exact⟨hok,yL hat hk,o4 k _ hk,o4 x _ hx⟩
theorem L5 {n:Nd} (hok:eE n=true) (h:n.op=1):0<=n.a/\n.a<=1048576/\n.b=0:=by
 simp only[eE,Bool.and_eq_true] at hok;have:=hok.1.1;rw[h] at this;simpa[bW] using this
theorem xR:∀(F:Fo),(∀m i,i % 2=0->Wf ((List.replicate m [true,false]).flatten) F->gG true i F)/\(∀m i,i % 2=1->Wf (false::(List.replicate m [true,false]).flatten) F->gG true i F)/\(∀m i,Wf (List.replicate m false) F->gG false i F)
 | .nil=>⟨fun _ _ _ _=>trivial,fun _ _ _ _=>trivial,fun _ _ _=>trivial⟩
 | .cons p n ats k x=>by
  have hk:=xR k;have hx:=xR x;have kid:Wf (ds n) k->gG (decide (n.op=12)) 0 k:=fun h=>by
   unfold ds at h;by_cases h12:n.op=12
   · rw[if_pos h12] at h;rw[decide_eq_true h12];exact hk.1 _ 0 rfl h
   rw[if_neg h12] at h;rw[decide_eq_false h12];exact hk.2.2 _ 0 h
  refine⟨fun m i hi h => ?_,fun m i hi h => ?_,fun m i h => ?_⟩
  · cases m with
    | zero=>exact h.elim
    | succ m =>
     simp only[List.replicate_succ,List.flatten_cons,List.cons_append,List.nil_append] at h;obtain⟨⟨f,hp,_⟩,_,_,hkk,hxx⟩:=h;exact⟨by rw[hp];simp[hi],kid hkk,hx.2.1 m (i+1) aA hxx⟩
  · obtain⟨hp,_,_,hkk,hxx⟩:=h;simp only at hp;exact⟨by rw[hp];simp[hi],kid hkk,hx.1 m (i+1) aA hxx⟩
  · cases m with
    | zero=>exact h.elim
    | succ m =>
     rw[List.replicate_succ] at h;obtain⟨hp,_,_,hkk,hxx⟩:=h;simp only at hp;exact⟨by rw[hp];simp,kid hkk,hx.2.2 m (i+1) hxx⟩
theorem vQ {n:Nd} {k:Fo} (h:Wf (ds n) k):gG (decide (n.op=12)) 0 k:=by
 have hk:=xR k;unfold ds at h;by_cases h12:n.op=12
 · rw[if_pos h12] at h;rw[decide_eq_true h12];exact hk.1 _ 0 rfl h
 rw[if_neg h12] at h;rw[decide_eq_false h12];exact hk.2.2 _ 0 h
theorem C6 (m x y:Int):decide (m<=max x y)=(decide (m<=x)||decide (m<=y)):=by
 rw[<-Bool.decide_or];exact decide_eq_decide.2 aA
theorem ES {m a:Int} (hm:0<=m) {n:Nd} {k:Fo} (h1:n.op=1->k=.nil) (ih:decide (m<=GU n.op n.b 0 a k)=oF (fun v z=>decide (m<=v-z)) n.op n.b 0 a k):decide (m<=pN n k a)=nW (fun v z=>decide (m<=v-z)) a n k:=by
 unfold pN nW;by_cases h:n.op=1
 · rw[if_pos h,h1 h,decide_eq_true h];simp only[oF,Bool.or_false,Bool.true_and];exact decide_eq_decide.2 aA
 rw[if_neg h,decide_eq_false h,ih];simp
theorem CT {m:Int} (hm:0<=m) (pop pb:Int) : ∀(j:Nat) (a:Int) (F:Fo),Vk F->decide (m<=GU pop pb j a F)=oF (fun v z=>decide (m<=v-z)) pop pb j a F
 | _,_,.nil,_=>decide_eq_false (by simp only[GU];omega)
 | j,a,.cons p n ats k x,h=>by
  rw[sG,fB,C6,CT hm pop pb (j+1) a x h.2.2.2,ES hm (fun q=>(h.2.1 q).2) (CT hm n.op n.b 0 _ k h.2.2.1)]
theorem AO {up fr a:Int} {n:Nd} {ats:List Nd} {k:Fo} (hok:eE n=true) (h1:n.op=1->ats=[]/\k=.nil) (ih:FK n.op n.b up 0 (fr+a) k=sS up fr n.op n.b 0 a k):jZ up n (fr+a)=rH up fr n a/\pY n ats (fr+a)=ats/\pZ up n k (fr+a)=sS up fr n.op n.b 0 a k:=by
 unfold jZ rH pY pZ;by_cases h:n.op=1/\fr+a<=n.a
 · rw[if_pos h,if_pos h,if_pos h,if_pos h];have:=L5 hok h.1;refine⟨by rw[h.1,this.2.2],(h1 h.1).1.symm,by rw[(h1 h.1).2];rfl⟩
 rw[if_neg h,if_neg h,if_neg h,if_neg h];exact⟨rfl,rfl,ih⟩
theorem DM (up fr:Int) (pop pb:Int) : ∀(j:Nat) (a:Int) (F:Fo),Vk F->FK pop pb up j (fr+a) F=sS up fr pop pb j a F
 | _,_,.nil,_=>rfl
 | j,a,.cons p n ats k x,h=>by
  have h1:=AO (up:=up) (fr:=fr) (a:=a+aQ pop pb j) h.1 h.2.1 (DM up fr n.op n.b 0 _ k h.2.2.1);rw[kK,Int.add_assoc,h1.1,h1.2.1,h1.2.2,DM up fr pop pb (j+1) a x h.2.2.2];rfl
section
section
variable {l : List Nd} {n : Nd} {ats : List Nd} {k : Fo}
theorem qD (hs:bC l=0) (hpp:pp [false] l=Z (.cons [] n ats k .nil,[])):eE n=true/\(n.op=1->ats=[]/\k=.nil)/\Vk k/\dD k/\gG (decide (n.op=12)) 0 k/\l=n::(ats++row k)/\l.length<=4096/\a7 k<=4096:=by
 obtain⟨hl,n',ats',k',hpp',hrow,hfs⟩:=fL hs;rw[hpp] at hpp';injection hpp' with e;injection e with e1 _;injection e1 with _ e2 e3 e4 _;subst e2 e3 e4;have hw:=iG hpp;have hal:=oT hpp;obtain⟨_,hok,hat,hk,_⟩:=hw;exact⟨hok,yL hat hk,o4 _ _ hk,hal.2.1,vQ hk,hrow,hl,hfs⟩
theorem B5 (hs:bC l=0) (hpp:pp [false] l=Z (.cons [] n ats k .nil,[])) (v:Int):fZ l v=(decide (pN n k 0<0)||decide (pN n k 0<v)):=by
 obtain⟨hok,hv,hk,_⟩:=qD hs hpp;have h:=ES (m:=max v 0) (a:=0) aA (fun q=>(hv q).2) (CT aA n.op n.b 0 0 k hk);unfold fZ O5;rw[hpp,decide_eq_true hs];simp only;rw[<-h,Bool.true_and,<-Bool.decide_or,<-decide_not];exact decide_eq_decide.2 aA
end
end
theorem sJ {l:List Nd} {p:Nat} {d:Bool} {dr:List Bool} {pre:List Nd} {nd:Nd} {a:List Nd} {ks x:Fo} (hw:Wf (d::dr) (.cons pre nd a ks x)) (hl:l.drop p=row (.cons pre nd a ks x)) (hp:p<=l.length) :
 ∃q,ends [false] l (p+pre.length)=Z q/\l.drop q=row x/\p+pre.length<=q/\q<=l.length/\(l.take q).drop (p+pre.length)=row (.cons [] nd a ks .nil):=by
 obtain⟨_,hok,hat,hk,hx⟩:=hw;have hd:l.drop (p+pre.length)=row (.cons [] nd a ks .nil)++row x:=by
  rw[<-List.drop_drop,hl];simp[row]
 have hw1:Wf [false] (.cons [] nd a ks .nil):=⟨rfl,hok,hat,hk,trivial⟩;have hpp:=jQ _ _ (row x) hw1;have hlen:=congrArg List.length hl;rw[List.length_drop] at hlen;have hlen2:(row (.cons pre nd a ks x)).length=pre.length+((row (.cons [] nd a ks .nil)).length+(row x).length):=by
  simp[row];omega
 rw[hlen2] at hlen;refine⟨p+pre.length+(row (.cons [] nd a ks .nil)).length,?_,?_,by omega,by omega,?_⟩
 · unfold ends;rw[hd,hpp];simp only[Option.map_some]
   congr 1
   omega
 · rw[<-List.drop_drop,hd];simp
 rw[List.drop_take,hd];have:p+pre.length+(row (.cons [] nd a ks .nil)).length-(p+pre.length)=(row (.cons [] nd a ks .nil)).length:=aA;rw[this];simp
def qY (l:List Nd):Nd×Fo:=if bC l=0 then (match pp [false] l with | some (.cons _ n _ k _,_)=>(n,k) | _=>(⟨0,0,0⟩,.nil)) else (⟨0,0,0⟩,.nil)
def L9 (pop pb:Int):Nat->Fo->List Int
 | _,.nil=>[]
 | j,.cons _ _ _ _ x=>aQ pop pb j::L9 pop pb (j+1) x
theorem EJ (pop pb:Int) : ∀(j:Nat) (F G:Fo),L9 pop pb j (F.app G)=L9 pop pb j F++L9 pop pb (j+bH F) G
 | _,.nil,G=>by simp[Fo.app,L9,bH]
 | j,.cons p n a k x,G=>by
  simp only[Fo.app,L9,bH,List.cons_append];rw[EJ pop pb (j+1) x G,show j+1+bH x=j+(bH x+1) from by omega]
def iJ:Fo->List (List Nd)
 | .nil=>[]
 | .cons _ n a k x=>row (.cons [] n a k .nil)::iJ x
theorem vY:∀(F G:Fo),iJ (F.app G)=iJ F++iJ G
 | .nil,G=>rfl
 | .cons p n a k x,G=>by simp only[Fo.app,iJ,List.cons_append,vY x G]
theorem qE:∀(F:Fo),(iJ F).length=bH F
 | .nil=>rfl
 | .cons p n a k x=>by simp only[iJ,bH,List.length_cons,qE x]
structure I8 (g:Nat) (A:Option Addr) (n c p j:Nat) (A1:Option Addr) (k1:Nat) (A2:Option Addr) (k2:Nat) (xs1 xs2:List Value) (w:World):Prop where
 bt:aS w g 28 #[X A n c]
 bo:aS w (g+2) 65 #[X A1 j k1]
 br:aS w (g+3) 106 #[X A2 j k2]
 ba:aS w (g+4) 3 #[O S (p:Int)]
 own1:w.ownsRow (g+5) 28 1 (X A1 j k1) j xs1
 own2:w.ownsRow (g+5) 3 1 (X A2 j k2) j xs2
 off:∀b,(Value.slice A1 j k1).ownBlock=Z b->(Value.slice A2 j k2).ownBlock ≠ Z b
theorem sM {g:Nat} {A:Option Addr} {n c p q j:Nat} {A1:Option Addr} {k1:Nat} {A2:Option Addr} {k2:Nat} {xs1 xs2:List Value} {w:World} {l:List Nd} (h:I8 g A n c p j A1 k1 A2 k2 xs1 xs2 w) (ht:bP (· < g) w A n c l) (hq:ends [false] l p=Z q) (hpq:p<=q) (hqn:q<=n) (hj:j<=10000) (b:Int) :
 Calls Tryz.prog 113 #[O S b,.pointer (Z ⟨g,0,Y⟩),.pointer (Z ⟨g+4,0,Y⟩),.pointer (Z ⟨g+2,0,Y⟩),.pointer (Z ⟨g+3,0,Y⟩)] w fun e w'=>e=.returned (.tuple #[])/\Below g w w'/\w.heap.size<=w'.heap.size/\w'.heap[g+1]? = w.heap[g+1]? ∧
  ∃A1' k1' A2' k2' A',I8 g A n c q (j+1) A1' k1' A2' k2' (xs1++[X A' (q-p) (c-p)]) (xs2++[O S b]) w'/\∀(R:Nat->Prop) (w:World),bP R w A n c l->bP R w A' (q-p) (c-p) ((l.take q).drop p):=by
 obtain⟨i0,hi,hy0,hy1,hy2⟩:=info_parts vK;have HI0:=aB hi;have HY0:=aB hy0;have HY1:=aB hy1;have HY2:=aB hy2;obtain⟨i1,hi',hz0,hz1,hz2⟩:=info_parts KD;have HJ0:=aB hi';have HZ0:=aB hz0;have HZ1:=aB hz1;have HZ2:=aB hz2;clear hi hy0 hy1 hy2 hi' hz0 hz1 hz2;obtain⟨A',hcut,hcutr⟩:=mD A n c p q hpq hqn ht.cap;have HCUTR:=aB hcutr;have hs4:=h.ba.lt;have hend:∀w2:World,bB w2 A n c l->Calls Tryz.prog 40 #[X A n c,O S (p:Int)] w2 (dZ (q:Int) w2):=fun w2 ht2=>by
  have:=iA ht2 (p:Int)
  rwa [lL,hq] at this
 have HEND:=aB (hend w (ht.keep fun b hb=>⟨by omega,fun _=>rfl⟩));have z0:=h.bt.cell;have z4:=h.ba.cell;have H:=aB h;clear hcutr hend ht hq h;go_in;go_wp2_with fail;refine (HEND.o).mono ?_;rintro e w2 ⟨rfl,hb2⟩;have h2:I8 g A n c p j A1 k1 A2 k2 xs1 xs2 w2:=⟨H.o.bt.below hb2 H.o.bt.lt,H.o.bo.below hb2 H.o.bo.lt,H.o.br.below hb2 H.o.br.lt,H.o.ba.below hb2 H.o.ba.lt,bL H.o.own1 hb2,bL H.o.own2 hb2,H.o.off⟩;have e0:=h2.bt.cell;have e2:=h2.bo.cell;have e4:=h2.ba.cell;have l0:=h2.bt.lt;have l2:=h2.bo.lt;have l3:=h2.br.lt;have l4:=h2.ba.lt;have d0:=e0 0;have d2:=e2 0;have d4:=e4 0;have H2:=aB h2;have HB2:=aB hb2;clear z0 z4 h2 hb2 e0 e2 e4;go_wp2_with fail;refine wp_region_noPanic ?_;refine cP 7 (fun w'=>w'.cell? ⟨g,0,Y⟩=Z (X A n c)/\w'.cell? ⟨g+2,0,Y⟩=Z (X A1 j k1)/\w'.cell? ⟨g+4,0,Y⟩=Z (O S (p:Int))) aF ⟨d0,d2,d4⟩ (fun hS0 => ?_);refine bQ (i:=0) (v := ?_) rfl aC aC aC aC aC (fun _ _ _ h=>h) (Or.inl ⟨by rfl,?_⟩) aI ?_;rotate_left
 · (intro w hSw;(try dsimp only at hSw);go_simp);all_goals with_reducible rfl
 try simp only[Act.put,List.getElem_toArray,List.getElem_cons_zero,List.getElem_cons_succ,List.setIfInBounds_toArray,List.set_cons_zero,List.set_cons_succ]
 refine bQ (i:=1) (v := ?_) rfl aC aC aC aC aC (fun _ _ _ h=>h) (Or.inl ⟨by rfl,?_⟩) aI ?_;rotate_left
 · (intro w hSw;(try dsimp only at hSw);go_simp);all_goals with_reducible rfl
 try simp only[Act.put,List.getElem_toArray,List.getElem_cons_zero,List.getElem_cons_succ,List.setIfInBounds_toArray,List.set_cons_zero,List.set_cons_succ]
 refine bQ (i:=2) (v := ?_) rfl aC aC aC aC aC (fun _ _ _ h=>h) (Or.inl ⟨by rfl,?_⟩) aI ?_;rotate_left
 · (intro w hSw;(try dsimp only at hSw);go_simp);all_goals with_reducible rfl
 try simp only[Act.put,List.getElem_toArray,List.getElem_cons_zero,List.getElem_cons_succ,List.setIfInBounds_toArray,List.set_cons_zero,List.set_cons_succ]
 refine bQ (i:=3) (v := ?_) rfl aC aC aC aC aC (fun _ _ _ h=>h) (Or.inl ⟨by rfl,?_⟩) aI ?_;rotate_left
 · (intro w hSw;(try dsimp only at hSw);go_simp);all_goals with_reducible rfl
 try simp only[Act.put,List.getElem_toArray,List.getElem_cons_zero,List.getElem_cons_succ,List.setIfInBounds_toArray,List.set_cons_zero,List.set_cons_succ]
 refine bQ (i:=4) (v := ?_) rfl aC aC aC aC aC (fun _ _ _ h=>h) (Or.inl ⟨by rfl,?_⟩) aI ?_;rotate_left
 · (intro w hSw;(try dsimp only at hSw);go_simp);all_goals with_reducible rfl
 try simp only[Act.put,List.getElem_toArray,List.getElem_cons_zero,List.getElem_cons_succ,List.setIfInBounds_toArray,List.set_cons_zero,List.set_cons_succ]
 refine bA (i:=5) aC rfl rfl (fun K5 hK5 => ?_);go_simp;have hS5:(w2.drew.alloc (I #[X A' (q-p) (c-p)] 28)).cell? ⟨g,0,Y⟩=Z (X A n c)/\(w2.drew.alloc (I #[X A' (q-p) (c-p)] 28)).cell? ⟨g+2,0,Y⟩=Z (X A1 j k1)/\(w2.drew.alloc (I #[X A' (q-p) (c-p)] 28)).cell? ⟨g+4,0,Y⟩=Z (O S (p:Int)):=by
  have hc:∀b o,b<w2.heap.size->(w2.drew.alloc (I #[X A' (q-p) (c-p)] 28)).cell? ⟨b,o,Y⟩=w2.cell? ⟨b,o,Y⟩:=fun b o hb=>(World.cell?_alloc_lt _ _ _ hb);rw[hc _ _ l0,hc _ _ l2,hc _ _ l4];exact⟨d0,d2,d4⟩
 refine hK5.o _ _ (fun _=>hS5) ?_;try simp only[Act.put,List.getElem_toArray,List.getElem_cons_zero,List.getElem_cons_succ,List.setIfInBounds_toArray,List.set_cons_zero,List.set_cons_succ]
 refine bA (i:=6) aC rfl rfl (fun K6 hK6 => ?_);refine eX (.tmp 10) (.tmp 15) 65 28 rfl (g+5) i0 _ 24 Tryz.underlying65 HI0.o HY0.o HY1.o HY2.o rfl aE (X A1 j k1) j xs1 (X A' (q-p) (c-p)) rfl w2.drew aF aF (bL H2.o.own1 (aV (Below.refl _ _) 1)) _ aF aD aA aG ?_;intro A4 c4 w4 happ;have hgk:∀b,b<w2.heap.size->(Value.slice A1 j k1).ownBlock ≠ Z b->w4.heap[b]? = w2.heap[b]?:=fun b hb hne=>happ.grown.block b hb (fun e=>hne e.symm);have hno:∀b,b<g+5->(Value.slice A1 j k1).ownBlock ≠ Z b:=fun b hb e=>by have:=(aR H2.o.own1 e).1;omega
 have zb:=H2.o.bo.same (hgk _ l2 (hno _ aA));have zf:=zb.frozen;have zc:=zb.cell;have hS6:w4.cell? ⟨g,0,Y⟩=Z (X A n c)/\w4.cell? ⟨g+2,0,Y⟩=Z (X A1 j k1)/\w4.cell? ⟨g+4,0,Y⟩=Z (O S (p:Int)):=by
  rw[aU (hgk g l0 (hno _ aA)),aU (hgk (g+2) l2 (hno _ aA)),aU (hgk (g+4) l4 (hno _ aA))];exact⟨d0,d2,d4⟩
 refine hK6.o _ _ (fun _=>hS6) ?_;try simp only[Act.put,List.getElem_toArray,List.getElem_cons_zero,List.getElem_cons_succ,List.setIfInBounds_toArray,List.set_cons_zero,List.set_cons_succ]
 refine bA (i:=7) aC rfl rfl (fun K7 hK7 => ?_);go_simp;refine hK7.o _ _ (fun h=>absurd rfl h) ?_;refine dE aC (NoPanic.normal ?_) _;have hh:=H2.o;have gr:w2.grownBy w4 (Value.slice A1 j k1).ownBlock:=⟨happ.grown.os,happ.grown.tape,happ.grown.output,happ.grown.size,fun b hb hne=>happ.grown.block b hb hne⟩;have own2a:w4.ownsRow (g+5) 3 1 (X A2 j k2) j xs2:=hh.own2.kept gr (by
  cases e2:(Value.slice A2 j k2).ownBlock with
  | none=>exact .inl rfl
  | some b2=>exact .inr fun e=>hh.off b2 e.symm e2)
 have hs5:w2.heap.size<=w4.heap.size:=happ.grown.size;have k0:aS (w4.setCell ⟨g+2,0,Y⟩ (X A4 (j+1) c4)) g 28 #[X A n c]:=(hh.bt.same (hgk g l0 (hno _ aA))).far aD _;have k2':aS (w4.setCell ⟨g+2,0,Y⟩ (X A4 (j+1) c4)) (g+2) 65 #[X A4 (j+1) c4]:=zb.set_ 0 _;have k3:aS (w4.setCell ⟨g+2,0,Y⟩ (X A4 (j+1) c4)) (g+3) 106 #[X A2 j k2]:=(hh.br.same (hgk (g+3) l3 (hno _ aA))).far aD _;have k4:aS (w4.setCell ⟨g+2,0,Y⟩ (X A4 (j+1) c4)) (g+4) 3 #[O S (p:Int)]:=(hh.ba.same (hgk (g+4) l4 (hno _ aA))).far aD _;have k3c:=k3.cell;have own2b:=ownsRow_setCell_below (a:=⟨g+2,0,Y⟩) own2a aD (X A4 (j+1) c4);have hsz5:(w4.setCell ⟨g+2,0,Y⟩ (X A4 (j+1) c4)).heap.size=w4.heap.size:=by simp[World.setCell]
 have HSZ5:=aB hsz5;have HB5:Hid (g+5<=(w4.setCell ⟨g+2,0,Y⟩ (X A4 (j+1) c4)).heap.size):=aB (by rw[hsz5];omega);have OWN2B:=aB own2b;have K0:=aB k0;have K2:=aB k2';have K3:=aB k3;have K4:=aB k4;have HAPP:=aB happ;have HGK:=aB hgk;have HNO:=aB hno;have hne3:Z (g+3) ≠ (Value.slice A2 j k2).ownBlock:=fE hh.own2 aA;have hne4:Z (g+4) ≠ (Value.slice A2 j k2).ownBlock:=fE hh.own2 aA;clear k0 k2' k3 k4 own2a own2b happ hgk hno gr hh zb zf zc hS6 hsz5;go_wp2_with (at_builtin;go_loud (refine bM rfl (eX (.tmp 17) (.tmp 19) 106 3 rfl (g+5) i1 _ 8 Tryz.underlying106 HJ0.o HZ0.o HZ1.o HZ2.o rfl aE (X A2 j k2) j xs2 (O S b) rfl (w4.setCell ⟨g+2,0,Y⟩ (X A4 (j+1) c4)) rfl rfl OWN2B.o _ rfl HSZ5.o.symm aA HB5.o ?_));intro A6 c6 w6 happ6;have y3:=K3.o.grown happ6.grown hne3;have y3f:=y3.frozen;have y4:=(K4.o.grown happ6.grown hne4).far (p:=⟨g+3,0,Y⟩) aD (X A6 (j+1) c6);have y4f:=y4.frozen;have y3c:=y3.cell;have y4c:=y4.cell)
 have hoff4:∀b,(Value.slice A4 (j+1) c4).ownBlock=Z b->(Value.slice A2 j k2).ownBlock ≠ Z b:=fun b hb e2=>by
  rcases HAPP.o.new b hb with h1 | h1
  · exact H2.o.off b h1 e2
  have:=(aR H2.o.own2 e2).2.1;have h1':w2.heap.size<=b:=h1;omega
 have own1b:=ownsRow_setCell_below (a:=⟨g+2,0,Y⟩) HAPP.o.own aD (X A4 (j+1) c4);have own1c:=own1b.kept happ6.grown (by
  cases e4:(Value.slice A4 (j+1) c4).ownBlock with
  | none=>exact .inl rfl
  | some b4=>exact .inr fun e=>hoff4 b4 e4 e.symm)
 have own1d:=ownsRow_setCell_below (a:=⟨g+4,0,Y⟩) (ownsRow_setCell_below (a:=⟨g+3,0,Y⟩) own1c aD (X A6 (j+1) c6)) aD (O S (q:Int));have own2d:=ownsRow_setCell_below (a:=⟨g+4,0,Y⟩) (ownsRow_setCell_below (a:=⟨g+3,0,Y⟩) happ6.own aD (X A6 (j+1) c6)) aD (O S (q:Int));have hlow:∀b,b<g+5->Z b ≠ (Value.slice A2 j k2).ownBlock:=fun b hb=>fE H2.o.own2 hb;have q0:=((K0.o.grown happ6.grown (hlow g aA)).far (p:=⟨g+3,0,Y⟩) aD (X A6 (j+1) c6)).far (p:=⟨g+4,0,Y⟩) aD (O S (q:Int));have q2:=((K2.o.grown happ6.grown (hlow (g+2) aA)).far (p:=⟨g+3,0,Y⟩) aD (X A6 (j+1) c6)).far (p:=⟨g+4,0,Y⟩) aD (O S (q:Int));have q3:=(y3.set_ 0 (X A6 (j+1) c6)).far (p:=⟨g+4,0,Y⟩) aD (O S (q:Int));have q4:=y4.set_ 0 (O S (q:Int));have hs6:=happ6.grown.size;have hs64:w4.heap.size<=w6.heap.size:=by have:=HSZ5.o;omega
 have hs2w:=HB2.o.size;refine bodyPost_end (results_none rfl _ _ _) rfl ⟨rfl,?_,?_,?_,A4,c4,A6,c6,A',⟨q0,q2,q3,q4,own1d,own2d,fun b hb e6 => ?_⟩,fun R w h=>HCUTR.o R w l h⟩
 · refine Below.setCell (Below.setCell (Below.grown (Below.setCell (Below.grown (w:=w2.drew) (aV (HB2.o.mono aA) 1) HAPP.o.grown (by show g<=w2.heap.size;omega) (fun b hb => ?_)) (p:=⟨g+2,0,Y⟩) aD _) happ6.grown (by rw[HSZ5.o];omega) (fun b hb => ?_)) (p:=⟨g+3,0,Y⟩) aD _) (p:=⟨g+4,0,Y⟩) aD _
   · have:=(aR H2.o.own1 hb).1;omega
   have:=(aR H2.o.own2 hb).1;omega
 · have e:((w6.setCell ⟨g+3,0,Y⟩ (X A6 (j+1) c6)).setCell ⟨g+4,0,Y⟩ (O S (q:Int))).heap.size=w6.heap.size:=by simp[World.setCell]
   rw[e];omega
 · rw[Below.heap_setCell _ _ _ _ aD,Below.heap_setCell _ _ _ _ aD,happ6.grown.block (g+1) (by rw[HSZ5.o];omega) (hlow (g+1) aA),Below.heap_setCell _ _ _ _ aD,HGK.o (g+1) aA (HNO.o (g+1) aA),HB2.o.block (g+1) aA]
 rcases happ6.new b e6 with h1 | h1
 · exact hoff4 b hb h1
 have:=(aR HAPP.o.own hb).2.1;have:=HSZ5.o;omega
theorem kI {w w':World} {A:Option Addr} {n c:Nat} {l:List Nd} (h:bR w' w.heap.size (X A n c) l) (hl:l.length<=5864062014805):bP (kD w w') w' A n c l:=by
 obtain⟨A',n',c',e,ht⟩:=bR.termS h hl;injection e with e1 e2 e3;subst e1 e2 e3;exact ht.keep fun b hb=>⟨⟨(aR h hb).1,(aR h hb).2.1⟩,fun _=>rfl⟩
theorem uY {A:Option Addr} {n c:Nat} {l:List Nd} {w:World} (h:bB w A n c l) :
 Calls Tryz.prog 23 #[X A n c] w (fun e w'=>Below w.heap.size w w'/\∃A n c,e=.returned (X A n c)/\bR w' w.heap.size (X A n c) l/\l.length<=5864062014805):=by
 have q22:∀(w:World) (a:Option Addr) (n c n' c':Nat),(binOp .eql 28 (X a n c) (X Y n' c')).run Tryz.prog w=.ok (.bool a.isNone) w:=fun w a n c n' c'=>Lib.run_eql_slice_nil w _ _ a n c n' c' Tryz.underlying28;cases A with
 | none =>
  obtain rfl:=h.nul rfl;obtain rfl:n=0:=by have:=h.cap;omega
  have hl:l=[]:=List.eq_nil_of_length_eq_zero h.len;subst hl;go_in;go_wp2_with fail;go_ret;exact⟨Below.refl _ _,Y,0,0,rfl,bR.nil _ _,Nat.zero_le _⟩
 | some a =>
  obtain⟨i0,hi,hy0,hy1,hy2⟩:=info_parts kW;have HI0:=aB hi;have HY0:=aB hy0;have HY1:=aB hy1;have HY2:=aB hy2;clear hi hy0 hy1 hy2;have hfew:=h.few;have hb0:=aP w (I #[] 40);have hm:bB (w.alloc (I #[] 40)) (Z a) n c l:=h.below hb0;have hown:bR (w.alloc (I #[] 40)) w.heap.size (X (Z ⟨w.heap.size,0,Y⟩) 0 0) []:=World.ownsRow_made w #[] 0 (Nat.le_refl _) (Nat.zero_le _) rfl;have HM:=aB hm;have HOWN:=aB hown;have HB:=aB hb0;clear hm hown hb0 h;go_in;go_wp2_with (at_builtin;go_loud (refine bM rfl (cQ (.tmp 5) (.tmp 6) 28 28 rfl w.heap.size i0 Tryz.underlying28 Tryz.underlying28 HI0.o HY0.o HY1.o HY2.o (X (Z ⟨w.heap.size,0,Y⟩) 0 0) [] l rfl HOWN.o rfl HM.o (by simpa using hfew) aD ?_));intro A4 c4 w4 hown4 happ4)
  go_ret;refine⟨HB.o.grown happ4.grown HB.o.size (fun g hg=>(aR HOWN.o hg).1),A4,_,c4,rfl,?_⟩;simp only[List.length_nil,Nat.zero_add,List.nil_append] at hown4;exact⟨hown4,by have:=HM.o.len;omega⟩
theorem GK {A:Option Addr} {n c:Nat} {l:List Nd} {w:World} (h:bB w A n c l) :
 Calls Tryz.prog 23 #[X A n c] w (kR l w) :=
 (uY h).mono fun _ _ ⟨hb,A,n,c,e,ho,hl⟩=>⟨hb,A,n,c,e,kI ho hl⟩
def eR (n:Nd) (w:World) (e:Ending) (w':World):Prop:=(∃k:Int,e=.returned (.tuple #[O S k,.bool (eE n)])/\(eE n=true->k=cX n.op n.b))/\Below w.heap.size w w'
theorem bO {n:Nd} {w w':World} {k:Int} {b:Bool} (hb:b=eE n) (hk:eE n=true->k=cX n.op n.b) (hw:Below w.heap.size w w'):eR n w (.returned (.tuple #[O S k,.bool b])) w' :=
 ⟨⟨k,by rw[hb],hk⟩,hw⟩
theorem dP (n lo hi:Int) (w:World) (m:Nat) :
 Calls Tryz.prog 63 #[O S n,O S lo,O S hi] (w.drewN m) fun e w'=>e=.returned (.bool (decide (lo<=n)&&decide (n<=hi)))/\∃k,w'=w.drewN k :=
 (eJ n lo hi (w.drewN m)).mono fun _ _ ⟨h1,h2⟩=>⟨h1,m,h2.symm⟩
theorem cG (n lo hi:Int) (w:World) (m:Nat) (h:lo<=n/\n<=hi) :
 Calls Tryz.prog 63 #[O S n,O S lo,O S hi] (w.drewN m) fun e w'=>e=.returned (.bool true)/\∃k,w'=w.drewN k :=
 (dP n lo hi w m).mono fun _ _ ⟨h1,h2⟩=>⟨by rw[h1];simp[h],h2⟩
theorem cF (n lo hi:Int) (w:World) (m:Nat) (h:¬ (lo<=n/\n<=hi)) :
 Calls Tryz.prog 63 #[O S n,O S lo,O S hi] (w.drewN m) fun e w'=>e=.returned (.bool false)/\∃k,w'=w.drewN k :=
 (dP n lo hi w m).mono fun _ _ ⟨h1,h2⟩=>⟨by rw[h1,<-Bool.decide_and,decide_eq_false h],h2⟩
theorem a8 (w:World) (o:Obj) (m:Nat):Below w.heap.size w ((w.alloc o).drewN m):=aV (aP w o) m
theorem bE (n:Nd):eE n=true ↔ bW n.op n.a n.b=true/\n.op ≠ 3/\n.op ≠ 13:=by
 simp only[eE,Bool.and_eq_true,decide_eq_true_eq,and_assoc]
theorem nA (n:Nd):eE n=false ↔ ¬ (bW n.op n.a n.b=true/\n.op ≠ 3/\n.op ≠ 13):=by
 rw[<-bE];simp
theorem MI (a b:Int) (w:World) :
 Calls Tryz.prog 62 #[.agg #[O S 1,O S a,O S b]] w (eR ⟨1,a,b⟩ w):=by
 by_cases a0:a=0
 · have a0b:(a==0)=true:=by simp[a0]
   have A0:=aB a0;clear a0;by_cases ht:0<=a/\a<=1048576
   · obtain⟨hl,hh⟩:=ht;go_in;go_wp2_with fail;all_goals
      go_quiet ((go_at_call 63;first | exact cG _ _ _ _ _ aA | exact cF _ _ _ _ _ aA | exact dP _ _ _ _ _))
      go_wp2_with fail
     all_goals
      have a0:=A0.o;refine bodyPost_ret (results_tmp2 rfl _ _ _) rfl ?_;refine bO ?_ ?_ (by first | exact aP _ _ | exact a8 _ _ _)
      · rw[Bool.eq_iff_iff,bE,aT];first | (simp;done) | (simp;omega) | (simp[IntKind.wrap_i64];omega)
      rw[bE,aT];first | (simp[cX];done) | (simp[cX];omega) | (simp[cX,wrap64];omega) | (simp[cX,IntKind.wrap_i64];omega)
   have htb:(decide ((0:Int)<=a)&&decide (a<=1048576))=false:=by rw[Bool.and_eq_false_iff,decide_eq_false_iff_not,decide_eq_false_iff_not];omega
   go_in;go_wp2_with fail;all_goals
    go_quiet ((go_at_call 63;first | exact cG _ _ _ _ _ aA | exact cF _ _ _ _ _ aA | exact dP _ _ _ _ _))
    go_wp2_with fail
   all_goals
    have a0:=A0.o;refine bodyPost_ret (results_tmp2 rfl _ _ _) rfl ?_;refine bO ?_ ?_ (by first | exact aP _ _ | exact a8 _ _ _)
    · rw[Bool.eq_iff_iff,bE,aT];first | (simp;done) | (simp;omega) | (simp[IntKind.wrap_i64];omega)
    rw[bE,aT];first | (simp[cX];done) | (simp[cX];omega) | (simp[cX,wrap64];omega) | (simp[cX,IntKind.wrap_i64];omega)
 have a0b:(a==0)=false:=by simp[a0]
 have A0:=aB a0;clear a0;by_cases ht:0<=a/\a<=1048576
 · obtain⟨hl,hh⟩:=ht;go_in;go_wp2_with fail;all_goals
    go_quiet ((go_at_call 63;first | exact cG _ _ _ _ _ aA | exact cF _ _ _ _ _ aA | exact dP _ _ _ _ _))
    go_wp2_with fail
   all_goals
    have a0:=A0.o;refine bodyPost_ret (results_tmp2 rfl _ _ _) rfl ?_;refine bO ?_ ?_ (by first | exact aP _ _ | exact a8 _ _ _)
    · rw[Bool.eq_iff_iff,bE,aT];first | (simp;done) | (simp;omega) | (simp[IntKind.wrap_i64];omega)
    rw[bE,aT];first | (simp[cX];done) | (simp[cX];omega) | (simp[cX,wrap64];omega) | (simp[cX,IntKind.wrap_i64];omega)
 have htb:(decide ((0:Int)<=a)&&decide (a<=1048576))=false:=by rw[Bool.and_eq_false_iff,decide_eq_false_iff_not,decide_eq_false_iff_not];omega
 go_in;go_wp2_with fail;all_goals
  go_quiet ((go_at_call 63;first | exact cG _ _ _ _ _ aA | exact cF _ _ _ _ _ aA | exact dP _ _ _ _ _))
  go_wp2_with fail
 all_goals
  have a0:=A0.o;refine bodyPost_ret (results_tmp2 rfl _ _ _) rfl ?_;refine bO ?_ ?_ (by first | exact aP _ _ | exact a8 _ _ _)
  · rw[Bool.eq_iff_iff,bE,aT];first | (simp;done) | (simp;omega) | (simp[IntKind.wrap_i64];omega)
  rw[bE,aT];first | (simp[cX];done) | (simp[cX];omega) | (simp[cX,wrap64];omega) | (simp[cX,IntKind.wrap_i64];omega)
theorem MJ (a b:Int) (w:World) :
 Calls Tryz.prog 62 #[.agg #[O S 2,O S a,O S b]] w (eR ⟨2,a,b⟩ w):=by
 by_cases a0:a=0
 · have a0b:(a==0)=true:=by simp[a0]
   have A0:=aB a0;clear a0;by_cases ht:0<=a/\a<=1
   · obtain⟨hl,hh⟩:=ht;go_in;go_wp2_with (go_at_call 63;refine (eJ _ _ _ _).mono ?_;rintro e w2 ⟨rfl,rfl⟩)
     all_goals
      have a0:=A0.o;refine bodyPost_ret (results_tmp2 rfl _ _ _) rfl ?_;refine bO ?_ ?_ (by first | exact aP _ _ | exact a8 _ _ _)
      · rw[Bool.eq_iff_iff,bE,aT];first | (simp;done) | (simp;omega) | (simp[IntKind.wrap_i64];omega)
      rw[bE,aT];first | (simp[cX];done) | (simp[cX];omega) | (simp[cX,wrap64];omega) | (simp[cX,IntKind.wrap_i64];omega)
   have htb:(decide ((0:Int)<=a)&&decide (a<=1))=false:=by rw[Bool.and_eq_false_iff,decide_eq_false_iff_not,decide_eq_false_iff_not];omega
   have HT:=aB ht;clear ht;go_in;go_wp2_with (go_at_call 63;refine (eJ _ _ _ _).mono ?_;rintro e w2 ⟨rfl,rfl⟩)
   all_goals
    have a0:=A0.o;have ht:=HT.o;refine bodyPost_ret (results_tmp2 rfl _ _ _) rfl ?_;refine bO ?_ ?_ (by first | exact aP _ _ | exact a8 _ _ _)
    · rw[Bool.eq_iff_iff,bE,aT];first | (simp;done) | (simp;omega) | (simp[IntKind.wrap_i64];omega)
    rw[bE,aT];first | (simp[cX];done) | (simp[cX];omega) | (simp[cX,wrap64];omega) | (simp[cX,IntKind.wrap_i64];omega)
 have a0b:(a==0)=false:=by simp[a0]
 have A0:=aB a0;clear a0;by_cases ht:0<=a/\a<=1
 · obtain⟨hl,hh⟩:=ht;go_in;go_wp2_with (go_at_call 63;refine (eJ _ _ _ _).mono ?_;rintro e w2 ⟨rfl,rfl⟩)
   all_goals
    have a0:=A0.o;refine bodyPost_ret (results_tmp2 rfl _ _ _) rfl ?_;refine bO ?_ ?_ (by first | exact aP _ _ | exact a8 _ _ _)
    · rw[Bool.eq_iff_iff,bE,aT];first | (simp;done) | (simp;omega) | (simp[IntKind.wrap_i64];omega)
    rw[bE,aT];first | (simp[cX];done) | (simp[cX];omega) | (simp[cX,wrap64];omega) | (simp[cX,IntKind.wrap_i64];omega)
 have htb:(decide ((0:Int)<=a)&&decide (a<=1))=false:=by rw[Bool.and_eq_false_iff,decide_eq_false_iff_not,decide_eq_false_iff_not];omega
 have HT:=aB ht;clear ht;go_in;go_wp2_with (go_at_call 63;refine (eJ _ _ _ _).mono ?_;rintro e w2 ⟨rfl,rfl⟩)
 all_goals
  have a0:=A0.o;have ht:=HT.o;refine bodyPost_ret (results_tmp2 rfl _ _ _) rfl ?_;refine bO ?_ ?_ (by first | exact aP _ _ | exact a8 _ _ _)
  · rw[Bool.eq_iff_iff,bE,aT];first | (simp;done) | (simp;omega) | (simp[IntKind.wrap_i64];omega)
  rw[bE,aT];first | (simp[cX];done) | (simp[cX];omega) | (simp[cX,wrap64];omega) | (simp[cX,IntKind.wrap_i64];omega)
theorem MK (a b:Int) (w:World) :
 Calls Tryz.prog 62 #[.agg #[O S 4,O S a,O S b]] w (eR ⟨4,a,b⟩ w):=by
 by_cases h1:a=0
 · have h2:(a==0)=true:=by simp[h1]
   have H1:=aB h1;clear h1;go_in;go_wp2
   all_goals
    have h1:=H1.o;refine bodyPost_ret (results_tmp2 rfl _ _ _) rfl ?_;refine bO ?_ ?_ (by first | exact aP _ _ | exact a8 _ _ _)
    · rw[Bool.eq_iff_iff,bE,aT];first | (simp;done) | (simp;omega) | (simp[IntKind.wrap_i64];omega)
    rw[bE,aT];first | (simp[cX];done) | (simp[cX];omega) | (simp[cX,wrap64];omega) | (simp[cX,IntKind.wrap_i64];omega)
 have h2:(a==0)=false:=by simp[h1]
 have H1:=aB h1;clear h1;go_in;go_wp2
 all_goals
  have h1:=H1.o;refine bodyPost_ret (results_tmp2 rfl _ _ _) rfl ?_;refine bO ?_ ?_ (by first | exact aP _ _ | exact a8 _ _ _)
  · rw[Bool.eq_iff_iff,bE,aT];first | (simp;done) | (simp;omega) | (simp[IntKind.wrap_i64];omega)
  rw[bE,aT];first | (simp[cX];done) | (simp[cX];omega) | (simp[cX,wrap64];omega) | (simp[cX,IntKind.wrap_i64];omega)
theorem ML (a b:Int) (w:World) :
 Calls Tryz.prog 62 #[.agg #[O S 5,O S a,O S b]] w (eR ⟨5,a,b⟩ w):=by
 by_cases h1:a=0
 · have h2:(a==0)=true:=by simp[h1]
   have H1:=aB h1;clear h1;go_in;go_wp2
   all_goals
    have h1:=H1.o;refine bodyPost_ret (results_tmp2 rfl _ _ _) rfl ?_;refine bO ?_ ?_ (by first | exact aP _ _ | exact a8 _ _ _)
    · rw[Bool.eq_iff_iff,bE,aT];first | (simp;done) | (simp;omega) | (simp[IntKind.wrap_i64];omega)
    rw[bE,aT];first | (simp[cX];done) | (simp[cX];omega) | (simp[cX,wrap64];omega) | (simp[cX,IntKind.wrap_i64];omega)
 have h2:(a==0)=false:=by simp[h1]
 have H1:=aB h1;clear h1;go_in;go_wp2
 all_goals
  have h1:=H1.o;refine bodyPost_ret (results_tmp2 rfl _ _ _) rfl ?_;refine bO ?_ ?_ (by first | exact aP _ _ | exact a8 _ _ _)
  · rw[Bool.eq_iff_iff,bE,aT];first | (simp;done) | (simp;omega) | (simp[IntKind.wrap_i64];omega)
  rw[bE,aT];first | (simp[cX];done) | (simp[cX];omega) | (simp[cX,wrap64];omega) | (simp[cX,IntKind.wrap_i64];omega)
theorem MM (a b:Int) (w:World) :
 Calls Tryz.prog 62 #[.agg #[O S 6,O S a,O S b]] w (eR ⟨6,a,b⟩ w):=by
 by_cases h1:a=0
 · have h2:(a==0)=true:=by simp[h1]
   have H1:=aB h1;clear h1;go_in;go_wp2
   all_goals
    have h1:=H1.o;refine bodyPost_ret (results_tmp2 rfl _ _ _) rfl ?_;refine bO ?_ ?_ (by first | exact aP _ _ | exact a8 _ _ _)
    · rw[Bool.eq_iff_iff,bE,aT];first | (simp;done) | (simp;omega) | (simp[IntKind.wrap_i64];omega)
    rw[bE,aT];first | (simp[cX];done) | (simp[cX];omega) | (simp[cX,wrap64];omega) | (simp[cX,IntKind.wrap_i64];omega)
 have h2:(a==0)=false:=by simp[h1]
 have H1:=aB h1;clear h1;go_in;go_wp2
 all_goals
  have h1:=H1.o;refine bodyPost_ret (results_tmp2 rfl _ _ _) rfl ?_;refine bO ?_ ?_ (by first | exact aP _ _ | exact a8 _ _ _)
  · rw[Bool.eq_iff_iff,bE,aT];first | (simp;done) | (simp;omega) | (simp[IntKind.wrap_i64];omega)
  rw[bE,aT];first | (simp[cX];done) | (simp[cX];omega) | (simp[cX,wrap64];omega) | (simp[cX,IntKind.wrap_i64];omega)
theorem MN (a b:Int) (w:World) :
 Calls Tryz.prog 62 #[.agg #[O S 7,O S a,O S b]] w (eR ⟨7,a,b⟩ w):=by
 by_cases h1:a=0
 · have h2:(a==0)=true:=by simp[h1]
   have H1:=aB h1;clear h1;go_in;go_wp2
   all_goals
    have h1:=H1.o;refine bodyPost_ret (results_tmp2 rfl _ _ _) rfl ?_;refine bO ?_ ?_ (by first | exact aP _ _ | exact a8 _ _ _)
    · rw[Bool.eq_iff_iff,bE,aT];first | (simp;done) | (simp;omega) | (simp[IntKind.wrap_i64];omega)
    rw[bE,aT];first | (simp[cX];done) | (simp[cX];omega) | (simp[cX,wrap64];omega) | (simp[cX,IntKind.wrap_i64];omega)
 have h2:(a==0)=false:=by simp[h1]
 have H1:=aB h1;clear h1;go_in;go_wp2
 all_goals
  have h1:=H1.o;refine bodyPost_ret (results_tmp2 rfl _ _ _) rfl ?_;refine bO ?_ ?_ (by first | exact aP _ _ | exact a8 _ _ _)
  · rw[Bool.eq_iff_iff,bE,aT];first | (simp;done) | (simp;omega) | (simp[IntKind.wrap_i64];omega)
  rw[bE,aT];first | (simp[cX];done) | (simp[cX];omega) | (simp[cX,wrap64];omega) | (simp[cX,IntKind.wrap_i64];omega)
theorem MO (a b:Int) (w:World) :
 Calls Tryz.prog 62 #[.agg #[O S 8,O S a,O S b]] w (eR ⟨8,a,b⟩ w):=by
 by_cases a0:a=0
 · have a0b:(a==0)=true:=by simp[a0]
   have A0:=aB a0;clear a0;by_cases ht:0<=a/\a<=63
   · obtain⟨hl,hh⟩:=ht;go_in;go_wp2_with fail;all_goals
      go_quiet ((go_at_call 63;first | exact cG _ _ _ _ _ aA | exact cF _ _ _ _ _ aA | exact dP _ _ _ _ _))
      go_wp2_with fail
     all_goals
      have a0:=A0.o;refine bodyPost_ret (results_tmp2 rfl _ _ _) rfl ?_;refine bO ?_ ?_ (by first | exact aP _ _ | exact a8 _ _ _)
      · rw[Bool.eq_iff_iff,bE,aT];first | (simp;done) | (simp;omega) | (simp[IntKind.wrap_i64];omega)
      rw[bE,aT];first | (simp[cX];done) | (simp[cX];omega) | (simp[cX,wrap64];omega) | (simp[cX,IntKind.wrap_i64];omega)
   have htb:(decide ((0:Int)<=a)&&decide (a<=63))=false:=by rw[Bool.and_eq_false_iff,decide_eq_false_iff_not,decide_eq_false_iff_not];omega
   go_in;go_wp2_with fail;all_goals
    go_quiet ((go_at_call 63;first | exact cG _ _ _ _ _ aA | exact cF _ _ _ _ _ aA | exact dP _ _ _ _ _))
    go_wp2_with fail
   all_goals
    have a0:=A0.o;refine bodyPost_ret (results_tmp2 rfl _ _ _) rfl ?_;refine bO ?_ ?_ (by first | exact aP _ _ | exact a8 _ _ _)
    · rw[Bool.eq_iff_iff,bE,aT];first | (simp;done) | (simp;omega) | (simp[IntKind.wrap_i64];omega)
    rw[bE,aT];first | (simp[cX];done) | (simp[cX];omega) | (simp[cX,wrap64];omega) | (simp[cX,IntKind.wrap_i64];omega)
 have a0b:(a==0)=false:=by simp[a0]
 have A0:=aB a0;clear a0;by_cases ht:0<=a/\a<=63
 · obtain⟨hl,hh⟩:=ht;go_in;go_wp2_with fail;all_goals
    go_quiet ((go_at_call 63;first | exact cG _ _ _ _ _ aA | exact cF _ _ _ _ _ aA | exact dP _ _ _ _ _))
    go_wp2_with fail
   all_goals
    have a0:=A0.o;refine bodyPost_ret (results_tmp2 rfl _ _ _) rfl ?_;refine bO ?_ ?_ (by first | exact aP _ _ | exact a8 _ _ _)
    · rw[Bool.eq_iff_iff,bE,aT];first | (simp;done) | (simp;omega) | (simp[IntKind.wrap_i64];omega)
    rw[bE,aT];first | (simp[cX];done) | (simp[cX];omega) | (simp[cX,wrap64];omega) | (simp[cX,IntKind.wrap_i64];omega)
 have htb:(decide ((0:Int)<=a)&&decide (a<=63))=false:=by rw[Bool.and_eq_false_iff,decide_eq_false_iff_not,decide_eq_false_iff_not];omega
 go_in;go_wp2_with fail;all_goals
  go_quiet ((go_at_call 63;first | exact cG _ _ _ _ _ aA | exact cF _ _ _ _ _ aA | exact dP _ _ _ _ _))
  go_wp2_with fail
 all_goals
  have a0:=A0.o;refine bodyPost_ret (results_tmp2 rfl _ _ _) rfl ?_;refine bO ?_ ?_ (by first | exact aP _ _ | exact a8 _ _ _)
  · rw[Bool.eq_iff_iff,bE,aT];first | (simp;done) | (simp;omega) | (simp[IntKind.wrap_i64];omega)
  rw[bE,aT];first | (simp[cX];done) | (simp[cX];omega) | (simp[cX,wrap64];omega) | (simp[cX,IntKind.wrap_i64];omega)
theorem MP (a b:Int) (w:World) :
 Calls Tryz.prog 62 #[.agg #[O S 9,O S a,O S b]] w (eR ⟨9,a,b⟩ w):=by
 by_cases a0:a=0
 · have a0b:(a==0)=true:=by simp[a0]
   have A0:=aB a0;clear a0;by_cases ht:0<=a/\a<=63
   · obtain⟨hl,hh⟩:=ht;go_in;go_wp2_with fail;all_goals
      go_quiet ((go_at_call 63;first | exact cG _ _ _ _ _ aA | exact cF _ _ _ _ _ aA | exact dP _ _ _ _ _))
      go_wp2_with fail
     all_goals
      have a0:=A0.o;refine bodyPost_ret (results_tmp2 rfl _ _ _) rfl ?_;refine bO ?_ ?_ (by first | exact aP _ _ | exact a8 _ _ _)
      · rw[Bool.eq_iff_iff,bE,aT];first | (simp;done) | (simp;omega) | (simp[IntKind.wrap_i64];omega)
      rw[bE,aT];first | (simp[cX];done) | (simp[cX];omega) | (simp[cX,wrap64];omega) | (simp[cX,IntKind.wrap_i64];omega)
   have htb:(decide ((0:Int)<=a)&&decide (a<=63))=false:=by rw[Bool.and_eq_false_iff,decide_eq_false_iff_not,decide_eq_false_iff_not];omega
   go_in;go_wp2_with fail;all_goals
    go_quiet ((go_at_call 63;first | exact cG _ _ _ _ _ aA | exact cF _ _ _ _ _ aA | exact dP _ _ _ _ _))
    go_wp2_with fail
   all_goals
    have a0:=A0.o;refine bodyPost_ret (results_tmp2 rfl _ _ _) rfl ?_;refine bO ?_ ?_ (by first | exact aP _ _ | exact a8 _ _ _)
    · rw[Bool.eq_iff_iff,bE,aT];first | (simp;done) | (simp;omega) | (simp[IntKind.wrap_i64];omega)
    rw[bE,aT];first | (simp[cX];done) | (simp[cX];omega) | (simp[cX,wrap64];omega) | (simp[cX,IntKind.wrap_i64];omega)
 have a0b:(a==0)=false:=by simp[a0]
 have A0:=aB a0;clear a0;by_cases ht:0<=a/\a<=63
 · obtain⟨hl,hh⟩:=ht;go_in;go_wp2_with fail;all_goals
    go_quiet ((go_at_call 63;first | exact cG _ _ _ _ _ aA | exact cF _ _ _ _ _ aA | exact dP _ _ _ _ _))
    go_wp2_with fail
   all_goals
    have a0:=A0.o;refine bodyPost_ret (results_tmp2 rfl _ _ _) rfl ?_;refine bO ?_ ?_ (by first | exact aP _ _ | exact a8 _ _ _)
    · rw[Bool.eq_iff_iff,bE,aT];first | (simp;done) | (simp;omega) | (simp[IntKind.wrap_i64];omega)
    rw[bE,aT];first | (simp[cX];done) | (simp[cX];omega) | (simp[cX,wrap64];omega) | (simp[cX,IntKind.wrap_i64];omega)
 have htb:(decide ((0:Int)<=a)&&decide (a<=63))=false:=by rw[Bool.and_eq_false_iff,decide_eq_false_iff_not,decide_eq_false_iff_not];omega
 go_in;go_wp2_with fail;all_goals
  go_quiet ((go_at_call 63;first | exact cG _ _ _ _ _ aA | exact cF _ _ _ _ _ aA | exact dP _ _ _ _ _))
  go_wp2_with fail
 all_goals
  have a0:=A0.o;refine bodyPost_ret (results_tmp2 rfl _ _ _) rfl ?_;refine bO ?_ ?_ (by first | exact aP _ _ | exact a8 _ _ _)
  · rw[Bool.eq_iff_iff,bE,aT];first | (simp;done) | (simp;omega) | (simp[IntKind.wrap_i64];omega)
  rw[bE,aT];first | (simp[cX];done) | (simp[cX];omega) | (simp[cX,wrap64];omega) | (simp[cX,IntKind.wrap_i64];omega)
theorem JK (a b:Int) (w:World) :
 Calls Tryz.prog 62 #[.agg #[O S 10,O S a,O S b]] w (eR ⟨10,a,b⟩ w):=by
 by_cases a0:a=0
 · have a0b:(a==0)=true:=by simp[a0]
   have A0:=aB a0;clear a0;by_cases ht:0<=a/\a<=63
   · obtain⟨hl,hh⟩:=ht;go_in;go_wp2_with (go_at_call 63;refine (eJ _ _ _ _).mono ?_;rintro e w2 ⟨rfl,rfl⟩)
     all_goals
      have a0:=A0.o;refine bodyPost_ret (results_tmp2 rfl _ _ _) rfl ?_;refine bO ?_ ?_ (by first | exact aP _ _ | exact a8 _ _ _)
      · rw[Bool.eq_iff_iff,bE,aT];first | (simp;done) | (simp;omega) | (simp[IntKind.wrap_i64];omega)
      rw[bE,aT];first | (simp[cX];done) | (simp[cX];omega) | (simp[cX,wrap64];omega) | (simp[cX,IntKind.wrap_i64];omega)
   have htb:(decide ((0:Int)<=a)&&decide (a<=63))=false:=by rw[Bool.and_eq_false_iff,decide_eq_false_iff_not,decide_eq_false_iff_not];omega
   have HT:=aB ht;clear ht;go_in;go_wp2_with (go_at_call 63;refine (eJ _ _ _ _).mono ?_;rintro e w2 ⟨rfl,rfl⟩)
   all_goals
    have a0:=A0.o;have ht:=HT.o;refine bodyPost_ret (results_tmp2 rfl _ _ _) rfl ?_;refine bO ?_ ?_ (by first | exact aP _ _ | exact a8 _ _ _)
    · rw[Bool.eq_iff_iff,bE,aT];first | (simp;done) | (simp;omega) | (simp[IntKind.wrap_i64];omega)
    rw[bE,aT];first | (simp[cX];done) | (simp[cX];omega) | (simp[cX,wrap64];omega) | (simp[cX,IntKind.wrap_i64];omega)
 have a0b:(a==0)=false:=by simp[a0]
 have A0:=aB a0;clear a0;by_cases ht:0<=a/\a<=63
 · obtain⟨hl,hh⟩:=ht;go_in;go_wp2_with (go_at_call 63;refine (eJ _ _ _ _).mono ?_;rintro e w2 ⟨rfl,rfl⟩)
   all_goals
    have a0:=A0.o;refine bodyPost_ret (results_tmp2 rfl _ _ _) rfl ?_;refine bO ?_ ?_ (by first | exact aP _ _ | exact a8 _ _ _)
    · rw[Bool.eq_iff_iff,bE,aT];first | (simp;done) | (simp;omega) | (simp[IntKind.wrap_i64];omega)
    rw[bE,aT];first | (simp[cX];done) | (simp[cX];omega) | (simp[cX,wrap64];omega) | (simp[cX,IntKind.wrap_i64];omega)
 have htb:(decide ((0:Int)<=a)&&decide (a<=63))=false:=by rw[Bool.and_eq_false_iff,decide_eq_false_iff_not,decide_eq_false_iff_not];omega
 have HT:=aB ht;clear ht;go_in;go_wp2_with (go_at_call 63;refine (eJ _ _ _ _).mono ?_;rintro e w2 ⟨rfl,rfl⟩)
 all_goals
  have a0:=A0.o;have ht:=HT.o;refine bodyPost_ret (results_tmp2 rfl _ _ _) rfl ?_;refine bO ?_ ?_ (by first | exact aP _ _ | exact a8 _ _ _)
  · rw[Bool.eq_iff_iff,bE,aT];first | (simp;done) | (simp;omega) | (simp[IntKind.wrap_i64];omega)
  rw[bE,aT];first | (simp[cX];done) | (simp[cX];omega) | (simp[cX,wrap64];omega) | (simp[cX,IntKind.wrap_i64];omega)
theorem JL (a b:Int) (w:World) :
 Calls Tryz.prog 62 #[.agg #[O S 11,O S a,O S b]] w (eR ⟨11,a,b⟩ w):=by
 by_cases a0:a=0
 · have a0b:(a==0)=true:=by simp[a0]
   have A0:=aB a0;clear a0;by_cases ht:0<=a/\a<=63
   · obtain⟨hl,hh⟩:=ht;go_in;go_wp2_with fail;all_goals
      go_quiet ((go_at_call 63;first | exact cG _ _ _ _ _ aA | exact cF _ _ _ _ _ aA | exact dP _ _ _ _ _))
      go_wp2_with fail
     all_goals
      have a0:=A0.o;refine bodyPost_ret (results_tmp2 rfl _ _ _) rfl ?_;refine bO ?_ ?_ (by first | exact aP _ _ | exact a8 _ _ _)
      · rw[Bool.eq_iff_iff,bE,aT];first | (simp;done) | (simp;omega) | (simp[IntKind.wrap_i64];omega)
      rw[bE,aT];first | (simp[cX];done) | (simp[cX];omega) | (simp[cX,wrap64];omega) | (simp[cX,IntKind.wrap_i64];omega)
   have htb:(decide ((0:Int)<=a)&&decide (a<=63))=false:=by rw[Bool.and_eq_false_iff,decide_eq_false_iff_not,decide_eq_false_iff_not];omega
   go_in;go_wp2_with fail;all_goals
    go_quiet ((go_at_call 63;first | exact cG _ _ _ _ _ aA | exact cF _ _ _ _ _ aA | exact dP _ _ _ _ _))
    go_wp2_with fail
   all_goals
    have a0:=A0.o;refine bodyPost_ret (results_tmp2 rfl _ _ _) rfl ?_;refine bO ?_ ?_ (by first | exact aP _ _ | exact a8 _ _ _)
    · rw[Bool.eq_iff_iff,bE,aT];first | (simp;done) | (simp;omega) | (simp[IntKind.wrap_i64];omega)
    rw[bE,aT];first | (simp[cX];done) | (simp[cX];omega) | (simp[cX,wrap64];omega) | (simp[cX,IntKind.wrap_i64];omega)
 have a0b:(a==0)=false:=by simp[a0]
 have A0:=aB a0;clear a0;by_cases ht:0<=a/\a<=63
 · obtain⟨hl,hh⟩:=ht;go_in;go_wp2_with fail;all_goals
    go_quiet ((go_at_call 63;first | exact cG _ _ _ _ _ aA | exact cF _ _ _ _ _ aA | exact dP _ _ _ _ _))
    go_wp2_with fail
   all_goals
    have a0:=A0.o;refine bodyPost_ret (results_tmp2 rfl _ _ _) rfl ?_;refine bO ?_ ?_ (by first | exact aP _ _ | exact a8 _ _ _)
    · rw[Bool.eq_iff_iff,bE,aT];first | (simp;done) | (simp;omega) | (simp[IntKind.wrap_i64];omega)
    rw[bE,aT];first | (simp[cX];done) | (simp[cX];omega) | (simp[cX,wrap64];omega) | (simp[cX,IntKind.wrap_i64];omega)
 have htb:(decide ((0:Int)<=a)&&decide (a<=63))=false:=by rw[Bool.and_eq_false_iff,decide_eq_false_iff_not,decide_eq_false_iff_not];omega
 go_in;go_wp2_with fail;all_goals
  go_quiet ((go_at_call 63;first | exact cG _ _ _ _ _ aA | exact cF _ _ _ _ _ aA | exact dP _ _ _ _ _))
  go_wp2_with fail
 all_goals
  have a0:=A0.o;refine bodyPost_ret (results_tmp2 rfl _ _ _) rfl ?_;refine bO ?_ ?_ (by first | exact aP _ _ | exact a8 _ _ _)
  · rw[Bool.eq_iff_iff,bE,aT];first | (simp;done) | (simp;omega) | (simp[IntKind.wrap_i64];omega)
  rw[bE,aT];first | (simp[cX];done) | (simp[cX];omega) | (simp[cX,wrap64];omega) | (simp[cX,IntKind.wrap_i64];omega)
theorem JM (a b:Int) (w:World) :
 Calls Tryz.prog 62 #[.agg #[O S 12,O S a,O S b]] w (eR ⟨12,a,b⟩ w):=by
 by_cases a0:a=0
 · have a0b:(a==0)=true:=by simp[a0]
   have A0:=aB a0;clear a0;by_cases ht:1<=b/\b<=4
   · obtain⟨hl,hh⟩:=ht;go_in;go_wp2_with fail;all_goals
      go_quiet ((go_at_call 63;first | exact cG _ _ _ _ _ aA | exact cF _ _ _ _ _ aA | exact dP _ _ _ _ _))
      go_wp2_with fail
     all_goals
      have a0:=A0.o;refine bodyPost_ret (results_tmp2 rfl _ _ _) rfl ?_;refine bO ?_ ?_ (by first | exact aP _ _ | exact a8 _ _ _)
      · rw[Bool.eq_iff_iff,bE,aT];first | (simp;done) | (simp;omega) | (simp[IntKind.wrap_i64];omega)
      rw[bE,aT];first | (simp[cX];done) | (simp[cX];omega) | (simp[cX,wrap64];omega) | (simp[cX,IntKind.wrap_i64];omega)
   have htb:(decide ((1:Int)<=b)&&decide (b<=4))=false:=by rw[Bool.and_eq_false_iff,decide_eq_false_iff_not,decide_eq_false_iff_not];omega
   go_in;go_wp2_with fail;all_goals
    go_quiet ((go_at_call 63;first | exact cG _ _ _ _ _ aA | exact cF _ _ _ _ _ aA | exact dP _ _ _ _ _))
    go_wp2_with fail
   all_goals
    have a0:=A0.o;refine bodyPost_ret (results_tmp2 rfl _ _ _) rfl ?_;refine bO ?_ ?_ (by first | exact aP _ _ | exact a8 _ _ _)
    · rw[Bool.eq_iff_iff,bE,aT];first | (simp;done) | (simp;omega) | (simp[IntKind.wrap_i64];omega)
    rw[bE,aT];first | (simp[cX];done) | (simp[cX];omega) | (simp[cX,wrap64];omega) | (simp[cX,IntKind.wrap_i64];omega)
 have a0b:(a==0)=false:=by simp[a0]
 have A0:=aB a0;clear a0;by_cases ht:1<=b/\b<=4
 · obtain⟨hl,hh⟩:=ht;go_in;go_wp2_with fail;all_goals
    go_quiet ((go_at_call 63;first | exact cG _ _ _ _ _ aA | exact cF _ _ _ _ _ aA | exact dP _ _ _ _ _))
    go_wp2_with fail
   all_goals
    have a0:=A0.o;refine bodyPost_ret (results_tmp2 rfl _ _ _) rfl ?_;refine bO ?_ ?_ (by first | exact aP _ _ | exact a8 _ _ _)
    · rw[Bool.eq_iff_iff,bE,aT];first | (simp;done) | (simp;omega) | (simp[IntKind.wrap_i64];omega)
    rw[bE,aT];first | (simp[cX];done) | (simp[cX];omega) | (simp[cX,wrap64];omega) | (simp[cX,IntKind.wrap_i64];omega)
 have htb:(decide ((1:Int)<=b)&&decide (b<=4))=false:=by rw[Bool.and_eq_false_iff,decide_eq_false_iff_not,decide_eq_false_iff_not];omega
 go_in;go_wp2_with fail;all_goals
  go_quiet ((go_at_call 63;first | exact cG _ _ _ _ _ aA | exact cF _ _ _ _ _ aA | exact dP _ _ _ _ _))
  go_wp2_with fail
 all_goals
  have a0:=A0.o;refine bodyPost_ret (results_tmp2 rfl _ _ _) rfl ?_;refine bO ?_ ?_ (by first | exact aP _ _ | exact a8 _ _ _)
  · rw[Bool.eq_iff_iff,bE,aT];first | (simp;done) | (simp;omega) | (simp[IntKind.wrap_i64];omega)
  rw[bE,aT];first | (simp[cX];done) | (simp[cX];omega) | (simp[cX,wrap64];omega) | (simp[cX,IntKind.wrap_i64];omega)
theorem GL (op a b:Int) (w:World) (hop:¬ (1<=op/\op<=12/\op ≠ 3)) :
 Calls Tryz.prog 62 #[.agg #[O S op,O S a,O S b]] w (eR ⟨op,a,b⟩ w):=by
 have b1:(op==1)=false:=beq_eq_false_iff_ne.2 aA;have b2:(op==2)=false:=beq_eq_false_iff_ne.2 aA;have b4:(op==4)=false:=beq_eq_false_iff_ne.2 aA;have b5:(op==5)=false:=beq_eq_false_iff_ne.2 aA;have b6:(op==6)=false:=beq_eq_false_iff_ne.2 aA;have b7:(op==7)=false:=beq_eq_false_iff_ne.2 aA;have b8:(op==8)=false:=beq_eq_false_iff_ne.2 aA;have b9:(op==9)=false:=beq_eq_false_iff_ne.2 aA;have b10:(op==10)=false:=beq_eq_false_iff_ne.2 aA;have b11:(op==11)=false:=beq_eq_false_iff_ne.2 aA;have b12:(op==12)=false:=beq_eq_false_iff_ne.2 aA;have HOP:=aB hop;clear hop;by_cases a0:a=0
 · have a0b:(a==0)=true:=by simp[a0]
   clear a0;go_in;go_wp2_with fail;all_goals
    refine bodyPost_ret (results_tmp2 rfl _ _ _) rfl ?_;refine bO ?_ ?_ (aP _ _)
    · have hop:=HOP.o;symm;rw[nA,aT];dsimp only;omega
    have hop:=HOP.o;rw[bE,aT];dsimp only;omega
 have a0b:(a==0)=false:=by simp[a0]
 clear a0;go_in;go_wp2_with fail;all_goals
  refine bodyPost_ret (results_tmp2 rfl _ _ _) rfl ?_;refine bO ?_ ?_ (aP _ _)
  · have hop:=HOP.o;symm;rw[nA,aT];dsimp only;omega
  have hop:=HOP.o;rw[bE,aT];dsimp only;omega
theorem uZ (op a b:Int) (w:World) :
 Calls Tryz.prog 62 #[.agg #[O S op,O S a,O S b]] w (eR ⟨op,a,b⟩ w):=by
 by_cases hop:1<=op/\op<=12/\op ≠ 3
 · have:op=1\/op=2\/op=4\/op=5\/op=6\/op=7\/op=8\/op=9\/op=10\/op=11\/op=12:=aA;rcases this with rfl | rfl | rfl | rfl | rfl | rfl | rfl | rfl | rfl | rfl | rfl
   · exact MI a b w
   · exact MJ a b w
   · exact MK a b w
   · exact ML a b w
   · exact MM a b w
   · exact MN a b w
   · exact MO a b w
   · exact MP a b w
   · exact JK a b w
   · exact JL a b w
   exact JM a b w
 exact GL op a b w hop
theorem u6 (op a b:Int) (w:World) (h:eE ⟨op,a,b⟩=true) :
 Calls Tryz.prog 62 #[.agg #[O S op,O S a,O S b]] w fun e w'=>e=.returned (.tuple #[O S (cX op b),.bool true])/\Below w.heap.size w w' :=
 (uZ op a b w).mono fun _ _ ⟨⟨k,h1,h2⟩,h3⟩=>⟨by rw[h1,h,h2 h],h3⟩
theorem JN (op a b:Int) (w:World) (h:eE ⟨op,a,b⟩=false) :
 Calls Tryz.prog 62 #[.agg #[O S op,O S a,O S b]] w fun e w'=>(∃k:Int,e=.returned (.tuple #[O S k,.bool false]))/\Below w.heap.size w w' :=
 (uZ op a b w).mono fun _ _ ⟨⟨k,h1,_⟩,h3⟩=>⟨⟨k,by rw[h1,h]⟩,h3⟩
theorem BW (n:Nd) (F1:Fo) (pre:List Nd) (nd:Nd) (a:List Nd) (ks:Fo):L9 n.op n.b 0 (F1.app (.cons pre nd a ks .nil))=L9 n.op n.b 0 F1++[aQ n.op n.b (bH F1)]:=by
 rw[EJ,Nat.zero_add];rfl
theorem mP (F1:Fo) (pre:List Nd) (nd:Nd) (a:List Nd) (ks:Fo):iJ (F1.app (.cons pre nd a ks .nil))=iJ F1++[row (.cons [] nd a ks .nil)]:=by
 rw[vY];rfl
theorem rV {op b k:Int} (h:op ≠ 12):aQ op b k=eN op k:=by
 simp[aQ,eN,h]
theorem I8.setAt {g:Nat} {A:Option Addr} {n c p j:Nat} {A1:Option Addr} {k1:Nat} {A2:Option Addr} {k2:Nat} {xs1 xs2:List Value} {w:World} (h:I8 g A n c p j A1 k1 A2 k2 xs1 xs2 w) (p':Nat) :
 I8 g A n c p' j A1 k1 A2 k2 xs1 xs2 (w.setCell ⟨g+4,0,Y⟩ (O S (p':Int))) :=
 ⟨h.bt.far aD _,h.bo.far aD _,h.br.far aD _,h.ba.set_ 0 _,ownsRow_setCell_below (a:=⟨g+4,0,Y⟩) h.own1 aD _,ownsRow_setCell_below (a:=⟨g+4,0,Y⟩) h.own2 aD _,h.off⟩
theorem I8.alloc {g:Nat} {A:Option Addr} {n c p j:Nat} {A1:Option Addr} {k1:Nat} {A2:Option Addr} {k2:Nat} {xs1 xs2:List Value} {w:World} (h:I8 g A n c p j A1 k1 A2 k2 xs1 xs2 w) (o:Obj) :
 I8 g A n c p j A1 k1 A2 k2 xs1 xs2 (w.alloc o) :=
 ⟨h.bt.alloc _,h.bo.alloc _,h.br.alloc _,h.ba.alloc _,h.own1.alloc _,h.own2.alloc _,h.off⟩
def uU (A:Nd) (k:Fo) (w:World) (e:Ending) (w':World):Prop:=Below w.heap.size w w'/\∃A1 k1 A2 k2 xs1,e=.returned (.tuple #[X A1 (bH k) k1,X A2 (bH k) k2]) ∧
 w'.ownsRow (w.heap.size+5) 28 1 (X A1 (bH k) k1) (bH k) xs1/\w'.ownsRow (w.heap.size+5) 3 1 (X A2 (bH k) k2) (bH k) ((L9 A.op A.b 0 k).map (Value.int .i64))/\eL (· < w.heap.size) w xs1 (iJ k)
theorem H7 {A:Option Addr} {nn c:Nat} {l:List Nd} {w:World} {n:Nd} {ats:List Nd} {k:Fo} (h:bB w A nn c l) (hs:bC l=0) (hpp:pp [false] l=Z (.cons [] n ats k .nil,[])) :
 Calls Tryz.prog 103 #[X A nn c] w (uU n k w):=by
 obtain⟨hok,hv1,hvk,hall,hpre,hrow,hl4,hfs⟩:=qD hs hpp;have hlen:=h.len;have hpos:0<nn:=by rw[<-hlen,hrow];simp
 have hn0:bD l 0=n:=by rw[hrow];rfl
 obtain⟨tb,toff,rfl,htb,g0,g1,g2⟩:=h.at_ hpos;simp only[Nat.zero_mul,Nat.add_zero] at g0 g1 g2;rw[hn0] at g0 g1 g2;have H:=aB h;clear h;go_in;go_wp2_with fail;have hbk : -1000<=n.b/\n.b<=1000:=by
  have h1:=(bE n).1 hok;have h2:=aT.1 h1.1;omega
 refine (oQ n.op n.a n.b _ hbk).mono ?_;rintro e w6 ⟨rfl,hw6⟩;have hb5:Below w.heap.size w (((((w.alloc (I #[X (Z ⟨tb,toff,Y⟩) nn c] 28)).alloc (I #[O S n.op,O S n.a,O S n.b] 40)).alloc (I #[X Y 0 0] 65)).alloc (I #[X Y 0 0] 106)).alloc (I #[O S 1] 3)) :=
  ((((aP w _).alloc aD _).alloc aH _).alloc aH _).alloc aH _
 have hb6:=hb5.alloc hb5.size (I #[O S n.op,O S n.a,O S n.b] 40);rw[hw6] at hb6;have hst:I8 w.heap.size (Z ⟨tb,toff,Y⟩) nn c 1 0 Y 0 Y 0 [] [] w6:=by
  subst hw6;refine⟨?_,?_,?_,?_,World.ownsRow_nil _ _ _ _,World.ownsRow_nil _ _ _ _,fun b h=>by simp[Value.ownBlock] at h⟩
  · exact (((((aS.new _ _ _).alloc _).alloc _).alloc _).alloc _).alloc _
  · exact (((aS.new' aD).alloc _).alloc _).alloc _
  · exact ((aS.new' aD).alloc _).alloc _
  exact (aS.new' aD).alloc _
 have hnd:aS w6 (w.heap.size+1) 40 #[O S n.op,O S n.a,O S n.b]:=by
  subst hw6;exact ((((aS.new' aD).alloc _).alloc _).alloc _).alloc _
 clear hw6 hb5;go_wp2_with fail;have hkw:Wf (ds n) k:=(iG hpp).2.2.2.1;have hats:n.op ≠ 2->ats=[]:=fun h2=>by
  have h3:=(iG hpp).2.2.1;unfold iY at h3;rw[if_neg h2] at h3;exact h3
 go_loopw [16] (fun i wr=>∃(F1 F2:Fo) (j p:Nat) (A1:Option Addr) (k1:Nat) (A2:Option Addr) (k2:Nat) (xs1 xs2:List Value),Hid (k=F1.app F2)/\Hid (bH F1=if n.op=12 then 2*j else j)/\(j:Int)<=dU n.op n.b/\i=O S (j:Int) ∧
  Hid (F2=.nil\/l.drop p=row F2)/\p<=l.length/\Hid (Wf (gW n j) F2)/\Hid (I8 w.heap.size (Z ⟨tb,toff,Y⟩) nn c p (bH F1) A1 k1 A2 k2 xs1 xs2 wr) ∧
  Hid (aS wr (w.heap.size+1) 40 #[O S n.op,O S n.a,O S n.b])/\Hid (Below w.heap.size w wr)/\Hid (eL (· < w.heap.size) w xs1 (iJ F1))/\Hid (xs2=(L9 n.op n.b 0 F1).map (Value.int .i64))) (fun i _=>(dU n.op n.b).toNat-(intOf i).toNat)
 case atStart =>
  refine⟨.nil,k,0,1,Y,0,Y,0,[],[],aB rfl,aB (by simp[bH]),?_,by go_num,aB ?_,by omega,aB (by rw[p8];exact hkw),aB hst,aB hnd,aB hb6,aB trivial,aB rfl⟩
  · have h1:=(bE n).1 hok;have h2:=aT.1 h1.1;simp only[dU]
    repeat' split
    all_goals omega
  by_cases h2:n.op=2
  · left;have h3:ds n=[]:=by simp[ds,dU,h2]
    rw[h3] at hkw;cases k with
    | nil=>rfl
    | cons _ _ _ _ _=>exact hkw.elim
  right;rw[hrow,hats h2];rfl
 case round =>
  obtain⟨F1,F2,j,p,A1,k1,A2,k2,xs1,xs2,hk,hfl,hjk,rfl,hF2,hp,hwf,hst,hnd,hbw,hrows,hints⟩:=hrel;have zn:=(hnd.o).cell;have z2:wr.cell? ⟨w.heap.size+1+1,0,Y⟩=Z (X A1 (bH F1) k1):=hst.o.bo.cell 0;have z3:wr.cell? ⟨w.heap.size+1+1+1,0,Y⟩=Z (X A2 (bH F1) k2):=hst.o.br.cell 0;have hjb:(j:Int)<=1002:=by
   have h1:dU n.op n.b<=1002:=by
    simp only[dU]
    repeat' split
    all_goals omega
   omega
  by_cases hlt:(j:Int)<dU n.op n.b;rotate_left
  · have hkf:Hid (k=F1):=by
     have hw2:=hwf.o;rw[sX n aA] at hw2
     match F2,hw2,hk with
     | .nil,_,hk=>exact aB (hk.o.trans (i9 F1))
    go_wp2_with fail;go_quiet (fail)
    go_wp2_with fail;go_ret2;refine⟨aV hbw.o _,A1,k1,A2,k2,xs1,by rw[hkf.o];rfl,?_,?_,?_⟩
    · rw[hkf.o];exact hst.o.own1
    · rw[hkf.o,<-hints.o];exact hst.o.own2
    rw[hkf.o];exact hrows.o
  by_cases h12:n.op=12
  · have c12:(n.op==12)=true:=beq_iff_eq.2 h12;have H12:=aB h12;have z4:wr.cell? ⟨w.heap.size+1+1+1+1,0,Y⟩=Z (O S (p:Int)):=hst.o.ba.cell 0;have zf4:wr.frozen? ⟨w.heap.size+1+1+1+1,0,Y⟩=false:=hst.o.ba.frozen 0;clear h12;have hkb:dU n.op n.b=n.b:=by simp[dU,H12.o]
    have hw2:=hwf.o;rw[sY H12.o aA] at hw2
    match F2,hw2,hk,hF2 with
    | .cons pre nd a ks F3,hw3,hk,hF2 =>
    obtain⟨f,rfl,_⟩:=hw3.1
    match F3,hw3,hk,hF2 with
    | .cons pre2 nd2 a2 ks2 F4,hw3,hk,hF2 =>
    have hw4:=hw3.2.2.2.2;have hp2:pre2=[]:=hw4.1;subst hp2;have hl2:=hF2.o.resolve_left aD;obtain⟨q1,he1,hd1,hpq1,hq1,ht1⟩:=sJ hw3 hl2 hp;obtain⟨q2,he2,hd2,hpq2,hq2,ht2⟩:=sJ hw4 hd1 hq1;simp only[List.length_cons,List.length_nil,Nat.zero_add,Nat.add_zero] at he1 hpq1 ht1 he2 hpq2 ht2;have HE1:=aB he1;have HT1:=aB ht1;have HE2:=aB he2;have HT2:=aB ht2;have HD2:=aB hd2;have HW5:=aB hw4.2.2.2.2;have HKB:=aB hkb;have HTW:Hid (∀w1,Below w.heap.size w w1->bP (· < w.heap.size) w1 (Z ⟨tb,toff,Y⟩) nn c l):=aB fun w1 hb=>H.o.keep fun b hb'=>⟨hb',fun o=>aU (hb.block b hb') o⟩;have hst1:=hst.o.setAt (p+1);have hb1:Below w.heap.size w (wr.setCell ⟨w.heap.size+4,0,Y⟩ (O S ((p+1:Nat):Int))):=hbw.o.setCell aD _;have HFL:Hid (bH F1=2*j):=aB (by have:=hfl.o;rwa [if_pos H12.o] at this);have hf1:bH F1<=2004:=by have:=HFL.o;omega
    have hnd1:aS (wr.setCell ⟨w.heap.size+4,0,Y⟩ (O S ((p+1:Nat):Int))) (w.heap.size+1) 40 #[O S n.op,O S n.a,O S n.b]:=hnd.o.far aD _;have hcall:=sM hst1 (HTW.o _ hb1) HE1.o hpq1 aA aA 0;have HCALL:=aB hcall;have HB1:=aB hb1;have HND1:=aB hnd1;clear hkb hw2 hw3 hw4 hl2 he1 hd1 ht1 he2 hd2 ht2 hst1 hb1 hcall hwf hfl hnd1;go_wp2_with fail;have hcast:((p:Int)+1)=((p+1:Nat):Int):=aA;rw[hcast];refine (HCALL.o).mono ?_;rintro e w3 ⟨rfl,hb3,hs3,hg3,A1',k1',A2',k2',A',hst3,hpc3⟩;have hnd3:aS w3 (w.heap.size+1) 40 #[O S n.op,O S n.a,O S n.b]:=hg3.trans HND1.o;have hb4:=HB1.o.trans hb3;have hcall2:=sM hst3 (HTW.o _ hb4) HE2.o hpq2 aA aA n.b;have HCALL2:=aB hcall2;have zn3:=hnd3.cell;have HND3:=aB hnd3;have HB4:=aB hb4;have HST3:=aB hst3;have HPC3:=aB hpc3;clear hcall2 hst3 hg3 hb3 hb4 hnd3 z2 z3 z4 zf4 zn hs3 hcast hpc3;go_wp2_with fail;refine (HCALL2.o).mono ?_;rintro e w5 ⟨rfl,hb5,hs5,hg5,A1'',k1'',A2'',k2'',A'',hst5,hpc5⟩;have hnd5:=hg5.trans HND3.o;have hb6':=HB4.o.trans hb5;have HND5:=aB hnd5;have HB6:=aB hb6';have HST5:=aB hst5;have HPC5:=aB hpc5;clear hnd5 hb6' hst5 hpc5 hg5 hb5 zn3;go_wp2_with fail;go_roundw
    case rel =>
     refine⟨(F1.app (.cons [f] nd a ks .nil)).app (.cons [] nd2 a2 ks2 .nil),F4,j+1,q2,A1'',k1'',A2'',k2'',(xs1++[X A' (q1-(p+1)) (c-(p+1))])++[X A'' (q2-q1) (c-q1)],(xs2++[O S 0])++[O S n.b],aB ?_,aB ?_,by omega,by go_num,aB (.inr HD2.o),hq2,HW5,?_,HND5,HB6,aB ?_,aB ?_⟩;rotate_left 2
     · have e:bH ((F1.app (.cons [f] nd a ks .nil)).app (.cons [] nd2 a2 ks2 .nil))=bH F1+1+1:=by simp[bS,bH]
       rw[e];exact HST5
     · rw[mP,mP];refine eL.add ?_ (eL.add ?_ hrows.o)
       · rw[<-HT2.o];exact HPC5.o _ _ H.o
       rw[<-HT1.o];exact HPC3.o _ _ H.o
     · rw[BW,BW,hints.o];have e:bH (F1.app (.cons [f] nd a ks .nil))=2*j+1:=by have:=HFL.o;simp[bS,bH,this]
       rw[e,HFL.o];simp[aQ,H12.o]
     · rw[hk.o,dI,dI];rfl
     rw[if_pos H12.o];have:=HFL.o;simp[bS,bH];omega
    case measure =>
     have:=HKB.o;simp[intOf];omega
  have c12:(n.op==12)=false:=beq_eq_false_iff_ne.2 h12;have H12:=aB h12;clear h12;have hw2:=hwf.o;rw[sZ H12.o hlt] at hw2
  match F2,hw2,hk,hF2 with
  | .cons pre nd a ks F3,hw3,hk,hF2 =>
  have hp2:pre=[]:=hw3.1;subst hp2;have hl2:=hF2.o.resolve_left aD;obtain⟨q1,he1,hd1,hpq1,hq1,ht1⟩:=sJ hw3 hl2 hp;simp only[List.length_nil,Nat.add_zero] at he1 hpq1 ht1;have HE1:=aB he1;have HT1:=aB ht1;have HD1:=aB hd1;have HW5:=aB hw3.2.2.2.2;have HTW:Hid (∀w1,Below w.heap.size w w1->bP (· < w.heap.size) w1 (Z ⟨tb,toff,Y⟩) nn c l):=aB fun w1 hb=>H.o.keep fun b hb'=>⟨hb',fun o=>aU (hb.block b hb') o⟩;have hst1:=hst.o.alloc (I #[O S n.op,O S n.a,O S n.b] 40);have hb1:Below w.heap.size w (wr.alloc (I #[O S n.op,O S n.a,O S n.b] 40)):=hbw.o.alloc hbw.o.size _;have HFL:Hid (bH F1=j):=aB (by have:=hfl.o;rwa [if_neg H12.o] at this);have hf1:bH F1<=2004:=by have:=HFL.o;omega
  have hnd1:aS (wr.alloc (I #[O S n.op,O S n.a,O S n.b] 40)) (w.heap.size+1) 40 #[O S n.op,O S n.a,O S n.b]:=hnd.o.alloc _;have hcall:=sM hst1 (HTW.o _ hb1) HE1.o hpq1 aA aA (eN n.op (j:Int));have HCALL:=aB hcall;have HB1:=aB hb1;have HND1:=aB hnd1;clear hw2 hw3 hl2 he1 hd1 ht1 hst1 hb1 hcall hwf hfl hnd1;go_wp2_with (go_at_call 101;refine (qM _ _ _ _ _).mono ?_;rintro e w3 ⟨rfl,rfl⟩)
  refine (HCALL.o).mono ?_;rintro e w3 ⟨rfl,hb3,hs3,hg3,A1',k1',A2',k2',A',hst3,hpc3⟩;have hnd3:aS w3 (w.heap.size+1) 40 #[O S n.op,O S n.a,O S n.b]:=hg3.trans HND1.o;have hb4:=HB1.o.trans hb3;have HND3:=aB hnd3;have HB4:=aB hb4;have HST3:=aB hst3;have HPC3:=aB hpc3;clear hst3 hg3 hb3 hb4 hnd3 z2 z3 zn hs3 hpc3;go_wp2_with fail;go_roundw
  case rel =>
   refine⟨F1.app (.cons [] nd a ks .nil),F3,j+1,q1,A1',k1',A2',k2',xs1++[X A' (q1-p) (c-p)],xs2++[O S (eN n.op (j:Int))],aB ?_,aB ?_,by omega,by go_num,aB (.inr HD1.o),hq1,HW5,?_,HND3,HB4,aB ?_,aB ?_⟩;rotate_left 2
   · have e:bH (F1.app (.cons [] nd a ks .nil))=bH F1+1:=by simp[bS,bH]
     rw[e];exact HST3
   · rw[mP];refine eL.add ?_ hrows.o;rw[<-HT1.o];exact HPC3.o _ _ H.o
   · rw[BW,hints.o,HFL.o,rV H12.o];simp
   · rw[hk.o,dI];rfl
   rw[if_neg H12.o];have:=HFL.o;simp[bS,bH];omega
  case measure=>simp[intOf];omega
theorem NC {w:World} {base g n c:Nat} {e:TypeId} {xs:List Value} (h:w.ownsRow base e 1 (X (Z ⟨g,0,Y⟩) n c) n xs) (i:Nat) (u:Value):(w.setCell ⟨g,i,Y⟩ u).ownsRow base e 1 (X (Z ⟨g,0,Y⟩) n c) n (xs.set i u):=by
 obtain⟨hl,hc⟩:=h;refine⟨by simpa using hl,.inr ?_⟩;rcases hc with⟨h1,_⟩ | ⟨g',cap,cur,hv,hg,hh,h1,h2,h3,h4⟩
 · cases h1
 injection hv with e1 e2 e3;injection e1 with e1;injection e1 with e1;subst e1 e3;refine⟨g,c,cur.setIfInBounds i u,rfl,hg,?_,h1,h2,by simpa using h3,?_⟩
 · have hb:aS w g e cur:=hh;exact hb.set_ i u
 rw[Array.toList_setIfInBounds,List.take_set,h4]
end Go.Proofs.YtjllmblbbgojbaaGreat
