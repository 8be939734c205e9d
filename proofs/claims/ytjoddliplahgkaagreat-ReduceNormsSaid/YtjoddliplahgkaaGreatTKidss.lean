/- Merged: LiftP, TermP, TermP2, TermP3, TermP4, Parts0, KidsD, Parts1, Clone, Count, Parts, Kids. -/
import Derived.Test.YtjoddliplahgkaaGreatTSubst
import Derived.Test.YtjoddliplahgkaaGreatTRowsD
namespace Go.Proofs.YtjoddliplahgkaaGreat
set_option linter.unusedVariables false
set_option linter.unusedSimpArgs false
open Go.RowKit
open Go.Value renaming int → O, slice → X
open Go.IntKind renaming i64 → S
open Option renaming none → Y, some → Z
open Go.Obj renaming cells → I
open Go.Lib renaming hid->aB
set_option maxHeartbeats 4000000
set_option maxRecDepth 100000
def lE(up:Int)(n:Nd)(f:Int):Nd:=if n.op=1/\f<=n.a then ⟨1,n.a+up,0⟩ else n
def s9(n:Nd)(a:List Nd)(f:Int):List Nd:=if n.op=1/\f<=n.a then [] else a
def LA(D F up:Int):Nat->Int->Fo->Fo
 | _,_,.nil=>.nil
 | j,f,.cons p n a k x=>.cons p (lE up n (f+aR D F j)) (s9 n a (f+aR D F j)) (if n.op=1/\f+aR D F j<=n.a then .nil else LA n.op n.b up 0 (f+aR D F j) k) (LA D F up (j+1) f x)
def tA(up:Int)(n:Nd)(k:Fo)(f:Int):Fo:=if n.op=1/\f<=n.a then .nil else LA n.op n.b up 0 f k
theorem mG(D F up:Int)(j:Nat)(f:Int)(p:List Nd)(n:Nd)(a:List Nd)(k x:Fo):LA D F up j f (.cons p n a k x)=.cons p (lE up n (f+aR D F j)) (s9 n a (f+aR D F j)) (tA up n k (f+aR D F j)) (LA D F up (j+1) f x):=rfl
theorem EO(D G up:Int):∀(j:Nat)(f:Int)(F:Fo),bE (LA D G up j f F)=bE F
 | _,_,.nil=>rfl
 | j,f,.cons p n a k x=>by rw[mG];simp only[bE,EO D G up (j+1) f x]
theorem AI(D G up:Int):∀(j:Nat)(f:Int)(F:Fo),cG (LA D G up j f F)=cG F
 | _,_,.nil=>rfl
 | j,f,.cons p n a k x=>by rw[mG];simp only[cG,AI D G up (j+1) f x]
theorem LB(D U up:Int):∀(j:Nat)(f:Int)(F G:Fo),LA D U up j f (F.app G)=(LA D U up j f F).app (LA D U up (j+bE F) f G)
 | _,_,.nil,G=>by simp[Fo.app,LA,bE]
 | j,f,.cons p n a k x,G=>by
  have:=LB D U up (j+1) f x G;rw[show (Fo.cons p n a k x).app G=.cons p n a k (x.app G) from rfl,mG,mG,this];simp only[Fo.app,bE];rw[show j+1+bE x=j+(bE x+1) from by omega]
def bM(R:Nat->Prop)(w w':aAB)(b:Nat):Prop:=R b\/eC w w' b
def fF(R:Nat->Prop)(w:aAB)(n:Nd)(ats:List Nd)(D:Fo)(e:Ending)(w':aAB):Prop:=ZY w w'/\∃ys,e=.returned (.agg ys.toArray)/\cJ (bM R w w') w' ys n ats D
def oN(R:Nat->Prop)(B:Nat)(w:aAB)(u:Value)(b:Nat):Prop:=(R b\/(B<=b/\b<w.heap.size))/\u.ownBlock≠Z b
theorem zV{R:Nat->Prop}{B0 B:Nat}{wr V w2 W w' wf:aAB}{e1:TypeId}{s1 n1:Nat}{u:Value}{x1:List Value}{F:Fo}{xs ys:List Value}{nd:Nd}{ats:List Nd}{ks:Fo}{pre:List Nd}{A':ZZ}{m c':Nat}{zs:List Value}
 (a3:lO (oN R B wr u) wr F xs) (ht:cJ (bM R V w2) w2 ys nd ats ks) (hV:wr.heap.size<=V.heap.size) (hb:ZY wr w2) (hB:B<=wr.heap.size) (hR:∀b,R b->b<B0) (a5:B0<=B)
 (h1:wr.ownsRow B e1 s1 u n1 x1) (hW:ZY w2 W) (a0:fO W w' B e1 s1 u A' m c' zs)
 (a4:∀b,b<B0\/B<=b->∀o,wf.cell? ⟨b,o,Y⟩=w'.cell? ⟨b,o,Y⟩) (a9:wf.heap.size=w'.heap.size) :
 lO (oN R B wf (X A' m c')) wf (F.app (.cons pre nd ats ks .nil)) (xs++ys):=by
 have a6:=hW.size;have a7:=hb.size;have a8:=a0.grown.size;have G:∀b,b<w2.heap.size->(b<B0\/B<=b)->u.ownBlock≠Z b->∀o,wf.cell? ⟨b,o,Y⟩=w2.cell? ⟨b,o,Y⟩:=fun b D a1 U o=>by
  rw[a4 b a1 o,World.cell?_of_block (w:=W) (a0.grown.block b aA (fun e=>U e.symm)),hW.cell (p:=⟨b,o,Y⟩) D]
 have z:∀b,b<w2.heap.size->u.ownBlock≠Z b->(Value.slice A' m c').ownBlock≠Z b:=fun b D a1 e=>by
  rcases a0.new b e with e|e
  . exact a1 e
  omega
 refine lO.app F _ xs ys (lO.keep ?_ F xs a3) ?_
 . rintro b ⟨D,U⟩;have s:b<wr.heap.size:=by
    rcases D with h|h
    . have:=hR b h;omega
    exact h.2
   have a2:b<B0\/B<=b:=by
    rcases D with h|h
    . exact .inl (hR b h)
    exact .inr h.1
   refine⟨⟨D.imp id (fun h=>⟨h.1,by omega⟩),z b aA U⟩,fun o=>?_⟩;rw[G b aA a2 U,hb.cell (p:=⟨b,o,Y⟩) s]
 refine⟨ys,[],by simp,ht.keep ?_,rfl⟩;intro b hm;have hu:u.ownBlock≠Z b:=fun e=>by
  have h2:=aS h1 e;rcases hm with h|⟨h,_⟩
  . have:=hR b h;omega
  omega
 have s:b<w2.heap.size:=by
  rcases hm with h|⟨_,h⟩
  . have:=hR b h;omega
  exact h
 have a2:b<B0\/B<=b:=by
  rcases hm with h|⟨h,_⟩
  . exact .inl (hR b h)
  exact .inr aA
 refine⟨⟨?_,z b s hu⟩,G b s a2 hu⟩;rcases hm with h|⟨h,h'⟩
 . exact .inl h
 exact .inr ⟨by omega,by omega⟩


def Vk:Fo->Prop
 | .nil=>True
 | .cons _ n ats k x=>eW n=true/\(n.op=1->ats=[]/\k=.nil)/\Vk k/\Vk x
theorem UP{n:Nd}(h:n.op=1):ds n=[]:=by simp[ds,dU,h]
theorem DK{n:Nd}{ats:List Nd}{k:Fo}(D:iU n ats)(F:Wf (ds n) k)(h:n.op=1):ats=[]/\k=.nil:=by
 rw[UP h]at F;constructor
 . unfold iU at D;rw[XN aA]at D;exact D
 cases k with
 | nil=>rfl
 | cons _ _ _ _ _=>exact F.elim
theorem rY:∀(F:Fo)(o:List Bool),Wf o F->Vk F
 | .nil,_,_=>trivial
 | .cons _ _ _ _ _,[],h=>h.elim
 | .cons p n ats k x,d::dr,h=>by
  obtain⟨_,G,D,U,s⟩:=h;exact⟨G,DK D U,rY k _ U,rY x _ s⟩
theorem RI{n:Nd}(D:eW n=true)(h:n.op=1):0<=n.a/\n.a<=1048576/\n.b=0:=by
 simp only[eW,YC]at D;have:=D.1.1;rw[h]at this;simpa[cD] using this
theorem CW:∀(F:Fo),(∀m i,i % 2=0->Wf ((List.replicate m [true,false]).flatten) F->fU true i F)/\(∀m i,i % 2=1->Wf (false::(List.replicate m [true,false]).flatten) F->fU true i F)/\(∀m i,Wf (List.replicate m false) F->fU false i F)
 | .nil=>⟨fun _ _ _ _=>trivial,fun _ _ _ _=>trivial,fun _ _ _=>trivial⟩
 | .cons p n ats k x=>by
  have hk:=CW k;have z:=CW x;have kid:Wf (ds n) k->fU (decide (n.op=12)) 0 k:=fun h=>by
   unfold ds at h;by_cases U:n.op=12
   . rw[XP U]at h;rw[XR U];exact hk.1 _ 0 rfl h
   rw[XN U]at h;rw[XQ U];exact hk.2.2 _ 0 h
  refine⟨fun m i s h=>?_,fun m i s h=>?_,fun m i h=>?_⟩
  . cases m with
    | zero=>exact h.elim
    | succ m =>
     simp only[ZX,ZR,ZM,YO]at h;obtain⟨⟨f,o,_⟩,_,_,D,G⟩:=h;exact⟨by rw[o];simp[s],kid D,z.2.1 m (i+1) aA G⟩
  . obtain⟨o,_,_,D,G⟩:=h;simp only at o;exact⟨by rw[o];simp[s],kid D,z.1 m (i+1) aA G⟩
  . cases m with
    | zero=>exact h.elim
    | succ m =>
     rw[ZX]at h;obtain⟨o,_,_,D,G⟩:=h;simp only at o;exact⟨by rw[o];simp,kid D,z.2.2 m (i+1) G⟩
theorem mF{n:Nd}{k:Fo}(h:Wf (ds n) k):fU (decide (n.op=12)) 0 k:=by
 have F:=CW k;unfold ds at h;by_cases D:n.op=12
 . rw[XP D]at h;rw[XR D];exact F.1 _ 0 rfl h
 rw[XN D]at h;rw[XQ D];exact F.2.2 _ 0 h
theorem IS(m x y:Int):decide (m<=max x y)=(decide (m<=x)||decide (m<=y)):=by
 rw[<-Bool.decide_or];exact decide_eq_decide.2 aA
theorem KL{m a:Int}(F:0<=m){n:Nd}{k:Fo}(D:n.op=1->k=.nil)(ih:decide (m<=MW n.op n.b 0 a k)=oP (fun v z=>decide (m<=v-z)) n.op n.b 0 a k):decide (m<=sM n k a)=nI (fun v z=>decide (m<=v-z)) a n k:=by
 unfold sM nI;by_cases h:n.op=1
 . rw[XP h,D h,XR h];simp only[oP,Bool.or_false,YZ];exact decide_eq_decide.2 aA
 rw[XN h,XQ h,ih];simp
theorem IE{m:Int}(G:0<=m)(D U:Int):∀(j:Nat)(a:Int)(F:Fo),Vk F->decide (m<=MW D U j a F)=oP (fun v z=>decide (m<=v-z)) D U j a F
 | _,_,.nil,_=>XQ (by simp only[MW];omega)
 | j,a,.cons p n ats k x,h=>by
  rw[vX,eK,IS,IE G D U (j+1) a x h.2.2.2,KL G (fun q=>(h.2.1 q).2) (IE G n.op n.b 0 _ k h.2.2.1)]
theorem FE{up fr a:Int}{n:Nd}{ats:List Nd}{k:Fo}(D:eW n=true)(F:n.op=1->ats=[]/\k=.nil)(ih:LA n.op n.b up 0 (fr+a) k=uM up fr n.op n.b 0 a k):lE up n (fr+a)=AK up fr n a/\s9 n ats (fr+a)=ats/\tA up n k (fr+a)=uM up fr n.op n.b 0 a k:=by
 unfold lE AK s9 tA;by_cases h:n.op=1/\fr+a<=n.a
 . rw[XP h,XP h,XP h,XP h];have:=RI D h.1;refine⟨by rw[h.1,this.2.2],(F h.1).1.symm,by rw[(F h.1).2];rfl⟩
 rw[XN h,XN h,XN h,XN h];exact⟨rfl,rfl,ih⟩
theorem I9(up fr:Int)(D G:Int):∀(j:Nat)(a:Int)(F:Fo),Vk F->LA D G up j (fr+a) F=uM up fr D G j a F
 | _,_,.nil,_=>rfl
 | j,a,.cons p n ats k x,h=>by
  have U:=FE (up:=up) (fr:=fr) (a:=a+aR D G j) h.1 h.2.1 (I9 up fr n.op n.b 0 _ k h.2.2.1);rw[mG,Int.add_assoc,U.1,U.2.1,U.2.2,I9 up fr D G (j+1) a x h.2.2.2];rfl
section
section
variable {l : List Nd}{n : Nd}{ats : List Nd}{k : Fo}
theorem pD(hs:a6 l=0)(F:pp [false] l=Z (.cons [] n ats k .nil,[])):eW n=true/\(n.op=1->ats=[]/\k=.nil)/\Vk k/\dI k/\fU (decide (n.op=12)) 0 k/\l=n::(ats++row k)/\l.length<=4096/\aY k<=4096:=by
 obtain⟨hl,n',ats',k',D,G,o⟩:=eN hs;rw[F]at D;injection D with e;injection e with e1 _;injection e1 with _ e2 e3 e4 _;subst e2 e3 e4;have hw:=i9 F;have U:=rI F;obtain⟨_,z,h,s,_⟩:=hw;exact⟨z,DK h s,rY _ _ s,U.2.1,mF s,G,hl,o⟩
theorem GS(F:a6 l=0)(D:pp [false] l=Z (.cons [] n ats k .nil,[]))(v:Int):gH l v=(decide (sM n k 0<0)||decide (sM n k 0<v)):=by
 obtain⟨U,hv,G,_⟩:=pD F D;have h:=KL (m:=max v 0) (a:=0) aA (fun q=>(hv q).2) (IE aA n.op n.b 0 0 k G);unfold gH VG;rw[D,XR F];simp only;rw[<-h,YZ,<-Bool.decide_or,<-decide_not];exact decide_eq_decide.2 aA
end
end
theorem wB{l:List Nd}{p:Nat}{d:Bool}{dr:List Bool}{pre:List Nd}{nd:Nd}{a:List Nd}{D x:Fo}(hw:Wf (d::dr) (.cons pre nd a D x))(z:l.drop p=row (.cons pre nd a D x))(hp:p<=l.length):
 ∃q,ends [false] l (p+pre.length)=Z q/\l.drop q=row x/\p+pre.length<=q/\q<=l.length/\(l.take q).drop (p+pre.length)=row (.cons [] nd a D .nil):=by
 obtain⟨_,h,U,hk,hx⟩:=hw;have hd:l.drop (p+pre.length)=row (.cons [] nd a D .nil)++row x:=by
  rw[<-List.drop_drop,z];simp[row]
 have s:Wf [false] (.cons [] nd a D .nil):=⟨rfl,h,U,hk,trivial⟩;have o:=kV _ _ (row x) s;have F:=congrArg List.length z;rw[YS]at F;have G:(row (.cons pre nd a D x)).length=pre.length+((row (.cons [] nd a D .nil)).length+(row x).length):=by
  simp[row];omega
 rw[G]at F;refine⟨p+pre.length+(row (.cons [] nd a D .nil)).length,?_,?_,by omega,by omega,?_⟩
 . unfold ends;rw[hd,o];simp only[Option.map_some]
   congr 1
   omega
 . rw[<-List.drop_drop,hd];simp
 rw[List.drop_take,hd];have:p+pre.length+(row (.cons [] nd a D .nil)).length-(p+pre.length)=(row (.cons [] nd a D .nil)).length:=aA;rw[this];simp
def gC(l:List Nd):Nd×Fo:=if a6 l=0 then (match pp [false] l with|some (.cons _ n _ k _,_)=>(n,k)|_=>(⟨0,0,0⟩,.nil)) else (⟨0,0,0⟩,.nil)
def GB(D F:Int):Nat->Fo->List Int
 | _,.nil=>[]
 | j,.cons _ _ _ _ x=>aR D F j::GB D F (j+1) x
theorem J6(D U:Int):∀(j:Nat)(F G:Fo),GB D U j (F.app G)=GB D U j F++GB D U (j+bE F) G
 | _,.nil,G=>by simp[Fo.app,GB,bE]
 | j,.cons p n a k x,G=>by
  simp only[Fo.app,GB,bE,ZM];rw[J6 D U (j+1) x G,show j+1+bE x=j+(bE x+1) from by omega]
theorem BP(D G:Int):∀(j:Nat)(F:Fo),(GB D G j F).length=bE F
 | _,.nil=>rfl
 | j,.cons p n a k x=>by simp only[GB,bE,YA,BP D G (j+1) x]
theorem P6{w:aAB}{base n c:Nat}{A:ZZ}{F:List Int}(h:w.ownsRow base 3 1 (X A n c) n (F.map (Value.int .i64)))(hn:n=F.length)(z:n<=5864062014805):qM (· < w.heap.size) w A n c F:=by
 refine⟨hn.symm,z,fun U=>?_⟩;have G:=h;obtain⟨_,D⟩:=h;rcases D with⟨_,h2⟩|⟨g,cap',o,hv,hg,hh,_⟩
 . omega
 injection hv with s e2 e3;subst s;refine⟨g,0,rfl,(aS G rfl).2.1,fun k hk=>?_⟩;rw[YH,G.cellAt k aA];have:k<F.length:=aA;simp[YB this]
def i7:Fo->List (List Nd)
 | .nil=>[]
 | .cons _ n a k x=>row (.cons [] n a k .nil)::i7 x
theorem tD:∀(F G:Fo),i7 (F.app G)=i7 F++i7 G
 | .nil,G=>rfl
 | .cons p n a k x,G=>by simp only[Fo.app,i7,ZM,tD x G]
theorem AQ:∀(F:Fo),(i7 F).length=bE F
 | .nil=>rfl
 | .cons p n a k x=>by simp only[i7,bE,YA,AQ x]
theorem N8(l:List Nd):(row (gC l).2).length<=4096:=by
 unfold gC;split
 . rename_i G
   obtain⟨U,n,ats,k,F,D,_⟩:=eN G;rw[F];simp only;have:=congrArg List.length D;simp only[YA,XX]at this;omega
 simp[row]
structure OH (g:Nat) (A:ZZ) (n c p j:Nat) (A1:ZZ) (k1:Nat) (A2:ZZ) (k2:Nat) (xs1 xs2:List Value) (w:aAB):Prop where
 bt:aT w g 29 #[X A n c]
 bo:aT w (g+2) 47 #[X A1 j k1]
 br:aT w (g+3) 144 #[X A2 j k2]
 ba:aT w (g+4) 3 #[O S (p:Int)]
 own1:w.ownsRow (g+5) 29 1 (X A1 j k1) j xs1
 own2:w.ownsRow (g+5) 3 1 (X A2 j k2) j xs2
 off:∀b,(Value.slice A1 j k1).ownBlock=Z b->(Value.slice A2 j k2).ownBlock≠Z b
theorem wI{g:Nat}{A:ZZ}{n c p q j:Nat}{A1:ZZ}{k1:Nat}{A2:ZZ}{k2:Nat}{b3 b0:List Value}{w:aAB}{l:List Nd}(h:OH g A n c p j A1 k1 A2 k2 b3 b0 w)(ht:bF (· < g) w A n c l)(hq:ends [false] l p=Z q)(g1:p<=q)(g2:q<=n)(hj:j<=10000)(b:Int):
 Calls Tryz.prog 142 #[O S b,.pointer (Z ⟨g,0,Y⟩),.pointer (Z ⟨g+4,0,Y⟩),.pointer (Z ⟨g+2,0,Y⟩),.pointer (Z ⟨g+3,0,Y⟩)] w fun e w'=>e=.returned (.tuple #[])/\Below g w w'/\w.heap.size<=w'.heap.size/\w'.heap[g+1]? = w.heap[g+1]? ∧
  ∃e1 g4 e3 b1 A',OH g A n c q (j+1) e1 g4 e3 b1 (b3++[X A' (q-p) (c-p)]) (b0++[O S b]) w'/\∀(R:Nat->Prop)(w:aAB),bF R w A n c l->bF R w A' (q-p) (c-p) ((l.take q).drop p):=by
 obtain⟨i0,hi,d3,d5,d6⟩:=info_parts v5;obtain⟨e8,f1,f2,f3⟩:=aAE hi d3 d5 d6;obtain⟨i1,c8,d7,d8,d9⟩:=info_parts T7;obtain⟨e9,f4,f5,f6⟩:=aAE c8 d7 d8 d9;clear hi d3 d5 d6 c8 d7 d8 d9;obtain⟨A',hcut,a3⟩:=CC A n c p q g1 g2 ht.cap;have b7:=aB a3;have g9:=h.ba.lt;have b5:∀G:World,aX G A n c l->Calls Tryz.prog 111 #[X A n c,O S (p:Int)] G (eO (q:Int) G):=fun G g3=>by
  have:=iZ g3 (p:Int)
  rwa [nN,hq]at this
 have c5:=aB (b5 w (ht.keep fun b z=>⟨by omega,fun _=>rfl⟩));have z0:=h.bt.cell;have z4:=h.ba.cell;have H:=aB h;clear a3 b5 ht hq h;go_in;go_wp2_with fail;refine (c5.o).mono ?_;rintro e G ⟨rfl,a1⟩;have h2:OH g A n c p j A1 k1 A2 k2 b3 b0 G:=⟨H.o.bt.below a1 H.o.bt.lt,H.o.bo.below a1 H.o.bo.lt,H.o.br.below a1 H.o.br.lt,H.o.ba.below a1 H.o.ba.lt,bI H.o.own1 a1,bI H.o.own2 a1,H.o.off⟩;have e0:=h2.bt.cell;have e2:=h2.bo.cell;have e4:=h2.ba.cell;have l0:=h2.bt.lt;have l2:=h2.bo.lt;have l3:=h2.br.lt;have l4:=h2.ba.lt;have d0:=e0 0;have d2:=e2 0;have d4:=e4 0;obtain⟨H2,b6⟩:=aAC h2 a1;clear z0 z4 h2 a1 e0 e2 e4;go_wp2_with fail;refine wp_region_noPanic ?_;refine gF 7 (fun w'=>w'.cell? ⟨g,0,Y⟩=Z (X A n c)/\w'.cell? ⟨g+2,0,Y⟩=Z (X A1 j k1)/\w'.cell? ⟨g+4,0,Y⟩=Z (O S (p:Int))) aF ⟨d0,d2,d4⟩ (fun g8=>?_);refine bA (i:=0) (v:=?_) rfl aC aC aC aC aC (fun _ _ _ h=>h) (Or.inl ⟨by rfl,?_⟩) aI ?_;rotate_left
 . (intro w hSw;(try dsimp only at hSw);go_simp);all_goals with_reducible rfl
 try simp only[Act.put,List.getElem_toArray,List.getElem_cons_zero,List.getElem_cons_succ,List.setIfInBounds_toArray,List.set_cons_zero,List.set_cons_succ]
 refine bA (i:=1) (v:=?_) rfl aC aC aC aC aC (fun _ _ _ h=>h) (Or.inl ⟨by rfl,?_⟩) aI ?_;rotate_left
 . (intro w hSw;(try dsimp only at hSw);go_simp);all_goals with_reducible rfl
 try simp only[Act.put,List.getElem_toArray,List.getElem_cons_zero,List.getElem_cons_succ,List.setIfInBounds_toArray,List.set_cons_zero,List.set_cons_succ]
 refine bA (i:=2) (v:=?_) rfl aC aC aC aC aC (fun _ _ _ h=>h) (Or.inl ⟨by rfl,?_⟩) aI ?_;rotate_left
 . (intro w hSw;(try dsimp only at hSw);go_simp);all_goals with_reducible rfl
 try simp only[Act.put,List.getElem_toArray,List.getElem_cons_zero,List.getElem_cons_succ,List.setIfInBounds_toArray,List.set_cons_zero,List.set_cons_succ]
 refine bA (i:=3) (v:=?_) rfl aC aC aC aC aC (fun _ _ _ h=>h) (Or.inl ⟨by rfl,?_⟩) aI ?_;rotate_left
 . (intro w hSw;(try dsimp only at hSw);go_simp);all_goals with_reducible rfl
 try simp only[Act.put,List.getElem_toArray,List.getElem_cons_zero,List.getElem_cons_succ,List.setIfInBounds_toArray,List.set_cons_zero,List.set_cons_succ]
 refine bA (i:=4) (v:=?_) rfl aC aC aC aC aC (fun _ _ _ h=>h) (Or.inl ⟨by rfl,?_⟩) aI ?_;rotate_left
 . (intro w hSw;(try dsimp only at hSw);go_simp);all_goals with_reducible rfl
 try simp only[Act.put,List.getElem_toArray,List.getElem_cons_zero,List.getElem_cons_succ,List.setIfInBounds_toArray,List.set_cons_zero,List.set_cons_succ]
 refine bV (i:=5) aC rfl rfl (fun K5 f7=>?_);go_simp;have g0:(G.drew.alloc (I #[X A' (q-p) (c-p)] 29)).cell? ⟨g,0,Y⟩=Z (X A n c)/\(G.drew.alloc (I #[X A' (q-p) (c-p)] 29)).cell? ⟨g+2,0,Y⟩=Z (X A1 j k1)/\(G.drew.alloc (I #[X A' (q-p) (c-p)] 29)).cell? ⟨g+4,0,Y⟩=Z (O S (p:Int)):=by
  have hc:∀b o,b<G.heap.size->(G.drew.alloc (I #[X A' (q-p) (c-p)] 29)).cell? ⟨b,o,Y⟩=G.cell? ⟨b,o,Y⟩:=fun b o z=>(World.cell?_alloc_lt _ _ _ z);rw[hc _ _ l0,hc _ _ l2,hc _ _ l4];exact⟨d0,d2,d4⟩
 refine f7.o _ _ (fun _=>g0) ?_;try simp only[Act.put,List.getElem_toArray,List.getElem_cons_zero,List.getElem_cons_succ,List.setIfInBounds_toArray,List.set_cons_zero,List.set_cons_succ]
 refine bV (i:=6) aC rfl rfl (fun K6 f8=>?_);refine iL (.tmp 10) (.tmp 15) 47 29 rfl (g+5) i0 _ 24 Tryz.underlying47 e8.o f1.o f2.o f3.o rfl aE (X A1 j k1) j b3 (X A' (q-p) (c-p)) rfl G.drew aF aF (bI H2.o.own1 (aU (XS _ _) 1)) _ aF aD aA aG ?_;intro A4 c4 w4 F;have U:∀b,b<G.heap.size->(Value.slice A1 j k1).ownBlock≠Z b->w4.heap[b]? = G.heap[b]?:=fun b z b9=>F.grown.block b z (fun e=>b9 e.symm);have s:∀b,b<g+5->(Value.slice A1 j k1).ownBlock≠Z b:=fun b z e=>by have:=(aS H2.o.own1 e).1;omega
 have zb:=H2.o.bo.same (U _ l2 (s _ aA));have zf:=zb.frozen;have zc:=zb.cell;have c7:w4.cell? ⟨g,0,Y⟩=Z (X A n c)/\w4.cell? ⟨g+2,0,Y⟩=Z (X A1 j k1)/\w4.cell? ⟨g+4,0,Y⟩=Z (O S (p:Int)):=by
  rw[aP (U g l0 (s _ aA)),aP (U (g+2) l2 (s _ aA)),aP (U (g+4) l4 (s _ aA))];exact⟨d0,d2,d4⟩
 refine f8.o _ _ (fun _=>c7) ?_;try simp only[Act.put,List.getElem_toArray,List.getElem_cons_zero,List.getElem_cons_succ,List.setIfInBounds_toArray,List.set_cons_zero,List.set_cons_succ]
 refine bV (i:=7) aC rfl rfl (fun K7 f9=>?_);go_simp;refine f9.o _ _ (fun h=>absurd rfl h) ?_;refine gW aC (NoPanic.normal ?_) _;have hh:=H2.o;have gr:G.grownBy w4 (Value.slice A1 j k1).ownBlock:=⟨F.grown.os,F.grown.tape,F.grown.output,F.grown.size,fun b z b9=>F.grown.block b z b9⟩;have a7:w4.ownsRow (g+5) 3 1 (X A2 j k2) j b0:=hh.own2.kept gr (by
  cases e2:(Value.slice A2 j k2).ownBlock with
  | none=>exact .inl rfl
  | some b2=>exact .inr fun e=>hh.off b2 e.symm e2)
 have h0:G.heap.size<=w4.heap.size:=F.grown.size;have k0:aT (w4.setCell ⟨g+2,0,Y⟩ (X A4 (j+1) c4)) g 29 #[X A n c]:=(hh.bt.same (U g l0 (s _ aA))).far aD _;have b1:aT (w4.setCell ⟨g+2,0,Y⟩ (X A4 (j+1) c4)) (g+2) 47 #[X A4 (j+1) c4]:=zb.set_ 0 _;have k3:aT (w4.setCell ⟨g+2,0,Y⟩ (X A4 (j+1) c4)) (g+3) 144 #[X A2 j k2]:=(hh.br.same (U (g+3) l3 (s _ aA))).far aD _;have k4:aT (w4.setCell ⟨g+2,0,Y⟩ (X A4 (j+1) c4)) (g+4) 3 #[O S (p:Int)]:=(hh.ba.same (U (g+4) l4 (s _ aA))).far aD _;have h4:=k3.cell;have a9:=ownsRow_setCell_below (a:=⟨g+2,0,Y⟩) a7 aD (X A4 (j+1) c4);have a6:(w4.setCell ⟨g+2,0,Y⟩ (X A4 (j+1) c4)).heap.size=w4.heap.size:=by simp[World.setCell]
 have a0:=aB a6;have e5:Hid (g+5<=(w4.setCell ⟨g+2,0,Y⟩ (X A4 (j+1) c4)).heap.size):=aB (by rw[a6];omega);have b8:=aB a9;have K0:=aB k0;have K2:=aB b1;have K3:=aB k3;have K4:=aB k4;have a2:=aB F;have e7:=aB U;have f0:=aB s;have c9:Z (g+3)≠(Value.slice A2 j k2).ownBlock:=eF hh.own2 aA;have d1:Z (g+4)≠(Value.slice A2 j k2).ownBlock:=eF hh.own2 aA;clear k0 b1 k3 k4 a7 a9 F U s gr hh zb zf zc c7 a6;go_wp2_with (at_builtin;go_loud (refine a8 rfl (iL (.tmp 17) (.tmp 19) 144 3 rfl (g+5) i1 _ 8 Tryz.underlying144 e9.o f4.o f5.o f6.o rfl aE (X A2 j k2) j b0 (O S b) rfl (w4.setCell ⟨g+2,0,Y⟩ (X A4 (j+1) c4)) rfl rfl b8.o _ rfl a0.o.symm aA e5.o ?_));intro A6 c6 w6 D;have y3:=K3.o.grown D.grown c9;have h6:=y3.frozen;have y4:=(K4.o.grown D.grown d1).far (p:=⟨g+3,0,Y⟩) aD (X A6 (j+1) c6);have h8:=y4.frozen;have h5:=y3.cell;have h7:=y4.cell)
 have a5:∀b,(Value.slice A4 (j+1) c4).ownBlock=Z b->(Value.slice A2 j k2).ownBlock≠Z b:=fun b z e2=>by
  rcases a2.o.new b z with h1|h1
  . exact H2.o.off b h1 e2
  have:=(aS H2.o.own2 e2).2.1;have g7:G.heap.size<=b:=h1;omega
 have c0:=ownsRow_setCell_below (a:=⟨g+2,0,Y⟩) a2.o.own aD (X A4 (j+1) c4);have c1:=c0.kept D.grown (by
  cases e4:(Value.slice A4 (j+1) c4).ownBlock with
  | none=>exact .inl rfl
  | some b4=>exact .inr fun e=>a5 b4 e4 e.symm)
 have c2:=ownsRow_setCell_below (a:=⟨g+4,0,Y⟩) (ownsRow_setCell_below (a:=⟨g+3,0,Y⟩) c1 aD (X A6 (j+1) c6)) aD (O S (q:Int));have c3:=ownsRow_setCell_below (a:=⟨g+4,0,Y⟩) (ownsRow_setCell_below (a:=⟨g+3,0,Y⟩) D.own aD (X A6 (j+1) c6)) aD (O S (q:Int));have a4:∀b,b<g+5->Z b≠(Value.slice A2 j k2).ownBlock:=fun b z=>eF H2.o.own2 z;have q0:=((K0.o.grown D.grown (a4 g aA)).far (p:=⟨g+3,0,Y⟩) aD (X A6 (j+1) c6)).far (p:=⟨g+4,0,Y⟩) aD (O S (q:Int));have q2:=((K2.o.grown D.grown (a4 (g+2) aA)).far (p:=⟨g+3,0,Y⟩) aD (X A6 (j+1) c6)).far (p:=⟨g+4,0,Y⟩) aD (O S (q:Int));have q3:=(y3.set_ 0 (X A6 (j+1) c6)).far (p:=⟨g+4,0,Y⟩) aD (O S (q:Int));have q4:=y4.set_ 0 (O S (q:Int));have h3:=D.grown.size;have g6:w4.heap.size<=w6.heap.size:=by have:=a0.o;omega
 have g5:=b6.o.size;refine bodyPost_end (results_none rfl _ _ _) rfl ⟨rfl,?_,?_,?_,A4,c4,A6,c6,A',⟨q0,q2,q3,q4,c2,c3,fun b z e6=>?_⟩,fun R w h=>b7.o R w l h⟩
 . refine Below.setCell (Below.setCell (Below.grown (Below.setCell (Below.grown (w:=G.drew) (aU (b6.o.mono aA) 1) a2.o.grown (by show g<=G.heap.size;omega) (fun b z=>?_)) (p:=⟨g+2,0,Y⟩) aD _) D.grown (by rw[a0.o];omega) (fun b z=>?_)) (p:=⟨g+3,0,Y⟩) aD _) (p:=⟨g+4,0,Y⟩) aD _
   . have:=(aS H2.o.own1 z).1;omega
   have:=(aS H2.o.own2 z).1;omega
 . have e:((w6.setCell ⟨g+3,0,Y⟩ (X A6 (j+1) c6)).setCell ⟨g+4,0,Y⟩ (O S (q:Int))).heap.size=w6.heap.size:=by simp[World.setCell]
   rw[e];omega
 . rw[XZ _ _ _ _ aD,XZ _ _ _ _ aD,D.grown.block (g+1) (by rw[a0.o];omega) (a4 (g+1) aA),XZ _ _ _ _ aD,e7.o (g+1) aA (f0.o (g+1) aA),b6.o.block (g+1) aA]
 rcases D.new b e6 with h1|h1
 . exact a5 b z h1
 have:=(aS a2.o.own z).2.1;have:=a0.o;omega
theorem jK{w w':aAB}{A:ZZ}{n c:Nat}{l:List Nd}(h:bK w' w.heap.size (X A n c) l)(o:l.length<=5864062014805):bF (eC w w') w' A n c l:=by
 obtain⟨s,n',z,e,ht⟩:=bK.termS h o;injection e with F G U;subst F G U;exact ht.keep fun b D=>⟨⟨(aS h D).1,(aS h D).2.1⟩,fun _=>rfl⟩
theorem MG{A:ZZ}{n c:Nat}{l:List Nd}{w:aAB}(h:aX w A n c l):
 Calls Tryz.prog 119 #[X A n c] w (fun e w'=>ZY w w'/\∃A n c,e=.returned (X A n c)/\bK w' w.heap.size (X A n c) l/\l.length<=5864062014805):=by
 have a7:∀(w:aAB)(a:ZZ)(n c n' c':Nat),(binOp .eql 29 (X a n c) (X Y n' c')).run Tryz.prog w=.ok (.bool a.isNone) w:=fun w a n c n' c'=>Lib.run_eql_slice_nil w _ _ a n c n' c' Tryz.underlying29;cases A with
 | none =>
  obtain rfl:=h.nul rfl;obtain rfl:n=0:=by have:=h.cap;omega
  have hl:l=[]:=ZC h.len;subst hl;go_in;go_wp2_with fail;go_ret;exact⟨XS _ _,Y,0,0,rfl,bK.nil _ _,ZA _⟩
 | some a =>
  obtain⟨i0,hi,a0,a1,a2⟩:=info_parts kP;have a3:=aB hi;have a4:=aB a0;have a5:=aB a1;have a6:=aB a2;clear hi a0 a1 a2;have z:=h.few;have s:=aQ w (I #[] 46);have hm:aX (w.alloc (I #[] 46)) (Z a) n c l:=h.below s;have G:bK (w.alloc (I #[] 46)) w.heap.size (X (Z ⟨w.heap.size,0,Y⟩) 0 0) []:=World.ownsRow_made w #[] 0 (XU _) (ZA _) rfl;have HM:=aB hm;have F:=aB G;have HB:=aB s;clear hm G s h;go_in;go_wp2_with (at_builtin;go_loud (refine a8 rfl (bG (.tmp 5) (.tmp 6) 29 29 rfl w.heap.size i0 Tryz.underlying29 Tryz.underlying29 a3.o a4.o a5.o a6.o (X (Z ⟨w.heap.size,0,Y⟩) 0 0) [] l rfl F.o rfl HM.o (by simpa using z) aD ?_));intro A4 c4 w4 D U)
  go_ret;refine⟨HB.o.grown U.grown HB.o.size (fun g hg=>(aS F.o hg).1),A4,_,c4,rfl,?_⟩;simp only[ZD,YH,YO]at D;exact⟨D,by have:=HM.o.len;omega⟩
theorem sC{A:ZZ}{n c:Nat}{l:List Nd}{w:aAB}(h:aX w A n c l):
 Calls Tryz.prog 119 #[X A n c] w (mL l w) :=
 (MG h).mono fun _ _ ⟨D,A,n,c,e,G,F⟩=>⟨D,A,n,c,e,jK G F⟩
def fC(n:Nd)(w:aAB)(e:Ending)(w':aAB):Prop:=(∃k:Int,e=.returned (.tuple #[O S k,.bool (eW n)])/\(eW n=true->k=dC n.op n.b))/\ZY w w'
theorem bQ{n:Nd}{w w':aAB}{k:Int}{b:Bool}(D:b=eW n)(F:eW n=true->k=dC n.op n.b)(G:ZY w w'):fC n w (.returned (.tuple #[O S k,.bool b])) w' :=
 ⟨⟨k,by rw[D],F⟩,G⟩
theorem dX(n F D:Int)(w:aAB)(m:Nat):
 Calls Tryz.prog 122 #[O S n,O S F,O S D] (w.drewN m) fun e w'=>e=.returned (.bool (decide (F<=n)&&decide (n<=D)))/\∃k,w'=w.drewN k :=
 (eU n F D (w.drewN m)).mono fun _ _ ⟨G,U⟩=>⟨G,m,U.symm⟩
theorem cO(n F D:Int)(w:aAB)(m:Nat)(h:F<=n/\n<=D):
 Calls Tryz.prog 122 #[O S n,O S F,O S D] (w.drewN m) fun e w'=>e=.returned (.bool true)/\∃k,w'=w.drewN k :=
 (dX n F D w m).mono fun _ _ ⟨G,U⟩=>⟨by rw[G];simp[h],U⟩
theorem cN(n F D:Int)(w:aAB)(m:Nat)(h:¬ (F<=n/\n<=D)):
 Calls Tryz.prog 122 #[O S n,O S F,O S D] (w.drewN m) fun e w'=>e=.returned (.bool false)/\∃k,w'=w.drewN k :=
 (dX n F D w m).mono fun _ _ ⟨G,U⟩=>⟨by rw[G,<-Bool.decide_and,XQ h],U⟩
theorem a7(w:aAB)(o:Obj)(m:Nat):ZY w ((w.alloc o).drewN m):=aU (aQ w o) m
theorem bB(n:Nd):eW n=true ↔ cD n.op n.a n.b=true/\n.op≠3/\n.op≠13:=by
 simp only[eW,YC,YJ,and_assoc]
theorem pR(n:Nd):eW n=false ↔ ¬ (cD n.op n.a n.b=true/\n.op≠3/\n.op≠13):=by
 rw[<-bB];simp
theorem R8(a b:Int)(w:aAB):
 Calls Tryz.prog 121 #[.agg #[O S 1,O S a,O S b]] w (fC ⟨1,a,b⟩ w):=by
 by_cases D:a=0
 . have G:(a==0)=true:=by simp[D]
   have F:=aB D;clear D;by_cases ht:0<=a/\a<=1048576
   . obtain⟨s,h⟩:=ht;go_in;go_wp2_with fail;all_goals
      go_quiet ((go_at_call 122;first|exact cO _ _ _ _ _ aA|exact cN _ _ _ _ _ aA|exact dX _ _ _ _ _))
      go_wp2_with fail
     all_goals
      have D:=F.o;refine XW (YN rfl _ _ _) rfl ?_;refine bQ ?_ ?_ (by first|exact aQ _ _|exact a7 _ _ _)
      . rw[YK,bB,aV];first|(simp;done)|(simp;omega)|(simp[XV];omega)
      rw[bB,aV];first|(simp[dC];done)|(simp[dC];omega)|(simp[dC,wrap64];omega)|(simp[dC,XV];omega)
   have U:(decide ((0:Int)<=a)&&decide (a<=1048576))=false:=by rw[ZF,YM,YM];omega
   go_in;go_wp2_with fail;all_goals
    go_quiet ((go_at_call 122;first|exact cO _ _ _ _ _ aA|exact cN _ _ _ _ _ aA|exact dX _ _ _ _ _))
    go_wp2_with fail
   all_goals
    have D:=F.o;refine XW (YN rfl _ _ _) rfl ?_;refine bQ ?_ ?_ (by first|exact aQ _ _|exact a7 _ _ _)
    . rw[YK,bB,aV];first|(simp;done)|(simp;omega)|(simp[XV];omega)
    rw[bB,aV];first|(simp[dC];done)|(simp[dC];omega)|(simp[dC,wrap64];omega)|(simp[dC,XV];omega)
 have G:(a==0)=false:=by simp[D]
 have F:=aB D;clear D;by_cases ht:0<=a/\a<=1048576
 . obtain⟨s,h⟩:=ht;go_in;go_wp2_with fail;all_goals
    go_quiet ((go_at_call 122;first|exact cO _ _ _ _ _ aA|exact cN _ _ _ _ _ aA|exact dX _ _ _ _ _))
    go_wp2_with fail
   all_goals
    have D:=F.o;refine XW (YN rfl _ _ _) rfl ?_;refine bQ ?_ ?_ (by first|exact aQ _ _|exact a7 _ _ _)
    . rw[YK,bB,aV];first|(simp;done)|(simp;omega)|(simp[XV];omega)
    rw[bB,aV];first|(simp[dC];done)|(simp[dC];omega)|(simp[dC,wrap64];omega)|(simp[dC,XV];omega)
 have U:(decide ((0:Int)<=a)&&decide (a<=1048576))=false:=by rw[ZF,YM,YM];omega
 go_in;go_wp2_with fail;all_goals
  go_quiet ((go_at_call 122;first|exact cO _ _ _ _ _ aA|exact cN _ _ _ _ _ aA|exact dX _ _ _ _ _))
  go_wp2_with fail
 all_goals
  have D:=F.o;refine XW (YN rfl _ _ _) rfl ?_;refine bQ ?_ ?_ (by first|exact aQ _ _|exact a7 _ _ _)
  . rw[YK,bB,aV];first|(simp;done)|(simp;omega)|(simp[XV];omega)
  rw[bB,aV];first|(simp[dC];done)|(simp[dC];omega)|(simp[dC,wrap64];omega)|(simp[dC,XV];omega)
theorem R9(a b:Int)(w:aAB):
 Calls Tryz.prog 121 #[.agg #[O S 2,O S a,O S b]] w (fC ⟨2,a,b⟩ w):=by
 by_cases D:a=0
 . have U:(a==0)=true:=by simp[D]
   have F:=aB D;clear D;by_cases ht:0<=a/\a<=1
   . obtain⟨hl,z⟩:=ht;go_in;go_wp2_with (go_at_call 122;refine (eU _ _ _ _).mono ?_;rintro e s ⟨rfl,rfl⟩)
     all_goals
      have D:=F.o;refine XW (YN rfl _ _ _) rfl ?_;refine bQ ?_ ?_ (by first|exact aQ _ _|exact a7 _ _ _)
      . rw[YK,bB,aV];first|(simp;done)|(simp;omega)|(simp[XV];omega)
      rw[bB,aV];first|(simp[dC];done)|(simp[dC];omega)|(simp[dC,wrap64];omega)|(simp[dC,XV];omega)
   have h:(decide ((0:Int)<=a)&&decide (a<=1))=false:=by rw[ZF,YM,YM];omega
   have G:=aB ht;clear ht;go_in;go_wp2_with (go_at_call 122;refine (eU _ _ _ _).mono ?_;rintro e s ⟨rfl,rfl⟩)
   all_goals
    have D:=F.o;have ht:=G.o;refine XW (YN rfl _ _ _) rfl ?_;refine bQ ?_ ?_ (by first|exact aQ _ _|exact a7 _ _ _)
    . rw[YK,bB,aV];first|(simp;done)|(simp;omega)|(simp[XV];omega)
    rw[bB,aV];first|(simp[dC];done)|(simp[dC];omega)|(simp[dC,wrap64];omega)|(simp[dC,XV];omega)
 have U:(a==0)=false:=by simp[D]
 have F:=aB D;clear D;by_cases ht:0<=a/\a<=1
 . obtain⟨hl,z⟩:=ht;go_in;go_wp2_with (go_at_call 122;refine (eU _ _ _ _).mono ?_;rintro e s ⟨rfl,rfl⟩)
   all_goals
    have D:=F.o;refine XW (YN rfl _ _ _) rfl ?_;refine bQ ?_ ?_ (by first|exact aQ _ _|exact a7 _ _ _)
    . rw[YK,bB,aV];first|(simp;done)|(simp;omega)|(simp[XV];omega)
    rw[bB,aV];first|(simp[dC];done)|(simp[dC];omega)|(simp[dC,wrap64];omega)|(simp[dC,XV];omega)
 have h:(decide ((0:Int)<=a)&&decide (a<=1))=false:=by rw[ZF,YM,YM];omega
 have G:=aB ht;clear ht;go_in;go_wp2_with (go_at_call 122;refine (eU _ _ _ _).mono ?_;rintro e s ⟨rfl,rfl⟩)
 all_goals
  have D:=F.o;have ht:=G.o;refine XW (YN rfl _ _ _) rfl ?_;refine bQ ?_ ?_ (by first|exact aQ _ _|exact a7 _ _ _)
  . rw[YK,bB,aV];first|(simp;done)|(simp;omega)|(simp[XV];omega)
  rw[bB,aV];first|(simp[dC];done)|(simp[dC];omega)|(simp[dC,wrap64];omega)|(simp[dC,XV];omega)
theorem SA(a b:Int)(w:aAB):
 Calls Tryz.prog 121 #[.agg #[O S 4,O S a,O S b]] w (fC ⟨4,a,b⟩ w):=by
 by_cases D:a=0
 . have G:(a==0)=true:=by simp[D]
   have F:=aB D;clear D;go_in;go_wp2
   all_goals
    have D:=F.o;refine XW (YN rfl _ _ _) rfl ?_;refine bQ ?_ ?_ (by first|exact aQ _ _|exact a7 _ _ _)
    . rw[YK,bB,aV];first|(simp;done)|(simp;omega)|(simp[XV];omega)
    rw[bB,aV];first|(simp[dC];done)|(simp[dC];omega)|(simp[dC,wrap64];omega)|(simp[dC,XV];omega)
 have G:(a==0)=false:=by simp[D]
 have F:=aB D;clear D;go_in;go_wp2
 all_goals
  have D:=F.o;refine XW (YN rfl _ _ _) rfl ?_;refine bQ ?_ ?_ (by first|exact aQ _ _|exact a7 _ _ _)
  . rw[YK,bB,aV];first|(simp;done)|(simp;omega)|(simp[XV];omega)
  rw[bB,aV];first|(simp[dC];done)|(simp[dC];omega)|(simp[dC,wrap64];omega)|(simp[dC,XV];omega)
theorem SC(a b:Int)(w:aAB):
 Calls Tryz.prog 121 #[.agg #[O S 5,O S a,O S b]] w (fC ⟨5,a,b⟩ w):=by
 by_cases D:a=0
 . have G:(a==0)=true:=by simp[D]
   have F:=aB D;clear D;go_in;go_wp2
   all_goals
    have D:=F.o;refine XW (YN rfl _ _ _) rfl ?_;refine bQ ?_ ?_ (by first|exact aQ _ _|exact a7 _ _ _)
    . rw[YK,bB,aV];first|(simp;done)|(simp;omega)|(simp[XV];omega)
    rw[bB,aV];first|(simp[dC];done)|(simp[dC];omega)|(simp[dC,wrap64];omega)|(simp[dC,XV];omega)
 have G:(a==0)=false:=by simp[D]
 have F:=aB D;clear D;go_in;go_wp2
 all_goals
  have D:=F.o;refine XW (YN rfl _ _ _) rfl ?_;refine bQ ?_ ?_ (by first|exact aQ _ _|exact a7 _ _ _)
  . rw[YK,bB,aV];first|(simp;done)|(simp;omega)|(simp[XV];omega)
  rw[bB,aV];first|(simp[dC];done)|(simp[dC];omega)|(simp[dC,wrap64];omega)|(simp[dC,XV];omega)
theorem SD(a b:Int)(w:aAB):
 Calls Tryz.prog 121 #[.agg #[O S 6,O S a,O S b]] w (fC ⟨6,a,b⟩ w):=by
 by_cases D:a=0
 . have G:(a==0)=true:=by simp[D]
   have F:=aB D;clear D;go_in;go_wp2
   all_goals
    have D:=F.o;refine XW (YN rfl _ _ _) rfl ?_;refine bQ ?_ ?_ (by first|exact aQ _ _|exact a7 _ _ _)
    . rw[YK,bB,aV];first|(simp;done)|(simp;omega)|(simp[XV];omega)
    rw[bB,aV];first|(simp[dC];done)|(simp[dC];omega)|(simp[dC,wrap64];omega)|(simp[dC,XV];omega)
 have G:(a==0)=false:=by simp[D]
 have F:=aB D;clear D;go_in;go_wp2
 all_goals
  have D:=F.o;refine XW (YN rfl _ _ _) rfl ?_;refine bQ ?_ ?_ (by first|exact aQ _ _|exact a7 _ _ _)
  . rw[YK,bB,aV];first|(simp;done)|(simp;omega)|(simp[XV];omega)
  rw[bB,aV];first|(simp[dC];done)|(simp[dC];omega)|(simp[dC,wrap64];omega)|(simp[dC,XV];omega)
theorem SE(a b:Int)(w:aAB):
 Calls Tryz.prog 121 #[.agg #[O S 7,O S a,O S b]] w (fC ⟨7,a,b⟩ w):=by
 by_cases D:a=0
 . have G:(a==0)=true:=by simp[D]
   have F:=aB D;clear D;go_in;go_wp2
   all_goals
    have D:=F.o;refine XW (YN rfl _ _ _) rfl ?_;refine bQ ?_ ?_ (by first|exact aQ _ _|exact a7 _ _ _)
    . rw[YK,bB,aV];first|(simp;done)|(simp;omega)|(simp[XV];omega)
    rw[bB,aV];first|(simp[dC];done)|(simp[dC];omega)|(simp[dC,wrap64];omega)|(simp[dC,XV];omega)
 have G:(a==0)=false:=by simp[D]
 have F:=aB D;clear D;go_in;go_wp2
 all_goals
  have D:=F.o;refine XW (YN rfl _ _ _) rfl ?_;refine bQ ?_ ?_ (by first|exact aQ _ _|exact a7 _ _ _)
  . rw[YK,bB,aV];first|(simp;done)|(simp;omega)|(simp[XV];omega)
  rw[bB,aV];first|(simp[dC];done)|(simp[dC];omega)|(simp[dC,wrap64];omega)|(simp[dC,XV];omega)
theorem SF(a b:Int)(w:aAB):
 Calls Tryz.prog 121 #[.agg #[O S 8,O S a,O S b]] w (fC ⟨8,a,b⟩ w):=by
 by_cases D:a=0
 . have G:(a==0)=true:=by simp[D]
   have F:=aB D;clear D;by_cases ht:0<=a/\a<=63
   . obtain⟨s,h⟩:=ht;go_in;go_wp2_with fail;all_goals
      go_quiet ((go_at_call 122;first|exact cO _ _ _ _ _ aA|exact cN _ _ _ _ _ aA|exact dX _ _ _ _ _))
      go_wp2_with fail
     all_goals
      have D:=F.o;refine XW (YN rfl _ _ _) rfl ?_;refine bQ ?_ ?_ (by first|exact aQ _ _|exact a7 _ _ _)
      . rw[YK,bB,aV];first|(simp;done)|(simp;omega)|(simp[XV];omega)
      rw[bB,aV];first|(simp[dC];done)|(simp[dC];omega)|(simp[dC,wrap64];omega)|(simp[dC,XV];omega)
   have U:(decide ((0:Int)<=a)&&decide (a<=63))=false:=by rw[ZF,YM,YM];omega
   go_in;go_wp2_with fail;all_goals
    go_quiet ((go_at_call 122;first|exact cO _ _ _ _ _ aA|exact cN _ _ _ _ _ aA|exact dX _ _ _ _ _))
    go_wp2_with fail
   all_goals
    have D:=F.o;refine XW (YN rfl _ _ _) rfl ?_;refine bQ ?_ ?_ (by first|exact aQ _ _|exact a7 _ _ _)
    . rw[YK,bB,aV];first|(simp;done)|(simp;omega)|(simp[XV];omega)
    rw[bB,aV];first|(simp[dC];done)|(simp[dC];omega)|(simp[dC,wrap64];omega)|(simp[dC,XV];omega)
 have G:(a==0)=false:=by simp[D]
 have F:=aB D;clear D;by_cases ht:0<=a/\a<=63
 . obtain⟨s,h⟩:=ht;go_in;go_wp2_with fail;all_goals
    go_quiet ((go_at_call 122;first|exact cO _ _ _ _ _ aA|exact cN _ _ _ _ _ aA|exact dX _ _ _ _ _))
    go_wp2_with fail
   all_goals
    have D:=F.o;refine XW (YN rfl _ _ _) rfl ?_;refine bQ ?_ ?_ (by first|exact aQ _ _|exact a7 _ _ _)
    . rw[YK,bB,aV];first|(simp;done)|(simp;omega)|(simp[XV];omega)
    rw[bB,aV];first|(simp[dC];done)|(simp[dC];omega)|(simp[dC,wrap64];omega)|(simp[dC,XV];omega)
 have U:(decide ((0:Int)<=a)&&decide (a<=63))=false:=by rw[ZF,YM,YM];omega
 go_in;go_wp2_with fail;all_goals
  go_quiet ((go_at_call 122;first|exact cO _ _ _ _ _ aA|exact cN _ _ _ _ _ aA|exact dX _ _ _ _ _))
  go_wp2_with fail
 all_goals
  have D:=F.o;refine XW (YN rfl _ _ _) rfl ?_;refine bQ ?_ ?_ (by first|exact aQ _ _|exact a7 _ _ _)
  . rw[YK,bB,aV];first|(simp;done)|(simp;omega)|(simp[XV];omega)
  rw[bB,aV];first|(simp[dC];done)|(simp[dC];omega)|(simp[dC,wrap64];omega)|(simp[dC,XV];omega)
theorem SG(a b:Int)(w:aAB):
 Calls Tryz.prog 121 #[.agg #[O S 9,O S a,O S b]] w (fC ⟨9,a,b⟩ w):=by
 by_cases D:a=0
 . have G:(a==0)=true:=by simp[D]
   have F:=aB D;clear D;by_cases ht:0<=a/\a<=63
   . obtain⟨s,h⟩:=ht;go_in;go_wp2_with fail;all_goals
      go_quiet ((go_at_call 122;first|exact cO _ _ _ _ _ aA|exact cN _ _ _ _ _ aA|exact dX _ _ _ _ _))
      go_wp2_with fail
     all_goals
      have D:=F.o;refine XW (YN rfl _ _ _) rfl ?_;refine bQ ?_ ?_ (by first|exact aQ _ _|exact a7 _ _ _)
      . rw[YK,bB,aV];first|(simp;done)|(simp;omega)|(simp[XV];omega)
      rw[bB,aV];first|(simp[dC];done)|(simp[dC];omega)|(simp[dC,wrap64];omega)|(simp[dC,XV];omega)
   have U:(decide ((0:Int)<=a)&&decide (a<=63))=false:=by rw[ZF,YM,YM];omega
   go_in;go_wp2_with fail;all_goals
    go_quiet ((go_at_call 122;first|exact cO _ _ _ _ _ aA|exact cN _ _ _ _ _ aA|exact dX _ _ _ _ _))
    go_wp2_with fail
   all_goals
    have D:=F.o;refine XW (YN rfl _ _ _) rfl ?_;refine bQ ?_ ?_ (by first|exact aQ _ _|exact a7 _ _ _)
    . rw[YK,bB,aV];first|(simp;done)|(simp;omega)|(simp[XV];omega)
    rw[bB,aV];first|(simp[dC];done)|(simp[dC];omega)|(simp[dC,wrap64];omega)|(simp[dC,XV];omega)
 have G:(a==0)=false:=by simp[D]
 have F:=aB D;clear D;by_cases ht:0<=a/\a<=63
 . obtain⟨s,h⟩:=ht;go_in;go_wp2_with fail;all_goals
    go_quiet ((go_at_call 122;first|exact cO _ _ _ _ _ aA|exact cN _ _ _ _ _ aA|exact dX _ _ _ _ _))
    go_wp2_with fail
   all_goals
    have D:=F.o;refine XW (YN rfl _ _ _) rfl ?_;refine bQ ?_ ?_ (by first|exact aQ _ _|exact a7 _ _ _)
    . rw[YK,bB,aV];first|(simp;done)|(simp;omega)|(simp[XV];omega)
    rw[bB,aV];first|(simp[dC];done)|(simp[dC];omega)|(simp[dC,wrap64];omega)|(simp[dC,XV];omega)
 have U:(decide ((0:Int)<=a)&&decide (a<=63))=false:=by rw[ZF,YM,YM];omega
 go_in;go_wp2_with fail;all_goals
  go_quiet ((go_at_call 122;first|exact cO _ _ _ _ _ aA|exact cN _ _ _ _ _ aA|exact dX _ _ _ _ _))
  go_wp2_with fail
 all_goals
  have D:=F.o;refine XW (YN rfl _ _ _) rfl ?_;refine bQ ?_ ?_ (by first|exact aQ _ _|exact a7 _ _ _)
  . rw[YK,bB,aV];first|(simp;done)|(simp;omega)|(simp[XV];omega)
  rw[bB,aV];first|(simp[dC];done)|(simp[dC];omega)|(simp[dC,wrap64];omega)|(simp[dC,XV];omega)
theorem OT(a b:Int)(w:aAB):
 Calls Tryz.prog 121 #[.agg #[O S 10,O S a,O S b]] w (fC ⟨10,a,b⟩ w):=by
 by_cases D:a=0
 . have U:(a==0)=true:=by simp[D]
   have F:=aB D;clear D;by_cases ht:0<=a/\a<=63
   . obtain⟨hl,z⟩:=ht;go_in;go_wp2_with (go_at_call 122;refine (eU _ _ _ _).mono ?_;rintro e s ⟨rfl,rfl⟩)
     all_goals
      have D:=F.o;refine XW (YN rfl _ _ _) rfl ?_;refine bQ ?_ ?_ (by first|exact aQ _ _|exact a7 _ _ _)
      . rw[YK,bB,aV];first|(simp;done)|(simp;omega)|(simp[XV];omega)
      rw[bB,aV];first|(simp[dC];done)|(simp[dC];omega)|(simp[dC,wrap64];omega)|(simp[dC,XV];omega)
   have h:(decide ((0:Int)<=a)&&decide (a<=63))=false:=by rw[ZF,YM,YM];omega
   have G:=aB ht;clear ht;go_in;go_wp2_with (go_at_call 122;refine (eU _ _ _ _).mono ?_;rintro e s ⟨rfl,rfl⟩)
   all_goals
    have D:=F.o;have ht:=G.o;refine XW (YN rfl _ _ _) rfl ?_;refine bQ ?_ ?_ (by first|exact aQ _ _|exact a7 _ _ _)
    . rw[YK,bB,aV];first|(simp;done)|(simp;omega)|(simp[XV];omega)
    rw[bB,aV];first|(simp[dC];done)|(simp[dC];omega)|(simp[dC,wrap64];omega)|(simp[dC,XV];omega)
 have U:(a==0)=false:=by simp[D]
 have F:=aB D;clear D;by_cases ht:0<=a/\a<=63
 . obtain⟨hl,z⟩:=ht;go_in;go_wp2_with (go_at_call 122;refine (eU _ _ _ _).mono ?_;rintro e s ⟨rfl,rfl⟩)
   all_goals
    have D:=F.o;refine XW (YN rfl _ _ _) rfl ?_;refine bQ ?_ ?_ (by first|exact aQ _ _|exact a7 _ _ _)
    . rw[YK,bB,aV];first|(simp;done)|(simp;omega)|(simp[XV];omega)
    rw[bB,aV];first|(simp[dC];done)|(simp[dC];omega)|(simp[dC,wrap64];omega)|(simp[dC,XV];omega)
 have h:(decide ((0:Int)<=a)&&decide (a<=63))=false:=by rw[ZF,YM,YM];omega
 have G:=aB ht;clear ht;go_in;go_wp2_with (go_at_call 122;refine (eU _ _ _ _).mono ?_;rintro e s ⟨rfl,rfl⟩)
 all_goals
  have D:=F.o;have ht:=G.o;refine XW (YN rfl _ _ _) rfl ?_;refine bQ ?_ ?_ (by first|exact aQ _ _|exact a7 _ _ _)
  . rw[YK,bB,aV];first|(simp;done)|(simp;omega)|(simp[XV];omega)
  rw[bB,aV];first|(simp[dC];done)|(simp[dC];omega)|(simp[dC,wrap64];omega)|(simp[dC,XV];omega)
theorem OU(a b:Int)(w:aAB):
 Calls Tryz.prog 121 #[.agg #[O S 11,O S a,O S b]] w (fC ⟨11,a,b⟩ w):=by
 by_cases D:a=0
 . have G:(a==0)=true:=by simp[D]
   have F:=aB D;clear D;by_cases ht:0<=a/\a<=63
   . obtain⟨s,h⟩:=ht;go_in;go_wp2_with fail;all_goals
      go_quiet ((go_at_call 122;first|exact cO _ _ _ _ _ aA|exact cN _ _ _ _ _ aA|exact dX _ _ _ _ _))
      go_wp2_with fail
     all_goals
      have D:=F.o;refine XW (YN rfl _ _ _) rfl ?_;refine bQ ?_ ?_ (by first|exact aQ _ _|exact a7 _ _ _)
      . rw[YK,bB,aV];first|(simp;done)|(simp;omega)|(simp[XV];omega)
      rw[bB,aV];first|(simp[dC];done)|(simp[dC];omega)|(simp[dC,wrap64];omega)|(simp[dC,XV];omega)
   have U:(decide ((0:Int)<=a)&&decide (a<=63))=false:=by rw[ZF,YM,YM];omega
   go_in;go_wp2_with fail;all_goals
    go_quiet ((go_at_call 122;first|exact cO _ _ _ _ _ aA|exact cN _ _ _ _ _ aA|exact dX _ _ _ _ _))
    go_wp2_with fail
   all_goals
    have D:=F.o;refine XW (YN rfl _ _ _) rfl ?_;refine bQ ?_ ?_ (by first|exact aQ _ _|exact a7 _ _ _)
    . rw[YK,bB,aV];first|(simp;done)|(simp;omega)|(simp[XV];omega)
    rw[bB,aV];first|(simp[dC];done)|(simp[dC];omega)|(simp[dC,wrap64];omega)|(simp[dC,XV];omega)
 have G:(a==0)=false:=by simp[D]
 have F:=aB D;clear D;by_cases ht:0<=a/\a<=63
 . obtain⟨s,h⟩:=ht;go_in;go_wp2_with fail;all_goals
    go_quiet ((go_at_call 122;first|exact cO _ _ _ _ _ aA|exact cN _ _ _ _ _ aA|exact dX _ _ _ _ _))
    go_wp2_with fail
   all_goals
    have D:=F.o;refine XW (YN rfl _ _ _) rfl ?_;refine bQ ?_ ?_ (by first|exact aQ _ _|exact a7 _ _ _)
    . rw[YK,bB,aV];first|(simp;done)|(simp;omega)|(simp[XV];omega)
    rw[bB,aV];first|(simp[dC];done)|(simp[dC];omega)|(simp[dC,wrap64];omega)|(simp[dC,XV];omega)
 have U:(decide ((0:Int)<=a)&&decide (a<=63))=false:=by rw[ZF,YM,YM];omega
 go_in;go_wp2_with fail;all_goals
  go_quiet ((go_at_call 122;first|exact cO _ _ _ _ _ aA|exact cN _ _ _ _ _ aA|exact dX _ _ _ _ _))
  go_wp2_with fail
 all_goals
  have D:=F.o;refine XW (YN rfl _ _ _) rfl ?_;refine bQ ?_ ?_ (by first|exact aQ _ _|exact a7 _ _ _)
  . rw[YK,bB,aV];first|(simp;done)|(simp;omega)|(simp[XV];omega)
  rw[bB,aV];first|(simp[dC];done)|(simp[dC];omega)|(simp[dC,wrap64];omega)|(simp[dC,XV];omega)
theorem OV(a b:Int)(w:aAB):
 Calls Tryz.prog 121 #[.agg #[O S 12,O S a,O S b]] w (fC ⟨12,a,b⟩ w):=by
 by_cases D:a=0
 . have G:(a==0)=true:=by simp[D]
   have F:=aB D;clear D;by_cases ht:1<=b/\b<=4
   . obtain⟨s,h⟩:=ht;go_in;go_wp2_with fail;all_goals
      go_quiet ((go_at_call 122;first|exact cO _ _ _ _ _ aA|exact cN _ _ _ _ _ aA|exact dX _ _ _ _ _))
      go_wp2_with fail
     all_goals
      have D:=F.o;refine XW (YN rfl _ _ _) rfl ?_;refine bQ ?_ ?_ (by first|exact aQ _ _|exact a7 _ _ _)
      . rw[YK,bB,aV];first|(simp;done)|(simp;omega)|(simp[XV];omega)
      rw[bB,aV];first|(simp[dC];done)|(simp[dC];omega)|(simp[dC,wrap64];omega)|(simp[dC,XV];omega)
   have U:(decide ((1:Int)<=b)&&decide (b<=4))=false:=by rw[ZF,YM,YM];omega
   go_in;go_wp2_with fail;all_goals
    go_quiet ((go_at_call 122;first|exact cO _ _ _ _ _ aA|exact cN _ _ _ _ _ aA|exact dX _ _ _ _ _))
    go_wp2_with fail
   all_goals
    have D:=F.o;refine XW (YN rfl _ _ _) rfl ?_;refine bQ ?_ ?_ (by first|exact aQ _ _|exact a7 _ _ _)
    . rw[YK,bB,aV];first|(simp;done)|(simp;omega)|(simp[XV];omega)
    rw[bB,aV];first|(simp[dC];done)|(simp[dC];omega)|(simp[dC,wrap64];omega)|(simp[dC,XV];omega)
 have G:(a==0)=false:=by simp[D]
 have F:=aB D;clear D;by_cases ht:1<=b/\b<=4
 . obtain⟨s,h⟩:=ht;go_in;go_wp2_with fail;all_goals
    go_quiet ((go_at_call 122;first|exact cO _ _ _ _ _ aA|exact cN _ _ _ _ _ aA|exact dX _ _ _ _ _))
    go_wp2_with fail
   all_goals
    have D:=F.o;refine XW (YN rfl _ _ _) rfl ?_;refine bQ ?_ ?_ (by first|exact aQ _ _|exact a7 _ _ _)
    . rw[YK,bB,aV];first|(simp;done)|(simp;omega)|(simp[XV];omega)
    rw[bB,aV];first|(simp[dC];done)|(simp[dC];omega)|(simp[dC,wrap64];omega)|(simp[dC,XV];omega)
 have U:(decide ((1:Int)<=b)&&decide (b<=4))=false:=by rw[ZF,YM,YM];omega
 go_in;go_wp2_with fail;all_goals
  go_quiet ((go_at_call 122;first|exact cO _ _ _ _ _ aA|exact cN _ _ _ _ _ aA|exact dX _ _ _ _ _))
  go_wp2_with fail
 all_goals
  have D:=F.o;refine XW (YN rfl _ _ _) rfl ?_;refine bQ ?_ ?_ (by first|exact aQ _ _|exact a7 _ _ _)
  . rw[YK,bB,aV];first|(simp;done)|(simp;omega)|(simp[XV];omega)
  rw[bB,aV];first|(simp[dC];done)|(simp[dC];omega)|(simp[dC,wrap64];omega)|(simp[dC,XV];omega)
theorem MJ(op a b:Int)(w:aAB)(D:¬ (1<=op/\op<=12/\op≠3)):
 Calls Tryz.prog 121 #[.agg #[O S op,O S a,O S b]] w (fC ⟨op,a,b⟩ w):=by
 have b1:(op==1)=false:=XY.2 aA;have b2:(op==2)=false:=XY.2 aA;have b4:(op==4)=false:=XY.2 aA;have b5:(op==5)=false:=XY.2 aA;have b6:(op==6)=false:=XY.2 aA;have b7:(op==7)=false:=XY.2 aA;have b8:(op==8)=false:=XY.2 aA;have b9:(op==9)=false:=XY.2 aA;have h:(op==10)=false:=XY.2 aA;have s:(op==11)=false:=XY.2 aA;have z:(op==12)=false:=XY.2 aA;have F:=aB D;clear D;by_cases G:a=0
 . have U:(a==0)=true:=by simp[G]
   clear G;go_in;go_wp2_with fail;all_goals
    refine XW (YN rfl _ _ _) rfl ?_;refine bQ ?_ ?_ (aQ _ _)
    . have D:=F.o;symm;rw[pR,aV];dsimp only;omega
    have D:=F.o;rw[bB,aV];dsimp only;omega
 have U:(a==0)=false:=by simp[G]
 clear G;go_in;go_wp2_with fail;all_goals
  refine XW (YN rfl _ _ _) rfl ?_;refine bQ ?_ ?_ (aQ _ _)
  . have D:=F.o;symm;rw[pR,aV];dsimp only;omega
  have D:=F.o;rw[bB,aV];dsimp only;omega
theorem zK(op a b:Int)(w:aAB):
 Calls Tryz.prog 121 #[.agg #[O S op,O S a,O S b]] w (fC ⟨op,a,b⟩ w):=by
 by_cases D:1<=op/\op<=12/\op≠3
 . have:op=1\/op=2\/op=4\/op=5\/op=6\/op=7\/op=8\/op=9\/op=10\/op=11\/op=12:=aA;rcases this with rfl|rfl|rfl|rfl|rfl|rfl|rfl|rfl|rfl|rfl|rfl
   . exact R8 a b w
   . exact R9 a b w
   . exact SA a b w
   . exact SC a b w
   . exact SD a b w
   . exact SE a b w
   . exact SF a b w
   . exact SG a b w
   . exact OT a b w
   . exact OU a b w
   exact OV a b w
 exact MJ op a b w D
theorem zL(op a b:Int)(w:aAB)(h:eW ⟨op,a,b⟩=true):
 Calls Tryz.prog 121 #[.agg #[O S op,O S a,O S b]] w fun e w'=>e=.returned (.tuple #[O S (dC op b),.bool true])/\ZY w w' :=
 (zK op a b w).mono fun _ _ ⟨⟨k,D,F⟩,G⟩=>⟨by rw[D,h,F h],G⟩
theorem OW(op a b:Int)(w:aAB)(h:eW ⟨op,a,b⟩=false):
 Calls Tryz.prog 121 #[.agg #[O S op,O S a,O S b]] w fun e w'=>(∃k:Int,e=.returned (.tuple #[O S k,.bool false]))/\ZY w w' :=
 (zK op a b w).mono fun _ _ ⟨⟨k,D,_⟩,F⟩=>⟨⟨k,by rw[D,h]⟩,F⟩
theorem GO(n:Nd)(F1:Fo)(pre:List Nd)(nd:Nd)(a:List Nd)(D:Fo):GB n.op n.b 0 (F1.app (.cons pre nd a D .nil))=GB n.op n.b 0 F1++[aR n.op n.b (bE F1)]:=by
 rw[J6,YH];rfl
theorem pF(F1:Fo)(pre:List Nd)(nd:Nd)(a:List Nd)(D:Fo):i7 (F1.app (.cons pre nd a D .nil))=i7 F1++[row (.cons [] nd a D .nil)]:=by
 rw[tD];rfl
theorem vP{op b k:Int}(h:op≠12):aR op b k=eZ op k:=by
 simp[aR,eZ,h]
theorem OH.setAt{g:Nat}{A:ZZ}{n c p j:Nat}{G:ZZ}{k1:Nat}{U:ZZ}{k2:Nat}{D F:List Value}{w:aAB}(h:OH g A n c p j G k1 U k2 D F w)(o:Nat):
 OH g A n c o j G k1 U k2 D F (w.setCell ⟨g+4,0,Y⟩ (O S (o:Int))) :=
 ⟨h.bt.far aD _,h.bo.far aD _,h.br.far aD _,h.ba.set_ 0 _,ownsRow_setCell_below (a:=⟨g+4,0,Y⟩) h.own1 aD _,ownsRow_setCell_below (a:=⟨g+4,0,Y⟩) h.own2 aD _,h.off⟩
theorem OH.alloc{g:Nat}{A:ZZ}{n c p j:Nat}{G:ZZ}{k1:Nat}{U:ZZ}{k2:Nat}{D F:List Value}{w:aAB}(h:OH g A n c p j G k1 U k2 D F w)(o:Obj):
 OH g A n c p j G k1 U k2 D F (w.alloc o) :=
 ⟨h.bt.alloc _,h.bo.alloc _,h.br.alloc _,h.ba.alloc _,h.own1.alloc _,h.own2.alloc _,h.off⟩
def r9(A:Nd)(k:Fo)(w:aAB)(e:Ending)(w':aAB):Prop:=ZY w w'/\∃F k1 G k2 D,e=.returned (.tuple #[X F (bE k) k1,X G (bE k) k2]) ∧
 w'.ownsRow (w.heap.size+5) 29 1 (X F (bE k) k1) (bE k) D/\w'.ownsRow (w.heap.size+5) 3 1 (X G (bE k) k2) (bE k) ((GB A.op A.b 0 k).map (Value.int .i64))/\bD (· < w.heap.size) w D (i7 k)
theorem AE{A:ZZ}{nn c:Nat}{l:List Nd}{w:aAB}{n:Nd}{ats:List Nd}{k:Fo}(h:aX w A nn c l)(hs:a6 l=0)(f3:pp [false] l=Z (.cons [] n ats k .nil,[])):
 Calls Tryz.prog 130 #[X A nn c] w (r9 n k w):=by
 obtain⟨h6,k9,l0,j9,k0,c9,k6,k3⟩:=pD hs f3;have h5:=h.len;have h7:0<nn:=by rw[<-h5,c9];simp
 have j5:bC l 0=n:=by rw[c9];rfl
 obtain⟨tb,toff,rfl,k8,g0,g1,g2⟩:=h.at_ h7;simp only[YU,YF]at g0 g1 g2;rw[j5]at g0 g1 g2;have H:=aB h;clear h;go_in;go_wp2_with fail;have j2 : -1000<=n.b/\n.b<=1000:=by
  have h1:=(bB n).1 h6;have h2:=aV.1 h1.1;omega
 refine (q7 n.op n.a n.b _ j2).mono ?_;rintro e w6 ⟨rfl,d8⟩;have b7:ZY w (((((w.alloc (I #[X (Z ⟨tb,toff,Y⟩) nn c] 29)).alloc (I #[O S n.op,O S n.a,O S n.b] 46)).alloc (I #[X Y 0 0] 47)).alloc (I #[X Y 0 0] 144)).alloc (I #[O S 1] 3)) :=
  ((((aQ w _).alloc aD _).alloc aH _).alloc aH _).alloc aH _
 have g8:=b7.alloc b7.size (I #[O S n.op,O S n.a,O S n.b] 46);rw[d8]at g8;have G:OH w.heap.size (Z ⟨tb,toff,Y⟩) nn c 1 0 Y 0 Y 0 [] [] w6:=by
  subst d8;refine⟨?_,?_,?_,?_,ZE _ _ _ _,ZE _ _ _ _,fun b h=>by simp[Value.ownBlock]at h⟩
  . exact (((((aT.new _ _ _).alloc _).alloc _).alloc _).alloc _).alloc _
  . exact (((aT.new' aD).alloc _).alloc _).alloc _
  . exact ((aT.new' aD).alloc _).alloc _
  exact (aT.new' aD).alloc _
 have c8:aT w6 (w.heap.size+1) 46 #[O S n.op,O S n.a,O S n.b]:=by
  subst d8;exact ((((aT.new' aD).alloc _).alloc _).alloc _).alloc _
 clear d8 b7;go_wp2_with fail;have f1:Wf (ds n) k:=(i9 f3).2.2.2.1;have g7:n.op≠2->ats=[]:=fun h2=>by
  have h3:=(i9 f3).2.2.1;unfold iU at h3;rw[XN h2]at h3;exact h3
 go_loopw [16] (fun i wr=>∃(F1 F2:Fo)(j p:Nat)(A1:ZZ)(k1:Nat)(A2:ZZ)(k2:Nat)(b8 d1:List Value),Hid (k=F1.app F2)/\Hid (bE F1=if n.op=12 then 2*j else j)/\(j:Int)<=dU n.op n.b/\i=O S (j:Int) ∧
  Hid (F2=.nil\/l.drop p=row F2)/\p<=l.length/\Hid (Wf (iO n j) F2)/\Hid (OH w.heap.size (Z ⟨tb,toff,Y⟩) nn c p (bE F1) A1 k1 A2 k2 b8 d1 wr) ∧
  Hid (aT wr (w.heap.size+1) 46 #[O S n.op,O S n.a,O S n.b])/\Hid (ZY w wr)/\Hid (bD (· < w.heap.size) w b8 (i7 F1))/\Hid (d1=(GB n.op n.b 0 F1).map (Value.int .i64))) (fun i _=>(dU n.op n.b).toNat-(intOf i).toNat)
 case atStart =>
  refine⟨.nil,k,0,1,Y,0,Y,0,[],[],aB rfl,aB (by simp[bE]),?_,by go_num,aB ?_,by omega,aB (by rw[tB];exact f1),aB G,aB c8,aB g8,aB trivial,aB rfl⟩
  . have h1:=(bB n).1 h6;have h2:=aV.1 h1.1;simp only[dU]
    repeat' split
    all_goals omega
  by_cases h2:n.op=2
  . left;have h3:ds n=[]:=by simp[ds,dU,h2]
    rw[h3]at f1;cases k with
    | nil=>rfl
    | cons _ _ _ _ _=>exact f1.elim
  right;rw[c9,g7 h2];rfl
 case round =>
  obtain⟨F1,F2,j,p,A1,k1,A2,k2,b8,d1,hk,d5,k5,rfl,a1,hp,d0,G,c8,d4,b2,b1⟩:=hrel;have zn:=(c8.o).cell;have z2:wr.cell? ⟨w.heap.size+1+1,0,Y⟩=Z (X A1 (bE F1) k1):=G.o.bo.cell 0;have z3:wr.cell? ⟨w.heap.size+1+1+1,0,Y⟩=Z (X A2 (bE F1) k2):=G.o.br.cell 0;have k4:(j:Int)<=1002:=by
   have h1:dU n.op n.b<=1002:=by
    simp only[dU]
    repeat' split
    all_goals omega
   omega
  by_cases j4:(j:Int)<dU n.op n.b;rotate_left
  . have d6:Hid (k=F1):=by
     have U:=d0.o;rw[wX n aA]at U
     match F2,U,hk with
     | .nil,_,hk=>exact aB (hk.o.trans (iK F1))
    go_wp2_with fail;go_quiet (fail)
    go_wp2_with fail;go_ret2;refine⟨aU d4.o _,A1,k1,A2,k2,b8,by rw[d6.o];rfl,?_,?_,?_⟩
    . rw[d6.o];exact G.o.own1
    . rw[d6.o,<-b1.o];exact G.o.own2
    rw[d6.o];exact b2.o
  by_cases b5:n.op=12
  . have j1:(n.op==12)=true:=beq_iff_eq.2 b5;have F:=aB b5;have z4:wr.cell? ⟨w.heap.size+1+1+1+1,0,Y⟩=Z (O S (p:Int)):=G.o.ba.cell 0;have j7:wr.frozen? ⟨w.heap.size+1+1+1+1,0,Y⟩=false:=G.o.ba.frozen 0;clear b5;have h4:dU n.op n.b=n.b:=by simp[dU,F.o]
    have U:=d0.o;rw[wY F.o aA]at U
    match F2,U,hk,a1 with
    | .cons pre nd a ks F3,hw3,hk,a1 =>
    obtain⟨f,rfl,_⟩:=hw3.1
    match F3,hw3,hk,a1 with
    | .cons pre2 nd2 a2 ks2 F4,hw3,hk,a1 =>
    have d7:=hw3.2.2.2.2;have f2:pre2=[]:=d7.1;subst f2;have c7:=a1.o.resolve_left aD;obtain⟨q1,b0,c5,a5,f4,b3⟩:=wB hw3 c7 hp;obtain⟨q2,f0,g9,e3,j6,f6⟩:=wB d7 c5 f4;simp only[YA,ZD,YH,YF]at b0 a5 b3 f0 e3 f6;have e7:=aB b0;have e8:=aB b3;have i6:=aB f0;have j0:=aB f6;have i5:=aB g9;have e9:=aB d7.2.2.2.2;have i8:=aB h4;have d3:Hid (∀w1,ZY w w1->bF (· < w.heap.size) w1 (Z ⟨tb,toff,Y⟩) nn c l):=aB fun w1 hb=>H.o.keep fun b c2=>⟨c2,fun o=>aP (hb.block b c2) o⟩;have a7:=G.o.setAt (p+1);have a9:ZY w (wr.setCell ⟨w.heap.size+4,0,Y⟩ (O S ((p+1:Nat):Int))):=d4.o.setCell aD _;have a0:Hid (bE F1=2*j):=aB (by have:=d5.o;rwa [XP F.o]at this);have j3:bE F1<=2004:=by have:=a0.o;omega
    have a3:aT (wr.setCell ⟨w.heap.size+4,0,Y⟩ (O S ((p+1:Nat):Int))) (w.heap.size+1) 46 #[O S n.op,O S n.a,O S n.b]:=c8.o.far aD _;have D:=wI a7 (d3.o _ a9) e7.o a5 aA aA 0;obtain⟨a8,e5,b9⟩:=aAF D a9 a3;clear h4 U hw3 d7 c7 b0 c5 b3 f0 g9 f6 a7 a9 D d0 d5 a3;go_wp2_with fail;have c4:((p:Int)+1)=((p+1:Nat):Int):=aA;rw[c4];refine (a8.o).mono ?_;rintro e w3 ⟨rfl,c3,f5,c6,f7,h8,f9,i0,A',z,a4⟩;have s:aT w3 (w.heap.size+1) 46 #[O S n.op,O S n.a,O S n.b]:=c6.trans b9.o;have b6:=e5.o.trans c3;have b4:=wI z (d3.o _ b6) i6.o e3 aA aA n.b;have d2:=aB b4;have j8:=s.cell;obtain⟨c0,e6,d9,c1⟩:=aAE s b6 z a4;clear b4 z c6 c3 b6 s z2 z3 z4 j7 zn f5 c4 a4;go_wp2_with fail;refine (d2.o).mono ?_;rintro e w5 ⟨rfl,b7,k7,h0,f8,h9,g3,i1,i2,e4,e2⟩;have e1:=h0.trans c0.o;have e0:=e6.o.trans b7;obtain⟨g4,i3,g6,g5⟩:=aAE e1 e0 e4 e2;clear e1 e0 e4 e2 h0 b7 j8;go_wp2_with fail;go_roundw
    case rel =>
     refine⟨(F1.app (.cons [f] nd a ks .nil)).app (.cons [] nd2 a2 ks2 .nil),F4,j+1,q2,f8,h9,g3,i1,(b8++[X A' (q1-(p+1)) (c-(p+1))])++[X i2 (q2-q1) (c-q1)],(d1++[O S 0])++[O S n.b],aB ?_,aB ?_,by omega,by go_num,aB (.inr i5.o),j6,e9,?_,g4,i3,aB ?_,aB ?_⟩;rotate_left 2
     . have e:bE ((F1.app (.cons [f] nd a ks .nil)).app (.cons [] nd2 a2 ks2 .nil))=bE F1+1+1:=by simp[bN,bE]
       rw[e];exact g6
     . rw[pF,pF];refine bD.add ?_ (bD.add ?_ b2.o)
       . rw[<-j0.o];exact g5.o _ _ H.o
       rw[<-e8.o];exact c1.o _ _ H.o
     . rw[GO,GO,b1.o];have e:bE (F1.app (.cons [f] nd a ks .nil))=2*j+1:=by have:=a0.o;simp[bN,bE,this]
       rw[e,a0.o];simp[aR,F.o]
     . rw[hk.o,cV,cV];rfl
     rw[XP F.o];have:=a0.o;simp[bN,bE];omega
    case measure =>
     have:=i8.o;simp[intOf];omega
  have j1:(n.op==12)=false:=XY.2 b5;have F:=aB b5;clear b5;have U:=d0.o;rw[wZ F.o j4]at U
  match F2,U,hk,a1 with
  | .cons pre nd a ks F3,hw3,hk,a1 =>
  have f2:pre=[]:=hw3.1;subst f2;have c7:=a1.o.resolve_left aD;obtain⟨q1,b0,c5,a5,f4,b3⟩:=wB hw3 c7 hp;simp only[ZD,YF]at b0 a5 b3;have e7:=aB b0;have e8:=aB b3;have i4:=aB c5;have e9:=aB hw3.2.2.2.2;have d3:Hid (∀w1,ZY w w1->bF (· < w.heap.size) w1 (Z ⟨tb,toff,Y⟩) nn c l):=aB fun w1 hb=>H.o.keep fun b c2=>⟨c2,fun o=>aP (hb.block b c2) o⟩;have a7:=G.o.alloc (I #[O S n.op,O S n.a,O S n.b] 46);have a9:ZY w (wr.alloc (I #[O S n.op,O S n.a,O S n.b] 46)):=d4.o.alloc d4.o.size _;have a0:Hid (bE F1=j):=aB (by have:=d5.o;rwa [XN F.o]at this);have j3:bE F1<=2004:=by have:=a0.o;omega
  have a3:aT (wr.alloc (I #[O S n.op,O S n.a,O S n.b] 46)) (w.heap.size+1) 46 #[O S n.op,O S n.a,O S n.b]:=c8.o.alloc _;have D:=wI a7 (d3.o _ a9) e7.o a5 aA aA (eZ n.op (j:Int));have a8:=aB D;have e5:=aB a9;have b9:=aB a3;clear U hw3 c7 b0 c5 b3 a7 a9 D d0 d5 a3;go_wp2_with (go_at_call 143;refine (tP _ _ _ _ _).mono ?_;rintro e w3 ⟨rfl,rfl⟩)
  refine (a8.o).mono ?_;rintro e w3 ⟨rfl,c3,f5,c6,f7,h8,f9,i0,A',z,a4⟩;have s:aT w3 (w.heap.size+1) 46 #[O S n.op,O S n.a,O S n.b]:=c6.trans b9.o;have b6:=e5.o.trans c3;obtain⟨c0,e6,d9,c1⟩:=aAE s b6 z a4;clear z c6 c3 b6 s z2 z3 zn f5 a4;go_wp2_with fail;go_roundw
  case rel =>
   refine⟨F1.app (.cons [] nd a ks .nil),F3,j+1,q1,f7,h8,f9,i0,b8++[X A' (q1-p) (c-p)],d1++[O S (eZ n.op (j:Int))],aB ?_,aB ?_,by omega,by go_num,aB (.inr i4.o),f4,e9,?_,c0,e6,aB ?_,aB ?_⟩;rotate_left 2
   . have e:bE (F1.app (.cons [] nd a ks .nil))=bE F1+1:=by simp[bN,bE]
     rw[e];exact d9
   . rw[pF];refine bD.add ?_ b2.o;rw[<-e8.o];exact c1.o _ _ H.o
   . rw[GO,b1.o,a0.o,vP F.o];simp
   . rw[hk.o,cV];rfl
   rw[XN F.o];have:=a0.o;simp[bN,bE];omega
  case measure=>simp[intOf];omega
theorem S8{w:aAB}{base g n c:Nat}{e:TypeId}{U:List Value}(h:w.ownsRow base e 1 (X (Z ⟨g,0,Y⟩) n c) n U)(i:Nat)(u:Value):(w.setCell ⟨g,i,Y⟩ u).ownsRow base e 1 (X (Z ⟨g,0,Y⟩) n c) n (U.set i u):=by
 obtain⟨hl,hc⟩:=h;refine⟨by simpa using hl,.inr ?_⟩;rcases hc with⟨G,_⟩|⟨g',cap,D,hv,hg,hh,G,s,z,h4⟩
 . cases G
 injection hv with F e2 o;injection F with F;injection F with F;subst F o;refine⟨g,c,D.setIfInBounds i u,rfl,hg,?_,G,s,by simpa using z,?_⟩
 . have hb:aT w g e D:=hh;exact hb.set_ i u
 rw[Array.toList_setIfInBounds,List.take_set,h4]
end Go.Proofs.YtjoddliplahgkaaGreat
